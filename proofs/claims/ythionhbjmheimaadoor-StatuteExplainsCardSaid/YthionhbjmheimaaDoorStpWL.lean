/- pensionmade.Value; the laws' steps and bindings. -/
import Derived.Test.YthionhbjmheimaaDoorLLawBo
import Derived.Test.YthionhbjmheimaaDoorLK
set_option linter.all false
set_option maxHeartbeats 16000000
set_option maxRecDepth 1000000
namespace Go.Proofs.YthionhbjmheimaaDoor
open Go.RowKit
theorem tdiv_i64{n k:Int}(hn:I64 n)(hk:2≤k):-9223372036854775808≤n.tdiv k∧n.tdiv k≤9223372036854775807:=by
 obtain⟨h1,h2⟩:=hn
 by_cases h:0≤n
 ·rw [Int.tdiv_eq_ediv_of_nonneg h]
  have:=Int.ediv_le_self k h
  have:=Int.ediv_nonneg h (show 0≤k by omega)
  omega
 ·have e:n.tdiv k= -((-n) / k):=by
   rw [←Int.tdiv_eq_ediv_of_nonneg (show 0≤-n by omega),Int.neg_tdiv,Int.neg_neg]
  have h3:(-n) / k*k≤-n:=Int.ediv_mul_le _ (by omega)
  have h4:0≤(-n) / k:=Int.ediv_nonneg (by omega) (by omega)
  have h5:(-n) / k*2≤(-n) / k*k:=Int.mul_le_mul_of_nonneg_left hk h4
  omega
def valA(n dim:Int):Value:=.agg #[.int .i64 dim,.bool (valP n dim).yes,.int .i64 (valP n dim).n,.int .i64 (valP n dim).d]
theorem value_any(n dim:Int)(w:World)(hn:I64 n):Calls Tryd.prog 8 #[.int .i64 n,.int .i64 dim] w fun e w'=>e= .returned (valA n dim)∧w.Grows w':=by
 obtain⟨hn1,hn2⟩:=hn
 by_cases hd:dim=1
 ·subst hd
  by_cases hm:n.tmod 2=0
  ·have HV:Hid (valA n 1= .agg #[.int .i64 1,.bool true,.int .i64 0,.int .i64 0]):=Lib.hid (by unfold valA valP;simp [hm])
   rw [HV.out]
   have hb:(n.tmod 2==0)=true:=by simpa using hm
   go_enter Tryd.func8,Tryd.ntmps8
   exact lz13
  ·have HV:Hid (valA n 1= .agg #[.int .i64 1,.bool false,.int .i64 0,.int .i64 0]):=Lib.hid (by unfold valA valP;simp [hm])
   rw [HV.out]
   have hb:(n.tmod 2==0)=false:=by simpa using hm
   go_enter Tryd.func8,Tryd.ntmps8
   exact lz13
 ·have hb:(dim==1)=false:=by simpa using hd
  have HV:Hid (valA n dim= .agg #[.int .i64 dim,.bool false,.int .i64 (mkN (n.tmod 100000) (1+pick (n.tdiv 7) 12)),.int .i64 (mkD (n.tmod 100000) (1+pick (n.tdiv 7) 12))]):=Lib.hid (by unfold valA valP;simp [hd])
  rw [HV.out]
  have hp:=pick_bd (n.tdiv 7) 12 (by omega)
  have ht:=tmodH_bd n
  have h7:=tdiv_i64 (n:=n) ⟨hn1,hn2⟩ (show(2:Int)≤7 by omega)
  have hw:IntKind.i64.wrap (n.tdiv 7)=n.tdiv 7:=IntWalk.i64_in _ (by omega)
  clear h7
  clear hd
  go_enter Tryd.func8,Tryd.ntmps8
  go_wp2_with (first
   |(go_at_call 6;refine(Pick_any _ _ _ (by omega)).mono ?_;rintro e' w' ⟨rfl,rfl⟩)
   |(go_at_call 15;refine(MakeFraction_any _ _ _ (by omega) (by omega) (by omega) (by omega)).mono ?_;rintro e' w' ⟨rfl,bs,d,rfl⟩))
  exact lz6
def stpL(l:List (ByteArray × Val)):List Value:=l.flatMap fun p=>[.string p.1,.int .i64 p.2.dim,.bool p.2.yes,.int .i64 p.2.n,.int .i64 p.2.d]
theorem stpL_len(l:List (ByteArray × Val)):(stpL l).length=l.length*5:=by
 induction l with
 |nil=>rfl
 |cons p r ih=>unfold stpL at *;rw [List.flatMap_cons,List.length_append,ih];simp;omega
theorem stpL_get(l:List (ByteArray × Val)):∀i,i<l.length→(stpL l)[i*5]? =some (.string (stN l i))∧(stpL l)[i*5+1]? =some (.int .i64 (stV l i).dim)∧(stpL l)[i*5+2]? =some (.bool (stV l i).yes)∧(stpL l)[i*5+3]? =some (.int .i64 (stV l i).n)∧(stpL l)[i*5+4]? =some (.int .i64 (stV l i).d):=by
 induction l with
 |nil=>intro i hi;simp at hi
 |cons p r ih=>
  intro i hi
  cases i with
  |zero=>exact⟨rfl,rfl,rfl,rfl,rfl⟩
  |succ i=>
   have h:=ih i (by simpa using hi)
   have e:∀j,(stpL (p::r))[(i+1)*5+j]? =(stpL r)[i*5+j]?:=fun j=>by
    rw [show(i+1)*5+j=i*5+j+5 by omega]
    rfl
   have e0:=e 0
   rw [Nat.add_zero,Nat.add_zero]at e0
   rw [e0,e 1,e 2,e 3,e 4]
   exact h
theorem stpL_snoc(l:List (ByteArray × Val))(p:ByteArray × Val):stpL (l++[p])=stpL l++[.string p.1,.int .i64 p.2.dim,.bool p.2.yes,.int .i64 p.2.n,.int .i64 p.2.d]:=by
 unfold stpL;simp
theorem StpAt.of_own{w:World}{base:Nat}{v:Value}{l:List (ByteArray × Val)}(h:w.ownsRow base 54 5 v l.length (stpL l))(hl:l.length≤1000):StpAt w v l:=by
 obtain⟨-,⟨rfl,h0⟩|⟨g,cap,cur,rfl,hb,hg,h2,h3,h4,h5⟩⟩:=id h
 ·exact⟨by omega,none,0,by rw [h0],.inl h0⟩
 ·refine⟨by omega,_,cap,rfl,.inr ⟨g,0,rfl,(Array.getElem?_eq_some_iff.1 hg).1,fun i hi=>?_⟩⟩
  obtain⟨g0,g1,g2,g3,g4⟩:=stpL_get l i hi
  have hL:=stpL_len l
  rw [Nat.zero_add]
  exact⟨(h.cellAt (i*5) (by omega)).trans g0,(h.cellAt (i*5+1) (by omega)).trans g1,(h.cellAt (i*5+2) (by omega)).trans g2,(h.cellAt (i*5+3) (by omega)).trans g3,(h.cellAt (i*5+4) (by omega)).trans g4⟩
theorem infoS:(Tryd.prog.info? 54).map (fun i=>(i.zero,i.size,i.bytes))=some (some (.agg #[.string ⟨#[]⟩,.int .i64 0,.bool false,.int .i64 0,.int .i64 0]),5,48):=by kernel_rfl
end Go.Proofs.YthionhbjmheimaaDoor
