import Derived.Test.YthionhbjmheimaaDoorLVv2
import Derived.Test.YthionhbjmheimaaDoorLK
import Derived.RangeFuncNested
import Derived.RangeFuncBound
import Derived.RangeFuncCalls
import Derived.RangeFuncLeaves
import Derived.RangeFuncBox
import Derived.Shelf.Abstract
import Derived.Shelf.RegionOpen
import Derived.WalkKit
import Derived.OwnWalkIn
import Derived.TacticsInMore
import Derived.LoopNIn
import Derived.LoopIn
import Derived.Maps.AppendAt
set_option linter.all false
set_option maxHeartbeats 16000000
set_option maxRecDepth 1000000
namespace Go.Proofs.YthionhbjmheimaaDoor
open Go.RowKit Go.Shelf Go.Sort Go.Lib
attribute [local go_sem] Oper.semAt_some
def YrLies(n₀:Nat)(W:World)(v:Value)(l:List Int):Prop:=
 l.length≤1000∧∃a cap,v= .slice a l.length cap∧(l.length=0∨∃b off,a=some ⟨b,off,none⟩∧b<n₀∧∀i,i<l.length→W.cell? ⟨b,off+i,none⟩=some (.int .i64 (l.getD i 0)))
theorem YrLies.below{n₀:Nat}{W W':World}{v:Value}{l:List Int}(h:YrLies n₀ W v l)(hb:Below n₀ W W'):YrLies n₀ W' v l:=by
 obtain⟨h0,a,cap,hv,h1⟩:=h
 refine⟨h0,a,cap,hv,h1.imp id ?_⟩
 rintro⟨b,off,ha,hlt,hc⟩
 exact⟨b,off,ha,hlt,fun i hi=>(hb.cell (p:=⟨b,off+i,none⟩) hlt).trans (hc i hi)⟩
theorem YrAt.lies{w:World}{v:Value}{l:List Int}(h:YrAt w v l):YrLies w.heap.size w v l:=h
theorem infoY:(Tryd.prog.info? 3).map (fun i=>(i.zero,i.size,i.bytes))=some (some (.int .i64 0),1,8):=by kernel_rfl
end Go.Proofs.YthionhbjmheimaaDoor
namespace Go.Proofs.YthionhbjmheimaaDoor
open Go.RowKit Go.Sort Go.Lib
theorem YrAt.of_row{w:World}{base:Nat}{v:Value}{l:List Int}(h:w.ownsRow base 3 1 v l.length (l.map (Value.int .i64)))(hl:l.length≤1000):YrAt w v l:=by
 obtain⟨-,⟨rfl,h0⟩|⟨g,cap,cur,rfl,hb,hg,h2,h3,h4,h5⟩⟩:=id h
 ·exact⟨by omega,none,0,by rw [h0],.inl h0⟩
 ·refine⟨by omega,_,cap,rfl,.inr ⟨g,0,rfl,(Array.getElem?_eq_some_iff.1 hg).1,fun i hi=>?_⟩⟩
  rw [Nat.zero_add,h.cellAt i (by omega),List.getElem?_map,List.getElem?_eq_getElem hi,List.getD_eq_getElem?_getD,List.getElem?_eq_getElem hi]
  rfl
end Go.Proofs.YthionhbjmheimaaDoor
namespace Go.Proofs.YthionhbjmheimaaDoor
open Go.RowKit

theorem bestTo_lt{y:Nat→Int}{year:Int}{n:Nat}(h:¬bestTo y year n<0):(bestTo y year n).toNat<n:=by
 have:=bestTo_bd y year n
 omega

theorem facN_bd{y z:Nat→Int}{year:Int}{n:Nat}(h:∀i,i<n→-9223372036854775808≤z i∧z i≤9223372036854775807):-9223372036854775808≤facN y z year n∧facN y z year n≤9223372036854775807:=by
 unfold facN
 split
 ·omega
 ·rename_i hb
  exact h _ (bestTo_lt hb)

theorem idx_nats{amount tn td fn fd:Int}(h:idxOk amount tn td fn fd=true):∃A T TD FN FD:Nat,amount=A∧tn=T∧td=TD∧fn=FN∧fd=FD∧A≤1000000000000∧0<T∧T≤10000000000000∧1≤TD∧TD≤10000∧0<FN∧FN≤10000000000000∧1≤FD∧FD≤10000:=by
 simp only [idxOk,Bool.and_eq_true,decide_eq_true_eq]at h
 obtain⟨⟨⟨h1,h2⟩,h3⟩,h4⟩:=h
 have h5:=usableB_bd h3
 have h6:=usableB_bd h4
 exact⟨amount.toNat,tn.toNat,td.toNat,fn.toNat,fd.toNat,by omega,by omega,by omega,by omega,by omega,by omega,by omega,by omega,by omega,by omega,by omega,by omega,by omega,by omega⟩

theorem idxQ_nat(A T TD FN FD:Nat):idxQ A T TD FN FD=((A*(T*FD) / (TD*FN):Nat):Int):=by
 unfold idxQ
 rw [←Int.natCast_mul,←Int.natCast_mul,←Int.natCast_mul,Int.natCast_ediv]

theorem idxV_eq{amount tn td fn fd Y h:Int}(hok:idxOk amount tn td fn fd=true)(hbig:Y≤h→1000000000000<idxQ amount tn td fn fd) :
 idxV Y h (idxQ amount tn td fn fd)= .tuple #[.int .i64 (idxN amount tn td fn fd),.int .i64 (idxE amount tn td fn fd)]:=by
 unfold idxV
 by_cases c:1000000000000<idxQ amount tn td fn fd
 ·rw [if_pos (.inr c),(idx_big hok c).1,(idx_big hok c).2]
 ·rw [if_neg (by intro hc;rcases hc with hc|hc;exact c (hbig hc);exact c hc),(idx_yes hok c).1,(idx_yes hok c).2]

theorem wrapN(X:Nat)(h:X<18446744073709551616):IntKind.u64.wrap (X:Int)=X:=IntWalk.u64_in _ (by omega)

theorem idx_not{amount:Int}{ut uf:Bool}(h:¬(decide (0≤amount∧amount≤1000000000000)&&ut&&uf)=true):amount<0∨1000000000000<amount∨ut=false∨uf=false:=by
 cases ut<;>cases uf<;>simp at h ⊢
 by_cases c:0≤amount
 ·have:=h c;omega
 ·omega

theorem Indexed2_any(c0 c1 c2 c3 c4 c5 c6 c7:Value)(n:Nat)(y nu de:Nat→Int)(amount year ref:Int)(w:World)(h:SeriesAt w c4 n y nu de)
 (hnu:∀i,i<n→-9223372036854775808≤nu i∧nu i≤9223372036854775807) (hde:∀i,i<n→-9223372036854775808≤de i∧de i≤9223372036854775807) :
 Calls Tryd.prog 21 #[.agg #[c0,c1,c2,c3,c4,c5,c6,c7],.int .i64 amount,.int .i64 year,.int .i64 ref] w fun e w'=>
  e= .returned (.tuple #[.int .i64 (idxN amount (facN y nu ref n) (facN y de ref n) (facN y nu year n) (facN y de year n)),.int .i64 (idxE amount (facN y nu ref n) (facN y de ref n) (facN y nu year n) (facN y de year n))])∧w.Grows w':=by
 have HT:Hid (∀w':World,w.Grows w'→Calls Tryd.prog 39 #[.agg #[c0,c1,c2,c3,c4,c5,c6,c7],.int .i64 ref] w' fun e w''=>e= .returned (.agg #[.int .i64 (facN y nu ref n),.int .i64 (facN y de ref n)])∧w'.Grows w''):=by
  rintro w' ⟨bs,d,rfl⟩
  exact Factor2_any c0 c1 c2 c3 c4 c5 c6 c7 n y nu de ref _ (h.grow bs d)
 have HF:Hid (∀w':World,w.Grows w'→Calls Tryd.prog 39 #[.agg #[c0,c1,c2,c3,c4,c5,c6,c7],.int .i64 year] w' fun e w''=>e= .returned (.agg #[.int .i64 (facN y nu year n),.int .i64 (facN y de year n)])∧w'.Grows w''):=by
  rintro w' ⟨bs,d,rfl⟩
  exact Factor2_any c0 c1 c2 c3 c4 c5 c6 c7 n y nu de year _ (h.grow bs d)
 have r1:=facN_bd (y:=y) (year:=ref) hnu
 have r2:=facN_bd (y:=y) (year:=ref) hde
 have r3:=facN_bd (y:=y) (year:=year) hnu
 have r4:=facN_bd (y:=y) (year:=year) hde
 generalize facN y nu ref n=tn at *
 generalize facN y de ref n=td at *
 generalize facN y nu year n=fn at *
 generalize facN y de year n=fd at *
 have HU:Hid (∀w':World,Calls Tryd.prog 40 #[.agg #[.int .i64 tn,.int .i64 td]] w' fun e w''=>e= .returned (.bool (usableB tn td))∧w'.Grows w''):=fun w'=>usable2_any tn td w' r1.1 r1.2 r2.1 r2.2
 have HV:Hid (∀w':World,Calls Tryd.prog 40 #[.agg #[.int .i64 fn,.int .i64 fd]] w' fun e w''=>e= .returned (.bool (usableB fn fd))∧w'.Grows w''):=fun w'=>usable2_any fn fd w' r3.1 r3.2 r4.1 r4.2
 by_cases hok:idxOk amount tn td fn fd=true
 ·have hok':=hok
  simp only [idxOk,Bool.and_eq_true]at hok'
  obtain⟨A,T,TD,FN,FD,rfl,rfl,rfl,rfl,rfl,hA,hT,hT2,hTD,hTD2,hFN,hFN2,hFD,hFD2⟩:=idx_nats hok
  have hX:T*FD≤10000000000000*10000:=Nat.mul_le_mul hT2 hFD2
  have hY:TD*FN≤10000*10000000000000:=Nat.mul_le_mul hTD2 hFN2
  have hY0:0<TD*FN:=Nat.mul_pos (by omega) hFN
  have hP:A*(T*FD)≤1000000000000*100000000000000000:=Nat.mul_le_mul hA hX
  have key:=Indexed2_yes c0 c1 c2 c3 c4 c5 c6 c7 A year ref T TD FN FD (T*FD:Nat) (TD*FN:Nat) (hiW (A*(T*FD))) (loW (A*(T*FD))) (idxQ A T TD FN FD) (remI (A*(T*FD)) (TD*FN)) _ _ w hok'.1.2 hok'.2
   (by omega) (by omega) (by omega) (by omega) (by omega) (by omega) (by omega) (by omega) (by omega) (by omega)
   (by rw [←Int.natCast_mul];exact wrapN _ (by omega)) (by rw [←Int.natCast_mul];exact wrapN _ (by omega)) (by rw [idxQ_nat];exact Int.natCast_nonneg _) HT HF HU HV
   (fun w'=>by
    have:=Tryd.bits_Mul64 A (T*FD) (by omega) (by omega) w'
    exact this.mono fun e w'' ⟨he,hw⟩=>⟨he,hw.symm⟩)
   (fun hlt w'=>by
    unfold hiW at hlt
    have:=Div64_any (A*(T*FD) / 18446744073709551616) (A*(T*FD) % 18446744073709551616) (TD*FN) w' (by omega) (Nat.mod_lt _ (by omega)) (by omega)
    rw [Nat.div_add_mod',←idxQ_nat]at this
    exact this)
  rw [idxV_eq hok (fun hle=>by
   rw [idxQ_nat]
   unfold hiW at hle
   have h2:18446744073709551616≤A*(T*FD) / (TD*FN):=by
    rw [Nat.le_div_iff_mul_le hY0]
    have h3:=Nat.div_mul_le_self (A*(T*FD)) 18446744073709551616
    have h4:18446744073709551616*(TD*FN)≤18446744073709551616*(A*(T*FD) / 18446744073709551616):=Nat.mul_le_mul_left _ (by omega)
    omega
   generalize A*(T*FD) / (TD*FN)=z at *
   omega)]at key
  exact key
 ·have hno:idxOk amount tn td fn fd=false:=by simpa using hok
  rw [(idxn_no hno).1,(idxn_no hno).2]
  exact Indexed2_no c0 c1 c2 c3 c4 c5 c6 c7 amount year ref tn td fn fd _ _ w (idx_not hok) HT HF HU HV


def awY(i:Nat):Int:=if i=0 then 1960 else 1990
def awN(i:Nat):Int:=if i=0 then 1 else 5
def awD(i:Nat):Int:=if i=0 then 1 else 2
theorem aw_fac:facN awY awN 1995 2=5∧facN awY awD 1995 2=2∧facN awY awN 1970 2=1∧facN awY awD 1970 2=1:=by decide+kernel
theorem aw_idx:idxN 100 5 2 1 1=250∧idxE 100 5 2 1 1=0:=by decide+kernel
theorem awake_any(w:World):Calls Tryd.prog 11 #[] w fun e w'=>e= .returned (.bool true)∧w.Grows w':=by
 have HI:Hid (∀(w':World) (b:Nat),b<w'.heap.size→(∀i u,#[Value.int .i64 1960,.int .i64 1,.int .i64 1,.int .i64 1990,.int .i64 5,.int .i64 2][i]? =some u→w'.cell? ⟨b,i,none⟩=some u)→
  Calls Tryd.prog 21 #[.agg #[.int .i64 0,.int .i64 0,.int .i64 0,.slice none 0 0,.slice (some ⟨b,0,none⟩) 2 2,.slice none 0 0,.slice none 0 0,.slice none 0 0],.int .i64 100,.int .i64 1970,.int .i64 1995] w' fun e w''=>
   e= .returned (.tuple #[.int .i64 250,.int .i64 0])∧w'.Grows w''):=by
  refine Lib.hid fun w' b hb hc=>?_
  have:=Indexed2_any (.int .i64 0) (.int .i64 0) (.int .i64 0) (.slice none 0 0) (.slice (some ⟨b,0,none⟩) 2 2) (.slice none 0 0) (.slice none 0 0) (.slice none 0 0) 2 awY awN awD 100 1970 1995 w'
   ⟨by omega,_,_,rfl,.inr ⟨b,0,rfl,hb,fun i hi=>by
    obtain rfl|rfl:i=0∨i=1:=by omega
    ·exact⟨hc 0 _ rfl,hc 1 _ rfl,hc 2 _ rfl⟩
    ·exact⟨hc 3 _ rfl,hc 4 _ rfl,hc 5 _ rfl⟩⟩⟩ (fun i _=>by unfold awN;split<;>omega) (fun i _=>by unfold awD;split<;>omega)
  obtain⟨e1,e2,e3,e4⟩:=aw_fac
  rw [e1,e2,e3,e4,aw_idx.1,aw_idx.2]at this
  exact this
 go_enter Tryd.func11,Tryd.ntmps11
 go_wp2_with fail
 refine(HI.out _ w.heap.size (by simp;omega) ?_).mono ?_
 ·intro i u hu
  rcases i with _|_|_|_|_|_|i<;>simp at hu<;>subst hu<;>simp [go_sem]
 rintro e w' ⟨rfl,bs,d,rfl⟩
 exact lz13
end Go.Proofs.YthionhbjmheimaaDoor
namespace Go.Proofs.YthionhbjmheimaaDoor
open Go.RowKit Go.ChangeShapes Go.WideShapes Go.Deep
theorem array7{α:Type}{cs:Array α}(h:cs.size=7):∃c0 c1 c2 c3 c4 c5 c6,cs=#[c0,c1,c2,c3,c4,c5,c6]:=by
 obtain⟨l⟩:=cs
 match l,h with
 | [c0,c1,c2,c3,c4,c5,c6],_=>exact⟨c0,c1,c2,c3,c4,c5,c6,rfl⟩
theorem c7w:(Tryd.prog).cellsOf 27=7:=by kernel_rfl
theorem VwR.of_trod{H:Type}{enc:TypeId × Value→H}{w:World}{r:Reach}{b0:Nat}{v:Value}{d:DataW H}{p:List MemPlace}(hv:Value.okWide Tryd.prog w r b0 27 v)
 (h:DataW.Trod enc Tryd.prog w 0 (fun _=>true) true 27 v d p) (hf:fits Tryd.prog 27 d) :
 ∃(R:VwR) (vd vy:Value),v= .agg #[.int .i64 R.age,.int .i64 R.year,.int .i64 R.children,.int .i64 R.base,.int .i64 R.den,vd,vy]∧IntsAt w vd R.days∧IntsAt w vy R.years:=by
 have ht:=Tryd.underlying27
 obtain⟨cs,rfl,hsz⟩:=okWide_struct ht hv
 obtain⟨c0,c1,c2,c3',c4,c5,c6,rfl⟩:=array7 (hsz.trans c7w)
 obtain⟨fuel,h⟩:=h
 obtain⟨xs,n,_,hx,_,hlen,hF⟩:=DataW.trod_struct ht h
 simp only [Prod.mk.injEq]at hx
 obtain⟨rfl,-⟩:=hx
 have k0:=hF 0 _ rfl
 have k1:=hF 1 _ rfl
 have k2:=hF 2 _ rfl
 have k3:=hF 3 _ rfl
 have k4:=hF 4 _ rfl
 have k5:=hF 5 _ rfl
 have k6:=hF 6 _ rfl
 simp only [Value.cells,List.drop_zero,List.drop_succ_cons,List.take_succ_cons,List.take_zero]at k0 k1 k2 k3 k4 k5 k6
 match xs,hlen with
 | [y0,y1,y2,y3,y4,y5,y6],_=>
   obtain⟨n0,rfl,w0⟩:=int_of_trod k0
   obtain⟨n1,rfl,w1⟩:=int_of_trod k1
   obtain⟨n2,rfl,w2⟩:=int_of_trod k2
   obtain⟨n3,rfl,w3⟩:=int_of_trod k3
   obtain⟨n4,rfl,w4⟩:=int_of_trod k4
   obtain⟨z5,w5⟩:=IntsAt.of_trod Tryd.underlying22 Tryd.underlying3 c3 b3 k5 (fits_part ht hf (i:=5) rfl rfl)
   obtain⟨z6,w6⟩:=IntsAt.of_trod Tryd.underlying22 Tryd.underlying3 c3 b3 k6 (fits_part ht hf (i:=6) rfl rfl)
   exact⟨⟨n0,n1,n2,n3,n4,z5,z6⟩,_,_,rfl,w5,w6⟩
theorem ints_of{H:Type}{enc:TypeId × Value→H}{W:World}{v:Value}{d:DataW H}{p:List MemPlace}{r:Reach}{b0:Nat}(hv:Value.okWide Tryd.prog W r b0 22 v)(h:DataW.Trod enc Tryd.prog W 0 (fun _=>true) true 22 v d p)(hf:fits Tryd.prog 22 d):∃zs,IntsAt W v zs:=by
 obtain⟨fuel,h⟩:=h
 obtain⟨a,len,cap,rfl⟩:=okWide_slice Tryd.underlying22 hv
 exact IntsAt.of_trod (v:=.slice a len cap) Tryd.underlying22 Tryd.underlying3 c3 b3 (by simpa [Value.cells]using h) hf
end Go.Proofs.YthionhbjmheimaaDoor
