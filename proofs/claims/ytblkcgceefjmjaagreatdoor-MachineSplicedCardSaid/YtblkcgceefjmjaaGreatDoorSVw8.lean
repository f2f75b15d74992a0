import Derived.Test.YtblkcgceefjmjaaGreatDoorSLayB
import Derived.Test.YtblkcgceefjmjaaGreatDoorSAw9R
import Derived.Test.YtblkcgceefjmjaaGreatDoorSEvC
import Derived.Test.YtblkcgceefjmjaaGreatDoorSK
import Derived.Laws.BytesArg
import Derived.Laws.Strings
set_option linter.all false
set_option maxHeartbeats 16000000
set_option maxRecDepth 1000000
namespace Go.Proofs.YtblkcgceefjmjaaGreatDoor
open Go.RowKit
def vwV(v:Vw)(y:Value):Value:=.agg #[.int .i64 v.age,.int .i64 v.year,.int .i64 v.children,.int .i64 v.insured,.int .i64 v.worked,.int .i64 v.voluntary,.int .i64 v.service,.int .i64 v.equated,.int .i64 v.raising,.int .i64 v.resident,.int .i64 v.bn,.int .i64 v.bd,y]
structure VwRng(v:Vw):Prop where
 base:I64 v.bn∧I64 v.bd
def Vw.ds(v:Vw):List Int:=[v.insured,v.worked,v.voluntary,v.service,v.equated,v.raising,v.resident]
def Vw.rngB(v:Vw):Bool:=decide (0≤v.age∧v.age≤199∧1900≤v.year∧v.year≤2099∧0≤v.children∧v.children≤99)
def Vw.baseB(v:Vw):Bool:=vfrac v.bn v.bd&&decide (0≤v.bn∧v.bn≤1000000000000*v.bd)
theorem Vw.ok_split(v:Vw):v.ok=(v.rngB&&(v.ds.all daysOk)&&v.baseB&&yearsOk v.years):=by
 unfold Vw.ok Vw.rngB Vw.baseB Vw.ds
 simp [Bool.and_assoc]
theorem ds_bad{v:Vw}{k:Nat}(hk:k<7)(hb:daysOk (v.ds.getD k 0)=false):v.ok=false:=by
 rw [Vw.ok_split]
 have:v.ds.all daysOk=false:=by
  rw [List.all_eq_false]
  refine⟨v.ds.getD k 0, ?_,by rw [hb];simp⟩
  rw [List.getD_eq_getElem?_getD,List.getElem?_eq_getElem (show k<v.ds.length from hk)]
  exact List.getElem_mem _
 rw [this];simp
theorem ds_good{v:Vw}(hg:∀k,k<7→daysOk (v.ds.getD k 0)=true):v.ds.all daysOk=true:=by
 rw [List.all_eq_true]
 intro x hx
 obtain⟨k,hk,rfl⟩:=List.mem_iff_getElem.1 hx
 have:=hg k hk
 rwa [List.getD_eq_getElem?_getD,List.getElem?_eq_getElem hk]at this
theorem rng_bad{v:Vw}(h:¬(0≤v.age∧v.age≤199∧1900≤v.year∧v.year≤2099∧0≤v.children∧v.children≤99)):v.ok=false:=by
 rw [Vw.ok_split]
 unfold Vw.rngB
 rw [decide_eq_false h];simp
theorem vv2_rng(v:Vw)(y:Value)(w:World)(hy:∃a n c,y= .slice a n c)(h:¬(0≤v.age∧v.age≤199∧1900≤v.year∧v.year≤2099∧0≤v.children∧v.children≤99)):(Calls Tryz.prog 99 #[vwV v y] w fun r w'=>r= .returned (.bool v.ok)∧w.Grows w'):=by
 have HF:=Lib.hid (rng_bad h)
 by_cases c1:v.age<0
 ·exact sz9
 by_cases c2:v.age > 199
 ·exact sz9
 by_cases c3:v.year<1900
 ·exact sz9
 by_cases c4:v.year > 2099
 ·exact sz9
 by_cases c5:v.children<0
 ·exact sz9
 have c6:v.children > 99:=by omega
 exact sz9
theorem idx7(x0 x1 x2 x3 x4 x5 x6:Int)(k:Nat)(hk:k<7)(w:World):(Instr.index 121 (.agg #[.int .i64 x0,.int .i64 x1,.int .i64 x2,.int .i64 x3,.int .i64 x4,.int .i64 x5,.int .i64 x6]) (.int .i64 (k:Int))).run Tryz.prog w= .ok (.int .i64 ([x0,x1,x2,x3,x4,x5,x6].getD k 0)) w:=by
 rcases(show k=0∨k=1∨k=2∨k=3∨k=4∨k=5∨k=6 by omega)with rfl|rfl|rfl|rfl|rfl|rfl|rfl<;>simp [Instr.index,go_sem]
theorem base_eq{n d:Int}(h:vfrac n d=true)(hn:0≤n):decide (n≤1000000000000*d)=(decide (n.tdiv d≤1000000000000)&&(decide (n.tdiv d<1000000000000) || decide (n.tmod d=0))):=by
 have hd:0<d:=by have:=vfrac_bd h;omega
 rw [Int.tdiv_eq_ediv_of_nonneg hn,Int.tmod_eq_emod_of_nonneg hn]
 have e:=Int.mul_ediv_add_emod n d
 have r0:=Int.emod_nonneg n (show d≠0 by omega)
 have r1:=Int.emod_lt_of_pos n hd
 generalize n / d=q at *
 generalize n % d=r at *
 by_cases c1:q<1000000000000
 ·have h1:d*q≤d*999999999999:=Int.mul_le_mul_of_nonneg_left (by omega) (by omega)
  rw [decide_eq_true c1,decide_eq_true (show q≤1000000000000 by omega),decide_eq_true (show n≤1000000000000*d by omega)];rfl
 ·rw [decide_eq_false c1,Bool.false_or]
  by_cases c2:q≤1000000000000
  ·obtain rfl:q=1000000000000:=by omega
   rw [decide_eq_true c2,Bool.true_and]
   by_cases c3:r=0
   ·rw [decide_eq_true c3,decide_eq_true (by omega)]
   ·rw [decide_eq_false c3,decide_eq_false (by omega)]
  ·have h1:d*1000000000001≤d*q:=Int.mul_le_mul_of_nonneg_left (by omega) (by omega)
   rw [decide_eq_false c2,Bool.false_and,decide_eq_false (by omega)]
theorem vv2_yrs(v:Vw)(y:Value)(w:World)(hy:YrAt w y v.years)(h:0≤v.age∧v.age≤199∧1900≤v.year∧v.year≤2099∧0≤v.children∧v.children≤99)(hyo:yearsOk v.years=false):(Calls Tryz.prog 99 #[vwV v y] w fun r w'=>r= .returned (.bool v.ok)∧w.Grows w'):=by
 have HF:Hid (v.ok=false):=Lib.hid (by rw [Vw.ok_split,hyo,Bool.and_false])
 have HY:=Lib.hid hy
 have HYR:=Lib.hid (fun w' (hg:w.Grows w')=>validYears_any v.years y w' (HY.out.grows hg))
 rw [hyo]at HYR
 obtain⟨-,a,c,rfl,-⟩:=hy
 obtain⟨h1,h2,h3,h4,h5,h6⟩:=h
 clear hyo
 unfold vwV
 go_enter Tryz.func99,Tryz.ntmps99
 go_wp2_with (go_at_call 176;refine(HYR.out _ (.of_below belB)).mono ?_;rintro e' w' ⟨rfl,bs,d,rfl⟩)
 go_returns
 exact⟨ret_bool HF.out.symm,.of_below belB⟩
theorem vv2_in(v:Vw)(y:Value)(w:World)(hr:VwRng v)(hy:YrAt w y v.years)(h:0≤v.age∧v.age≤199∧1900≤v.year∧v.year≤2099∧0≤v.children∧v.children≤99)(hyo:yearsOk v.years=true):(Calls Tryz.prog 99 #[vwV v y] w fun r w'=>r= .returned (.bool v.ok)∧w.Grows w'):=by
 have HY:=Lib.hid hy
 have HB:Hid (∀k,k<7→daysOk (v.ds.getD k 0)=false→v.ok=false):=Lib.hid (fun k hk hb=>ds_bad hk hb)
 have HG:Hid ((∀k,k<7→daysOk (v.ds.getD k 0)=true)→v.ok=v.baseB):=Lib.hid (fun hg=>by
  rw [Vw.ok_split,ds_good hg,hyo];unfold Vw.rngB;rw [decide_eq_true h];simp)
 have HYR:=Lib.hid (fun w' (hg:w.Grows w')=>validYears_any v.years y w' (HY.out.grows hg))
 rw [hyo]at HYR
 have HV:=Lib.hid (fun w=>Valid2_any v.bn v.bd w hr.base.1.1 hr.base.1.2 hr.base.2.1 hr.base.2.2)
 obtain⟨-,a,c,rfl,-⟩:=hy
 obtain⟨h1,h2,h3,h4,h5,h6⟩:=h
 have HI:=Lib.hid hr.base
 have HIX:=Lib.hid (idx7 v.insured v.worked v.voluntary v.service v.equated v.raising v.resident)
 clear hr hyo
 unfold vwV
 go_enter Tryz.func99,Tryz.ntmps99
 go_wp2_with ((first|(go_at_call 176;refine(HYR.out _ (.of_below (by(repeat' (first|(with_reducible exact Below.refl _ _)|(with_reducible assumption)|(with_reducible refine Below.grow ?_ ?_ _ _)|(with_reducible refine Below.alloc ?_ ?_ _)|(with_reducible refine Below.drewN ?_ _)|(with_reducible refine Below.drew ?_)|(with_reducible refine Below.setCell ?_ ?_ _)|go_size))))).mono ?_;rintro e' w' ⟨rfl,bs,d,rfl⟩)|(go_at_call 177;refine(HV.out _).mono ?_;rintro e' w' ⟨rfl,bs3,d3,rfl⟩)))
 obtain⟨W,hW⟩:∃W,(w.alloc (.cells #[.int .i64 v.age,.int .i64 v.year,.int .i64 v.children,.int .i64 v.insured,.int .i64 v.worked,.int .i64 v.voluntary,.int .i64 v.service,.int .i64 v.equated,.int .i64 v.raising,.int .i64 v.resident,.int .i64 v.bn,.int .i64 v.bd,.slice a v.years.length c] 38)).grow bs d=W:=⟨_,rfl⟩
 have hg:w.Grows W:=by rw [←hW];exact .of_below belB
 have b0:W.cell? ⟨w.heap.size,10,none⟩=some (.int .i64 v.bn):=by rw [←hW];simp [go_sem]
 have b1:W.cell? ⟨w.heap.size,11,none⟩=some (.int .i64 v.bd):=by rw [←hW];simp [go_sem]
 have hsz:w.heap.size<W.heap.size:=by rw [←hW];simp;omega
 rw [hW]
 clear hW
 have HG2:=Lib.hid hg
 clear hg
 go_loopw [54] (fun v54 wr=>∃k:Nat,k≤7∧v54= .int .i64 k∧Hid (∀j,j<k→daysOk (v.ds.getD j 0)=true)∧W=wr) (fun v54 _=>7-(intOf v54).toNat)
 case atStart=>exact⟨0,by omega,rfl,Lib.hid (fun j hj=>by omega),rfl⟩
 case round=>
  obtain⟨k,hk,rfl,hno,rfl⟩:=hrel
  by_cases hlt:k<7
  ·have x0:=HIX.out k hlt W
   have d1:(k:Int)<7:=by omega
   have HKL:=Lib.hid hlt
   clear hlt
   obtain⟨dk,hdk⟩:∃dk,v.ds.getD k 0=dk:=⟨_,rfl⟩
   unfold Vw.ds at hdk
   rw [hdk]at x0
   have HDK:Hid (v.ds.getD k 0=dk):=Lib.hid hdk
   clear hdk
   have HBD:Hid (¬(0≤dk∧dk≤73049)→v.ok=false):=Lib.hid (fun h=>HB.out k HKL.out (by rw [HDK.out];unfold daysOk;exact decide_eq_false h))
   by_cases q1:dk<0
   ·exact sz52
   ·by_cases q2:dk > 73049
    ·exact sz52
    ·go_wp2_with fail
     go_roundw
     case rel=>exact⟨k+1,HKL.out,by go_num,Lib.hid (fun j hj=>by
      by_cases ej:j=k
      ·subst ej;rw [HDK.out];unfold daysOk;exact decide_eq_true (by omega)
      ·exact hno.out j (by omega)),(by first|rfl|trivial)⟩
     case measure=>simp [intOf];have:=HKL.out;omega
  ·obtain rfl:k=7:=by omega
   have HF:=Lib.hid (HG.out hno.out)
   unfold Vw.baseB at HF
   cases hq:vfrac v.bn v.bd with
   |false=>
    rw [hq]at HF HV
    have HF2:Hid (v.ok=false):=Lib.hid (by rw [HF.out];rfl)
    clear hq
    go_wp2_with ((first|(go_at_call 176;refine(HYR.out _ (.of_below (by(repeat' (first|(with_reducible exact Below.refl _ _)|(with_reducible assumption)|(with_reducible refine Below.grow ?_ ?_ _ _)|(with_reducible refine Below.alloc ?_ ?_ _)|(with_reducible refine Below.drewN ?_ _)|(with_reducible refine Below.drew ?_)|(with_reducible refine Below.setCell ?_ ?_ _)|go_size))))).mono ?_;rintro e' w' ⟨rfl,bs,d,rfl⟩)|(go_at_call 177;refine(HV.out _).mono ?_;rintro e' w' ⟨rfl,bs3,d3,rfl⟩)))
    go_returns
    exact⟨ret_bool (by rw [HF2.out];try exact decide_eq_false (by omega)),World.Grows.trans HG2.out (.of_below belB)⟩
   |true=>
    have HBE:=Lib.hid (fun hn=>base_eq hq hn)
    have hbd:=vfrac_bd hq
    have hd0:v.bd≠0:=by omega
    rw [hq]at HF HV
    clear hq
    by_cases g2:v.bn≥0
    ·have HF3:Hid (v.ok=(decide (v.bn.tdiv v.bd≤1000000000000)&&(decide (v.bn.tdiv v.bd<1000000000000) || decide (v.bn.tmod v.bd=0)))):=Lib.hid (by
      rw [HF.out,←HBE.out g2,Bool.true_and]
      simp [g2])
     have t1:=Int.tdiv_eq_ediv_of_nonneg (b:=v.bd) g2
     have t2:=Int.tmod_eq_emod_of_nonneg (b:=v.bd) g2
     have hb0:v.bn≤1000000000000000:=by omega
     have u1:0≤v.bn / v.bd:=Int.ediv_nonneg g2 (by omega)
     have u2:v.bn / v.bd≤1000000000000000:=Int.le_trans (Int.ediv_le_self v.bd g2) hb0
     have u3:=Int.emod_nonneg v.bn hd0
     have u4:=Int.emod_lt_of_pos v.bn (show 0<v.bd by omega)
     have e1:IntKind.i64.wrap (v.bn.tdiv v.bd)=v.bn.tdiv v.bd:=IntWalk.i64_in _ (by rw [t1];omega)
     have e2:IntKind.i64.wrap (v.bn.tmod v.bd)=v.bn.tmod v.bd:=IntWalk.i64_in _ (by rw [t2];omega)
     have e3:IntKind.i64.wrap (v.bn / v.bd)=v.bn / v.bd:=IntWalk.i64_in _ (by omega)
     have e4:IntKind.i64.wrap (v.bn % v.bd)=v.bn % v.bd:=IntWalk.i64_in _ (by omega)
     rw [t1,t2]at HF3
     by_cases c1:v.bn / v.bd<1000000000000
     ·have c2:v.bn / v.bd≤1000000000000:=by omega
      have HF2:Hid (v.ok=true):=Lib.hid (by rw [HF3.out,decide_eq_true c1,decide_eq_true c2];rfl)
      go_wp2_with ((first|(go_at_call 176;refine(HYR.out _ (.of_below (by(repeat' (first|(with_reducible exact Below.refl _ _)|(with_reducible assumption)|(with_reducible refine Below.grow ?_ ?_ _ _)|(with_reducible refine Below.alloc ?_ ?_ _)|(with_reducible refine Below.drewN ?_ _)|(with_reducible refine Below.drew ?_)|(with_reducible refine Below.setCell ?_ ?_ _)|go_size))))).mono ?_;rintro e' w' ⟨rfl,bs,d,rfl⟩)|(go_at_call 177;refine(HV.out _).mono ?_;rintro e' w' ⟨rfl,bs3,d3,rfl⟩)))
      go_returns
      exact⟨ret_bool (by rw [HF2.out];try exact decide_eq_false (by omega)),World.Grows.trans HG2.out (.of_below belB)⟩
     ·by_cases c2:v.bn / v.bd≤1000000000000
      ·by_cases c3:v.bn % v.bd=0
       focus
        have HF2:Hid (v.ok=true):=Lib.hid (by rw [HF3.out,decide_eq_true c3,decide_eq_true c2,Bool.or_true];rfl)
       rotate_left
       focus
        have c4:(v.bn % v.bd==0)=false:=by simpa using c3
        have HF2:Hid (v.ok=false):=Lib.hid (by rw [HF3.out,decide_eq_false c3,decide_eq_false c1];simp)
       rotate_left
       all_goals
        go_wp2_with ((first|(go_at_call 176;refine(HYR.out _ (.of_below (by(repeat' (first|(with_reducible exact Below.refl _ _)|(with_reducible assumption)|(with_reducible refine Below.grow ?_ ?_ _ _)|(with_reducible refine Below.alloc ?_ ?_ _)|(with_reducible refine Below.drewN ?_ _)|(with_reducible refine Below.drew ?_)|(with_reducible refine Below.setCell ?_ ?_ _)|go_size))))).mono ?_;rintro e' w' ⟨rfl,bs,d,rfl⟩)|(go_at_call 177;refine(HV.out _).mono ?_;rintro e' w' ⟨rfl,bs3,d3,rfl⟩)))
        go_returns
        exact⟨ret_bool (by rw [HF2.out];try exact decide_eq_false (by omega)),World.Grows.trans HG2.out (.of_below belB)⟩
      ·have HF2:Hid (v.ok=false):=Lib.hid (by rw [HF3.out,decide_eq_false c2];rfl)
       go_wp2_with ((first|(go_at_call 176;refine(HYR.out _ (.of_below (by(repeat' (first|(with_reducible exact Below.refl _ _)|(with_reducible assumption)|(with_reducible refine Below.grow ?_ ?_ _ _)|(with_reducible refine Below.alloc ?_ ?_ _)|(with_reducible refine Below.drewN ?_ _)|(with_reducible refine Below.drew ?_)|(with_reducible refine Below.setCell ?_ ?_ _)|go_size))))).mono ?_;rintro e' w' ⟨rfl,bs,d,rfl⟩)|(go_at_call 177;refine(HV.out _).mono ?_;rintro e' w' ⟨rfl,bs3,d3,rfl⟩)))
       go_returns
       exact⟨ret_bool (by rw [HF2.out];try exact decide_eq_false (by omega)),World.Grows.trans HG2.out (.of_below belB)⟩
    ·have HF2:Hid (v.ok=false):=Lib.hid (by rw [HF.out,decide_eq_false (fun h=>g2 h.1)];rfl)
     go_wp2_with ((first|(go_at_call 176;refine(HYR.out _ (.of_below (by(repeat' (first|(with_reducible exact Below.refl _ _)|(with_reducible assumption)|(with_reducible refine Below.grow ?_ ?_ _ _)|(with_reducible refine Below.alloc ?_ ?_ _)|(with_reducible refine Below.drewN ?_ _)|(with_reducible refine Below.drew ?_)|(with_reducible refine Below.setCell ?_ ?_ _)|go_size))))).mono ?_;rintro e' w' ⟨rfl,bs,d,rfl⟩)|(go_at_call 177;refine(HV.out _).mono ?_;rintro e' w' ⟨rfl,bs3,d3,rfl⟩)))
     go_returns
     exact⟨ret_bool (by rw [HF2.out];try exact decide_eq_false (by omega)),World.Grows.trans HG2.out (.of_below belB)⟩
theorem ValidView2_any(v:Vw)(y:Value)(w:World)(hr:VwRng v)(hy:YrAt w y v.years):(Calls Tryz.prog 99 #[vwV v y] w fun r w'=>r= .returned (.bool v.ok)∧w.Grows w'):=by
 by_cases h:0≤v.age∧v.age≤199∧1900≤v.year∧v.year≤2099∧0≤v.children∧v.children≤99
 ·by_cases hyo:yearsOk v.years=true
  ·exact vv2_in v y w hr hy h hyo
  ·exact vv2_yrs v y w hy h (by simpa using hyo)
 ·obtain⟨-,a,c,rfl,-⟩:=hy
  exact vv2_rng v _ w ⟨_,_,_,rfl⟩ h
end Go.Proofs.YtblkcgceefjmjaaGreatDoor
namespace Go.Proofs.YtblkcgceefjmjaaGreatDoor
def lastB(n k:Nat):Bool:=decide (k+1=n) || decide (k=4)
def codeS(ls:List (List Int))(g:List Int):Nat→List Ins
 |0=>[]
 |k+1=>
  let l:=codeS ls g k
  if lastB ls.length k&&decide (0<g.length)then
   let l1:=l++codeF (slK (namesM k)) (topF g (envM ls k) 1) l.length
   let l2:=l1++[⟨22,0,0,0⟩]
   let l3:=l2++codeF (slK (namesM k)) (dfnM ls k).e l2.length
   let l4:=l3++[⟨4,(k:Int),0,0⟩]
   setA l4 l1.length l4.length
  else l++codeF (slK (namesM k)) (dfnM ls k).e l.length++[⟨4,(k:Int),0,0⟩]
theorem defsC_snoc(a:List Dfn)(d:Dfn)(i:Nat):defsC (a++[d]) i=defsC a i++d.code (i+(defsC a i).length):=by
 induction a generalizing i with
 |nil=>simp [defsC]
 |cons x r ih=>
  rw [List.cons_append,defsC,defsC,ih,List.append_assoc,List.length_append,Nat.add_assoc]
theorem codeS_plain(ls:List (List Int))(g:List Int):∀k,(∀j,j<k→(lastB ls.length j&&decide (0<g.length))=false)→codeS ls g k=defsC ((List.range k).map (dfnM ls)) 0
 |0,_=>rfl
 |k+1,h=>by
  have ih:=codeS_plain ls g k (fun j hj=>h j (by omega))
  rw [codeS]
  simp only [h k (by omega)]
  rw [List.range_succ,List.map_append,List.map_singleton,defsC_snoc,←ih]
  simp only [Bool.false_eq_true,if_false,Nat.zero_add,List.append_assoc]
  rfl
theorem codeS_made(ls:List (List Int))(g:List Int):codeS ls g (min ls.length 5)=madeC ls g:=by
 unfold madeC
 by_cases h:g= []∨ls= []
 ·rw [if_pos h,←List.range_eq_range']
  refine codeS_plain ls g _ fun j hj=>?_
  rcases h with h|h
  ·subst h;simp
  ·subst h;simp at hj
 ·rw [if_neg h,←List.range_eq_range']
  have hg:0<g.length:=List.length_pos_iff.2 fun e=>h (.inl e)
  have hl:0<ls.length:=List.length_pos_iff.2 fun e=>h (.inr e)
  obtain⟨k,hk⟩:∃k,min ls.length 5=k+1:=⟨min ls.length 5-1,by omega⟩
  rw [hk,Nat.add_sub_cancel]
  have hlast:lastB ls.length k=true:=by unfold lastB;simp;omega
  have hP:=codeS_plain ls g k (fun j hj=>by
   have:lastB ls.length j=false:=by unfold lastB;simp;omega
   rw [this];rfl)
  rw [codeS,hP]
  generalize defsC ((List.range k).map (dfnM ls)) 0=P
  simp only [hlast,hg,decide_true,Bool.and_self,if_true]
  unfold guardC
  have h2:(P++codeF (slK (namesM k)) (topF g (envM ls k) 1) P.length++[(⟨22,0,0,0⟩:Ins)]).length=P.length+(codeF (slK (namesM k)) (topF g (envM ls k) 1) P.length).length+1:=by
   simp only [List.length_append,List.length_singleton]
  rw [h2]
  generalize codeF (slK (namesM k)) (topF g (envM ls k) 1) P.length=G
  have hd:∀i,defsC [dfnM ls k] i=codeF (slK (namesM k)) (dfnM ls k).e i++[⟨4,(k:Int),0,0⟩]:=fun i=>by
   show(dfnM ls k).code i++[]=_
   rw [List.append_nil];rfl
  rw [hd]
  generalize codeF (slK (namesM k)) (dfnM ls k).e (P.length+G.length+1)=D
  have key:=setA_mid (P++G) ⟨22,0,0,0⟩ (D++[⟨4,(k:Int),0,0⟩]) ((P++G++[(⟨22,0,0,0⟩:Ins)]++D++[(⟨4,(k:Int),0,0⟩:Ins)]).length:Nat)
  simp only [List.append_assoc,List.cons_append,List.nil_append]at key ⊢
  rw [key]
  congr 4
  simp only [List.length_append,List.length_cons,List.length_nil]
  omega
end Go.Proofs.YtblkcgceefjmjaaGreatDoor
namespace Go.Proofs.YtblkcgceefjmjaaGreatDoor
open Go.RowKit
def slV(sl:List ByteArray):List Value:=sl.map Value.string
def enV(env:List (ByteArray × Int)):List Value:=env.flatMap fun p=>[.string p.1,.int .i64 p.2]
structure Cod3(w:World)(base g:Nat)(cI cS vI vS vE:Value)(l:List Ins)(sl:List ByteArray)(env:List (ByteArray × Int))(W:World):Prop where
 gr:w.Grows W
 wg:w.heap.size≤g
 gb:g<base
 bW:base≤W.heap.size
 blk:∃ty,W.heap[g]? =some (.cells #[cI,cS] ty (0,0))
 row:LRow base W vI l
 slr:W.ownsRow base 9 1 vS sl.length (slV sl)
 enr:W.ownsRow base 126 2 vE env.length (enV env)
 dIS:∀b,vI.ownBlock=some b→vS.ownBlock≠some b
 dIE:∀b,vI.ownBlock=some b→vE.ownBlock≠some b
 dSE:∀b,vS.ownBlock=some b→vE.ownBlock≠some b
theorem keptNe{w w':World}{base size n:Nat}{e:TypeId}{v:Value}{xs:List Value}{row:Option Nat}(h:w.ownsRow base e size v n xs)(hg:w.grownBy w' row)(hne:∀b,row=some b→v.ownBlock≠some b):w'.ownsRow base e size v n xs:=
 h.kept hg (by
  cases e1:v.ownBlock with
  |none=>exact .inl rfl
  |some b=>exact .inr fun e2=>hne b e2.symm e1)
theorem grownOf{w w':World}(hg:w.Grows w')(row:Option Nat):w.grownBy w' row:=⟨hg.below.os,hg.below.tape,hg.below.output,hg.below.size,fun k hk _=>hg.below.block k hk⟩
theorem grownSet(w:World)(g j:Nat)(u:Value):w.grownBy (w.setCell ⟨g,j,none⟩ u) (some g):=by
 have hB:=Below.setCell (p:=(⟨g,j,none⟩:Addr)) (Below.refl g w) (Nat.le_refl g) u
 exact⟨hB.os,hB.tape,hB.output,hB.size,fun k _ hn=>Below.heap_setCell _ _ _ _ (fun e=>hn (by rw [e]))⟩
theorem apNew{v v1 u:Value}{W:World}(hat:v1.ownBlock=v.ownBlock∨∃b,v1.ownBlock=some b∧W.heap.size≤b)(hu:∀k,u.ownBlock=some k→k<W.heap.size)(h:∀b,v.ownBlock=some b→u.ownBlock≠some b):∀b,v1.ownBlock=some b→u.ownBlock≠some b:=by
 intro b hb e
 rcases hat with e1|⟨b',e1,hb'⟩
 ·exact h b (e1.symm.trans hb) e
 ·rw [e1]at hb;cases hb
  have:=hu _ e;omega
theorem apSym{v u:Value}(h:∀b,v.ownBlock=some b→u.ownBlock≠some b):∀b,u.ownBlock=some b→v.ownBlock≠some b:=fun b h1 h2=>h b h2 h1
section
variable {w W W' W1 : World} {base g : Nat} {cI cS vI vS vE v1 : Value} {l l1 : List Ins} {sl sl1 : List ByteArray} {env env1 : List (ByteArray × Int)}
theorem Cod3.grows(h:Cod3 w base g cI cS vI vS vE l sl env W)(hg:W.Grows W'):Cod3 w base g cI cS vI vS vE l sl env W':=by
 obtain⟨ty,hb⟩:=h.blk
 exact⟨h.gr.trans' hg,h.wg,h.gb,Nat.le_trans h.bW hg.below.size,⟨ty,(hg.below.block g (Array.getElem?_eq_some_iff.1 hb).1).trans hb⟩,h.row.grows hg,
  keptNe h.slr (grownOf hg none) (fun _ e=>by cases e),keptNe h.enr (grownOf hg none) (fun _ e=>by cases e),h.dIS,h.dIE,h.dSE⟩
theorem Cod3.lay(h:Cod3 w base g cI cS vI vS vE l sl env W)(hx:Ext W W1 vI v1)(hr:LRow base W1 v1 l1):Cod3 w base g cI cS v1 vS vE l1 sl env W1:=by
 obtain⟨ty,hb⟩:=h.blk
 have hlt:∀k,vI.ownBlock=some k→base≤k:=fun k e=>(h.row.lt k e).1
 exact⟨World.Grows.grown h.gr hx.g (fun k e=>by have:=hlt k e;have:=h.wg;have:=h.gb;omega),h.wg,h.gb,Nat.le_trans h.bW hx.g.size,
  ⟨ty,(hx.g.block g (Array.getElem?_eq_some_iff.1 hb).1 (fun e=>by have:=hlt g e.symm;have:=h.gb;omega)).trans hb⟩,hr,
  keptNe h.slr hx.g h.dIS,keptNe h.enr hx.g h.dIE,apNew hx.at_ (fun k e=>(h.slr.lt k e).2) h.dIS,apNew hx.at_ (fun k e=>(h.enr.lt k e).2) h.dIE,h.dSE⟩
theorem Cod3.slot(h:Cod3 w base g cI cS vI vS vE l sl env W)(hx:Ext W W1 vS v1)(hr:W1.ownsRow base 9 1 v1 sl1.length (slV sl1)):Cod3 w base g cI cS vI v1 vE l sl1 env W1:=by
 obtain⟨ty,hb⟩:=h.blk
 have hlt:∀k,vS.ownBlock=some k→base≤k:=fun k e=>(h.slr.lt k e).1
 exact⟨World.Grows.grown h.gr hx.g (fun k e=>by have:=hlt k e;have:=h.wg;have:=h.gb;omega),h.wg,h.gb,Nat.le_trans h.bW hx.g.size,
  ⟨ty,(hx.g.block g (Array.getElem?_eq_some_iff.1 hb).1 (fun e=>by have:=hlt g e.symm;have:=h.gb;omega)).trans hb⟩,keptNe h.row hx.g (apSym h.dIS),
  hr,keptNe h.enr hx.g h.dSE,apSym (apNew hx.at_ (fun k e=>(h.row.lt k e).2) (apSym h.dIS)),h.dIE,apNew hx.at_ (fun k e=>(h.enr.lt k e).2) h.dSE⟩
theorem Cod3.bind(h:Cod3 w base g cI cS vI vS vE l sl env W)(hx:Ext W W1 vE v1)(hr:W1.ownsRow base 126 2 v1 env1.length (enV env1)):Cod3 w base g cI cS vI vS v1 l sl env1 W1:=by
 obtain⟨ty,hb⟩:=h.blk
 have hlt:∀k,vE.ownBlock=some k→base≤k:=fun k e=>(h.enr.lt k e).1
 exact⟨World.Grows.grown h.gr hx.g (fun k e=>by have:=hlt k e;have:=h.wg;have:=h.gb;omega),h.wg,h.gb,Nat.le_trans h.bW hx.g.size,
  ⟨ty,(hx.g.block g (Array.getElem?_eq_some_iff.1 hb).1 (fun e=>by have:=hlt g e.symm;have:=h.gb;omega)).trans hb⟩,keptNe h.row hx.g (apSym h.dIE),
  keptNe h.slr hx.g (apSym h.dSE),hr,h.dIS,apSym (apNew hx.at_ (fun k e=>(h.row.lt k e).2) (apSym h.dIE)),apSym (apNew hx.at_ (fun k e=>(h.slr.lt k e).2) (apSym h.dSE))⟩
theorem Cod3.setc(h:Cod3 w base g cI cS vI vS vE l sl env W)(j:Nat)(u:Value){dI dS:Value}(hd:((#[cI,cS]:Array Value).setIfInBounds j u)=#[dI,dS]):Cod3 w base g dI dS vI vS vE l sl env (W.setCell ⟨g,j,none⟩ u):=by
 obtain⟨ty,hb⟩:=h.blk
 have hg:=grownSet W g j u
 refine⟨.of_below (h.gr.below.setCell h.wg u),h.wg,h.gb,Nat.le_trans h.bW hg.size,⟨ty, ?_⟩,keptNe h.row hg ?_,keptNe h.slr hg ?_,keptNe h.enr hg ?_,h.dIS,h.dIE,h.dSE⟩
 ·rw [←hd];exact Go.Joins.block_setCell hb u
 ·rintro b ⟨⟩ e;have:=(h.row.lt _ e).1;have:=h.gb;omega
 ·rintro b ⟨⟩ e;have:=(h.slr.lt _ e).1;have:=h.gb;omega
 ·rintro b ⟨⟩ e;have:=(h.enr.lt _ e).1;have:=h.gb;omega
theorem Cod3.setI(h:Cod3 w base g cI cS vI vS vE l sl env W)(u:Value):Cod3 w base g u cS vI vS vE l sl env (W.setCell ⟨g,0,none⟩ u):=h.setc 0 u rfl
theorem Cod3.setS(h:Cod3 w base g cI cS vI vS vE l sl env W)(u:Value):Cod3 w base g cI u vI vS vE l sl env (W.setCell ⟨g,1,none⟩ u):=h.setc 1 u rfl
theorem Cod3.ins(h:Cod3 w base g cI cS vI vS vE l sl env W)(x:Ins){gg n c H:Nat}(hn:n=l.length+1)(hg:W.Grows W')(hgr:W'.grownBy W1 vI.ownBlock)(ha:vI.ownBlock=some gg∨gg=H)(hH:W.heap.size≤H)
 (ho:W1.ownsRow base 103 4 (.slice (some ⟨gg,0,none⟩) n c) n (insV l++[.int .i64 x.op,.int .i64 x.a,.int .i64 x.n,.int .i64 x.d])):Cod3 w base g cI cS (.slice (some ⟨gg,0,none⟩) n c) vS vE (l++[x]) sl env W1:=by
 subst hn
 refine h.lay (Ext.app hg hgr ha hH) ?_
 rw [←insV_snoc]at ho
 unfold LRow
 rw [List.length_append]
 exact ho
theorem Cod3.nm(h:Cod3 w base g cI cS vI vS vE l sl env W)(s:ByteArray){gg n c H:Nat}(hn:n=sl.length+1)(hg:W.Grows W')(hgr:W'.grownBy W1 vS.ownBlock)(ha:vS.ownBlock=some gg∨gg=H)(hH:W.heap.size≤H)
 (ho:W1.ownsRow base 9 1 (.slice (some ⟨gg,0,none⟩) n c) n (slV sl++[.string s])):Cod3 w base g cI cS vI (.slice (some ⟨gg,0,none⟩) n c) vE l (sl++[s]) env W1:=by
 subst hn
 refine h.slot (Ext.app hg hgr ha hH) ?_
 rw [List.length_append,slV,List.map_append]
 exact ho
theorem Cod3.en(h:Cod3 w base g cI cS vI vS vE l sl env W)(s:ByteArray)(d:Int){gg n c H:Nat}(hn:n=env.length+1)(hg:W.Grows W')(hgr:W'.grownBy W1 vE.ownBlock)(ha:vE.ownBlock=some gg∨gg=H)(hH:W.heap.size≤H)
 (ho:W1.ownsRow base 126 2 (.slice (some ⟨gg,0,none⟩) n c) n (enV env++[.string s,.int .i64 d])):Cod3 w base g cI cS vI vS (.slice (some ⟨gg,0,none⟩) n c) l sl (env++[(s,d)]) W1:=by
 subst hn
 refine h.bind (Ext.app hg hgr ha hH) ?_
 rw [List.length_append,enV,List.flatMap_append]
 exact ho
theorem Cod3.patch{gg n c:Nat}(h:Cod3 w base g cI cS (.slice (some ⟨gg,0,none⟩) n c) vS vE l sl env W)(hn:n=l.length)(i:Nat)(hi:i<l.length)(z:Int):Cod3 w base g cI cS (.slice (some ⟨gg,0,none⟩) n c) vS vE (setA l i z) sl env (W.setCell ⟨gg,i*4+1,none⟩ (.int .i64 z)):=by
 subst hn
 have hr:=h.row
 unfold LRow at hr
 obtain⟨h1,h2⟩:=hr.stored (i*4+1) (.int .i64 z)
 refine h.lay ⟨h2,.inl rfl⟩ ?_
 unfold LRow
 rw [←insV_set l i z hi,setA_len]
 exact h1
theorem Cod3.cell{gg n c:Nat}(h:Cod3 w base g cI cS (.slice (some ⟨gg,0,none⟩) n c) vS vE l sl env W)(hn:n=l.length)(i:Nat)(hi:i<l.length):(∃u,W.cell? ⟨gg,i*4+1,none⟩=some u)∧W.frozen? ⟨gg,i*4+1,none⟩=false:=by
 subst hn
 have hr:=h.row
 exact sz36
theorem Cod3.c0(h:Cod3 w base g cI cS vI vS vE l sl env W):W.cell? ⟨g,0,none⟩=some cI:=by obtain⟨ty,hb⟩:=h.blk;exact cell_of_row W g 0 _ _ _ hb
theorem Cod3.c1(h:Cod3 w base g cI cS vI vS vE l sl env W):W.cell? ⟨g,1,none⟩=some cS:=by obtain⟨ty,hb⟩:=h.blk;exact cell_of_row W g 1 _ _ _ hb
theorem Cod3.f(h:Cod3 w base g cI cS vI vS vE l sl env W)(j:Nat):W.frozen? ⟨g,j,none⟩=false:=by obtain⟨ty,hb⟩:=h.blk;exact Go.Joins.unfrozen_of_block hb j
theorem Cod3.lt(h:Cod3 w base g cI cS vI vS vE l sl env W):g<W.heap.size:=Nat.lt_of_lt_of_le h.gb h.bW
theorem rowForm3{B size n:Nat}{T:TypeId}{v:Value}{xs:List Value}(h:W.ownsRow B T size v n xs):∃a c,v= .slice a n c∧n≤c∧(n=0∨∃b,a=some ⟨b,0,none⟩∧v.ownBlock=some b∧B≤b∧b<W.heap.size):=by
 obtain⟨-,⟨rfl,h0⟩|⟨g,cap,cur,rfl,hb,hg,hnc,-⟩⟩:=h
 ·exact⟨none,0,by rw [h0],by omega,.inl h0⟩
 ·exact⟨_,_,rfl,hnc,.inr ⟨g,rfl,rfl,hb,(Array.getElem?_eq_some_iff.1 hg).1⟩⟩
theorem slV_get(sl:List ByteArray)(i:Nat)(h:i<sl.length):(slV sl)[i]? =some (.string (sl.getD i ByteArray.empty)):=by
 unfold slV;rw [List.getElem?_map,List.getElem?_eq_getElem h,List.getD_eq_getElem?_getD,List.getElem?_eq_getElem h];rfl
theorem enV_get(env:List (ByteArray × Int))(i:Nat)(h:i<env.length):(enV env)[i*2]? =some (.string (env.getD i noBind).1)∧(enV env)[i*2+1]? =some (.int .i64 (env.getD i noBind).2):=by
 induction env generalizing i with
 |nil=>simp at h
 |cons p r ih=>
  have e:enV (p::r)= .string p.1:: .int .i64 p.2::enV r:=rfl
  rw [e]
  cases i with
  |zero=>exact⟨rfl,rfl⟩
  |succ i=>
   have:=ih i (by simpa using h)
   rw [show(i+1)*2=i*2+1+1 by omega]
   exact this
theorem Cod3.slIn{S:Nat→Prop}(h:Cod3 w base g cI cS vI vS vE l sl env W)(hl:sl.length≤1000)(hs:∀s∈sl,s.size≤maxLen)(hS:∀b,vS.ownBlock=some b→S b):SlIn S W vS sl:=by
 obtain⟨a,c,rfl,hc,h0⟩:=rowForm3 h.slr
 refine⟨hl,hs,a,c,hc,rfl,h0.imp id ?_⟩
 rintro⟨b,rfl,hb,-,hlt⟩
 refine⟨b,0,rfl,hS b hb,hlt,fun i hi=>?_⟩
 rw [Nat.zero_add]
 exact(h.slr.cellAt i (by omega)).trans (slV_get sl i hi)
theorem Cod3.slAt(h:Cod3 w base g cI cS vI vS vE l sl env W)(hl:sl.length≤1000)(hs:∀s∈sl,s.size≤maxLen):SlAt W vS sl:=by
 obtain⟨h1,h2,a,c,h3,h4,h5⟩:=h.slIn (S:=fun _=>True) hl hs (fun _ _=>trivial)
 refine⟨by omega,h2,a,c,h3,h4,h5.imp id ?_⟩
 rintro⟨b,off,ha,-,hb,hc⟩
 exact⟨b,off,ha,hb,hc⟩
theorem Cod3.envAt(h:Cod3 w base g cI cS vI vS vE l sl env W)(hl:env.length≤1000)(hs:∀x∈env,x.1.size≤140737488355328):EnvAt W W.heap.size vE env:=by
 obtain⟨a,c,rfl,hc,h0⟩:=rowForm3 h.enr
 refine⟨hl,hs,a,c,rfl,h0.imp id ?_⟩
 rintro⟨b,rfl,hb,-,hlt⟩
 refine⟨b,0,rfl,hlt,by omega,fun i hi=>?_⟩
 obtain⟨e1,e2⟩:=enV_get env i hi
 rw [Nat.zero_add]
 exact⟨(h.enr.cellAt (i*2) (by omega)).trans e1,(h.enr.cellAt (i*2+1) (by omega)).trans e2⟩
theorem Cod3.pre(h:Cod3 w base g cI cS vI vS vE l sl env W)(hg:W.Grows W1)(hl:sl.length≤1000)(hs:∀s∈sl,s.size≤maxLen) :
 LPre (fun b=>(W.heap.size≤b∧b<W1.heap.size)∨vS.ownBlock=some b) W1.heap.size base W1 vI vS l sl:=by
 have h1:=h.grows hg
 refine⟨h1.row, ?_,Nat.le_refl _, ?_,h1.bW,h1.slIn hl hs fun b hb=>.inr hb⟩
 ·rintro b (⟨-,hb⟩|hb)
  ·exact hb
  ·exact(h1.slr.lt b hb).2
 ·rintro b (⟨hb,-⟩|hb) e
  ·have:=(h.row.lt b e.symm).2;omega
  ·exact h.dIS b e.symm hb
theorem Cod3.layC(h:Cod3 w base g cI cS vI vS vE l sl env W)(hg:W.Grows W1)(hl:sl.length≤1000)(hs:∀s∈sl,s.size≤maxLen){e:Ex}{ve:Value}(hr:RepE (fun b=>W.heap.size≤b) W1 e ve)(hf:formedB e=true)
 (hn:∀s,mentB s e=true→inpK s=none→s∈sl) (hlen:l.length+(codeF (slK sl) e l.length).length≤1000000) :
 Calls Tryz.prog 98 #[vI,exV e ve,vS] W1 fun r w'=>∃a c,r= .returned (.slice a (l++codeF (slK sl) e l.length).length c)∧Cod3 w base g cI cS (.slice a (l++codeF (slK sl) e l.length).length c) vS vE (l++codeF (slK sl) e l.length) sl env w'∧W1.heap.size≤w'.heap.size:=
 (lay_code e hf hn _ _ base W1 vI vS ve l (h.pre hg hl hs) (hr.mono' fun b hb hlt=>.inl ⟨hb,hlt⟩) hlen).mono fun r w' ⟨v',he,hr,hx⟩=>by
  obtain⟨a,c,rfl⟩:=hr.form
  exact⟨a,c,he,(h.grows hg).lay hx hr,hx.g.size⟩
end
theorem Cod3.start{w W:World}{g:Nat}{ty:TypeId}(hg:w.Grows W)(hwg:w.heap.size≤g)(hb:W.heap[g]? =some (.cells #[.slice none 0 0,.slice none 0 0] ty (0,0))):Cod3 w W.heap.size g (.slice none 0 0) (.slice none 0 0) (.slice none 0 0) (.slice none 0 0) (.slice none 0 0) [] [] [] W:=
 ⟨hg,hwg,(Array.getElem?_eq_some_iff.1 hb).1,Nat.le_refl _,⟨ty,hb⟩,World.ownsRow_nil _ _ _ _,World.ownsRow_nil _ _ _ _,World.ownsRow_nil _ _ _ _,fun _ h=>(by cases h),fun _ h=>(by cases h),fun _ h=>(by cases h)⟩
def vlV(l:List Val):List Value:=l.flatMap fun x=>[.int .i64 x.dim,.bool x.yes,.int .i64 x.n,.int .i64 x.d]
def spV(l:List (ByteArray × Val)):List Value:=l.flatMap fun p=>[.string p.1,.int .i64 p.2.dim,.bool p.2.yes,.int .i64 p.2.n,.int .i64 p.2.d]
theorem vlV_app(a b:List Val):vlV (a++b)=vlV a++vlV b:=by unfold vlV;rw [List.flatMap_append]
theorem spV_app(a b:List (ByteArray × Val)):spV (a++b)=spV a++spV b:=by unfold spV;rw [List.flatMap_append]
theorem vlV_take(l:List Val)(k:Nat):vlV (l.take k)=(vlV l).take (k*4):=by
 induction l generalizing k with
 |nil=>simp [vlV]
 |cons x r ih=>
  cases k with
  |zero=>simp [vlV]
  |succ k=>
   have h1:vlV (x::r)= .int .i64 x.dim:: .bool x.yes:: .int .i64 x.n:: .int .i64 x.d::vlV r:=rfl
   have h2:vlV (x::r.take k)= .int .i64 x.dim:: .bool x.yes:: .int .i64 x.n:: .int .i64 x.d::vlV (r.take k):=rfl
   rw [List.take_succ_cons,h2,h1,ih,show(k+1)*4=k*4+1+1+1+1 by omega];rfl
theorem vlV_get(l:List Val)(i:Nat)(h:i<l.length):(vlV l)[i*4]? =some (.int .i64 (l.getD i .zero).dim)∧(vlV l)[i*4+1]? =some (.bool (l.getD i .zero).yes)∧(vlV l)[i*4+2]? =some (.int .i64 (l.getD i .zero).n)∧(vlV l)[i*4+3]? =some (.int .i64 (l.getD i .zero).d):=by
 induction l generalizing i with
 |nil=>simp at h
 |cons x r ih=>
  have e:vlV (x::r)= .int .i64 x.dim:: .bool x.yes:: .int .i64 x.n:: .int .i64 x.d::vlV r:=rfl
  rw [e]
  cases i with
  |zero=>exact⟨rfl,rfl,rfl,rfl⟩
  |succ i=>
   have:=ih i (by simpa using h)
   rw [show(i+1)*4=i*4+1+1+1+1 by omega]
   exact this
theorem vlV_set(l:List Val)(i:Nat)(x:Val)(h:i<l.length):((((vlV l).set (i*4) (.int .i64 x.dim)).set (i*4+1) (.bool x.yes)).set (i*4+2) (.int .i64 x.n)).set (i*4+3) (.int .i64 x.d)=vlV (l.set i x):=by
 induction l generalizing i with
 |nil=>simp at h
 |cons y r ih=>
  have e:vlV (y::r)= .int .i64 y.dim:: .bool y.yes:: .int .i64 y.n:: .int .i64 y.d::vlV r:=rfl
  cases i with
  |zero=>rfl
  |succ i=>
   have e2:vlV ((y::r).set (i+1) x)= .int .i64 y.dim:: .bool y.yes:: .int .i64 y.n:: .int .i64 y.d::vlV (r.set i x):=rfl
   rw [e,e2,←ih i (by simpa using h),show(i+1)*4=i*4+1+1+1+1 by omega]
   rfl
structure RnSt(w:World)(base Bl:Nat)(stk slots:List Val)(st:List (ByteArray × Val))(vK vS:Value)(W:World):Prop where
 gr:w.Grows W
 wl:w.heap.size≤Bl
 lb:Bl<base
 bW:base≤W.heap.size
 blk:∃ty,W.heap[Bl]? =some (.cells (vlV slots).toArray ty (0,0))
 stk:W.ownsRow base 41 4 vK stk.length (vlV stk)
 stp:W.ownsRow base 70 5 vS st.length (spV st)
 dKS:∀b,vK.ownBlock=some b→vS.ownBlock≠some b
section
variable {w W W' W1 : World} {base Bl : Nat} {stk slots : List Val} {st : List (ByteArray × Val)} {vK vS v1 : Value}
theorem RnSt.grows(h:RnSt w base Bl stk slots st vK vS W)(hg:W.Grows W'):RnSt w base Bl stk slots st vK vS W':=by
 obtain⟨ty,hb⟩:=h.blk
 exact⟨h.gr.trans' hg,h.wl,h.lb,Nat.le_trans h.bW hg.below.size,⟨ty,(hg.below.block Bl (Array.getElem?_eq_some_iff.1 hb).1).trans hb⟩,keptNe h.stk (grownOf hg none) (fun _ e=>by cases e),keptNe h.stp (grownOf hg none) (fun _ e=>by cases e),h.dKS⟩
theorem RnSt.lt(h:RnSt w base Bl stk slots st vK vS W):Bl<W.heap.size:=Nat.lt_of_lt_of_le h.lb h.bW
theorem RnSt.unfr(h:RnSt w base Bl stk slots st vK vS W)(j:Nat):W.frozen? ⟨Bl,j,none⟩=false:=by
 obtain⟨ty,hb⟩:=h.blk
 exact Go.Joins.unfrozen_of_block hb j
theorem RnSt.slot(h:RnSt w base Bl stk slots st vK vS W)(k:Nat)(hk:k<slots.length):W.cell? ⟨Bl,k*4,none⟩=some (.int .i64 (slots.getD k .zero).dim)∧W.cell? ⟨Bl,k*4+1,none⟩=some (.bool (slots.getD k .zero).yes)∧W.cell? ⟨Bl,k*4+2,none⟩=some (.int .i64 (slots.getD k .zero).n)∧W.cell? ⟨Bl,k*4+3,none⟩=some (.int .i64 (slots.getD k .zero).d):=by
 obtain⟨ty,hb⟩:=h.blk
 obtain⟨e0,e1,e2,e3⟩:=vlV_get slots k hk
 refine⟨(cell_of_row W Bl _ _ _ _ hb).trans ?_,(cell_of_row W Bl _ _ _ _ hb).trans ?_,(cell_of_row W Bl _ _ _ _ hb).trans ?_,(cell_of_row W Bl _ _ _ _ hb).trans ?_⟩
 ·simpa using e0
 ·simpa using e1
 ·simpa using e2
 ·simpa using e3
theorem RnSt.val{g n c:Nat}(h:RnSt w base Bl stk slots st (.slice (some ⟨g,0,none⟩) n c) vS W)(hn:n=stk.length)(k:Nat)(hk:k<stk.length):W.cell? ⟨g,k*4,none⟩=some (.int .i64 (stk.getD k .zero).dim)∧W.cell? ⟨g,k*4+1,none⟩=some (.bool (stk.getD k .zero).yes)∧W.cell? ⟨g,k*4+2,none⟩=some (.int .i64 (stk.getD k .zero).n)∧W.cell? ⟨g,k*4+3,none⟩=some (.int .i64 (stk.getD k .zero).d):=by
 subst hn
 obtain⟨e0,e1,e2,e3⟩:=vlV_get stk k hk
 exact⟨(h.stk.cellAt _ (by omega)).trans e0,(h.stk.cellAt _ (by omega)).trans e1,(h.stk.cellAt _ (by omega)).trans e2,(h.stk.cellAt _ (by omega)).trans e3⟩
theorem RnSt.stack(h:RnSt w base Bl stk slots st vK vS W){stk1:List Val}(hx:Ext W W1 vK v1)(hr:W1.ownsRow base 41 4 v1 stk1.length (vlV stk1)):RnSt w base Bl stk1 slots st v1 vS W1:=by
 obtain⟨ty,hb⟩:=h.blk
 have hlt:∀k,vK.ownBlock=some k→base≤k:=fun k e=>(h.stk.lt k e).1
 exact⟨World.Grows.grown h.gr hx.g (fun k e=>by have:=hlt k e;have:=h.wl;have:=h.lb;omega),h.wl,h.lb,Nat.le_trans h.bW hx.g.size,
  ⟨ty,(hx.g.block Bl (Array.getElem?_eq_some_iff.1 hb).1 (fun e=>by have:=hlt Bl e.symm;have:=h.lb;omega)).trans hb⟩,hr,keptNe h.stp hx.g h.dKS,apNew hx.at_ (fun k e=>(h.stp.lt k e).2) h.dKS⟩
theorem RnSt.steps(h:RnSt w base Bl stk slots st vK vS W){st1:List (ByteArray × Val)}(hx:Ext W W1 vS v1)(hr:W1.ownsRow base 70 5 v1 st1.length (spV st1)):RnSt w base Bl stk slots st1 vK v1 W1:=by
 obtain⟨ty,hb⟩:=h.blk
 have hlt:∀k,vS.ownBlock=some k→base≤k:=fun k e=>(h.stp.lt k e).1
 exact⟨World.Grows.grown h.gr hx.g (fun k e=>by have:=hlt k e;have:=h.wl;have:=h.lb;omega),h.wl,h.lb,Nat.le_trans h.bW hx.g.size,
  ⟨ty,(hx.g.block Bl (Array.getElem?_eq_some_iff.1 hb).1 (fun e=>by have:=hlt Bl e.symm;have:=h.lb;omega)).trans hb⟩,keptNe h.stk hx.g (apSym h.dKS),hr,apSym (apNew hx.at_ (fun k e=>(h.stk.lt k e).2) (apSym h.dKS))⟩
theorem RnSt.push(h:RnSt w base Bl stk slots st vK vS W)(x:Val){g n c H:Nat}(hn:n=stk.length+1)(hg:W.Grows W')(hgr:W'.grownBy W1 vK.ownBlock)(ha:vK.ownBlock=some g∨g=H)(hH:W.heap.size≤H)
 (ho:W1.ownsRow base 41 4 (.slice (some ⟨g,0,none⟩) n c) n (vlV stk++[.int .i64 x.dim,.bool x.yes,.int .i64 x.n,.int .i64 x.d])):RnSt w base Bl (stk++[x]) slots st (.slice (some ⟨g,0,none⟩) n c) vS W1:=by
 subst hn
 refine h.stack (Ext.app hg hgr ha hH) ?_
 rw [List.length_append,vlV_app]
 exact ho
theorem RnSt.step(h:RnSt w base Bl stk slots st vK vS W)(s:ByteArray)(x:Val){g n c H:Nat}(hn:n=st.length+1)(hg:W.Grows W')(hgr:W'.grownBy W1 vS.ownBlock)(ha:vS.ownBlock=some g∨g=H)(hH:W.heap.size≤H)
 (ho:W1.ownsRow base 70 5 (.slice (some ⟨g,0,none⟩) n c) n (spV st++[.string s,.int .i64 x.dim,.bool x.yes,.int .i64 x.n,.int .i64 x.d])):RnSt w base Bl stk slots (st++[(s,x)]) vK (.slice (some ⟨g,0,none⟩) n c) W1:=by
 subst hn
 refine h.steps (Ext.app hg hgr ha hH) ?_
 rw [List.length_append,spV_app]
 exact ho
theorem own_take{B size n g cap k:Nat}{e:TypeId}{xs:List Value}(h:W.ownsRow B e size (.slice (some ⟨g,0,none⟩) n cap) n xs)(hk:k≤n):W.ownsRow B e size (.slice (some ⟨g,0,none⟩) k cap) k (xs.take (k*size)):=by
 have hlen:=h.1
 rcases h.2 with ⟨h',_⟩|⟨g',cap',cur,h',hb,hg,hnc,hcm,hcs,htake⟩
 ·simp at h'
 ·simp only [Value.slice.injEq,Option.some.injEq,Addr.mk.injEq,and_true,true_and]at h'
  obtain⟨rfl,rfl⟩:=h'
  have hle:k*size≤n*size:=Nat.mul_le_mul_right _ hk
  exact⟨by rw [List.length_take,hlen];omega,.inr ⟨g,cap,cur,rfl,hb,hg,Nat.le_trans hk hnc,hcm,hcs,by rw [←htake,List.take_take,Nat.min_eq_left hle]⟩⟩
theorem RnSt.cut{g n c k:Nat}(h:RnSt w base Bl stk slots st (.slice (some ⟨g,0,none⟩) n c) vS W)(hn:n=stk.length)(hk:k≤stk.length):RnSt w base Bl (stk.take k) slots st (.slice (some ⟨g,0,none⟩) k c) vS W:=by
 subst hn
 have ho:=own_take h.stk hk
 rw [←vlV_take]at ho
 refine⟨h.gr,h.wl,h.lb,h.bW,h.blk, ?_,h.stp,h.dKS⟩
 rw [List.length_take,Nat.min_eq_left hk]
 exact ho
theorem RnSt.set(h:RnSt w base Bl stk slots st vK vS W)(k:Nat)(hk:k<slots.length)(x:Val):RnSt w base Bl stk (slots.set k x) st vK vS ((((W.setCell ⟨Bl,k*4,none⟩ (.int .i64 x.dim)).setCell ⟨Bl,k*4+1,none⟩ (.bool x.yes)).setCell ⟨Bl,k*4+2,none⟩ (.int .i64 x.n)).setCell ⟨Bl,k*4+3,none⟩ (.int .i64 x.d)):=by
 obtain⟨ty,hb⟩:=h.blk
 have g1:=grownSet W Bl (k*4) (.int .i64 x.dim)
 have g2:=grownSet (W.setCell ⟨Bl,k*4,none⟩ (.int .i64 x.dim)) Bl (k*4+1) (.bool x.yes)
 have g3:=grownSet ((W.setCell ⟨Bl,k*4,none⟩ (.int .i64 x.dim)).setCell ⟨Bl,k*4+1,none⟩ (.bool x.yes)) Bl (k*4+2) (.int .i64 x.n)
 have g4:=grownSet (((W.setCell ⟨Bl,k*4,none⟩ (.int .i64 x.dim)).setCell ⟨Bl,k*4+1,none⟩ (.bool x.yes)).setCell ⟨Bl,k*4+2,none⟩ (.int .i64 x.n)) Bl (k*4+3) (.int .i64 x.d)
 have nk:∀b,some Bl=some b→vK.ownBlock≠some b:=fun b e e2=>by cases e;have:=(h.stk.lt _ e2).1;have:=h.lb;omega
 have ns:∀b,some Bl=some b→vS.ownBlock≠some b:=fun b e e2=>by cases e;have:=(h.stp.lt _ e2).1;have:=h.lb;omega
 refine⟨.of_below ((((h.gr.below.setCell h.wl _).setCell h.wl _).setCell h.wl _).setCell h.wl _),h.wl,h.lb,Nat.le_trans h.bW (Nat.le_trans g1.size (Nat.le_trans g2.size (Nat.le_trans g3.size g4.size))),⟨ty, ?_⟩,keptNe (keptNe (keptNe (keptNe h.stk g1 nk) g2 nk) g3 nk) g4 nk,keptNe (keptNe (keptNe (keptNe h.stp g1 ns) g2 ns) g3 ns) g4 ns,h.dKS⟩
 rw [Go.Joins.block_setCell (Go.Joins.block_setCell (Go.Joins.block_setCell (Go.Joins.block_setCell hb _) _) _) _,←vlV_set slots k x hk]
 simp
theorem RnSt.start{Y:World}{ty:TypeId}(hg:w.Grows Y)(hwl:w.heap.size≤Bl)(hb:Y.heap[Bl]? =some (.cells (vlV slots).toArray ty (0,0))):RnSt w Y.heap.size Bl [] slots [] (.slice none 0 0) (.slice none 0 0) Y:=
 ⟨hg,hwl,(Array.getElem?_eq_some_iff.1 hb).1,Nat.le_refl _,⟨ty,hb⟩,World.ownsRow_nil _ _ _ _,World.ownsRow_nil _ _ _ _,fun _ h=>(by cases h)⟩
end
theorem insV_get(l:List Ins)(i:Nat)(h:i<l.length):(insV l)[i*4]? =some (.int .i64 (l.getD i default).op)∧(insV l)[i*4+1]? =some (.int .i64 (l.getD i default).a)∧(insV l)[i*4+2]? =some (.int .i64 (l.getD i default).n)∧(insV l)[i*4+3]? =some (.int .i64 (l.getD i default).d):=by
 induction l generalizing i with
 |nil=>simp at h
 |cons x r ih=>
  have e:insV (x::r)= .int .i64 x.op:: .int .i64 x.a:: .int .i64 x.n:: .int .i64 x.d::insV r:=rfl
  rw [e]
  cases i with
  |zero=>exact⟨rfl,rfl,rfl,rfl⟩
  |succ i=>
   have:=ih i (by simpa using h)
   rw [show(i+1)*4=i*4+1+1+1+1 by omega]
   exact this
def InsOk(l:List Ins):Prop:=∀x∈l,I64 x.n∧I64 x.d
theorem LRow.insAt{base:Nat}{w:World}{v:Value}{l:List Ins}(h:LRow base w v l)(hl:l.length≤1000000)(hi:InsOk l):InsAt w v l:=by
 obtain⟨a,c,rfl,hc,h0⟩:=rowForm3 h
 refine⟨hl,a,c,rfl,h0.imp id ?_⟩
 rintro⟨b,rfl,-,-,hlt⟩
 refine⟨b,0,rfl,hlt,fun i hi2=>?_⟩
 obtain⟨e1,e2,e3,e4⟩:=insV_get l i hi2
 have hr:w.ownsRow base 103 4 (.slice (some ⟨b,0,none⟩) l.length c) l.length (insV l):=h
 rw [Nat.zero_add]
 refine⟨hi _ ?_,(hr.cellAt (i*4) (by omega)).trans e1,(hr.cellAt (i*4+1) (by omega)).trans e2,(hr.cellAt (i*4+2) (by omega)).trans e3,(hr.cellAt (i*4+3) (by omega)).trans e4⟩
 rw [List.getD_eq_getElem?_getD,List.getElem?_eq_getElem hi2];exact List.getElem_mem hi2
def CodeP(w:World)(l:List Ins)(sl:List ByteArray)(e:Ending)(w':World):Prop:=
 ∃a c vS base,e= .returned (.agg #[.slice a l.length c,vS])∧w.Grows w'∧w.heap.size≤base∧base≤w'.heap.size∧LRow base w' (.slice a l.length c) l∧w'.ownsRow base 9 1 vS sl.length (slV sl)∧∀b,(Value.slice a l.length c).ownBlock=some b→vS.ownBlock≠some b
theorem names_size(i:Nat):∀s∈namesM i,s.size≤maxLen:=by
 intro s hs
 obtain⟨j,-,rfl⟩:=List.mem_map.1 hs
 rw [letN_size];decide
theorem names_len(i:Nat):(namesM i).length=i:=by simp [namesM]
theorem insV_set0(l:List Ins)(i:Nat)(z:Int)(hi:i<l.length):(insV l).set (i*4+0) (.int .i64 z)=insV (l.set i {l.getD i default with op:=z}):=by
 induction l generalizing i with
 |nil=>simp at hi
 |cons x r ih=>
  cases i with
  |zero=>rfl
  |succ i=>
   have h1:insV (x::r)= [.int .i64 x.op,.int .i64 x.a,.int .i64 x.n,.int .i64 x.d]++insV r:=rfl
   have h2:(x::r).set (i+1) {(x::r).getD (i+1) default with op:=z} =x::r.set i {r.getD i default with op:=z}:=rfl
   have h3:insV (x::r.set i {r.getD i default with op:=z})= [.int .i64 x.op,.int .i64 x.a,.int .i64 x.n,.int .i64 x.d]++insV (r.set i {r.getD i default with op:=z}):=rfl
   rw [h1,h2,h3,show(i+1)*4+0=4+(i*4+0)by omega,List.set_append_right _ _ (by simp)]
   show _++(insV r).set (4+(i*4+0)-4) _=_
   rw [Nat.add_sub_cancel_left,ih i (by simpa using hi)]
theorem insV_set1(l:List Ins)(i:Nat)(z:Int)(hi:i<l.length):(insV l).set (i*4+1) (.int .i64 z)=insV (l.set i {l.getD i default with a:=z}):=by
 induction l generalizing i with
 |nil=>simp at hi
 |cons x r ih=>
  cases i with
  |zero=>rfl
  |succ i=>
   have h1:insV (x::r)= [.int .i64 x.op,.int .i64 x.a,.int .i64 x.n,.int .i64 x.d]++insV r:=rfl
   have h2:(x::r).set (i+1) {(x::r).getD (i+1) default with a:=z} =x::r.set i {r.getD i default with a:=z}:=rfl
   have h3:insV (x::r.set i {r.getD i default with a:=z})= [.int .i64 x.op,.int .i64 x.a,.int .i64 x.n,.int .i64 x.d]++insV (r.set i {r.getD i default with a:=z}):=rfl
   rw [h1,h2,h3,show(i+1)*4+1=4+(i*4+1)by omega,List.set_append_right _ _ (by simp)]
   show _++(insV r).set (4+(i*4+1)-4) _=_
   rw [Nat.add_sub_cancel_left,ih i (by simpa using hi)]
theorem insV_set2(l:List Ins)(i:Nat)(z:Int)(hi:i<l.length):(insV l).set (i*4+2) (.int .i64 z)=insV (l.set i {l.getD i default with n:=z}):=by
 induction l generalizing i with
 |nil=>simp at hi
 |cons x r ih=>
  cases i with
  |zero=>rfl
  |succ i=>
   have h1:insV (x::r)= [.int .i64 x.op,.int .i64 x.a,.int .i64 x.n,.int .i64 x.d]++insV r:=rfl
   have h2:(x::r).set (i+1) {(x::r).getD (i+1) default with n:=z} =x::r.set i {r.getD i default with n:=z}:=rfl
   have h3:insV (x::r.set i {r.getD i default with n:=z})= [.int .i64 x.op,.int .i64 x.a,.int .i64 x.n,.int .i64 x.d]++insV (r.set i {r.getD i default with n:=z}):=rfl
   rw [h1,h2,h3,show(i+1)*4+2=4+(i*4+2)by omega,List.set_append_right _ _ (by simp)]
   show _++(insV r).set (4+(i*4+2)-4) _=_
   rw [Nat.add_sub_cancel_left,ih i (by simpa using hi)]
theorem insV_set3(l:List Ins)(i:Nat)(z:Int)(hi:i<l.length):(insV l).set (i*4+3) (.int .i64 z)=insV (l.set i {l.getD i default with d:=z}):=by
 induction l generalizing i with
 |nil=>simp at hi
 |cons x r ih=>
  cases i with
  |zero=>rfl
  |succ i=>
   have h1:insV (x::r)= [.int .i64 x.op,.int .i64 x.a,.int .i64 x.n,.int .i64 x.d]++insV r:=rfl
   have h2:(x::r).set (i+1) {(x::r).getD (i+1) default with d:=z} =x::r.set i {r.getD i default with d:=z}:=rfl
   have h3:insV (x::r.set i {r.getD i default with d:=z})= [.int .i64 x.op,.int .i64 x.a,.int .i64 x.n,.int .i64 x.d]++insV (r.set i {r.getD i default with d:=z}):=rfl
   rw [h1,h2,h3,show(i+1)*4+3=4+(i*4+3)by omega,List.set_append_right _ _ (by simp)]
   show _++(insV r).set (4+(i*4+3)-4) _=_
   rw [Nat.add_sub_cancel_left,ih i (by simpa using hi)]
theorem insV_take(l:List Ins)(k:Nat):insV (l.take k)=(insV l).take (k*4):=by
 induction l generalizing k with
 |nil=>simp [insV]
 |cons x r ih=>
  cases k with
  |zero=>simp [insV]
  |succ k=>
   have h1:insV (x::r)= .int .i64 x.op:: .int .i64 x.a:: .int .i64 x.n:: .int .i64 x.d::insV r:=rfl
   have h2:insV (x::r.take k)= .int .i64 x.op:: .int .i64 x.a:: .int .i64 x.n:: .int .i64 x.d::insV (r.take k):=rfl
   rw [List.take_succ_cons,h2,h1,ih,show(k+1)*4=k*4+1+1+1+1 by omega];rfl
theorem insV_drop(l:List Ins)(k:Nat):insV (l.drop k)=(insV l).drop (k*4):=by
 have h:=congrArg insV (List.take_append_drop k l)
 have h2:=List.take_append_drop (k*4) (insV l)
 rw [insV_app,insV_take]at h
 exact List.append_cancel_left (h.trans h2.symm)
theorem insV_one(l:List Ins):∀u∈insV l,u.oneCell'=true:=by
 intro u hu
 obtain⟨x,-,hx⟩:=List.mem_flatMap.1 hu
 simp at hx
 rcases hx with rfl|rfl|rfl|rfl<;>rfl
theorem slV_one(l:List ByteArray):∀u∈slV l,u.oneCell'=true:=by
 intro u hu
 obtain⟨x,-,rfl⟩:=List.mem_map.1 hu
 rfl
theorem InsOk.set{l:List Ins}(h:InsOk l)(k:Nat){x:Ins}(hx:I64 x.n∧I64 x.d):InsOk (l.set k x):=fun y hy=>by
 rcases List.mem_or_eq_of_mem_set hy with hy|rfl
 ·exact h y hy
 ·exact hx
theorem InsOk.at{l:List Ins}(h:InsOk l)(k:Nat):I64 (l.getD k default).n∧I64 (l.getD k default).d:=by
 rw [List.getD_eq_getElem?_getD]
 cases e:l[k]? with
 |none=>exact⟨⟨by decide,by decide⟩,⟨by decide,by decide⟩⟩
 |some x=>exact h x (List.mem_of_getElem? e)
structure Spo(w:World)(base g:Nat)(cI cS vI vS:Value)(l:List Ins)(sl:List ByteArray)(W:World):Prop where
 gr:w.Grows W
 wg:w.heap.size≤g
 wb:w.heap.size≤base
 gW:g<W.heap.size
 bW:base≤W.heap.size
 blk:∃ty,W.heap[g]? =some (.cells #[cI,cS] ty (0,0))
 row:LRow base W vI l
 slr:W.ownsRow base 9 1 vS sl.length (slV sl)
 dIS:∀b,vI.ownBlock=some b→vS.ownBlock≠some b
 dI:vI.ownBlock≠some g
 dS:vS.ownBlock≠some g
section
variable {w W W' W1 : World} {base g : Nat} {cI cS vI vS v1 : Value} {l l1 : List Ins} {sl sl1 : List ByteArray}
theorem own_down{b b' size n:Nat}{e:TypeId}{v:Value}{xs:List Value}(h:W.ownsRow b e size v n xs)(hb:b'≤b):W.ownsRow b' e size v n xs:=by
 exact sz41
theorem Spo.grows(h:Spo w base g cI cS vI vS l sl W)(hg:W.Grows W'):Spo w base g cI cS vI vS l sl W':=by
 obtain⟨ty,hb⟩:=h.blk
 exact⟨h.gr.trans' hg,h.wg,h.wb,Nat.lt_of_lt_of_le h.gW hg.below.size,Nat.le_trans h.bW hg.below.size,⟨ty,(hg.below.block g h.gW).trans hb⟩,h.row.grows hg,keptNe h.slr (grownOf hg none) (fun _ e=>by cases e),h.dIS,h.dI,h.dS⟩
theorem Spo.setc(h:Spo w base g cI cS vI vS l sl W)(j:Nat)(u:Value){dI dS:Value}(hd:((#[cI,cS]:Array Value).setIfInBounds j u)=#[dI,dS]):Spo w base g dI dS vI vS l sl (W.setCell ⟨g,j,none⟩ u):=by
 obtain⟨ty,hb⟩:=h.blk
 have hg:=grownSet W g j u
 refine⟨.of_below (h.gr.below.setCell h.wg u),h.wg,h.wb,Nat.lt_of_lt_of_le h.gW hg.size,Nat.le_trans h.bW hg.size,⟨ty, ?_⟩,keptNe h.row hg ?_,keptNe h.slr hg ?_,h.dIS,h.dI,h.dS⟩
 ·rw [←hd];exact Go.Joins.block_setCell hb u
 ·rintro b ⟨⟩ e;exact h.dI e
 ·rintro b ⟨⟩ e;exact h.dS e
theorem Spo.setI(h:Spo w base g cI cS vI vS l sl W)(u:Value):Spo w base g u cS vI vS l sl (W.setCell ⟨g,0,none⟩ u):=h.setc 0 u rfl
theorem Spo.c0(h:Spo w base g cI cS vI vS l sl W):W.cell? ⟨g,0,none⟩=some cI:=by obtain⟨ty,hb⟩:=h.blk;exact cell_of_row W g 0 _ _ _ hb
theorem Spo.c1(h:Spo w base g cI cS vI vS l sl W):W.cell? ⟨g,1,none⟩=some cS:=by obtain⟨ty,hb⟩:=h.blk;exact cell_of_row W g 1 _ _ _ hb
theorem Spo.f(h:Spo w base g cI cS vI vS l sl W)(j:Nat):W.frozen? ⟨g,j,none⟩=false:=by obtain⟨ty,hb⟩:=h.blk;exact Go.Joins.unfrozen_of_block hb j
theorem Spo.poke{gg n c:Nat}(h:Spo w base g cI cS (.slice (some ⟨gg,0,none⟩) n c) vS l sl W)(hn:n=l.length)(o:Nat)(u:Value)(hs:(insV l).set o u=insV l1)(hl:l1.length=l.length):Spo w base g cI cS (.slice (some ⟨gg,0,none⟩) n c) vS l1 sl (W.setCell ⟨gg,o,none⟩ u):=by
 subst hn
 have hr:=h.row
 unfold LRow at hr
 obtain⟨h1,h2⟩:=hr.stored o u
 have hb:=(hr.lt gg rfl).1
 obtain⟨ty,hbk⟩:=h.blk
 refine⟨World.Grows.grown h.gr h2 (fun k e=>by cases e;have:=h.wb;omega),h.wg,h.wb,Nat.lt_of_lt_of_le h.gW h2.size,Nat.le_trans h.bW h2.size,⟨ty,(h2.block g h.gW (fun e=>h.dI e.symm)).trans hbk⟩, ?_,keptNe h.slr h2 h.dIS,h.dIS,h.dI,h.dS⟩
 unfold LRow
 rw [←hs,hl]
 exact h1
theorem Spo.cellI{gg n c:Nat}(h:Spo w base g cI cS (.slice (some ⟨gg,0,none⟩) n c) vS l sl W)(hn:n=l.length)(o:Nat)(ho:o<l.length*4):(∃u,W.cell? ⟨gg,o,none⟩=some u)∧W.frozen? ⟨gg,o,none⟩=false:=by
 subst hn
 have hr:=h.row
 unfold LRow at hr
 refine⟨?_,hr.frozenAt _⟩
 have:=hr.cellAt o (by omega)
 rw [this,List.getElem?_eq_getElem (by rw [insV_len];omega)]
 exact⟨_,rfl⟩
theorem Spo.cellA{gg n c:Nat}(h:Spo w base g cI cS (.slice (some ⟨gg,0,none⟩) n c) vS l sl W)(hn:n=l.length)(k:Nat)(hk:k<l.length):W.cell? ⟨gg,k*4+1,none⟩=some (.int .i64 (l.getD k default).a):=by
 subst hn
 have hr:=h.row
 unfold LRow at hr
 exact(hr.cellAt (k*4+1) (by omega)).trans (insV_get l k hk).2.1
theorem Spo.cells{gg n c:Nat}(h:Spo w base g cI cS (.slice (some ⟨gg,0,none⟩) n c) vS l sl W)(hn:n=l.length)(j:Nat)(u:Value)(hj:(insV l)[j]? =some u):W.cell? ⟨gg,j,none⟩=some u:=by
 subst hn
 have hr:=h.row
 unfold LRow at hr
 have:=(List.getElem?_eq_some_iff.1 hj).1
 rw [insV_len]at this
 exact(hr.cellAt j this).trans hj
theorem Spo.name{gg n c:Nat}(h:Spo w base g cI cS vI (.slice (some ⟨gg,0,none⟩) n c) l sl W)(hn:n=sl.length)(i:Nat)(s:ByteArray):Spo w base g cI cS vI (.slice (some ⟨gg,0,none⟩) n c) l (sl.set i s) (W.setCell ⟨gg,i,none⟩ (.string s)):=by
 subst hn
 obtain⟨h1,h2⟩:=h.slr.stored i (.string s)
 have hb:=(h.slr.lt gg rfl).1
 obtain⟨ty,hbk⟩:=h.blk
 refine⟨World.Grows.grown h.gr h2 (fun k e=>by cases e;have:=h.wb;omega),h.wg,h.wb,Nat.lt_of_lt_of_le h.gW h2.size,Nat.le_trans h.bW h2.size,⟨ty,(h2.block g h.gW (fun e=>h.dS e.symm)).trans hbk⟩,keptNe h.row h2 (apSym h.dIS), ?_,h.dIS,h.dI,h.dS⟩
 rw [List.length_set,slV,List.map_set]
 exact h1
theorem Spo.cellS{gg n c:Nat}(h:Spo w base g cI cS vI (.slice (some ⟨gg,0,none⟩) n c) l sl W)(hn:n=sl.length)(i:Nat)(hi:i<sl.length):(∃u,W.cell? ⟨gg,i,none⟩=some u)∧W.frozen? ⟨gg,i,none⟩=false:=by
 subst hn
 refine⟨?_,h.slr.frozenAt _⟩
 have:=h.slr.cellAt i (by omega)
 rw [this,slV_get sl i hi]
 exact⟨_,rfl⟩
theorem Spo.newI(h:Spo w base g cI cS vI vS l sl W)(hg:W.Grows W1)(hr:LRow W.heap.size W1 v1 l1):Spo w base g cI cS v1 vS l1 sl W1:=by
 have h1:=h.grows hg
 refine⟨h1.gr,h1.wg,h1.wb,h1.gW,h1.bW,h1.blk,own_down hr h.bW,h1.slr,fun b e e2=>?_,fun e=>?_,h1.dS⟩
 ·have:=(hr.lt b e).1;have:=(h.slr.lt b e2).2;omega
 ·have:=(hr.lt g e).1;have:=h.gW;omega
end
theorem step_app_own9{P:Program}{ops:Array Oper}{o:Oper}{a:Act}{w:World}{K:Act→World→Prop}{Q:Exit→Act→World→Prop}{E:Prop}(hgd:o.guard=none)(s x:Operand)(t:TypeId)
 (ho:o.op= .call {callee:=.builtin .append,args:=#[s,x],argTypes:=#[t,t]})
 (base:Nat) (e:TypeId) (i:TypeInfo) (z:Value) (size bytes:Nat) (ht:P.underlying t=some (.slice e)) (hi:P.info? e=some i) (hz:i.zero=some z)
 (hsize:i.size=size) (hby:i.bytes=bytes) (hzs:z.cells.size=size) (hsz:0<size)
 (v:Value) (n:Nat) (xs:List Value) (hs:a.eval s=v) (hown:w.ownsRow base e size v n xs)
 (ad:Addr) (m c:Nat) (news:List Value) (hx:a.eval x= .slice (some ad) m c) (hl:news.length=m*size) (hnews:∀j u,news[j]? =some u→w.cell? (ad.add j)=some u) (h1:∀u∈news,u.oneCell'=true)
 (h63:n+m≤maxLen) (hbytes:(n+m)*bytes≤140737488355328) (hbase:base≤w.heap.size)
 (h:∀v' w',w'.ownsRow base e size v' (n+m) (xs++news)→w.grownBy w' v.ownBlock→K (a.put o.dst v') w') :
 if Region.wanted o (yielded ops a.tmps)=true then Oper.wp P o a w K Q else E:=by
 have hw:Region.wanted o (yielded ops a.tmps)=true:=by simp [Region.wanted,hgd]
 rw [if_pos hw]
 exact wp_append_own w s x t ho base e i z size bytes ht hi hz hsize hby hzs hsz v n xs hs hown ad m c news hx hl hnews h1 h63 hbytes hbase fun v' w' h2 h3 _=>h v' w' h2 h3
theorem step_app_none9{P:Program}{ops:Array Oper}{o:Oper}{a:Act}{w:World}{K:Act→World→Prop}{Q:Exit→Act→World→Prop}{E:Prop}(hgd:o.guard=none)(s x:Operand)(t:TypeId)
 (ho:o.op= .call {callee:=.builtin .append,args:=#[s,x],argTypes:=#[t,t]})
 (base:Nat) (e:TypeId) (i:TypeInfo) (size:Nat) (ht:P.underlying t=some (.slice e)) (hi:P.info? e=some i)
 (v:Value) (n:Nat) (xs:List Value) (hs:a.eval s=v) (hown:w.ownsRow base e size v n xs) (hx:a.eval x= .slice none 0 0)
 (h:K (a.put o.dst v) w):if Region.wanted o (yielded ops a.tmps)=true then Oper.wp P o a w K Q else E:=by
 have hw:Region.wanted o (yielded ops a.tmps)=true:=by simp [Region.wanted,hgd]
 rw [if_pos hw]
 have hrun:=run_append_owned_none (P:=P) (w:=w) base t o.type e i size ht hi v n xs hown
 unfold Oper.wp
 simp [execOp,ho,resolve,invoke,builtin,hs,hx,hrun,Result.andThen]
 exact h
theorem step_app_rows{ops:Array Oper}{o:Oper}{a:Act}{w:World}{K:Act→World→Prop}{Q:Exit→Act→World→Prop}{E:Prop}(hgd:o.guard=none)(s x:Operand)(t:TypeId)
 (ho:o.op= .call {callee:=.builtin .append,args:=#[s,x],argTypes:=#[t,t]})
 (base base':Nat) (e:TypeId) (i:TypeInfo) (z:Value) (size bytes:Nat) (ht:Tryz.prog.underlying t=some (.slice e)) (hi:Tryz.prog.info? e=some i) (hz:i.zero=some z)
 (hsize:i.size=size) (hby:i.bytes=bytes) (hzs:z.cells.size=size) (hsz:0<size)
 (v u:Value) (n m:Nat) (A B:List Value) (hs:a.eval s=v) (hx:a.eval x=u) (hA:w.ownsRow base e size v n A) (hB:w.ownsRow base' e size u m B) (h1:∀y∈B,y.oneCell'=true)
 (h63:n+m≤maxLen) (hbytes:(n+m)*bytes≤140737488355328) (hbase:base≤w.heap.size)
 (h:∀v' w',w'.ownsRow base e size v' (n+m) (A++B)→w.grownBy w' v.ownBlock→K (a.put o.dst v') w') :
 if Region.wanted o (yielded ops a.tmps)=true then Oper.wp Tryz.prog o a w K Q else E:=by
 obtain⟨hlB,⟨rfl,h0⟩|⟨g,cap,cur,rfl,hbg,hgl,-⟩⟩:=id hB
 ·refine step_app_none9 hgd s x t ho base e i size ht hi v _ _ hs hA hx (h v w ?_ (grownBy_refl' _ _))
  subst h0
  have:B= []:=List.eq_nil_of_length_eq_zero (by omega)
  subst this
  simpa using hA
 ·refine step_app_own9 hgd s x t ho base e i z size bytes ht hi hz hsize hby hzs hsz v n _ hs hA ⟨g,0,none⟩ m cap _ hx hlB (fun j y hy=>?_) h1 h63 hbytes hbase (fun v' w' h1 h2=>h v' w' h1 h2)
  have hj:=(List.getElem?_eq_some_iff.1 hy).1
  rw [show(⟨g,0,none⟩:Addr).add j=⟨g,j,none⟩by unfold Addr.add;split<;>simp_all,hB.cellAt j (by omega)];exact hy
def PkAt(w:World)(v:Value)(l:List (Int × Int × Int)):Prop:=
 ∃a cap,v= .slice a l.length cap∧(l.length=0∨∃b off,a=some ⟨b,off,none⟩∧b<w.heap.size∧∀i,i<l.length→w.cell? ⟨b,off+i*3,none⟩=some (.int .i64 (l.getD i default).1)∧w.cell? ⟨b,off+i*3+1,none⟩=some (.int .i64 (l.getD i default).2.1)∧w.cell? ⟨b,off+i*3+2,none⟩=some (.int .i64 (l.getD i default).2.2))
theorem PkAt.grows{w w':World}{v:Value}{l:List (Int × Int × Int)}(h:PkAt w v l)(hg:w.Grows w'):PkAt w' v l:=by
 obtain⟨a,cap,hv,h1⟩:=h
 refine⟨a,cap,hv,h1.imp id ?_⟩
 rintro⟨b,off,ha,hb,hc⟩
 have hs:=hg.below.size
 have e:∀o,w'.cell? ⟨b,o,none⟩=w.cell? ⟨b,o,none⟩:=fun o=>World.cell?_of_block (hg.below.block b hb)
 refine⟨b,off,ha,by omega,fun i hi=>?_⟩
 obtain⟨k1,k2,k3⟩:=hc i hi
 exact⟨(e _).trans k1,(e _).trans k2,(e _).trans k3⟩
end Go.Proofs.YtblkcgceefjmjaaGreatDoor
namespace Go.Proofs.YtblkcgceefjmjaaGreatDoor
theorem cmpF_ok{a b c d:Int}(ha:vfrac a b=true)(hb:vfrac c d=true):cmpF a b c d=(cmpI a b c d,0):=by
 unfold cmpF;rw [ha,hb];rfl
theorem dims_ne{op:Int}{x y:Val}(ho:op=7∨op=8∨op=9∨op=10∨op=19∨op=20∨(11≤op∧op≤16))(hr:resD op [x.dim,y.dim]≠0):x.dim≠1∧y.dim≠1:=by
 have h9:op=9∨op=10∨((op=7∨op=8∨op=19∨op=20)∨(11≤op∧op≤16)):=by omega
 rcases h9 with rfl|rfl|h|h
 ·rw [res_mul]at hr
  (repeat' split at hr)<;>omega
 ·rw [res_div]at hr
  (repeat' split at hr)<;>omega
 ·rw [res_add _ _ h]at hr
  (repeat' split at hr)<;>omega
 ·rw [res_cmp _ _ h]at hr
  (repeat' split at hr)<;>omega
end Go.Proofs.YtblkcgceefjmjaaGreatDoor
namespace Go.Proofs.YtblkcgceefjmjaaGreatDoor
open Go.RowKit
def inV(o:Option Val):Value:=match o with|some x=>.tuple #[valV x,.bool true]|none=>.tuple #[valV .zero,.bool false]
theorem inp_cases{s:List UInt8}(h:inpD s≠0):s= [98,97,115,101]∨s= [97,103,101]∨s= [121,101,97,114]∨s= [99,104,105,108,100,114,101,110]∨s= [105,110,115,117,114,101,100]∨s= [119,111,114,107,101,100]∨s= [118,111,108,117,110,116,97,114,121]∨s= [115,101,114,118,105,99,101]∨s= [101,113,117,97,116,101,100]∨s= [114,97,105,115,105,110,103]∨s= [114,101,115,105,100,101,110,116]:=by
 unfold inpD at h
 split at h
 ·rename_i c;rcases c with c|c|c<;>simp [c]
 ·split at h
  ·rename_i c;rcases c with c|c|c|c|c|c|c<;>simp [c]
  ·split at h
   ·rename_i c;simp [c]
   ·exact absurd rfl h
theorem input2_some(v:Vw)(y:Value)(s:ByteArray)(w:World)(hr:VwRng v)(hy:YrAt w y v.years)(hd:inpD s.toList≠0)(hv:v.ok=true):(Calls Tryz.prog 100 #[vwV v y,.string s] w fun r w'=>r= .returned (inV (inputV v s))∧w.Grows w'):=by
 have HF:inputV v s=some (.num (inpD s.toList) (v.numF s.toList).1 (v.numF s.toList).2):=by unfold inputV;rw [if_neg (by rw [hv];simp [hd])]
 rw [HF]
 show Calls _ _ _ _ fun r w'=>r= .returned (.tuple #[.agg #[.int .i64 (inpD s.toList),.bool false,.int .i64 (v.numF s.toList).1,.int .i64 (v.numF s.toList).2],.bool true])∧_
 have HY:=Lib.hid hy
 have HV:=Lib.hid (fun w' (hg:w.Grows w')=>ValidView2_any v y w' hr (HY.out.grows hg))
 have HI:=Lib.hid (fun w=>Input2_any s w)
 have HN:=Lib.hid (fun m n d w=>evnum_any m n d w)
 unfold valV Val.num at HN
 dsimp only at HN
 obtain⟨-,a,c,rfl,-⟩:=hy
 unfold vwV at HV ⊢
 rw [hv]at HV
 have hc:=inp_cases hd
 clear hr HF hv
 have HG:Hid (∀o1 o2,w.Grows ((w.alloc o1).alloc o2)):=Lib.hid (fun o1 o2=>.of_below belB)
 rcases hc with hs|hs|hs|hs|hs|hs|hs|hs|hs|hs|hs
 all_goals
  rw [hs]at HI hd ⊢
  simp [inpD]at HI
  simp only [inpD,Vw.numF]
  simp
  clear hd
  go_enter Tryz.func100,Tryz.ntmps100
  go_wp2_with (first
   |(go_at_call 137;refine(HI.out _).mono ?_;rintro e' w' ⟨rfl,rfl⟩)
   |(go_at_call 99;refine(HV.out _ (HG.out _ _)).mono ?_;rintro e' w' ⟨rfl,bs,d,rfl⟩)
   |(go_at_call 178;refine(HN.out _ _ _ _).mono ?_;rintro e' w' ⟨rfl,bs2,d2,rfl⟩))
  exact sz15
end Go.Proofs.YtblkcgceefjmjaaGreatDoor
namespace Go.Proofs.YtblkcgceefjmjaaGreatDoor
theorem made_in{l:List (List Int)}{i:Nat}(hi:i≤5){e:Ex}{d:Int}(hf:formedB e=true)(ht:inferF (envM l i) e=(d,0)):∀s,mentB s e=true→inpK s=none→s∈namesM i:=fun s hs hk=>by
 have h2:=infer_named e hf (by rw [ht]) hs
 obtain⟨j,hj,rfl,-⟩:=envM_last hi (inpK_none hk) h2
 exact List.mem_map.2 ⟨j,List.mem_range.2 hj,rfl⟩
theorem top_len{l:List (List Int)}{i:Nat}(hi:i≤5)(zs:List Int){dim:Int}(h1:1≤dim)(h4:dim≤4)(κ:ByteArray→Nat)(k:Nat):(codeF κ (topF zs (envM l i) dim) k).length≤180:=by
 obtain⟨g1,-,-,g4⟩:=good_made (l:=l) hi zs h1 h4
 have:=code_len (κ:=κ) _ g1 k
 omega
theorem codeS_len(ls:List (List Int))(g:List Int):∀k,k≤5→(codeS ls g k).length≤400*k
 |0,_=>Nat.le_refl _
 |k+1,h=>by
  have ih:=codeS_len ls g k (by omega)
  have hb:=dimM_bd ls k
  have t1:=fun n=>top_len (l:=ls) (i:=k) (by omega) g (dim:=1) (by omega) (by omega) (slK (namesM k)) n
  have t2:=fun n=>top_len (l:=ls) (i:=k) (by omega) (ls.getD k []) hb.1 hb.2 (slK (namesM k)) n
  have e:(dfnM ls k).e=topF (ls.getD k []) (envM ls k) (dimM ls k):=rfl
  rw [codeS,e]
  dsimp only
  split
  ·rw [setA_len]
   simp only [List.length_append,List.length_cons,List.length_nil]
   have a:=t1 (codeS ls g k).length
   have b:=t2 ((codeS ls g k).length+(codeF (slK (namesM k)) (topF g (envM ls k) 1) (codeS ls g k).length).length+(0+1))
   omega
  ·simp only [List.length_append,List.length_cons,List.length_nil]
   have b:=t2 (codeS ls g k).length
   omega
theorem namesM_snoc(k:Nat):namesM k++[letN k]=namesM (k+1):=by unfold namesM;rw [List.range_succ,List.map_append];rfl
theorem envM_snoc(ls:List (List Int))(k:Nat):envM ls k++[(letN k,dimM ls k)]=envM ls (k+1):=by unfold envM;rw [List.range_succ,List.map_append];rfl
theorem envM_len(ls:List (List Int))(k:Nat):(envM ls k).length=k:=by simp [envM]
theorem envM_size(ls:List (List Int))(k:Nat):∀x∈envM ls k,x.1.size≤140737488355328:=by
 intro x hx
 obtain⟨i,_,rfl⟩:=List.mem_map.1 hx
 show(letN i).size≤_
 rw [letN_size];omega
structure RdC(ls:List (List Int))(g:List Int)(k:Nat)(Eg Ed:Ex)(L0 L1 L2 L3 L4:List Ins):Prop where
 h1:L1=L0++codeF (slK (namesM k)) Eg L0.length
 h2:L2=L1++[⟨22,0,0,0⟩]
 h3:L3=L2++codeF (slK (namesM k)) Ed L2.length
 h4:L4=L3++[⟨4,(k:Int),0,0⟩]
 h5:setA L4 L1.length L4.length=codeS ls g (k+1)
 n:L0.length≤2000∧L0.length≤L1.length∧L1.length+1=L2.length∧L2.length≤L3.length∧L3.length+1=L4.length∧L4.length≤4000
theorem rd_guard(ls:List (List Int))(g:List Int)(k:Nat)(hk:k<5)(hl:lastB ls.length k=true)(hg:0<g.length):∃L1 L2 L3 L4,RdC ls g k (topF g (envM ls k) 1) (dfnM ls k).e (codeS ls g k) L1 L2 L3 L4:=by
 refine⟨_,_,_,_,rfl,rfl,rfl,rfl, ?_, ?_⟩
 ·rw [codeS]
  simp only [hl,hg,decide_true,Bool.and_self,if_true]
 ·have ih:=codeS_len ls g k (by omega)
  have hb:=dimM_bd ls k
  have t1:=top_len (l:=ls) (i:=k) (by omega) g (dim:=1) (by omega) (by omega) (slK (namesM k)) (codeS ls g k).length
  have t2:=fun n=>top_len (l:=ls) (i:=k) (by omega) (ls.getD k []) hb.1 hb.2 (slK (namesM k)) n
  have e:(dfnM ls k).e=topF (ls.getD k []) (envM ls k) (dimM ls k):=rfl
  rw [e]
  generalize codeS ls g k=L0 at *
  suffices h:∀L1 L2 L3 L4:List Ins,L1=L0++codeF (slK (namesM k)) (topF g (envM ls k) 1) L0.length→L2=L1++[⟨22,0,0,0⟩]→L3=L2++codeF (slK (namesM k)) (topF (ls.getD k []) (envM ls k) (dimM ls k)) L2.length→L4=L3++[⟨4,(k:Int),0,0⟩]→
   L0.length≤2000∧L0.length≤L1.length∧L1.length+1=L2.length∧L2.length≤L3.length∧L3.length+1=L4.length∧L4.length≤4000 from h _ _ _ _ rfl rfl rfl rfl
  intro L1 L2 L3 L4 h1 h2 h3 h4
  have n1:=congrArg List.length h1
  have n2:=congrArg List.length h2
  have n3:=congrArg List.length h3
  have n4:=congrArg List.length h4
  rw [List.length_append]at n1 n2 n3 n4
  rw [List.length_singleton]at n2 n4
  have b:=t2 L2.length
  omega
structure RdP(ls:List (List Int))(g:List Int)(k:Nat)(Ed:Ex)(L0 L3 L4:List Ins):Prop where
 h3:L3=L0++codeF (slK (namesM k)) Ed L0.length
 h4:L4=L3++[⟨4,(k:Int),0,0⟩]
 h5:L4=codeS ls g (k+1)
 n:L0.length≤2000∧L0.length≤L3.length∧L3.length+1=L4.length∧L4.length≤4000
theorem rd_plain(ls:List (List Int))(g:List Int)(k:Nat)(hk:k<5)(hl:(lastB ls.length k&&decide (0<g.length))=false):∃L3 L4,RdP ls g k (dfnM ls k).e (codeS ls g k) L3 L4:=by
 refine⟨_,_,rfl,rfl, ?_, ?_⟩
 ·rw [codeS]
  simp only [hl,Bool.false_eq_true,if_false]
 ·have ih:=codeS_len ls g k (by omega)
  have hb:=dimM_bd ls k
  have t2:=top_len (l:=ls) (i:=k) (by omega) (ls.getD k []) hb.1 hb.2 (slK (namesM k)) (codeS ls g k).length
  have e:(dfnM ls k).e=topF (ls.getD k []) (envM ls k) (dimM ls k):=rfl
  rw [e]
  generalize codeS ls g k=L0 at *
  suffices h:∀L3 L4:List Ins,L3=L0++codeF (slK (namesM k)) (topF (ls.getD k []) (envM ls k) (dimM ls k)) L0.length→L4=L3++[⟨4,(k:Int),0,0⟩]→
   L0.length≤2000∧L0.length≤L3.length∧L3.length+1=L4.length∧L4.length≤4000 from h _ _ rfl rfl
  intro L3 L4 h3 h4
  have n3:=congrArg List.length h3
  have n4:=congrArg List.length h4
  rw [List.length_append]at n3 n4
  rw [List.length_singleton]at n4
  omega
end Go.Proofs.YtblkcgceefjmjaaGreatDoor
namespace Go.Proofs.YtblkcgceefjmjaaGreatDoor
open Go.RowKit
theorem three_bytes9(w:World)(a b c:Int):(convert 220 9 (.slice (some ⟨w.heap.size,0,none⟩) 3 3)).run Tryz.prog (w.alloc (.cells #[.int .u8 a,.int .u8 b,.int .u8 c] 5))= .ok (.string (strOfNums [a,b,c])) (w.alloc (.cells #[.int .u8 a,.int .u8 b,.int .u8 c] 5)):=by
 refine run_convert_bytes_arg (P:=Tryz.prog) _ 220 5 Tryz.underlying220 Tryz.underlying5 w.heap.size 0 3 3 [a,b,c] rfl (fun i hi=>?_) 9 Tryz.underlying9
 obtain rfl|rfl|rfl:i=0∨i=1∨i=2:=by omega
 ·rw [World.cell?_alloc_at _ _ _ _ rfl];rfl
 ·rw [World.cell?_alloc_at _ _ _ _ rfl];rfl
 ·rw [World.cell?_alloc_at _ _ _ _ rfl];rfl
theorem letName9_0(w:World):Calls Tryz.prog 82 #[.int .i64 0] w fun e w'=>e= .returned (.string (letN 0))∧w.Grows w':=by
 have kc:=three_bytes9 w 112 95 48
 exact sz26
theorem letName9_1(w:World):Calls Tryz.prog 82 #[.int .i64 1] w fun e w'=>e= .returned (.string (letN 1))∧w.Grows w':=by
 have kc:=three_bytes9 w 113 95 48
 exact sz26
theorem letName9_2(w:World):Calls Tryz.prog 82 #[.int .i64 2] w fun e w'=>e= .returned (.string (letN 2))∧w.Grows w':=by
 have kc:=three_bytes9 w 114 95 48
 exact sz26
theorem letName9_3(w:World):Calls Tryz.prog 82 #[.int .i64 3] w fun e w'=>e= .returned (.string (letN 3))∧w.Grows w':=by
 have kc:=three_bytes9 w 115 95 48
 exact sz26
theorem letName9_4(w:World):Calls Tryz.prog 82 #[.int .i64 4] w fun e w'=>e= .returned (.string (letN 4))∧w.Grows w':=by
 have kc:=three_bytes9 w 116 95 48
 exact sz26
theorem letName9_any(k:Nat)(w:World)(hk:k<5):Calls Tryz.prog 82 #[.int .i64 k] w fun e w'=>e= .returned (.string (letN k))∧w.Grows w':=by
 obtain rfl|rfl|rfl|rfl|rfl:k=0∨k=1∨k=2∨k=3∨k=4:=by omega
 ·exact letName9_0 w
 ·exact letName9_1 w
 ·exact letName9_2 w
 ·exact letName9_3 w
 ·exact letName9_4 w
def StpAt(w:World)(v:Value)(l:List (ByteArray × Val)):Prop:=SRow.Lies l w.heap.size w v l.length
theorem StpAt.below{w w':World}{v:Value}{l:List (ByteArray × Val)}{n:Nat}(h:StpAt w v l)(hn:w.heap.size≤n)(hb:Below n w w'):StpAt w' v l:=by
 have h2:=SRow.Lies.below h (hb.mono hn)
 obtain⟨h0,a,cap,hv,h1⟩:=h2
 exact⟨h0,a,cap,hv,h1.imp id fun⟨b,off,ha,hlt,hc⟩=>⟨b,off,ha,Nat.lt_of_lt_of_le hlt hb.size,hc⟩⟩
theorem StpAt.grows{w w':World}{v:Value}{l:List (ByteArray × Val)}(h:StpAt w v l)(hg:w.Grows w'):StpAt w' v l:=h.below (Nat.le_refl _) hg.below
def evC(v:Vw)(y se:Value):Array Value:=#[.int .i64 v.age,.int .i64 v.year,.int .i64 v.children,.int .i64 v.insured,.int .i64 v.worked,.int .i64 v.voluntary,.int .i64 v.service,.int .i64 v.equated,.int .i64 v.raising,.int .i64 v.resident,.int .i64 v.bn,.int .i64 v.bd,y,se]
structure EvAt(w:World)(E:Nat)(v:Vw)(y:Value)(env:List (ByteArray × Val))(se:Value):Prop where
 blk:w.heap[E]? =some (.cells (evC v y se) 235 (0,0))
 yr:YrAt w y v.years
 st:StpAt w se env
theorem EvAt.lt{w:World}{E:Nat}{v:Vw}{y:Value}{env:List (ByteArray × Val)}{se:Value}(h:EvAt w E v y env se):E<w.heap.size:=(Array.getElem?_eq_some_iff.1 h.blk).1
theorem EvAt.grows{w w':World}{E:Nat}{v:Vw}{y:Value}{env:List (ByteArray × Val)}{se:Value}(h:EvAt w E v y env se)(hg:w.Grows w'):EvAt w' E v y env se:=
 ⟨(hg.below.block E h.lt).trans h.blk,h.yr.grows hg,h.st.grows hg⟩
end Go.Proofs.YtblkcgceefjmjaaGreatDoor
namespace Go.Proofs.YtblkcgceefjmjaaGreatDoor
open Go.RowKit Go.Shelf
attribute [local go_sem] Oper.semAt_some
structure NmMem(B:Nat)(s:ByteArray)(N:Nat)(x:Val)(W:World):Prop where
 nm:W.heap[B]? =some (.cells #[.string s] 9 (0,0))
 res:W.heap[B+1]? =some (.cells #[.int .i64 x.dim,.bool x.yes,.int .i64 x.n,.int .i64 x.d] 41 (0,0))
 size:N≤W.heap.size
theorem NmMem.own{B N:Nat}{s:ByteArray}{x:Val}{X Y:World}{row:Option Nat}(h:NmMem B s N x X)(hg:X.grownBy Y row)(hr:∀r,row=some r→∃o:Obj,X.heap[r]? =some o∧o.isCells=false):NmMem B s N x Y:=
 ⟨(grownBy_keeps_cells hg hr h.nm rfl).trans h.nm,(grownBy_keeps_cells hg hr h.res rfl).trans h.res,Nat.le_trans h.size hg.size⟩
theorem NmMem.alloc{B N:Nat}{s:ByteArray}{x:Val}{X:World}(h:NmMem B s N x X)(o:Obj):NmMem B s N x (X.alloc o):=h.own (World.grownBy_alloc X o none) (fun r e=>by cases e)
theorem NmMem.below{B N:Nat}{s:ByteArray}{x:Val}{X Y:World}(h:NmMem B s N x X)(hN:B+2≤X.heap.size)(hb:Below X.heap.size X Y):NmMem B s Y.heap.size x Y:=
 ⟨(hb.block _ (by omega)).trans h.nm,(hb.block _ (by omega)).trans h.res,Nat.le_refl _⟩
end Go.Proofs.YtblkcgceefjmjaaGreatDoor
