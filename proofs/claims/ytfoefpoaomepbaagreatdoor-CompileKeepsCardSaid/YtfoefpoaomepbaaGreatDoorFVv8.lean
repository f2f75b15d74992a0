import Derived.Test.YtfoefpoaomepbaaGreatDoorFFrAll
import Derived.Test.YtfoefpoaomepbaaGreatDoorFK
import Derived.Deep.CutBlock
import Derived.Deep.CutRange
import Derived.Deep.DeepCutAuto
set_option linter.all false
set_option maxHeartbeats 16000000
set_option maxRecDepth 1000000
namespace Go.Proofs.YtfoefpoaomepbaaGreatDoor
open Go.RowKit
def Vw.rngB(v:Vw):Bool:=decide (0≤v.age∧v.age≤199∧1900≤v.year∧v.year≤2099∧0≤v.children∧v.children≤99)
def Vw.baseB(v:Vw):Bool:=vfrac v.bn v.bd&&decide (0≤v.bn∧v.bn≤1000000000000*v.bd)
theorem Vw.ok_split(v:Vw):v.ok=(v.rngB&&(v.ds.all daysOk)&&v.baseB&&yearsOk v.years):=by
 unfold Vw.ok Vw.rngB Vw.baseB Vw.ds
 simp [Bool.and_assoc]
theorem ds_bad{v:Vw}{k:Nat}(hk:k<7)(hb:daysOk (v.ds.getD k 0)=false):v.ok=false:=by
 rw [Vw.ok_split]
 have:v.ds.all daysOk=false:=by
  rw [List.all_eq_false]
  refine⟨v.ds.getD k 0, ?_,by rw [hb];simp⟩
  rw [List.getD_eq_getElem?_getD,List.getElem?_eq_getElem (show k<v.ds.length from hk)]
  exact List.getElem_mem _
 rw [this];simp
theorem ds_good{v:Vw}(hg:∀k,k<7→daysOk (v.ds.getD k 0)=true):v.ds.all daysOk=true:=by
 rw [List.all_eq_true]
 intro x hx
 obtain⟨k,hk,rfl⟩:=List.mem_iff_getElem.1 hx
 have:=hg k hk
 rwa [List.getD_eq_getElem?_getD,List.getElem?_eq_getElem hk]at this
theorem rng_bad{v:Vw}(h:¬(0≤v.age∧v.age≤199∧1900≤v.year∧v.year≤2099∧0≤v.children∧v.children≤99)):v.ok=false:=by
 rw [Vw.ok_split]
 unfold Vw.rngB
 rw [decide_eq_false h];simp
theorem vv8_rng(v:Vw)(y:Value)(w:World)(hy:∃a n c,y= .slice a n c)(h:¬(0≤v.age∧v.age≤199∧1900≤v.year∧v.year≤2099∧0≤v.children∧v.children≤99)):(Calls Tryz.prog 40 #[vwV v y] w fun r w'=>r= .returned (.bool v.ok)∧w.Grows w'):=by
 have HF:=Lib.hid (rng_bad h)
 by_cases c1:v.age<0
 ·exact fz16
 by_cases c2:v.age > 199
 ·exact fz16
 by_cases c3:v.year<1900
 ·exact fz16
 by_cases c4:v.year > 2099
 ·exact fz16
 by_cases c5:v.children<0
 ·exact fz16
 have c6:v.children > 99:=by omega
 exact fz16
theorem vv8_in(v:Vw)(y:Value)(w:World)(hr:VwRng v)(hy:YrAt w y v.years)(h:0≤v.age∧v.age≤199∧1900≤v.year∧v.year≤2099∧0≤v.children∧v.children≤99):(Calls Tryz.prog 40 #[vwV v y] w fun r w'=>r= .returned (.bool v.ok)∧w.Grows w'):=by
 have HY:=Lib.hid hy
 have HD:=Lib.hid (fun w a n c=>days_any v (.slice a n c) w ⟨a,n,c,rfl⟩)
 have HB:Hid (∀k,k<7→daysOk (v.ds.getD k 0)=false→v.ok=false):=Lib.hid (fun k hk hb=>ds_bad hk hb)
 have HG:Hid ((∀k,k<7→daysOk (v.ds.getD k 0)=true)→v.ok=(v.baseB&&yearsOk v.years)):=Lib.hid (fun hg=>by
  rw [Vw.ok_split,ds_good hg];unfold Vw.rngB;rw [decide_eq_true h];simp)
 have HI:=Lib.hid hr.base
 have HC:=Lib.hid (fun w=>Compare1_any v.bn v.bd 1000000000000 1 w ⟨hr.base.1,hr.base.2,by unfold I64;omega,by unfold I64;omega⟩)
 have HM:Hid (∀w,Calls Tryz.prog 39 #[.int .i64 1000000000000,.int .i64 1] w fun e w'=>e= .returned (.tuple #[.agg #[.int .i64 1000000000000,.int .i64 1],.int .i64 0])∧w.Grows w'):=Lib.hid (fun w=>by
  have:=MakeFraction_any 1000000000000 1 w (by decide) (by decide) (by decide) (by decide)
  rw [show mkN 1000000000000 1=1000000000000 by decide+kernel,show mkD 1000000000000 1=1 by decide+kernel,show mkE 1000000000000 1=0 by decide+kernel]at this
  exact this)
 have HYR:=Lib.hid (fun w' (hg:w.Grows w')=>amounts_any v.years y w' (HY.out.grows hg))
 obtain⟨-,a,c,rfl,-⟩:=hy
 obtain⟨h1,h2,h3,h4,h5,h6⟩:=h
 clear hr
 unfold vwV at HD ⊢
 go_enter Tryz.func40,Tryz.ntmps40
 go_wp2_with (go_at_call 94;refine(HD.out _ _ _ _).mono ?_;rintro e' w' ⟨rfl,bs,d,rfl⟩)
 obtain⟨W,hW⟩:∃W,((w.alloc (.cells #[.int .i64 v.age,.int .i64 v.year,.int .i64 v.children,.int .i64 v.insured,.int .i64 v.worked,.int .i64 v.voluntary,.int .i64 v.service,.int .i64 v.equated,.int .i64 v.raising,.int .i64 v.resident,.int .i64 v.bn,.int .i64 v.bd,.slice a v.years.length c] 38)).grow bs d).alloc (.cells #[.int .i64 v.insured,.int .i64 v.worked,.int .i64 v.voluntary,.int .i64 v.service,.int .i64 v.equated,.int .i64 v.raising,.int .i64 v.resident] 100)=W:=⟨_,rfl⟩
 have hg:w.Grows W:=by rw [←hW];exact .of_below belB
 have b0:W.cell? ⟨w.heap.size,10,none⟩=some (.int .i64 v.bn):=by rw [←hW];simp [go_sem]
 have b1:W.cell? ⟨w.heap.size,11,none⟩=some (.int .i64 v.bd):=by rw [←hW];simp [go_sem]
 have b2:W.cell? ⟨w.heap.size,12,none⟩=some (.slice a v.years.length c):=by rw [←hW];simp [go_sem]
 have HA:Hid (∀k,k<7→W.cell? ⟨w.heap.size+1+bs.size,k,none⟩=some (.int .i64 (v.ds.getD k 0))):=Lib.hid (fun k hk=>by
  rw [←hW,World.cell?_alloc_at _ _ _ _ (by simp)]
  rcases(show k=0∨k=1∨k=2∨k=3∨k=4∨k=5∨k=6 by omega)with rfl|rfl|rfl|rfl|rfl|rfl|rfl<;>rfl)
 have hsz:w.heap.size<W.heap.size:=by rw [←hW];simp;omega
 rw [hW]
 clear hW
 have HG2:=Lib.hid hg
 clear hg
 go_loopw [4] (fun v4 wr=>∃k:Nat,k≤7∧v4= .int .i64 k∧Hid (∀j,j<k→daysOk (v.ds.getD j 0)=true)∧W=wr) (fun v4 _=>7-(intOf v4).toNat)
 case atStart=>exact⟨0,by omega,rfl,Lib.hid (fun j hj=>by omega),rfl⟩
 case round=>
  obtain⟨k,hk,rfl,hno,rfl⟩:=hrel
  by_cases hlt:k<7
  ·have x0:=HA.out k hlt
   have d1:(k:Int)<7:=by omega
   have HKL:=Lib.hid hlt
   clear hlt
   obtain⟨dk,hdk⟩:∃dk,v.ds.getD k 0=dk:=⟨_,rfl⟩
   rw [hdk]at x0
   have HDK:=Lib.hid hdk
   clear hdk
   have HBD:Hid (¬(0≤dk∧dk≤73049)→v.ok=false):=Lib.hid (fun h=>HB.out k HKL.out (by rw [HDK.out];unfold daysOk;exact decide_eq_false h))
   by_cases q1:dk<0
   ·exact fz67
   ·by_cases q2:dk > 73049
    ·exact fz67
    ·go_wp2_with fail
     go_roundw
     case rel=>exact⟨k+1,HKL.out,by go_num,Lib.hid (fun j hj=>by
      by_cases ej:j=k
      ·subst ej;rw [HDK.out];unfold daysOk;exact decide_eq_true (by omega)
      ·exact hno.out j (by omega)),(by first|rfl|trivial)⟩
     case measure=>simp [intOf];have:=HKL.out;omega
  ·obtain rfl:k=7:=by omega
   have HF:=Lib.hid (HG.out hno.out)
   unfold Vw.baseB at HF
   obtain⟨q,hq⟩:∃q,vfrac v.bn v.bd=q:=⟨_,rfl⟩
   have HC2:=HC.out
   unfold cmpF frI at HC2
   rw [show vfrac 1000000000000 1=true by decide+kernel,hq,Bool.and_true]at HC2
   rw [hq]at HF
   clear hq
   obtain⟨yb,hyb⟩:∃yb,yearsOk v.years=yb:=⟨_,rfl⟩
   have HYR2:=HYR.out
   rw [hyb]at HYR2 HF
   clear hyb
   have HYR3:=Lib.hid HYR2
   clear HYR2
   cases q with
   |false=>
    simp only [Bool.false_eq_true,if_false]at HC2
    have HC3:=Lib.hid HC2
    clear HC2
    go_wp2_with (first
     |(go_at_call 39;refine(HM.out _).mono ?_;rintro e' w' ⟨rfl,bs2,d2,rfl⟩)
     |(go_at_call 95;refine(HC3.out _).mono ?_;rintro e' w' ⟨rfl,bs3,d3,rfl⟩))
    go_returns
    exact⟨ret_bool (by rw [HF.out];rfl),World.Grows.trans HG2.out (.of_below belB)⟩
   |true=>
    have hcm:cmpI v.bn v.bd 1000000000000 1≤0↔v.bn≤1000000000000*v.bd:=by
     unfold cmpI
     rw [Int.mul_one]
     (repeat' split)<;>omega
    simp only [if_true]at HC2
    generalize cmpI v.bn v.bd 1000000000000 1=cc at HC2 hcm
    have HC3:=Lib.hid HC2
    clear HC2
    have HCM:=Lib.hid hcm
    clear hcm
    by_cases g1:cc≤0
    ·by_cases g2:v.bn≥0
     ·have HF2:Hid (v.ok=yb):=Lib.hid (by rw [HF.out,decide_eq_true ⟨g2,HCM.out.1 g1⟩];rfl)
      go_wp2_with (first
       |(go_at_call 39;refine(HM.out _).mono ?_;rintro e' w' ⟨rfl,bs2,d2,rfl⟩)
       |(go_at_call 95;refine(HC3.out _).mono ?_;rintro e' w' ⟨rfl,bs3,d3,rfl⟩)
       |(go_at_call 96;refine(HYR3.out _ (World.Grows.trans HG2.out (.of_below belB))).mono ?_;rintro e' w' ⟨rfl,rfl⟩))
      go_returns
      exact⟨ret_bool (by rw [HF2.out]),World.Grows.trans HG2.out (.of_below belB)⟩
     ·have HF2:Hid (v.ok=false):=Lib.hid (by rw [HF.out,decide_eq_false (fun h=>g2 h.1)];rfl)
      go_wp2_with (first
       |(go_at_call 39;refine(HM.out _).mono ?_;rintro e' w' ⟨rfl,bs2,d2,rfl⟩)
       |(go_at_call 95;refine(HC3.out _).mono ?_;rintro e' w' ⟨rfl,bs3,d3,rfl⟩))
      go_returns
      exact⟨ret_bool (by rw [HF2.out]),World.Grows.trans HG2.out (.of_below belB)⟩
    ·have HF2:Hid (v.ok=false):=Lib.hid (by rw [HF.out,decide_eq_false (fun h=>g1 (HCM.out.2 h.2))];rfl)
     go_wp2_with (first
      |(go_at_call 39;refine(HM.out _).mono ?_;rintro e' w' ⟨rfl,bs2,d2,rfl⟩)
      |(go_at_call 95;refine(HC3.out _).mono ?_;rintro e' w' ⟨rfl,bs3,d3,rfl⟩))
     go_returns
     exact⟨ret_bool (by rw [HF2.out]),World.Grows.trans HG2.out (.of_below belB)⟩
theorem ValidView8_any(v:Vw)(y:Value)(w:World)(hr:VwRng v)(hy:YrAt w y v.years):(Calls Tryz.prog 40 #[vwV v y] w fun r w'=>r= .returned (.bool v.ok)∧w.Grows w'):=by
 by_cases h:0≤v.age∧v.age≤199∧1900≤v.year∧v.year≤2099∧0≤v.children∧v.children≤99
 ·exact vv8_in v y w hr hy h
 ·obtain⟨-,a,c,rfl,-⟩:=hy
  exact vv8_rng v _ w ⟨_,_,_,rfl⟩ h
end Go.Proofs.YtfoefpoaomepbaaGreatDoor
namespace Go.Proofs.YtfoefpoaomepbaaGreatDoor
open Go.RowKit Go.Sort Go.Lib
theorem best8_bad(l:List Int)(n:Int)(v:Value)(w:World)(hy:YrAt w v l)(h:n<1∨45<n∨yearsOk l=false):Calls Tryz.prog 57 #[v,.int .i64 n] w fun e w'=>e= .returned (frV (bestF l n))∧w.Grows w':=by
 have HF:Hid (bestF l n=(0,0,1)):=Lib.hid (by unfold bestF;rw [if_pos h])
 rw [HF.out]
 show Calls _ _ _ _ fun e w'=>e= .returned (.tuple #[.agg #[.int .i64 0,.int .i64 0],.int .i64 1])∧_
 have HY:=Lib.hid hy
 have HA:=Lib.hid (fun w' (hg:w.Grows w')=>amounts_any l v w' (HY.out.grows hg))
 obtain⟨-,a,c,rfl,-⟩:=hy
 clear HF
 by_cases h1:n<1
 ·clear h
  go_enter Tryz.func57,Tryz.ntmps57
  go_wp2_with fail
  exact fz17
 ·by_cases h2:n > 45
  ·clear h
   go_enter Tryz.func57,Tryz.ntmps57
   go_wp2_with fail
   exact fz17
  ·have h3:yearsOk l=false:=by
    rcases h with h|h|h
    ·omega
    ·omega
    ·exact h
   rw [h3]at HA
   clear h h3
   go_enter Tryz.func57,Tryz.ntmps57
   go_wp2_with (go_at_call 96;refine(HA.out _ (.of_below belB)).mono ?_;rintro e' w' ⟨rfl,rfl⟩)
   exact fz17
theorem bestF_good{l:List Int}{n:Int}(h1:1≤n)(h2:n≤45)(h3:yearsOk l=true):bestF l n=(mkN (bestS l n) n,mkD (bestS l n) n,mkE (bestS l n) n):=by
 unfold bestF;rw [if_neg (by rw [h3];simp;omega)]
end Go.Proofs.YtfoefpoaomepbaaGreatDoor
namespace Go.Proofs.YtfoefpoaomepbaaGreatDoor
def exprF'(v:Vw)(env:List (ByteArray × Val))(e:Ex):Val × Int:=
 if v.ok=false∨(env.any fun p=>!p.2.ok)=true∨validB e=false then(.zero,1)
 else if(inferF (dimsOf env) e).2≠0 then(.zero,(inferF (dimsOf env) e).2)
 else if(valueF v env e).2≠0 then(.zero,(valueF v env e).2)else valueF v env e
end Go.Proofs.YtfoefpoaomepbaaGreatDoor
