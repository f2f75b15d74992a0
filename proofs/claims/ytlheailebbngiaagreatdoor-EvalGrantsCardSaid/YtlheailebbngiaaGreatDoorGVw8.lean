import Derived.Test.YtlheailebbngiaaGreatDoorGSyE
import Derived.Test.YtlheailebbngiaaGreatDoorGFrAll
import Derived.Test.YtlheailebbngiaaGreatDoorGTyR
set_option linter.all false
set_option maxHeartbeats 16000000
set_option maxRecDepth 1000000
namespace Go.Proofs.YtlheailebbngiaaGreatDoor
open Tryz List
open Go.RowKit
def vwV(v:Vw)(y:Value):Value:=.agg #[.int .i64 v.age,.int .i64 v.year,.int .i64 v.children,.int .i64 v.insured,.int .i64 v.worked,.int .i64 v.voluntary,.int .i64 v.service,.int .i64 v.equated,.int .i64 v.raising,.int .i64 v.resident,.int .i64 v.bn,.int .i64 v.bd,y]
structure dW(v:Vw):Prop where
 base:I64 v.bn/\I64 v.bd
def Vw.ds(v:Vw):List Int:=[v.insured,v.worked,v.voluntary,v.service,v.equated,v.raising,v.resident]
theorem uI(v:Vw)(y:Value)(w:World)(hy:∃a n c,y= .slice a n c):Calls prog 50 #[vwV v y] w fun r w'=>r= .returned (.agg #[.int .i64 v.insured,.int .i64 v.worked,.int .i64 v.voluntary,.int .i64 v.service,.int .i64 v.equated,.int .i64 v.raising,.int .i64 v.resident])/\w.Grows w':=by
 obtain⟨a,n,c,rfl⟩:=hy;obtain⟨age,year,children,insured,worked,voluntary,service,equated,raising,resident,bn,bd,years⟩:=v;show Calls prog 50 #[.agg #[.int .i64 age,.int .i64 year,.int .i64 children,.int .i64 insured,.int .i64 worked,.int .i64 voluntary,.int .i64 service,.int .i64 equated,.int .i64 raising,.int .i64 resident,.int .i64 bn,.int .i64 bd,.slice a n c]] w _;dsimp only
 go_enter func50,ntmps50
 exact nR
def Vw.rngB(v:Vw):Bool:=decide (0<=v.age/\v.age<=199/\1900<=v.year/\v.year<=2099/\0<=v.children/\v.children<=99)
def Vw.baseB(v:Vw):Bool:=aA v.bn v.bd&&decide (0<=v.bn/\v.bn<=1000000000000*v.bd)
theorem Vw.ok_split(v:Vw):v.ok=(v.rngB&&(v.ds.all eB)&&v.baseB&&bF v.years):=by
 unfold Vw.ok Vw.rngB Vw.baseB Vw.ds;simp [Bool.and_assoc]
theorem Kn{v:Vw}{k:Nat}(hk:k<7)(hb:eB (v.ds.getD k 0)=false):v.ok=false:=by
 rw [Vw.ok_split]
 have:v.ds.all eB=false:=by
  rw [all_eq_false];refine⟨v.ds.getD k 0, ?_,by rw [hb];simp⟩;rw [getD_eq_getElem?_getD,getElem?_eq_getElem (show k<v.ds.length from hk)];exact getElem_mem _
 rw [this];simp
theorem ET{v:Vw}(hg:∀k,k<7->eB (v.ds.getD k 0)=true):v.ds.all eB=true:=by
 rw [all_eq_true];intro x hx;obtain⟨k,hk,rfl⟩:=mem_iff_getElem.1 hx;have:=hg k hk
 rwa [getD_eq_getElem?_getD,getElem?_eq_getElem hk]at this
theorem Eu{v:Vw}(h:¬(0<=v.age/\v.age<=199/\1900<=v.year/\v.year<=2099/\0<=v.children/\v.children<=99)):v.ok=false:=by
 rw [Vw.ok_split];unfold Vw.rngB;rw [decide_eq_false h];simp
theorem Lr(v:Vw)(y:Value)(w:World)(hy:∃a n c,y= .slice a n c)(h:¬(0<=v.age/\v.age<=199/\1900<=v.year/\v.year<=2099/\0<=v.children/\v.children<=99)):(Calls prog 21 #[vwV v y] w fun r w'=>r= .returned (.bool v.ok)/\w.Grows w'):=by
 have HF:=zh (Eu h);by_cases c1:v.age<0
 ·exact Gx
 by_cases c2:v.age > 199
 ·exact Gx
 by_cases c3:v.year<1900
 ·exact Gx
 by_cases c4:v.year > 2099
 ·exact Gx
 by_cases c5:v.children<0
 ·exact Gx
 have c6:v.children > 99:=by omega
 exact Gx
theorem OI(v:Vw)(y:Value)(w:World)(hr:dW v)(hy:bJ w y v.years)(h:0<=v.age/\v.age<=199/\1900<=v.year/\v.year<=2099/\0<=v.children/\v.children<=99):(Calls prog 21 #[vwV v y] w fun r w'=>r= .returned (.bool v.ok)/\w.Grows w'):=by
 have HY:=zh hy;have HD:=zh (fun w a n c=>uI v (.slice a n c) w ⟨a,n,c,rfl⟩);have HB:Hid (∀k,k<7->eB (v.ds.getD k 0)=false->v.ok=false):=zh (fun k hk hb=>Kn hk hb)
 have HG:Hid ((∀k,k<7->eB (v.ds.getD k 0)=true)->v.ok=(v.baseB&&bF v.years)):=zh (fun hg=>by
  rw [Vw.ok_split,ET hg];unfold Vw.rngB;rw [decide_eq_true h];simp)
 have HI:=zh hr.base;have HC:=zh (fun w=>pQ v.bn v.bd 1000000000000 1 w ⟨hr.base.1,hr.base.2,by unfold I64;omega,by unfold I64;omega⟩)
 have HM:Hid (∀w,Calls prog 46 #[.int .i64 1000000000000,.int .i64 1] w fun e w'=>e= .returned (.tuple #[.agg #[.int .i64 1000000000000,.int .i64 1],.int .i64 0])/\w.Grows w'):=zh (fun w=>by
  have:=fe 1000000000000 1 w zo zo zo zo;rw [show mkN 1000000000000 1=1000000000000 by decide+kernel,show mkD 1000000000000 1=1 by decide+kernel,show mkE 1000000000000 1=0 by decide+kernel]at this
  exact this)
 have HYR:=zh (fun w' (hg:w.Grows w')=>mE v.years y w' (HY.out.grows hg));obtain⟨-,a,c,rfl,-⟩:=hy;obtain⟨h1,h2,h3,h4,h5,h6⟩:=h;clear hr;unfold vwV at HD ⊢
 go_enter func21,ntmps21
 go_wp2_with (go_at_call 50;refine(HD.out _ _ _ _).mono ?_;rintro e' w' ⟨rfl,bs,d,rfl⟩)
 obtain⟨W,hW⟩:∃W,((w.alloc (.cells #[.int .i64 v.age,.int .i64 v.year,.int .i64 v.children,.int .i64 v.insured,.int .i64 v.worked,.int .i64 v.voluntary,.int .i64 v.service,.int .i64 v.equated,.int .i64 v.raising,.int .i64 v.resident,.int .i64 v.bn,.int .i64 v.bd,.slice a v.years.length c] 26)).grow bs d).alloc (.cells #[.int .i64 v.insured,.int .i64 v.worked,.int .i64 v.voluntary,.int .i64 v.service,.int .i64 v.equated,.int .i64 v.raising,.int .i64 v.resident] 101)=W:=⟨_,rfl⟩;have hg:w.Grows W:=by rw [<-hW];exact .of_below af
 have b0:W.cell? ⟨w.heap.size,10,none⟩=some (.int .i64 v.bn):=by rw [<-hW];simp [go_sem]
 have b1:W.cell? ⟨w.heap.size,11,none⟩=some (.int .i64 v.bd):=by rw [<-hW];simp [go_sem]
 have b2:W.cell? ⟨w.heap.size,12,none⟩=some (.slice a v.years.length c):=by rw [<-hW];simp [go_sem]
 have HA:Hid (∀k,k<7->W.cell? ⟨w.heap.size+1+bs.size,k,none⟩=some (.int .i64 (v.ds.getD k 0))):=zh (fun k hk=>by
  rw [<-hW,World.cell?_alloc_at _ _ _ _ zg]
  rcases(show k=0\/k=1\/k=2\/k=3\/k=4\/k=5\/k=6 by omega)with rfl|rfl|rfl|rfl|rfl|rfl|rfl<;>rfl)
 have hsz:w.heap.size<W.heap.size:=by rw [<-hW];simp;omega
 rw [hW];clear hW;have HG2:=zh hg;clear hg
 go_loopw [4] (fun v4 wr=>∃k:Nat,k<=7/\v4= .int .i64 k/\Hid (∀j,j<k->eB (v.ds.getD j 0)=true)/\W=wr) (fun v4 _=>7-(intOf v4).toNat)
 case atStart=>exact⟨0,by omega,rfl,zh (fun j hj=>by omega),rfl⟩
 case round=>
  obtain⟨k,hk,rfl,hno,rfl⟩:=hrel;by_cases hlt:k<7
  ·have x0:=HA.out k hlt;have d1:(k:Int)<7:=by omega
   have HKL:=zh hlt;clear hlt;obtain⟨dk,hdk⟩:∃dk,v.ds.getD k 0=dk:=⟨_,rfl⟩;rw [hdk]at x0;have HDK:=zh hdk;exact QL
  ·obtain rfl:k=7:=by omega
   have HF:=zh (HG.out hno.out);unfold Vw.baseB at HF;obtain⟨q,hq⟩:∃q,aA v.bn v.bd=q:=⟨_,rfl⟩;have HC2:=HC.out;unfold gm frI at HC2;rw [show aA 1000000000000 1=true by decide+kernel,hq,Bool.and_true]at HC2;rw [hq]at HF;clear hq;obtain⟨yb,hyb⟩:∃yb,bF v.years=yb:=⟨_,rfl⟩;have HYR2:=HYR.out;rw [hyb]at HYR2 HF;clear hyb;have HYR3:=zh HYR2;clear HYR2
   cases q with
   |false=>
    simp only [Bool.false_eq_true,if_false]at HC2;have HC3:=zh HC2;clear HC2
    go_wp2_with (first
     |(go_at_call 46;refine(HM.out _).mono ?_;rintro e' w' ⟨rfl,bs2,d2,rfl⟩)
     |(go_at_call 24;refine(HC3.out _).mono ?_;rintro e' w' ⟨rfl,bs3,d3,rfl⟩))
    go_returns
    exact⟨au (by rw [HF.out];rfl),World.Grows.trans HG2.out (.of_below af)⟩
   |true=>
    have hcm:iw v.bn v.bd 1000000000000 1<=0↔v.bn<=1000000000000*v.bd:=by
     unfold iw;rw [Int.mul_one]
     (repeat' split)<;>omega
    simp only [if_true]at HC2;generalize iw v.bn v.bd 1000000000000 1=cc at HC2 hcm;have HC3:=zh HC2;clear HC2;have HCM:=zh hcm;clear hcm;by_cases g1:cc<=0
    ·by_cases g2:v.bn≥0
     ·have HF2:Hid (v.ok=yb):=zh (by rw [HF.out,decide_eq_true ⟨g2,HCM.out.1 g1⟩];rfl)
      go_wp2_with (first
       |(go_at_call 46;refine(HM.out _).mono ?_;rintro e' w' ⟨rfl,bs2,d2,rfl⟩)
       |(go_at_call 24;refine(HC3.out _).mono ?_;rintro e' w' ⟨rfl,bs3,d3,rfl⟩)
       |(go_at_call 56;refine(HYR3.out _ (World.Grows.trans HG2.out (.of_below af))).mono ?_;rintro e' w' ⟨rfl,rfl⟩))
      go_returns
      exact⟨au (by rw [HF2.out]),World.Grows.trans HG2.out (.of_below af)⟩
     ·have HF2:Hid (v.ok=false):=zh (by rw [HF.out,decide_eq_false (fun h=>g2 h.1)];rfl)
      go_wp2_with (first
       |(go_at_call 46;refine(HM.out _).mono ?_;rintro e' w' ⟨rfl,bs2,d2,rfl⟩)
       |(go_at_call 24;refine(HC3.out _).mono ?_;rintro e' w' ⟨rfl,bs3,d3,rfl⟩))
      go_returns
      exact⟨au (by rw [HF2.out]),World.Grows.trans HG2.out (.of_below af)⟩
    ·have HF2:Hid (v.ok=false):=zh (by rw [HF.out,decide_eq_false (fun h=>g1 (HCM.out.2 h.2))];rfl)
     go_wp2_with (first
      |(go_at_call 46;refine(HM.out _).mono ?_;rintro e' w' ⟨rfl,bs2,d2,rfl⟩)
      |(go_at_call 24;refine(HC3.out _).mono ?_;rintro e' w' ⟨rfl,bs3,d3,rfl⟩))
     go_returns
     exact⟨au (by rw [HF2.out]),World.Grows.trans HG2.out (.of_below af)⟩
theorem eZ(v:Vw)(y:Value)(w:World)(hr:dW v)(hy:bJ w y v.years):(Calls prog 21 #[vwV v y] w fun r w'=>r= .returned (.bool v.ok)/\w.Grows w'):=by
 by_cases h:0<=v.age/\v.age<=199/\1900<=v.year/\v.year<=2099/\0<=v.children/\v.children<=99
 ·exact OI v y w hr hy h
 ·obtain⟨-,a,c,rfl,-⟩:=hy;exact Lr v _ w ⟨_,_,_,rfl⟩ h
theorem Lt(v:Vw)(y:Value)(w:World)(hy:∃a n c,y= .slice a n c)(h:¬(0<=v.age/\v.age<=199/\1900<=v.year/\v.year<=2099/\0<=v.children/\v.children<=99)):(Calls prog 20 #[vwV v y] w fun r w'=>r= .returned (.bool v.ok)/\w.Grows w'):=by
 have HF:=zh (Eu h);by_cases c1:v.age<0
 ·exact Gw
 by_cases c2:v.age > 199
 ·exact Gw
 by_cases c3:v.year<1900
 ·exact Gw
 by_cases c4:v.year > 2099
 ·exact Gw
 by_cases c5:v.children<0
 ·exact Gw
 have c6:v.children > 99:=by omega
 exact Gw
theorem Rk(x0 x1 x2 x3 x4 x5 x6:Int)(k:Nat)(hk:k<7)(w:World):(Instr.index 101 (.agg #[.int .i64 x0,.int .i64 x1,.int .i64 x2,.int .i64 x3,.int .i64 x4,.int .i64 x5,.int .i64 x6]) (.int .i64 (k:Int))).run prog w= .ok (.int .i64 ([x0,x1,x2,x3,x4,x5,x6].getD k 0)) w:=by
 rcases(show k=0\/k=1\/k=2\/k=3\/k=4\/k=5\/k=6 by omega)with rfl|rfl|rfl|rfl|rfl|rfl|rfl<;>simp [Instr.index,go_sem]
theorem Oe{n d:Int}(h:aA n d=true)(hn:0<=n):decide (n<=1000000000000*d)=(decide (n.tdiv d<=1000000000000)&&(decide (n.tdiv d<1000000000000) || decide (n.tmod d=0))):=by
 have hd:0<d:=by have:=aF h;omega
 rw [Int.tdiv_eq_ediv_of_nonneg hn,Int.tmod_eq_emod_of_nonneg hn];have e:=Int.mul_ediv_add_emod n d;have r0:=Int.emod_nonneg n (show d≠0 by omega);have r1:=Int.emod_lt_of_pos n hd;generalize n / d=q at *;generalize n % d=r at *;by_cases c1:q<1000000000000
 ·have h1:d*q<=d*999999999999:=Int.mul_le_mul_of_nonneg_left ze ze;rw [decide_eq_true c1,decide_eq_true (show q<=1000000000000 by omega),decide_eq_true (show n<=1000000000000*d by omega)];rfl
 ·rw [decide_eq_false c1,Bool.false_or];by_cases c2:q<=1000000000000
  ·obtain rfl:q=1000000000000:=by omega
   rw [decide_eq_true c2,Bool.true_and];by_cases c3:r=0
   ·rw [decide_eq_true c3,decide_eq_true ze]
   ·rw [decide_eq_false c3,decide_eq_false ze]
  ·have h1:d*1000000000001<=d*q:=Int.mul_le_mul_of_nonneg_left ze ze;rw [decide_eq_false c2,Bool.false_and,decide_eq_false ze]
theorem Ls(v:Vw)(y:Value)(w:World)(hy:bJ w y v.years)(h:0<=v.age/\v.age<=199/\1900<=v.year/\v.year<=2099/\0<=v.children/\v.children<=99)(hyo:bF v.years=false):(Calls prog 20 #[vwV v y] w fun r w'=>r= .returned (.bool v.ok)/\w.Grows w'):=by
 have HF:Hid (v.ok=false):=zh (by rw [Vw.ok_split,hyo,Bool.and_false]);have HY:=zh hy;have HYR:=zh (fun w' (hg:w.Grows w')=>gU v.years y w' (HY.out.grows hg));rw [hyo]at HYR;obtain⟨-,a,c,rfl,-⟩:=hy;obtain⟨h1,h2,h3,h4,h5,h6⟩:=h;clear hyo;unfold vwV
 go_enter func20,ntmps20
 go_wp2_with (go_at_call 54;refine(HYR.out _ (.of_below af)).mono ?_;rintro e' w' ⟨rfl,bs,d,rfl⟩)
 go_returns
 exact⟨au HF.out.symm,.of_below af⟩
theorem OJ(v:Vw)(y:Value)(w:World)(hr:dW v)(hy:bJ w y v.years)(h:0<=v.age/\v.age<=199/\1900<=v.year/\v.year<=2099/\0<=v.children/\v.children<=99)(hyo:bF v.years=true):(Calls prog 20 #[vwV v y] w fun r w'=>r= .returned (.bool v.ok)/\w.Grows w'):=by
 have HY:=zh hy;have HB:Hid (∀k,k<7->eB (v.ds.getD k 0)=false->v.ok=false):=zh (fun k hk hb=>Kn hk hb)
 have HG:Hid ((∀k,k<7->eB (v.ds.getD k 0)=true)->v.ok=v.baseB):=zh (fun hg=>by
  rw [Vw.ok_split,ET hg,hyo];unfold Vw.rngB;rw [decide_eq_true h];simp)
 have HYR:=zh (fun w' (hg:w.Grows w')=>gU v.years y w' (HY.out.grows hg));rw [hyo]at HYR;have HV:=zh (fun w=>dS v.bn v.bd w hr.base.1.1 hr.base.1.2 hr.base.2.1 hr.base.2.2);obtain⟨-,a,c,rfl,-⟩:=hy;obtain⟨h1,h2,h3,h4,h5,h6⟩:=h;have HI:=zh hr.base;have HIX:=zh (Rk v.insured v.worked v.voluntary v.service v.equated v.raising v.resident);clear hr hyo;unfold vwV
 go_enter func20,ntmps20
 go_wp2_with ((first|(go_at_call 54;refine(HYR.out _ (.of_below zT)).mono ?_;rintro e' w' ⟨rfl,bs,d,rfl⟩)|(go_at_call 55;refine(HV.out _).mono ?_;rintro e' w' ⟨rfl,bs3,d3,rfl⟩)))
 obtain⟨W,hW⟩:∃W,(w.alloc (.cells #[.int .i64 v.age,.int .i64 v.year,.int .i64 v.children,.int .i64 v.insured,.int .i64 v.worked,.int .i64 v.voluntary,.int .i64 v.service,.int .i64 v.equated,.int .i64 v.raising,.int .i64 v.resident,.int .i64 v.bn,.int .i64 v.bd,.slice a v.years.length c] 26)).grow bs d=W:=⟨_,rfl⟩;have hg:w.Grows W:=by rw [<-hW];exact .of_below af
 have b0:W.cell? ⟨w.heap.size,10,none⟩=some (.int .i64 v.bn):=by rw [<-hW];simp [go_sem]
 have b1:W.cell? ⟨w.heap.size,11,none⟩=some (.int .i64 v.bd):=by rw [<-hW];simp [go_sem]
 have hsz:w.heap.size<W.heap.size:=by rw [<-hW];simp;omega
 rw [hW];clear hW;have HG2:=zh hg;clear hg
 go_loopw [54] (fun v54 wr=>∃k:Nat,k<=7/\v54= .int .i64 k/\Hid (∀j,j<k->eB (v.ds.getD j 0)=true)/\W=wr) (fun v54 _=>7-(intOf v54).toNat)
 case atStart=>exact⟨0,by omega,rfl,zh (fun j hj=>by omega),rfl⟩
 case round=>
  obtain⟨k,hk,rfl,hno,rfl⟩:=hrel;by_cases hlt:k<7
  ·have x0:=HIX.out k hlt W;have d1:(k:Int)<7:=by omega
   have HKL:=zh hlt;clear hlt;obtain⟨dk,hdk⟩:∃dk,v.ds.getD k 0=dk:=⟨_,rfl⟩;unfold Vw.ds at hdk;rw [hdk]at x0;have HDK:Hid (v.ds.getD k 0=dk):=zh hdk;exact QL
  ·obtain rfl:k=7:=by omega
   have HF:=zh (HG.out hno.out);unfold Vw.baseB at HF
   cases hq:aA v.bn v.bd with
   |false=>
    rw [hq]at HF HV;have HF2:Hid (v.ok=false):=zh (by rw [HF.out];rfl);clear hq
    go_wp2_with ((first|(go_at_call 54;refine(HYR.out _ (.of_below zT)).mono ?_;rintro e' w' ⟨rfl,bs,d,rfl⟩)|(go_at_call 55;refine(HV.out _).mono ?_;rintro e' w' ⟨rfl,bs3,d3,rfl⟩)))
    go_returns
    exact⟨au zZ,World.Grows.trans HG2.out (.of_below af)⟩
   |true=>
    have HBE:=zh (fun hn=>Oe hq hn);have hbd:=aF hq;have hd0:v.bd≠0:=by omega
    rw [hq]at HF HV;clear hq;by_cases g2:v.bn≥0
    ·have HF3:Hid (v.ok=(decide (v.bn.tdiv v.bd<=1000000000000)&&(decide (v.bn.tdiv v.bd<1000000000000) || decide (v.bn.tmod v.bd=0)))):=zh (by
      rw [HF.out,<-HBE.out g2,Bool.true_and]
      simp [g2])
     have t1:=Int.tdiv_eq_ediv_of_nonneg (b:=v.bd) g2;have t2:=Int.tmod_eq_emod_of_nonneg (b:=v.bd) g2;have hb0:v.bn<=1000000000000000:=by omega
     have u1:0<=v.bn / v.bd:=Int.ediv_nonneg g2 ze;have u2:v.bn / v.bd<=1000000000000000:=Int.le_trans (Int.ediv_le_self v.bd g2) hb0;have u3:=Int.emod_nonneg v.bn hd0;have u4:=Int.emod_lt_of_pos v.bn (show 0<v.bd by omega);have e1:IntKind.i64.wrap (v.bn.tdiv v.bd)=v.bn.tdiv v.bd:=IntWalk.i64_in _ (by rw [t1];omega);have e2:IntKind.i64.wrap (v.bn.tmod v.bd)=v.bn.tmod v.bd:=IntWalk.i64_in _ (by rw [t2];omega);have e3:IntKind.i64.wrap (v.bn / v.bd)=v.bn / v.bd:=IntWalk.i64_in _ ze;have e4:IntKind.i64.wrap (v.bn % v.bd)=v.bn % v.bd:=IntWalk.i64_in _ ze;rw [t1,t2]at HF3;by_cases c1:v.bn / v.bd<1000000000000
     ·have c2:v.bn / v.bd<=1000000000000:=by omega
      have HF2:Hid (v.ok=true):=zh (by rw [HF3.out,decide_eq_true c1,decide_eq_true c2];rfl)
      go_wp2_with ((first|(go_at_call 54;refine(HYR.out _ (.of_below zT)).mono ?_;rintro e' w' ⟨rfl,bs,d,rfl⟩)|(go_at_call 55;refine(HV.out _).mono ?_;rintro e' w' ⟨rfl,bs3,d3,rfl⟩)))
      go_returns
      exact⟨au zZ,World.Grows.trans HG2.out (.of_below af)⟩
     ·by_cases c2:v.bn / v.bd<=1000000000000
      ·by_cases c3:v.bn % v.bd=0
       focus
        have HF2:Hid (v.ok=true):=zh (by rw [HF3.out,decide_eq_true c3,decide_eq_true c2,Bool.or_true];rfl)
       rotate_left
       focus
        have c4:(v.bn % v.bd==0)=false:=by simpa using c3
        have HF2:Hid (v.ok=false):=zh (by rw [HF3.out,decide_eq_false c3,decide_eq_false c1];simp)
       rotate_left
       all_goals
        go_wp2_with ((first|(go_at_call 54;refine(HYR.out _ (.of_below zT)).mono ?_;rintro e' w' ⟨rfl,bs,d,rfl⟩)|(go_at_call 55;refine(HV.out _).mono ?_;rintro e' w' ⟨rfl,bs3,d3,rfl⟩)))
        go_returns
        exact⟨au zZ,World.Grows.trans HG2.out (.of_below af)⟩
      ·have HF2:Hid (v.ok=false):=zh (by rw [HF3.out,decide_eq_false c2];rfl)
       go_wp2_with ((first|(go_at_call 54;refine(HYR.out _ (.of_below zT)).mono ?_;rintro e' w' ⟨rfl,bs,d,rfl⟩)|(go_at_call 55;refine(HV.out _).mono ?_;rintro e' w' ⟨rfl,bs3,d3,rfl⟩)))
       go_returns
       exact⟨au zZ,World.Grows.trans HG2.out (.of_below af)⟩
    ·have HF2:Hid (v.ok=false):=zh (by rw [HF.out,decide_eq_false (fun h=>g2 h.1)];rfl)
     go_wp2_with ((first|(go_at_call 54;refine(HYR.out _ (.of_below zT)).mono ?_;rintro e' w' ⟨rfl,bs,d,rfl⟩)|(go_at_call 55;refine(HV.out _).mono ?_;rintro e' w' ⟨rfl,bs3,d3,rfl⟩)))
     go_returns
     exact⟨au zZ,World.Grows.trans HG2.out (.of_below af)⟩
theorem fI(v:Vw)(y:Value)(w:World)(hr:dW v)(hy:bJ w y v.years):(Calls prog 20 #[vwV v y] w fun r w'=>r= .returned (.bool v.ok)/\w.Grows w'):=by
 by_cases h:0<=v.age/\v.age<=199/\1900<=v.year/\v.year<=2099/\0<=v.children/\v.children<=99
 ·by_cases hyo:bF v.years=true
  ·exact OJ v y w hr hy h hyo
  ·exact Ls v y w hy h (by simpa using hyo)
 ·obtain⟨-,a,c,rfl,-⟩:=hy;exact Lt v _ w ⟨_,_,_,rfl⟩ h
def inV(o:Option Val):Value:=match o with|some x=>.tuple #[dM x,.bool true]|none=>.tuple #[dM .zero,.bool false]
theorem AV(v:Vw)(y:Value)(s:ByteArray)(w:World)(hr:dW v)(hy:bJ w y v.years)(h:bT s.toList=0\/v.ok=false):(Calls prog 17 #[vwV v y,.string s] w fun r w'=>r= .returned (inV (dh v s))/\w.Grows w'):=by
 have HF:Hid (dh v s=none):=zh (by unfold dh;rw [if_pos h]);rw [HF.out];show Calls _ _ _ _ fun r w'=>r= .returned (.tuple #[.agg #[.int .i64 0,.bool false,.int .i64 0,.int .i64 0],.bool false])/\_;have HY:=zh hy;have HV:=zh (fun w' (hg:w.Grows w')=>fI v y w' hr (HY.out.grows hg));have HI:=zh (fun w=>jO s w);obtain⟨-,a,c,rfl,-⟩:=hy;unfold vwV at HV ⊢;clear hr;by_cases hd:bT s.toList=0
 ·rw [hd]at HI;clear h hd
  go_enter func17,ntmps17
  go_wp2_with (go_at_call 47;refine(HI.out _).mono ?_;rintro e' w' ⟨rfl,rfl⟩)
  exact gz9
 ·rw [h.resolve_left hd]at HV;rw [decide_eq_true hd]at HI;clear h hd;generalize bT s.toList=D at HI;have HG:Hid (∀o1 o2,w.Grows ((w.alloc o1).alloc o2)):=zh (fun o1 o2=>.of_below af)
  go_enter func17,ntmps17
  go_wp2_with (first
   |(go_at_call 47;refine(HI.out _).mono ?_;rintro e' w' ⟨rfl,rfl⟩)
   |(go_at_call 20;refine(HV.out _ (HG.out _ _)).mono ?_;rintro e' w' ⟨rfl,bs,d,rfl⟩))
  exact gz9
theorem wE{s:List UInt8}(h:bT s≠0):s= [98,97,115,101]\/s= [97,103,101]\/s= [121,101,97,114]\/s= [99,104,105,108,100,114,101,110]\/s= [105,110,115,117,114,101,100]\/s= [119,111,114,107,101,100]\/s= [118,111,108,117,110,116,97,114,121]\/s= [115,101,114,118,105,99,101]\/s= [101,113,117,97,116,101,100]\/s= [114,97,105,115,105,110,103]\/s= [114,101,115,105,100,101,110,116]:=by
 unfold bT at h
 split at h
 ·rename_i c;rcases c with c|c|c<;>simp [c]
 ·split at h
  ·rename_i c;rcases c with c|c|c|c|c|c|c<;>simp [c]
  ·split at h
   ·rename_i c;simp [c]
   ·exact absurd rfl h
theorem AU(v:Vw)(y:Value)(s:ByteArray)(w:World)(hr:dW v)(hy:bJ w y v.years)(hd:bT s.toList≠0)(hv:v.ok=true):(Calls prog 17 #[vwV v y,.string s] w fun r w'=>r= .returned (inV (dh v s))/\w.Grows w'):=by
 have HF:dh v s=some (.num (bT s.toList) (v.numF s.toList).1 (v.numF s.toList).2):=by unfold dh;rw [if_neg (by rw [hv];simp [hd])]
 rw [HF];show Calls _ _ _ _ fun r w'=>r= .returned (.tuple #[.agg #[.int .i64 (bT s.toList),.bool false,.int .i64 (v.numF s.toList).1,.int .i64 (v.numF s.toList).2],.bool true])/\_;have HY:=zh hy;have HV:=zh (fun w' (hg:w.Grows w')=>fI v y w' hr (HY.out.grows hg));have HI:=zh (fun w=>jO s w);have HN:=zh (fun m n d w=>kJ m n d w);unfold dM Val.num at HN;dsimp only at HN;obtain⟨-,a,c,rfl,-⟩:=hy;unfold vwV at HV ⊢;rw [hv]at HV;have hc:=wE hd;clear hr HF hv;have HG:Hid (∀o1 o2,w.Grows ((w.alloc o1).alloc o2)):=zh (fun o1 o2=>.of_below af);rcases hc with hs|hs|hs|hs|hs|hs|hs|hs|hs|hs|hs
 all_goals
  rw [hs]at HI hd ⊢;simp [bT]at HI;simp only [bT,Vw.numF];simp;clear hd
  go_enter func17,ntmps17
  go_wp2_with (first
   |(go_at_call 47;refine(HI.out _).mono ?_;rintro e' w' ⟨rfl,rfl⟩)
   |(go_at_call 20;refine(HV.out _ (HG.out _ _)).mono ?_;rintro e' w' ⟨rfl,bs,d,rfl⟩)
   |(go_at_call 48;refine(HN.out _ _ _ _).mono ?_;rintro e' w' ⟨rfl,bs2,d2,rfl⟩))
  exact gz9
theorem AQ(v:Vw)(y:Value)(s:ByteArray)(w:World)(hr:dW v)(hy:bJ w y v.years)(h:bT s.toList=0\/v.ok=false):(Calls prog 18 #[vwV v y,.string s] w fun r w'=>r= .returned (inV (dh v s))/\w.Grows w'):=by
 have HF:Hid (dh v s=none):=zh (by unfold dh;rw [if_pos h]);rw [HF.out];show Calls _ _ _ _ fun r w'=>r= .returned (.tuple #[.agg #[.int .i64 0,.bool false,.int .i64 0,.int .i64 0],.bool false])/\_;have HY:=zh hy;have HV:=zh (fun w' (hg:w.Grows w')=>eZ v y w' hr (HY.out.grows hg));have HI:=zh (fun w=>gJ s w);obtain⟨-,a,c,rfl,-⟩:=hy;unfold vwV at HV ⊢;clear hr;by_cases hd:bT s.toList=0
 ·rw [hd]at HI;clear h hd
  go_enter func18,ntmps18
  go_wp2_with (go_at_call 49;refine(HI.out _).mono ?_;rintro e' w' ⟨rfl,rfl⟩)
  exact gz9
 ·rw [h.resolve_left hd]at HV;rw [decide_eq_true hd]at HI;clear h hd;generalize bT s.toList=D at HI;have HG:Hid (∀o1 o2,w.Grows ((w.alloc o1).alloc o2)):=zh (fun o1 o2=>.of_below af);exact QD
def Vw.at(v:Vw)(k:Nat):Int:=[v.age,v.year,v.children,v.insured,v.worked,v.voluntary,v.service,v.equated,v.raising,v.resident].getD k 0
theorem Gv{v:Vw}{s:ByteArray}(h:bT s.toList≠0)(hb:¬s.toList= [98,97,115,101]):∃j,j<10/\(lH j).toList=s.toList/\v.numF s.toList=(v.at j,1)/\∀k,k<11->k≠j->((lH k).toList==s.toList)=false:=by
 have hc:=(wE h).resolve_left hb;generalize s.toList=l at *;rcases hc with rfl|rfl|rfl|rfl|rfl|rfl|rfl|rfl|rfl|rfl
 ·exact⟨0,by omega,by decide+kernel,rfl,fun k h1 h2=>by rcases(show k=1\/k=2\/k=3\/k=4\/k=5\/k=6\/k=7\/k=8\/k=9\/k=10 by omega)with rfl|rfl|rfl|rfl|rfl|rfl|rfl|rfl|rfl|rfl<;>decide+kernel⟩
 ·exact⟨1,by omega,by decide+kernel,rfl,fun k h1 h2=>by rcases(show k=0\/k=2\/k=3\/k=4\/k=5\/k=6\/k=7\/k=8\/k=9\/k=10 by omega)with rfl|rfl|rfl|rfl|rfl|rfl|rfl|rfl|rfl|rfl<;>decide+kernel⟩
 ·exact⟨2,by omega,by decide+kernel,rfl,fun k h1 h2=>by rcases(show k=0\/k=1\/k=3\/k=4\/k=5\/k=6\/k=7\/k=8\/k=9\/k=10 by omega)with rfl|rfl|rfl|rfl|rfl|rfl|rfl|rfl|rfl|rfl<;>decide+kernel⟩
 ·exact⟨3,by omega,by decide+kernel,rfl,fun k h1 h2=>by rcases(show k=0\/k=1\/k=2\/k=4\/k=5\/k=6\/k=7\/k=8\/k=9\/k=10 by omega)with rfl|rfl|rfl|rfl|rfl|rfl|rfl|rfl|rfl|rfl<;>decide+kernel⟩
 ·exact⟨4,by omega,by decide+kernel,rfl,fun k h1 h2=>by rcases(show k=0\/k=1\/k=2\/k=3\/k=5\/k=6\/k=7\/k=8\/k=9\/k=10 by omega)with rfl|rfl|rfl|rfl|rfl|rfl|rfl|rfl|rfl|rfl<;>decide+kernel⟩
 ·exact⟨5,by omega,by decide+kernel,rfl,fun k h1 h2=>by rcases(show k=0\/k=1\/k=2\/k=3\/k=4\/k=6\/k=7\/k=8\/k=9\/k=10 by omega)with rfl|rfl|rfl|rfl|rfl|rfl|rfl|rfl|rfl|rfl<;>decide+kernel⟩
 ·exact⟨6,by omega,by decide+kernel,rfl,fun k h1 h2=>by rcases(show k=0\/k=1\/k=2\/k=3\/k=4\/k=5\/k=7\/k=8\/k=9\/k=10 by omega)with rfl|rfl|rfl|rfl|rfl|rfl|rfl|rfl|rfl|rfl<;>decide+kernel⟩
 ·exact⟨7,by omega,by decide+kernel,rfl,fun k h1 h2=>by rcases(show k=0\/k=1\/k=2\/k=3\/k=4\/k=5\/k=6\/k=8\/k=9\/k=10 by omega)with rfl|rfl|rfl|rfl|rfl|rfl|rfl|rfl|rfl|rfl<;>decide+kernel⟩
 ·exact⟨8,by omega,by decide+kernel,rfl,fun k h1 h2=>by rcases(show k=0\/k=1\/k=2\/k=3\/k=4\/k=5\/k=6\/k=7\/k=9\/k=10 by omega)with rfl|rfl|rfl|rfl|rfl|rfl|rfl|rfl|rfl|rfl<;>decide+kernel⟩
 ·exact⟨9,by omega,by decide+kernel,rfl,fun k h1 h2=>by rcases(show k=0\/k=1\/k=2\/k=3\/k=4\/k=5\/k=6\/k=7\/k=8\/k=10 by omega)with rfl|rfl|rfl|rfl|rfl|rfl|rfl|rfl|rfl|rfl<;>decide+kernel⟩
theorem Vw.at_days(v:Vw)(k:Nat):v.at (k+3)=v.ds.getD k 0:=rfl
theorem AR(v:Vw)(y:Value)(s:ByteArray)(w:World)(hr:dW v)(hy:bJ w y v.years)(hd:bT s.toList≠0)(hv:v.ok=true)(hb:s.toList= [98,97,115,101]):(Calls prog 18 #[vwV v y,.string s] w fun r w'=>r= .returned (inV (dh v s))/\w.Grows w'):=by
 have HF:Hid (dh v s=some (.num (bT s.toList) (v.numF s.toList).1 (v.numF s.toList).2)):=zh (by unfold dh;rw [if_neg (by rw [hv];simp [hd])]);rw [HF.out];show Calls _ _ _ _ fun r w'=>r= .returned (.tuple #[.agg #[.int .i64 (bT s.toList),.bool false,.int .i64 (v.numF s.toList).1,.int .i64 (v.numF s.toList).2],.bool true])/\_;have HY:=zh hy;have HV:=zh (fun w' (hg:w.Grows w')=>eZ v y w' hr (HY.out.grows hg));have HI:=zh (fun w=>gJ s w);obtain⟨-,a,c,rfl,-⟩:=hy;have HDS:=zh (fun w=>uI v (.slice a v.years.length c) w ⟨a,_,c,rfl⟩);unfold vwV at HV HDS ⊢;rw [hv]at HV;rw [decide_eq_true hd]at HI;clear hr HF hv;have HG:Hid (∀o1 o2,w.Grows ((w.alloc o1).alloc o2)):=zh (fun o1 o2=>.of_below af);have hN:v.numF s.toList=(v.bn,v.bd):=by rw [hb];rfl
 rw [hN];clear HDS hN hd;generalize bT s.toList=D at *;have hb2:(s.toList== [98,97,115,101])=true:=by rw [hb];rfl
 exact QD
theorem Dt(v:Vw)(y:Value)(s:ByteArray)(w:World)(hr:dW v)(hy:bJ w y v.years)(hd:bT s.toList≠0)(hv:v.ok=true)(hb:¬s.toList= [98,97,115,101]):(Calls prog 18 #[vwV v y,.string s] w fun r w'=>r= .returned (inV (dh v s))/\w.Grows w'):=by
 have HF:Hid (dh v s=some (.num (bT s.toList) (v.numF s.toList).1 (v.numF s.toList).2)):=zh (by unfold dh;rw [if_neg (by rw [hv];simp [hd])]);rw [HF.out];show Calls _ _ _ _ fun r w'=>r= .returned (.tuple #[.agg #[.int .i64 (bT s.toList),.bool false,.int .i64 (v.numF s.toList).1,.int .i64 (v.numF s.toList).2],.bool true])/\_;have HY:=zh hy;have HV:=zh (fun w' (hg:w.Grows w')=>eZ v y w' hr (HY.out.grows hg));have HI:=zh (fun w=>gJ s w);obtain⟨-,a,c,rfl,-⟩:=hy;have HDS:=zh (fun w=>uI v (.slice a v.years.length c) w ⟨a,_,c,rfl⟩);unfold vwV at HV HDS ⊢;rw [hv]at HV;rw [decide_eq_true hd]at HI;clear hr HF hv;have HG:Hid (∀o1 o2,w.Grows ((w.alloc o1).alloc o2)):=zh (fun o1 o2=>.of_below af);obtain⟨j,hj,hjs,hN,hne⟩:=Gv (v:=v) hd hb;rw [hN];clear hN hd;generalize bT s.toList=D at *;have hb2:(s.toList== [98,97,115,101])=false:=by rw [beq_eq_false_iff_ne];exact hb
 have HNE:=zh hne;have HJS:Hid (((lH j).toList==s.toList)=true):=zh (by rw [hjs];simp);clear hb hjs hne;dsimp only
 go_enter func18,ntmps18
 go_wp2_with (first
  |(go_at_call 49;refine(HI.out _).mono ?_;rintro e' w' ⟨rfl,rfl⟩)
  |(go_at_call 21;refine(HV.out _ (HG.out _ _)).mono ?_;rintro e' w' ⟨rfl,bs,d,rfl⟩)
  |(go_at_call 16;refine(wZ _).mono ?_;rintro e' w' ⟨rfl,rfl⟩)
  |(go_at_call 50;refine(HDS.out _).mono ?_;rintro e' w' ⟨rfl,bs2,d2,rfl⟩))
 obtain⟨W,hW⟩:∃W,((((((w.alloc (.cells #[.int .i64 v.age,.int .i64 v.year,.int .i64 v.children,.int .i64 v.insured,.int .i64 v.worked,.int .i64 v.voluntary,.int .i64 v.service,.int .i64 v.equated,.int .i64 v.raising,.int .i64 v.resident,.int .i64 v.bn,.int .i64 v.bd,.slice a v.years.length c] 26)).alloc (.cells #[.int .i64 0,.bool false,.int .i64 0,.int .i64 0] 34)).grow bs d).alloc (.cells Nl 9)).grow bs2 d2).alloc (.cells #[.int .i64 v.insured,.int .i64 v.worked,.int .i64 v.voluntary,.int .i64 v.service,.int .i64 v.equated,.int .i64 v.raising,.int .i64 v.resident] 101))=W:=⟨_,rfl⟩;have hg:w.Grows W:=by rw [<-hW];exact .of_below af
 have b0:W.cell? ⟨w.heap.size,0,none⟩=some (.int .i64 v.age):=by rw [<-hW];simp [go_sem]
 have b1:W.cell? ⟨w.heap.size,1,none⟩=some (.int .i64 v.year):=by rw [<-hW];simp [go_sem]
 have b2:W.cell? ⟨w.heap.size,2,none⟩=some (.int .i64 v.children):=by rw [<-hW];simp [go_sem]
 have r0:W.cell? ⟨w.heap.size+1,0,none⟩=some (.int .i64 0):=by rw [<-hW];simp [go_sem]
 have r1:W.cell? ⟨w.heap.size+1,1,none⟩=some (.bool false):=by rw [<-hW];simp [go_sem]
 have r2:W.cell? ⟨w.heap.size+1,2,none⟩=some (.int .i64 0):=by rw [<-hW];simp [go_sem]
 have r3:W.cell? ⟨w.heap.size+1,3,none⟩=some (.int .i64 0):=by rw [<-hW];simp [go_sem]
 have rf:∀j,W.frozen? ⟨w.heap.size+1,j,none⟩=false:=by intro j;rw [<-hW];simp [go_sem]
 have HA:Hid (∀k,k<7->W.cell? ⟨w.heap.size+1+1+bs.size+1+bs2.size,k,none⟩=some (.int .i64 (v.ds.getD k 0))):=zh (fun k hk=>by
  rw [<-hW,World.cell?_alloc_at _ _ _ _ zg]
  rcases(show k=0\/k=1\/k=2\/k=3\/k=4\/k=5\/k=6 by omega)with rfl|rfl|rfl|rfl|rfl|rfl|rfl<;>rfl)
 have HNM:Hid (∀k,k<11->W.cell? ⟨w.heap.size+1+1+bs.size,k,none⟩=some (.string (lH k))):=zh (fun k hk=>by
  rw [<-hW,World.cell?_alloc_lt _ _ _ zp,World.cell?_grow _ _ _ zg,World.cell?_alloc_at _ _ _ _ zg]
  exact AX k hk)
 have hsz:w.heap.size+1<W.heap.size:=by rw [<-hW];simp;omega
 rw [hW];have HW:=zh hW;clear hW;have HG2:=zh hg;clear hg;generalize w.heap.size+1+1+bs.size+1+bs2.size=B2 at *;generalize w.heap.size+1+1+bs.size=B1 at *
 go_loopw [10,11] (fun v10 v11 wr=>∃k:Nat,k<=11/\v11= .int .i64 k/\v10= .int .i64 (if k<=j then 0 else v.at j)/\W=wr) (fun _ v11 _=>11-(intOf v11).toNat)
 case atStart=>exact⟨0,by omega,rfl,by simp,rfl⟩
 case round=>
  obtain⟨k,hk,rfl,rfl,rfl⟩:=hrel;by_cases hlt:k<11
  ·have x0:=HNM.out k hlt;have d1:(k:Int)<11:=by omega
   have HKL:=zh hlt;by_cases hkj:k=j
   ·subst hkj;have he:=HJS.out;generalize hN:lH k=nk at *;generalize hI:(if k<=k then(0:Int)else v.at k)=I0;clear hlt hN hI;by_cases h0:k=0
    ·subst h0
     go_wp2_with fail
     go_roundw
     case rel=>exact⟨1,by omega,rfl,by simp [Vw.at],zG⟩
     case measure=>simp [intOf]
    ·by_cases h1:k=1
     ·subst h1
      go_wp2_with fail
      go_roundw
      case rel=>exact⟨2,by omega,rfl,by simp [Vw.at],zG⟩
      case measure=>simp [intOf]
     ·by_cases h2:k=2
      ·subst h2
       go_wp2_with fail
       go_roundw
       case rel=>exact⟨3,by omega,rfl,by simp [Vw.at],zG⟩
       case measure=>simp [intOf]
      ·obtain⟨m,rfl⟩:∃m,k=m+3:=⟨k-3,by omega⟩;have hm7:m<7:=by omega
       have y0:=HA.out m hm7;have hm7i:(m:Int)<7:=by omega
       have HAT:=zh (Vw.at_days v m);generalize v.ds.getD m 0=dm at *;clear h0 h1 h2
       go_wp2_with fail
       go_roundw
       case rel=>exact⟨m+3+1,by omega,by go_num,by rw [if_neg ze,HAT.out],zG⟩
       case measure=>simp [intOf];omega
   ·have he:=HNE.out k hlt hkj;generalize hN:lH k=nk at *;have HI3:Hid ((if k<=j then(0:Int)else v.at j)=(if k+1<=j then(0:Int)else v.at j)):=zh (by split<;>split<;>first|rfl|omega);generalize hI:(if k<=j then(0:Int)else v.at j)=I0 at *;clear hlt hN hI
    go_wp2_with fail
    go_roundw
    case rel=>exact⟨k+1,by omega,by go_num,by rw [HI3.out],zG⟩
    case measure=>simp [intOf];have:=HKL.out;omega
  ·obtain rfl:k=11:=by omega
   rw [if_neg ze];have hW:=HW.out;subst hW;clear b0 b1 b2 r0 r1 r2 r3 rf HA HNM HG2 hsz HW;exact nR
end Go.Proofs.YtlheailebbngiaaGreatDoor
