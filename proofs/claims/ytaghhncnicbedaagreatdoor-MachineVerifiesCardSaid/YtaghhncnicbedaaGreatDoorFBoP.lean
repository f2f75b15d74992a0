import Derived.Test.YtaghhncnicbedaaGreatDoorFFrFl
import Derived.Test.YtaghhncnicbedaaGreatDoorFK
import Derived.ProofKit
import Derived.SizedLaws
import Derived.Deep.Matrix
import Derived.Deep.Fields
import Derived.OpenShut
set_option linter.all false
set_option maxHeartbeats 16000000
set_option maxRecDepth 1000000
namespace Go.Proofs.YtaghhncnicbedaaGreatDoor
theorem mkE_small{n d:Int}(h1:0≤n)(h2:n≤1000000000000000)(h3:1≤d)(h4:d≤1000000000):mkE n d=0:=by
 unfold mkE lowE
 rw [if_neg (by omega),if_neg]
 have a:=Nat.div_le_self n.natAbs (Nat.gcd n.natAbs d.natAbs)
 have b:=Nat.div_le_self d.natAbs (Nat.gcd n.natAbs d.natAbs)
 omega
structure VwR where
 age:Int
 year:Int
 children:Int
 base:Int
 den:Int
 days:List Int
 years:List Int
def VwR.d(R:VwR)(i:Nat):Int:=if i<R.days.length then pick (R.days.getD i 0) 20000 else 0
theorem mkN_nonneg{n d:Int}(h1:0≤n)(h2:1≤d):0≤mkN n d:=by
 unfold mkN lowN
 rw [if_neg (by omega),decide_eq_false (by omega),decide_eq_false (by omega)]
 split
 ·omega
 ·simp only [bne_self_eq_false,Bool.false_eq_true,if_false]
  exact Int.natCast_nonneg _
end Go.Proofs.YtaghhncnicbedaaGreatDoor
namespace Go.Proofs.YtaghhncnicbedaaGreatDoor
open Go.RowKit
def YrAt(w:World)(v:Value)(l:List Int):Prop:=
 l.length≤1000∧∃a cap,v= .slice a l.length cap∧(l.length=0∨∃b off,a=some ⟨b,off,none⟩∧b<w.heap.size∧∀i,i<l.length→w.cell? ⟨b,off+i,none⟩=some (.int .i64 (l.getD i 0)))
theorem YrAt.below{w w':World}{v:Value}{l:List Int}{n:Nat}(h:YrAt w v l)(hn:w.heap.size≤n)(hb:Below n w w'):YrAt w' v l:=by
 obtain⟨h0,a,cap,hv,h1⟩:=h
 refine⟨h0,a,cap,hv,h1.imp id ?_⟩
 rintro⟨b,off,ha,hlt,hc⟩
 refine⟨b,off,ha,Nat.lt_of_lt_of_le hlt hb.size,fun i hi=>?_⟩
 rw [hb.cell (p:=⟨b,off+i,none⟩) (Nat.lt_of_lt_of_le hlt hn)]
 exact hc i hi
theorem YrAt.grows{w w':World}{v:Value}{l:List Int}(h:YrAt w v l)(hg:w.Grows w'):YrAt w' v l:=h.below (Nat.le_refl _) hg.below
theorem YrAt.grow{w:World}{v:Value}{l:List Int}(h:YrAt w v l)(bs:Array Obj)(d:Nat):YrAt (w.grow bs d) v l:=h.grows ⟨bs,d,rfl⟩
theorem YrAt.alloc{w:World}{v:Value}{l:List Int}(h:YrAt w v l)(o:Obj):YrAt (w.alloc o) v l:=h.below (Nat.le_refl _) ((Below.refl _ _).alloc (Nat.le_refl _) _)
theorem years_any(l:List Int):(List.range l.length).any (fun k=>!decide (0≤l.getD k 0∧l.getD k 0≤1000000000000))=!l.all fun x=>decide (0≤x∧x≤1000000000000):=by
 induction l with
 |nil=>rfl
 |cons p r ih=>
  rw [List.length_cons,List.range_succ_eq_map,List.any_cons,List.any_map,List.all_cons,Bool.not_and,←ih]
  rfl
def PredI(g:FuncId)(lb:Array Value)(l:List Int)(p:Nat→Bool)(w:World):Prop:=
 ∀k,k<l.length→∀w',w.Grows w'→Calls Tryz.prog g (#[.int .i64 (l.getD k 0)]++lb) w' fun r w''=>r= .returned (.bool (p k))∧w'.Grows w''
theorem idxI_any(g:FuncId)(lb:Array Value)(eg:∀args w,(callFunc g args).run Tryz.prog w= .ok (.enter g args) w)(l:List Int)(v:Value)(p:Nat→Bool)(w:World)(h:YrAt w v l)(hp:Hid (PredI g lb l p w)) :
 Calls Tryz.prog 187 #[v,.func (.func g) #[] lb] w fun r w'=>(∃z,r= .returned (.int .i64 z)∧IdxE l.length p z)∧w.Grows w':=by
 obtain⟨hlen,a,cap,rfl,hc⟩:=h
 have Hc:=Lib.hid hc
 clear hc
 go_enter Tryz.func187,Tryz.ntmps187
 go_wp2_with fail
 go_loopw [5,8] (fun _ v8 wr=>∃k:Nat,k≤l.length∧v8= .int .i64 k∧Hid (∀j,j<k→p j=false)∧w.Grows wr) (fun _ v8 _=>l.length-(intOf v8).toNat)
 case atStart=>exact⟨0,by omega,rfl,Lib.hid (fun j hj=>by omega),.refl _⟩
 case round=>
  obtain⟨k,hk,rfl,hno,hgr⟩:=hrel
  have HG:=Lib.hid hgr
  by_cases hlt2:k<l.length
  ·rcases Hc.out with h0|⟨b,off,rfl,hbw,hx⟩
   ·omega
   ·have y0:wr.cell? ⟨b,off+k,none⟩=some (.int .i64 (l.getD k 0)):=by rw [hgr.below.cell (p:=⟨b,off+k,none⟩) hbw];exact hx k hlt2
    clear hx
    have d1:(k:Int)<(l.length:Int):=by omega
    have hcall:=hp.out k hlt2 _ hgr
    generalize l.getD k 0=dk at *
    have HLT:=Lib.hid hlt2
    clear hgr
    cases hq:p k with
    |true=>
     rw [hq]at hcall
     have HQ:=Lib.hid hq
     clear hq
     have HCL:=Lib.hid hcall
     clear hcall
     go_wp2_with (go_at_fn g;refine HCL.out.mono ?_;rintro e' w' ⟨rfl,hg2⟩;have HG2:=Lib.hid hg2;clear hg2)
     go_returns
     exact⟨⟨_,rfl,.inr ⟨k,HLT.out,rfl,HQ.out⟩⟩,World.Grows.trans HG.out HG2.out⟩
    |false=>
     rw [hq]at hcall
     have HQ:=Lib.hid hq
     clear hq
     have HCL:=Lib.hid hcall
     clear hcall
     go_wp2_with (go_at_fn g;refine HCL.out.mono ?_;rintro e' w' ⟨rfl,hg2⟩;have HG2:=Lib.hid hg2;clear hg2)
     go_roundw
     case rel=>exact⟨k+1,by omega,by go_num,Lib.hid (fun j hj=>by
      by_cases ej:j=k
      ·subst ej;exact HQ.out
      ·exact hno.out j (by omega)),World.Grows.trans HG.out HG2.out⟩
     case measure=>simp [intOf];omega
  ·obtain rfl:k=l.length:=by omega
   clear hgr
   go_wp2_with fail
   go_returns
   exact⟨⟨_,rfl,.inl ⟨rfl,hno.out⟩⟩,HG.out⟩
theorem containsI_any(g:FuncId)(lb:Array Value)(eg:∀args w,(callFunc g args).run Tryz.prog w= .ok (.enter g args) w)(l:List Int)(v:Value)(p:Nat→Bool)(w:World)(h:YrAt w v l)(hp:Hid (PredI g lb l p w)) :
 Calls Tryz.prog 142 #[v,.func (.func g) #[] lb] w fun r w'=>r= .returned (.bool ((List.range l.length).any p))∧w.Grows w':=by
 have HI:=Lib.hid (idxI_any g lb eg l v p w h hp)
 obtain⟨-,a,cap,rfl,-⟩:=h
 clear hp
 generalize hX:(List.range l.length).any p=X
 have HX:=Lib.hid hX
 clear hX
 go_enter Tryz.func142,Tryz.ntmps142
 go_wp2_with (go_at_call 187;refine HI.out.mono ?_;rintro e' w' ⟨⟨z,rfl,hz⟩,bs2,d2,rfl⟩;have HZ:=Lib.hid hz.any;clear hz)
 go_returns
 exact⟨ret_bool (by rw [←HX.out,←HZ.out]),.of_below belB⟩
theorem badY_clos:∀args w,(callFunc 143 args).run Tryz.prog w= .ok (.enter 143 args) w:=enters_of Tryz.func143 (by kernel_rfl) rfl
theorem badY_one(d:Int)(w:World):Calls Tryz.prog 143 #[.int .i64 d] w fun r w'=>r= .returned (.bool (!decide (0≤d∧d≤1000000000000)))∧w.Grows w':=by
 by_cases h1:d<0
 ·go_enter Tryz.func143,Tryz.ntmps143
  exact fz15
 ·by_cases h2:d > 1000000000000
  ·go_enter Tryz.func143,Tryz.ntmps143
   exact fz15
  ·go_enter Tryz.func143,Tryz.ntmps143
   exact fz15
theorem validYears_any(l:List Int)(v:Value)(w:World)(h:YrAt w v l):Calls Tryz.prog 99 #[v] w fun r w'=>r= .returned (.bool (yearsOk l))∧w.Grows w':=by
 have HV:=Lib.hid h
 have HCB:Hid (∀w',w.Grows w'→Calls Tryz.prog 142 #[v,.func (.func 143) #[] #[]] w' fun r w''=>r= .returned (.bool (!l.all fun x=>decide (0≤x∧x≤1000000000000)))∧w'.Grows w''):=
  Lib.hid (fun w' hg=>by
   have:=containsI_any 143 #[] badY_clos l v (fun k=>!decide (0≤l.getD k 0∧l.getD k 0≤1000000000000)) w' (HV.out.grows hg) (Lib.hid (fun k hk w2 h2=>badY_one _ w2))
   rw [years_any]at this
   exact this)
 obtain⟨h1000,a,cap,rfl,-⟩:=h
 have HF:Hid (yearsOk l=(decide (l.length≤200)&&l.all fun x=>decide (0≤x∧x≤1000000000000))):=Lib.hid rfl
 generalize(l.all fun x=>decide (0≤x∧x≤1000000000000))=Q at HCB HF
 by_cases hn:(l.length:Int)≤200
 ·cases Q
  all_goals
   go_enter Tryz.func99,Tryz.ntmps99
   go_wp2_with (go_at_call 142;refine(HCB.out _ (.of_below belB)).mono ?_;rintro e' w' ⟨rfl,bs2,d2,rfl⟩)
   go_returns
   exact⟨ret_bool (by rw [HF.out];simp;try omega),.of_below belB⟩
 ·go_enter Tryz.func99,Tryz.ntmps99
  go_wp2_with fail
  go_returns
  exact⟨ret_bool (by rw [HF.out,decide_eq_false (by omega)];rfl),.of_below belB⟩
theorem times_abs{F:FuncId}(T:∀(a b:Nat) (w:World),a<18446744073709551616→b<18446744073709551616→Calls Tryz.prog F #[.int .u64 a,.int .u64 b] w fun e w'=>e= .returned (.agg #[.int .u64 (hiW (a*b)),.int .u64 (loW (a*b))])∧w.Grows w')
 {a b:Int} (ha:I64 a) (hb:I64 b) (w:World):Calls Tryz.prog F #[.int .u64 (absI a),.int .u64 (absI b)] w fun e w'=>e= .returned (.agg #[.int .u64 (hiW (a.natAbs*b.natAbs)),.int .u64 (loW (a.natAbs*b.natAbs))])∧w.Grows w':=by
 unfold I64 at ha hb
 exact T a.natAbs b.natAbs w (by omega) (by omega)
def I64x4(a b c d:Int):Prop:=I64 a∧I64 b∧I64 c∧I64 d
end Go.Proofs.YtaghhncnicbedaaGreatDoor
namespace Go.Proofs.YtaghhncnicbedaaGreatDoor
open Go.RowKit Go.ChangeShapes Go.WideShapes Go.Deep
section
variable {H : Type} {enc : TypeId × Value → H} {P : Program} {w : World}
def fits(P:Program)(t:TypeId)(d:DataW H):Prop:=∀n∈d.weights P t,n≤140737488351232

theorem add_at'(b off i:Nat):(⟨b,off,none⟩:Addr).add i=⟨b,off+i,none⟩:=by unfold Addr.add;split<;>simp_all
theorem cell_lt{w:World}{b o:Nat}{v:Value}(h:w.cell? ⟨b,o,none⟩=some v):b<w.heap.size:=by
 rcases Nat.lt_or_ge b w.heap.size with h1|h1
 ·exact h1
 ·simp [World.cell?,Array.getElem?_eq_none h1]at h
theorem i64_of_wf{n:Int}(h:(Lit.int .i64 n).wf=true):I64 n:=bounds_i64 h
theorem IntsAt.of_cells{a:Option Addr}{len cap:Nat}{zs:List Int}(hl:len≤cap)(hz:zs.length=cap)(hw:∀n∈zs,(Lit.int .i64 n).wf=true)(hb:len≤140737488355328)(ha:a=none→len=0)
 (hc:∀x,a=some x→∀i,i<cap→w.cell? (x.add i)=some (.int .i64 (zs.getD i 0))):IntsAt w (.slice a len cap) (zs.take len):=by
 have hlen:(zs.take len).length=len:=by rw [List.length_take];omega
 refine⟨by omega,fun z hz2=>i64_of_wf (hw z (List.mem_of_mem_take hz2)),a,cap,by rw [hlen], ?_⟩
 rw [hlen]
 by_cases h0:len=0
 ·exact .inl h0
 ·cases a with
  |none=>exact .inl (ha rfl)
  |some x=>
   obtain⟨b,off,spot⟩:=x
   have h1:=hc _ rfl 0 (by omega)
   have hspot:spot=none:=by simpa [Addr.add]using World.cell?_spot h1
   subst hspot
   have h2:∀i,i<cap→w.cell? ⟨b,off+i,none⟩=some (.int .i64 (zs.getD i 0)):=fun i hi=>by
    rw [←add_at'];exact hc _ rfl i hi
   refine .inr ⟨b,off,rfl,cell_lt (h2 0 (by omega)),fun i hi=>?_⟩
   rw [h2 i (by omega)]
   simp [List.getD_eq_getElem?_getD,hi]
theorem IntsAt.of_trod{t e:TypeId}{fuel:Nat}{v:Value}{x:DataW H × List MemPlace}(ht:P.underlying t=some (.slice e))(he:P.underlying e=some (.int .i64))(hc:P.cellsOf e=1)(hb:P.bytesOf e=8)
 (h:DataW.trod enc P w 0 (fun _=>true) true fuel t [v]=some x) (hf:fits P t x.1):∃zs,IntsAt w v zs:=by
 rcases open_ints ht he hc h with ⟨hcs,_⟩|⟨a,l,c,zs,hcs,_,hl,hm,hz,hx,hcell,hwz⟩
 ·simp at hcs
  subst hcs
  exact⟨[],by simp,by simp,none,0,rfl,.inl rfl⟩
 ·simp at hcs
  subst hcs
  simp only [if_true]at hz
  have h8:l≤140737488355328:=by
   have h9:=hf ((l+(c-l))*8) (by rw [hx];simp [DataW.weights,ht,lits,hb,hz,Nat.min_eq_left hl])
   omega
  exact⟨zs.take l,IntsAt.of_cells hl hz hwz h8 (fun e=>by cases e) fun x' hx' i hi=>by cases hx';exact hcell i (by omega)⟩
end
theorem c3:(Tryz.prog).cellsOf 3=1:=by kernel_rfl
theorem c22:(Tryz.prog).cellsOf 22=1:=by kernel_rfl
theorem b3:(Tryz.prog).bytesOf 3=8:=by kernel_rfl
theorem b22:(Tryz.prog).bytesOf 22=24:=by kernel_rfl
theorem fits_part{H:Type}{P:Program}{t:TypeId}{fs:Array Field}{l:List (DataW H)}{i:Nat}{f:Field}{d:DataW H}(ht:P.underlying t=some (.struct fs))(h:fits P t (.agg l))(hf:fs[i]? =some f)(hd:l[i]? =some d):fits P f.type d:=by
 intro n hn
 refine h n ?_
 simp only [DataW.weights,ht]
 exact DataW.weights_mem_each (j:=i) (by simp [hf]) hd n hn
theorem int_of_trod{H:Type}{enc:TypeId × Value→H}{w:World}{fuel:Nat}{v:Value}{x:DataW H × List MemPlace}(h:DataW.trod enc Tryz.prog w 0 (fun _=>true) true fuel 3 [v]=some x):∃n,v= .int .i64 n∧I64 n:=by
 obtain⟨n,hcs,_,hw⟩:=DataW.trod_int Tryz.underlying3 h
 exact⟨n,by simpa using hcs,i64_of_wf hw⟩
end Go.Proofs.YtaghhncnicbedaaGreatDoor
