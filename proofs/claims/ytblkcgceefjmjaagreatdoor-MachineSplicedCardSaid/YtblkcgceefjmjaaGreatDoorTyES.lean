/- typing.Infer: the dimension of an expression with its checks, in the program. -/
import Derived.Test.YtblkcgceefjmjaaGreatDoorSAw9R
set_option linter.all false
set_option maxHeartbeats 16000000
set_option maxRecDepth 1000000
namespace Go.Proofs.YtblkcgceefjmjaaGreatDoor
open Go.RowKit
theorem dims_any(l:List (ByteArray × Int)):(List.range l.length).any (fun k=>!decide (1≤bdD l k∧bdD l k≤4))=!dimsOk l:=by
 induction l with
 |nil=>rfl
 |cons p r ih=>
  rw [List.length_cons,List.range_succ_eq_map,List.any_cons,List.any_map]
  unfold dimsOk at ih ⊢
  rw [List.all_cons,Bool.not_and,←ih]
  rfl
theorem valid_formed{e:Ex}(h:validB e=true):formedB e=true:=by
 unfold validB at h
 simp only [Bool.and_eq_true]at h
 first|exact h.2|exact h.1.2|exact h.1
theorem inferE_no{env:List (ByteArray × Int)}{e:Ex}(h:validB e=false∨dimsOk env=false):inferE env e=(0,1):=by
 unfold inferE
 rw [if_neg]
 rintro⟨h1,h2⟩
 rcases h with h|h
 ·rw [h]at h1;cases h1
 ·rw [h]at h2;cases h2
theorem inferE_yes{env:List (ByteArray × Int)}{e:Ex}(h1:validB e=true)(h2:dimsOk env=true):inferE env e=inferF env e:=by
 unfold inferE;rw [if_pos ⟨h1,h2⟩]
theorem Infer2_any(S:Nat→Prop)(env:List (ByteArray × Int))(e:Ex)(v ve:Value)(w:World)(h:RepE S w e v)(hbig:e.size≤2305843009213693952)(ht:Tab w)(hv:BindAt w ve env) :
 Calls Tryz.prog 66 #[exV e v,ve] w (InfP (inferE env e) w):=by
 have HR:=Lib.hid h
 have HV:=Lib.hid hv
 have HT:=Lib.hid ht
 have hrng:=h.rng
 obtain⟨a,cap,rfl⟩:=h.form0
 have HVE:Hid (∀w',w.Grows w'→Calls Tryz.prog 56 #[exV e (.slice a e.args.length cap)] w' fun r w''=>r= .returned (.bool (validB e))∧w'.Grows w''):=
  Lib.hid (fun w' hg=>ValidExpr2_any S e _ w' (Lib.hid (HR.out.grows hg)) (Lib.hid hbig) (Lib.hid (HT.out.grows hg)))
 have HCB:Hid (∀w',w.Grows w'→Calls Tryz.prog 139 #[ve,.func (.func 141) #[] #[]] w' fun r w''=>r= .returned (.bool (!dimsOk env))∧w'.Grows w''):=
  Lib.hid (fun w' hg=>by
   have:=containsB_any 141 #[] badB_clos env ve (fun k=>!decide (1≤bdD env k∧bdD env k≤4)) w' (HV.out.grows hg) (Lib.hid (fun k hk w2 h2=>badB_one _ _ w2))
   rw [dims_any]at this
   exact this)
 obtain⟨-,ae,ce,rfl,-⟩:=hv
 unfold exV at HVE
 cases hve:validB e with
 |false=>
  have HF:=Lib.hid (inferE_no (env:=env) (.inl hve))
  rw [hve]at HVE
  clear h ht hve
  go_enter Tryz.func66,Tryz.ntmps66
  go_wp2_with (go_at_call 56;refine(HVE.out _ (.of_below belB)).mono ?_;rintro e' w' ⟨rfl,bs,d,rfl⟩)
  go_returns
  exact infP HF.out (.of_below belB)
 |true=>
  rw [hve]at HVE
  cases hde:dimsOk env with
  |false=>
   have HF:=Lib.hid (inferE_no (e:=e) (.inr hde))
   rw [hde]at HCB
   clear h ht hve hde
   go_enter Tryz.func66,Tryz.ntmps66
   go_wp2_with (first
    |(go_at_call 56;refine(HVE.out _ (.of_below belB)).mono ?_;rintro e' w' ⟨rfl,bs,d,rfl⟩)
    |(go_at_call 139;refine(HCB.out _ (.of_below belB)).mono ?_;rintro e' w' ⟨rfl,bs2,d2,rfl⟩))
   go_returns
   exact infP HF.out (.of_below belB)
  |true=>
   have HF:=Lib.hid (inferE_yes hve hde)
   rw [hde]at HCB
   have HI:Hid (∀w',w.Grows w'→Calls Tryz.prog 142 #[exV e (.slice a e.args.length cap),.slice ae env.length ce] w' (InfP (inferF env e) w')):=
    Lib.hid (fun w' hg=>infer2_walk S env hde e.size e (Nat.le_refl _) (valid_formed hve) _ _ w' (HR.out.grows hg) (HV.out.grows hg))
   unfold InfP exV at HI
   clear h ht hve hde
   rw [HF.out]
   generalize inferF env e=q at *
   go_enter Tryz.func66,Tryz.ntmps66
   go_wp2_with (first
    |(go_at_call 56;refine(HVE.out _ (.of_below belB)).mono ?_;rintro e' w' ⟨rfl,bs,d,rfl⟩)
    |(go_at_call 139;refine(HCB.out _ (.of_below belB)).mono ?_;rintro e' w' ⟨rfl,bs2,d2,rfl⟩)
    |(go_at_call 142;refine(HI.out _ (.of_below belB)).mono ?_;rintro e' w' ⟨rfl,bs3,d3,rfl⟩))
   go_returns
   exact infP rfl (.of_below belB)
end Go.Proofs.YtblkcgceefjmjaaGreatDoor
