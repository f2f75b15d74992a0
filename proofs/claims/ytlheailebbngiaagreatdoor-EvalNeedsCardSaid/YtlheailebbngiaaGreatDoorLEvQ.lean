import Derived.Test.YtlheailebbngiaaGreatDoorLFd2
import Derived.Test.YtlheailebbngiaaGreatDoorLVal
set_option linter.all false
set_option maxHeartbeats 16000000
set_option maxRecDepth 1000000
namespace Go.Proofs.YtlheailebbngiaaGreatDoor
theorem values_get(v:Vw)(env:List (ByteArray × Val))(l:List Ex)(k:Nat)(hk:k<l.length):(valuesF v env l).getD k (.zero,0)=valueF v env (l.getD k default):=by
 induction l generalizing k with
 |nil=>simp at hk
 |cons e r ih=>
  rw [valuesF]
  cases k with
  |zero=>rfl
  |succ k=>simpa using ih k (by simpa using hk)
theorem typed_all{env:List (ByteArray × Int)}{e:Ex}(hi:(inferF env e).2=0)(h1:¬e.op=1)(h2:¬e.op=2)(h3:¬e.op=3):∀k,k<e.args.length→infC env (e.arg k)=0:=by
 intro k
 induction k using Nat.strongRecOn with
 |ind k ih=>
  intro hk
  by_cases hb:infC env (e.arg k)=0
  ·exact hb
  ·have:=inf_bad env e h1 h2 h3 k hk (fun j hj=>ih j hj (by omega)) hb
   rw [this]at hi
   exact absurd hi hb
theorem typed_op{v:Vw}(hv:v.ok=true){env:List (ByteArray × Val)}(hE:∀p∈env,p.2.ok=true){e:Ex}(hf:formedB e=true)(hi:(inferF (dimsOf env) e).2=0)(h1:¬e.op=1)(h2:¬e.op=2)(h3:¬e.op=3) :
 ∃ds:List Int,e.args.length=ds.length∧(ds.length:Int)=argsN e.op∧4≤e.op∧e.op≤21∧resD e.op ds≠0∧
  ∀k,k<e.args.length→formedB (e.arg k)=true∧(inferF (dimsOf env) (e.arg k)).2=0∧okR (ds.getD k 0) (valueF v env (e.arg k)):=by
 obtain⟨hal,ho4,ho21,hfs⟩:=formed_op hf h1 h2 h3
 have hall:=typed_all hi h1 h2 h3
 have hop:=inf_op (dimsOf env) e h1 h2 h3 hall
 refine⟨dimsK (dimsOf env) e e.args.length,by simp [dimsK],by simpa [dimsK]using hal,ho4,ho21, ?_,fun k hk=>⟨formeds_get hfs k hk,hall k hk, ?_⟩⟩
 ·intro h0
  rw [hop,if_pos h0]at hi
  simp at hi
 ·have:=value_ok hv hE (e.arg k) (formeds_get hfs k hk) (hall k hk)
  have hd:(dimsK (dimsOf env) e e.args.length).getD k 0=(inferF (dimsOf env) (e.arg k)).1:=by
   unfold dimsK Ex.arg
   rw [List.take_length,List.getD_eq_getElem?_getD,List.getElem?_map,List.getElem?_eq_getElem hk,List.getD_eq_getElem?_getD,List.getElem?_eq_getElem hk];rfl
  rw [hd]
  exact this
theorem cmp_eq{a b c d:Int}(ha:vfrac a b=true)(hb:vfrac c d=true)(h:cmpI a b c d=0):a=c∧b=d:=by
 refine frac_eq ha hb ?_
 unfold cmpI at h
 (repeat' split at h)<;>omega
theorem cmpF_ok{a b c d:Int}(ha:vfrac a b=true)(hb:vfrac c d=true):cmpF a b c d=(cmpI a b c d,0):=by
 unfold cmpF;rw [ha,hb];rfl
theorem dims_ne{op:Int}{x y:Val}(ho:op=7∨op=8∨op=9∨op=10∨op=19∨op=20∨(11≤op∧op≤16))(hr:resD op [x.dim,y.dim]≠0):x.dim≠1∧y.dim≠1:=by
 have h9:op=9∨op=10∨((op=7∨op=8∨op=19∨op=20)∨(11≤op∧op≤16)):=by omega
 rcases h9 with rfl|rfl|h|h
 ·rw [res_mul]at hr
  (repeat' split at hr)<;>omega
 ·rw [res_div]at hr
  (repeat' split at hr)<;>omega
 ·rw [res_add _ _ h]at hr
  (repeat' split at hr)<;>omega
 ·rw [res_cmp _ _ h]at hr
  (repeat' split at hr)<;>omega
theorem op2_cmp{op:Int}{x y:Val}(ho:11≤op∧op≤16)(hx:x.ok=true)(hy:y.ok=true)(hr:resD op [x.dim,y.dim]≠0) :
 op2 op x y=(.truth (cmpB op (cmpF x.n x.d y.n y.d).1),0)∧(cmpF x.n x.d y.n y.d).2=0:=by
 have hd:=dims_ne (.inr (.inr (.inr (.inr (.inr (.inr ho)))))) hr
 rw [cmpF_ok (Val.ok_num hx hd.1).2.2.2 (Val.ok_num hy hd.2).2.2.2]
 refine⟨?_,rfl⟩
 unfold op2
 rw [if_neg (by omega),if_neg (by omega),if_neg (by omega),if_neg (by omega),if_neg (by omega),if_neg (by omega)]
theorem op2_ar{op:Int}{x y:Val}(ho:op=7∨op=8∨op=9∨op=10∨op=19∨op=20)(hx:x.ok=true)(hy:y.ok=true)(hr:resD op [x.dim,y.dim]≠0) :
 op2 op x y=numR (dimA op x.dim y.dim) (arF op x.n x.d y.n y.d):=by
 have hd:=dims_ne (by omega) hr
 have hx:=(Val.ok_num hx hd.1).2.2.2
 have hy:=(Val.ok_num hy hd.2).2.2.2
 rcases ho with rfl|rfl|rfl|rfl|rfl|rfl
 ·rfl
 ·rfl
 ·have:resD 9 [x.dim,y.dim]=dimA 9 x.dim y.dim:=by
   rw [res_mul]at hr ⊢
   unfold dimA
   (repeat' split at hr)<;>simp_all
  show numR (resD 9 [x.dim,y.dim]) _=_
  rw [this];rfl
 ·have:resD 10 [x.dim,y.dim]=dimA 10 x.dim y.dim:=by
   rw [res_div]at hr ⊢
   unfold dimA
   (repeat' split at hr)<;>simp_all
  show numR (resD 10 [x.dim,y.dim]) _=_
  rw [this];rfl
 ·show(if cmpI x.n x.d y.n y.d≤0 then Val.num x.dim x.n x.d else .num x.dim y.n y.d,0)=numR x.dim (if(cmpF x.n x.d y.n y.d).1<0 then(x.n,x.d,(cmpF x.n x.d y.n y.d).2)else(y.n,y.d,(cmpF x.n x.d y.n y.d).2))
  rw [cmpF_ok hx hy]
  have he:=cmp_eq hx hy
  generalize cmpI x.n x.d y.n y.d=c at *
  dsimp only
  by_cases h1:c<0
  ·rw [if_pos h1,if_pos (by omega)];rfl
  ·rw [if_neg h1]
   by_cases h2:c≤0
   ·obtain⟨h3,h4⟩:=he (by omega)
    rw [if_pos h2,h3,h4];rfl
   ·rw [if_neg h2];rfl
 ·show(if 0≤cmpI x.n x.d y.n y.d then Val.num x.dim x.n x.d else .num x.dim y.n y.d,0)=numR x.dim (if(cmpF x.n x.d y.n y.d).1<0 then(y.n,y.d,(cmpF x.n x.d y.n y.d).2)else(x.n,x.d,(cmpF x.n x.d y.n y.d).2))
  rw [cmpF_ok hx hy]
  generalize cmpI x.n x.d y.n y.d=c at *
  dsimp only
  by_cases h1:c<0
  ·rw [if_pos h1,if_neg (by omega)];rfl
  ·rw [if_neg h1,if_pos (by omega)];rfl
theorem Val.ok_rng{x:Val}(h:x.ok=true):VRng x:=by
 unfold VRng I64
 by_cases hd:x.dim=1
 ·unfold Val.ok at h
  rw [if_pos hd,decide_eq_true_eq]at h
  omega
 ·have:=vfrac_bd (Val.ok_num h hd).2.2.2
  omega
end Go.Proofs.YtlheailebbngiaaGreatDoor
