import Derived.Test.YtfoefpoaomepbaaGreatDoorFInE
import Derived.Laws.Strings
set_option linter.all false
set_option maxHeartbeats 16000000
set_option maxRecDepth 1000000
namespace Go.Proofs.YtfoefpoaomepbaaGreatDoor
theorem values_get(v:Vw)(env:List (ByteArray × Val))(l:List Ex)(k:Nat)(hk:k<l.length):(valuesF v env l).getD k (.zero,0)=valueF v env (l.getD k default):=by
 induction l generalizing k with
 |nil=>simp at hk
 |cons e r ih=>
  rw [valuesF]
  cases k with
  |zero=>rfl
  |succ k=>simpa using ih k (by simpa using hk)
theorem typed_all{env:List (ByteArray × Int)}{e:Ex}(hi:(inferF env e).2=0)(h1:¬e.op=1)(h2:¬e.op=2)(h3:¬e.op=3):∀k,k<e.args.length→infC env (e.arg k)=0:=by
 intro k
 induction k using Nat.strongRecOn with
 |ind k ih=>
  intro hk
  by_cases hb:infC env (e.arg k)=0
  ·exact hb
  ·have:=inf_bad env e h1 h2 h3 k hk (fun j hj=>ih j hj (by omega)) hb
   rw [this]at hi
   exact absurd hi hb
theorem typed_op{v:Vw}(hv:v.ok=true){env:List (ByteArray × Val)}(hE:∀p∈env,p.2.ok=true){e:Ex}(hf:formedB e=true)(hi:(inferF (dimsOf env) e).2=0)(h1:¬e.op=1)(h2:¬e.op=2)(h3:¬e.op=3) :
 ∃ds:List Int,e.args.length=ds.length∧(ds.length:Int)=argsN e.op∧4≤e.op∧e.op≤21∧resD e.op ds≠0∧
  ∀k,k<e.args.length→formedB (e.arg k)=true∧(inferF (dimsOf env) (e.arg k)).2=0∧okR (ds.getD k 0) (valueF v env (e.arg k)):=by
 obtain⟨hal,ho4,ho21,hfs⟩:=formed_op hf h1 h2 h3
 have hall:=typed_all hi h1 h2 h3
 have hop:=inf_op (dimsOf env) e h1 h2 h3 hall
 refine⟨dimsK (dimsOf env) e e.args.length,by simp [dimsK],by simpa [dimsK]using hal,ho4,ho21, ?_,fun k hk=>⟨formeds_get hfs k hk,hall k hk, ?_⟩⟩
 ·intro h0
  rw [hop,if_pos h0]at hi
  simp at hi
 ·have:=value_ok hv hE (e.arg k) (formeds_get hfs k hk) (hall k hk)
  have hd:(dimsK (dimsOf env) e e.args.length).getD k 0=(inferF (dimsOf env) (e.arg k)).1:=by
   unfold dimsK Ex.arg
   rw [List.take_length,List.getD_eq_getElem?_getD,List.getElem?_map,List.getElem?_eq_getElem hk,List.getD_eq_getElem?_getD,List.getElem?_eq_getElem hk];rfl
  rw [hd]
  exact this
theorem cmpF_ok{a b c d:Int}(ha:vfrac a b=true)(hb:vfrac c d=true):cmpF a b c d=(cmpI a b c d,0):=by
 unfold cmpF;rw [ha,hb];rfl
theorem dims_ne{op:Int}{x y:Val}(ho:op=7∨op=8∨op=9∨op=10∨op=19∨op=20∨(11≤op∧op≤16))(hr:resD op [x.dim,y.dim]≠0):x.dim≠1∧y.dim≠1:=by
 have h9:op=9∨op=10∨((op=7∨op=8∨op=19∨op=20)∨(11≤op∧op≤16)):=by omega
 rcases h9 with rfl|rfl|h|h
 ·rw [res_mul]at hr
  (repeat' split at hr)<;>omega
 ·rw [res_div]at hr
  (repeat' split at hr)<;>omega
 ·rw [res_add _ _ h]at hr
  (repeat' split at hr)<;>omega
 ·rw [res_cmp _ _ h]at hr
  (repeat' split at hr)<;>omega
theorem Val.ok_rng{x:Val}(h:x.ok=true):VRng x:=by
 unfold VRng I64
 by_cases hd:x.dim=1
 ·unfold Val.ok at h
  rw [if_pos hd,decide_eq_true_eq]at h
  omega
 ·have:=vfrac_bd (Val.ok_num h hd).2.2.2
  omega
end Go.Proofs.YtfoefpoaomepbaaGreatDoor
namespace Go.Proofs.YtfoefpoaomepbaaGreatDoor
open Go.RowKit
def StpAt(w:World)(v:Value)(l:List (ByteArray × Val)):Prop:=SRow.Lies l w.heap.size w v l.length
theorem StpAt.below{w w':World}{v:Value}{l:List (ByteArray × Val)}{n:Nat}(h:StpAt w v l)(hn:w.heap.size≤n)(hb:Below n w w'):StpAt w' v l:=by
 have h2:=SRow.Lies.below h (hb.mono hn)
 obtain⟨h0,a,cap,hv,h1⟩:=h2
 exact⟨h0,a,cap,hv,h1.imp id fun⟨b,off,ha,hlt,hc⟩=>⟨b,off,ha,Nat.lt_of_lt_of_le hlt hb.size,hc⟩⟩
theorem StpAt.grows{w w':World}{v:Value}{l:List (ByteArray × Val)}(h:StpAt w v l)(hg:w.Grows w'):StpAt w' v l:=h.below (Nat.le_refl _) hg.below
def evC(v:Vw)(y se:Value):Array Value:=#[.int .i64 v.age,.int .i64 v.year,.int .i64 v.children,.int .i64 v.insured,.int .i64 v.worked,.int .i64 v.voluntary,.int .i64 v.service,.int .i64 v.equated,.int .i64 v.raising,.int .i64 v.resident,.int .i64 v.bn,.int .i64 v.bd,y,se]
structure EvAt(w:World)(E:Nat)(v:Vw)(y:Value)(env:List (ByteArray × Val))(se:Value):Prop where
 blk:w.heap[E]? =some (.cells (evC v y se) 99999 (0,0))
 yr:YrAt w y v.years
 st:StpAt w se env
theorem EvAt.lt{w:World}{E:Nat}{v:Vw}{y:Value}{env:List (ByteArray × Val)}{se:Value}(h:EvAt w E v y env se):E<w.heap.size:=(Array.getElem?_eq_some_iff.1 h.blk).1
theorem EvAt.grows{w w':World}{E:Nat}{v:Vw}{y:Value}{env:List (ByteArray × Val)}{se:Value}(h:EvAt w E v y env se)(hg:w.Grows w'):EvAt w' E v y env se:=
 ⟨(hg.below.block E h.lt).trans h.blk,h.yr.grows hg,h.st.grows hg⟩
theorem RepE.arg_cells{S:Nat→Prop}{w:World}{e:Ex}{a:Option Addr}{cap:Nat}(h:RepE S w e (.slice a e.args.length cap))(hn:0<e.args.length):∃b off,a=some ⟨b,off,none⟩∧b<w.heap.size∧
 ∀k,k<e.args.length→∃ak ck,ExAt w b (off+k*6) (e.arg k) (.slice ak (e.arg k).args.length ck)∧RepE S w (e.arg k) (.slice ak (e.arg k).args.length ck):=by
 generalize hv:Value.slice a e.args.length cap=v at h
 cases h with
 |mk _ a' cap' vs hr hc hs=>
  cases hv
  rcases hc with h0|⟨b,off,rfl,-,hb,hx⟩
  ·omega
  ·refine⟨b,off,rfl,hb,fun k hk=>?_⟩
   obtain⟨ak,ck,hvk⟩:=(hs k hk).form0
   exact⟨ak,ck,hvk ▸ hx k hk,hvk ▸ hs k hk⟩
theorem name_typed{v:Vw}(hv:v.ok=true){env:List (ByteArray × Val)}(hE:∀p∈env,p.2.ok=true){s:ByteArray}(h:(inferN (dimsOf env) s).2=0):(nameF v env s).2=0:=by
 rcases name_ok hv hE h with h1|⟨-,h2⟩
 ·exact h1.1
 ·unfold nameF at h2 ⊢
  split<;>rename_i hx
  ·rfl
  ·rw [hx]at h2
   dsimp only at h2
   split<;>rename_i hy
   ·rfl
   ·rw [hy]at h2;dsimp only at h2;omega
end Go.Proofs.YtfoefpoaomepbaaGreatDoor
namespace Go.Proofs.YtfoefpoaomepbaaGreatDoor
open Go.RowKit Go.Shelf
attribute [local go_sem] Oper.semAt_some
structure NmMem(B:Nat)(s:ByteArray)(N:Nat)(x:Val)(W:World):Prop where
 nm:W.heap[B]? =some (.cells #[.string s] 9 (0,0))
 res:W.heap[B+1]? =some (.cells #[.int .i64 x.dim,.bool x.yes,.int .i64 x.n,.int .i64 x.d] 41 (0,0))
 size:N≤W.heap.size
theorem NmMem.own{B N:Nat}{s:ByteArray}{x:Val}{X Y:World}{row:Option Nat}(h:NmMem B s N x X)(hg:X.grownBy Y row)(hr:∀r,row=some r→∃o:Obj,X.heap[r]? =some o∧o.isCells=false):NmMem B s N x Y:=
 ⟨(grownBy_keeps_cells hg hr h.nm rfl).trans h.nm,(grownBy_keeps_cells hg hr h.res rfl).trans h.res,Nat.le_trans h.size hg.size⟩
theorem NmMem.alloc{B N:Nat}{s:ByteArray}{x:Val}{X:World}(h:NmMem B s N x X)(o:Obj):NmMem B s N x (X.alloc o):=h.own (World.grownBy_alloc X o none) (fun r e=>by cases e)
theorem NmMem.below{B N:Nat}{s:ByteArray}{x:Val}{X Y:World}(h:NmMem B s N x X)(hN:B+2≤X.heap.size)(hb:Below X.heap.size X Y):NmMem B s Y.heap.size x Y:=
 ⟨(hb.block _ (by omega)).trans h.nm,(hb.block _ (by omega)).trans h.res,Nat.le_refl _⟩
end Go.Proofs.YtfoefpoaomepbaaGreatDoor
