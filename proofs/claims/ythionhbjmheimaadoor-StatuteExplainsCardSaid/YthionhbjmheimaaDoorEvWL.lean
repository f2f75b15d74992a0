/- The evaluator in memory; what evaluating gives. -/
import Derived.Test.YthionhbjmheimaaDoorLInE
set_option linter.all false
set_option maxHeartbeats 16000000
set_option maxRecDepth 1000000
namespace Go.Proofs.YthionhbjmheimaaDoor
open Go.RowKit
def StpAt(w:World)(v:Value)(l:List (ByteArray × Val)):Prop:=SRow.Lies l w.heap.size w v l.length
theorem StpAt.below{w w':World}{v:Value}{l:List (ByteArray × Val)}{n:Nat}(h:StpAt w v l)(hn:w.heap.size≤n)(hb:Below n w w'):StpAt w' v l:=by
 have h2:=SRow.Lies.below h (hb.mono hn)
 obtain⟨h0,a,cap,hv,h1⟩:=h2
 exact⟨h0,a,cap,hv,h1.imp id fun⟨b,off,ha,hlt,hc⟩=>⟨b,off,ha,Nat.lt_of_lt_of_le hlt hb.size,hc⟩⟩
theorem StpAt.grows{w w':World}{v:Value}{l:List (ByteArray × Val)}(h:StpAt w v l)(hg:w.Grows w'):StpAt w' v l:=h.below (Nat.le_refl _) hg.below
def evC(v:Vw)(y se:Value):Array Value:=#[.int .i64 v.age,.int .i64 v.year,.int .i64 v.children,.int .i64 v.insured,.int .i64 v.worked,.int .i64 v.voluntary,.int .i64 v.service,.int .i64 v.equated,.int .i64 v.raising,.int .i64 v.resident,.int .i64 v.bn,.int .i64 v.bd,y,se]
structure EvAt(w:World)(E:Nat)(v:Vw)(y:Value)(env:List (ByteArray × Val))(se:Value):Prop where
 blk:w.heap[E]? =some (.cells (evC v y se) 99999 (0,0))
 yr:YrAt w y v.years
 st:StpAt w se env
theorem EvAt.lt{w:World}{E:Nat}{v:Vw}{y:Value}{env:List (ByteArray × Val)}{se:Value}(h:EvAt w E v y env se):E<w.heap.size:=(Array.getElem?_eq_some_iff.1 h.blk).1
theorem EvAt.grows{w w':World}{E:Nat}{v:Vw}{y:Value}{env:List (ByteArray × Val)}{se:Value}(h:EvAt w E v y env se)(hg:w.Grows w'):EvAt w' E v y env se:=
 ⟨(hg.below.block E h.lt).trans h.blk,h.yr.grows hg,h.st.grows hg⟩
theorem RepE.arg_cells{S:Nat→Prop}{w:World}{e:Ex}{a:Option Addr}{cap:Nat}(h:RepE S w e (.slice a e.args.length cap))(hn:0<e.args.length):∃b off,a=some ⟨b,off,none⟩∧b<w.heap.size∧
 ∀k,k<e.args.length→∃ak ck,ExAt w b (off+k*6) (e.arg k) (.slice ak (e.arg k).args.length ck)∧RepE S w (e.arg k) (.slice ak (e.arg k).args.length ck):=by
 generalize hv:Value.slice a e.args.length cap=v at h
 cases h with
 |mk _ a' cap' vs hr hc hs=>
  cases hv
  rcases hc with h0|⟨b,off,rfl,-,hb,hx⟩
  ·omega
  ·refine⟨b,off,rfl,hb,fun k hk=>?_⟩
   obtain⟨ak,ck,hvk⟩:=(hs k hk).form0
   exact⟨ak,ck,hvk ▸ hx k hk,hvk ▸ hs k hk⟩
theorem name_typed{v:Vw}(hv:v.ok=true){env:List (ByteArray × Val)}(hE:∀p∈env,p.2.ok=true){s:ByteArray}(h:(inferN (dimsOf env) s).2=0):(nameF v env s).2=0:=by
 rcases name_ok hv hE h with h1|⟨-,h2⟩
 ·exact h1.1
 ·unfold nameF at h2 ⊢
  split<;>rename_i hx
  ·rfl
  ·rw [hx]at h2
   dsimp only at h2
   split<;>rename_i hy
   ·rfl
   ·rw [hy]at h2;dsimp only at h2;omega
end Go.Proofs.YthionhbjmheimaaDoor
