import Derived.Test.YtfoefpoaomepbaaGreatDoorTVv8
import Derived.Laws.Strings
set_option linter.all false
set_option maxHeartbeats 16000000
set_option maxRecDepth 1000000
namespace Go.Proofs.YtfoefpoaomepbaaGreatDoor
open Go.RowKit
def StpAt(w:World)(v:Value)(l:List (ByteArray × Val)):Prop:=SRow.Lies l w.heap.size w v l.length
theorem StpAt.below{w w':World}{v:Value}{l:List (ByteArray × Val)}{n:Nat}(h:StpAt w v l)(hn:w.heap.size≤n)(hb:Below n w w'):StpAt w' v l:=by
 have h2:=SRow.Lies.below h (hb.mono hn)
 obtain⟨h0,a,cap,hv,h1⟩:=h2
 exact⟨h0,a,cap,hv,h1.imp id fun⟨b,off,ha,hlt,hc⟩=>⟨b,off,ha,Nat.lt_of_lt_of_le hlt hb.size,hc⟩⟩
theorem StpAt.grows{w w':World}{v:Value}{l:List (ByteArray × Val)}(h:StpAt w v l)(hg:w.Grows w'):StpAt w' v l:=h.below (Nat.le_refl _) hg.below
def evC(v:Vw)(y se:Value):Array Value:=#[.int .i64 v.age,.int .i64 v.year,.int .i64 v.children,.int .i64 v.insured,.int .i64 v.worked,.int .i64 v.voluntary,.int .i64 v.service,.int .i64 v.equated,.int .i64 v.raising,.int .i64 v.resident,.int .i64 v.bn,.int .i64 v.bd,y,se]
structure EvAt(w:World)(E:Nat)(v:Vw)(y:Value)(env:List (ByteArray × Val))(se:Value):Prop where
 blk:w.heap[E]? =some (.cells (evC v y se) 99999 (0,0))
 yr:YrAt w y v.years
 st:StpAt w se env
theorem EvAt.lt{w:World}{E:Nat}{v:Vw}{y:Value}{env:List (ByteArray × Val)}{se:Value}(h:EvAt w E v y env se):E<w.heap.size:=(Array.getElem?_eq_some_iff.1 h.blk).1
theorem EvAt.grows{w w':World}{E:Nat}{v:Vw}{y:Value}{env:List (ByteArray × Val)}{se:Value}(h:EvAt w E v y env se)(hg:w.Grows w'):EvAt w' E v y env se:=
 ⟨(hg.below.block E h.lt).trans h.blk,h.yr.grows hg,h.st.grows hg⟩
theorem RepE.arg_cells{S:Nat→Prop}{w:World}{e:Ex}{a:Option Addr}{cap:Nat}(h:RepE S w e (.slice a e.args.length cap))(hn:0<e.args.length):∃b off,a=some ⟨b,off,none⟩∧b<w.heap.size∧
 ∀k,k<e.args.length→∃ak ck,ExAt w b (off+k*6) (e.arg k) (.slice ak (e.arg k).args.length ck)∧RepE S w (e.arg k) (.slice ak (e.arg k).args.length ck):=by
 generalize hv:Value.slice a e.args.length cap=v at h
 cases h with
 |mk _ a' cap' vs hr hc hs=>
  cases hv
  rcases hc with h0|⟨b,off,rfl,-,hb,hx⟩
  ·omega
  ·refine⟨b,off,rfl,hb,fun k hk=>?_⟩
   obtain⟨ak,ck,hvk⟩:=(hs k hk).form0
   exact⟨ak,ck,hvk ▸ hx k hk,hvk ▸ hs k hk⟩
end Go.Proofs.YtfoefpoaomepbaaGreatDoor
namespace Go.Proofs.YtfoefpoaomepbaaGreatDoor
open Go.RowKit Go.Shelf
attribute [local go_sem] Oper.semAt_some
structure NmMem(B:Nat)(s:ByteArray)(N:Nat)(x:Val)(W:World):Prop where
 nm:W.heap[B]? =some (.cells #[.string s] 9 (0,0))
 res:W.heap[B+1]? =some (.cells #[.int .i64 x.dim,.bool x.yes,.int .i64 x.n,.int .i64 x.d] 41 (0,0))
 size:N≤W.heap.size
theorem NmMem.own{B N:Nat}{s:ByteArray}{x:Val}{X Y:World}{row:Option Nat}(h:NmMem B s N x X)(hg:X.grownBy Y row)(hr:∀r,row=some r→∃o:Obj,X.heap[r]? =some o∧o.isCells=false):NmMem B s N x Y:=
 ⟨(grownBy_keeps_cells hg hr h.nm rfl).trans h.nm,(grownBy_keeps_cells hg hr h.res rfl).trans h.res,Nat.le_trans h.size hg.size⟩
theorem NmMem.alloc{B N:Nat}{s:ByteArray}{x:Val}{X:World}(h:NmMem B s N x X)(o:Obj):NmMem B s N x (X.alloc o):=h.own (World.grownBy_alloc X o none) (fun r e=>by cases e)
theorem NmMem.below{B N:Nat}{s:ByteArray}{x:Val}{X Y:World}(h:NmMem B s N x X)(hN:B+2≤X.heap.size)(hb:Below X.heap.size X Y):NmMem B s Y.heap.size x Y:=
 ⟨(hb.block _ (by omega)).trans h.nm,(hb.block _ (by omega)).trans h.res,Nat.le_refl _⟩
end Go.Proofs.YtfoefpoaomepbaaGreatDoor
