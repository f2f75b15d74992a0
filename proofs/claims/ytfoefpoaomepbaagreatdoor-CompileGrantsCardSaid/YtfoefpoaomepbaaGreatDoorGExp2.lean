import Derived.Test.YtfoefpoaomepbaaGreatDoorGCodR
set_option linter.all false
set_option maxHeartbeats 16000000
set_option maxRecDepth 1000000
namespace Go.Proofs.YtfoefpoaomepbaaGreatDoor
open Go.Proofs.Tryz Tryz List
open Go.RowKit
def rO(l:List (ByteArray × Int)):List Value:=l.flatMap fun p=>[.string p.1,.int .i64 p.2]
theorem JY(l:List (ByteArray × Int)):∀i,i<l.length->(rO l)[i*2]? =some (.string (bdN l i))/\(rO l)[i*2+1]? =some (.int .i64 (bdD l i)):=by
 induction l with
 |nil=>intro i hi;simp at hi
 |cons p r ih=>
  intro i hi
  cases i with
  |zero=>exact⟨rfl,rfl⟩
  |succ i=>
   obtain⟨h1,h2⟩:=ih i yc;have e1:(i+1)*2=i*2+1+1:=by omega
   have e2:(i+1)*2+1=i*2+1+1+1:=by omega
   rw [e1,show i*2+1+1+1=(i*2+1)+1+1 by omega];exact⟨h1,h2⟩
theorem vo(l:List (ByteArray × Int))(p:ByteArray × Int):rO (l++[p])=rO l++[.string p.1,.int .i64 p.2]:=by
 unfold rO;simp
theorem aR.of_own{w:World}{base:Nat}{v:Value}{l:List (ByteArray × Int)}(h:w.ownsRow base 106 2 v l.length (rO l))(hl:l.length<=1000):aR w v l:=by
 obtain⟨-,⟨rfl,h0⟩|⟨g,cap,cur,rfl,hb,hg,h2,h3,h4,h5⟩⟩:=id h
 ·exact⟨by omega,none,0,by rw [h0],.inl h0⟩
 ·refine⟨by omega,_,cap,rfl,.inr ⟨g,0,rfl,(Array.getElem?_eq_some_iff.1 hg).1,fun i hi=>?_⟩⟩;obtain⟨g1,g2⟩:=JY l i hi;rw [Nat.zero_add,h.cellAt (i*2) zb,h.cellAt (i*2+1) zb];exact⟨g1,g2⟩
theorem QL:(prog.info? 106).map (fun i=>(i.zero,i.size,i.bytes))=some (some (.agg #[.string ⟨#[]⟩,.int .i64 0]),2,24):=by kernel_rfl
end Go.Proofs.YtfoefpoaomepbaaGreatDoor
