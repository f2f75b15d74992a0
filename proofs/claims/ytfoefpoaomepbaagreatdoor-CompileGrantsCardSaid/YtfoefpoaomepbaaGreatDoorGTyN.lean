import Derived.Test.YtfoefpoaomepbaaGreatDoorGTyL
import Derived.Test.YtfoefpoaomepbaaGreatDoorGVv8
set_option linter.all false
set_option maxHeartbeats 16000000
set_option maxRecDepth 1000000
namespace Go.Proofs.YtfoefpoaomepbaaGreatDoor
open Go.Proofs.Tryz Tryz List
open Go.RowKit
theorem dH(S:Nat->Prop)(env:List (ByteArray × Int))(e:Ex)(v ve:Value)(w:World)(h:ax S w e v)(hbig:e.size<=2305843009213693952)(ht:Tab w)(hv:aR w ve env) :
 Calls prog 46 #[exV e v,ve] w (gq (aQ env e) w):=NC S env e v ve w h hbig ht hv (yq (.inl Gh))
theorem GR{a b c d:Int}(ha:aL a b=true)(hb:aL c d=true):Fu a b c d=(kT a b c d,0):=by
 unfold Fu;rw [ha,hb];rfl
def lG(w:World)(v:Value)(l:List (ByteArray × Val)):Prop:=wm.Lies l w.heap.size w v l.length
theorem lG.below{w w':World}{v:Value}{l:List (ByteArray × Val)}{n:Nat}(h:lG w v l)(hn:w.heap.size<=n)(hb:Below n w w'):lG w' v l:=by
 have h2:=wm.Lies.below h (hb.mono hn);obtain⟨h0,a,cap,hv,h1⟩:=h2;exact⟨h0,a,cap,hv,h1.imp id fun⟨b,off,ha,hlt,hc⟩=>⟨b,off,ha,Nat.lt_of_lt_of_le hlt hb.size,hc⟩⟩
theorem lG.grows{w w':World}{v:Value}{l:List (ByteArray × Val)}(h:lG w v l)(hg:w.Grows w'):lG w' v l:=h.below (Nat.le_refl _) hg.below
theorem ax.arg_cells{S:Nat->Prop}{w:World}{e:Ex}{a:Option Addr}{cap:Nat}(h:ax S w e (.slice a e.args.length cap))(hn:0<e.args.length):∃b off,a=some ⟨b,off,none⟩/\b<w.heap.size/\
 ∀k,k<e.args.length->∃ak ck,FI w b (off+k*6) (e.arg k) (.slice ak (e.arg k).args.length ck)/\ax S w (e.arg k) (.slice ak (e.arg k).args.length ck):=by
 generalize hv:Value.slice a e.args.length cap=v at h
 cases h with
 |mk _ a' cap' vs hr hc hs=>
  cases hv;rcases hc with h0|⟨b,off,rfl,-,hb,hx⟩
  ·omega
  ·refine⟨b,off,rfl,hb,fun k hk=>?_⟩;obtain⟨ak,ck,hvk⟩:=(hs k hk).form0;exact⟨ak,ck,hvk ▸ hx k hk,hvk ▸ hs k hk⟩
def vD(sl:List ByteArray)(k:Nat):Prop:=(∀s∈sl.take k,isWord s=true)/\(sl.take k).Nodup
theorem vD.zero(sl:List ByteArray):vD sl 0:=⟨by simp,by simp⟩
theorem vD.next{sl:List ByteArray}{k:Nat}(h:vD sl k)(hk:k<sl.length)(h1:isWord (sl.getD k ByteArray.empty)=true)(h2:sl.getD k ByteArray.empty∉sl.take k):vD sl (k+1):=by
 have e:sl.take (k+1)=sl.take k++[sl.getD k ByteArray.empty]:=by
  exact Po
 unfold vD;rw [e];refine⟨fun s hs=>?_, ?_⟩
 ·rcases mem_append.1 hs with hs|hs
  ·exact h.1 s hs
  ·obtain rfl:=mem_singleton.1 hs;exact h1
 ·rw [nodup_append];refine⟨h.2,by simp,fun a ha b hb=>?_⟩;obtain rfl:=mem_singleton.1 hb;intro e;subst e;exact h2 ha
theorem DW{sl:List ByteArray}{k:Nat}(hk:k<sl.length)(h:isWord (sl.getD k ByteArray.empty)=false):eO sl=false:=by
 unfold eO
 have:sl.all isWord=false:=by
  rw [Bool.eq_false_iff];intro hc;rw [all_eq_true]at hc;have:=hc (sl.getD k ByteArray.empty) (by rw [getD_eq_getElem?_getD,getElem?_eq_getElem hk];exact getElem_mem _);rw [h]at this;cases this
 rw [this];simp
theorem DV{sl:List ByteArray}{k:Nat}(hk:k<sl.length)(h:sl.getD k ByteArray.empty∈sl.take k):eO sl=false:=by
 unfold eO
 have:decide sl.Nodup=false:=by
  rw [decide_eq_false_iff_not];intro hc
  have e:sl.take (k+1)=sl.take k++[sl.getD k ByteArray.empty]:=by
   exact Po
  have hn:(sl.take (k+1)).Nodup:=(take_sublist _ _).nodup hc;rw [e,nodup_append]at hn;exact hn.2.2 _ h _ (mem_singleton.2 rfl) rfl
 rw [this];simp
theorem DU{sl:List ByteArray}(h:vD sl sl.length)(h12:(sl.length:Int)<=12):eO sl=true:=by
 unfold vD at h;rw [take_length]at h;unfold eO;rw [decide_eq_true (by omega:sl.length<=12),decide_eq_true h.2,all_eq_true.2 h.1];rfl
theorem MZ{l:List Ins}(hW:∀i,i<l.length->(l.getD i default).op=4->0<=(l.getD i default).a/\(l.getD i default).a<12){a:Nat}(ha:12<=a):lK l l.length a=0:=by
 unfold lK;rw [take_length,count_eq_zero];intro hm;unfold bN at hm;obtain⟨x,hx,rfl⟩:=mem_map.1 hm;obtain⟨hx1,hx2⟩:=mem_filter.1 hx;obtain⟨i,hi,rfl⟩:=mem_iff_getElem.1 hx1;have:=hW i hi (by rw [getD_eq_getElem?_getD,getElem?_eq_getElem hi];simpa using hx2);rw [getD_eq_getElem?_getD,getElem?_eq_getElem hi]at this;simp at this;omega
end Go.Proofs.YtfoefpoaomepbaaGreatDoor
