import Derived.Test.YtcfpoofhokbhlaaGreatDoorVDc3
import Derived.Test.YtcfpoofhokbhlaaGreatDoorVEvX
set_option linter.all false
set_option maxHeartbeats 16000000
set_option maxRecDepth 1000000
namespace Go.Proofs.YtcfpoofhokbhlaaGreatDoor
open Go.Proofs.Tryz Tryz List
open Go.RowKit
def pJ(l:List (ByteArray × Int)):List Value:=l.flatMap fun p=>[.string p.1,.int .i64 p.2]
theorem Jv(l:List (ByteArray × Int)):∀i,i<l.length->(pJ l)[i*2]? =some (.string (bdN l i))/\(pJ l)[i*2+1]? =some (.int .i64 (bdD l i)):=by
 induction l with
 |nil=>intro i hi;simp at hi
 |cons p r ih=>
  intro i hi
  cases i with
  |zero=>exact⟨rfl,rfl⟩
  |succ i=>
   obtain⟨h1,h2⟩:=ih i yo;have e1:(i+1)*2=i*2+1+1:=by omega
   have e2:(i+1)*2+1=i*2+1+1+1:=by omega
   rw [e1,show i*2+1+1+1=(i*2+1)+1+1 by omega];exact⟨h1,h2⟩
theorem ow(l:List (ByteArray × Int))(p:ByteArray × Int):pJ (l++[p])=pJ l++[.string p.1,.int .i64 p.2]:=by
 unfold pJ;simp
theorem aT.of_own{w:World}{base:Nat}{v:Value}{l:List (ByteArray × Int)}(h:w.ownsRow base 74 2 v l.length (pJ l))(hl:l.length<=1000):aT w v l:=by
 obtain⟨-,⟨rfl,h0⟩|⟨g,cap,cur,rfl,hb,hg,h2,h3,h4,h5⟩⟩:=id h
 ·exact⟨by omega,none,0,by rw [h0],.inl h0⟩
 ·refine⟨by omega,_,cap,rfl,.inr ⟨g,0,rfl,(Array.getElem?_eq_some_iff.1 hg).1,fun i hi=>?_⟩⟩;obtain⟨g1,g2⟩:=Jv l i hi;rw [Nat.zero_add,h.cellAt (i*2) ze,h.cellAt (i*2+1) ze];exact⟨g1,g2⟩
theorem Jk(env:List (ByteArray × Val))(k:Nat)(hk:k<env.length):aS (env.take (k+1))=aS (env.take k)++[(stN env k,(stV env k).dim)]:=by
 unfold aS stN stV;rw [take_succ_eq_append_getElem hk,map_append,getD_eq_getElem?_getD,getElem?_eq_getElem hk];rfl
theorem Ps{env:List (ByteArray × Val)}{k:Nat}(hk:k<env.length)(hb:(stV env k).ok=false):(env.any fun p=>!p.2.ok)=true:=by
 rw [any_eq_true];refine⟨env[k],getElem_mem hk, ?_⟩;have:stV env k=env[k].2:=by unfold stV;rw [getD_eq_getElem?_getD,getElem?_eq_getElem hk];rfl
 rw [<-this,hb];rfl
theorem L6{env:List (ByteArray × Val)}(hg:∀k,k<env.length->(stV env k).ok=true):∀p∈env,p.2.ok=true:=by
 intro p hp;obtain⟨k,hk,rfl⟩:=mem_iff_getElem.1 hp;have:=hg k hk;unfold stV at this
 rwa [getD_eq_getElem?_getD,getElem?_eq_getElem hk]at this
theorem Pt{env:List (ByteArray × Val)}(h:∀p∈env,p.2.ok=true):(env.any fun p=>!p.2.ok)=false:=by
 rw [any_eq_false];intro p hp;rw [h p hp];simp
theorem Gp{env:List (ByteArray × Val)}(h:∀p∈env,p.2.ok=true):gm (aS env)=true:=by
 unfold gm aS;rw [all_eq_true];intro q hq;obtain⟨p,hp,rfl⟩:=mem_map.1 hq;have:=Val.ok_dim (h p hp);exact decide_eq_true this
theorem NE{env:List (ByteArray × Val)}{k:Nat}(hk:k<env.length):∃p∈env,stV env k=p.2:=⟨env[k],getElem_mem hk,by unfold stV;rw [getD_eq_getElem?_getD,getElem?_eq_getElem hk];rfl⟩
theorem I9{v:Vw}{env:List (ByteArray × Val)}{e:Ex}(hv:v.ok=true)(hE:∀p∈env,p.2.ok=true) :
 gG v env e=if(aR (aS env) e).2≠0 then(.zero,(aR (aS env) e).2)else if(aj v env e).2≠0 then(.zero,(aj v env e).2)else aj v env e:=by
 unfold gG aR;rw [Pt hE,hv,Gp hE]
 cases hb:cB e with
 |false=>simp
 |true=>simp
theorem Lt:(prog.info? 74).map (fun i=>(i.zero,i.size,i.bytes))=some (some (.agg #[.string ⟨#[]⟩,.int .i64 0]),2,24):=by kernel_rfl
def J4(r:Val × Int)(w:World)(e:Ending)(w':World):Prop:=e= .returned (.tuple #[dY r.1,.int .i64 r.2])/\w.Grows w'
theorem Pq{r:Val × Int}{m n d c:Int}{b:Bool}{w w':World}(h:r=(⟨m,b,n,d⟩,c))(hg:w.Grows w'):J4 r w (.returned (.tuple #[.agg #[.int .i64 m,.bool b,.int .i64 n,.int .i64 d],.int .i64 c])) w':=by
 subst h;exact⟨rfl,hg⟩
end Go.Proofs.YtcfpoofhokbhlaaGreatDoor
