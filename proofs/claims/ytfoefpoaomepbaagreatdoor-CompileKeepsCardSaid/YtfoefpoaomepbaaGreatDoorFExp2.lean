import Derived.Test.YtfoefpoaomepbaaGreatDoorFEvY
set_option linter.all false
set_option maxHeartbeats 16000000
set_option maxRecDepth 1000000
namespace Go.Proofs.YtfoefpoaomepbaaGreatDoor
open Go.RowKit
def bindL(l:List (ByteArray × Int)):List Value:=l.flatMap fun p=>[.string p.1,.int .i64 p.2]
theorem bindL_get(l:List (ByteArray × Int)):∀i,i<l.length→(bindL l)[i*2]? =some (.string (bdN l i))∧(bindL l)[i*2+1]? =some (.int .i64 (bdD l i)):=by
 induction l with
 |nil=>intro i hi;simp at hi
 |cons p r ih=>
  intro i hi
  cases i with
  |zero=>exact⟨rfl,rfl⟩
  |succ i=>
   obtain⟨h1,h2⟩:=ih i (by simpa using hi)
   have e1:(i+1)*2=i*2+1+1:=by omega
   have e2:(i+1)*2+1=i*2+1+1+1:=by omega
   rw [e1,show i*2+1+1+1=(i*2+1)+1+1 by omega]
   exact⟨h1,h2⟩
theorem bindL_snoc(l:List (ByteArray × Int))(p:ByteArray × Int):bindL (l++[p])=bindL l++[.string p.1,.int .i64 p.2]:=by
 unfold bindL;simp
theorem BindAt.of_own{w:World}{base:Nat}{v:Value}{l:List (ByteArray × Int)}(h:w.ownsRow base 106 2 v l.length (bindL l))(hl:l.length≤1000):BindAt w v l:=by
 obtain⟨-,⟨rfl,h0⟩|⟨g,cap,cur,rfl,hb,hg,h2,h3,h4,h5⟩⟩:=id h
 ·exact⟨by omega,none,0,by rw [h0],.inl h0⟩
 ·refine⟨by omega,_,cap,rfl,.inr ⟨g,0,rfl,(Array.getElem?_eq_some_iff.1 hg).1,fun i hi=>?_⟩⟩
  obtain⟨g1,g2⟩:=bindL_get l i hi
  rw [Nat.zero_add,h.cellAt (i*2) (by omega),h.cellAt (i*2+1) (by omega)]
  exact⟨g1,g2⟩
theorem dims_take(env:List (ByteArray × Val))(k:Nat)(hk:k<env.length):dimsOf (env.take (k+1))=dimsOf (env.take k)++[(stN env k,(stV env k).dim)]:=by
 unfold dimsOf stN stV
 rw [List.take_succ_eq_append_getElem hk,List.map_append,List.getD_eq_getElem?_getD,List.getElem?_eq_getElem hk]
 rfl
theorem env_bad{env:List (ByteArray × Val)}{k:Nat}(hk:k<env.length)(hb:(stV env k).ok=false):(env.any fun p=>!p.2.ok)=true:=by
 rw [List.any_eq_true]
 refine⟨env[k],List.getElem_mem hk, ?_⟩
 have:stV env k=env[k].2:=by unfold stV;rw [List.getD_eq_getElem?_getD,List.getElem?_eq_getElem hk];rfl
 rw [←this,hb];rfl
theorem env_good{env:List (ByteArray × Val)}(hg:∀k,k<env.length→(stV env k).ok=true):∀p∈env,p.2.ok=true:=by
 intro p hp
 obtain⟨k,hk,rfl⟩:=List.mem_iff_getElem.1 hp
 have:=hg k hk
 unfold stV at this
 rwa [List.getD_eq_getElem?_getD,List.getElem?_eq_getElem hk]at this
theorem env_any{env:List (ByteArray × Val)}(h:∀p∈env,p.2.ok=true):(env.any fun p=>!p.2.ok)=false:=by
 rw [List.any_eq_false];intro p hp;rw [h p hp];simp
theorem dims_ok{env:List (ByteArray × Val)}(h:∀p∈env,p.2.ok=true):dimsOk (dimsOf env)=true:=by
 unfold dimsOk dimsOf
 rw [List.all_eq_true]
 intro q hq
 obtain⟨p,hp,rfl⟩:=List.mem_map.1 hq
 have:=Val.ok_dim (h p hp)
 exact decide_eq_true this
theorem stV_mem{env:List (ByteArray × Val)}{k:Nat}(hk:k<env.length):∃p∈env,stV env k=p.2:=⟨env[k],List.getElem_mem hk,by unfold stV;rw [List.getD_eq_getElem?_getD,List.getElem?_eq_getElem hk];rfl⟩
theorem expr_good{v:Vw}{env:List (ByteArray × Val)}{e:Ex}(hv:v.ok=true)(hE:∀p∈env,p.2.ok=true) :
 exprF' v env e=if(inferE (dimsOf env) e).2≠0 then(.zero,(inferE (dimsOf env) e).2)else if(valueF v env e).2≠0 then(.zero,(valueF v env e).2)else valueF v env e:=by
 unfold exprF' inferE
 rw [env_any hE,hv,dims_ok hE]
 cases hb:validB e with
 |false=>simp
 |true=>simp
theorem infoB:(Tryz.prog.info? 106).map (fun i=>(i.zero,i.size,i.bytes))=some (some (.agg #[.string ⟨#[]⟩,.int .i64 0]),2,24):=by kernel_rfl
def ExpP(r:Val × Int)(w:World)(e:Ending)(w':World):Prop:=e= .returned (.tuple #[valV r.1,.int .i64 r.2])∧w.Grows w'
theorem expP{r:Val × Int}{m n d c:Int}{b:Bool}{w w':World}(h:r=(⟨m,b,n,d⟩,c))(hg:w.Grows w'):ExpP r w (.returned (.tuple #[.agg #[.int .i64 m,.bool b,.int .i64 n,.int .i64 d],.int .i64 c])) w':=by
 subst h;exact⟨rfl,hg⟩
end Go.Proofs.YtfoefpoaomepbaaGreatDoor
