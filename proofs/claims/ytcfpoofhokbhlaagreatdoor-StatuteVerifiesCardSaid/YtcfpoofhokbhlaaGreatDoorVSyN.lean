import Derived.Test.YtcfpoofhokbhlaaGreatDoorVSyF
import Derived.Test.YtcfpoofhokbhlaaGreatDoorVFrMk
set_option linter.all false
set_option maxHeartbeats 16000000
set_option maxRecDepth 1000000
namespace Go.Proofs.YtcfpoofhokbhlaaGreatDoor
open Tryz List
open Go.RowKit
def lH(s:ByteArray)(k:Nat):List UInt8:=s.data.toList.drop k
theorem Fg{s:ByteArray}{k:Nat}(h:k<s.size):lH s k=s[k]::lH s (k+1):=by
 unfold lH;have h2:k<s.data.toList.length:=by simpa using h
 rw [drop_eq_getElem_cons h2]
 congr 1
theorem Jw{s:ByteArray}{k:Nat}(h:s.size<=k):lH s k= []:=by
 unfold lH;exact drop_eq_nil_of_le zF
def El(r:Option Int):Value:=match r with|some x=>.tuple #[.int .i64 x,.bool true]|none=>.tuple #[.int .i64 0,.bool false]
theorem Ah:∀(l:List UInt8) (x y:Int),0<=x->gV x l=some y->x<=y/\y<=(x+1)*10 ^ l.length-1
 | [],x,y,h0,h=>by simp [gV]at h;subst h;simp
 |c::r,x,y,h0,h=>by
  simp only [gV]at h
  split at h
  ·rename_i hd
   simp only [om,Bool.and_eq_true,decide_eq_true_eq]at hd;have ih:=Ah r _ y ze h;refine⟨by omega,Int.le_trans ih.2 ?_⟩;have hp:(0:Int)<10 ^ r.length:=Int.pow_pos ze;have e:(x+1)*10 ^ (c::r).length=((x+1)*10)*10 ^ r.length:=by rw [length_cons,Int.pow_succ,Int.mul_comm (10 ^ r.length) 10,Int.mul_assoc]
   rw [e];have:=Int.mul_le_mul_of_nonneg_right (show 10*x+((c.toNat:Int)-48)+1<=(x+1)*10 by omega) (Int.le_of_lt hp);omega
  ·cases h
theorem oV(s:ByteArray)(w:World)(hs:s.size<=9):Calls prog 197 #[.string s] w fun e w'=>e= .returned (El (gV 0 s.data.toList))/\w=w':=by
 have h00:s.data.toList=lH s 0:=rfl;rw [h00];clear h00
 go_enter func197,ntmps197
 go_wp2
 go_loop [2,4] (fun v2 v4=>∃k:Nat,∃x:Int,k<=s.size/\v4= .int .i64 k/\v2= .int .i64 x/\0<=x/\x<10 ^ k/\Hid (gV x (lH s k)=gV 0 (lH s 0))) (fun _ v4=>s.size-(intOf v4).toNat)
 case atStart=>exact⟨0,0,Nat.zero_le _,rfl,rfl,by omega,by simp,yq rfl⟩
 case round=>
  obtain⟨k,x,hk,rfl,rfl,hx0,hx1,hg⟩:=hrel
  have hb:(10:Int) ^ k<=1000000000:=by
   have:=Nat.pow_le_pow_right (show 1<=10 by omega) (show k<=9 by omega);have h2:((10 ^ k:Nat):Int)<=((10 ^ 9:Nat):Int):=by exact_mod_cast this
   simpa using h2
  have hx2:x<=1000000000:=by omega
  have HX:=yq hx1;clear hx1 hb;by_cases hk2:k<s.size
  ·have hst:=Fg hk2;cases hD:om (s[k].toNat:Int)
   ·have HG:Hid (gV 0 (lH s 0)=none):=yq xC;clear hst hg
    go_wp2_with (go_at_call 202;(with_reducible refine gw (iL _ _) ?_);simp only [hD])
    go_returns
    exact⟨by rw [HG.out];rfl,rfl⟩
   ·have hd:48<=(s[k].toNat:Int)/\(s[k].toNat:Int)<=57:=by simpa [om]using hD
    have HG:Hid (gV (10*x+((s[k].toNat:Int)-48)) (lH s (k+1))=gV 0 (lH s 0)):=yq xC;clear hst hg;obtain⟨d,hdd⟩:∃d:Int,(s[k].toNat:Int)=d:=⟨_,rfl⟩;rw [hdd]at hd hD HG;obtain⟨hd1,hd2⟩:=hd;have hw:IntKind.u8.wrap (d-48)=d-48:=by simp only [IntKind.wrap_u8];omega
    go_wp2_with (go_at_call 202;(with_reducible refine gw (iL _ _) ?_);simp only [hD,hdd])
    go_round
    case rel=>exact⟨k+1,_,by omega,by go_num,rfl,by omega,by rw [Int.pow_succ];have:=HX.out;omega,HG⟩
    case measure=>simp [intOf];omega
  ·have HG:Hid (gV 0 (lH s 0)=some x):=yq (by rw [<-hg.out,Jw ze];rfl);clear hg;obtain rfl:k=s.size:=by omega
   go_wp2_with fail
   go_returns
   exact⟨by rw [HG.out];rfl,rfl⟩
theorem bW(v:Vw)(env:List (ByteArray × Val))(l:List Ex)(k:Nat)(hk:k<l.length):(gB v env l).getD k (.zero,0)=aj v env (l.getD k default):=by
 induction l generalizing k with
 |nil=>simp at hk
 |cons e r ih=>
  rw [gB]
  cases k with
  |zero=>rfl
  |succ k=>simpa using ih k yp
theorem GU{env:List (ByteArray × Int)}{e:Ex}(hi:(aD env e).2=0)(h1:¬e.op=1)(h2:¬e.op=2)(h3:¬e.op=3):∀k,k<e.args.length->pq env (e.arg k)=0:=by
 intro k
 induction k using Nat.strongRecOn with
 |ind k ih=>
  intro hk;by_cases hb:pq env (e.arg k)=0
  ·exact hb
  ·have:=Ap env e h1 h2 h3 k hk (fun j hj=>ih j hj ze) hb;rw [this]at hi;exact absurd hi hb
theorem Bh{v:Vw}(hv:v.ok=true){env:List (ByteArray × Val)}(hE:∀p∈env,p.2.ok=true){e:Ex}(hf:aN e=true)(hi:(aD (aS env) e).2=0)(h1:¬e.op=1)(h2:¬e.op=2)(h3:¬e.op=3) :
 ∃ds:List Int,e.args.length=ds.length/\(ds.length:Int)=aU e.op/\4<=e.op/\e.op<=21/\av e.op ds≠0/\
  ∀k,k<e.args.length->aN (e.arg k)=true/\(aD (aS env) (e.arg k)).2=0/\okR (ds.getD k 0) (aj v env (e.arg k)):=by
 obtain⟨hal,ho4,ho21,hfs⟩:=qG hf h1 h2 h3;have hall:=GU hi h1 h2 h3;have hop:=EJ (aS env) e h1 h2 h3 hall;refine⟨fJ (aS env) e e.args.length,by simp [fJ],by simpa [fJ]using hal,ho4,ho21, ?_,fun k hk=>⟨gN hfs k hk,hall k hk, ?_⟩⟩
 ·intro h0;rw [hop,if_pos h0]at hi;simp at hi
 ·have:=lW hv hE (e.arg k) (gN hfs k hk) (hall k hk)
  have hd:(fJ (aS env) e e.args.length).getD k 0=(aD (aS env) (e.arg k)).1:=by
   unfold fJ Ex.arg;rw [take_length,getD_eq_getElem?_getD,getElem?_map,getElem?_eq_getElem hk,getD_eq_getElem?_getD,getElem?_eq_getElem hk];rfl
  rw [hd];exact this
theorem cmp_eq{a b c d:Int}(ha:ay a b=true)(hb:ay c d=true)(h:iy a b c d=0):a=c/\b=d:=by
 refine Gj ha hb ?_;unfold iy at h
 (repeat' split at h)<;>omega
theorem sN{a b c d:Int}(ha:ay a b=true)(hb:ay c d=true):gu a b c d=(iy a b c d,0):=by
 unfold gu;rw [ha,hb];rfl
theorem Az{op:Int}{x y:Val}(ho:op=7\/op=8\/op=9\/op=10\/op=19\/op=20\/(11<=op/\op<=16))(hr:av op [x.dim,y.dim]≠0):x.dim≠1/\y.dim≠1:=by
 have h9:op=9\/op=10\/((op=7\/op=8\/op=19\/op=20)\/(11<=op/\op<=16)):=by omega
 rcases h9 with rfl|rfl|h|h
 ·rw [Ad]at hr
  (repeat' split at hr)<;>omega
 ·rw [Ae]at hr
  (repeat' split at hr)<;>omega
 ·rw [sI _ _ h]at hr
  (repeat' split at hr)<;>omega
 ·rw [sH _ _ h]at hr
  (repeat' split at hr)<;>omega
theorem Ov{op:Int}{x y:Val}(ho:11<=op/\op<=16)(hx:x.ok=true)(hy:y.ok=true)(hr:av op [x.dim,y.dim]≠0) :
 op2 op x y=(.truth (rZ op (gu x.n x.d y.n y.d).1),0)/\(gu x.n x.d y.n y.d).2=0:=by
 have hd:=Az (.inr (.inr (.inr (.inr (.inr (.inr ho)))))) hr;rw [sN (Val.ok_num hx hd.1).2.2.2 (Val.ok_num hy hd.2).2.2.2];refine⟨?_,rfl⟩;unfold op2;rw [if_neg ze,if_neg ze,if_neg ze,if_neg ze,if_neg ze,if_neg ze]
theorem QV{op:Int}{x y:Val}(ho:op=7\/op=8\/op=9\/op=10\/op=19\/op=20)(hx:x.ok=true)(hy:y.ok=true)(hr:av op [x.dim,y.dim]≠0) :
 op2 op x y=eT (CV op x.dim y.dim) (arF op x.n x.d y.n y.d):=by
 have hd:=Az ze hr;have hx:=(Val.ok_num hx hd.1).2.2.2;have hy:=(Val.ok_num hy hd.2).2.2.2;rcases ho with rfl|rfl|rfl|rfl|rfl|rfl
 ·rfl
 ·rfl
 ·have:av 9 [x.dim,y.dim]=CV 9 x.dim y.dim:=by
   rw [Ad]at hr ⊢;unfold CV
   (repeat' split at hr)<;>simp_all
  show eT (av 9 [x.dim,y.dim]) _=_;rw [this];rfl
 ·have:av 10 [x.dim,y.dim]=CV 10 x.dim y.dim:=by
   rw [Ae]at hr ⊢;unfold CV
   (repeat' split at hr)<;>simp_all
  show eT (av 10 [x.dim,y.dim]) _=_;rw [this];rfl
 ·show(if iy x.n x.d y.n y.d<=0 then Val.num x.dim x.n x.d else .num x.dim y.n y.d,0)=eT x.dim (if(gu x.n x.d y.n y.d).1<0 then(x.n,x.d,(gu x.n x.d y.n y.d).2)else(y.n,y.d,(gu x.n x.d y.n y.d).2));rw [sN hx hy];have he:=cmp_eq hx hy;generalize iy x.n x.d y.n y.d=c at *;dsimp only;by_cases h1:c<0
  ·rw [if_pos h1,if_pos ze];rfl
  ·rw [if_neg h1];by_cases h2:c<=0
   ·obtain⟨h3,h4⟩:=he ze;rw [if_pos h2,h3,h4];rfl
   ·rw [if_neg h2];rfl
 ·show(if 0<=iy x.n x.d y.n y.d then Val.num x.dim x.n x.d else .num x.dim y.n y.d,0)=eT x.dim (if(gu x.n x.d y.n y.d).1<0 then(y.n,y.d,(gu x.n x.d y.n y.d).2)else(x.n,x.d,(gu x.n x.d y.n y.d).2));rw [sN hx hy];generalize iy x.n x.d y.n y.d=c at *;dsimp only;by_cases h1:c<0
  ·rw [if_pos h1,if_neg ze];rfl
  ·rw [if_neg h1,if_pos ze];rfl
theorem Val.ok_rng{x:Val}(h:x.ok=true):Fv x:=by
 unfold Fv I64;by_cases hd:x.dim=1
 ·unfold Val.ok at h;rw [if_pos hd,decide_eq_true_eq]at h;omega
 ·have:=aC (Val.ok_num h hd).2.2.2;omega
end Go.Proofs.YtcfpoofhokbhlaaGreatDoor
