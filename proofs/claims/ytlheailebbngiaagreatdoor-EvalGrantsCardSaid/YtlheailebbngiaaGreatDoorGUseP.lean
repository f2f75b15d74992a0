import Derived.Test.YtlheailebbngiaaGreatDoorGTyF
import Derived.Test.YtlheailebbngiaaGreatDoorGFrAll
import Derived.Test.YtlheailebbngiaaGreatDoorGTop
set_option linter.all false
set_option maxHeartbeats 16000000
set_option maxRecDepth 1000000
namespace Go.Proofs.YtlheailebbngiaaGreatDoor
open Go.Proofs.Tryz List
mutual
def bS(s:ByteArray):Ex->Bool
 | .mk op _ _ _ nm l=>(decide (op=2)&&decide (nm=s)) || dR s l
def dR(s:ByteArray):List Ex->Bool
 | []=>false
 |e::r=>bS s e || dR s r
end
theorem Av(s:ByteArray)(e:Ex):bS s e=((decide (e.op=2)&&decide (e.name=s)) || dR s e.args):=by cases e;rw [bS];rfl
theorem Au(s:ByteArray)(l:List Ex)(k:Nat)(h:k<l.length):dR s (l.take (k+1))=(dR s (l.take k) || bS s (l.getD k default)):=by
 induction l generalizing k with
 |nil=>simp at h
 |cons e r ih=>
  cases k with
  |zero=>simp [dR]
  |succ k=>simp only [take_succ_cons,dR,getD_cons_succ];rw [ih k zI,Bool.or_assoc]
theorem tT(s:ByteArray)(l:List Ex)(k:Nat)(h:k<l.length)(hf:bS s (l.getD k default)=true):dR s l=true:=by
 induction l generalizing k with
 |nil=>simp at h
 |cons e r ih=>
  cases k with
  |zero=>simp only [getD_cons_zero]at hf;simp [dR,hf]
  |succ k=>simp only [getD_cons_succ]at hf;simp [dR,ih k zI hf]
def jy(e:Ex)(ls:List (ByteArray × Ex))(i:Nat)(u:List Nat):Bool:=
 bS (ls.getD i default).1 e || u.any fun k=>bS (ls.getD i default).1 (ls.getD k default).2
def bM(e:Ex)(ls:List (ByteArray × Ex)):Nat->List Nat
 |0=>[]
 |f+1=>if jy e ls (ls.length-(f+1)) (bM e ls f)then(ls.length-(f+1))::bM e ls f else bM e ls f
def az(e:Ex)(ls:List (ByteArray × Ex)):List Nat:=bM e ls ls.length
theorem fK{e:Ex}{ls:List (ByteArray × Ex)}:∀(f:Nat),f<=ls.length->∀i∈bM e ls f,ls.length-f<=i/\i<ls.length
 |0,_,i,h=>by simp [bM]at h
 |f+1,hf,i,h=>by
  rw [bM]at h
  split at h
  ·rcases mem_cons.1 h with rfl|h
   ·omega
   ·have:=fK f ze i h;omega
  ·have:=fK f ze i h;omega
theorem pW{e:Ex}{ls:List (ByteArray × Ex)}:∀(f:Nat),f<=ls.length->(bM e ls f).Pairwise (· < ·)
 |0,_=>by simp [bM]
 |f+1,hf=>by
  rw [bM]
  split
  ·exact pairwise_cons.2 ⟨fun i hi=>by have:=fK f ze i hi;omega,pW f ze⟩
  ·exact pW f ze
theorem je{e:Ex}{ls:List (ByteArray × Ex)}:∀(f:Nat),(bM e ls f).length<=f
 |0=>by simp [bM]
 |f+1=>by
  rw [bM];have:=je (e:=e) (ls:=ls) f
  split<;>simp<;>omega
theorem jq{e:Ex}{ls:List (ByteArray × Ex)}(f:Nat)(hf:f+1<=ls.length):(bM e ls (f+1)).contains (ls.length-(f+1))=jy e ls (ls.length-(f+1)) (bM e ls f):=by
 rw [bM]
 split<;>rename_i h
 ·simp [h]
 ·rw [Bool.eq_false_iff.2 h];rw [Bool.eq_false_iff];intro hc;have:=fK f ze _ (contains_iff_mem.1 hc);omega
theorem kD{e:Ex}{ls:List (ByteArray × Ex)}{i:Nat}:∀(f g:Nat),f+g<=ls.length->ls.length-f<=i->i<ls.length->(i∈bM e ls (f+g)↔i∈bM e ls f)
 |f,0,_,_,_=>Iff.rfl
 |f,g+1,h,h1,h2=>by
  have ih:=kD (e:=e) f g ze h1 h2;show i∈bM e ls (f+g+1)↔_;rw [bM]
  split
  ·rw [mem_cons,ih];constructor
   ·rintro(h3|h3)
    ·omega
    ·exact h3
   ·exact .inr
  ·exact ih
theorem bZ(v:Vw)(env:List (ByteArray × Val))(l:List Ex)(k:Nat)(hk:k<l.length):(gu v env l).getD k (.zero,0)=ai v env (l.getD k default):=by
 induction l generalizing k with
 |nil=>simp at hk
 |cons e r ih=>
  rw [gu]
  cases k with
  |zero=>rfl
  |succ k=>simpa using ih k (by simpa using hk)
theorem Fv{env:List (ByteArray × Int)}{e:Ex}(hi:(aD env e).2=0)(h1:¬e.op=1)(h2:¬e.op=2)(h3:¬e.op=3):∀k,k<e.args.length->o8 env (e.arg k)=0:=by
 intro k
 induction k using Nat.strongRecOn with
 |ind k ih=>
  intro hk;by_cases hb:o8 env (e.arg k)=0
  ·exact hb
  ·have:=xK env e h1 h2 h3 k hk (fun j hj=>ih j hj ze) hb;rw [this]at hi;exact absurd hi hb
theorem yY{v:Vw}(hv:v.ok=true){env:List (ByteArray × Val)}(hE:∀p∈env,p.2.ok=true){e:Ex}(hf:aL e=true)(hi:(aD (aQ env) e).2=0)(h1:¬e.op=1)(h2:¬e.op=2)(h3:¬e.op=3) :
 ∃ds:List Int,e.args.length=ds.length/\(ds.length:Int)=aX e.op/\4<=e.op/\e.op<=21/\ax e.op ds≠0/\
  ∀k,k<e.args.length->aL (e.arg k)=true/\(aD (aQ env) (e.arg k)).2=0/\okR (ds.getD k 0) (ai v env (e.arg k)):=by
 obtain⟨hal,ho4,ho21,hfs⟩:=qA hf h1 h2 h3;have hall:=Fv hi h1 h2 h3;have hop:=Dw (aQ env) e h1 h2 h3 hall;refine⟨fH (aQ env) e e.args.length,by simp [fH],by simpa [fH]using hal,ho4,ho21, ?_,fun k hk=>⟨gM hfs k hk,hall k hk, ?_⟩⟩
 ·intro h0;rw [hop,if_pos h0]at hi;simp at hi
 ·have:=lU hv hE (e.arg k) (gM hfs k hk) (hall k hk)
  have hd:(fH (aQ env) e e.args.length).getD k 0=(aD (aQ env) (e.arg k)).1:=by
   unfold fH Ex.arg;rw [take_length,getD_eq_getElem?_getD,getElem?_map,getElem?_eq_getElem hk,getD_eq_getElem?_getD,getElem?_eq_getElem hk];rfl
  rw [hd];exact this
theorem cmp_eq{a b c d:Int}(ha:aA a b=true)(hb:aA c d=true)(h:iw a b c d=0):a=c/\b=d:=by
 refine EQ ha hb ?_;unfold iw at h
 (repeat' split at h)<;>omega
theorem si{a b c d:Int}(ha:aA a b=true)(hb:aA c d=true):gm a b c d=(iw a b c d,0):=by
 unfold gm;rw [ha,hb];rfl
theorem xU{op:Int}{x y:Val}(ho:op=7\/op=8\/op=9\/op=10\/op=19\/op=20\/(11<=op/\op<=16))(hr:ax op [x.dim,y.dim]≠0):x.dim≠1/\y.dim≠1:=by
 have h9:op=9\/op=10\/((op=7\/op=8\/op=19\/op=20)\/(11<=op/\op<=16)):=by omega
 rcases h9 with rfl|rfl|h|h
 ·rw [xx]at hr
  (repeat' split at hr)<;>omega
 ·rw [xz]at hr
  (repeat' split at hr)<;>omega
 ·rw [rZ _ _ h]at hr
  (repeat' split at hr)<;>omega
 ·rw [rY _ _ h]at hr
  (repeat' split at hr)<;>omega
theorem MU{op:Int}{x y:Val}(ho:11<=op/\op<=16)(hx:x.ok=true)(hy:y.ok=true)(hr:ax op [x.dim,y.dim]≠0) :
 op2 op x y=(.truth (rP op (gm x.n x.d y.n y.d).1),0)/\(gm x.n x.d y.n y.d).2=0:=by
 have hd:=xU (.inr (.inr (.inr (.inr (.inr (.inr ho)))))) hr;rw [si (Val.ok_num hx hd.1).2.2.2 (Val.ok_num hy hd.2).2.2.2];refine⟨?_,rfl⟩;unfold op2;rw [if_neg ze,if_neg ze,if_neg ze,if_neg ze,if_neg ze,if_neg ze]
theorem Ph{op:Int}{x y:Val}(ho:op=7\/op=8\/op=9\/op=10\/op=19\/op=20)(hx:x.ok=true)(hy:y.ok=true)(hr:ax op [x.dim,y.dim]≠0) :
 op2 op x y=eO (BH op x.dim y.dim) (arF op x.n x.d y.n y.d):=by
 have hd:=xU ze hr;have hx:=(Val.ok_num hx hd.1).2.2.2;have hy:=(Val.ok_num hy hd.2).2.2.2;rcases ho with rfl|rfl|rfl|rfl|rfl|rfl
 ·rfl
 ·rfl
 ·have:ax 9 [x.dim,y.dim]=BH 9 x.dim y.dim:=by
   rw [xx]at hr ⊢;unfold BH
   (repeat' split at hr)<;>simp_all
  show eO (ax 9 [x.dim,y.dim]) _=_;rw [this];rfl
 ·have:ax 10 [x.dim,y.dim]=BH 10 x.dim y.dim:=by
   rw [xz]at hr ⊢;unfold BH
   (repeat' split at hr)<;>simp_all
  show eO (ax 10 [x.dim,y.dim]) _=_;rw [this];rfl
 ·show(if iw x.n x.d y.n y.d<=0 then Val.num x.dim x.n x.d else .num x.dim y.n y.d,0)=eO x.dim (if(gm x.n x.d y.n y.d).1<0 then(x.n,x.d,(gm x.n x.d y.n y.d).2)else(y.n,y.d,(gm x.n x.d y.n y.d).2));rw [si hx hy];have he:=cmp_eq hx hy;generalize iw x.n x.d y.n y.d=c at *;dsimp only;by_cases h1:c<0
  ·rw [if_pos h1,if_pos ze];rfl
  ·rw [if_neg h1];by_cases h2:c<=0
   ·obtain⟨h3,h4⟩:=he ze;rw [if_pos h2,h3,h4];rfl
   ·rw [if_neg h2];rfl
 ·show(if 0<=iw x.n x.d y.n y.d then Val.num x.dim x.n x.d else .num x.dim y.n y.d,0)=eO x.dim (if(gm x.n x.d y.n y.d).1<0 then(y.n,y.d,(gm x.n x.d y.n y.d).2)else(x.n,x.d,(gm x.n x.d y.n y.d).2));rw [si hx hy];generalize iw x.n x.d y.n y.d=c at *;dsimp only;by_cases h1:c<0
  ·rw [if_pos h1,if_neg ze];rfl
  ·rw [if_neg h1,if_pos ze];rfl
theorem Val.ok_rng{x:Val}(h:x.ok=true):vC x:=by
 unfold vC I64;by_cases hd:x.dim=1
 ·unfold Val.ok at h;rw [if_pos hd,decide_eq_true_eq]at h;omega
 ·have:=aF (Val.ok_num h hd).2.2.2;omega
def QT(env:List (ByteArray × Int)):Prop:=∀p∈env,bT p.1.toList=0/\eY p.1=true/\1<=p.2/\p.2<=4/\dO env p.1=some p.2
theorem QT.nil:QT []:=fun p hp=>by cases hp
theorem Na{n d:Int}(h2:1<=d)(he:mkE n d=0):mkD n d ∣ d:=by
 unfold mkE kF at he;unfold mkD l5;rw [if_neg ze]at he ⊢
 split at he<;>rename_i hc
 ·simp at he
 rw [if_neg hc];obtain⟨b,rfl⟩:=Int.eq_ofNat_of_zero_le (show 0<=d by omega);rw [Int.natAbs_natCast];exact Int.natCast_dvd_natCast.2 (Nat.div_dvd_of_dvd (Nat.gcd_dvd_right _ _))
theorem Pk{n d:Int}(h1:0<=n)(h2:1<=d):mkN n d<=n:=by
 unfold mkN jX;rw [if_neg ze,decide_eq_false ze,decide_eq_false ze]
 split
 ·omega
 ·have:=Nat.div_le_self n.natAbs (Nat.gcd n.natAbs d.natAbs);simp only [bne_self_eq_false,Bool.false_eq_true,if_false];omega
theorem Po{n d m:Int}(h1:0<=n)(h2:n<=1000000)(h3:1<=d)(h4:d ∣ 10000)(h5:2<=m/\m<=4):dI (mkN n d) (mkD n d) m=true:=by
 have hd:d<=10000:=Int.le_of_dvd ze h4;have he:=vY h1 ze h3 ze;have hv:=Ar (show d≠0 by omega) he;have hb:=aF hv;have hn:=tN h1 h3;have hl:=Pk h1 h3;have hdv:mkD n d ∣ 10000:=Int.dvd_trans (Na h3 he) h4;have hq:mkN n d / mkD n d<=mkN n d:=Int.ediv_le_self _ hn;unfold dI;rw [hv,decide_eq_true hn,decide_eq_true (Int.emod_eq_zero_of_dvd hdv),decide_eq_true h5.1,decide_eq_true h5.2,decide_eq_true ze];rfl
theorem num_ok(zs:List Int)(p:Nat){m:Int}(h5:2<=m/\m<=4):dI (FQ zs p) (FR zs p) m=true:=by
 have h1:=fB zs p 4000 ze;have h2:=fB zs (p+1) 7 ze;unfold FQ FR;refine Po h1.1 ze ?_ ?_ h5
 all_goals
  generalize aK zs (p+1) 7=i at *;rcases(show i=0\/i=1\/i=2\/i=3\/i=4\/i=5\/i=6 by omega)with rfl|rfl|rfl|rfl|rfl|rfl|rfl<;>decide
def PW(env:List (ByteArray × Int))(dim:Int)(e:Ex):Prop:=aL e=true/\aD env e=(dim,0)
def uO(env:List (ByteArray × Int))(ds:List Int)(l:List Ex):Prop:=aV l=true/\aW env l=(ds,0)/\l.length=ds.length
theorem uO.nil(env:List (ByteArray × Int)):uO env [] []:=⟨rfl,rfl,rfl⟩
theorem uO.cons{env:List (ByteArray × Int)}{d:Int}{ds:List Int}{e:Ex}{l:List Ex}(h:PW env d e)(g:uO env ds l):uO env (d::ds) (e::l):=by
 refine⟨by rw [aV,h.1,g.1];rfl, ?_,by simp [g.2.2]⟩;rw [aW,h.2,g.2.1];simp
end Go.Proofs.YtlheailebbngiaaGreatDoor
