import Derived.Test.YtlheailebbngiaaGreatDoorGEnvB
import Derived.Test.YtlheailebbngiaaGreatDoorGLazyP
import Derived.Lib.ItoaLen
set_option linter.all false
set_option maxHeartbeats 16000000
set_option maxRecDepth 1000000
namespace Go.Proofs.YtlheailebbngiaaGreatDoor
open Go.Proofs.Tryz List
open Go.RowKit
theorem Mj{op:Int}{d:List Int}(h:∀x∈d,1<=x/\x<=4)(hr:ax op d≠0):1<=ax op d/\ax op d<=4:=by
 have g:∀k,d.getD k 0=0\/(1<=d.getD k 0/\d.getD k 0<=4):=fun k=>by
  by_cases hk:k<d.length
  ·rw [getD_eq_getElem?_getD,getElem?_eq_getElem hk];exact .inr (h _ (getElem_mem hk))
  ·rw [getD_eq_getElem?_getD,getElem?_eq_none ze];exact .inl rfl
 have g0:=g 0;have g1:=g 1;unfold ax at hr ⊢;dsimp only at hr ⊢;generalize d.getD 0 0=a at *;generalize d.getD 1 0=b at *;generalize d.getD 2 0=c at *;clear h g
 (repeat' split)<;>(repeat' split at hr)<;>omega
theorem DZ{env:List (ByteArray × Int)}(h:fV env=true){p:ByteArray × Int}(hp:p∈env):1<=p.2/\p.2<=4:=by
 have:=all_eq_true.1 h p hp;simpa using this
theorem JL{α:Type}{env:List (ByteArray × α)}{s:ByteArray}{x:α}(h:dO env s=some x):∃p∈env,p.2=x:=by
 exact Qu
mutual
theorem qp{env:List (ByteArray × Int)}(hE:fV env=true):∀e:Ex,aL e=true->(aD env e).2=0->1<=(aD env e).1/\(aD env e).1<=4
 | .mk op n d m s l=>by
   intro hf hi;rw [aL,Bool.and_eq_true,decide_eq_true_eq]at hf;rw [aD]at hi ⊢;obtain⟨ha,hf⟩:=hf;unfold fA at hi ⊢;by_cases c1:op=1
   ·subst c1;rw [if_pos rfl]at hf;simp only [Bool.and_eq_true]at hf;have:=BL hf.1;exact⟨by show 1<=m;omega,by show m<=4;omega⟩
   rw [if_neg c1]at hi hf ⊢;by_cases c3:op=3
   ·rw [if_pos c3];exact⟨by show(1:Int)<=4;omega,by show(4:Int)<=4;omega⟩
   rw [if_neg c3]at hi ⊢;by_cases c2:op=2
   ·rw [if_pos c2]at hi ⊢;unfold eF at hi ⊢;by_cases cd:bT s.toList≠0
    ·rw [if_pos cd];have:=EG s.toList;exact⟨by show 1<=bT s.toList;omega,by show bT s.toList<=4;omega⟩
    ·rw [if_neg cd]at hi ⊢
     cases hl:dO env s with
     |none=>rw [hl]at hi;simp at hi
     |some x=>
      obtain⟨p,hp,rfl⟩:=JL hl;exact DZ hE hp
   rw [if_neg c2,if_neg c3]at hf;rw [if_neg c2]at hi ⊢;simp only [Bool.and_eq_true]at hf
   split at hi<;>rename_i c4
   ·exact absurd hi c4
   rw [if_neg c4]
   split at hi<;>rename_i c5
   ·simp at hi
   rw [if_neg c5];exact Mj (ut hE l hf.1 ze) c5
theorem ut{env:List (ByteArray × Int)}(hE:fV env=true):∀l:List Ex,aV l=true->(aW env l).2=0->∀x∈(aW env l).1,1<=x/\x<=4
 | []=>by intro _ _ x hx;simp [aW]at hx
 |e::r=>by
  intro hf h x hx;rw [aV,Bool.and_eq_true]at hf;rw [aW]at h hx
  split at h<;>rename_i c1
  ·exact absurd h c1
  split at h<;>rename_i c2
  ·exact absurd h c2
  rw [if_neg c1,if_neg c2]at hx;rcases mem_cons.1 hx with rfl|hx
  ·exact qp hE e hf.1 ze
  ·exact ut hE r hf.2 ze x hx
end
theorem uu(env:List (ByteArray × Int)):∀(l:List Ex) (k:Nat),k<l.length->(∀j,j<k->(aD env (l.getD j default)).2=0)->(aD env (l.getD k default)).2≠0->
 (aW env l).2=(aD env (l.getD k default)).2
 | [],k,hk,_,_=>by simp at hk
 |e::r,0,_,_,h=>by
  rw [aW,if_pos zI];rfl
 |e::r,k+1,hk,hj,h=>by
  have h0:(aD env e).2=0:=hj 0 ze;have hr:=uu env r k (by simpa using hk) (fun j hjk=>hj (j+1) ze) h;have hne:(aW env r).2≠0:=by rw [hr];exact h
  rw [aW,if_neg ze,if_pos hne];exact hr
theorem wF(env:List (ByteArray × Int)):∀l:List Ex,(∀j,j<l.length->(aD env (l.getD j default)).2=0)->aW env l=(l.map fun e=>(aD env e).1,0)
 | [],_=>by rw [aW];rfl
 |e::r,h=>by
  have h0:(aD env e).2=0:=h 0 zg;have hr:=wF env r (fun j hj=>h (j+1) (by simpa using hj));rw [aW,if_neg ze,hr,if_neg zg];rfl
theorem Gm{d:List Int}(h:(d.length:Int)=1):∃x,d= [x]:=length_eq_one_iff.1 ze
theorem iq{d:List Int}(h:(d.length:Int)=2):∃x y,d= [x,y]:=by
 match d,(show d.length=2 by omega)with
 | [a,b],_=>exact⟨a,b,rfl⟩
theorem Qe{d:List Int}(h:(d.length:Int)=3):∃x y z,d= [x,y,z]:=by
 match d,(show d.length=3 by omega)with
 | [a,b,c],_=>exact⟨a,b,c,rfl⟩
theorem Ai{w:World}{base g cap:Nat}{d:List Int}(h:w.ownsRow base 3 1 (.slice (some ⟨g,0,none⟩) d.length cap) d.length (d.map (Value.int .i64)))(k:Nat)(hk:k<d.length):w.cell? ⟨g,0+k,none⟩=some (.int .i64 (d.getD k 0)):=by
 have:=World.ownsRow.cells (g:=g) h rfl k (.int .i64 (d.getD k 0)) yG;rw [addr_add]at this;rw [Nat.zero_add];exact this
theorem Jr(op:Int)(d:List Int)(base g cap:Nat)(w:World)(h4:4<=op)(h21:op<=21)(hl:(d.length:Int)=aX op)(hx:∀x∈d,1<=x)(h:w.ownsRow base 3 1 (.slice (some ⟨g,0,none⟩) d.length cap) d.length (d.map (Value.int .i64))) :
 Calls prog 139 #[.int .i64 op,.slice (some ⟨g,0,none⟩) d.length cap] w (gq (ax op d) w):=by
 have hc:=Ai h;clear h;rcases(show op=4\/op=5\/op=6\/op=7\/op=8\/op=9\/op=10\/op=11\/op=12\/op=13\/op=14\/op=15\/op=16\/op=17\/op=18\/op=19\/op=20\/op=21 by omega)with rfl|rfl|rfl|rfl|rfl|rfl|rfl|rfl|rfl|rfl|rfl|rfl|rfl|rfl|rfl|rfl|rfl|rfl
 ·obtain⟨x,rfl⟩:=Gm (d:=d) zw;exact O8 x g 0 cap w (hc 0 zg) (hx _ zg)
 ·obtain⟨x,rfl⟩:=Gm (d:=d) zw;exact O7 x g 0 cap w (hc 0 zg) (hx _ zg)
 ·obtain⟨x,rfl⟩:=Gm (d:=d) zw;exact O6 x g 0 cap w (hc 0 zg) (hx _ zg)
 ·obtain⟨x,y,rfl⟩:=iq (d:=d) zw;exact O5 x y g 0 cap w (hc 0 zg) (hc 1 zg) ⟨hx _ zg,hx _ zg⟩
 ·obtain⟨x,y,rfl⟩:=iq (d:=d) zw;exact O4 x y g 0 cap w (hc 0 zg) (hc 1 zg) ⟨hx _ zg,hx _ zg⟩
 ·obtain⟨x,y,rfl⟩:=iq (d:=d) zw;exact O0 x y g 0 cap w (hc 0 zg) (hc 1 zg) ⟨hx _ zg,hx _ zg⟩
 ·obtain⟨x,y,rfl⟩:=iq (d:=d) zw;exact MO x y g 0 cap w (hc 0 zg) (hc 1 zg) ⟨hx _ zg,hx _ zg⟩
 ·obtain⟨x,y,rfl⟩:=iq (d:=d) zw;exact MN x y g 0 cap w (hc 0 zg) (hc 1 zg) ⟨hx _ zg,hx _ zg⟩
 ·obtain⟨x,y,rfl⟩:=iq (d:=d) zw;exact MM x y g 0 cap w (hc 0 zg) (hc 1 zg) ⟨hx _ zg,hx _ zg⟩
 ·obtain⟨x,y,rfl⟩:=iq (d:=d) zw;exact ML x y g 0 cap w (hc 0 zg) (hc 1 zg) ⟨hx _ zg,hx _ zg⟩
 ·obtain⟨x,y,rfl⟩:=iq (d:=d) zw;exact MK x y g 0 cap w (hc 0 zg) (hc 1 zg) ⟨hx _ zg,hx _ zg⟩
 ·obtain⟨x,y,rfl⟩:=iq (d:=d) zw;exact MJ x y g 0 cap w (hc 0 zg) (hc 1 zg) ⟨hx _ zg,hx _ zg⟩
 ·obtain⟨x,y,rfl⟩:=iq (d:=d) zw;exact MI x y g 0 cap w (hc 0 zg) (hc 1 zg) ⟨hx _ zg,hx _ zg⟩
 ·obtain⟨x,y,rfl⟩:=iq (d:=d) zw;exact MH x y g 0 cap w (hc 0 zg) (hc 1 zg) ⟨hx _ zg,hx _ zg⟩
 ·obtain⟨x,y,rfl⟩:=iq (d:=d) zw;exact MG x y g 0 cap w (hc 0 zg) (hc 1 zg) ⟨hx _ zg,hx _ zg⟩
 ·obtain⟨x,y,rfl⟩:=iq (d:=d) zw;exact MF x y g 0 cap w (hc 0 zg) (hc 1 zg) ⟨hx _ zg,hx _ zg⟩
 ·obtain⟨x,y,rfl⟩:=iq (d:=d) zw;exact ME x y g 0 cap w (hc 0 zg) (hc 1 zg) ⟨hx _ zg,hx _ zg⟩
 ·obtain⟨x,y,z,rfl⟩:=Qe (d:=d) zw;exact MC x y z g 0 cap w (hc 0 zg) (hc 1 zg) (hc 2 zg) ⟨hx _ zg,hx _ zg,hx _ zg⟩
theorem sV(op:Int)(d:List Int)(base g cap:Nat)(w:World)(h4:4<=op)(h21:op<=21)(hl:(d.length:Int)=aX op)(hx:∀x∈d,1<=x)(h:w.ownsRow base 3 1 (.slice (some ⟨g,0,none⟩) d.length cap) d.length (d.map (Value.int .i64))) :
 Calls prog 148 #[.int .i64 op,.slice (some ⟨g,0,none⟩) d.length cap] w (fJ (ax op d) w):=by
 have hc:=Ai h;clear h;rcases(show op=4\/op=5\/op=6\/op=7\/op=8\/op=9\/op=10\/op=11\/op=12\/op=13\/op=14\/op=15\/op=16\/op=17\/op=18\/op=19\/op=20\/op=21 by omega)with rfl|rfl|rfl|rfl|rfl|rfl|rfl|rfl|rfl|rfl|rfl|rfl|rfl|rfl|rfl|rfl|rfl|rfl
 ·obtain⟨x,rfl⟩:=Gm (d:=d) zw;exact OZ x g 0 cap w (hc 0 zg) (hx _ zg)
 ·obtain⟨x,rfl⟩:=Gm (d:=d) zw;exact OY x g 0 cap w (hc 0 zg) (hx _ zg)
 ·obtain⟨x,rfl⟩:=Gm (d:=d) zw;exact OX x g 0 cap w (hc 0 zg) (hx _ zg)
 ·obtain⟨x,y,rfl⟩:=iq (d:=d) zw;exact OW x y g 0 cap w (hc 0 zg) (hc 1 zg) ⟨hx _ zg,hx _ zg⟩
 ·obtain⟨x,y,rfl⟩:=iq (d:=d) zw;exact OV x y g 0 cap w (hc 0 zg) (hc 1 zg) ⟨hx _ zg,hx _ zg⟩
 ·obtain⟨x,y,rfl⟩:=iq (d:=d) zw;exact OU x y g 0 cap w (hc 0 zg) (hc 1 zg) ⟨hx _ zg,hx _ zg⟩
 ·obtain⟨x,y,rfl⟩:=iq (d:=d) zw;exact MB x y g 0 cap w (hc 0 zg) (hc 1 zg) ⟨hx _ zg,hx _ zg⟩
 ·obtain⟨x,y,rfl⟩:=iq (d:=d) zw;exact Mx x y g 0 cap w (hc 0 zg) (hc 1 zg) ⟨hx _ zg,hx _ zg⟩
 ·obtain⟨x,y,rfl⟩:=iq (d:=d) zw;exact Mw x y g 0 cap w (hc 0 zg) (hc 1 zg) ⟨hx _ zg,hx _ zg⟩
 ·obtain⟨x,y,rfl⟩:=iq (d:=d) zw;exact Mv x y g 0 cap w (hc 0 zg) (hc 1 zg) ⟨hx _ zg,hx _ zg⟩
 ·obtain⟨x,y,rfl⟩:=iq (d:=d) zw;exact Mt x y g 0 cap w (hc 0 zg) (hc 1 zg) ⟨hx _ zg,hx _ zg⟩
 ·obtain⟨x,y,rfl⟩:=iq (d:=d) zw;exact Ms x y g 0 cap w (hc 0 zg) (hc 1 zg) ⟨hx _ zg,hx _ zg⟩
 ·obtain⟨x,y,rfl⟩:=iq (d:=d) zw;exact Mr x y g 0 cap w (hc 0 zg) (hc 1 zg) ⟨hx _ zg,hx _ zg⟩
 ·obtain⟨x,y,rfl⟩:=iq (d:=d) zw;exact Mq x y g 0 cap w (hc 0 zg) (hc 1 zg) ⟨hx _ zg,hx _ zg⟩
 ·obtain⟨x,y,rfl⟩:=iq (d:=d) zw;exact Mo x y g 0 cap w (hc 0 zg) (hc 1 zg) ⟨hx _ zg,hx _ zg⟩
 ·obtain⟨x,y,rfl⟩:=iq (d:=d) zw;exact Mm x y g 0 cap w (hc 0 zg) (hc 1 zg) ⟨hx _ zg,hx _ zg⟩
 ·obtain⟨x,y,rfl⟩:=iq (d:=d) zw;exact Ml x y g 0 cap w (hc 0 zg) (hc 1 zg) ⟨hx _ zg,hx _ zg⟩
 ·obtain⟨x,y,z,rfl⟩:=Qe (d:=d) zw;exact Mk x y z g 0 cap w (hc 0 zg) (hc 1 zg) (hc 2 zg) ⟨hx _ zg,hx _ zg,hx _ zg⟩
def jP(n d m:Int)(w:World)(e:Ending)(w':World):Prop:=∃s,e= .returned (.tuple #[.string s,.bool (dI n d m)])/\(dI n d m=true->s.data.toList=EZ n d m)/\w.Grows w'
theorem jP.no{n d m:Int}{w w':World}(h:dI n d m=false)(hw:w.Grows w'):jP n d m w (.returned (.tuple #[.string ⟨#[]⟩,.bool false])) w':=
 ⟨⟨#[]⟩,by rw [h],fun k=>(by rw [h]at k;cases k),hw⟩
theorem jP.yes{n d m:Int}{w w':World}{s:ByteArray}(h:dI n d m=true)(hs:s.data.toList=EZ n d m)(hw:w.Grows w'):jP n d m w (.returned (.tuple #[.string s,.bool true])) w':=
 ⟨s,by rw [h],fun _=>hs,hw⟩
def rT(n d:Int)(k:Nat)(l:List Int)(r:Int)(s:ByteArray):Prop:=
 gG d 4 (n % d)=(gG d (4-k) r).map (l++ ·)/\l.length=k/\s.data.toList=Lib.decDigits (n / d).toNat++mo l
theorem GU{l:List Int}(h:l≠[])(x:Int):mo (l++[x])=mo l++[dgB x]:=by
 unfold mo;rw [if_neg h,if_neg zg];simp
theorem Kq(x:Int):mo [x]= [46,dgB x]:=by unfold mo;rw [if_neg zg];rfl
theorem D5{x:Int}(h0:0<=x)(h1:x<=9):Lib.decDigits x.toNat= [dgB x]:=by
 rw [Lib.decDigits,dif_pos ze];rfl
theorem mD(a b:ByteArray):(a++b).data.toList=a.data.toList++b.data.toList:=by
 rw [ByteArray.data_append,Array.toList_append]
theorem wP{d:Int}{f:Nat}{r:Int}(h:0<r):gG d (f+1) r=(gG d f (r*10 % d)).map fun l=>r*10 / d::l:=by
 rw [gG,if_neg ze]
theorem rT.first{n d r:Int}{s:ByteArray}(h:rT n d 0 [] r s)(hr:0<r)(h0:0<=r*10 / d)(h1:r*10 / d<=9):rT n d 1 [r*10 / d] (r*10 % d) (s++⟨#[46]⟩++⟨(Lib.decDigits (r*10 / d).toNat).toArray⟩):=by
 obtain⟨a,-,c⟩:=h;refine⟨?_,rfl, ?_⟩
 ·rw [a,show 4-0=3+1 by rfl,wP hr];cases gG d 3 (r*10 % d)<;>rfl
 ·rw [mD,mD,c,D5 h0 h1,Kq];simp [mo]
theorem rT.more{n d r:Int}{s:ByteArray}{k:Nat}{l:List Int}(h:rT n d k l r s)(hk:0<k)(hk4:k<4)(hr:0<r)(h0:0<=r*10 / d)(h1:r*10 / d<=9) :
 rT n d (k+1) (l++[r*10 / d]) (r*10 % d) (s++⟨(Lib.decDigits (r*10 / d).toNat).toArray⟩):=by
 obtain⟨a,b,c⟩:=h;refine⟨?_,by simp [b], ?_⟩
 ·rw [a,show 4-k=(4-(k+1))+1 by omega,wP hr];cases gG d (4-(k+1)) (r*10 % d)<;>simp
 ·rw [mD,c,D5 h0 h1,GU (by intro e;rw [e]at b;simp at b;omega),append_assoc]
theorem rT.none4{n d r:Int}{s:ByteArray}{l:List Int}(h:rT n d 4 l r s)(hr:0<r):gG d 4 (n % d)=none:=by
 rw [h.1];show(gG d 0 r).map _=none;rw [gG,if_neg ze];rfl
theorem rT.some{n d r:Int}{s:ByteArray}{k:Nat}{l:List Int}(h:rT n d k l r s)(hr:r<=0):gG d 4 (n % d)=some l:=by
 rw [h.1]
 have:gG d (4-k) r=Option.some []:=by
  cases 4-k with
  |zero=>rw [gG,if_pos hr]
  |succ f=>rw [gG,if_pos hr]
 rw [this];simp
theorem xV{s:ByteArray}{n d m:Int}{l:List Int}(h1:1<=d)(h2:d<=10000)(h3:0<=n)(h4:n<=1000000000000000)(hf:gG d 4 (n % d)=some l)(hs:s.data.toList=Lib.decDigits (n / d).toNat++mo l++xw m) :
 (qH s.data.toList=none/\dI n d m=false)\/∃a b c,qH s.data.toList=some (a,b,c)/\((a=n/\b=d/\c=m/\dI n d m=true/\s.data.toList=EZ n d m)\/(a≠n/\dI n d m=false)\/(b≠d/\dI n d m=false)\/(c≠m/\dI n d m=false)):=by
 have hr:=Hd (m:=m) h1 h2 h3 h4 hf;rw [<-hs]at hr
 cases hd:qH s.data.toList with
 |none=>
  left;refine⟨rfl, ?_⟩;rw [Bool.eq_false_iff];intro k;have:=hr.2 k;rw [hd]at this;cases this
 |some t=>
  right;obtain⟨a,b,c⟩:=t;refine⟨a,b,c,rfl, ?_⟩;by_cases e1:a=n
  ·by_cases e2:b=d
   ·by_cases e3:c=m
    ·left;refine⟨e1,e2,e3,hr.1 (by rw [hd,e1,e2,e3]), ?_⟩;unfold EZ;rw [hf];exact hs
    ·right;right;right;refine⟨e3, ?_⟩;rw [Bool.eq_false_iff];intro k;have:=hr.2 k;rw [hd]at this;simp only [Option.some.injEq,Prod.mk.injEq]at this;exact e3 this.2.2
   ·right;right;left;refine⟨e2, ?_⟩;rw [Bool.eq_false_iff];intro k;have:=hr.2 k;rw [hd]at this;simp only [Option.some.injEq,Prod.mk.injEq]at this;exact e2 this.2.1
  ·right;left;refine⟨e1, ?_⟩;rw [Bool.eq_false_iff];intro k;have:=hr.2 k;rw [hd]at this;simp only [Option.some.injEq,Prod.mk.injEq]at this;exact e1 this.1
theorem oz(n d m:Int)(w:World)(h1:I64 n)(h2:I64 d)(h3:I64 m)(ht:Tab w):Calls prog 205 #[.agg #[.int .i64 n,.int .i64 d],.int .i64 m] w (jP n d m w):=by
 unfold I64 at h1 h2 h3;by_cases c1:d<1
 ·exact Ns
 by_cases c2:10000<d
 ·exact Ns
 by_cases c3:n<0
 ·exact Ns
 by_cases c4:(1000000000000000:Int)<n
 ·exact Ns
 have d0:1<=d:=by omega
 have d1:d<=10000:=by omega
 have n0:0<=n:=by omega
 have n1:n<=1000000000000000:=by omega
 clear c1 c2 c3 c4;have hq0:0<=n / d:=Int.ediv_nonneg n0 ze;have hq1:n / d<=n:=Int.ediv_le_self _ n0;have hr0:0<=n % d:=Int.emod_nonneg _ ze;have hr1:n % d<d:=Int.emod_lt_of_pos _ ze;have et:n.tdiv d=n / d:=Int.tdiv_eq_ediv_of_nonneg n0;have em:n.tmod d=n % d:=Int.tmod_eq_emod_of_nonneg n0;have dz:(d==0)=false:=by simp;omega
 have HT:=zh ht;have hi:Lib.itoa (n / d)=Lib.decDigits (n / d).toNat:=by unfold Lib.itoa;rw [if_neg ze]
 have HI:Hid (∀w,Tab w->Calls prog 211 #[.int .i64 (n / d)] w fun e w'=>e= .returned (.string ⟨(Lib.decDigits (n / d).toNat).toArray⟩)/\w.Grows w'):=zh (fun w h=>by
  have:=Li (n / d) ze ze w h
  rwa [hi]at this)
 have HS0:Hid (rT n d 0 [] (n % d) ⟨(Lib.decDigits (n / d).toNat).toArray⟩):=zh ⟨by show _=(gG d 4 (n % d)).map _;simp,rfl,by simp [mo]⟩
 have HZ0:Hid ((⟨(Lib.decDigits (n / d).toNat).toArray⟩:ByteArray).size<=20):=zh (by
  show(Lib.decDigits (n / d).toNat).toArray.size<=20;rw [size_toArray,Lib.decDigits_length]
  exact Lib.nDigits_le20 _ ze)
 clear hi ht;generalize(⟨(Lib.decDigits (n / d).toNat).toArray⟩:ByteArray)=s0 at *
 go_enter func205,ntmps205
 go_wp2_with (go_at_call 211;(with_reducible refine(HI.out _ (HT.out.alloc _)).mono ?_);rintro e w' ⟨rfl,bs,dr,rfl⟩)
 go_loopw [6,7,8] (fun v6 v7 v8 wr=>∃k:Nat,∃l:List Int,∃r:Int,∃s:ByteArray,k<=4/\v8= .int .i64 k/\v7= .int .i64 r/\v6= .string s/\0<=r/\r<d/\(s.size:Int)<=30+10*k/\Hid (rT n d k l r s)/\
  World.Grows (w.alloc (.cells #[.int .i64 n,.int .i64 d] 23)) wr) (fun _ _ v8 _=>5-(intOf v8).toNat)
 case atStart=>exact⟨0,[],_,_,by omega,rfl,rfl,rfl,hr0,hr1,by have:=HZ0.out;omega,HS0,.of_below af⟩
 case round=>
  obtain⟨k,l,r,s,hk,rfl,rfl,rfl,r0,r1,hsz,HF,bs3,dr3,rfl⟩:=hrel;clear HI;by_cases hp:0<r
  ·have x0:0<=r*10 / d:=Int.ediv_nonneg ze ze
   have x1:r*10 / d<=9:=by
    have:r*10 / d<10:=Int.ediv_lt_of_lt_mul ze ze;omega
   have x2:0<=r*10 % d:=Int.emod_nonneg _ ze;have x3:r*10 % d<d:=Int.emod_lt_of_pos _ ze;have x4:(r*10).tdiv d=r*10 / d:=Int.tdiv_eq_ediv_of_nonneg ze;have x5:(r*10).tmod d=r*10 % d:=Int.tmod_eq_emod_of_nonneg ze;have HX:Hid _:=zh (fun w=>Eg (r*10 / d) x0 x1 w);have HXB:=zh (And.intro x0 x1);obtain⟨s9,hs9⟩:∃s9,(⟨(Lib.decDigits (r*10 / d).toNat).toArray⟩:ByteArray)=s9:=⟨_,rfl⟩;have hz9:s9.size=1:=by rw [<-hs9,D5 x0 x1];rfl
   rw [hs9]at HX;have HS9:=zh hs9;clear hs9;by_cases k0:k=0
   ·subst k0;have hl:l= []:=eq_nil_of_length_eq_zero HF.out.2.1;subst hl
    go_wp2_with (go_at_call 211;(with_reducible refine(HX.out _).mono ?_);rintro e w' ⟨rfl,rfl⟩)
    go_roundw
    case rel=>exact⟨1,_,_,_,by omega,rfl,rfl,rfl,x2,x3,by
     rw [ByteArray.size_append,ByteArray.size_append,hz9];show((s.size+1+1:Nat):Int)<=_
     simp at hsz ⊢;omega,zh (by rw [<-HS9.out];exact HF.out.first hp HXB.out.1 HXB.out.2),.of_below af⟩
    case measure=>simp [intOf]
   ·by_cases k4:k=4
    ·subst k4;have HN:=zh (Hl (m:=m) d0 d1 n0 n1 (HF.out.none4 hp))
     go_wp2_with fail
     go_returns
     exact jP.no HN.out (.of_below af)
    ·have kz:((k:Int)==0)=false:=by simp;omega
     have k44:((k:Int)==4)=false:=by simp;omega
     go_wp2_with (go_at_call 211;(with_reducible refine(HX.out _).mono ?_);rintro e w' ⟨rfl,rfl⟩)
     go_roundw
     case rel=>exact⟨k+1,_,_,_,by omega,by go_num,rfl,rfl,x2,x3,by
      rw [ByteArray.size_append,hz9];omega,zh (by rw [<-HS9.out];exact HF.out.more ze ze hp HXB.out.1 HXB.out.2),.of_below af⟩
     case measure=>simp [intOf];omega
  ·clear HS0 HZ0;have hsz2:(s.size:Int)<=70:=by omega
   by_cases m3:m=3
   ·subst m3;have HDEC:=zh (xV (m:=3) (s:=s++⟨#[100]⟩) d0 d1 n0 n1 (HF.out.some ze) (by rw [mD,HF.out.2.2];try rfl));have HD:Hid _:=zh (fun w=>lD (s++⟨#[100]⟩) w (by rw [ByteArray.size_append];unfold maxLen;show s.size+1<=_;omega));clear HF;rcases HDEC.out with ⟨hn,hno⟩|⟨a,b,c,hs,⟨rfl,rfl,rfl,hy,ht⟩|⟨h1,hno⟩|⟨h1,hno⟩|⟨h1,hno⟩⟩
    ·exact Ps
    ·exact PD
    ·exact Pz
    ·exact Py
    ·rw [hs]at HD;simp only [mr]at HD;have HO:=zh hno;have q1:(c==3)=false:=by simpa using h1
     exact Nt
   ·by_cases m4:m=4
    ·subst m4;have HDEC:=zh (xV (m:=4) (s:=s++⟨#[109]⟩) d0 d1 n0 n1 (HF.out.some ze) (by rw [mD,HF.out.2.2];try rfl));have HD:Hid _:=zh (fun w=>lD (s++⟨#[109]⟩) w (by rw [ByteArray.size_append];unfold maxLen;show s.size+1<=_;omega));clear HF;rcases HDEC.out with ⟨hn,hno⟩|⟨a,b,c,hs,⟨rfl,rfl,rfl,hy,ht⟩|⟨h1,hno⟩|⟨h1,hno⟩|⟨h1,hno⟩⟩
     ·exact Ps
     ·exact PD
     ·exact Pz
     ·exact Py
     ·rw [hs]at HD;simp only [mr]at HD;have HO:=zh hno;have q1:(c==4)=false:=by simpa using h1
      exact Nt
    ·have y3:(m==3)=false:=by simpa using m3
     have y4:(m==4)=false:=by simpa using m4
     have hsuf:xw m= []:=by unfold xw;rw [if_neg m3,if_neg m4]
     have hap:s.data.toList=s.data.toList++xw m:=by rw [hsuf,append_nil]
     have HAP:=zh hap;clear m3 m4 hsuf hap;have HDEC:=zh (xV (m:=m) (s:=s) d0 d1 n0 n1 (HF.out.some ze) (by rw [HAP.out,HF.out.2.2];try rfl));have HD:Hid _:=zh (fun w=>lD (s) w zE);clear HF;rcases HDEC.out with ⟨hn,hno⟩|⟨a,b,c,hs,⟨rfl,rfl,rfl,hy,ht⟩|⟨h1,hno⟩|⟨h1,hno⟩|⟨h1,hno⟩⟩
     ·exact Ps
     ·exact PD
     ·exact Pz
     ·exact Py
     ·rw [hs]at HD;simp only [mr]at HD;have HO:=zh hno;have q1:(c==m)=false:=by simpa using h1
      exact Nt
def gX(e:Ex):Bool:=decide ((e.args.length:Int)=aX e.op)&&
 (if e.op=1 then dI e.num e.den e.dim&&e.name.toList.isEmpty
  else if e.op=2 then decide (e.num=0)&&decide (e.den=0)&&decide (e.dim=0)&&eY e.name
  else if e.op=3 then decide (e.dim=0)&&e.name.toList.isEmpty&&decide (e.den=1)&&decide (1<=e.num)&&decide (e.num<=45)
  else decide (e.num=0)&&decide (e.den=0)&&decide (e.dim=0)&&e.name.toList.isEmpty)
theorem Bq(e:Ex):aL e=(gX e&&aV e.args):=by
 rw [eT];unfold gX;by_cases hl:(e.args.length:Int)=aX e.op
 ·rw [decide_eq_true hl,Bool.true_and,Bool.true_and]
  have nil (h:e.op=1\/e.op=2\/e.op=3):aV e.args=true:=by
   have:e.args= []:=by
    have h0:aX e.op=0:=by unfold aX;rw [if_pos ze]
    exact eq_nil_of_length_eq_zero ze
   rw [this];rfl
  by_cases o1:e.op=1
  ·rw [if_pos o1,if_pos o1,nil (.inl o1),Bool.and_true]
  ·rw [if_neg o1,if_neg o1];by_cases o2:e.op=2
   ·rw [if_pos o2,if_pos o2,nil (.inr (.inl o2)),Bool.and_true]
   ·rw [if_neg o2,if_neg o2];by_cases o3:e.op=3
    ·rw [if_pos o3,if_pos o3,nil (.inr (.inr o3)),Bool.and_true]
    ·rw [if_neg o3,if_neg o3,Bool.and_comm]
 ·rw [decide_eq_false hl];rfl
theorem Bo(l:List Ex):aV l=!(List.range l.length).any fun k=>!aL (l.getD k default):=by
 induction l with
 |nil=>rfl
 |cons e r ih=>
  rw [aV,ih,length_cons,range_succ_eq_map,any_cons,any_map];simp only [getD_cons_zero,Bool.not_or,Bool.not_not]
  congr 1
theorem FU(e:Ex)(a:Option Addr)(cap:Nat)(w:World)(hr:kP e)(hne:¬(e.args.length:Int)=aX e.op):(Calls prog 179 #[exV e (.slice a e.args.length cap)] w fun r w'=>r= .returned (.bool (gX e))/\w.Grows w'):=by
 have HF:Hid (gX e=false):=zh (by unfold gX;rw [decide_eq_false hne,Bool.false_and]);obtain⟨on,od⟩:=hr.num;obtain⟨pn,pd⟩:=hr.den;have hsz:=hr.name;have hi:=zh (And.intro hr.num (And.intro hr.den hr.dim));clear hr;have h1:((e.args.length:Int)!=aX e.op)=true:=by simpa using hne
 clear hne
 go_enter func179,ntmps179
 go_wp2_with fail
 go_quiet ((go_at_call 204;exact Calls.quiet_eq (jJ _ _)))
 exact PH
theorem FT(e:Ex)(a:Option Addr)(cap:Nat)(w:World)(hr:kP e)(ht:Tab w)(hle:(e.args.length:Int)=aX e.op)(ho:e.op=1):(Calls prog 179 #[exV e (.slice a e.args.length cap)] w fun r w'=>r= .returned (.bool (gX e))/\w.Grows w'):=by
 have HF:Hid (gX e=(dI e.num e.den e.dim&&e.name.toList.isEmpty)):=zh (by unfold gX;rw [decide_eq_true hle,Bool.true_and,if_pos ho]);obtain⟨on,od⟩:=hr.num;obtain⟨pn,pd⟩:=hr.den;have hsz:=hr.name;have hi:=zh (And.intro hr.num (And.intro hr.den hr.dim));clear hr;have HT:=zh ht;clear ht;have h1:((e.args.length:Int)!=aX 1)=false:=by rw [ho]at hle;simpa using hle
 clear hle;cases hd:dI e.num e.den e.dim
 all_goals
  have HD:Hid _:=zh (fun w (ht:Tab w)=>oz e.num e.den e.dim w hi.out.1 hi.out.2.1 hi.out.2.2 ht);unfold jP at HD;rw [hd]at HD HF;clear hd
  go_enter func179,ntmps179
  go_wp2_with fail
  go_quiet ((go_at_call 204;exact Calls.quiet_eq (jJ _ _)))
  go_wp2_with (go_at_call 205;refine(HD.out _ ((HT.out.alloc _).drewN _)).mono ?_;rintro e' w' ⟨s,rfl,-,bs,d,rfl⟩)
  all_goals
   go_returns
   exact⟨au (by rw [HF.out];simp [*]),.of_below af⟩
theorem CW(e:Ex)(a:Option Addr)(cap:Nat)(w:World)(hr:kP e)(hle:(e.args.length:Int)=aX e.op)(ho:e.op=2):(Calls prog 179 #[exV e (.slice a e.args.length cap)] w fun r w'=>r= .returned (.bool (gX e))/\w.Grows w'):=by
 have HF:Hid (gX e=(decide (e.num=0)&&decide (e.den=0)&&decide (e.dim=0)&&eY e.name)):=zh (by unfold gX;rw [decide_eq_true hle,Bool.true_and,if_neg ze,if_pos ho]);obtain⟨on,od⟩:=hr.num;obtain⟨pn,pd⟩:=hr.den;have hsz:=hr.name;have hi:=zh (And.intro hr.num (And.intro hr.den hr.dim));clear hr;have h1:((e.args.length:Int)!=aX 2)=false:=by rw [ho]at hle;simpa using hle
 clear hle;have HM:=zh (show e.name.size<=maxLen by unfold maxLen;omega)
 go_enter func179,ntmps179
 go_wp2_with fail
 go_quiet ((go_at_call 204;exact Calls.quiet_eq (jJ _ _)))
 go_wp2_with (go_at_call 206;refine(AL _ _ HM.out).mono ?_;rintro e' w' ⟨rfl,rfl⟩)
 all_goals
  go_returns
  exact⟨au (by rw [HF.out];first|(simp [*];done)|(simp [*];rfl)),.of_below af⟩
theorem CX(e:Ex)(a:Option Addr)(cap:Nat)(w:World)(hr:kP e)(hle:(e.args.length:Int)=aX e.op)(ho:e.op=3):(Calls prog 179 #[exV e (.slice a e.args.length cap)] w fun r w'=>r= .returned (.bool (gX e))/\w.Grows w'):=by
 have HF:Hid (gX e=(decide (e.dim=0)&&e.name.toList.isEmpty&&decide (e.den=1)&&decide (1<=e.num)&&decide (e.num<=45))):=zh (by unfold gX;rw [decide_eq_true hle,Bool.true_and,if_neg ze,if_neg ze,if_pos ho]);obtain⟨on,od⟩:=hr.num;obtain⟨pn,pd⟩:=hr.den;have hsz:=hr.name;have hi:=zh (And.intro hr.num (And.intro hr.den hr.dim));clear hr;have h1:((e.args.length:Int)!=aX 3)=false:=by rw [ho]at hle;simpa using hle
 clear hle
 go_enter func179,ntmps179
 go_wp2_with fail
 go_quiet ((go_at_call 204;exact Calls.quiet_eq (jJ _ _)))
 go_wp2_with fail
 all_goals
  go_returns
  exact⟨au (by rw [HF.out];first|(simp [*];done)|(simp [*];rfl)|(simp [*];intros;omega)),.of_below af⟩
theorem JC(e:Ex)(a:Option Addr)(cap:Nat)(w:World)(hr:kP e)(hle:(e.args.length:Int)=aX e.op)(o1:¬e.op=1)(o2:¬e.op=2)(o3:¬e.op=3):(Calls prog 179 #[exV e (.slice a e.args.length cap)] w fun r w'=>r= .returned (.bool (gX e))/\w.Grows w'):=by
 have HF:Hid (gX e=(decide (e.num=0)&&decide (e.den=0)&&decide (e.dim=0)&&e.name.toList.isEmpty)):=zh (by unfold gX;rw [decide_eq_true hle,Bool.true_and,if_neg o1,if_neg o2,if_neg o3]);obtain⟨on,od⟩:=hr.num;obtain⟨pn,pd⟩:=hr.den;have hsz:=hr.name;have hi:=zh (And.intro hr.num (And.intro hr.den hr.dim));clear hr;have h1:((e.args.length:Int)!=aX e.op)=false:=by simpa using hle
 have p1:(e.op==1)=false:=by simpa using o1
 have p2:(e.op==2)=false:=by simpa using o2
 have p3:(e.op==3)=false:=by simpa using o3
 clear hle o1 o2 o3
 go_enter func179,ntmps179
 go_wp2_with fail
 go_quiet ((go_at_call 204;exact Calls.quiet_eq (jJ _ _)))
 go_wp2_with fail
 all_goals
  go_returns
  exact⟨au (by rw [HF.out];simp [*]),.of_below af⟩
theorem FV(e:Ex)(a:Option Addr)(cap:Nat)(w:World)(hr:kP e)(ht:Tab w):(Calls prog 179 #[exV e (.slice a e.args.length cap)] w fun r w'=>r= .returned (.bool (gX e))/\w.Grows w'):=by
 by_cases hle:(e.args.length:Int)=aX e.op
 ·by_cases o1:e.op=1
  ·exact FT e a cap w hr ht hle o1
  ·by_cases o2:e.op=2
   ·exact CW e a cap w hr hle o2
   ·by_cases o3:e.op=3
    ·exact CX e a cap w hr hle o3
    ·exact JC e a cap w hr hle o1 o2 o3
 ·exact FU e a cap w hr hle
theorem GD:∀args w,(callFunc 180 args).run prog w= .ok (.enter 180 args) w:=enters_of func180 zf rfl
theorem DJ(S:Nat->Prop)(n:Nat):∀(e:Ex),e.size<=n->∀(v:Value) (w:World),aC S w e v->Tab w->
 Calls prog 136 #[exV e v] w fun r w'=>r= .returned (.bool (aL e))/\w.Grows w':=by
 induction n with
 |zero=>intro e he;have:=e.size_pos;omega
 |succ n ih=>
  intro e he v w h ht;have HR:=zh h;have HT:=zh ht;have HN:Hid (_):=zh (fun a cap w (ht:Tab w)=>FV e a cap w h.rng ht);have hany:=Bo e.args;have hfn:=Bq e;obtain⟨a,cap,rfl⟩:=h.form0
  have HC:Hid (∀w',w.Grows w'->Calls prog 122 #[.slice a e.args.length cap,.func (.func 180) #[] #[]] w' fun r w''=>r= .returned (.bool (!aV e.args))/\w'.Grows w''):=zh (fun w' hg=>by
   have:=nE S 180 #[] GD e (.slice a e.args.length cap) (fun k=>!aL (e.arg k)) w' (HR.out.grows hg) (zh (fun k hk ak ck w1 hg1 hR1=>by
    have hsm:=e.size_arg k hk;have IH:=zh (fun w2 h1 h2=>ih (e.arg k) ze (.slice ak (e.arg k).args.length ck) w2 h1 h2);have hT1:=zh ((HT.out.grows hg).grows hg1);have HR1:=zh hR1;dsimp only;generalize aL (e.arg k)=q at *;clear hany hfn HN HR HT hR1 ih hg hg1;generalize e.arg k=x at *;show Calls prog 180 #[exV x (.slice ak x.args.length ck)] w1 _
    go_enter func180,ntmps180
    go_wp2_with (go_at_call 136;refine(IH.out _ (HR1.out.alloc _) (hT1.out.alloc _)).mono ?_;rintro e' w' ⟨rfl,bs,d,rfl⟩)
    go_returns
    exact⟨au rfl,.of_below af⟩))
   rw [show(List.range e.args.length).any (fun k=>!aL (e.arg k))=!aV e.args by rw [hany,Bool.not_not];rfl]at this
   exact this)
  clear hany ih h ht;generalize aV e.args=q at *;generalize gX e=p at *;have HF:=zh hfn;clear hfn;cases p
  ·go_enter func136,ntmps136
   go_wp2_with (go_at_call 179;refine(HN.out _ _ _ (HT.out.alloc _)).mono ?_;rintro e' w' ⟨rfl,bs,d,rfl⟩)
   go_returns
   exact⟨au (by rw [HF.out];rfl),.of_below af⟩
  ·go_enter func136,ntmps136
   go_wp2_with (first|(go_at_call 179;refine(HN.out _ _ _ (HT.out.alloc _)).mono ?_;rintro e' w' ⟨rfl,bs,d,rfl⟩)|(go_at_call 122;refine(HC.out _ (.of_below af)).mono ?_;rintro e' w' ⟨rfl,bs2,d2,rfl⟩))
   go_returns
   exact⟨au (by rw [HF.out];simp),.of_below af⟩
theorem qB(S:Nat->Prop)(e:Ex)(v:Value)(w:World)(h:aC S w e v)(ht:Tab w):Calls prog 136 #[exV e v] w fun r w'=>r= .returned (.bool (aL e))/\w.Grows w':=DJ S e.size e (Nat.le_refl _) v w h ht
theorem mF(S:Nat->Prop)(e:Ex)(v:Value)(w:World)(h:Hid (aC S w e v))(hbig:Hid (e.size<=2305843009213693952))(ht:Hid (Tab w)):Calls prog 108 #[exV e v] w fun r w'=>r= .returned (.bool (cK e))/\w.Grows w':=by
 obtain⟨a,cap,hv⟩:=h.out.form0;subst hv;by_cases c1:(e.depth:Int)<=10
 ·by_cases c2:(e.size:Int)<=60
  ·go_enter func108,ntmps108
   go_wp2_with ((first|(go_at_call 134;refine(mI S e.size e (Nat.le_refl _) _ _ (h.out.alloc _) hbig).mono ?_;rintro r w' ⟨rfl,bs,d,rfl⟩)|(go_at_call 135;refine(nZ S e.size e (Nat.le_refl _) _ _ ((h.out.alloc _).grow _ _) hbig).mono ?_;rintro r w' ⟨rfl,bs2,d2,rfl⟩)|(go_at_call 136;refine(qB S e _ _ ((h.out.alloc _).grow _ _) ((ht.out.alloc _).grow _ _)).mono ?_;rintro r w' ⟨rfl,bs3,d3,rfl⟩)))
   exact Qt
  ·go_enter func108,ntmps108
   go_wp2_with ((first|(go_at_call 134;refine(mI S e.size e (Nat.le_refl _) _ _ (h.out.alloc _) hbig).mono ?_;rintro r w' ⟨rfl,bs,d,rfl⟩)|(go_at_call 135;refine(nZ S e.size e (Nat.le_refl _) _ _ ((h.out.alloc _).grow _ _) hbig).mono ?_;rintro r w' ⟨rfl,bs2,d2,rfl⟩)|(go_at_call 136;refine(qB S e _ _ ((h.out.alloc _).grow _ _) ((ht.out.alloc _).grow _ _)).mono ?_;rintro r w' ⟨rfl,bs3,d3,rfl⟩)))
   exact Qp
 ·go_enter func108,ntmps108
  go_wp2_with ((first|(go_at_call 134;refine(mI S e.size e (Nat.le_refl _) _ _ (h.out.alloc _) hbig).mono ?_;rintro r w' ⟨rfl,bs,d,rfl⟩)|(go_at_call 135;refine(nZ S e.size e (Nat.le_refl _) _ _ ((h.out.alloc _).grow _ _) hbig).mono ?_;rintro r w' ⟨rfl,bs2,d2,rfl⟩)|(go_at_call 136;refine(qB S e _ _ ((h.out.alloc _).grow _ _) ((ht.out.alloc _).grow _ _)).mono ?_;rintro r w' ⟨rfl,bs3,d3,rfl⟩)))
  exact Qs
end Go.Proofs.YtlheailebbngiaaGreatDoor
