import Derived.Test.YteildlpchhlchaaGreatDoorRAbs
import Derived.Test.YteildlpchhlchaaGreatDoorRExpr
set_option linter.all false
set_option maxHeartbeats 16000000
set_option maxRecDepth 1000000
namespace Go.Proofs.YteildlpchhlchaaGreatDoor
open Tryz List
open Go.RowKit
theorem dM(op:Int)(w:World):Calls prog 71 #[.int .i64 op] w fun e w'=>e= .returned (.int .i64 (opF op))/\w=w':=by
 by_cases h6:op=6
 ·subst h6;exact DV
 have b6:(op==6)=false:=by simpa using h6
 by_cases h7:op=7
 ·subst h7;exact DV
 have b7:(op==7)=false:=by simpa using h7
 by_cases h8:op=8
 ·subst h8;exact DV
 have b8:(op==8)=false:=by simpa using h8
 by_cases h9:9<=op/\op<=18
 ·have e:opF op=op-2:=by unfold opF;rw [if_neg h6,if_neg h7,if_neg h8,if_pos h9]
  rw [e];obtain⟨ha,hb⟩:=h9;clear e h6 h7 h8
  go_enter func71,ntmps71
  go_wp2_with fail
  go_returns
  exact⟨by
   rw [show op-2=op-9+7 by omega]
   first|rfl|simp,rfl⟩
 by_cases h19:op=19
 ·subst h19;exact DV
 have b19:(op==19)=false:=by simpa using h19
 by_cases h20:op=20
 ·subst h20;exact DV
 have b20:(op==20)=false:=by simpa using h20
 have e:opF op=0:=by unfold opF;rw [if_neg h6,if_neg h7,if_neg h8,if_neg h9,if_neg h19,if_neg h20]
 rw [e];have hr:op<9\/18<op:=by omega
 clear e h6 h7 h8 h9 h19 h20;rcases hr with hr|hr
 ·exact DV
 ·exact DV
theorem kR(op:Int)(w:World):Calls prog 72 #[.int .i64 op] w fun e w'=>e= .returned (.int .i64 (aB op))/\w=w':=by
 unfold aB;by_cases h4:op=4
 ·subst h4;exact M7
 have b4:(op==4)=false:=by simpa using h4
 by_cases h5:op=5
 ·subst h5;exact M7
 have b5:(op==5)=false:=by simpa using h5
 by_cases h6:op=6
 ·subst h6;exact M7
 have b6:(op==6)=false:=by simpa using h6
 rw [if_neg zb];clear h4 h5 h6;exact M7
theorem jJ(w:World):Calls prog 69 #[] w fun e w'=>e= .returned (.agg oM)/\w.Grows w':=by
 go_enter func69,ntmps69
 go_wp2_with fail
 go_returns
 exact⟨rfl,af⟩
def ig(w:World)(v:Value)(l:List Ins):Prop:=
 l.length<=1000000/\∃a cap,v= .slice a l.length cap/\(l.length=0\/∃b off,a=some ⟨b,off,none⟩/\b<w.heap.size/\∀i,i<l.length->(I64 (l.getD i default).n/\I64 (l.getD i default).d)/\w.cell? ⟨b,off+i*4,none⟩=some (.int .i64 (l.getD i default).op)/\
  w.cell? ⟨b,off+i*4+1,none⟩=some (.int .i64 (l.getD i default).a)/\w.cell? ⟨b,off+i*4+2,none⟩=some (.int .i64 (l.getD i default).n)/\w.cell? ⟨b,off+i*4+3,none⟩=some (.int .i64 (l.getD i default).d))
def kJ(w:World)(v:Value)(sl:List ByteArray):Prop:=
 sl.length<=1000000/\(∀s∈sl,s.size<=maxLen)/\∃a cap,sl.length<=cap/\v= .slice a sl.length cap/\(sl.length=0\/∃b off,a=some ⟨b,off,none⟩/\b<w.heap.size/\∀i,i<sl.length->w.cell? ⟨b,off+i,none⟩=some (.string (sl.getD i ByteArray.empty)))
theorem ig.grows{w w':World}{v:Value}{l:List Ins}(h:ig w v l)(hg:w.Grows w'):ig w' v l:=by
 obtain⟨h0,a,cap,hv,h1⟩:=h;refine⟨h0,a,cap,hv,h1.imp id ?_⟩;rintro⟨b,off,ha,hb,hc⟩;have hs:=hg.below.size;have e:∀o,w'.cell? ⟨b,o,none⟩=w.cell? ⟨b,o,none⟩:=fun o=>World.cell?_of_block (hg.below.block b hb);refine⟨b,off,ha,by omega,fun i hi=>?_⟩;obtain⟨k0,k1,k2,k3,k4⟩:=hc i hi;exact⟨k0,(e _).trans k1,(e _).trans k2,(e _).trans k3,(e _).trans k4⟩
theorem kJ.grows{w w':World}{v:Value}{sl:List ByteArray}(h:kJ w v sl)(hg:w.Grows w'):kJ w' v sl:=by
 obtain⟨h0,h00,a,cap,hcp,hv,h1⟩:=h;refine⟨h0,h00,a,cap,hcp,hv,h1.imp id ?_⟩;rintro⟨b,off,ha,hb,hc⟩;have hs:=hg.below.size;exact⟨b,off,ha,by omega,fun i hi=>(World.cell?_of_block (hg.below.block b hb)).trans (hc i hi)⟩
def uT(l:List Int):Prop:=l.Pairwise fun a b=>b<=a
theorem wy(x:Int)(l:List Int):(oK x l).Perm (x::l):=by
 induction l with
 |nil=>exact List.Perm.refl _
 |cons y r ih=>
  unfold oK
  split
  ·exact(ih.cons y).trans (List.Perm.swap x y r)
  ·exact List.Perm.refl _
theorem IA{x:Int}{l:List Int}(h:uT l):uT (oK x l):=by
 induction l with
 |nil=>simp [oK,uT]
 |cons y r ih=>
  obtain⟨h1,h2⟩:=pairwise_cons.1 h;unfold oK
  split<;>rename_i hc
  ·refine pairwise_cons.2 ⟨fun z hz=>?_,ih h2⟩;rcases mem_cons.1 ((wy x r).mem_iff.1 hz)with rfl|hz
   ·exact hc
   ·exact h1 z hz
  ·refine pairwise_cons.2 ⟨fun z hz=>?_,h⟩;rcases mem_cons.1 hz with rfl|hz
   ·omega
   ·have:=h1 z hz;omega
theorem PH(l:List Int):∀a:List Int,uT a->uT (l.foldl (fun a x=>oK x a) a)/\(l.foldl (fun a x=>oK x a) a).Perm (a++l):=by
 induction l with
 |nil=>intro a h;exact⟨h,by simp⟩
 |cons x r ih=>
  intro a h;obtain⟨h1,h2⟩:=ih _ (IA (x:=x) h);refine⟨h1,h2.trans ?_⟩;exact((wy x a).append_right r).trans perm_middle.symm
theorem rT(l:List Int):uT (ko l):=(PH l [] List.Pairwise.nil).1
theorem kM(l:List Int):(ko l).Perm l:=(PH l [] List.Pairwise.nil).2
theorem I9{a b:List Int}(ha:uT a)(hb:uT b)(h:a.Perm b):a=b:=
 List.Perm.eq_of_pairwise (le:=fun x y:Int=>y<=x) (fun x y _ _ h1 h2=>by omega) ha hb h
theorem Fu(a b:List Int):(a++b).sum=a.sum+b.sum:=by
 induction a with
 |nil=>simp
 |cons x r ih=>simp only [cons_append,sum_cons,ih];omega
theorem M3(a:List Int):a.reverse.sum=a.sum:=by
 induction a with
 |nil=>rfl
 |cons x r ih=>simp only [reverse_cons,Fu,ih,sum_cons,sum_nil];omega
theorem Jh{ss l:List Int}(hp:ss.Perm l)(hs:ss.Pairwise (·<=·))(n:Nat):(ss.drop (ss.length-n)).sum=((ko l).take n).sum:=by
 have e:ss.reverse=ko l:=I9 (pairwise_reverse.2 hs) (rT l) ((reverse_perm ss).trans (hp.trans (kM l).symm));rw [<-e,take_reverse,M3]
theorem KV{n d:Int}(h1:0<=n)(h2:1<=d)(he:mkE n d=0):mkN n d*d=n*mkD n d:=by
 have hg:0<Nat.gcd n.natAbs d.natAbs:=Nat.gcd_pos_of_pos_right _ zb;unfold mkE at he;unfold mkN mkD;rw [if_neg zb]at he ⊢;rw [if_neg zb];unfold ky at he;unfold jN lQ
 split at he<;>rename_i hc
 ·simp at he
 rw [if_neg hc,if_neg hc,decide_eq_false zb,decide_eq_false zb];simp only [bne_self_eq_false,Bool.false_eq_true,if_false];obtain⟨a,rfl⟩:=Int.eq_ofNat_of_zero_le h1;obtain⟨b,rfl⟩:=Int.eq_ofNat_of_zero_le (show 0<=d by omega);simp only [Int.natAbs_natCast]at hg ⊢;rw [<-Int.natCast_mul,<-Int.natCast_mul]
 congr 1
 obtain⟨p,hp⟩:=Nat.gcd_dvd_left a b;obtain⟨q,hq⟩:=Nat.gcd_dvd_right a b;generalize Nat.gcd a b=g at *;subst hp hq;rw [Nat.mul_div_cancel_left _ hg,Nat.mul_div_cancel_left _ hg,Nat.mul_left_comm,Nat.mul_comm g p,Nat.mul_assoc,Nat.mul_comm p];rw [Nat.mul_comm q p,Nat.mul_left_comm]
theorem BQ{n d:Int}(h:d≠0)(he:mkE n d=0):az (mkN n d) (mkD n d)=true:=by
 rcases PE h (n:=n)with ⟨_,h2⟩|⟨_,_,h3⟩
 ·exact h2
 ·simp only [he]at h3;omega
theorem wm{x:Int}:∀(l:List Int) (at_:Nat),uT l->at_<=l.length->(at_=0\/x<=l.getD (at_-1) 0)->(∀j,at_<=j->j<l.length->l.getD j 0<x)->oK x l=l.take at_++x::l.drop at_
 | [],at_,_,h,_,_=>by simp [oK]
 |y::r,0,_,_,_,h=>by
  have:=h 0 zb ze;unfold oK;simp at this;rw [if_neg zb];simp
 |y::r,a+1,hd,hl,h1,h2=>by
  obtain⟨g1,g2⟩:=pairwise_cons.1 hd
  have hle:x<=y:=by
   rcases h1 with h1|h1
   ·omega
   ·rcases Nat.eq_zero_or_pos a with rfl|ha
    ·simpa using h1
    ·have hm:(y::r).getD a 0∈r:=by
      obtain⟨b,rfl⟩:∃b,a=b+1:=⟨a-1,by omega⟩;rw [length_cons]at hl;rw [getD_cons_succ,getD_eq_getElem?_getD,getElem?_eq_getElem (show b<r.length by omega)];exact getElem_mem _
     have:=g1 _ hm;simp only [Nat.add_sub_cancel]at h1;omega
  unfold oK;rw [if_pos hle,take_succ_cons,drop_succ_cons,cons_append]
  congr 1
  refine wm r a g2 (by simpa using hl) ?_ (fun j hj hjl=>?_)
  ·rcases Nat.eq_zero_or_pos a with rfl|ha
   ·exact .inl rfl
   ·right;rcases h1 with h1|h1
    ·omega
    ·obtain⟨b,rfl⟩:∃b,a=b+1:=⟨a-1,by omega⟩;simpa using h1
  ·have:=h2 (j+1) zb (by simpa using hjl);simpa using this
abbrev iM(l:List Int)(k:Nat):List Int:=ko (l.take k)
theorem DL(l:List Int)(k:Nat)(hk:k<l.length):iM l (k+1)=oK (l.getD k 0) (iM l k):=by
 unfold iM ko;rw [take_succ_eq_append_getElem hk,foldl_append,getD_eq_getElem?_getD,getElem?_eq_getElem hk];rfl
theorem vB(l:List Int)(k:Nat)(hk:k<=l.length):(iM l k).length=k:=by
 have:=(kM (l.take k)).length_eq;rw [this,length_take];omega
theorem DN(l:List Int)(k:Nat):uT (iM l k):=rT _
theorem mE(l:List Int):iM l l.length=ko l:=by unfold iM;rw [take_length]
theorem Bg(l:List Int)(k at_:Nat)(hk:k<l.length)(ha:at_<=k)(h1:at_=0\/l.getD k 0<=(iM l k).getD (at_-1) 0)(h2:∀j,at_<=j->j<k->(iM l k).getD j 0<l.getD k 0) :
 iM l (k+1)=(iM l k).take at_++l.getD k 0::(iM l k).drop at_:=by
 have hn:=vB l k zb;rw [DL l k hk];exact wm _ _ (DN l k) zb h1 (fun j hj hjl=>h2 j hj zb)
abbrev kL(l:List Int)(j:Nat):Int:=(l.take j).sum
theorem vk(l:List Int)(j:Nat)(hj:j<l.length):kL l (j+1)=kL l j+l.getD j 0:=by
 unfold kL;rw [take_succ_eq_append_getElem hj,Fu,getD_eq_getElem?_getD,getElem?_eq_getElem hj];simp
theorem jY{l:List Int}(h:bi l=true):l.length<=200/\∀x∈l,0<=x/\x<=1000000000000:=by
 unfold bi at h;simp only [Bool.and_eq_true,decide_eq_true_eq,all_eq_true]at h;exact h
theorem JX{l:List Int}(h:∀x∈l,0<=x/\x<=1000000000000):0<=l.sum/\l.sum<=1000000000000*l.length:=by
 induction l with
 |nil=>simp
 |cons x r ih=>
  have h1:=h x ze;have h2:=ih (fun y hy=>h y (by simp [hy]));rw [sum_cons,length_cons]
  push_cast
  omega
theorem Fv{l s:List Int}(h:bi l=true)(hp:s.Perm l)(j:Nat):0<=kL s j/\kL s j<=200000000000000:=by
 have hm:=jY h;have:=JX (l:=s.take j) (fun x hx=>hm.2 x (hp.mem_iff.1 (mem_of_mem_take hx)))
 have hl:(s.take j).length<=200:=by
  have:=hp.length_eq;rw [length_take];omega
 unfold kL;omega
theorem F3{l s:List Int}(h:bi l=true)(hp:s.Perm l)(j:Nat):0<=s.getD j 0/\s.getD j 0<=1000000000000:=by
 rw [getD_eq_getElem?_getD]
 cases hx:s[j]? with
 |none=>simp
 |some y=>exact(jY h).2 y (hp.mem_iff.1 (List.mem_of_getElem? hx))
theorem vQ{n d:Int}(h1:0<=n)(h2:n<=1000000000000000)(h3:1<=d)(h4:d<=1000000000):mkE n d=0:=by
 unfold mkE ky;rw [if_neg zb,if_neg];have a:=Nat.div_le_self n.natAbs (Nat.gcd n.natAbs d.natAbs);have b:=Nat.div_le_self d.natAbs (Nat.gcd n.natAbs d.natAbs);omega
def gm(env:List (ByteArray × Int)):Bool:=env.all fun p=>decide (1<=p.2/\p.2<=4)
def eY(env:List (ByteArray × Int))(e:Ex):Int × Int:=if eF e=true/\gm env=true then aX env e else(0,1)
mutual
def iV:Ex->Bool
 | .mk o _ _ _ _ l=>!(o==1)&&q8 l
def q8:List Ex->Bool
 | []=>true
 |e::r=>iV e&&q8 r
end
theorem sD:∀{l:List Ex},q8 l=true->∀k,k<l.length->iV (l.getD k default)=true
 | [],_,_,hk=>absurd hk (Nat.not_lt_zero _)
 |e::r,h,k,hk=>by
  rw [q8,Bool.and_eq_true]at h
  cases k with
  |zero=>exact h.1
  |succ k=>exact sD h.2 k (by simpa using hk)
theorem Ho{e:Ex}(h:iV e=true)(k:Nat)(hk:k<e.args.length):iV (e.arg k)=true:=by
 obtain⟨o,n,d,m,s,l⟩:=e;rw [iV,Bool.and_eq_true]at h;exact sD h.2 k hk
theorem KP{e:Ex}(h:iV e=true):e.op≠1:=by
 obtain⟨o,n,d,m,s,l⟩:=e;rw [iV,Bool.and_eq_true]at h;intro h1;have h2:o=1:=h1;have h3:=h.1;rw [h2]at h3;exact absurd h3 zf
structure VwR where
 age:Int
 year:Int
 children:Int
 base:Int
 den:Int
 days:List Int
 years:List Int
def VwR.d(R:VwR)(i:Nat):Int:=if i<R.days.length then pick (R.days.getD i 0) 20000 else 0
def mY(R:VwR):Vw:=⟨pick R.age 110,1900+pick R.year 200,pick R.children 8,R.d 0,R.d 1,R.d 2,R.d 3,R.d 4,R.d 5,R.d 6,mkN (pick R.base 1000000) (pick R.den 12+1),mkD (pick R.base 1000000) (pick R.den 12+1),(R.years.take 20).map fun z=>pick z 5000000⟩
theorem VwR.d_bd(R:VwR)(i:Nat):0<=R.d i/\R.d i<20000:=by
 unfold VwR.d
 split
 ·exact ed _ 20000 zb
 ·omega
theorem Ir{a b d n:Int}(h0:0<=a)(hb:0<=b)(hd:1<=d)(h:a*d=n*b)(hn:n<=1000000000000):a<=1000000000000*b:=by
 have h1:a*1<=a*d:=Int.mul_le_mul_of_nonneg_left hd h0;have h2:n*b<=1000000000000*b:=Int.mul_le_mul_of_nonneg_right hn hb;omega
theorem sJ{n d:Int}(h1:0<=n)(h2:1<=d):0<=mkN n d:=by
 unfold mkN jN;rw [if_neg zb,decide_eq_false zb,decide_eq_false zb]
 split
 ·omega
 ·simp only [bne_self_eq_false,Bool.false_eq_true,if_false];exact Int.natCast_nonneg _
theorem JR(R:VwR):(mY R).ok=true:=by
 have a:=ed R.age 110 zb;have b:=ed R.year 200 zb;have c:=ed R.children 8 zb;have n:=ed R.base 1000000 zb;have d:=ed R.den 12 zb;have e:=vQ n.1 zb (show 1<=pick R.den 12+1 by omega) zb;have v:=BQ (show pick R.den 12+1≠0 by omega) e;have m:=KV n.1 (show 1<=pick R.den 12+1 by omega) e;have nn:=sJ n.1 (show 1<=pick R.den 12+1 by omega);have vb:=aF v;have le:=Ir nn zb (show 1<=pick R.den 12+1 by omega) m zb
 have dd:∀i,dR (R.d i)=true:=fun i=>by
  have:=R.d_bd i;unfold dR;exact decide_eq_true zb
 have yy:bi ((R.years.take 20).map fun z=>pick z 5000000)=true:=by
  unfold bi;rw [decide_eq_true (by rw [length_map,length_take];omega),Bool.true_and,all_eq_true];intro x hx;obtain⟨z,-,rfl⟩:=mem_map.1 hx;have:=ed z 5000000 zb;exact decide_eq_true zb
 unfold Vw.ok mY;dsimp only;rw [decide_eq_true ⟨by omega,by omega,by omega,by omega,by omega,by omega⟩,dd,dd,dd,dd,dd,dd,dd,v,decide_eq_true ⟨nn,le⟩,yy];rfl
theorem Gq(R:VwR):(mY R).years.length<=20:=by
 show((R.years.take 20).map fun z=>pick z 5000000).length<=20;rw [length_map,length_take];omega
def Dq(env:List (ByteArray × Int)):Prop:=∀p∈env,bE p.1.toList=0/\ib p.1=true/\1<=p.2/\p.2<=4/\eP env p.1=some p.2
theorem Dq.nil:Dq []:=fun p hp=>by cases hp
theorem N8{n d:Int}(h2:1<=d)(he:mkE n d=0):mkD n d ∣ d:=by
 unfold mkE ky at he;unfold mkD lQ;rw [if_neg zb]at he ⊢
 split at he<;>rename_i hc
 ·simp at he
 rw [if_neg hc];obtain⟨b,rfl⟩:=Int.eq_ofNat_of_zero_le (show 0<=d by omega);rw [Int.natAbs_natCast];exact Int.natCast_dvd_natCast.2 (Nat.div_dvd_of_dvd (Nat.gcd_dvd_right _ _))
theorem QG{n d:Int}(h1:0<=n)(h2:1<=d):mkN n d<=n:=by
 unfold mkN jN;rw [if_neg zb,decide_eq_false zb,decide_eq_false zb]
 split
 ·omega
 ·have:=Nat.div_le_self n.natAbs (Nat.gcd n.natAbs d.natAbs);simp only [bne_self_eq_false,Bool.false_eq_true,if_false];omega
theorem QK{n d m:Int}(h1:0<=n)(h2:n<=1000000)(h3:1<=d)(h4:d ∣ 10000)(h5:2<=m/\m<=4):fB (mkN n d) (mkD n d) m=true:=by
 have hd:d<=10000:=Int.le_of_dvd zb h4;have he:=vQ h1 zb h3 zb;have hv:=BQ (show d≠0 by omega) he;have hb:=aF hv;have hn:=sJ h1 h3;have hl:=QG h1 h3;have hdv:mkD n d ∣ 10000:=Int.dvd_trans (N8 h3 he) h4;have hq:mkN n d / mkD n d<=mkN n d:=Int.ediv_le_self _ hn;unfold fB;rw [hv,decide_eq_true hn,decide_eq_true (Int.emod_eq_zero_of_dvd hdv),decide_eq_true h5.1,decide_eq_true h5.2,decide_eq_true zb];rfl
theorem num_ok(zs:List Int)(p:Nat){m:Int}(h5:2<=m/\m<=4):fB (G9 zs p) (Ha zs p) m=true:=by
 have h1:=bV zs p 4000 zb;have h2:=bV zs (p+1) 7 zb;unfold G9 Ha;refine QK h1.1 zb ?_ ?_ h5
 all_goals
  generalize aC zs (p+1) 7=i at *;rcases(show i=0\/i=1\/i=2\/i=3\/i=4\/i=5\/i=6 by omega)with rfl|rfl|rfl|rfl|rfl|rfl|rfl<;>decide
theorem IC:∀p∈inpN,ib p.1=true/\bE p.1.toList=p.2:=by decide+kernel
theorem NV{env:List (ByteArray × Int)}(hE:Dq env){dim:Int}(hd:2<=dim){s:ByteArray}(h:s∈aQ env dim):ib s=true/\dQ env s=(dim,0):=by
 unfold aQ bK at h;rcases mem_append.1 h with h|h
 ·obtain⟨p,hp,rfl⟩:=mem_map.1 h;obtain⟨hp,hq⟩:=mem_filter.1 hp;have hq:=of_decide_eq_true hq;obtain⟨h1,h2⟩:=IC p hp;refine⟨h1, ?_⟩;unfold dQ;rw [if_pos zb,h2,hq]
 ·obtain⟨p,hp,rfl⟩:=mem_map.1 h;obtain⟨hp,hq⟩:=mem_filter.1 hp;have hq:=of_decide_eq_true hq;obtain⟨h1,h2,h3,h4,h5⟩:=hE p hp;refine⟨h2, ?_⟩;unfold dQ;rw [if_neg zb,h5,hq]
def nR(env:List (ByteArray × Int))(dim:Int)(e:Ex):Prop:=aM e=true/\aX env e=(dim,0)
theorem lT(zs:List Int){env:List (ByteArray × Int)}(hE:Dq env)(p:Nat){dim:Int}(h1:2<=dim)(h2:dim<=4):nR env dim (eO zs env p dim).1:=by
 have hb:=bV zs p ((aQ env dim).length+3) zb;unfold eO
 split<;>rename_i hc
 ·have hm:((aQ env dim).getD (aC zs p ((aQ env dim).length+3)).toNat ByteArray.empty)∈aQ env dim:=by
   have hlt:(aC zs p ((aQ env dim).length+3)).toNat<(aQ env dim).length:=by omega
   rw [getD_eq_getElem?_getD,getElem?_eq_getElem hlt];exact getElem_mem _
  obtain⟨g1,g2⟩:=NV hE h1 hm;generalize(aQ env dim).getD (aC zs p ((aQ env dim).length+3)).toNat ByteArray.empty=nm at g1 g2 ⊢;refine⟨?_, ?_⟩
  ·rw [dn];simp [Ex.op,Ex.args,Ex.name,Ex.num,Ex.den,Ex.dim,aY,g1]
  ·rw [iE];unfold eu;exact g2
 ·split<;>rename_i hc2
  ·have h5:=bV zs (p+1) 5 zb;obtain⟨rfl,-⟩:=hc2;refine⟨?_,by rw [iE];rfl⟩;rw [dn];have e:ByteArray.empty.toList.isEmpty=true:=by decide+kernel
   simp [Ex.op,Ex.args,Ex.name,Ex.num,Ex.den,Ex.dim,aY,e];exact⟨decide_eq_true zb,decide_eq_true zb⟩
  ·refine⟨?_,by rw [iE];rfl⟩;have:=num_ok zs (p+1) ⟨h1,h2⟩;rw [dn];simp [Ex.op,Ex.args,Ex.name,Ex.num,Ex.den,Ex.dim,aY,this]
def nQ(env:List (ByteArray × Int))(ds:List Int)(l:List Ex):Prop:=aW l=true/\bf env l=(ds,0)/\l.length=ds.length
theorem nQ.nil(env:List (ByteArray × Int)):nQ env [] []:=⟨rfl,rfl,rfl⟩
theorem nQ.cons{env:List (ByteArray × Int)}{d:Int}{ds:List Int}{e:Ex}{l:List Ex}(h:nR env d e)(g:nQ env ds l):nQ env (d::ds) (e::l):=by
 refine⟨by rw [aW,h.1,g.1];rfl, ?_,by simp [g.2.2]⟩;rw [bf,h.2,g.2.1];simp
theorem sw{env:List (ByteArray × Int)}{op dim:Int}{ds:List Int}{l:List Ex}(g:nQ env ds l)(h4:4<=op)(ha:(ds.length:Int)=aY op)(hr:ag op ds=dim)(hd:dim≠0):nR env dim (.mk op 0 0 0 ByteArray.empty l):=by
 refine⟨?_, ?_⟩
 ·rw [dn];show(decide ((l.length:Int)=aY op)&&_)=true;rw [decide_eq_true (by rw [g.2.2];exact ha),Bool.true_and];show(if op=1 then _ else _)=true;rw [if_neg zb,if_neg (by show ¬op=2;omega),if_neg (by show ¬op=3;omega)];show(aW l&&_)=true;have e:ByteArray.empty.toList.isEmpty=true:=by decide+kernel
  rw [g.1];simp [Ex.num,Ex.den,Ex.dim,Ex.name,e]
 ·rw [iE];show eu op 0 _ (bf env l)=_;rw [g.2.1];unfold eu;rw [if_neg zb,if_neg zb,if_neg zb,if_neg ze];show(if ag op ds=0 then _ else _)=_;rw [hr,if_neg hd]
theorem jI(zs:List Int){env:List (ByteArray × Int)}(hE:Dq env)(p:Nat)(left:Int){dim:Int}(h1:1<=dim)(h2:dim<=4):nR env dim (dz zs env dim p left).1:=by
 unfold dz
 split<;>rename_i hc
 ·subst hc;have a:=bV zs p 3 zb;have b:=bV zs (p+1) 6 zb;generalize aC zs p 3=x at *;generalize aC zs (p+1) 6=o at *;refine sw (ds:=[2+x,2+x]) (.cons (lT zs hE _ zb zb) (.cons (lT zs hE _ zb zb) (.nil _))) zb ?_ ?_ zb
  ·unfold aY;rw [if_neg zb,if_neg zb,if_pos zb];rfl
  ·rw [oF _ _ ⟨by omega,by omega⟩,if_pos ⟨rfl,by omega⟩]
 ·exact lT zs hE p zb h2
def FR(dim:Int):Option (Int × List Int × Nat)->Prop
 |none=>True
 |some t=>4<=t.1/\(t.2.1.length:Int)=aY t.1/\ag t.1 t.2.1=dim/\∀d∈t.2.1,1<=d/\d<=4
theorem GQ{dim:Int}{c:Prop}[Decidable c]{a b:Option (Int × List Int × Nat)}(ha:c->FR dim a)(hb:¬c->FR dim b):FR dim (if c then a else b):=by
 split<;>rename_i h
 ·exact ha h
 ·exact hb h
theorem BA(zs:List Int)(p:Nat){dim:Int}(h1:1<=dim)(h2:dim<=4):FR dim (bG zs p dim):=by
 have a:=bV zs p 14 zb;have b:=bV zs (p+1) 3 zb;have c:=bV zs (p+2) 6 zb;unfold bG;generalize aC zs p 14=x at *;generalize aC zs (p+1) 3=y at *;generalize aC zs (p+2) 6=z at *;rcases(show dim=1\/dim=2\/dim=3\/dim=4 by omega)with rfl|rfl|rfl|rfl
 all_goals
  repeat' (first|refine GQ (fun _=>?_) (fun _=>?_))
  all_goals first
   |trivial
   |(exfalso;omega)
   |(refine⟨by show(4:Int)<=_;omega, ?_, ?_, ?_⟩
     ·show((_:List Int).length:Int)=aY _;unfold aY
      (repeat' split)<;>first|rfl|(exfalso;omega)|(simp;done)
     ·unfold ag;simp;try omega
     ·intro d hd;simp at hd
      omega)
theorem BL{env:List (ByteArray × Int)}{E:Int->Nat->Int->Ex × Nat × Int}(hE:∀d p left,1<=d->d<=4->nR env d (E d p left).1)(ds:List Int):(∀d∈ds,1<=d/\d<=4)->∀p left,nQ env ds (bJ E ds p left).1:=by
 induction ds with
 |nil=>intro _ p left;exact .nil _
 |cons d ds ih=>
  intro h p left;have hd:=h d ze;exact .cons (hE d p left hd.1 hd.2) (ih (fun x hx=>h x (by simp [hx])) _ _)
theorem CJ(zs:List Int){env:List (ByteArray × Int)}(hE:Dq env)(n:Nat):∀(dim:Int) (p:Nat) (left:Int),1<=dim->dim<=4->nR env dim (aS zs env n dim p left).1:=by
 induction n with
 |zero=>intro dim p left h1 h2;exact jI zs hE p left h1 h2
 |succ n ih=>
  intro dim p left h1 h2;by_cases hl:left<=0
  ·rw [tN zs env _ dim p left (.inr hl)];exact jI zs hE p left h1 h2
  ·have hp:=BA zs p h1 h2
   cases hq:bG zs p dim with
   |none=>
    rw [nL zs env n dim p left zb hq];exact jI zs hE _ _ h1 h2
   |some t=>
    obtain⟨op,ds,q⟩:=t;rw [hq]at hp;obtain⟨g1,g2,g3,g4⟩:=hp;rw [bL zs env n dim p left zb hq];exact sw (BL (fun d p left a b=>ih d p left a b) ds g4 q (left-2)) g1 g2 g3 zb
theorem qB(zs:List Int)(env:List (ByteArray × Int))(p:Nat)(dim:Int):(eO zs env p dim).1.depth=1:=by
 unfold eO
 split
 ·simp [Ex.depth,Ex.depths]
 ·split<;>simp [Ex.depth,Ex.depths]
theorem BZ(zs:List Int)(env:List (ByteArray × Int))(dim:Int)(p:Nat)(left:Int):(dz zs env dim p left).1.depth<=2:=by
 unfold dz
 split
 ·simp [Ex.depth,Ex.depths,qB]
 ·simp [qB]
theorem DD(zs:List Int){env:List (ByteArray × Int)}(hE:Dq env){dim:Int}(h1:1<=dim)(h2:dim<=4):nR env dim (dZ zs env dim)/\eF (dZ zs env dim)=true:=by
 unfold dZ
 split<;>rename_i hv
 ·exact⟨CJ zs hE 5 dim 0 24 h1 h2,hv⟩
 ·have ht:=jI zs hE (aS zs env 5 dim 0 24).2.1 0 h1 h2;refine⟨ht, ?_⟩;have a:=BZ zs env dim (aS zs env 5 dim 0 24).2.1 0;have b:=jl zs env dim (aS zs env 5 dim 0 24).2.1 0;unfold eF;rw [ht.1,decide_eq_true zb,decide_eq_true zb];rfl
theorem KG(N off:Nat)(a:Option Addr)(cap:Nat)(w:World)(c1:w.cell? ⟨N,off+1,none⟩=some (.slice a 0 cap)) :
 Calls prog 170 #[.pointer (some ⟨N,off,none⟩)] w fun e w'=>e= .returned (.tuple #[.int .i64 0,.bool false])/\w'=w:=by
 go_enter func170,ntmps170
 go_wp2_with fail
 go_returns
 exact⟨rfl,rfl⟩
theorem KF(N off g n cap:Nat)(z:Int)(w:World)(c1:w.cell? ⟨N,off+1,none⟩=some (.slice (some ⟨g,0,none⟩) (n+1) cap))(c2:w.cell? ⟨g,n,none⟩=some (.int .i64 z))(hn:n+1<=cap)(hl:n<=1000)(hf:w.frozen? ⟨N,off+1,none⟩=false) :
 Calls prog 170 #[.pointer (some ⟨N,off,none⟩)] w fun e w'=>e= .returned (.tuple #[.int .i64 z,.bool true])/\w'=w.setCell ⟨N,off+1,none⟩ (.slice (some ⟨g,0,none⟩) n cap):=by
 have h1:((n:Int)+1==0)=false:=by simp;omega
 go_enter func170,ntmps170
 go_wp2_with fail
 go_returns
 exact⟨rfl,rfl⟩
theorem Ap:(prog.info? 3).map (fun i=>(i.zero,i.size,i.bytes))=some (some (.int .i64 0),1,8):=by kernel_rfl
def MF(N off:Nat)(vs:Value)(zs:List Int)(base:Nat)(dim:Int)(w:World)(e:Ending)(w':World):Prop:=
 e= .returned (.tuple #[])/\∃g cap w1,w1.ownsRow base 3 1 (.slice (some ⟨g,0,none⟩) (zs.length+1) cap) (zs.length+1) ((zs++[dim]).map (Value.int .i64))/\w.grownBy w1 vs.ownBlock/\(vs.ownBlock=some g\/w.heap.size<=g)/\g<w1.heap.size/\
  w'=w1.setCell ⟨N,off+1,none⟩ (.slice (some ⟨g,0,none⟩) (zs.length+1) cap)
theorem Bz(N off base:Nat)(a:Option Addr)(cap:Nat)(zs:List Int)(dim:Int)(w:World)(c1:w.cell? ⟨N,off+1,none⟩=some (.slice a zs.length cap))(ho:w.ownsRow base 3 1 (.slice a zs.length cap) zs.length (zs.map (Value.int .i64)))(hb:base<=w.heap.size)(hN:N<w.heap.size)(hne:(Value.slice a zs.length cap).ownBlock≠some N)(hl:zs.length<=1000)(hf:∀w1:World,w.grownBy w1 (Value.slice a zs.length cap).ownBlock->w1.frozen? ⟨N,off+1,none⟩=false) :
 Calls prog 169 #[.pointer (some ⟨N,off,none⟩),.int .i64 dim] w (MF N off (.slice a zs.length cap) zs base dim w):=by
 obtain⟨i0,hi,hz0,hz1,hz2⟩:=info_parts Ap;have HO:=yq ho;have HF:=yq hf;clear ho hf
 go_enter func169,ntmps169
 go_wp2_with (at_builtin;refine wpList_append_lies _ rfl _ _ 22 rfl base 3 i0 _ 1 8 underlying22 hi hz0 hz1 hz2 rfl zf _ _ _ rfl (HO.out.alloc _) ⟨w.heap.size,0,none⟩ 1 1 [.int .i64 dim] rfl rfl ?c1 ?c2 zf ?c3 ?c4 ?c5 (w.heap.size+1) ze ?_)
 case c1=>(refine ax _ [_] _ _ ?_);simp
 case c2=>intro u hu;simp at hu;subst hu;rfl
 case c3=>unfold maxLen;omega
 case c4=>omega
 case c5=>simp;omega
 intro gb cp w1 hown hgrow hgg hgl;have hg2:w.grownBy w1 (Value.slice a zs.length cap).ownBlock:=⟨hgrow.os,hgrow.tape,hgrow.output,by have:=hgrow.size;simp at this;omega,fun k hk hne=>(hgrow.block k zg hne).trans (Below.heap_alloc w _ k hk)⟩;have HG:=yq hg2;have HOW:=yq hown;have HGG:=yq hgg;have HGL:=yq hgl;have k1:=(hg2.cell_far ⟨N,off+1,none⟩ hN (fun e=>hne e.symm)).trans c1;have k2:=HF.out w1 hg2;have hN1:N<w1.heap.size:=by have:=hg2.size;omega
 clear hown hgrow hgg hgl hg2
 go_wp2_with fail
 go_returns
 refine⟨rfl,gb,cp,w1,by have:=HOW.out;simpa using this,HG.out, ?_,HGL.out,rfl⟩;rcases HGG.out with h|h
 ·exact .inl h
 ·exact .inr zb
theorem Li(U:List Int):∀u∈U.map (Value.int .i64),u.oneCell'=true:=by
 intro u hu;obtain⟨k,-,rfl⟩:=mem_map.1 hu;rfl
theorem fU{w:World}{B:Nat}{e:TypeId}{z n:Nat}{v:Value}{xs:List Value}(h:w.ownsRow B e z v n xs):(v= .slice none 0 0/\n=0)\/∃g cap,v= .slice (some ⟨g,0,none⟩) n cap/\B<=g/\g<w.heap.size/\n<=cap:=by
 obtain⟨-,h|⟨g,cap,cur,rfl,hb,hg,hn,-⟩⟩:=h
 ·exact .inl h
 ·exact .inr ⟨g,cap,rfl,hb,(Array.getElem?_eq_some_iff.1 hg).1,hn⟩
theorem ni(w:World)(r:Option Nat):w.grownBy w r:=⟨rfl,rfl,rfl,Nat.le_refl _,fun _ _ _=>rfl⟩
theorem eU{ops:Array Oper}{rest:List Oper}{o:Oper}{a:Act}{w:World}{Q:Exit->Act->World->Prop}(hgd:o.guard=none)(s x:Operand)
 (ho:o.op= .call {callee:=.builtin .append,args:=#[s,x],argTypes:=#[22,22]})
 {base base':Nat} {v u:Value} {A B:List Int} (hs:a.eval s=v) (hx:a.eval x=u) (hA:w.ownsRow base 3 1 v A.length (A.map (Value.int .i64))) (hB:w.ownsRow base' 3 1 u B.length (B.map (Value.int .i64))) (hn:A.length<=1000/\B.length<=1000) (hbase:base<=w.heap.size)
 (h:∀v' w',w'.ownsRow base 3 1 v' (A++B).length ((A++B).map (Value.int .i64))->w.grownBy w' v.ownBlock->wpList prog ops Q rest (a.put o.dst v') w'):wpList prog ops Q (o::rest) a w:=by
 obtain⟨i0,hi,hz0,hz1,hz2⟩:=info_parts Ap;rcases fU hB with ⟨rfl,h0⟩|⟨g,cap,rfl,hbg,hgl,hc⟩
 ·refine wpList_append_own_none hgd s x 22 ho base 3 i0 1 underlying22 hi v _ _ hs hA hx (h v w ?_ (ni _ _));have:B= []:=eq_nil_of_length_eq_zero h0;subst this;simpa using hA
 ·refine wpList_append_own _ hgd s x 22 ho base 3 i0 (.int .i64 0) 1 8 underlying22 hi hz0 hz1 hz2 rfl zf v A.length _ hs hA ⟨g,0,none⟩ B.length cap _ hx ze (fun j z hz=>?_) (Li B) zu zb hbase (fun v' w' h1 h2 _=>h v' w' (by rw [length_append,map_append];exact h1) h2);have hj:=(List.getElem?_eq_some_iff.1 hz).1;rw [show(⟨g,0,none⟩:Addr).add j=⟨g,j,none⟩by unfold Addr.add;split<;>simp_all,hB.cellAt j (by simpa using hj)];exact hz
structure aV(P:Nat->Prop)(w w':World):Prop where
 os:w'.os=w.os
 tape:w'.tape=w.tape
 output:w'.output=w.output
 size:w.heap.size<=w'.heap.size
 block:∀k,k<w.heap.size->¬P k->w'.heap[k]? =w.heap[k]?
section
variable {P Q : Nat -> Prop} {a b c w w' : World}
theorem aV.refl(P:Nat->Prop)(w:World):aV P w w:=⟨rfl,rfl,rfl,Nat.le_refl _,fun _ _ _=>rfl⟩
theorem aV.mono(h:aV Q a b)(hQ:∀i,i<a.heap.size->Q i->P i):aV P a b:=⟨h.os,h.tape,h.output,h.size,fun i hi hn=>h.block i hi (fun q=>hn (hQ i hi q))⟩
theorem aV.trans(h:aV P a b)(k:aV P b c):aV P a c:=⟨k.os.trans h.os,k.tape.trans h.tape,k.output.trans h.output,Nat.le_trans h.size k.size,fun i hi hn=>(k.block i (Nat.lt_of_lt_of_le hi h.size) hn).trans (h.block i hi hn)⟩
theorem aV.trans2(h:aV P a b)(k:aV Q b c)(hQ:∀i,i<a.heap.size->Q i->P i):aV P a c:=
 ⟨k.os.trans h.os,k.tape.trans h.tape,k.output.trans h.output,Nat.le_trans h.size k.size,fun i hi hn=>(k.block i (Nat.lt_of_lt_of_le hi h.size) (fun q=>hn (hQ i hi q))).trans (h.block i hi hn)⟩
theorem aV.grows(hg:w.Grows w'):aV P w w':=⟨hg.below.os,hg.below.tape,hg.below.output,hg.below.size,fun k hk _=>hg.below.block k hk⟩
theorem aV.setCell(w:World)(N o:Nat)(u:Value)(hP:P N):aV P w (w.setCell ⟨N,o,none⟩ u):=
 ⟨rfl,rfl,rfl,by simp [World.setCell],fun k _ hn=>Below.heap_setCell _ _ _ _ (fun e=>hn (by have e':k=N:=e;exact e' ▸ hP))⟩
theorem aV.grown{row:Option Nat}(hg:w.grownBy w' row)(hP:∀k,row=some k->P k):aV P w w':=⟨hg.os,hg.tape,hg.output,hg.size,fun k hk hn=>hg.block k hk (fun e=>hn (hP k e.symm))⟩
theorem aV.below{B:Nat}{a:World}(h:aV P w w')(hb:Below B a w)(hB:B<=w.heap.size)(hP:∀k,P k->B<=k):Below B a w':=
 hb.trans ⟨h.os,h.tape,h.output,h.size,fun k hk=>h.block k zb (fun p=>by have:=hP k p;omega)⟩
theorem aV.cell(h:aV P w w'){k:Nat}(hk:k<w.heap.size)(hn:¬P k)(o:Nat):w'.cell? ⟨k,o,none⟩=w.cell? ⟨k,o,none⟩:=World.cell?_of_block (h.block k hk hn)
theorem aV.frozen(h:aV P w w'){k:Nat}(hk:k<w.heap.size)(hn:¬P k)(o:Nat):w'.frozen? ⟨k,o,none⟩=w.frozen? ⟨k,o,none⟩:=World.frozen?_of_block (h.block k hk hn)
theorem aV.row(h:aV P w w'){B:Nat}{e:TypeId}{sz n:Nat}{v:Value}{xs:List Value}(ho:w.ownsRow B e sz v n xs)(hn:∀k,v.ownBlock=some k->¬P k):w'.ownsRow B e sz v n xs:=by
 refine⟨ho.1, ?_⟩;rcases ho.2 with hh|⟨g,cap,cur,rfl,hb,hgg,rest⟩
 ·exact .inl hh
 ·exact .inr ⟨g,cap,cur,rfl,hb,by rw [h.block g (Array.getElem?_eq_some_iff.1 hgg).1 (hn g rfl)];exact hgg,rest⟩
end
def bu(w:World)(N off:Nat)(L:List Value):Prop:=∀i u,L[i]? =some u->w.cell? ⟨N,off+i,none⟩=some u
section
variable {w w' : World} {N off : Nat} {L : List Value}
theorem bu.get(h:bu w N off L){i:Nat}(hi:i<L.length):w.cell? ⟨N,off+i,none⟩=some L[i]:=h i _ (getElem?_eq_getElem hi)
theorem bu.same(h:bu w N off L)(he:∀o,w'.cell? ⟨N,o,none⟩=w.cell? ⟨N,o,none⟩):bu w' N off L:=fun i u hu=>(he _).trans (h i u hu)
theorem bu.set(h:bu w N off L)(i:Nat)(u:Value)(hi:i<L.length):bu (w.setCell ⟨N,off+i,none⟩ u) N off (L.set i u):=fun j x hx=>by
 rw [getElem?_set]at hx;by_cases e:i=j
 ·subst e;rw [if_pos rfl,if_pos hi]at hx;rw [World.cell?_setCell_same _ _ _ (h.get hi)];exact hx
 ·rw [if_neg e]at hx;rw [World.cell?_setCell_other _ _ _ _ zx];exact h j x hx
theorem bu.other(h:bu w N off L){M o:Nat}(u:Value)(hne:M≠N\/o<off\/off+L.length<=o):bu (w.setCell ⟨M,o,none⟩ u) N off L:=fun j x hx=>by
 have hj:j<L.length:=(List.getElem?_eq_some_iff.1 hx).1;rw [World.cell?_setCell_other _ _ _ _ zx];exact h j x hx
end
theorem nH{w:World}{z:Array Value}{n sz j:Nat}{e:TypeId}(hz:z.size=sz)(hsz:0<sz)(hj:j<n):bu (w.alloc (.cells (madeCells z (n*sz)) e)) w.heap.size (j*sz) z.toList:=by
 intro i u hu;have hi:i<sz:=by have:=(List.getElem?_eq_some_iff.1 hu).1;simp at this;omega
 have h1:j*sz+i<n*sz:=by
  have:(j+1)*sz<=n*sz:=Nat.mul_le_mul_right _ hj;rw [Nat.add_mul]at this;omega
 have h2:(j*sz+i) % sz=i:=by rw [Nat.mul_comm,Nat.mul_add_mod,Nat.mod_eq_of_lt hi]
 have h3:(madeCells z (n*sz))[j*sz+i]? =some u:=by
  unfold madeCells;rw [Array.getElem?_map,Array.getElem?_range,if_pos h1];simp only [Option.map_some,hz,h2];rw [Array.getElem?_toList]at hu;rw [getElem!_def,hu]
 rw [cell_of_row _ _ _ _ _ _ (heap_alloc_new w _)];exact h3
theorem mZ{P:Program}(t e:TypeId)(z:Value)(size bytes:Nat)(ht:P.underlying t=some (.slice e))(hinfo:(P.info? e).map (fun i=>(i.zero,i.size,i.bytes))=some (some z,size,bytes))(n:Nat)(hbytes:bytes*(n+1)<=281474976710656)(h63:n+1<=9223372036854775807)(w:World) :
 (Instr.makeSlice t (.int .i64 ((n:Int)+1)) (.int .i64 ((n:Int)+1))).run P w= .ok (.slice (some ⟨w.heap.size,0,none⟩) (n+1) (n+1)) (w.alloc (.cells (madeCells z.cells ((n+1)*size)) e)):=by
 obtain⟨i,hi,hzz⟩:=Option.map_eq_some_iff.1 hinfo;simp only [Prod.mk.injEq]at hzz;obtain⟨hz,hs,hb⟩:=hzz
 have hb':(i.bytes:Int)*((n:Int)+1)<=281474976710656:=by
  rw [hb];have h:((bytes*(n+1):Nat):Int)<=281474976710656:=by omega
  rwa [Int.natCast_mul,Int.natCast_add]at h
 have hr:=run_make (P:=P) w t e i z ht hi hz .i64 .i64 ((n:Int)+1) ((n:Int)+1) zb (Int.le_refl _) hb' zb;have e1:((n:Int)+1).toNat=n+1:=by omega
 rw [e1,hs]at hr;exact hr
structure Upd(P:Nat->Prop)(w w':World)(N off:Nat)(L:List Value):Prop where
 mods:aV P w w'
 cells:bu w' N off L
 out:∀i,i<off\/off+L.length<=i->w'.cell? ⟨N,i,none⟩=w.cell? ⟨N,i,none⟩
 frz:∀i,w'.frozen? ⟨N,i,none⟩=w.frozen? ⟨N,i,none⟩
section
variable {P : Nat -> Prop} {w w' w'' : World} {N off : Nat} {L : List Value}
theorem Upd.refl(h:bu w N off L):Upd P w w N off L:=⟨.refl _ _,h,fun _ _=>rfl,fun _=>rfl⟩
theorem Upd.set(h:Upd P w w' N off L)(i:Nat)(u:Value)(hi:i<L.length)(hP:P N):Upd P w (w'.setCell ⟨N,off+i,none⟩ u) N off (L.set i u):=
 ⟨h.mods.trans (aV.setCell _ _ _ _ hP),h.cells.set i u hi,fun j hj=>by
  rw [length_set]at hj
  rw [World.cell?_setCell_other _ _ _ _ zx];exact h.out j hj,fun j=>(World.frozen?_setCell _ _ _ _).trans (h.frz j)⟩
theorem Upd.block(h:Upd P w w' N off L)(hm:aV P w' w'')(e:w''.heap[N]? =w'.heap[N]?):Upd P w w'' N off L:=
 ⟨h.mods.trans hm,h.cells.same fun o=>World.cell?_of_block (a:=⟨N,o,none⟩) e,fun j hj=>(World.cell?_of_block (a:=⟨N,j,none⟩) e).trans (h.out j hj),fun j=>(World.frozen?_of_block (a:=⟨N,j,none⟩) e).trans (h.frz j)⟩
theorem Upd.grows(h:Upd P w w' N off L)(hN:N<w.heap.size)(hg:w'.Grows w''):Upd P w w'' N off L:=
 h.block (.grows hg) (hg.below.block N (Nat.lt_of_lt_of_le hN h.mods.size))
theorem Upd.pre(hg:w.Grows w')(hN:N<w.heap.size)(h:Upd P w' w'' N off L):Upd P w w'' N off L:=by
 have e:=hg.below.block N hN;exact⟨(aV.grows hg).trans h.mods,h.cells,fun j hj=>(h.out j hj).trans (World.cell?_of_block (a:=⟨N,j,none⟩) e),fun j=>(h.frz j).trans (World.frozen?_of_block (a:=⟨N,j,none⟩) e)⟩
end
structure jT(N o B:Nat)(v v':Value)(zs:List Int)(w w':World):Prop where
 upd:Upd (fun k=>k=N\/v.ownBlock=some k) w w' N o [v']
 row:w'.ownsRow B 3 1 v' zs.length (zs.map (Value.int .i64))
 own:∀k,v'.ownBlock=some k->v.ownBlock=some k\/w.heap.size<=k
theorem jT.trans{N o B:Nat}{v v1 v2:Value}{zs1 zs2:List Int}{w w1 w2:World}(h:jT N o B v v1 zs1 w w1)(k:jT N o B v1 v2 zs2 w1 w2):jT N o B v v2 zs2 w w2:=by
 refine⟨⟨h.upd.mods.trans2 k.upd.mods fun i hi hq=>?_,k.upd.cells,fun j hj=>(k.upd.out j hj).trans (h.upd.out j hj),fun j=>(k.upd.frz j).trans (h.upd.frz j)⟩,k.row,fun i hi=>?_⟩
 ·rcases hq with hq|hq
  ·exact .inl hq
  ·rcases h.own i hq with e|e
   ·exact .inr e
   ·omega
 ·rcases k.own i hi with e|e
  ·exact h.own i e
  ·exact .inr (Nat.le_trans h.upd.mods.size e)
theorem jT.pre{N o B:Nat}{v v':Value}{zs:List Int}{w w1 w':World}(hg:w.Grows w1)(hN:N<w.heap.size)(h:jT N o B v v' zs w1 w'):jT N o B v v' zs w w':=
 ⟨h.upd.pre hg hN,h.row,fun k hk=>(h.own k hk).imp id fun e=>Nat.le_trans hg.below.size e⟩
theorem MF.stk{N off B:Nat}{v:Value}{zs:List Int}{dim:Int}{w w':World}{e:Ending}(h:MF N off v zs B dim w e w')(c1:w.cell? ⟨N,off+1,none⟩=some v)(hne:v.ownBlock≠some N)(hN:N<w.heap.size) :
 e= .returned (.tuple #[])/\∃g cap,jT N (off+1) B v (.slice (some ⟨g,0,none⟩) (zs++[dim]).length cap) (zs++[dim]) w w':=by
 obtain⟨he,g,cap,w1,ho,hg,hgg,hgl,rfl⟩:=h;refine⟨he,g,cap, ?_⟩;have hL:(zs++[dim]).length=zs.length+1:=by simp
 rw [hL]
 have hNg:N≠g:=by
  rcases hgg with e|e
  ·intro h;subst h;exact hne e
  ·omega
 have c1':bu w1 N (off+1) [v]:=fun i u hu=>by
  match i,hu with
  |0,hu=>
   obtain rfl:=Option.some.inj hu;exact(hg.cell_far ⟨N,off+1,none⟩ hN (fun e=>hne e.symm)).trans c1
  |i+1,hu=>simp at hu
 have U0:Upd (fun k=>k=N\/v.ownBlock=some k) w w1 N (off+1) [v]:=⟨aV.grown hg fun k hk=>.inr hk,c1',fun j _=>hg.cell_far ⟨N,j,none⟩ hN (fun e=>hne e.symm),fun j=>hg.frozen_far ⟨N,j,none⟩ hN (fun e=>hne e.symm)⟩;have U1:=U0.set 0 (.slice (some ⟨g,0,none⟩) (zs.length+1) cap) ze (.inl rfl);refine⟨U1, ?_,fun k hk=>?_⟩
 ·rw [hL]
  exact aV.row (P:=fun k=>k=N) (aV.setCell _ _ _ _ rfl) ho fun k hk e=>by
   have:g=k:=by simpa [Value.ownBlock]using hk
   omega
 ·have:g=k:=by simpa [Value.ownBlock]using hk
  subst this;exact hgg.imp id id
def StC(w:World)(N off:Nat)(r:Bool)(v:Value)(bs:List Bool):Prop:=bs.length=12/\bu w N off (.bool r::v::bs.map .bool)
theorem twelve{bs:List Bool}(h:bs.length=12):∃b0 b1 b2 b3 b4 b5 b6 b7 b8 b9 b10 b11,bs= [b0,b1,b2,b3,b4,b5,b6,b7,b8,b9,b10,b11]:=by
 match bs,h with
 | [b0,b1,b2,b3,b4,b5,b6,b7,b8,b9,b10,b11],_=>exact⟨b0,b1,b2,b3,b4,b5,b6,b7,b8,b9,b10,b11,rfl⟩
def Hz(o:Option (List Int × List Bool))(s:List Int × List Bool):Option (List Int × List Bool):=
 match o with
 |none=>some s
 |some t=>if t.1=s.1 then some (t.1,zipWith (· && ·) t.2 s.2)else none
theorem KA(S:List (Option (List Int × List Bool)))(k:Nat)(s:List Int × List Bool):fG S k s=(Hz (S.getD k none) s).map fun x=>S.set k (some x):=by
 unfold fG Hz
 cases S.getD k none with
 |none=>rfl
 |some t=>by_cases e:t.1=s.1<;>simp [e]
def StM(w:World)(N off:Nat)(v:Value):Option (List Int × List Bool)->Prop
 |none=>∃bs,StC w N off false (.slice none 0 0) bs
 |some s=>StC w N off true v s.2
theorem StC.same{w w':World}{N off:Nat}{r:Bool}{v:Value}{bs:List Bool}(h:StC w N off r v bs)(he:∀o,w'.cell? ⟨N,o,none⟩=w.cell? ⟨N,o,none⟩):StC w' N off r v bs:=⟨h.1,h.2.same he⟩
theorem StM.same{w w':World}{N off:Nat}{v:Value}{o:Option (List Int × List Bool)}(h:StM w N off v o)(he:∀o,w'.cell? ⟨N,o,none⟩=w.cell? ⟨N,o,none⟩):StM w' N off v o:=by
 cases o with
 |none=>obtain⟨bs,h⟩:=h;exact⟨bs,h.same he⟩
 |some s=>exact StC.same h he
theorem StC.near{w w':World}{N off:Nat}{r:Bool}{v:Value}{bs:List Bool}(h:StC w N off r v bs)(he:∀i,off<=i->i<off+14->w'.cell? ⟨N,i,none⟩=w.cell? ⟨N,i,none⟩):StC w' N off r v bs:=
 ⟨h.1,fun i u hu=>by
  have hi:i<(Value.bool r::v::bs.map .bool).length:=(List.getElem?_eq_some_iff.1 hu).1;simp [h.1]at hi
  exact(he _ zb zb).trans (h.2 i u hu)⟩
theorem StM.near{w w':World}{N off:Nat}{v:Value}{o:Option (List Int × List Bool)}(h:StM w N off v o)(he:∀i,off<=i->i<off+14->w'.cell? ⟨N,i,none⟩=w.cell? ⟨N,i,none⟩):StM w' N off v o:=by
 cases o with
 |none=>obtain⟨bs,h⟩:=h;exact⟨bs,h.near he⟩
 |some s=>exact StC.near h he
def noM:ByteArray:=⟨#[]⟩
def aNm:ByteArray:=⟨#[97]⟩
def bNm:ByteArray:=⟨#[98]⟩
def nm2(s:ByteArray):Ex:=.mk 2 0 0 0 s []
def Ag(op:Int):Ex:=.mk op 0 0 0 noM [nm2 aNm]
def Af(op:Int):Ex:=.mk op 0 0 0 noM [nm2 aNm,nm2 bNm]
theorem SC(d:Int):aX [(aNm,d)] (nm2 aNm)=(d,0):=by
 have h:bE aNm.toList=0:=by decide+kernel
 exact Ro
theorem OA(d e:Int):aX [(aNm,d),(bNm,e)] (nm2 aNm)=(d,0):=by
 have h:bE aNm.toList=0:=by decide+kernel
 have hne:¬bNm=aNm:=by decide
 rw [nm2,aX,eu,if_neg zf,if_neg zf,if_pos rfl,dQ,if_neg (by rw [h];simp)];simp [eP,hne]
theorem Oz(d e:Int):aX [(aNm,d),(bNm,e)] (nm2 bNm)=(e,0):=by
 have h:bE bNm.toList=0:=by decide+kernel
 exact Ro
theorem G7{op d:Int}(ho:op=4\/op=5\/op=6)(hd:1<=d/\d<=4):eY [(aNm,d)] (Ag op)=if ag op [d]=0 then(0,6)else(ag op [d],0):=by
 have hv:eF (Ag op)=true:=by rcases ho with rfl|rfl|rfl<;>decide+kernel
 have hdm:gm [(aNm,d)]=true:=by simp [gm,hd]
 unfold eY;rw [if_pos ⟨hv,hdm⟩,Ag,aX,eu,if_neg zb,if_neg zb,if_neg zb,bf,SC,bf];simp
theorem G5{op d e:Int}(ho:7<=op/\op<=20)(hd:1<=d/\d<=4)(he:1<=e/\e<=4):eY [(aNm,d),(bNm,e)] (Af op)=if ag op [d,e]=0 then(0,6)else(ag op [d,e],0):=by
 have hv:eF (Af op)=true:=by
  rcases(by omega:op=7\/op=8\/op=9\/op=10\/op=11\/op=12\/op=13\/op=14\/op=15\/op=16\/op=17\/op=18\/op=19\/op=20)with rfl|rfl|rfl|rfl|rfl|rfl|rfl|rfl|rfl|rfl|rfl|rfl|rfl|rfl<;>decide+kernel
 have hdm:gm [(aNm,d),(bNm,e)]=true:=by simp [gm,hd,he]
 unfold eY;rw [if_pos ⟨hv,hdm⟩,Af,aX,eu,if_neg zb,if_neg zb,if_neg zb,bf,OA,bf,Oz,bf];simp
structure qV(s:List Int × List Bool)(dims:List Int):Prop where
 stk:∀z∈s.1,1<=z/\z<=4
 set:∀k,s.2.getD k false=true->1<=dims.getD k 0
 len:s.2.length=12
def MC(dims:List Int):Prop:=dims.length=12/\∀k,0<=dims.getD k 0/\dims.getD k 0<=4
theorem Ld{l:List Int}(h:∀z∈l,1<=z/\z<=4)(hne:l≠[]):1<=l.getLastD 0/\l.getLastD 0<=4:=h _ (sW hne)
theorem tC{k:Nat}(h:k<11):1<=jC.getD k 0/\jC.getD k 0<=4:=by
 have key:∀k,k<11->(1:Int)<=jC.getD k 0/\jC.getD k 0<=4:=by decide
 exact key k h
theorem Kl{op:Int}{d:List Int}(hd:∀z∈d,1<=z/\z<=4)(h:ag op d≠0):1<=ag op d/\ag op d<=4:=by
 have h0:∀k,0<=d.getD k 0/\d.getD k 0<=4:=fun k=>by
  exact Ru
 have a0:=h0 0;have b0:=h0 1;have c0:=h0 2;have hp:=rW (fun z hz=>(hd z hz).1) h;refine⟨hp, ?_⟩;revert hp;clear h;unfold ag;dsimp only;generalize d.getD 0 0=a at *;generalize d.getD 1 0=b at *;generalize d.getD 2 0=c at *;intro h
 repeat' split at h
 all_goals(repeat' split)<;>omega
theorem qV.push{s:List Int × List Bool}{dims:List Int}(h:qV s dims){z:Int}(hz:1<=z/\z<=4):qV (s.1++[z],s.2) dims:=
 ⟨fun y hy=>by
  rcases mem_append.1 hy with hy|hy
  ·exact h.stk y hy
  ·obtain rfl:=mem_singleton.1 hy;exact hz,h.set,h.len⟩
theorem qV.sub{s:List Int × List Bool}{dims:List Int}(h:qV s dims){l:List Int}(hl:∀z∈l,z∈s.1):qV (l,s.2) dims:=⟨fun y hy=>h.stk y (hl y hy),h.set,h.len⟩
theorem Mr{m n i:Nat}{x:Ins}{s s':List Int × List Bool}{dims dims':List Int}(hx:wfF m n i x=true)(hm:m<=12)(hs:qV s dims)(hd:MC dims)(h:bN x s dims=some (s',dims')) :
 qV s' dims'/\MC dims'/\∀k,1<=dims.getD k 0->1<=dims'.getD k 0:=by
 unfold wfF at hx;unfold bN at h;by_cases h1:x.op=1
 ·rw [if_pos h1]at hx h;obtain⟨rfl,rfl⟩:=Prod.mk.inj (Option.some.inj h);exact⟨hs.push (by simp at hx;omega),hd,fun _ h=>h⟩
 rw [if_neg h1]at hx h;by_cases hz:¬(x.n=0/\x.d=0)
 ·rw [if_pos hz]at hx;cases hx
 rw [if_neg hz]at hx;by_cases h2:x.op=2
 ·rw [if_pos h2]at hx h;obtain⟨rfl,rfl⟩:=Prod.mk.inj (Option.some.inj h);exact⟨hs.push (tC (by simp at hx;omega)),hd,fun _ h=>h⟩
 rw [if_neg h2]at hx h;by_cases h5:x.op=5
 ·rw [if_pos h5]at h;obtain⟨rfl,rfl⟩:=Prod.mk.inj (Option.some.inj h);exact⟨hs.push zb,hd,fun _ h=>h⟩
 rw [if_neg h5]at h;by_cases h23:x.op=23\/x.op=24
 ·rw [if_pos h23]at h;obtain⟨rfl,rfl⟩:=Prod.mk.inj (Option.some.inj h);exact⟨hs.push zb,hd,fun _ h=>h⟩
 rw [if_neg h23]at h;by_cases h3:x.op=3
 ·rw [if_pos h3]at h;by_cases hb:s.2.getD x.a.toNat false=true
  ·rw [if_pos hb]at h;obtain⟨rfl,rfl⟩:=Prod.mk.inj (Option.some.inj h);exact⟨hs.push ⟨hs.set _ hb,(hd.2 _).2⟩,hd,fun _ h=>h⟩
  ·rw [if_neg hb]at h;cases h
 rw [if_neg h3]at h;by_cases h4:x.op=4
 ·rw [if_pos h4]at h;rw [if_pos (.inr h4)]at hx;have ha:x.a.toNat<12:=by simp at hx;omega
  by_cases he:s.1= []
  ·rw [if_pos he]at h;cases h
  rw [if_neg he]at h;obtain⟨rfl,rfl⟩:=Prod.mk.inj (Option.some.inj h);have hl:=Ld hs.stk he
  have hD:MC (dims.set x.a.toNat (s.1.getLastD 0)):=⟨by rw [length_set];exact hd.1,fun k=>by
   rw [ay]
   split
   ·omega
   ·exact hd.2 k⟩
  refine⟨⟨fun z hz=>hs.stk z (dropLast_subset _ hz),fun k hk=>?_,by rw [length_set];exact hs.len⟩,hD,fun k hk=>?_⟩
  ·rw [ay]at hk ⊢;by_cases e:x.a.toNat=k
   ·rw [if_pos ⟨e,by rw [hd.1];omega⟩];exact hl.1
   ·rw [if_neg (fun c=>e c.1)]at hk ⊢;exact hs.set k hk
  ·rw [ay]
   split
   ·exact hl.1
   ·exact hk
 rw [if_neg h4]at h;by_cases h22:x.op=22
 ·rw [if_pos h22]at h;by_cases he:s.1= []\/s.1.getLastD 0≠1
  ·rw [if_pos he]at h;cases h
  rw [if_neg he]at h;obtain⟨rfl,rfl⟩:=Prod.mk.inj (Option.some.inj h);exact⟨hs.sub fun z hz=>dropLast_subset _ hz,hd,fun _ h=>h⟩
 rw [if_neg h22]at h;by_cases h21:x.op=21
 ·rw [if_pos h21]at h;obtain⟨rfl,rfl⟩:=Prod.mk.inj (Option.some.inj h);exact⟨hs,hd,fun _ h=>h⟩
 rw [if_neg h21]at h;by_cases hl:s.1.length<aB (opF x.op)
 ·rw [if_pos hl]at h;cases h
 rw [if_neg hl]at h;by_cases hr:ag (opF x.op) (s.1.drop (s.1.length-aB (opF x.op)))=0
 ·rw [if_pos hr]at h;cases h
 rw [if_neg hr]at h;obtain⟨rfl,rfl⟩:=Prod.mk.inj (Option.some.inj h);have hp:=Kl (fun z hz=>hs.stk z (mem_of_mem_drop hz)) hr;exact⟨(hs.sub (l:=s.1.take (s.1.length-aB (opF x.op))) fun z hz=>mem_of_mem_take hz).push hp,hd,fun _ h=>h⟩
def bR(w:World)(v:Value)(l:List Int):Prop:=
 l.length<=1000/\∃a cap,v= .slice a l.length cap/\(l.length=0\/∃b off,a=some ⟨b,off,none⟩/\b<w.heap.size/\∀i,i<l.length->w.cell? ⟨b,off+i,none⟩=some (.int .i64 (l.getD i 0)))
theorem bR.below{w w':World}{v:Value}{l:List Int}{n:Nat}(h:bR w v l)(hn:w.heap.size<=n)(hb:Below n w w'):bR w' v l:=by
 obtain⟨h0,a,cap,hv,h1⟩:=h;refine⟨h0,a,cap,hv,h1.imp id ?_⟩;rintro⟨b,off,ha,hlt,hc⟩;refine⟨b,off,ha,Nat.lt_of_lt_of_le hlt hb.size,fun i hi=>?_⟩;rw [hb.cell (p:=⟨b,off+i,none⟩) (Nat.lt_of_lt_of_le hlt hn)];exact hc i hi
theorem bR.grows{w w':World}{v:Value}{l:List Int}(h:bR w v l)(hg:w.Grows w'):bR w' v l:=h.below (Nat.le_refl _) hg.below
theorem bR.grow{w:World}{v:Value}{l:List Int}(h:bR w v l)(bs:Array Obj)(d:Nat):bR (w.grow bs d) v l:=h.grows ⟨bs,d,rfl⟩
theorem bR.alloc{w:World}{v:Value}{l:List Int}(h:bR w v l)(o:Obj):bR (w.alloc o) v l:=h.below (Nat.le_refl _) ((Below.refl _ _).alloc (Nat.le_refl _) _)
theorem pG(l:List Int):(List.range l.length).any (fun k=>!decide (0<=l.getD k 0/\l.getD k 0<=1000000000000))=!l.all fun x=>decide (0<=x/\x<=1000000000000):=by
 induction l with
 |nil=>rfl
 |cons p r ih=>
  rw [length_cons,range_succ_eq_map,any_cons,any_map,all_cons,Bool.not_and,<-ih];rfl
theorem Gn{l:List Int}{k:Nat}(hk:k<l.length)(hb:¬(0<=l.getD k 0/\l.getD k 0<=1000000000000)):bi l=false:=by
 unfold bi
 have:(l.all fun x=>decide (0<=x/\x<=1000000000000))=false:=by
  have h:=pG l;rw [show(List.range l.length).any (fun k=>!decide (0<=l.getD k 0/\l.getD k 0<=1000000000000))=true from any_eq_true.2 ⟨k,mem_range.2 hk,by rw [decide_eq_false hb];rfl⟩]at h;simpa using h.symm
 rw [this,Bool.and_false]
theorem Dw{l:List Int}(hn:l.length<=200)(hg:∀k,k<l.length->0<=l.getD k 0/\l.getD k 0<=1000000000000):bi l=true:=by
 unfold bi;have h:=pG l;rw [show(List.range l.length).any (fun k=>!decide (0<=l.getD k 0/\l.getD k 0<=1000000000000))=false from any_eq_false.2 fun k hk=>by rw [decide_eq_true (hg k (mem_range.1 hk))];simp]at h;rw [decide_eq_true hn,Bool.true_and];simpa using h.symm
def PO(g:FuncId)(lb:Array Value)(l:List Int)(p:Nat->Bool)(w:World):Prop:=
 ∀k,k<l.length->∀w',w.Grows w'->Calls prog g (#[.int .i64 (l.getD k 0)]++lb) w' fun r w''=>r= .returned (.bool (p k))/\w'.Grows w''
theorem Lx(g:FuncId)(lb:Array Value)(eg:∀args w,(callFunc g args).run prog w= .ok (.enter g args) w)(l:List Int)(v:Value)(p:Nat->Bool)(w:World)(h:bR w v l)(hp:Hid (PO g lb l p w)) :
 Calls prog 212 #[v,.func (.func g) #[] lb] w fun r w'=>(∃z,r= .returned (.int .i64 z)/\MK l.length p z)/\w.Grows w':=by
 obtain⟨hlen,a,cap,rfl,hc⟩:=h;have Hc:=yq hc;clear hc
 go_enter func212,ntmps212
 go_wp2_with fail
 go_loopw [5,8] (fun _ v8 wr=>∃k:Nat,k<=l.length/\v8= .int .i64 k/\Hid (∀j,j<k->p j=false)/\w.Grows wr) (fun _ v8 _=>l.length-(intOf v8).toNat)
 case atStart=>exact⟨0,by omega,rfl,yq (fun j hj=>by omega),.refl _⟩
 case round=>
  obtain⟨k,hk,rfl,hno,hgr⟩:=hrel;have HG:=yq hgr;by_cases hlt2:k<l.length
  ·rcases Hc.out with h0|⟨b,off,rfl,hbw,hx⟩
   ·omega
   ·have y0:wr.cell? ⟨b,off+k,none⟩=some (.int .i64 (l.getD k 0)):=by rw [hgr.below.cell (p:=⟨b,off+k,none⟩) hbw];exact hx k hlt2
    clear hx;have d1:(k:Int)<(l.length:Int):=by omega
    have hcall:=hp.out k hlt2 _ hgr;generalize l.getD k 0=dk at *;have HLT:=yq hlt2;clear hgr
    cases hq:p k with
    |true=>
     rw [hq]at hcall;have HQ:=yq hq;clear hq;have HCL:=yq hcall;clear hcall
     go_wp2_with (go_at_fn g;refine HCL.out.mono ?_;rintro e' w' ⟨rfl,hg2⟩;have HG2:=yq hg2;clear hg2)
     go_returns
     exact⟨⟨_,rfl,.inr ⟨k,HLT.out,rfl,HQ.out⟩⟩,World.Grows.trans HG.out HG2.out⟩
    |false=>
     rw [hq]at hcall;have HQ:=yq hq;clear hq;have HCL:=yq hcall;clear hcall
     go_wp2_with (go_at_fn g;refine HCL.out.mono ?_;rintro e' w' ⟨rfl,hg2⟩;have HG2:=yq hg2;clear hg2)
     go_roundw
     case rel=>exact⟨k+1,by omega,by go_num,yq (fun j hj=>by
      by_cases ej:j=k
      ·subst ej;exact HQ.out
      ·exact hno.out j zb),World.Grows.trans HG.out HG2.out⟩
     case measure=>simp [intOf];omega
  ·obtain rfl:k=l.length:=by omega
   clear hgr
   go_wp2_with fail
   go_returns
   exact⟨⟨_,rfl,.inl ⟨rfl,hno.out⟩⟩,HG.out⟩
theorem uJ(g:FuncId)(lb:Array Value)(eg:∀args w,(callFunc g args).run prog w= .ok (.enter g args) w)(l:List Int)(v:Value)(p:Nat->Bool)(w:World)(h:bR w v l)(hp:Hid (PO g lb l p w)) :
 Calls prog 174 #[v,.func (.func g) #[] lb] w fun r w'=>r= .returned (.bool ((List.range l.length).any p))/\w.Grows w':=by
 have HI:=yq (Lx g lb eg l v p w h hp);obtain⟨-,a,cap,rfl,-⟩:=h;clear hp;generalize hX:(List.range l.length).any p=X;have HX:=yq hX;clear hX
 go_enter func174,ntmps174
 go_wp2_with (go_at_call 212;refine HI.out.mono ?_;rintro e' w' ⟨⟨z,rfl,hz⟩,bs2,d2,rfl⟩;have HZ:=yq hz.any;clear hz)
 go_returns
 exact⟨av xe,.of_below au⟩
theorem Jl:∀args w,(callFunc 175 args).run prog w= .ok (.enter 175 args) w:=enters_of func175 zd rfl
theorem Mj(d:Int)(w:World):Calls prog 175 #[.int .i64 d] w fun r w'=>r= .returned (.bool (!decide (0<=d/\d<=1000000000000)))/\w.Grows w':=by
 by_cases h1:d<0
 ·go_enter func175,ntmps175
  exact GG
 ·by_cases h2:d > 1000000000000
  ·go_enter func175,ntmps175
   exact GG
  ·go_enter func175,ntmps175
   exact GG
theorem gK(l:List Int)(v:Value)(w:World)(h:bR w v l):Calls prog 127 #[v] w fun r w'=>r= .returned (.bool (bi l))/\w.Grows w':=by
 have HV:=yq h
 have HCB:Hid (∀w',w.Grows w'->Calls prog 174 #[v,.func (.func 175) #[] #[]] w' fun r w''=>r= .returned (.bool (!l.all fun x=>decide (0<=x/\x<=1000000000000)))/\w'.Grows w''):=
  yq (fun w' hg=>by
   have:=uJ 175 #[] Jl l v (fun k=>!decide (0<=l.getD k 0/\l.getD k 0<=1000000000000)) w' (HV.out.grows hg) (yq (fun k hk w2 h2=>Mj _ w2));rw [pG]at this
   exact this)
 obtain⟨h1000,a,cap,rfl,-⟩:=h;have HF:Hid (bi l=(decide (l.length<=200)&&l.all fun x=>decide (0<=x/\x<=1000000000000))):=yq rfl;generalize(l.all fun x=>decide (0<=x/\x<=1000000000000))=Q at HCB HF;by_cases hn:(l.length:Int)<=200
 ·cases Q
  all_goals
   go_enter func127,ntmps127
   go_wp2_with (go_at_call 174;refine gvq (HCB.out _ (.of_below au)) ?_;intro bs2 d2)
   go_returns
   exact⟨av (by rw [HF.out];simp;try omega),.of_below au⟩
 ·go_enter func127,ntmps127
  go_wp2_with fail
  go_returns
  exact⟨av (by rw [HF.out,decide_eq_false zb];rfl),.of_below au⟩
theorem ma(l:List Int)(v:Value)(w:World)(h:bR w v l):Calls prog 96 #[v] w fun r w'=>r= .returned (.bool (bi l))/\w=w':=by
 obtain⟨h1000,a,cap,rfl,hc⟩:=h;have Hc:=yq hc;clear hc;have HBAD:=yq (fun k hk hb=>Gn (l:=l) (k:=k) hk hb);have HGOOD:=yq (fun hn hg=>Dw (l:=l) hn hg);by_cases hn:(l.length:Int)<=200
 ·go_enter func96,ntmps96
  go_wp2_with fail
  go_loopw [3] (fun v3 wr=>∃k:Nat,k<=l.length/\v3= .int .i64 k/\Hid (∀j,j<k->0<=l.getD j 0/\l.getD j 0<=1000000000000)/\w=wr) (fun v3 _=>l.length-(intOf v3).toNat)
  case atStart=>exact⟨0,by omega,rfl,yq (fun j hj=>by omega),rfl⟩
  case round=>
   obtain⟨k,hk,rfl,hno,rfl⟩:=hrel;by_cases hlt:k<l.length
   ·rcases Hc.out with h0|⟨b,off,rfl,hbw,hx⟩
    ·omega
    have x0:=hx k hlt;have d1:(k:Int)<(l.length:Int):=by omega
    have HKL:=yq hlt;clear hx hlt;obtain⟨dk,hdk⟩:∃dk,l.getD k 0=dk:=⟨_,rfl⟩;rw [hdk]at x0;have HDK:=yq hdk;clear hdk;by_cases h1:dk<0
    ·exact Rt
    ·by_cases h2:dk > 1000000000000
     ·exact Rt
     ·go_wp2_with fail
      go_roundw
      case rel=>exact⟨k+1,HKL.out,by go_num,yq (fun j hj=>by
       by_cases ej:j=k
       ·subst ej;rw [HDK.out];omega
       ·exact hno.out j zb),zF⟩
      case measure=>simp [intOf];have:=HKL.out;omega
   ·obtain rfl:k=l.length:=by omega
    go_wp2_with fail
    go_returns
    exact⟨av (HGOOD.out zb hno.out).symm,zF⟩
 ·go_enter func96,ntmps96
  go_wp2_with fail
  go_returns
  exact⟨av (by unfold bi;rw [decide_eq_false zb];rfl),zF⟩
end Go.Proofs.YteildlpchhlchaaGreatDoor
