import Derived.Test.YtlheailebbngiaaGreatDoorREvX
set_option linter.all false
set_option maxHeartbeats 16000000
set_option maxRecDepth 1000000
namespace Go.Proofs.YtlheailebbngiaaGreatDoor
open Go.Proofs.Tryz List
open Go.RowKit
theorem ay.growsG{w w':World}{v:Value}{zs:List Int}(h:ay w v zs)(hg:w.Grows w'):ay w' v zs:=by
 obtain⟨bs,d,rfl⟩:=hg;exact h.grow bs d
theorem ay.list{w:World}{v:Value}{zs:List Int}{s:Nat}(h:ay w v zs)(hs:w.heap.size<=s):aJ w s v zs:=by
 obtain⟨h0,-,a,cap,hv,h1⟩:=h;refine⟨h0,a,cap,hv,h1.imp id ?_⟩;rintro⟨b,off,ha,hb,hc⟩;exact⟨b,off,ha,hb,by omega,hc⟩
theorem mY(zs:List Int)(env:List (ByteArray × Int))(dim:Int):(lM zs env dim).size<=1000000:=by
 have h1:=uN zs env 5 dim 0 24;have h2:=jE zs env dim (aS zs env 5 dim 0 24).2.1 0;have hc5:aQ 5=2307:=rfl;unfold lM
 split<;>omega
theorem vY(R:VwR):dN (lX R):=by
 have h:=Jn R;unfold Vw.ok at h;simp only [Bool.and_eq_true]at h;have:=aF h.1.2.1;exact⟨⟨by omega,by omega⟩,⟨by omega,by omega⟩⟩
def Ru(env:List (ByteArray × Int)):Prop:=∀p∈env,bV p.1.toList=0/\fe p.1=true/\1<=p.2/\p.2<=4/\dP env p.1=some p.2
theorem Ru.nil:Ru []:=fun p hp=>by cases hp
theorem NF{n d:Int}(h2:1<=d)(he:mkE n d=0):mkD n d ∣ d:=by
 unfold mkE kK at he;unfold mkD mf;rw [if_neg ze]at he ⊢
 split at he<;>rename_i hc
 ·simp at he
 rw [if_neg hc];obtain⟨b,rfl⟩:=Int.eq_ofNat_of_zero_le (show 0<=d by omega);rw [Int.natAbs_natCast];exact Int.natCast_dvd_natCast.2 (Nat.div_dvd_of_dvd (Nat.gcd_dvd_right _ _))
theorem Qb{n d:Int}(h1:0<=n)(h2:1<=d):mkN n d<=n:=by
 unfold mkN ku;rw [if_neg ze,decide_eq_false ze,decide_eq_false ze]
 split
 ·omega
 ·have:=Nat.div_le_self n.natAbs (Nat.gcd n.natAbs d.natAbs);simp only [bne_self_eq_false,Bool.false_eq_true,if_false];omega
theorem Qe{n d m:Int}(h1:0<=n)(h2:n<=1000000)(h3:1<=d)(h4:d ∣ 10000)(h5:2<=m/\m<=4):dL (mkN n d) (mkD n d) m=true:=by
 have hd:d<=10000:=Int.le_of_dvd ze h4;have he:=wM h1 ze h3 ze;have hv:=A8 (show d≠0 by omega) he;have hb:=aF hv;have hn:=uo h1 h3;have hl:=Qb h1 h3;have hdv:mkD n d ∣ 10000:=Int.dvd_trans (NF h3 he) h4;have hq:mkN n d / mkD n d<=mkN n d:=Int.ediv_le_self _ hn;unfold dL;rw [hv,decide_eq_true hn,decide_eq_true (Int.emod_eq_zero_of_dvd hdv),decide_eq_true h5.1,decide_eq_true h5.2,decide_eq_true ze];rfl
theorem num_ok(zs:List Int)(p:Nat){m:Int}(h5:2<=m/\m<=4):dL (Gs zs p) (Gt zs p) m=true:=by
 have h1:=fB zs p 4000 ze;have h2:=fB zs (p+1) 7 ze;unfold Gs Gt;refine Qe h1.1 ze ?_ ?_ h5
 all_goals
  generalize aM zs (p+1) 7=i at *;rcases(show i=0\/i=1\/i=2\/i=3\/i=4\/i=5\/i=6 by omega)with rfl|rfl|rfl|rfl|rfl|rfl|rfl<;>decide
def Qu(env:List (ByteArray × Int))(dim:Int)(e:Ex):Prop:=aN e=true/\aD env e=(dim,0)
def vz(env:List (ByteArray × Int))(ds:List Int)(l:List Ex):Prop:=aZ l=true/\bf env l=(ds,0)/\l.length=ds.length
theorem vz.nil(env:List (ByteArray × Int)):vz env [] []:=⟨rfl,rfl,rfl⟩
theorem vz.cons{env:List (ByteArray × Int)}{d:Int}{ds:List Int}{e:Ex}{l:List Ex}(h:Qu env d e)(g:vz env ds l):vz env (d::ds) (e::l):=by
 refine⟨by rw [aZ,h.1,g.1];rfl, ?_,by simp [g.2.2]⟩;rw [bf,h.2,g.2.1];simp
end Go.Proofs.YtlheailebbngiaaGreatDoor
namespace Go
section
variable {P : Program} {ops : Array Oper} {Q : Exit -> Act -> World -> Prop} {S : World -> Prop} {T : List Nat} {f : Nat} {oi : Oper} {v : Value} {listed : Array Bool} {a a' : Act} {w : World}
theorem TS.skB(i:Nat)(hS:S w)(h:TS P ops Q S T f (listed.setIfInBounds i true) a' w)
 (hi:ops[i]? =some oi:=by rfl) (hs:Region.noSelect ops=true:=by kernel_rfl) (hf:Region.free .any ops listed i=true:=by kernel_rfl) (hr:(Region.ready .any ops listed).contains i=true:=by kernel_rfl) (hit:i∉T:=by decide)
 (hQ:∀c a w,Q (.panic c) (a.put oi.dst v) w->Q (.panic c) a w:=by exact fun _ _ _ h=>h) (hw:Region.wanted oi (yielded ops a.tmps)=true:=by rfl) (hy:∀w,S w->(execOp a.eval oi).run P w= .ok (.value v) w:=by intro wS hSw;(try dsimp only at hSw);go_simp;rfl)
 (ha:a.put oi.dst v=a':=by first|(simp only [nS];rfl)|rfl):TS P ops Q S T (f+1) listed a w:=by
 subst ha;exact TS.takeV hi hs hf hr hit hQ hw hS hy h
end
def Rel(Y:World)(row:Option Nat)(w:World):Prop:=Y.heap.size<=w.heap.size/\∀k,k<Y.heap.size->some k≠row->w.heap[k]? =Y.heap[k]?
section
variable {Y w w' : World} {row : Option Nat}
theorem Rel.refl(Y:World)(row:Option Nat):Rel Y row Y:=⟨Nat.le_refl _,fun _ _ _=>rfl⟩
theorem Rel.grows(h:Rel Y row w)(hg:w.Grows w'):Rel Y row w':=⟨Nat.le_trans h.1 hg.below.size,fun k h1 h2=>(hg.below.block k (Nat.lt_of_lt_of_le h1 h.1)).trans (h.2 k h1 h2)⟩
theorem Rel.grown(h:Rel Y row w)(hg:w.grownBy w' row):Rel Y row w':=⟨Nat.le_trans h.1 hg.size,fun k h1 h2=>(hg.block k (Nat.lt_of_lt_of_le h1 h.1) h2).trans (h.2 k h1 h2)⟩
theorem Rel.cell(h:Rel Y row w){b o:Nat}(hb:b<Y.heap.size)(hr:some b≠row):w.cell? ⟨b,o,none⟩=Y.cell? ⟨b,o,none⟩:=World.cell?_of_block (h.2 b hb hr)
end
end Go
namespace Go.Proofs.YtlheailebbngiaaGreatDoor
open Go.Proofs.Tryz List
open Go.RowKit
theorem EE(op:Int)(x:Val)(b o cp:Nat)(w:World)(hx:x.ok=true)(h4:4<=op)(h6:op<=6)(hres:ax op [x.dim]≠0)(hb:b<w.heap.size)
 (c0:w.cell? ⟨b,o,none⟩=some (.int .i64 x.dim)) (c1:w.cell? ⟨b,o+1,none⟩=some (.bool x.yes)) (c2:w.cell? ⟨b,o+2,none⟩=some (.int .i64 x.n)) (c3:w.cell? ⟨b,o+3,none⟩=some (.int .i64 x.d)) :
 Calls prog 120 #[.int .i64 op,.slice (some ⟨b,o,none⟩) 1 cp] w (ApP (op1 op x) w):=by
 obtain⟨i0,hi,hz0,hz1,hz2⟩:=info_parts Bu;have hdx:=Val.ok_dim hx;have hrg:=Val.ok_rng hx;have HA:=zh (fun w=>CO x.n x.d w hrg.1.1 hrg.1.2 hrg.2.1 hrg.2.2);have HS:=zh (fun w=>EI x.n x.d w hrg.1.1 hrg.1.2 hrg.2.1 hrg.2.2);unfold frI at HS;unfold frV at HA;have HAN:Hid (((1:Nat):Int)=bi op):=zh (by unfold bi;rw [if_neg ze,if_pos ze];rfl);have HDX:=zh hdx;have HOP:Hid (op=4\/op=5\/op=6):=zh ze
 have HNB:Hid (op=4\/op=6->az x.n x.d=true/\ax op [x.dim]=x.dim):=zh (fun h=>by
  have hr:ax op [x.dim]=if x.dim≠1 then x.dim else 0:=by rcases h with rfl|rfl<;>rfl
  rw [hr]at hres ⊢
  split at hres<;>rename_i hd
  ·rw [if_pos hd];exact⟨(Val.ok_num hx hd).2.2.2,rfl⟩
  ·exact absurd rfl hres)
 have HX1:Hid (op=5->ax op [x.dim]=1):=zh (fun h=>by
  subst h;have hr:ax 5 [x.dim]=if x.dim=1 then 1 else 0:=rfl
  rw [hr]at hres ⊢
  split at hres<;>rename_i hd
  ·rw [if_pos hd]
  ·exact absurd rfl hres)
 clear hdx hres hx hrg h4 h6
 go_enter func120,ntmps120
 go_wp2_with fail
 go_loopw [6,7] (fun v6 v7 wr=>∃(k:Nat) (vb:Value),vb=v6/\k<=1/\v7= .int .i64 k/\Below (w.heap.size+1) (w.alloc (.cells #[.int .i64 0,.bool false,.int .i64 0,.int .i64 0] 34)) wr/\wr.ownsRow (w.heap.size+1) 3 1 vb k (([x.dim].map (Value.int .i64)).take k)) (fun _ v7 _=>1-(intOf v7).toNat)
 case atStart=>exact⟨0,_,rfl,by omega,rfl,.refl _ _,World.ownsRow_nil _ _ _ _⟩
 case round=>
  obtain⟨k,vb,rfl,hk,rfl,hB,hown⟩:=hrel;have HB:=zh hB;have HO:=zh hown;have hsW:w.heap.size+1<=wr.heap.size:=by have:=hB.size;simpa using this
  have hbr:b<wr.heap.size:=by omega
  have hcc:∀j u,w.cell? ⟨b,j,none⟩=some u->wr.cell? ⟨b,j,none⟩=some u:=fun j u h=>(hB.cell (p:=⟨b,j,none⟩) (by show b<_;omega)).trans ((World.cell?_alloc_lt w _ ⟨b,j,none⟩ hb).trans h);by_cases hlt:k<1
  ·obtain rfl:k=0:=by omega
   have x0:=hcc _ _ c0;clear hlt hB hown hcc c0 c1 c2 c3
   go_wp2_with (at_builtin;refine wpList_append_own _ rfl _ _ 24 rfl (w.heap.size+1) 3 i0 (.int .i64 0) 1 8 underlying24 hi hz0 hz1 hz2 rfl zo _ _ _ rfl (HO.out.alloc _) ⟨wr.heap.size,0,none⟩ 1 1 [.int .i64 x.dim] rfl rfl ?c1 ?c2 ?c3 ?c4 ?c5 ?_)
   case c1=>exact aK _ [.int .i64 x.dim] _ _ zg
   case c2=>intro u hu;simp at hu;subst hu;rfl
   case c3=>decide
   case c4=>decide
   case c5=>simp;try omega
   intro v' w1 hown' hgrow _;have HB1:=zh ((show Below (w.heap.size+1) (w.alloc (.cells #[.int .i64 0,.bool false,.int .i64 0,.int .i64 0] 34)) _ from by have:=HB.out;(exact ag)).grown hgrow zB (fun k hk=>(HO.out.lt k hk).1));have HO1:=zh hown';clear hown' hgrow
   go_wp2_with fail
   go_roundw
   case rel=>exact⟨1,_,rfl,by omega,by first|rfl|go_num,HB1.out,HO1.out⟩
   case measure=>simp [intOf]
  ·obtain rfl:k=1:=by omega
   obtain⟨g,cap,rfl⟩:∃g cap,vb= .slice (some ⟨g,0,none⟩) 1 cap:=by
    rcases oZ hown with ⟨-,h⟩|⟨g,cap,rfl,-⟩
    ·omega
    ·exact⟨g,cap,rfl⟩
   have HOW:Hid (wr.ownsRow (w.heap.size+1) 3 1 (.slice (some ⟨g,0,none⟩) [x.dim].length cap) [x.dim].length ([x.dim].map (Value.int .i64))):=zh hown;have HRS:=zh (fun w' (hg:wr.Grows w')=>tO op [x.dim] (w.heap.size+1) g cap w' (by have:=HOP.out;omega) (by have:=HOP.out;omega) HAN.out (by intro z hz;have:=HDX.out;simp at hz;omega) (bL HOW.out hg));unfold fM at HRS;obtain⟨rd,hrd⟩:∃rd,ax op [x.dim]=rd:=⟨_,rfl⟩;rw [hrd]at HRS HNB HX1;clear hrd hown hcc;obtain⟨bs0,d0,rfl⟩:World.Grows (w.alloc (.cells #[.int .i64 0,.bool false,.int .i64 0,.int .i64 0] 34)) wr:=.of_below (by simpa using HB.out);clear hB HB HO;have hop:=HOP.out;rcases hop with rfl|rfl|rfl
   ·obtain⟨hv,rfl⟩:=HNB.out (.inl rfl);have hn:iZ x.n x.d=(-x.n,x.d,0):=by unfold iZ;rw [if_pos hv]
    have HR:Hid (op1 4 x=(.num x.dim (-x.n) x.d,0)):=zh (by show eQ x.dim (iZ x.n x.d)=_;rw [hn];rfl);rw [hn]at HA;clear hv hn
    go_wp2_with (first
     |(go_at_call 148;refine(HRS.out _ aj).mono ?_;rintro e' w' ⟨rfl,bs,d,rfl⟩)
     |(go_at_call 149;refine(HA.out _).mono ?_;rintro e' w' ⟨rfl,bs2,d2,rfl⟩))
    go_returns
    exact⟨by rw [HR.out];rfl,aj⟩
   ·obtain rfl:=HX1.out rfl;have HR:Hid (op1 5 x=(.truth (!x.yes),0)):=zh rfl
    go_wp2_with (go_at_call 148;refine(HRS.out _ aj).mono ?_;rintro e' w' ⟨rfl,bs,d,rfl⟩)
    go_returns
    exact⟨by rw [HR.out];rfl,aj⟩
   ·obtain⟨hv,rfl⟩:=HNB.out (.inr rfl);have hn:(eO x.n x.d).2=0:=by unfold eO;rw [if_pos hv]
    have HR:Hid (op1 6 x=(.num x.dim (eO x.n x.d).1 1,0)):=zh (by show eQ x.dim ((eO x.n x.d).1,1,(eO x.n x.d).2)=_;rw [hn];rfl);rw [hn]at HS;clear hv hn;generalize(eO x.n x.d).1=fl at *
    go_wp2_with (first
     |(go_at_call 148;refine(HRS.out _ aj).mono ?_;rintro e' w' ⟨rfl,bs,d,rfl⟩)
     |(go_at_call 150;refine(HS.out _).mono ?_;rintro e' w' ⟨rfl,bs2,d2,rfl⟩))
    go_returns
    exact⟨by rw [HR.out];rfl,aj⟩
end Go.Proofs.YtlheailebbngiaaGreatDoor
