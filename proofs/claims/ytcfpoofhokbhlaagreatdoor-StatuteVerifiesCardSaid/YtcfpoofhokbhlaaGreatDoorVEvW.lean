import Derived.Test.YtcfpoofhokbhlaaGreatDoorVInE
import Derived.Test.YtcfpoofhokbhlaaGreatDoorVSyN
set_option linter.all false
set_option maxHeartbeats 16000000
set_option maxRecDepth 1000000
namespace Go.Proofs.YtcfpoofhokbhlaaGreatDoor
open Tryz List
open Go.RowKit
def bi(w:World)(v:Value)(l:List (ByteArray × Val)):Prop:=lu.Lies l w.heap.size w v l.length
theorem bi.below{w w':World}{v:Value}{l:List (ByteArray × Val)}{n:Nat}(h:bi w v l)(hn:w.heap.size<=n)(hb:Below n w w'):bi w' v l:=by
 have h2:=lu.Lies.below h (hb.mono hn);obtain⟨h0,a,cap,hv,h1⟩:=h2;exact⟨h0,a,cap,hv,h1.imp id fun⟨b,off,ha,hlt,hc⟩=>⟨b,off,ha,Nat.lt_of_lt_of_le hlt hb.size,hc⟩⟩
theorem bi.grows{w w':World}{v:Value}{l:List (ByteArray × Val)}(h:bi w v l)(hg:w.Grows w'):bi w' v l:=h.below (Nat.le_refl _) hg.below
def evC(v:Vw)(y se:Value):Array Value:=#[.int .i64 v.age,.int .i64 v.year,.int .i64 v.children,.int .i64 v.insured,.int .i64 v.worked,.int .i64 v.voluntary,.int .i64 v.service,.int .i64 v.equated,.int .i64 v.raising,.int .i64 v.resident,.int .i64 v.bn,.int .i64 v.bd,y,se]
structure sw(w:World)(E:Nat)(v:Vw)(y:Value)(env:List (ByteArray × Val))(se:Value):Prop where
 blk:w.heap[E]? =some (.cells (evC v y se) 119 (0,0))
 yr:bI w y v.years
 st:bi w se env
theorem sw.lt{w:World}{E:Nat}{v:Vw}{y:Value}{env:List (ByteArray × Val)}{se:Value}(h:sw w E v y env se):E<w.heap.size:=(Array.getElem?_eq_some_iff.1 h.blk).1
theorem sw.grows{w w':World}{E:Nat}{v:Vw}{y:Value}{env:List (ByteArray × Val)}{se:Value}(h:sw w E v y env se)(hg:w.Grows w'):sw w' E v y env se:=
 ⟨(hg.below.block E h.lt).trans h.blk,h.yr.grows hg,h.st.grows hg⟩
def EvR(r:Val × Int)(w:World)(e:Ending)(w':World):Prop:=∃x:Val,e= .returned (.tuple #[dY x,.int .i64 r.2])/\(r.2=0->x=r.1)/\w.Grows w'
theorem evR{r:Val × Int}{x:Val}{c:Int}{w w':World}(hc:c=r.2)(hx:c=0->x=r.1)(hg:w.Grows w'):EvR r w (.returned (.tuple #[.agg #[.int .i64 x.dim,.bool x.yes,.int .i64 x.n,.int .i64 x.d],.int .i64 c])) w':=by
 subst hc;exact⟨x,rfl,hx,hg⟩
theorem kP{r:Val × Int}{m n d c:Int}{b:Bool}{w w':World}(hc:c=r.2)(hx:c=0->(⟨m,b,n,d⟩:Val)=r.1)(hg:w.Grows w'):EvR r w (.returned (.tuple #[.agg #[.int .i64 m,.bool b,.int .i64 n,.int .i64 d],.int .i64 c])) w':=evR (x:=⟨m,b,n,d⟩) hc hx hg
theorem aB.arg_cells{S:Nat->Prop}{w:World}{e:Ex}{a:Option Addr}{cap:Nat}(h:aB S w e (.slice a e.args.length cap))(hn:0<e.args.length):∃b off,a=some ⟨b,off,none⟩/\b<w.heap.size/\
 ∀k,k<e.args.length->∃ak ck,MZ w b (off+k*6) (e.arg k) (.slice ak (e.arg k).args.length ck)/\aB S w (e.arg k) (.slice ak (e.arg k).args.length ck):=by
 generalize hv:Value.slice a e.args.length cap=v at h
 cases h with
 |mk _ a' cap' vs hr hc hs=>
  cases hv;rcases hc with h0|⟨b,off,rfl,-,hb,hx⟩
  ·omega
  ·refine⟨b,off,rfl,hb,fun k hk=>?_⟩;obtain⟨ak,ck,hvk⟩:=(hs k hk).form0;exact⟨ak,ck,hvk ▸ hx k hk,hvk ▸ hs k hk⟩
theorem uq{v:Vw}(hv:v.ok=true){env:List (ByteArray × Val)}(hE:∀p∈env,p.2.ok=true){s:ByteArray}(h:(eu (aS env) s).2=0):(jU v env s).2=0:=by
 rcases FZ hv hE h with h1|⟨-,h2⟩
 ·exact h1.1
 ·unfold jU at h2 ⊢
  split<;>rename_i hx
  ·rfl
  ·rw [hx]at h2;dsimp only at h2
   split<;>rename_i hy
   ·rfl
   ·rw [hy]at h2;dsimp only at h2;omega
open Go.RowKit Go.Shelf
attribute [local go_sem] Oper.semAt_some
theorem CP(v:Vw)(y:Value)(s:ByteArray)(w:World)(hr:dV v)(hy:bI w y v.years):Calls prog 123 #[vwV v y,.string s] w fun r w'=>r= .returned (inV (dF v s))/\w.Grows w':=by
 by_cases h:bQ s.toList=0\/v.ok=false
 ·exact Cb v y s w hr hy h
 ·simp only [not_or,Bool.not_eq_false]at h;exact Ca v y s w hr hy h.1 h.2
def KY(R:Act->World->Prop):Exit->Act->World->Prop
 | .normal,a,w=>R a w
 |_,_,_=>False
theorem GG{P:Program}{c:Code}{Q:Exit->Act->World->Prop}{a:Act}{w:World}(h:c.wp P (KY (Q .normal)) a w):c.wp P Q a w:=
 Go.wp_mono h fun e a w h=>by cases e<;>first|exact h|exact h.elim
theorem CL(v:Vw)(y se:Value)(env:List (ByteArray × Val))(E:Nat)(s:ByteArray)(x:Val)(w:World)(hev:sw w E v y env se)(hr:dV v)(hx:dF v s=some x) :
 Calls prog 94 #[.pointer (some ⟨E,0,none⟩),.string s] w fun r w'=>r= .returned (dY x)/\w.Grows w':=by
 have hE:=hev.lt;have hblk:=hev.blk;have HY:=yq hev.yr;have HI:=yq (fun w' (hg:w.Grows w')=>CP v y s w' hr (HY.out.grows hg));unfold evC at hblk;have e0:w.cell? ⟨E,0,none⟩=some (.int .i64 v.age):=cell_of_row _ _ _ _ _ _ hblk;have e1:w.cell? ⟨E,1,none⟩=some (.int .i64 v.year):=cell_of_row _ _ _ _ _ _ hblk;have e2:w.cell? ⟨E,2,none⟩=some (.int .i64 v.children):=cell_of_row _ _ _ _ _ _ hblk;have e3:w.cell? ⟨E,3,none⟩=some (.int .i64 v.insured):=cell_of_row _ _ _ _ _ _ hblk;have e4:w.cell? ⟨E,4,none⟩=some (.int .i64 v.worked):=cell_of_row _ _ _ _ _ _ hblk;have e5:w.cell? ⟨E,5,none⟩=some (.int .i64 v.voluntary):=cell_of_row _ _ _ _ _ _ hblk;have e6:w.cell? ⟨E,6,none⟩=some (.int .i64 v.service):=cell_of_row _ _ _ _ _ _ hblk;have e7:w.cell? ⟨E,7,none⟩=some (.int .i64 v.equated):=cell_of_row _ _ _ _ _ _ hblk;have e8:w.cell? ⟨E,8,none⟩=some (.int .i64 v.raising):=cell_of_row _ _ _ _ _ _ hblk;have e9:w.cell? ⟨E,9,none⟩=some (.int .i64 v.resident):=cell_of_row _ _ _ _ _ _ hblk;have e10:w.cell? ⟨E,10,none⟩=some (.int .i64 v.bn):=cell_of_row _ _ _ _ _ _ hblk;have e11:w.cell? ⟨E,11,none⟩=some (.int .i64 v.bd):=cell_of_row _ _ _ _ _ _ hblk;have e12:w.cell? ⟨E,12,none⟩=some y:=cell_of_row _ _ _ _ _ _ hblk;have e13:w.cell? ⟨E,13,none⟩=some se:=cell_of_row _ _ _ _ _ _ hblk;obtain⟨a,c,rfl⟩:∃a c,y= .slice a v.years.length c:=by obtain⟨-,a,c,h,-⟩:=hev.yr;exact⟨a,c,h⟩
 obtain⟨sa,sc,rfl⟩:∃a c,se= .slice a env.length c:=by obtain⟨-,a,c,h,-⟩:=hev.st;exact⟨a,c,h⟩
 rw [hx]at HI;unfold inV dY vwV at HI;unfold dY;obtain⟨xm,xy,xn,xd⟩:=x;dsimp only at HI ⊢;clear hblk hev hr hx
 go_enter func94,ntmps94
 go_wp2_with fail
 obtain⟨W,hW⟩:∃W,((w.alloc (.cells #[.string s] 9)).alloc (.cells #[.int .i64 0,.bool false,.int .i64 0,.int .i64 0] 51))=W:=⟨_,rfl⟩;have hbw:Below w.heap.size w W:=by rw [<-hW];(exact af)
 have hsz:W.heap.size=w.heap.size+2:=by rw [<-hW];simp
 have hEW:E<W.heap.size:=by omega
 rw [hW];have hcE:∀j,W.cell? ⟨E,j,none⟩=w.cell? ⟨E,j,none⟩:=fun j=>hbw.cell (p:=⟨E,j,none⟩) hE;rw [<-hcE]at e0 e1 e2 e3 e4 e5 e6 e7 e8 e9 e10 e11 e12 e13;have n0:W.cell? ⟨w.heap.size,0,none⟩=some (.string s):=by rw [<-hW];simp [go_sem]
 have hz0:w.heap.size<W.heap.size:=by omega
 have HW:=yq hW;clear hW hcE;refine TS.begin [11] (World.Grows _) zf zf aL (fun hS=>?_);refine kq 0 hS ?_;refine kq 1 hS ?_;refine kq 2 hS ?_;refine kq 3 hS ?_;refine kq 4 hS ?_;refine TS.two (i:=5) (k:=9) zf rfl rfl (fun K1 hK1=>?_) (fun K1 hK1=>?_)
 focus
  go_simp
  go_at_call 123
  refine gvq (HI.out _ (.of_below af)) ?_;intro bA dA;refine TS.go hK1 zQ (fun hS=>?_);clear hK1 K1
  (try simp only [nS])
  refine kq 6 hS ?_;refine kq 7 hS ?_;refine kq 8 hS ?_;refine TS.one (i:=9) zf rfl (fun K1 hK1=>?_)
  go_simp
  refine TS.go hK1 (.of_below af) (fun hS=>?_);clear hK1 K1
  (try simp only [nS])
 rotate_left
 focus
  go_simp
  refine TS.go hK1 (.of_below af) (fun hS=>?_);clear hK1 K1
  (try simp only [nS])
  refine TS.one (i:=5) zf rfl (fun K1 hK1=>?_)
  go_simp
  go_at_call 123
  refine gvq (HI.out _ (.of_below af)) ?_;intro bA dA;refine TS.go hK1 zQ (fun hS=>?_);clear hK1 K1
  (try simp only [nS])
  refine kq 6 hS ?_;refine kq 7 hS ?_;refine kq 8 hS ?_
 rotate_left
 all_goals
  refine TS.one (i:=10) zf rfl (fun K1 hK1=>?_)
  go_simp
  refine TS.go hK1 (.of_below af) (fun hS=>?_);clear hK1 K1
  (try simp only [nS])
  refine TS.weB 11 ?_;clear hS;have hW:=HW.out;subst hW;clear hbw hsz hEW e0 e1 e2 e3 e4 e5 e6 e7 e8 e9 e10 e11 e12 e13 n0 hz0 HW
  go_wp2_with fail
  go_returns
  exact⟨rfl,.of_below af⟩
structure iB(B:Nat)(s:ByteArray)(N:Nat)(x:Val)(W:World):Prop where
 nm:W.heap[B]? =some (.cells #[.string s] 9 (0,0))
 res:W.heap[B+1]? =some (.cells #[.int .i64 x.dim,.bool x.yes,.int .i64 x.n,.int .i64 x.d] 51 (0,0))
 size:N<=W.heap.size
theorem iB.own{B N:Nat}{s:ByteArray}{x:Val}{X Y:World}{row:Option Nat}(h:iB B s N x X)(hg:X.grownBy Y row)(hr:∀r,row=some r->∃o:Obj,X.heap[r]? =some o/\o.isCells=false):iB B s N x Y:=
 ⟨(grownBy_keeps_cells hg hr h.nm rfl).trans h.nm,(grownBy_keeps_cells hg hr h.res rfl).trans h.res,Nat.le_trans h.size hg.size⟩
theorem iB.alloc{B N:Nat}{s:ByteArray}{x:Val}{X:World}(h:iB B s N x X)(o:Obj):iB B s N x (X.alloc o):=h.own (World.grownBy_alloc X o none) (fun r e=>by cases e)
theorem iB.below{B N:Nat}{s:ByteArray}{x:Val}{X Y:World}(h:iB B s N x X)(hN:B+2<=X.heap.size)(hb:Below X.heap.size X Y):iB B s Y.heap.size x Y:=
 ⟨(hb.block _ ze).trans h.nm,(hb.block _ ze).trans h.res,Nat.le_refl _⟩
def MQ(B:Nat)(s:ByteArray)(L:List (ByteArray × Val))(w:World)(N:Nat)(c:Code)(pre:List (Fin L.length))(W:World):Prop:=
 (c= .ret/\∃ini i,pre=ini++[i]/\(∀j∈ini,stN L j.1≠s)/\stN L i.1=s/\iB B s N (stV L i.1) W)/\Below w.heap.size w W
theorem CO(v:Vw)(y se:Value)(env:List (ByteArray × Val))(E:Nat)(s:ByteArray)(w:World)(hev:sw w E v y env se)(hr:dV v)(hx:dF v s=none) :
 Calls prog 94 #[.pointer (some ⟨E,0,none⟩),.string s] w fun r w'=>r= .returned (dY ((dK env s).getD .zero))/\w.Grows w':=by
 have hE:=hev.lt;have hblk:=hev.blk;have HY:=yq hev.yr;have HST:=yq hev.st;have HI:=yq (fun w' (hg:w.Grows w')=>CP v y s w' hr (HY.out.grows hg));unfold evC at hblk;have e0:w.cell? ⟨E,0,none⟩=some (.int .i64 v.age):=cell_of_row _ _ _ _ _ _ hblk;have e1:w.cell? ⟨E,1,none⟩=some (.int .i64 v.year):=cell_of_row _ _ _ _ _ _ hblk;have e2:w.cell? ⟨E,2,none⟩=some (.int .i64 v.children):=cell_of_row _ _ _ _ _ _ hblk;have e3:w.cell? ⟨E,3,none⟩=some (.int .i64 v.insured):=cell_of_row _ _ _ _ _ _ hblk;have e4:w.cell? ⟨E,4,none⟩=some (.int .i64 v.worked):=cell_of_row _ _ _ _ _ _ hblk;have e5:w.cell? ⟨E,5,none⟩=some (.int .i64 v.voluntary):=cell_of_row _ _ _ _ _ _ hblk;have e6:w.cell? ⟨E,6,none⟩=some (.int .i64 v.service):=cell_of_row _ _ _ _ _ _ hblk;have e7:w.cell? ⟨E,7,none⟩=some (.int .i64 v.equated):=cell_of_row _ _ _ _ _ _ hblk;have e8:w.cell? ⟨E,8,none⟩=some (.int .i64 v.raising):=cell_of_row _ _ _ _ _ _ hblk;have e9:w.cell? ⟨E,9,none⟩=some (.int .i64 v.resident):=cell_of_row _ _ _ _ _ _ hblk;have e10:w.cell? ⟨E,10,none⟩=some (.int .i64 v.bn):=cell_of_row _ _ _ _ _ _ hblk;have e11:w.cell? ⟨E,11,none⟩=some (.int .i64 v.bd):=cell_of_row _ _ _ _ _ _ hblk;have e12:w.cell? ⟨E,12,none⟩=some y:=cell_of_row _ _ _ _ _ _ hblk;have e13:w.cell? ⟨E,13,none⟩=some se:=cell_of_row _ _ _ _ _ _ hblk;obtain⟨a,c,rfl⟩:∃a c,y= .slice a v.years.length c:=by obtain⟨-,a,c,h,-⟩:=hev.yr;exact⟨a,c,h⟩
 obtain⟨sa,sc,rfl⟩:∃a c,se= .slice a env.length c:=by obtain⟨-,a,c,h,-⟩:=hev.st;exact⟨a,c,h⟩
 rw [hx]at HI;unfold inV dY vwV Val.zero at HI;dsimp only at HI;clear hblk hev hr hx;refine(callsIn_wide (n:=6)).1 ?_;refine callsIn_of_wp_marks func94 rfl trivial ?_ rfl;simp only [ntmps94,size_toArray,length_cons,length_nil,Nat.reduceAdd,Nat.reduceSub,Array.replicate_succ,Array.replicate_zero,push_toArray,append_toArray,nil_append,cons_append]
 gi_wp2_with (fail)
 refine wpIn_wide.2 (GG ?_);obtain⟨W,hW⟩:∃W,((w.alloc (.cells #[.string s] 9)).alloc (.cells #[.int .i64 0,.bool false,.int .i64 0,.int .i64 0] 51))=W:=⟨_,rfl⟩;have hbw:Below w.heap.size w W:=by rw [<-hW];(exact af)
 have hsz:W.heap.size=w.heap.size+2:=by rw [<-hW];simp
 have hEW:E<W.heap.size:=by omega
 rw [hW];have hcE:∀j,W.cell? ⟨E,j,none⟩=w.cell? ⟨E,j,none⟩:=fun j=>hbw.cell (p:=⟨E,j,none⟩) hE;rw [<-hcE]at e0 e1 e2 e3 e4 e5 e6 e7 e8 e9 e10 e11 e12 e13;have n0:W.cell? ⟨w.heap.size,0,none⟩=some (.string s):=by rw [<-hW];simp [go_sem]
 have hz0:w.heap.size<W.heap.size:=by omega
 have HW:=yq hW;clear hW hcE;refine TS.begin [11] (World.Grows _) zf zf aL (fun hS=>?_);refine kq 0 hS ?_;refine kq 1 hS ?_;refine kq 2 hS ?_;refine kq 3 hS ?_;refine kq 4 hS ?_;refine TS.two (i:=5) (k:=9) zf rfl rfl (fun K1 hK1=>?_) (fun K1 hK1=>?_)
 ·go_simp
  go_at_call 123
  refine gvq (HI.out _ (.of_below af)) ?_;intro bA dA;refine TS.go hK1 zQ (fun hS=>?_);clear hK1 K1
  (try simp only [nS])
  refine kq 6 hS ?_;refine kq 7 hS ?_;refine kq 8 hS ?_;refine TS.one (i:=9) zf rfl (fun K1 hK1=>?_)
  go_simp
  refine TS.go hK1 (.of_below af) (fun hS=>?_);clear hK1 K1
  (try simp only [nS])
  refine TS.one (i:=10) zf rfl (fun K1 hK1=>?_)
  go_simp
  refine TS.go hK1 (.of_below af) (fun hS=>?_);clear hK1 K1
  (try simp only [nS])
  refine TS.weB 11 ?_;clear hS;unfold KY;dsimp only
  gi_wp2_with (refine⟨trivial, ?_⟩;gi_at_call 124;refine(Di Fence.wide _ trivial rfl _ _ _ _).mono ?_;rintro e w' ⟨rfl,rfl⟩)
  have hmW:iB w.heap.size s 0 .zero W:=by
   exact RO
  obtain⟨W0,hW0⟩:∃W0,(((W.grow bA dA).alloc (.cells #[.int .i64 0,.bool false,.int .i64 0,.int .i64 0] 51)).alloc (.cells #[.slice sa env.length sc] 44))=W0:=⟨_,rfl⟩;have hWW0:Below W.heap.size W W0:=by rw [<-hW0];(exact af)
  have hB0:Below w.heap.size w W0:=hbw.trans (hWW0.mono ze);have hm0:=hmW.below ze hWW0;have hbk:W0.cell? ⟨w.heap.size+2+bA.size+1,0,none⟩=some (.slice sa env.length sc):=by rw [<-hW0,World.cell?_alloc_at _ _ _ _ zG];rfl
  have hsz0:w.heap.size+2+bA.size+1<W0.heap.size:=by rw [<-hW0];simp;omega
  have hsz1:w.heap.size+2<W0.heap.size:=by rw [<-hW0];simp;omega
  rw [hW0];clear hW0;have HB0:=yq hB0;have HM0:=yq hm0;have HVW:=yq (HST.out.below (Nat.le_refl _) hB0)
  refine wpIn_rangeFunc_ownH (F:=Fence.wide) rfl ze (gf:=145) (lb:=#[.pointer (some ⟨w.heap.size+2+bA.size+1,0,none⟩)]) rfl trivial (enters_of func145 zf rfl)
   (rQ Fence.wide 5 trivial rfl ze (w.heap.size+2+bA.size+1) W0.heap.size (.slice sa env.length sc) env env.length W0 ze (Nat.le_refl _) hbk HVW.out) belowK_t (belowK_b (Nat.le_refl _)) (Below.refl _ _) (fun _=>rfl)
   (fun pre W=>(iB w.heap.size s W0.heap.size .zero W/\∀j∈pre,stN env j.1≠s)/\Below w.heap.size w W)
   (MQ w.heap.size s env w W0.heap.size)
   (OwnFrom.and (Own.from (fun s A B row hs hg hr=>⟨hs.1.own hg hr,hs.2⟩) _) (ownFrom_below (Nat.le_refl _) ze))
   (fun c=>OwnFrom.and (Own.from (fun s A B row hs hg hr=>by obtain⟨h1,ini,i,h2,h3,h5,h4⟩:=hs;exact⟨h1,ini,i,h2,h3,h5,h4.own hg hr⟩) _) (ownFrom_below (Nat.le_refl _) ze))
   ⟨⟨hm0,fun j hj=>by cases hj⟩,hB0⟩
   (fun i a' W=>∃Bx,w.heap.size+1<Bx/\W.heap[Bx]? =some (.cells #[.string (stN env i.1),.int .i64 (stV env i.1).dim,.bool (stV env i.1).yes,.int .i64 (stV env i.1).n,.int .i64 (stV env i.1).d] 53 (0,0))/\
    a'= {tmps:=#[.pointer (some ⟨E,0,none⟩),.string s,undef,.pointer (some ⟨w.heap.size,0,none⟩),.pointer (some ⟨w.heap.size+1,0,none⟩),.pointer (some ⟨w.heap.size+2+bA.size,0,none⟩),.bool false,undef,.pointer (some ⟨Bx,0,none⟩),.tuple #[.agg #[.int .i64 0,.bool false,.int .i64 0,.int .i64 0],.bool false],.pointer (some ⟨E,0,none⟩),.pointer (some ⟨E,0,none⟩),.pointer (some ⟨E,0,none⟩),.agg #[.int .i64 v.age,.int .i64 v.year,.int .i64 v.children,.int .i64 v.insured,.int .i64 v.worked,.int .i64 v.voluntary,.int .i64 v.service,.int .i64 v.equated,.int .i64 v.raising,.int .i64 v.resident,.int .i64 v.bn,.int .i64 v.bd,.slice a v.years.length c],.string s,.tuple #[.agg #[.int .i64 0,.bool false,.int .i64 0,.int .i64 0],.bool false],.agg #[.int .i64 0,.bool false,.int .i64 0,.int .i64 0],.bool false,.bool false,undef,.pointer (some ⟨E,0,none⟩),.pointer (some ⟨E,0,none⟩),.pointer (some ⟨E,13,none⟩),.slice sa env.length sc,.func (.func 145) #[] #[.pointer (some ⟨w.heap.size+2+bA.size+1,0,none⟩)],.int .i64 ((i.1:Nat):Int),lu.el env i.1,undef,undef,undef,undef,undef,undef,undef],defers:=[]})
   (fun i a' _ X Y row hs hg hr=>by obtain⟨Bx,h1,h2,h3⟩:=hs;exact⟨Bx,h1,(grownBy_keeps_cells hg (fun r e=>(hr r e).2) h2 rfl).trans h2,h3⟩)
   ?assign ?body ?done ?stop
  case assign=>
   rintro l pre i W K ⟨⟨hm,hpre⟩,hB1⟩ hK;unfold lu.el
   gi_wp2
   have hs1:=hm.size;refine hK _ _ ((KeepsOthers.alloc _ _).from _) ((Below.refl _ W).alloc (by first|omega|exact hB1.size) _) ⟨⟨hm.alloc _,hpre⟩,hB1.alloc hB1.size _⟩ ⟨W.heap.size,by omega,heap_alloc_new _ _,rfl⟩
  case body=>
   rintro l pre i a' W hl ⟨r,hr⟩ ⟨⟨hm,hpre⟩,hB1⟩ ⟨Bx,hBx,hbx,rfl⟩ hlt;have HM:=yq hm;have HB1:=yq hB1;have HP:=yq hpre;have q0:W.cell? ⟨Bx,0,none⟩=some (.string (stN env i.1)):=cell_of_row _ _ _ _ _ _ hbx;have q1:W.cell? ⟨Bx,1,none⟩=some (.int .i64 (stV env i.1).dim):=cell_of_row _ _ _ _ _ _ hbx;have q2:W.cell? ⟨Bx,2,none⟩=some (.bool (stV env i.1).yes):=cell_of_row _ _ _ _ _ _ hbx;have q3:W.cell? ⟨Bx,3,none⟩=some (.int .i64 (stV env i.1).n):=cell_of_row _ _ _ _ _ _ hbx;have q4:W.cell? ⟨Bx,4,none⟩=some (.int .i64 (stV env i.1).d):=cell_of_row _ _ _ _ _ _ hbx;have qn:W.cell? ⟨w.heap.size,0,none⟩=some (.string s):=cell_of_row _ _ _ _ _ _ hm.nm;have r0:W.cell? ⟨w.heap.size+1,0,none⟩=some (.int .i64 0):=cell_of_row _ _ _ _ _ _ hm.res;have r1:W.cell? ⟨w.heap.size+1,1,none⟩=some (.bool false):=cell_of_row _ _ _ _ _ _ hm.res;have r2:W.cell? ⟨w.heap.size+1,2,none⟩=some (.int .i64 0):=cell_of_row _ _ _ _ _ _ hm.res;have r3:W.cell? ⟨w.heap.size+1,3,none⟩=some (.int .i64 0):=cell_of_row _ _ _ _ _ _ hm.res;have rf:∀j,W.frozen? ⟨w.heap.size+1,j,none⟩=false:=fun j=>Joins.unfrozen_of_block hm.res j;unfold lu.el;generalize hN:stN env i.1=nk at *;generalize hD:stV env i.1=dk at *;have HN:=yq hN;have HD:=yq hD;clear hm hpre hB1 hbx hN hD;obtain⟨dm,dy,dn,dd⟩:=dk;dsimp only at q1 q2 q3 q4;by_cases he:nk=s
   ·have HE:=yq he;have he2:(nk.toList==s.toList)=true:=by rw [he];simp
    clear he
    gi_wp2
    have hs1:=HM.out.size;have hn:=dR [.int .i64 dm,.bool dy,.int .i64 dn,.int .i64 dd] 0 W (Next.refl (w.heap.size+1) W);have hb4:=dh [.int .i64 dm,.bool dy,.int .i64 dn,.int .i64 dd] 0 W _ HM.out.res;have bl0:=below_setCells (b:=w.heap.size+1) ze [.int .i64 dm,.bool dy,.int .i64 dn,.int .i64 dd] 0 W HB1.out;generalize hW2:W.setCells (w.heap.size+1) 0 [.int .i64 dm,.bool dy,.int .i64 dn,.int .i64 dd]=W2 at hn hb4 bl0;have hs2:=hn.size;have key:iB w.heap.size s W0.heap.size ⟨dm,dy,dn,dd⟩ W2:=⟨by rw [hn.blk _ ze ze];exact HM.out.nm,hb4,by omega⟩
    have kf:KeepsFrom W0.heap.size W W2:=⟨by omega,fun k o hBk hk _=>by
     have hkl:=(Array.getElem?_eq_some_iff.1 hk).1
     rw [hn.blk _ hkl ze];exact hk⟩
    rw [<-hW2]at key kf bl0;exact⟨kf,⟨rfl,pre,i,rfl,HP.out,by rw [HN.out];exact HE.out,by rw [HD.out];exact key⟩,bl0⟩
   ·have HE:=yq he
    have he2:(nk.toList==s.toList)=false:=by
     rw [beq_eq_false_iff_ne];exact fun h=>he (toList_inj h)
    clear he
    gi_wp2
    refine⟨KeepsFrom.refl _ _,Below.refl _ _,⟨⟨HM.out,fun j hj=>?_⟩,HB1.out⟩⟩;rcases mem_append.1 hj with h1|h1
    ·exact HP.out j h1
    ·obtain rfl:j=i:=by simpa using h1
     rw [HN.out];exact HE.out
  case done=>
   rintro D xs W hD rfl ⟨⟨hm,hpre⟩,hB1⟩ hK;have HM:=yq hm;have HB1:=yq hB1;have HP:=yq hpre;have r0:W.cell? ⟨w.heap.size+1,0,none⟩=some (.int .i64 0):=cell_of_row _ _ _ _ _ _ hm.res;have r1:W.cell? ⟨w.heap.size+1,1,none⟩=some (.bool false):=cell_of_row _ _ _ _ _ _ hm.res;have r2:W.cell? ⟨w.heap.size+1,2,none⟩=some (.int .i64 0):=cell_of_row _ _ _ _ _ _ hm.res;have r3:W.cell? ⟨w.heap.size+1,3,none⟩=some (.int .i64 0):=cell_of_row _ _ _ _ _ _ hm.res;have rf:∀j,W.frozen? ⟨w.heap.size+1,j,none⟩=false:=fun j=>Joins.unfrozen_of_block hm.res j;clear hm hB1 hpre
   gi_wp2
   have hDW:=(Array.getElem?_eq_some_iff.1 hK).1;have hs1:=HM.out.size;have hn:=dR [.int .i64 0,.bool false,.int .i64 0,.int .i64 0] 0 W (Next.refl (w.heap.size+1) W);have hb4:=dh [.int .i64 0,.bool false,.int .i64 0,.int .i64 0] 0 W _ HM.out.res;have bl0:=below_setCells (b:=w.heap.size+1) ze [.int .i64 0,.bool false,.int .i64 0,.int .i64 0] 0 W HB1.out;have hD2:D≠w.heap.size+1:=by omega
   have hK':(W.setCells (w.heap.size+1) 0 [.int .i64 0,.bool false,.int .i64 0,.int .i64 0]).heap[D]? =some (.deferred (some [])):=by rw [hn.blk D hDW hD2];exact hK
   have m2:iB w.heap.size s W0.heap.size .zero (W.setCells (w.heap.size+1) 0 [.int .i64 0,.bool false,.int .i64 0,.int .i64 0]):=⟨by rw [hn.blk _ ze ze];exact HM.out.nm,hb4,Nat.le_trans hs1 hn.size⟩;refine⟨by simp,.inl ⟨_,_,rfl,run_takeDeferred hK', ?_⟩⟩;have m3:=m2.own (grownBy_putObj' _ D (.deferred none)) (fun r e=>by cases e;exact⟨_,hK',rfl⟩);have bl3:=bl0.trans (belowK_b (w:=w) (Nat.le_refl _) _ D _ (.deferred none) ze hK' rfl rfl);show LeavesInM Fence.wide 6 prog f94 _ _ _ _ ((W.setCells (w.heap.size+1) 0 [.int .i64 0,.bool false,.int .i64 0,.int .i64 0]).putObj D (.deferred none));generalize((W.setCells (w.heap.size+1) 0 [.int .i64 0,.bool false,.int .i64 0,.int .i64 0]).putObj D (.deferred none))=W9 at m3 bl3 ⊢;have t0:W9.cell? ⟨w.heap.size+1,0,none⟩=some (.int .i64 0):=cell_of_row _ _ _ _ _ _ m3.res;have t1:W9.cell? ⟨w.heap.size+1,1,none⟩=some (.bool false):=cell_of_row _ _ _ _ _ _ m3.res;have t2:W9.cell? ⟨w.heap.size+1,2,none⟩=some (.int .i64 0):=cell_of_row _ _ _ _ _ _ m3.res;have t3:W9.cell? ⟨w.heap.size+1,3,none⟩=some (.int .i64 0):=cell_of_row _ _ _ _ _ _ m3.res;have hno:dK env s=none:=jD env s (ByteArray.empty,.zero) fun j hj=>HP.out ⟨j,hj⟩ (jm _ zg);rw [hno];refine⟨dY .zero, ?_,rfl,.of_below bl3⟩;unfold dY Val.zero;simp [results,f94,go_sem,t0,t1,t2,t3]
  case stop=>
   rintro D c pre W hD ⟨k,hk,rfl⟩ ⟨⟨rfl,ini,i,hin,hini,hsi,hm1⟩,hB1⟩ hK;have hm:=hm1.own (grownBy_putObj' W D (.deferred none)) (fun r e=>by cases e;exact⟨_,hK,rfl⟩);have bl3:=hB1.trans (belowK_b (w:=w) (Nat.le_refl _) W D _ (.deferred none) ze hK rfl rfl)
   gi_wp2
   refine⟨by simp,.inl ⟨_,_,rfl,run_takeDeferred hK, ?_⟩⟩;generalize W.putObj D (.deferred none)=W9 at hm bl3 ⊢;have r0:W9.cell? ⟨w.heap.size+1,0,none⟩=some (.int .i64 (stV env i.1).dim):=cell_of_row _ _ _ _ _ _ hm.res;have r1:W9.cell? ⟨w.heap.size+1,1,none⟩=some (.bool (stV env i.1).yes):=cell_of_row _ _ _ _ _ _ hm.res;have r2:W9.cell? ⟨w.heap.size+1,2,none⟩=some (.int .i64 (stV env i.1).n):=cell_of_row _ _ _ _ _ _ hm.res;have r3:W9.cell? ⟨w.heap.size+1,3,none⟩=some (.int .i64 (stV env i.1).d):=cell_of_row _ _ _ _ _ _ hm.res;have hii:env.length-1-k<env.length:=by omega
   rw [gH _ _ ⟨env.length-1-k,hii⟩ hk rfl]at hin;obtain⟨h1,h2⟩:=append_inj' hin rfl;subst h1;obtain rfl:(⟨env.length-1-k,hii⟩:Fin env.length)=i:=by simpa using h2
   have hn:dK env s=some (stV env (env.length-1-k)):=jC env s (env.length-1-k) (ByteArray.empty,.zero) hii hsi fun j hj hjl=>hini ⟨j,hjl⟩ (jm _ zp);rw [hn];refine⟨dY (stV env (env.length-1-k)), ?_,rfl,.of_below bl3⟩;unfold dY;simp [results,f94,go_sem,r0,r1,r2,r3]
 ·go_simp
  refine TS.go hK1 (.of_below af) (fun hS=>?_);clear hK1 K1
  (try simp only [nS])
  refine TS.one (i:=5) zf rfl (fun K1 hK1=>?_)
  go_simp
  go_at_call 123
  refine gvq (HI.out _ (.of_below af)) ?_;intro bA dA;refine TS.go hK1 zQ (fun hS=>?_);clear hK1 K1
  (try simp only [nS])
  refine kq 6 hS ?_;refine kq 7 hS ?_;refine kq 8 hS ?_;refine TS.one (i:=10) zf rfl (fun K1 hK1=>?_)
  go_simp
  refine TS.go hK1 (.of_below af) (fun hS=>?_);clear hK1 K1
  (try simp only [nS])
  refine TS.weB 11 ?_;clear hS;unfold KY;dsimp only
  gi_wp2_with (refine⟨trivial, ?_⟩;gi_at_call 124;refine(Di Fence.wide _ trivial rfl _ _ _ _).mono ?_;rintro e w' ⟨rfl,rfl⟩)
  have hmW:iB w.heap.size s 0 .zero W:=by
   exact RO
  obtain⟨W0,hW0⟩:∃W0,(((W.alloc (.cells #[.int .i64 0,.bool false,.int .i64 0,.int .i64 0] 51)).grow bA dA).alloc (.cells #[.slice sa env.length sc] 44))=W0:=⟨_,rfl⟩;have hWW0:Below W.heap.size W W0:=by rw [<-hW0];(exact af)
  have hB0:Below w.heap.size w W0:=hbw.trans (hWW0.mono ze);have hm0:=hmW.below ze hWW0;have hbk:W0.cell? ⟨w.heap.size+2+1+bA.size,0,none⟩=some (.slice sa env.length sc):=by rw [<-hW0,World.cell?_alloc_at _ _ _ _ zG];rfl
  have hsz0:w.heap.size+2+1+bA.size<W0.heap.size:=by rw [<-hW0];simp;omega
  have hsz1:w.heap.size+2<W0.heap.size:=by rw [<-hW0];simp;omega
  rw [hW0];clear hW0;have HB0:=yq hB0;have HM0:=yq hm0;have HVW:=yq (HST.out.below (Nat.le_refl _) hB0)
  refine wpIn_rangeFunc_ownH (F:=Fence.wide) rfl ze (gf:=145) (lb:=#[.pointer (some ⟨w.heap.size+2+1+bA.size,0,none⟩)]) rfl trivial (enters_of func145 zf rfl)
   (rQ Fence.wide 5 trivial rfl ze (w.heap.size+2+1+bA.size) W0.heap.size (.slice sa env.length sc) env env.length W0 ze (Nat.le_refl _) hbk HVW.out) belowK_t (belowK_b (Nat.le_refl _)) (Below.refl _ _) (fun _=>rfl)
   (fun pre W=>(iB w.heap.size s W0.heap.size .zero W/\∀j∈pre,stN env j.1≠s)/\Below w.heap.size w W)
   (MQ w.heap.size s env w W0.heap.size)
   (OwnFrom.and (Own.from (fun s A B row hs hg hr=>⟨hs.1.own hg hr,hs.2⟩) _) (ownFrom_below (Nat.le_refl _) ze))
   (fun c=>OwnFrom.and (Own.from (fun s A B row hs hg hr=>by obtain⟨h1,ini,i,h2,h3,h5,h4⟩:=hs;exact⟨h1,ini,i,h2,h3,h5,h4.own hg hr⟩) _) (ownFrom_below (Nat.le_refl _) ze))
   ⟨⟨hm0,fun j hj=>by cases hj⟩,hB0⟩
   (fun i a' W=>∃Bx,w.heap.size+1<Bx/\W.heap[Bx]? =some (.cells #[.string (stN env i.1),.int .i64 (stV env i.1).dim,.bool (stV env i.1).yes,.int .i64 (stV env i.1).n,.int .i64 (stV env i.1).d] 53 (0,0))/\
    a'= {tmps:=#[.pointer (some ⟨E,0,none⟩),.string s,undef,.pointer (some ⟨w.heap.size,0,none⟩),.pointer (some ⟨w.heap.size+1,0,none⟩),.pointer (some ⟨w.heap.size+2,0,none⟩),.bool false,undef,.pointer (some ⟨Bx,0,none⟩),.tuple #[.agg #[.int .i64 0,.bool false,.int .i64 0,.int .i64 0],.bool false],.pointer (some ⟨E,0,none⟩),.pointer (some ⟨E,0,none⟩),.pointer (some ⟨E,0,none⟩),.agg #[.int .i64 v.age,.int .i64 v.year,.int .i64 v.children,.int .i64 v.insured,.int .i64 v.worked,.int .i64 v.voluntary,.int .i64 v.service,.int .i64 v.equated,.int .i64 v.raising,.int .i64 v.resident,.int .i64 v.bn,.int .i64 v.bd,.slice a v.years.length c],.string s,.tuple #[.agg #[.int .i64 0,.bool false,.int .i64 0,.int .i64 0],.bool false],.agg #[.int .i64 0,.bool false,.int .i64 0,.int .i64 0],.bool false,.bool false,undef,.pointer (some ⟨E,0,none⟩),.pointer (some ⟨E,0,none⟩),.pointer (some ⟨E,13,none⟩),.slice sa env.length sc,.func (.func 145) #[] #[.pointer (some ⟨w.heap.size+2+1+bA.size,0,none⟩)],.int .i64 ((i.1:Nat):Int),lu.el env i.1,undef,undef,undef,undef,undef,undef,undef],defers:=[]})
   (fun i a' _ X Y row hs hg hr=>by obtain⟨Bx,h1,h2,h3⟩:=hs;exact⟨Bx,h1,(grownBy_keeps_cells hg (fun r e=>(hr r e).2) h2 rfl).trans h2,h3⟩)
   ?assign ?body ?done ?stop
  case assign=>
   rintro l pre i W K ⟨⟨hm,hpre⟩,hB1⟩ hK;unfold lu.el
   gi_wp2
   have hs1:=hm.size;refine hK _ _ ((KeepsOthers.alloc _ _).from _) ((Below.refl _ W).alloc (by first|omega|exact hB1.size) _) ⟨⟨hm.alloc _,hpre⟩,hB1.alloc hB1.size _⟩ ⟨W.heap.size,by omega,heap_alloc_new _ _,rfl⟩
  case body=>
   rintro l pre i a' W hl ⟨r,hr⟩ ⟨⟨hm,hpre⟩,hB1⟩ ⟨Bx,hBx,hbx,rfl⟩ hlt;have HM:=yq hm;have HB1:=yq hB1;have HP:=yq hpre;have q0:W.cell? ⟨Bx,0,none⟩=some (.string (stN env i.1)):=cell_of_row _ _ _ _ _ _ hbx;have q1:W.cell? ⟨Bx,1,none⟩=some (.int .i64 (stV env i.1).dim):=cell_of_row _ _ _ _ _ _ hbx;have q2:W.cell? ⟨Bx,2,none⟩=some (.bool (stV env i.1).yes):=cell_of_row _ _ _ _ _ _ hbx;have q3:W.cell? ⟨Bx,3,none⟩=some (.int .i64 (stV env i.1).n):=cell_of_row _ _ _ _ _ _ hbx;have q4:W.cell? ⟨Bx,4,none⟩=some (.int .i64 (stV env i.1).d):=cell_of_row _ _ _ _ _ _ hbx;have qn:W.cell? ⟨w.heap.size,0,none⟩=some (.string s):=cell_of_row _ _ _ _ _ _ hm.nm;have r0:W.cell? ⟨w.heap.size+1,0,none⟩=some (.int .i64 0):=cell_of_row _ _ _ _ _ _ hm.res;have r1:W.cell? ⟨w.heap.size+1,1,none⟩=some (.bool false):=cell_of_row _ _ _ _ _ _ hm.res;have r2:W.cell? ⟨w.heap.size+1,2,none⟩=some (.int .i64 0):=cell_of_row _ _ _ _ _ _ hm.res;have r3:W.cell? ⟨w.heap.size+1,3,none⟩=some (.int .i64 0):=cell_of_row _ _ _ _ _ _ hm.res;have rf:∀j,W.frozen? ⟨w.heap.size+1,j,none⟩=false:=fun j=>Joins.unfrozen_of_block hm.res j;unfold lu.el;generalize hN:stN env i.1=nk at *;generalize hD:stV env i.1=dk at *;have HN:=yq hN;have HD:=yq hD;clear hm hpre hB1 hbx hN hD;obtain⟨dm,dy,dn,dd⟩:=dk;dsimp only at q1 q2 q3 q4;by_cases he:nk=s
   ·have HE:=yq he;have he2:(nk.toList==s.toList)=true:=by rw [he];simp
    clear he
    gi_wp2
    have hs1:=HM.out.size;have hn:=dR [.int .i64 dm,.bool dy,.int .i64 dn,.int .i64 dd] 0 W (Next.refl (w.heap.size+1) W);have hb4:=dh [.int .i64 dm,.bool dy,.int .i64 dn,.int .i64 dd] 0 W _ HM.out.res;have bl0:=below_setCells (b:=w.heap.size+1) ze [.int .i64 dm,.bool dy,.int .i64 dn,.int .i64 dd] 0 W HB1.out;generalize hW2:W.setCells (w.heap.size+1) 0 [.int .i64 dm,.bool dy,.int .i64 dn,.int .i64 dd]=W2 at hn hb4 bl0;have hs2:=hn.size;have key:iB w.heap.size s W0.heap.size ⟨dm,dy,dn,dd⟩ W2:=⟨by rw [hn.blk _ ze ze];exact HM.out.nm,hb4,by omega⟩
    have kf:KeepsFrom W0.heap.size W W2:=⟨by omega,fun k o hBk hk _=>by
     have hkl:=(Array.getElem?_eq_some_iff.1 hk).1
     rw [hn.blk _ hkl ze];exact hk⟩
    rw [<-hW2]at key kf bl0;exact⟨kf,⟨rfl,pre,i,rfl,HP.out,by rw [HN.out];exact HE.out,by rw [HD.out];exact key⟩,bl0⟩
   ·have HE:=yq he
    have he2:(nk.toList==s.toList)=false:=by
     rw [beq_eq_false_iff_ne];exact fun h=>he (toList_inj h)
    clear he
    gi_wp2
    refine⟨KeepsFrom.refl _ _,Below.refl _ _,⟨⟨HM.out,fun j hj=>?_⟩,HB1.out⟩⟩;rcases mem_append.1 hj with h1|h1
    ·exact HP.out j h1
    ·obtain rfl:j=i:=by simpa using h1
     rw [HN.out];exact HE.out
  case done=>
   rintro D xs W hD rfl ⟨⟨hm,hpre⟩,hB1⟩ hK;have HM:=yq hm;have HB1:=yq hB1;have HP:=yq hpre;have r0:W.cell? ⟨w.heap.size+1,0,none⟩=some (.int .i64 0):=cell_of_row _ _ _ _ _ _ hm.res;have r1:W.cell? ⟨w.heap.size+1,1,none⟩=some (.bool false):=cell_of_row _ _ _ _ _ _ hm.res;have r2:W.cell? ⟨w.heap.size+1,2,none⟩=some (.int .i64 0):=cell_of_row _ _ _ _ _ _ hm.res;have r3:W.cell? ⟨w.heap.size+1,3,none⟩=some (.int .i64 0):=cell_of_row _ _ _ _ _ _ hm.res;have rf:∀j,W.frozen? ⟨w.heap.size+1,j,none⟩=false:=fun j=>Joins.unfrozen_of_block hm.res j;clear hm hB1 hpre
   gi_wp2
   have hDW:=(Array.getElem?_eq_some_iff.1 hK).1;have hs1:=HM.out.size;have hn:=dR [.int .i64 0,.bool false,.int .i64 0,.int .i64 0] 0 W (Next.refl (w.heap.size+1) W);have hb4:=dh [.int .i64 0,.bool false,.int .i64 0,.int .i64 0] 0 W _ HM.out.res;have bl0:=below_setCells (b:=w.heap.size+1) ze [.int .i64 0,.bool false,.int .i64 0,.int .i64 0] 0 W HB1.out;have hD2:D≠w.heap.size+1:=by omega
   have hK':(W.setCells (w.heap.size+1) 0 [.int .i64 0,.bool false,.int .i64 0,.int .i64 0]).heap[D]? =some (.deferred (some [])):=by rw [hn.blk D hDW hD2];exact hK
   have m2:iB w.heap.size s W0.heap.size .zero (W.setCells (w.heap.size+1) 0 [.int .i64 0,.bool false,.int .i64 0,.int .i64 0]):=⟨by rw [hn.blk _ ze ze];exact HM.out.nm,hb4,Nat.le_trans hs1 hn.size⟩;refine⟨by simp,.inl ⟨_,_,rfl,run_takeDeferred hK', ?_⟩⟩;have m3:=m2.own (grownBy_putObj' _ D (.deferred none)) (fun r e=>by cases e;exact⟨_,hK',rfl⟩);have bl3:=bl0.trans (belowK_b (w:=w) (Nat.le_refl _) _ D _ (.deferred none) ze hK' rfl rfl);show LeavesInM Fence.wide 6 prog f94 _ _ _ _ ((W.setCells (w.heap.size+1) 0 [.int .i64 0,.bool false,.int .i64 0,.int .i64 0]).putObj D (.deferred none));generalize((W.setCells (w.heap.size+1) 0 [.int .i64 0,.bool false,.int .i64 0,.int .i64 0]).putObj D (.deferred none))=W9 at m3 bl3 ⊢;have t0:W9.cell? ⟨w.heap.size+1,0,none⟩=some (.int .i64 0):=cell_of_row _ _ _ _ _ _ m3.res;have t1:W9.cell? ⟨w.heap.size+1,1,none⟩=some (.bool false):=cell_of_row _ _ _ _ _ _ m3.res;have t2:W9.cell? ⟨w.heap.size+1,2,none⟩=some (.int .i64 0):=cell_of_row _ _ _ _ _ _ m3.res;have t3:W9.cell? ⟨w.heap.size+1,3,none⟩=some (.int .i64 0):=cell_of_row _ _ _ _ _ _ m3.res;have hno:dK env s=none:=jD env s (ByteArray.empty,.zero) fun j hj=>HP.out ⟨j,hj⟩ (jm _ zg);rw [hno];refine⟨dY .zero, ?_,rfl,.of_below bl3⟩;unfold dY Val.zero;simp [results,f94,go_sem,t0,t1,t2,t3]
  case stop=>
   rintro D c pre W hD ⟨k,hk,rfl⟩ ⟨⟨rfl,ini,i,hin,hini,hsi,hm1⟩,hB1⟩ hK;have hm:=hm1.own (grownBy_putObj' W D (.deferred none)) (fun r e=>by cases e;exact⟨_,hK,rfl⟩);have bl3:=hB1.trans (belowK_b (w:=w) (Nat.le_refl _) W D _ (.deferred none) ze hK rfl rfl)
   gi_wp2
   refine⟨by simp,.inl ⟨_,_,rfl,run_takeDeferred hK, ?_⟩⟩;generalize W.putObj D (.deferred none)=W9 at hm bl3 ⊢;have r0:W9.cell? ⟨w.heap.size+1,0,none⟩=some (.int .i64 (stV env i.1).dim):=cell_of_row _ _ _ _ _ _ hm.res;have r1:W9.cell? ⟨w.heap.size+1,1,none⟩=some (.bool (stV env i.1).yes):=cell_of_row _ _ _ _ _ _ hm.res;have r2:W9.cell? ⟨w.heap.size+1,2,none⟩=some (.int .i64 (stV env i.1).n):=cell_of_row _ _ _ _ _ _ hm.res;have r3:W9.cell? ⟨w.heap.size+1,3,none⟩=some (.int .i64 (stV env i.1).d):=cell_of_row _ _ _ _ _ _ hm.res;have hii:env.length-1-k<env.length:=by omega
   rw [gH _ _ ⟨env.length-1-k,hii⟩ hk rfl]at hin;obtain⟨h1,h2⟩:=append_inj' hin rfl;subst h1;obtain rfl:(⟨env.length-1-k,hii⟩:Fin env.length)=i:=by simpa using h2
   have hn:dK env s=some (stV env (env.length-1-k)):=jC env s (env.length-1-k) (ByteArray.empty,.zero) hii hsi fun j hj hjl=>hini ⟨j,hjl⟩ (jm _ zp);rw [hn];refine⟨dY (stV env (env.length-1-k)), ?_,rfl,.of_below bl3⟩;unfold dY;simp [results,f94,go_sem,r0,r1,r2,r3]
theorem E5(v:Vw)(y se:Value)(env:List (ByteArray × Val))(E:Nat)(s:ByteArray)(w:World)(hev:sw w E v y env se)(hr:dV v) :
 Calls prog 94 #[.pointer (some ⟨E,0,none⟩),.string s] w fun r w'=>r= .returned (dY (jU v env s).1)/\w.Grows w':=by
 unfold jU
 cases hx:dF v s with
 |some x=>exact CL v y se env E s x w hev hr hx
 |none=>
  have h:=CO v y se env E s w hev hr hx;dsimp only
  cases hl:dK env s with
  |some x=>rw [hl]at h;exact h
  |none=>rw [hl]at h;exact h
def Dx(S:Nat->Prop)(E:Nat)(w:World)(x:Ex)(r:Val × Int):Prop:=
 ∀ak ck w',w.Grows w'->aB S w' x (.slice ak x.args.length ck)->Calls prog 66 #[.pointer (some ⟨E,0,none⟩),exV x (.slice ak x.args.length ck)] w' (EvR r w')
theorem GR(S:Nat->Prop)(E:Nat)(e:Ex)(a:Option Addr)(cap:Nat)(w:World)(r0:Val × Int)(h:aB S w e (.slice a e.args.length cap))(hop:e.op=4\/e.op=5\/e.op=6)(hlen:0<e.args.length)
 (hok:r0.2=0->Fv r0.1) (ih:Dx S E w (e.arg 0) r0) :
 Calls prog 96 #[.pointer (some ⟨E,0,none⟩),exV e (.slice a e.args.length cap)] w (EvR (if r0.2≠0 then(.zero,r0.2)else op1 e.op r0.1) w):=by
 obtain⟨b,off,rfl,hbw,hx⟩:=h.arg_cells hlen;obtain⟨ak,ck,hxk,hRk⟩:=hx 0 hlen;have HRK:=yq hRk;obtain⟨x0,x1,x2,x3,x4,x5⟩:=hxk;have HCL:=yq (fun w' hg hr=>ih ak ck w' hg hr);unfold EvR exV at HCL;unfold dY at HCL;have d1:(0:Int)<(e.args.length:Int):=by omega
 clear h hx hRk ih;obtain⟨x,hxe⟩:∃x,e.arg 0=x:=⟨_,rfl⟩;rw [hxe]at HCL x0 x1 x2 x3 x4 x5 HRK;clear hxe;simp only [Nat.zero_mul,Nat.add_zero]at x0 x1 x2 x3 x4 x5;obtain⟨q,c⟩:=r0;dsimp only at hok HCL ⊢;unfold exV;by_cases hc:c=0
 ·subst hc;have hq:=hok rfl;have HF:=yq (fun w=>FB q.n q.d w hq.1.1 hq.1.2 hq.2.1 hq.2.2);have HN:=yq (fun w=>Dr q.n q.d w hq.1.1 hq.1.2 hq.2.1 hq.2.2);have HU:=yq (fun m n d w=>kN m n d w);have HT:=yq (fun b w=>rJ b w);unfold dY Val.num at HU;unfold dY Val.truth at HT;unfold frI at HF;unfold frV at HN;dsimp only at HU HT;clear hok hq;have HO:Hid ((if(0:Int)≠0 then(Val.zero,(0:Int))else op1 e.op q)=op1 e.op q):=yq zg;rw [HO.out];have HP:=yq (show op1 e.op q=op1 e.op q from rfl);obtain⟨qm,qy,qn,qd⟩:=q;rcases hop with ho|ho|ho
  all_goals
   rw [ho]at HP ⊢;clear HO;simp only [op1]at HP ⊢;simp at HP ⊢
  ·generalize iW qn qd=R at *
   go_enter func96,ntmps96
   go_wp2_with (first
    |(go_at_call 66;refine(HCL.out _ (.of_below af) (HRK.out.grows (.of_below af))).mono ?_;rintro e' w' ⟨x,rfl,hx,bs,d,rfl⟩;obtain rfl:=hx rfl)
    |(go_at_call 129;refine gvq (HN.out _) ?_;intro bs2 d2)
    |(go_at_call 93;refine gvq (HU.out _ _ _ _) ?_;intro bs3 d3))
   go_returns
   exact kP yS yQ (.of_below af)
  ·go_enter func96,ntmps96
   go_wp2_with (first
    |(go_at_call 66;refine(HCL.out _ (.of_below af) (HRK.out.grows (.of_below af))).mono ?_;rintro e' w' ⟨x,rfl,hx,bs,d,rfl⟩;obtain rfl:=hx rfl)
    |(go_at_call 99;refine gvq (HT.out _ _) ?_;intro bs2 d2))
   go_returns
   exact kP rfl (fun _=>rfl) (.of_below af)
  ·generalize eD qn qd=R at *
   go_enter func96,ntmps96
   go_wp2_with (first
    |(go_at_call 66;refine(HCL.out _ (.of_below af) (HRK.out.grows (.of_below af))).mono ?_;rintro e' w' ⟨x,rfl,hx,bs,d,rfl⟩;obtain rfl:=hx rfl)
    |(go_at_call 128;refine gvq (HF.out _) ?_;intro bs2 d2)
    |(go_at_call 93;refine gvq (HU.out _ _ _ _) ?_;intro bs3 d3))
   go_returns
   exact kP yS yQ (.of_below af)
 ·have hq1:(c !=0)=true:=by simpa using hc
  have HC:=yq hc;rw [if_pos hc];clear hok hc hop
  go_enter func96,ntmps96
  go_wp2_with (go_at_call 66;refine(HCL.out _ (.of_below af) (HRK.out.grows (.of_below af))).mono ?_;rintro e' w' ⟨x,rfl,hx,bs,d,rfl⟩)
  go_returns
  exact kP rfl (fun h=>absurd h HC.out) (.of_below af)
def uE(op:Int)(r0 r1 r2:Val × Int):Val × Int:=
 if r0.2≠0 then(.zero,r0.2)else if op=17 then(if r0.1.yes=true then r1 else r0)else if op=18 then(if r0.1.yes=true then r0 else r1)else if r0.1.yes=true then r1 else r2
theorem Iy(S:Nat->Prop)(E:Nat)(e:Ex)(a:Option Addr)(cap:Nat)(w:World)(r0 r1 r2:Val × Int)(h:aB S w e (.slice a e.args.length cap))(hop:e.op=17\/e.op=18\/e.op=21)(hlen:2<=e.args.length)(hlen3:e.op=21->3<=e.args.length)
 (ih0:Dx S E w (e.arg 0) r0) (ih1:Dx S E w (e.arg 1) r1) (ih2:e.op=21->Dx S E w (e.arg 2) r2) :
 Calls prog 97 #[.pointer (some ⟨E,0,none⟩),exV e (.slice a e.args.length cap)] w (EvR (uE e.op r0 r1 r2) w):=by
 obtain⟨b,off,rfl,hbw,hx⟩:=h.arg_cells ze;obtain⟨ak,ck,hxk,hR0⟩:=hx 0 ze;obtain⟨x0,x1,x2,x3,x4,x5⟩:=hxk;obtain⟨ak1,ck1,hxk1,hR1⟩:=hx 1 ze;obtain⟨y0,y1,y2,y3,y4,y5⟩:=hxk1;have HR0:=yq hR0;have HR1:=yq hR1;have HC0:=yq (fun w' hg hr=>ih0 ak ck w' hg hr);have HC1:=yq (fun w' hg hr=>ih1 ak1 ck1 w' hg hr);unfold EvR exV at HC0 HC1;unfold dY at HC0 HC1;have d0:(0:Int)<(e.args.length:Int):=by omega
 have d1:(1:Int)<(e.args.length:Int):=by omega
 simp only [Nat.zero_mul,Nat.add_zero,Nat.one_mul]at x0 x1 x2 x3 x4 x5 y0 y1 y2 y3 y4 y5;obtain⟨x,hxe⟩:∃x,e.arg 0=x:=⟨_,rfl⟩;rw [hxe]at HC0 x0 x1 x2 x3 x4 x5 HR0;obtain⟨y,hye⟩:∃y,e.arg 1=y:=⟨_,rfl⟩;rw [hye]at HC1 y0 y1 y2 y3 y4 y5 HR1;clear hR0 hR1 ih0 ih1 hxe hye;have HL:=yq (show uE e.op r0 r1 r2=uE e.op r0 r1 r2 from rfl);obtain⟨q,c⟩:=r0;dsimp only at HC0;unfold exV;by_cases hc:c=0
 ·subst hc;obtain⟨qm,qy,qn,qd⟩:=q;rcases hop with ho|ho|ho
  ·clear hx h hlen3 ih2 HL;rw [ho];unfold uE;cases qy
   all_goals
    simp
    go_enter func97,ntmps97
    go_wp2_with (go_at_call 66;first
     |((with_reducible refine(HC0.out _ (.of_below af) (HR0.out.grows (.of_below af))).mono ?_);rintro e' w' ⟨x,rfl,hx,bs,d,rfl⟩;obtain rfl:=hx rfl)
     |((with_reducible refine(HC1.out _ (.of_below af) (HR1.out.grows (.of_below af))).mono ?_);rintro e' w' ⟨z1,rfl,hz1,bs1,d1,rfl⟩;obtain⟨zm,zy,zn,zd⟩:=z1))
    go_returns
    first
     |exact kP rfl (fun _=>rfl) (.of_below af)
     |exact kP rfl hz1 (.of_below af)
  ·clear hx h hlen3 ih2 HL;rw [ho];unfold uE;cases qy
   all_goals
    simp
    go_enter func97,ntmps97
    go_wp2_with (go_at_call 66;first
     |((with_reducible refine(HC0.out _ (.of_below af) (HR0.out.grows (.of_below af))).mono ?_);rintro e' w' ⟨x,rfl,hx,bs,d,rfl⟩;obtain rfl:=hx rfl)
     |((with_reducible refine(HC1.out _ (.of_below af) (HR1.out.grows (.of_below af))).mono ?_);rintro e' w' ⟨z1,rfl,hz1,bs1,d1,rfl⟩;obtain⟨zm,zy,zn,zd⟩:=z1))
    go_returns
    first
     |exact kP rfl (fun _=>rfl) (.of_below af)
     |exact kP rfl hz1 (.of_below af)
  ·have hl3:=hlen3 ho;have ih2:=ih2 ho;obtain⟨ak2,ck2,hxk2,hR2⟩:=hx 2 ze;obtain⟨u0,u1,u2,u3,u4,u5⟩:=hxk2;have HR2:=yq hR2;have HC2:=yq (fun w' hg hr=>ih2 ak2 ck2 w' hg hr);unfold EvR exV at HC2;unfold dY at HC2;have d2:(2:Int)<(e.args.length:Int):=by omega
   simp only [Nat.reduceMul]at u0 u1 u2 u3 u4 u5;obtain⟨u,hue⟩:∃u,e.arg 2=u:=⟨_,rfl⟩;rw [hue]at HC2 u0 u1 u2 u3 u4 u5 HR2;clear hx h hlen3 ih2 HL hR2 hue hl3;rw [ho];unfold uE;cases qy
   all_goals
    simp
    go_enter func97,ntmps97
    go_wp2_with (go_at_call 66;first
     |((with_reducible refine(HC0.out _ (.of_below af) (HR0.out.grows (.of_below af))).mono ?_);rintro e' w' ⟨x,rfl,hx,bs,d,rfl⟩;obtain rfl:=hx rfl)
     |((with_reducible refine(HC1.out _ (.of_below af) (HR1.out.grows (.of_below af))).mono ?_);rintro e' w' ⟨z1,rfl,hz1,bs1,d1,rfl⟩;obtain⟨zm,zy,zn,zd⟩:=z1)
     |((with_reducible refine(HC2.out _ (.of_below af) (HR2.out.grows (.of_below af))).mono ?_);rintro e' w' ⟨z1,rfl,hz1,bs1,d1,rfl⟩;obtain⟨zm,zy,zn,zd⟩:=z1))
    go_returns
    exact kP rfl hz1 (.of_below af)
 ·have hq1:(c !=0)=true:=by simpa using hc
  have HC:=yq hc;clear hx h hlen3 ih2 hop HL HC1 HR1;have HLF:Hid (uE e.op (q,c) r1 r2=(.zero,c)):=yq (by unfold uE;rw [if_pos hc]);rw [HLF.out];clear hc HLF
  go_enter func97,ntmps97
  go_wp2_with (go_at_call 66;refine(HC0.out _ (.of_below af) (HR0.out.grows (.of_below af))).mono ?_;rintro e' w' ⟨x,rfl,hx,bs,d,rfl⟩)
  go_returns
  exact kP rfl (fun h=>absurd h HC.out) (.of_below af)
end Go.Proofs.YtcfpoofhokbhlaaGreatDoor
