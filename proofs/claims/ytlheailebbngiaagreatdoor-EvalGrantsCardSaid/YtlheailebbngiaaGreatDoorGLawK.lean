import Derived.Test.YtlheailebbngiaaGreatDoorGGrD
import Derived.Test.YtlheailebbngiaaGreatDoorGLt5
import Derived.Test.YtlheailebbngiaaGreatDoorChecked
set_option linter.all false
set_option maxHeartbeats 16000000
set_option maxRecDepth 1000000
namespace Go.Proofs.YtlheailebbngiaaGreatDoor
open Go.Proofs.Tryz Tryz List
open Go.RowKit
theorem ay.growsG{w w':World}{v:Value}{zs:List Int}(h:ay w v zs)(hg:w.Grows w'):ay w' v zs:=by
 obtain⟨bs,d,rfl⟩:=hg;exact h.grow bs d
theorem ay.list{w:World}{v:Value}{zs:List Int}{s:Nat}(h:ay w v zs)(hs:w.heap.size<=s):aI w s v zs:=by
 obtain⟨h0,-,a,cap,hv,h1⟩:=h;refine⟨h0,a,cap,hv,h1.imp id ?_⟩;rintro⟨b,off,ha,hb,hc⟩;exact⟨b,off,ha,hb,by omega,hc⟩
theorem mK(zs:List Int)(env:List (ByteArray × Int))(dim:Int):(lJ zs env dim).size<=1000000:=by
 have h1:=uA zs env 5 dim 0 24;have h2:=jA zs env dim (aS zs env 5 dim 0 24).2.1 0;have hc5:aP 5=2307:=rfl;unfold lJ
 split<;>omega
theorem Fh(R:VwR):dW (nC R):=by
 have h:=IQ R;unfold Vw.ok at h;simp only [Bool.and_eq_true]at h;have:=aF h.1.2.1;exact⟨⟨by omega,by omega⟩,⟨by omega,by omega⟩⟩
end Go.Proofs.YtlheailebbngiaaGreatDoor
namespace Go
theorem dJ{w w':World}(h:RowKit.Below w.heap.size w w':=by(try simp only [World.grow_grow,World.grow_drew,World.drew_grow,<-Array.append_assoc]);repeat' (first|(with_reducible exact Go.RowKit.Below.fin)|(with_reducible exact Go.RowKit.Below.refl _ _)|(with_reducible assumption)|(with_reducible refine Go.RowKit.Below.peel ?_ ?_)|(with_reducible refine Go.RowKit.Below.grow ?_ ?_ _ _)|(with_reducible refine Go.RowKit.Below.alloc ?_ ?_ _)|(with_reducible refine Go.RowKit.Below.drewN ?_ _)|(with_reducible refine Go.RowKit.Below.drew ?_)|(with_reducible refine Go.RowKit.Below.setCell ?_ ?_ _)|go_size)):w.Grows w':=.of_below h
end Go
namespace Go.Proofs.YtlheailebbngiaaGreatDoor
open Go.Proofs.Tryz Tryz List
open Go.RowKit
def Mid(B:Nat)(W w:World):Prop:=W.heap.size<=w.heap.size/\∀k,B<=k->k<W.heap.size->w.heap[k]? =W.heap[k]?
def vwA(v:Vw)(y:Value):Array Value:=#[.int .i64 v.age,.int .i64 v.year,.int .i64 v.children,.int .i64 v.insured,.int .i64 v.worked,.int .i64 v.voluntary,.int .i64 v.service,.int .i64 v.equated,.int .i64 v.raising,.int .i64 v.resident,.int .i64 v.bn,.int .i64 v.bd,y]
def Out(B H:Nat)(v:Value):Prop:=∀k,v.ownBlock=some k->k<B\/H<=k
section
variable {B H : Nat} {W w w' : World} {v : Value}
theorem Mid.refl(B:Nat)(W:World):Mid B W W:=⟨Nat.le_refl _,fun _ _ _=>rfl⟩
theorem Mid.grows(h:Mid B W w)(hg:w.Grows w'):Mid B W w':=⟨Nat.le_trans h.1 hg.below.size,fun k h1 h2=>(hg.below.block k (Nat.lt_of_lt_of_le h2 h.1)).trans (h.2 k h1 h2)⟩
theorem Mid.grown(h:Mid B W w)(hg:w.grownBy w' v.ownBlock)(ho:Out B W.heap.size v):Mid B W w':=
 ⟨Nat.le_trans h.1 hg.size,fun k h1 h2=>(hg.block k (Nat.lt_of_lt_of_le h2 h.1) (fun e=>by have:=ho k e.symm;omega)).trans (h.2 k h1 h2)⟩
theorem Out.next{g H' n cap:Nat}(h:Out B H v)(hg:v.ownBlock=some g\/g=H')(hH:H<=H'):Out B H (.slice (some ⟨g,0,none⟩) n cap):=by
 intro k hk;obtain rfl:g=k:=by simpa [Value.ownBlock]using hk
 rcases hg with hg|rfl
 ·exact h _ hg
 ·exact .inr hH
theorem Mid.ints{zs:List Int}(hm:Mid B W w)(h:ay W v zs)(hn:∀k,v.ownBlock=some k->B<=k):ay w v zs:=by
 obtain⟨h0,hr,a,cap,rfl,h1⟩:=h;refine⟨h0,hr,a,cap,rfl,h1.imp id ?_⟩;rintro⟨b,off,rfl,hb,hc⟩;exact⟨b,off,rfl,Nat.lt_of_lt_of_le hb hm.1,fun i hi=>(World.cell?_of_block (hm.2 b (hn b rfl) hb)).trans (hc i hi)⟩
theorem World.Grows.grown{row:Option Nat}(h:W.Grows w)(hg:w.grownBy w' row)(hr:∀k,row=some k->W.heap.size<=k):W.Grows w':=.of_below (Below.grown h.below hg h.below.size hr)
end
theorem I7{E:Ex}{ls:List (ByteArray × Ex)}{k:Nat}(hk:k<((az E ls).map Int.ofNat).length):((az E ls).map Int.ofNat).getD k 0=((az E ls).getD k 0:Nat):=by
 rw [length_map]at hk;rw [getD_eq_getElem?_getD,getD_eq_getElem?_getD,getElem?_map,getElem?_eq_getElem hk];rfl
theorem yT(E:Ex)(ls:List (ByteArray × Ex)):(az E ls).length<=ls.length:=je ls.length
theorem OT{w:World}{a:Option Addr}{n cap:Nat}{st:List (ByteArray × Val)}(h:bi w (.slice a n cap) st){j:Nat}(hj:j<st.length):∃b off,a=some ⟨b,off,none⟩/\b<w.heap.size/\w.cell? ⟨b,off+j*5,none⟩=some (.string (stN st j)):=by
 obtain⟨-,a',c',hv,h0|⟨b,off,ha,hb,hc⟩⟩:=h
 ·omega
 ·simp only [Value.slice.injEq]at hv;obtain⟨rfl,-,-⟩:=hv;exact⟨b,off,ha,hb,(hc j hj).1⟩
def GrP(r:(Bool × Int × Int) × List (ByteArray × Val) × Int)(w:World)(e:Ending)(w':World):Prop:=∃sv,e= .returned (.tuple #[.agg #[.bool r.1.1,.int .i64 r.1.2.1,.int .i64 r.1.2.2,sv],.int .i64 r.2.2])/\w.Grows w'/\bi w' sv r.2.1/\∀k,sv.ownBlock=some k->w.heap.size<=k
theorem GrP.bad{r:(Bool × Int × Int) × List (ByteArray × Val) × Int}{w w':World}{c:Int}(hr:r=((false,0,0),[],c))(hg:w.Grows w'):GrP r w (.returned (.tuple #[.agg #[.bool false,.int .i64 0,.int .i64 0,.slice none 0 0],.int .i64 c])) w':=by
 subst hr;exact⟨_,rfl,hg,⟨by simp,none,0,rfl,.inl rfl⟩,fun k hk=>by cases hk⟩
theorem GrP.ok{r:(Bool × Int × Int) × List (ByteArray × Val) × Int}{w w':World}{b:Bool}{n d:Int}{sv:Value}{st:List (ByteArray × Val)}(hr:r=((b,n,d),st,0))(hg:w.Grows w')(hs:bi w' sv st)(hn:∀k,sv.ownBlock=some k->w.heap.size<=k):GrP r w (.returned (.tuple #[.agg #[.bool b,.int .i64 n,.int .i64 d,sv],.int .i64 0])) w':=by
 subst hr;exact⟨sv,rfl,hg,hs,hn⟩
theorem bi.same{w w':World}{v:Value}{st:List (ByteArray × Val)}(h:bi w v st)(hs:w.heap.size<=w'.heap.size)(hk:∀k,v.ownBlock=some k->w'.heap[k]? =w.heap[k]?):bi w' v st:=by
 obtain⟨h0,a,cap,rfl,h1⟩:=h;refine⟨h0,a,cap,rfl,h1.imp id ?_⟩;rintro⟨b,off,rfl,hb,hc⟩;refine⟨b,off,rfl,Nat.lt_of_lt_of_le hb hs,fun j hj=>?_⟩;have e:∀o,w'.cell? ⟨b,o,none⟩=w.cell? ⟨b,o,none⟩:=fun o=>World.cell?_of_block (hk b rfl);obtain⟨c0,c1,c2,c3,c4⟩:=hc j hj;exact⟨(e _).trans c0,(e _).trans c1,(e _).trans c2,(e _).trans c3,(e _).trans c4⟩
theorem bi.moved{X Y:World}(hs:X.heap.size=Y.heap.size){bs:Array Obj}{d d':Nat}{v:Value}{st:List (ByteArray × Val)}(h:bi (X.grow bs d) v st)(hk:∀k,v.ownBlock=some k->X.heap.size<=k):bi (Y.grow bs d') v st:=
 h.same (by simp [hs]) fun k hv=>World.heap_grow_same hs bs d d' (hk k hv)
theorem oH{ls:List (ByteArray × Ex)}{env:List (ByteArray × Int)}{v:Vw}{E:Ex}{D0 D:List Nat}{st0 st:List (ByteArray × Val)}{m:Int}(hra:eu v ls env E D0 st0 (az E ls).length D st)(hl:iy ls ls.length env)(hok:v.ok=true)(ht:aT env E=(m,0)) :
 dP v st E=ai v st E/\okR m (ai v st E):=by
 obtain⟨h1,h2,h3⟩:=wG ht;have h4:=hra.last hl h2 h3;have:=nU hok hra.ok.ok h1 (by rw [h4]);rw [h4]at this;exact this
theorem vR{w:World}{a:Option Addr}{n cap:Nat}{st:List (ByteArray × Val)}(h:bi w (.slice a n cap) st){j:Nat}(hj:j<st.length):∃b off,a=some ⟨b,off,none⟩/\b<w.heap.size/\w.cell? ⟨b,off+j*5,none⟩=some (.string (stN st j))/\w.cell? ⟨b,off+j*5+1,none⟩=some (.int .i64 (stV st j).dim)/\w.cell? ⟨b,off+j*5+2,none⟩=some (.bool (stV st j).yes)/\w.cell? ⟨b,off+j*5+3,none⟩=some (.int .i64 (stV st j).n)/\w.cell? ⟨b,off+j*5+4,none⟩=some (.int .i64 (stV st j).d):=by
 obtain⟨-,a',c',hv,h0|⟨b,off,ha,hb,hc⟩⟩:=h
 ·omega
 ·simp only [Value.slice.injEq]at hv;obtain⟨rfl,-,-⟩:=hv;obtain⟨s0,s1,s2,s3,s4⟩:=hc j hj;exact⟨b,off,ha,hb,s0,s1,s2,s3,s4⟩
theorem uV(st:List (ByteArray × Val))(va vb:Value)(w:World)(ha:bi w va st)(hb:bi w vb st):Calls prog 88 #[va,vb] w fun e w'=>e= .returned (.bool true)/\w.Grows w':=by
 have HA:=zh ha;have HB:=zh hb;obtain⟨h1000,a,c,rfl,-⟩:=ha;obtain⟨-,b,d,rfl,-⟩:=hb
 go_enter func88,ntmps88
 go_wp2_with fail
 go_loopw [5] (fun v3 wr=>∃k:Nat,k<=st.length/\v3= .int .i64 k/\w.Grows wr) (fun v3 _=>st.length-(intOf v3).toNat)
 case atStart=>exact⟨0,by omega,rfl,.refl _⟩
 case round=>
  obtain⟨k,hk,rfl,hg⟩:=hrel;have HG:=zh hg;by_cases hlt:k<st.length
  ·obtain⟨ba,oa,rfl,hba,p0,p1,p2,p3,p4⟩:=vR (HA.out.grows hg) hlt;obtain⟨bb,ob,rfl,hbb,q0,q1,q2,q3,q4⟩:=vR (HB.out.grows hg) hlt;have d1:(k:Int)<(st.length:Int):=by omega
   have HL:=zh hlt;generalize stN st k=nm at *;generalize stV st k=x at *;clear hg hlt hk
   go_wp2_with fail
   go_region
   go_wp2_with fail
   go_roundw
   case rel=>exact⟨k+1,HL.out,by go_num,World.Grows.trans' HG.out ag⟩
   case measure=>simp [intOf];have:=HL.out;omega
  ·obtain rfl:k=st.length:=by omega
   clear hg hlt hk
   go_wp2_with fail
   go_returns
   exact⟨rfl,HG.out⟩
theorem sU(st:List (ByteArray × Val))(va vb:Value)(h:Bool)(n d:Int)(w:World)(ha:bi w va st)(hb:bi w vb st):Calls prog 44 #[.agg #[.bool h,.int .i64 n,.int .i64 d,va],.agg #[.bool h,.int .i64 n,.int .i64 d,vb]] w fun e w'=>e= .returned (.bool true)/\w.Grows w':=by
 have HA:=zh ha;have HB:=zh hb;have HS:=zh (fun w' (hg:w.Grows w')=>uV st va vb w' (HA.out.grows hg) (HB.out.grows hg));obtain⟨h1000,a,c,rfl,-⟩:=ha;obtain⟨-,b,e,rfl,-⟩:=hb
 go_enter func44,ntmps44
 go_wp2_with (go_at_call 88;refine(HS.out _ ag).mono ?_;rintro e' w' ⟨rfl,bs,d',rfl⟩)
 go_returns
 exact⟨rfl,ag⟩
theorem Cy(n:Int)(V:dK):(bI n V).cr.length=V.cr.length/\(bI n V).se.length=V.se.length/\(bI n V).le.length=V.le.length/\(bI n V).gr.length=V.gr.length/\(bI n V).re.length=V.re.length:=by
 unfold bI
 repeat' split
 all_goals simp_all
theorem MW(R:df):(ofP R).cr.length<=1000/\(ofP R).se.length<=1000/\(ofP R).le.length<=10/\(ofP R).gr.length<=1000/\(ofP R).re.length<=1000:=by
 have h:(fC R).cr.length<=1000/\(fC R).se.length<=1000/\(fC R).le.length<=10/\(fC R).gr.length<=1000/\(fC R).re.length<=1000:=by
  simp only [fC,length_map,length_range];unfold gY lY fO uY Aq;omega
 unfold ofP
 split
 ·exact h
 ·split
  ·obtain⟨a,b,c,d,e⟩:=Cy (pick (R.twist.tdiv 8) 7) (fC R);rw [a,b,c,d,e];exact h
  ·exact h
theorem xG(R:df):nK (fC R):=by
 refine⟨fun t ht=>?_,fun t ht=>?_,fun t ht=>?_⟩
 ·obtain⟨i,_,rfl⟩:=mem_map.1 ht;exact⟨by rw [wu];omega,mK _ _ _⟩
 ·obtain⟨i,_,rfl⟩:=mem_map.1 ht;exact⟨mK _ _ _,mK _ _ _⟩
 ·obtain⟨i,_,rfl⟩:=mem_map.1 ht;exact mK _ _ _
theorem I9(n:Int){V:dK}(h:nK V):nK (bI n V):=by
 obtain⟨h1,h2,h3⟩:=h;unfold bI
 split
 ·refine⟨h1,fun t ht=>?_,h3⟩;simp only at ht
  split at ht
  ·rename_i a r he
   rcases mem_cons.1 ht with rfl|ht
   ·have:=h2 a yg;exact⟨this.1,this.1⟩
   ·exact h2 t yA
  ·cases ht
 split
 ·refine⟨h1,fun t ht=>?_,h3⟩;simp only at ht
  split at ht
  ·rename_i a b r he
   rcases mem_cons.1 ht with rfl|ht
   ·exact h2 t yg
   ·rcases mem_cons.1 ht with rfl|ht
    ·exact h2 b (by rw [he];simp)
    ·exact h2 t (by rw [he];simp [ht])
  ·exact h2 t ht
 split
 ·refine⟨fun t ht=>?_,h2,h3⟩;simp only at ht
  split at ht
  ·rename_i a b r he
   rcases mem_cons.1 ht with rfl|ht
   ·exact h1 t yg
   ·rcases mem_cons.1 ht with rfl|ht
    ·exact⟨(h1 a (by rw [he];simp)).1,(h1 b (by rw [he];simp)).2⟩
    ·exact h1 t (by rw [he];simp [ht])
  ·exact h1 t ht
 split
 ·refine⟨fun t ht=>?_,h2,h3⟩;simp only at ht
  split at ht
  ·rename_i a r he
   rcases mem_cons.1 ht with rfl|ht
   ·refine⟨(h1 a yg).1, ?_⟩;show qo.size<=1000000;simp [qo,Ex.size,Ex.sizes]
   ·exact h1 t yA
  ·cases ht
 split
 ·exact⟨h1,h2,h3⟩
 split
 ·exact⟨h1,h2,h3⟩
 ·refine⟨fun t ht=>?_,h2,h3⟩;simp only at ht
  split at ht
  ·rename_i a r he
   rcases mem_cons.1 ht with rfl|ht
   ·refine⟨?_,(h1 a yg).2⟩;show KX.size<=_;decide
   ·exact h1 t yA
  ·cases ht
theorem Qa(R:df):nK (ofP R):=by
 unfold ofP
 split
 ·exact xG R
 ·split
  ·exact I9 _ (xG R)
  ·exact xG R
open Go.ChangeShapes Go.WideShapes
theorem QQ:(Rows.evalGrantsRow.inPlace==pinned.checked.prog.inPlace 12)=true:=by kernel_rfl
theorem QP:(Rows.evalGrantsRow.unfollowed==pinned.checked.prog.unfollowed 12)=true:=by kernel_rfl
theorem QO:(Rows.evalGrantsRow.recurses==pinned.checked.prog.recurses 12)=true:=by kernel_rfl
theorem QN:(Rows.evalGrantsRow.named==pinned.checked.prog.varsNamed 12)=true:=by kernel_rfl
theorem Ka:joinedFacts pinned.checked.prog 12 f12 Rows.evalGrantsSpec Rows.evalGrantsRow=true:=by
 unfold joinedFacts
 repeat' (with_reducible refine Bool.and_eq_true_iff.2 ⟨?_, ?_⟩)
 all_goals first|(with_reducible exact QQ)|(with_reducible exact QP)|(with_reducible exact QO)|(with_reducible exact QN)|kernel_rfl
open Go.RowKit Go.ChangeShapes Go.WideShapes Go.Deep
theorem PU{α:Type}{cs:Array α}(h:cs.size=7):∃c0 c1 c2 c3 c4 c5 c6,cs=#[c0,c1,c2,c3,c4,c5,c6]:=by
 obtain⟨l⟩:=cs
 match l,h with
 | [c0,c1,c2,c3,c4,c5,c6],_=>exact⟨c0,c1,c2,c3,c4,c5,c6,rfl⟩
theorem c7w:(prog).cellsOf 28=7:=by kernel_rfl
theorem VwR.of_trod{H:Type}{enc:TypeId × Value->H}{w:World}{r:Reach}{b0:Nat}{v:Value}{d:DataW H}{p:List MemPlace}(hv:Value.okWide prog w r b0 28 v)
 (h:DataW.Trod enc prog w 0 (fun _=>true) true 28 v d p) (hf:fits prog 28 d) :
 ∃(R:VwR) (vd vy:Value),v= .agg #[.int .i64 R.age,.int .i64 R.year,.int .i64 R.children,.int .i64 R.base,.int .i64 R.den,vd,vy]/\ay w vd R.days/\ay w vy R.years:=by
 have ht:=underlying28;obtain⟨cs,rfl,hsz⟩:=okWide_struct ht hv;obtain⟨c0,c1,c2,c3',c4,c5,c6,rfl⟩:=PU (hsz.trans c7w);obtain⟨fuel,h⟩:=h;obtain⟨xs,n,_,hx,_,hlen,hF⟩:=DataW.trod_struct ht h;simp only [Prod.mk.injEq]at hx;obtain⟨rfl,-⟩:=hx;have k0:=hF 0 _ rfl;have k1:=hF 1 _ rfl;have k2:=hF 2 _ rfl;have k3:=hF 3 _ rfl;have k4:=hF 4 _ rfl;have k5:=hF 5 _ rfl;have k6:=hF 6 _ rfl;simp only [Value.cells,drop_zero,drop_succ_cons,take_succ_cons,take_zero]at k0 k1 k2 k3 k4 k5 k6
 match xs,hlen with
 | [y0,y1,y2,y3,y4,y5,y6],_=>
   obtain⟨n0,rfl,w0⟩:=eP k0;obtain⟨n1,rfl,w1⟩:=eP k1;obtain⟨n2,rfl,w2⟩:=eP k2;obtain⟨n3,rfl,w3⟩:=eP k3;obtain⟨n4,rfl,w4⟩:=eP k4;obtain⟨z5,w5⟩:=ay.of_trod underlying24 underlying3 c3 b3 k5 (gN ht hf (i:=5) rfl rfl);obtain⟨z6,w6⟩:=ay.of_trod underlying24 underlying3 c3 b3 k6 (gN ht hf (i:=6) rfl rfl);exact⟨⟨n0,n1,n2,n3,n4,z5,z6⟩,_,_,rfl,w5,w6⟩
end Go.Proofs.YtlheailebbngiaaGreatDoor
