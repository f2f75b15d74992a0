import Derived.Test.YtlheailebbngiaaGreatDoorGLawK
import Derived.Test.YtlheailebbngiaaGreatDoorGUsW
set_option linter.all false
set_option maxHeartbeats 16000000
set_option maxRecDepth 1000000
namespace Go.Proofs.YtlheailebbngiaaGreatDoor
open Go.Proofs.Tryz List
open Go.RowKit
def Marks(n:Nat)(D:List Nat)(M:List Bool):Prop:=M.length=n/\∀k,k<n->M.getD k false=D.contains k
theorem Marks.push{n:Nat}{D:List Nat}{M:List Bool}{i:Nat}(h:Marks n D M)(hi:i<n):Marks n (D++[i]) (M.set i true):=by
 refine⟨by rw [length_set];exact h.1,fun k hk=>?_⟩;rw [Bool.eq_iff_iff,contains_iff_mem,mem_append,mem_singleton];by_cases hki:k=i
 ·subst hki;rw [set_self (by rw [h.1];exact hk)];simp
 ·rw [Er hki,h.2 k hk,contains_iff_mem];simp [hki]
theorem Marks.zero(n:Nat):Marks n [] (List.replicate n false):=⟨by simp,fun k hk=>by simp [getD_eq_getElem?_getD,getElem?_replicate,hk]⟩
def No2(X N:Nat)(v:Value):Prop:=∀k,v.ownBlock=some k->k≠X/\k≠N
structure iT(W0 w:World)(X N:Nat)(v:Vw)(y vb:Value)(n:Nat)(D:List Nat)(st:List (ByteArray × Val)):Prop where
 gr:W0.Grows w
 ev:w.heap[X]? =some (.cells (evC v y vb) 126 (0,0))
 mks:∃M,w.heap[N]? =some (.cells (bbs M) 4 (0,0))/\Marks n D M
 row:w.ownsRow W0.heap.size 68 5 vb st.length (jQ st)
 no:No2 X N vb
section
variable {W0 w w' : World} {X N : Nat} {v : Vw} {y vb : Value} {n : Nat} {D : List Nat} {st : List (ByteArray × Val)}
theorem iT.grows(h:iT W0 w X N v y vb n D st)(hg:w.Grows w'):iT W0 w' X N v y vb n D st:=by
 obtain⟨M,hM,hm⟩:=h.mks;exact⟨World.Grows.trans' h.gr hg,(hg.below.block X (Array.getElem?_eq_some_iff.1 h.ev).1).trans h.ev,⟨M,(hg.below.block N (Array.getElem?_eq_some_iff.1 hM).1).trans hM,hm⟩,bQ h.row hg,h.no⟩
theorem iT.steps(h:iT W0 w X N v y vb n D st)(hl:st.length<=1000):bi w vb st:=bi.of_own h.row hl
theorem iT.evAt(h:iT W0 w X N v y vb n D st)(hl:st.length<=1000)(hy:bJ W0 y v.years):rU w X v y st vb:=⟨h.ev,hy.grows h.gr,h.steps hl⟩
end
theorem eQ(w:World)(X i:Nat)(u:Value):w.grownBy (w.setCell ⟨X,i,none⟩ u) (some X):=
 ⟨rfl,rfl,rfl,by simp [World.setCell],fun k hk hne=>by
  have h:X≠k:=fun e=>hne (by rw [e])
  simp [World.setCell,Array.getElem?_modify,h]⟩
theorem EB{w:World}{base:Nat}{e:TypeId}{size:Nat}{vb:Value}{n:Nat}{xs:List Value}(h:w.ownsRow base e size vb n xs){X i:Nat}{u:Value}(hn:∀k,vb.ownBlock=some k->k≠X):(w.setCell ⟨X,i,none⟩ u).ownsRow base e size vb n xs:=
 h.kept (eQ w X i u) (by
  cases ho:vb.ownBlock with
  |none=>exact .inl rfl
  |some k=>exact .inr fun e=>hn k ho (Option.some.inj e))
theorem Mid.set{B:Nat}{W w:World}(h:Mid B W w){X i:Nat}{u:Value}(hX:X<B):Mid B W (w.setCell ⟨X,i,none⟩ u):=
 ⟨Nat.le_trans h.1 (eQ w X i u).size,fun k h1 h2=>((eQ w X i u).block k (Nat.lt_of_lt_of_le h2 h.1) fun e=>by have:=Option.some.inj e;omega).trans (h.2 k h1 h2)⟩
theorem iT.app{W0 w w2:World}{X N:Nat}{v:Vw}{y vb:Value}{n:Nat}{D:List Nat}{st:List (ByteArray × Val)}{p:ByteArray × Val}{g cap H:Nat}(h:iT W0 w X N v y vb n D st)(hXN:X≠N)(hX:W0.heap.size<=X)(hgrow:w.grownBy w2 vb.ownBlock)
 (hown:w2.ownsRow W0.heap.size 68 5 (.slice (some ⟨g,0,none⟩) (st.length+1) cap) (st.length+1) (jQ (st++[p]))) (hgg:vb.ownBlock=some g\/g=H) (hH:w.heap.size<=H) :
 iT W0 (w2.setCell ⟨X,13,none⟩ (.slice (some ⟨g,0,none⟩) (st.length+1) cap)) X N v y (.slice (some ⟨g,0,none⟩) (st.length+1) cap) n D (st++[p]):=by
 obtain⟨M,hM,hm⟩:=h.mks;have hXl:=(Array.getElem?_eq_some_iff.1 h.ev).1;have hNl:=(Array.getElem?_eq_some_iff.1 hM).1
 have hno:No2 X N (.slice (some ⟨g,0,none⟩) (st.length+1) cap):=fun k hk=>by
  obtain rfl:g=k:=by simpa [Value.ownBlock]using hk
  rcases hgg with hg|rfl
  ·exact h.no _ hg
  ·exact⟨by omega,by omega⟩
 have hX2:w2.heap[X]? =some (.cells (evC v y vb) 126 (0,0)):=(hgrow.block X hXl fun e=>(h.no X e.symm).1 rfl).trans h.ev;have hN2:w2.heap[N]? =some (.cells (bbs M) 4 (0,0)):=(hgrow.block N hNl fun e=>(h.no N e.symm).2 rfl).trans hM;refine⟨World.Grows.grown (World.Grows.grown h.gr hgrow fun k hk=>(h.row.lt k hk).1) (eQ w2 X 13 _) fun k hk=>by cases hk;exact hX, ?_,⟨M, ?_,hm⟩, ?_,hno⟩
 ·exact Joins.block_setCell hX2 _
 ·exact((eQ w2 X 13 _).block N (Array.getElem?_eq_some_iff.1 hN2).1 fun e=>hXN (Option.some.inj e).symm).trans hN2
 ·rw [length_append];exact EB hown fun k hk=>(hno k hk).1
theorem iT.unfr{W0 w w2:World}{X N:Nat}{v:Vw}{y vb:Value}{n:Nat}{D:List Nat}{st:List (ByteArray × Val)}(h:iT W0 w X N v y vb n D st)(hgrow:w.grownBy w2 vb.ownBlock):w2.frozen? ⟨X,13,none⟩=false:=
 Joins.unfrozen_of_block ((hgrow.block X (Array.getElem?_eq_some_iff.1 h.ev).1 fun e=>(h.no X e.symm).1 rfl).trans h.ev) 13
theorem iT.mark{W0 w:World}{X N:Nat}{v:Vw}{y vb:Value}{n i:Nat}{D:List Nat}{st:List (ByteArray × Val)}(h:iT W0 w X N v y vb n D st)(hXN:X≠N)(hN:W0.heap.size<=N)(hi:i<n):iT W0 (w.setCell ⟨N,i,none⟩ (.bool true)) X N v y vb n (D++[i]) st:=by
 obtain⟨M,hM,hm⟩:=h.mks;have hXl:=(Array.getElem?_eq_some_iff.1 h.ev).1;refine⟨World.Grows.grown h.gr (eQ w N i _) fun k hk=>by cases hk;exact hN, ?_,⟨M.set i true, ?_,hm.push hi⟩,EB h.row fun k hk=>(h.no k hk).2,h.no⟩
 ·exact((eQ w N i _).block X hXl fun e=>hXN (Option.some.inj e)).trans h.ev
 ·rw [<-yJ];exact Joins.block_setCell hM _
def PY(W0:World)(X N:Nat)(v:Vw)(y:Value)(ls:List (ByteArray × Ex))(env:List (ByteArray × Int))(n0:Nat)(r:List Nat × List (ByteArray × Val) × Int)(B:Nat)(w:World)(e:Ending)(w':World):Prop:=
 W0.Grows w'/\e= .returned (.int .i64 r.2.2)/\(r.2.2=0->∃vb,iT W0 w' X N v y vb ls.length r.1 r.2.1/\r.2.1.length<=n0+11/\Mid B w w')
theorem Mid.trans{B:Nat}{W w w':World}(h:Mid B W w)(h2:Mid B w w'):Mid B W w':=⟨Nat.le_trans h.1 h2.1,fun k h1 hk=>(h2.2 k h1 (Nat.lt_of_lt_of_le hk h.1)).trans (h.2 k h1 hk)⟩
theorem rD(ls:List (ByteArray × Ex))(env:List (ByteArray × Int))(v:Vw)(E:Ex)(u y vs:Value)(nm:ByteArray)(a5:Option Addr)(k5 dc:Nat)(W0 w:World)(X N:Nat)(D0:List Nat)(st0:List (ByteArray × Val))(m:Int)
 (hl:iy ls ls.length env) (hlen:ls.length<=10) (hbl:∀t∈ls,t.2.size<=1000000) (hok:v.ok=true) (hrng:dW v) (hnm:eY nm=false) (hty:aT env E=(m,0)) (hbig:E.size<=1000000)
 (hR:aC (fun _=>True) W0 E u) (hL:gI W0 (.slice a5 ls.length k5) ls) (hY:bJ W0 y v.years) (hD:iT W0 w X N v y vs ls.length D0 st0) (hst:lu ls env D0 st0) (hn:st0.length<=20) (hXN:X≠N) (hXW:W0.heap.size<=X) (hNW:W0.heap.size<=N) (U0:Nat) (hU0:U0<=w.heap.size) (hXU:X<U0) (hNU:N<U0) (hvU:∀k,vs.ownBlock=some k->k<U0) :
 Calls prog 80 #[.pointer (some ⟨X,0,none⟩),exV E u,.slice a5 ls.length k5,.slice (some ⟨N,0,none⟩) ls.length dc,.string nm] w (PY W0 X N v y ls env st0.length (fo v ls E nm D0 st0) U0 w):=by
 obtain⟨i0,hi,hz0,hz1,hz2⟩:=info_parts JP;have HL:=zh hL;have HR:=zh hR;have HY:=zh hY;have HLS:=zh hl;have HBL:=zh hbl;have HOK:=zh hok;have HRNG:=zh hrng;have HD0:=zh hD;have HST:=zh hst;have HTY:=zh (wG hty);have HU:=zh (fun w' (hg:W0.Grows w')=>IA E u (.slice a5 ls.length k5) ls w' (hR.grows hg) (hL.grows hg));obtain⟨ua,uc,rfl⟩:=hR.form0;have hzk:=fun k=>@I7 E ls k;have hzl:((az E ls).map Int.ofNat).length=(az E ls).length:=by simp
 have hul:=yT E ls;have hX0:X<w.heap.size:=(Array.getElem?_eq_some_iff.1 hD.ev).1;have hN0:N<w.heap.size:=by obtain⟨M,hM,-⟩:=hD.mks;exact(Array.getElem?_eq_some_iff.1 hM).1
 unfold exV at HU;generalize(az E ls).map Int.ofNat=Z at *;have HZK:=zh hzk;have HZL:=zh hzl;have hZ10:Z.length<=10:=by omega
 unfold exV;clear hR hL hl hbl hok hrng hD hst hty hzk hzl hul
 go_enter func80,ntmps80
 go_wp2_with (go_at_call 38;refine(HU.out _ (World.Grows.trans' HD0.out.gr ag)).mono ?_;rintro e' w' ⟨⟨x,rfl,hxi,hxn⟩,bs,d,rfl⟩;have HXI:=zh hxi;have HXN:=zh hxn;obtain⟨-,-,xa,xc,rfl,-⟩:=hxi;clear hxn)
 refine gy (fun W2 hW=>?_);have HD2:Hid (iT W0 W2 X N v y vs ls.length D0 st0):=zh (by rw [<-hW];exact HD0.out.grows ag)
 have HBE:Hid (W2.heap[w.heap.size]? =some (.cells #[.int .i64 E.op,.int .i64 E.num,.int .i64 E.den,.int .i64 E.dim,.string E.name,.slice ua E.args.length uc] 51 (0,0))):=zh (by
  rw [<-hW,World.heap_grow _ _ _ zg];exact bK _ _ _ zg)
 have HXI2:Hid (ay W2 (.slice xa Z.length xc) Z):=zh (by rw [<-hW];exact HXI.out);have HXN2:Hid (∀k,(Value.slice xa Z.length xc).ownBlock=some k->w.heap.size<=k):=zh (fun k hk=>by have:=HXN.out k hk;simp at this;omega);have hs2:w.heap.size<W2.heap.size:=(Array.getElem?_eq_some_iff.1 HBE.out).1;have HOT:Hid (Out U0 W2.heap.size vs):=zh (fun k hk=>.inl (hvU k hk));have HMW:Hid (Mid U0 w W2):=zh (by rw [<-hW];exact(Mid.refl U0 w).grows ag);clear hW HXI HXN HU HD0
 go_loopw [21] (fun v21 wr=>∃(k:Nat) (vb:Value) (D:List Nat) (st:List (ByteArray × Val)),k<=Z.length/\v21= .int .i64 k/\iT W0 wr X N v y vb ls.length D st/\Mid U0 W2 wr/\Out U0 W2.heap.size vb/\st.length<=st0.length+k/\Hid (eu v ls env E D0 st0 k D st)) (fun v21 _=>Z.length-(intOf v21).toNat)
 case atStart=>exact⟨0,vs,D0,st0,by omega,rfl,HD2.out,.refl _ _,HOT.out,by omega,zh (eu.zero E HST.out)⟩
 case round=>
  obtain⟨k,vb,D,st,hk,rfl,hd,hm,hout,hsl,HRA⟩:=hrel;obtain⟨W1,rfl⟩:∃W1,W1=wr:=⟨_,rfl⟩;have HD:=zh hd;have HM:=zh hm;have HOT1:=zh hout;have hs1:w.heap.size<W1.heap.size:=by have:=hm.1;omega
  have hX1:X<W1.heap.size:=by omega
  have hN1:N<W1.heap.size:=by omega
  have HBE1:=zh ((hm.2 _ hU0 hs2).trans HBE.out);have hXI1:=hm.ints HXI2.out (fun k hk=>Nat.le_trans hU0 (HXN2.out k hk));clear hm hout;by_cases hlt:k<Z.length
  ·have hu:k<(az E ls).length:=by rw [<-HZL.out];exact hlt
   have hzk:=HZK.out k hlt;have hil:=rV (rW hu);obtain⟨hfo,hty,hva⟩:=HRA.out.typed HLS.out hu;have HSK:=zh (fun hc=>HRA.out.skip hu hc);have HBAD:=zh (fun hc hv=>HRA.out.bad hu hc hv);have HNX:=zh (fun hc hv=>HRA.out.next HLS.out HOK.out hu hc hv);have HSO:=zh HRA.out.ok;generalize(az E ls).getD k 0=i at *;obtain⟨-,-,xa',xc',hv1,hx⟩:=hXI1;simp only [Value.slice.injEq,true_and]at hv1;obtain⟨rfl,rfl⟩:=hv1;rcases hx with h0|⟨bu,ou,rfl,hbu,hx⟩
   ·omega
   have q1:=hx k hlt;rw [hzk]at q1;obtain⟨M,hM,hmk⟩:=hd.mks;have q2:W1.cell? ⟨N,i,none⟩=some (.bool (D.contains i)):=by rw [cell_of_row W1 _ _ _ _ _ hM,mY M (by rw [hmk.1];exact hil),hmk.2 i hil]
   have d1:(k:Int)<(Z.length:Int):=by omega
   have d2:(i:Int)<(ls.length:Int):=by omega
   have d3:(0:Int)<=(i:Int):=by omega
   have HKL:=zh hlt;have HSL:=zh hsl;have HIL:=zh hil
   cases hc:D.contains i with
   |true=>
    rw [hc]at q2;have HN2:=zh (HSK.out hc);clear hx hM hmk hil hu hzk hd hlt hk hsl hc hfo hty hva
    go_wp2_with fail
    go_roundw
    case rel=>exact⟨k+1,vb,D,st,HKL.out,by go_num,HD.out.grows ag,HM.out.grows ag,HOT1.out,by have:=HSL.out;omega,HN2⟩
    case measure=>simp [intOf];have:=HKL.out;omega
   |false=>
    rw [hc]at q2;have HC:=zh hc;obtain⟨-,a',c',hv2,hy⟩:=HL.out.grows hd.gr;simp only [Value.slice.injEq,true_and]at hv2;obtain⟨rfl,rfl⟩:=hv2;rcases hy with h0|⟨bl,ol,rfl,hbl,hy⟩
    ·omega
    obtain⟨ub,m,m0,m1,m2,m3,m4,m5,hrb⟩:=hy i hil
    have hbl0:bl<W0.heap.size:=by
     obtain⟨-,a'',c'',hv3,h0|⟨b3,o3,hb3,hlt3,-⟩⟩:=HL.out
     ·omega
     ·simp only [Value.slice.injEq,Option.some.injEq,Addr.mk.injEq,and_true,true_and]at hv3 hb3;obtain⟨e1,-⟩:=hv3;rw [<-e1]at hb3;simp only [Option.some.injEq,Addr.mk.injEq,and_true]at hb3;omega
    have hsz:=HBL.out _ (fZ hil);have hEV:=fun w' (hg:W1.Grows w') hr hr2 ra rc hrp=>mh (fun _=>True) v y vb st X HOK.out (fun p hp=>HSO.out.ok p hp) HRNG.out (ls.getD i default).2.size (ls.getD i default).2 (Nat.le_refl _) hr hr2 ra rc w' hrp ((hd.grows hg).evAt ze HY.out);generalize ls.getD i default=tt at *;obtain⟨nmi,bd⟩:=tt;dsimp only at m m0 m1 m2 m3 m4 m5 hrb hsz HBAD HNX hEV hfo hty;obtain⟨ra,rc,rfl⟩:=hrb.form0;have HRB:=zh hrb;have HEV:=zh (fun w' (hg:W1.Grows w')=>hEV w' hg hfo (by rw [hty]) ra rc (HRB.out.grows hg));have HB1:=zh (fun hv=>HBAD.out HC.out hv);have HN1:=zh (fun hv=>HNX.out HC.out hv);unfold exV at HEV;generalize ai v st bd=r at *;obtain⟨⟨rm,ry,rn,rd⟩,c⟩:=r;unfold EvR dM at HEV;dsimp only at HEV HB1 HN1;have HDM:=zh hmk;have HMB:=zh hM;clear hx hM hmk hil hu hzk hlt hk hsl hc hfo hty hva hEV hrb hy HBAD HNX HSK;by_cases hc:c=0
    ·subst hc;have HN2:=zh (HN1.out rfl)
     go_wp2_with (go_at_call 68;refine(HEV.out _ ag).mono ?_;rintro e' w' ⟨x',rfl,hx',bs5,d5,rfl⟩;have hx2:=hx' rfl;clear hx';subst hx2)
     refine gy (fun W5 hW5=>?_);have HG5:Hid (W1.Grows W5):=zh (by rw [<-hW5];exact ag);obtain⟨B,hB⟩:∃B,B=W1.heap.size+bs5.size:=⟨_,rfl⟩;have HBX:Hid (W5.heap[B]? =some (.cells #[.int .i64 rm,.bool ry,.int .i64 rn,.int .i64 rd] 34 (0,0))):=zh (by rw [hB,<-hW5];exact bK _ _ _ zg);rw [<-hB];have HD5:=zh (HD.out.grows HG5.out);have hrow:=fun k (hk:vb.ownBlock=some k)=>HD.out.row.lt k hk;have hB5:B<W5.heap.size:=(Array.getElem?_eq_some_iff.1 HBX.out).1;have hs15:W1.heap.size<=W5.heap.size:=HG5.out.below.size;have hg0:W0.heap.size<=W1.heap.size:=HD.out.gr.below.size;have x13:W5.cell? ⟨X,13,none⟩=some vb:=by rw [cell_of_row W5 _ _ _ _ _ HD5.out.ev];rfl
     have xn:W5.cell? ⟨bl,ol+i*7,none⟩=some (.string nmi):=(World.cell?_of_block (HG5.out.below.block bl hbl)).trans m;have yb:=fun(j:Nat) (z:Value) (hz:(#[Value.int .i64 rm,.bool ry,.int .i64 rn,.int .i64 rd]:Array Value)[j]? =some z)=>(cell_of_row W5 _ j _ _ _ HBX.out).trans hz
     have HSOF:Hid (∀w',Rel W5 vb.ownBlock w'->(w'.cell? ⟨X,13,none⟩=some vb/\w'.cell? ⟨bl,ol+i*7,none⟩=some (.string nmi)/\w'.cell? ⟨B,0,none⟩=some (.int .i64 rm)/\w'.cell? ⟨B,1,none⟩=some (.bool ry)/\w'.cell? ⟨B,2,none⟩=some (.int .i64 rn)/\w'.cell? ⟨B,3,none⟩=some (.int .i64 rd))):=zh (fun w' hr=>by
      have e1:=hr.cell (b:=X) (o:=13) ze (fun e=>(HD.out.no X e.symm).1 rfl);have e2:=hr.cell (b:=bl) (o:=ol+i*7) ze (fun e=>by have:=(hrow bl e.symm).1;omega);have e3:=fun o=>hr.cell (b:=B) (o:=o) hB5 (fun e=>by have:=(hrow B e.symm).2;omega)
      exact⟨e1.trans x13,e2.trans xn,(e3 0).trans (yb 0 _ rfl),(e3 1).trans (yb 1 _ rfl),(e3 2).trans (yb 2 _ rfl),(e3 3).trans (yb 3 _ rfl)⟩)
     have HM5:=zh (HM.out.grows HG5.out);clear hW5 hB HBX x13 xn yb HG5 q1 q2 m m0 m1 m2 m3 m4 m5 hrow;refine TS.begin [16] (fun w'=>w'.cell? ⟨X,13,none⟩=some vb/\w'.cell? ⟨bl,ol+i*7,none⟩=some (.string nmi)/\w'.cell? ⟨B,0,none⟩=some (.int .i64 rm)/\w'.cell? ⟨B,1,none⟩=some (.bool ry)/\w'.cell? ⟨B,2,none⟩=some (.int .i64 rn)/\w'.cell? ⟨B,3,none⟩=some (.int .i64 rd)) zf zf (HSOF.out _ ((Rel.refl _ _).grows ag)) (fun hS=>?_);refine TS.skB 0 hS ?_;refine TS.skB 1 hS ?_;refine TS.skB 2 hS ?_;refine TS.skB 3 hS ?_;refine TS.skB 4 hS ?_;refine TS.skB 5 hS ?_;refine TS.skB 6 hS ?_;refine TS.skB 7 hS ?_;refine TS.skB 8 hS ?_;refine TS.skB 9 hS ?_;refine TS.skB 10 hS ?_;refine TS.skB 11 hS ?_;refine TS.one (i:=12) zf rfl (fun K1 hK1=>?_);have HK1:=zh hK1;clear hK1 hS;dsimp only [getElem_toArray,getElem_cons_succ,getElem_cons_zero]
     go_simp
     refine TS.go HK1.out (HSOF.out _ ((Rel.refl _ _).grows ag)) (fun hS=>?_);clear HK1 K1
     (try simp only [nS])
     refine TS.one (i:=13) zf rfl (fun K1 hK1=>?_);refine step_append_lies _ rfl _ _ 47 rfl W0.heap.size 68 i0 _ 5 48 underlying47 hi hz0 hz1 hz2 rfl zo vb st.length _ rfl (bQ HD5.out.row ag) ⟨_,0,none⟩ 1 1 [.string nmi,.int .i64 rm,.bool ry,.int .i64 rn,.int .i64 rd] rfl rfl (aR _ [.string nmi,.int .i64 rm,.bool ry,.int .i64 rn,.int .i64 rd] _ _ zg) (by intro u hu;simp at hu;rcases hu with rfl|rfl|rfl|rfl|rfl<;>rfl) ze (by unfold maxLen;have:=HSL.out;omega) (by have:=HSL.out;omega) (by have:=HD5.out.gr.below.size;simp;omega) _ rfl ?_;intro g cap w2 hown2 hgrow2 hgg hgl;have hS2:=HSOF.out w2 (((Rel.refl W5 _).grows ag).grown hgrow2);have HD6:Hid (iT W0 (w2.setCell ⟨X,13,none⟩ (.slice (some ⟨g,0,none⟩) (st.length+1) cap)) X N v y (.slice (some ⟨g,0,none⟩) (st.length+1) cap) ls.length D (st++[(nmi,⟨rm,ry,rn,rd⟩)])):=zh ((HD5.out.grows ag).app hXN hXW hgrow2 (by rw [ji];exact hown2) hgg (Nat.le_refl _));have hz5:=(HD5.out.grows ag).unfr hgrow2;have HM6:Hid (Mid U0 W2 (w2.setCell ⟨X,13,none⟩ (.slice (some ⟨g,0,none⟩) (st.length+1) cap))):=zh (Mid.set (Mid.grown (HM5.out.grows ag) hgrow2 HOT1.out) hXU);have HT6:Hid (Out U0 W2.heap.size (.slice (some ⟨g,0,none⟩) (st.length+1) cap)):=zh (HOT1.out.next hgg (by have:=HM5.out.1;simp;omega));refine hK1 _ _ (fun _=>hS2) ?_;clear hK1 K1 hown2 hgrow2 hgg hS;have hS:=hS2;clear hS2
     (try simp only [nS])
     refine TS.skB 14 hS ?_;refine TS.skB 15 hS ?_;refine TS.weB 16 ?_;clear hS HD5 HSOF HM5;clear hz5;generalize w2.setCell ⟨X,13,none⟩ (.slice (some ⟨g,0,none⟩) (st.length+1) cap)=W6 at *;obtain⟨M6,hM6,hmk6⟩:=HD6.out.mks;have c0:W6.cell? ⟨N,i,none⟩=some (.bool (M6.getD i false)):=by rw [cell_of_row W6 _ _ _ _ _ hM6];exact mY M6 (by rw [hmk6.1];exact HIL.out)
     have z0:W6.frozen? ⟨N,i,none⟩=false:=Joins.unfrozen_of_block hM6 i;have hN6:=(Array.getElem?_eq_some_iff.1 hM6).1;have HD7:=zh (HD6.out.mark hXN hNW HIL.out);have HM7:=zh (Mid.set (i:=i) (u:=.bool true) HM6.out hNU);clear hM6 hmk6 HD6 HM6
     go_wp2_with fail
     go_roundw
     case rel=>exact⟨k+1,_,_,_,HKL.out,by go_num,HD7.out,HM7.out,HT6.out,by have:=HSL.out;simp;omega,HN2⟩
     case measure=>simp [intOf];have:=HKL.out;omega
    ·have hc2:(c !=0)=true:=by simpa using hc
     have HF:=zh (HB1.out hc);have HCC:=zh hc;clear hc
     go_wp2_with (go_at_call 68;refine(HEV.out _ ag).mono ?_;rintro e' w' ⟨x',rfl,hx',bs5,d5,rfl⟩;clear hx')
     go_returns
     have hF:(fo v ls E nm D0 st0).2.2=c:=Ky (by rw [HF.out]) HCC.out;exact⟨World.Grows.trans' HD.out.gr ag,by rw [hF]<;>rfl,fun h0=>absurd (hF ▸ h0) HCC.out⟩
  ·obtain rfl:k=Z.length:=by omega
   have HRE:Hid (eu v ls env E D0 st0 (az E ls).length D st):=zh (by rw [<-HZL.out];exact HRA.out);have HSL:=zh hsl;have hEV:=mh (fun _=>True) v y vb st X HOK.out (fun p hp=>HRE.out.ok.ok p hp) HRNG.out E.size E (Nat.le_refl _) HTY.out.2.1 (by rw [HRE.out.last HLS.out HTY.out.2.1 HTY.out.2.2]);have HEV:=zh (fun w' (hg:W1.Grows w')=>hEV ua uc w' (HR.out.grows (World.Grows.trans' hd.gr hg)) ((hd.grows hg).evAt ze HY.out));have HDB:=zh (fun c h1 h2=>Kw (nm:=nm) (c:=c) HRE.out.done h1 h2);have HDC:=zh (fun x h1=>Kv (nm:=nm) (x:=x) HRE.out.done h1);have hbe:=fun(j:Nat) (z:Value) (hz:(#[Value.int .i64 E.op,.int .i64 E.num,.int .i64 E.den,.int .i64 E.dim,.string E.name,.slice ua E.args.length uc]:Array Value)[j]? =some z)=>(cell_of_row W1 _ j _ _ _ HBE1.out).trans hz;have b0:=hbe 0 _ rfl;have b1:=hbe 1 _ rfl;have b2:=hbe 2 _ rfl;have b3:=hbe 3 _ rfl;have b4:=hbe 4 _ rfl;have b5:=hbe 5 _ rfl;unfold exV at HEV;generalize ai v st E=r at *;obtain⟨⟨rm,ry,rn,rd⟩,c⟩:=r;unfold EvR dM at HEV;dsimp only at HEV HDB HDC;clear hbe hEV hXI1 hd hsl;by_cases hc:c=0
   ·subst hc;have HF:=zh (HDC.out ⟨rm,ry,rn,rd⟩ rfl)
    go_wp2_with (go_at_call 68;refine(HEV.out _ ag).mono ?_;rintro e' w' ⟨x',rfl,hx',bs5,d5,rfl⟩;have hx2:=hx' rfl;clear hx';subst hx2)
    refine gy (fun W5 hW5=>?_);have HG5:Hid (W1.Grows W5):=zh (by rw [<-hW5];exact ag);have HG5X:=HG5;obtain⟨B,hB⟩:∃B,B=W1.heap.size+bs5.size:=⟨_,rfl⟩;have HBX:Hid (W5.heap[B]? =some (.cells #[.int .i64 rm,.bool ry,.int .i64 rn,.int .i64 rd] 34 (0,0))):=zh (by rw [hB,<-hW5];exact bK _ _ _ zg);rw [<-hB];have HD5:=zh (HD.out.grows HG5.out);have hrow:=fun k (hk:vb.ownBlock=some k)=>HD.out.row.lt k hk;have hB5:B<W5.heap.size:=(Array.getElem?_eq_some_iff.1 HBX.out).1;have hs15:W1.heap.size<=W5.heap.size:=HG5.out.below.size;have x13:W5.cell? ⟨X,13,none⟩=some vb:=by rw [cell_of_row W5 _ _ _ _ _ HD5.out.ev];rfl
    have yb:=fun(j:Nat) (z:Value) (hz:(#[Value.int .i64 rm,.bool ry,.int .i64 rn,.int .i64 rd]:Array Value)[j]? =some z)=>(cell_of_row W5 _ j _ _ _ HBX.out).trans hz
    have HSOF:Hid (∀w',Rel W5 vb.ownBlock w'->(w'.cell? ⟨X,13,none⟩=some vb/\w'.cell? ⟨B,0,none⟩=some (.int .i64 rm)/\w'.cell? ⟨B,1,none⟩=some (.bool ry)/\w'.cell? ⟨B,2,none⟩=some (.int .i64 rn)/\w'.cell? ⟨B,3,none⟩=some (.int .i64 rd))):=zh (fun w' hr=>by
     have e1:=hr.cell (b:=X) (o:=13) ze (fun e=>(HD.out.no X e.symm).1 rfl);have e3:=fun o=>hr.cell (b:=B) (o:=o) hB5 (fun e=>by have:=(hrow B e.symm).2;omega)
     exact⟨e1.trans x13,(e3 0).trans (yb 0 _ rfl),(e3 1).trans (yb 1 _ rfl),(e3 2).trans (yb 2 _ rfl),(e3 3).trans (yb 3 _ rfl)⟩)
    clear hW5 hB HBX x13 yb HG5 b0 b1 b2 b3 b4 b5 hrow;refine TS.begin [12] (fun w'=>w'.cell? ⟨X,13,none⟩=some vb/\w'.cell? ⟨B,0,none⟩=some (.int .i64 rm)/\w'.cell? ⟨B,1,none⟩=some (.bool ry)/\w'.cell? ⟨B,2,none⟩=some (.int .i64 rn)/\w'.cell? ⟨B,3,none⟩=some (.int .i64 rd)) zf zf (HSOF.out _ ((Rel.refl _ _).grows ag)) (fun hS=>?_);refine TS.skB 0 hS ?_;refine TS.skB 1 hS ?_;refine TS.skB 2 hS ?_;refine TS.skB 3 hS ?_;refine TS.skB 4 hS ?_;refine TS.skB 5 hS ?_;refine TS.skB 6 hS ?_;refine TS.skB 7 hS ?_;refine TS.one (i:=8) zf rfl (fun K1 hK1=>?_);have HK1:=zh hK1;clear hK1 hS;dsimp only [getElem_toArray,getElem_cons_succ,getElem_cons_zero]
    go_simp
    refine TS.go HK1.out (HSOF.out _ ((Rel.refl _ _).grows ag)) (fun hS=>?_);clear HK1 K1
    (try simp only [nS])
    refine TS.one (i:=9) zf rfl (fun K1 hK1=>?_);refine step_append_lies _ rfl _ _ 47 rfl W0.heap.size 68 i0 _ 5 48 underlying47 hi hz0 hz1 hz2 rfl zo vb st.length _ rfl (bQ HD5.out.row ag) ⟨_,0,none⟩ 1 1 [.string nm,.int .i64 rm,.bool ry,.int .i64 rn,.int .i64 rd] rfl rfl (aR _ [.string nm,.int .i64 rm,.bool ry,.int .i64 rn,.int .i64 rd] _ _ zg) (by intro u hu;simp at hu;rcases hu with rfl|rfl|rfl|rfl|rfl<;>rfl) ze (by unfold maxLen;have:=HSL.out;omega) (by have:=HSL.out;omega) (by have:=HD5.out.gr.below.size;simp;omega) _ rfl ?_;intro g cap w2 hown2 hgrow2 hgg hgl;have hS2:=HSOF.out w2 (((Rel.refl W5 _).grows ag).grown hgrow2);have HD6:Hid (iT W0 (w2.setCell ⟨X,13,none⟩ (.slice (some ⟨g,0,none⟩) (st.length+1) cap)) X N v y (.slice (some ⟨g,0,none⟩) (st.length+1) cap) ls.length D (st++[(nm,⟨rm,ry,rn,rd⟩)])):=zh ((HD5.out.grows ag).app hXN hXW hgrow2 (by rw [ji];exact hown2) hgg (Nat.le_refl _));have hz5:=(HD5.out.grows ag).unfr hgrow2;have HM6:Hid (Mid U0 W2 (w2.setCell ⟨X,13,none⟩ (.slice (some ⟨g,0,none⟩) (st.length+1) cap))):=zh (Mid.set (Mid.grown ((HM.out.grows HG5X.out).grows ag) hgrow2 HOT1.out) hXU);refine hK1 _ _ (fun _=>hS2) ?_;clear hK1 K1 hown2 hgrow2 hgg hS;have hS:=hS2;clear hS2
    (try simp only [nS])
    refine TS.skB 10 hS ?_;refine TS.skB 11 hS ?_;refine TS.weB 12 ?_;clear hS HD5 HSOF
    go_wp2_with fail
    go_returns
    exact⟨HD6.out.gr,by rw [HF.out]<;>rfl,fun _=>⟨_,by rw [HF.out];exact HD6.out,by rw [HF.out];have:=HSL.out;simp;omega,HMW.out.trans HM6.out⟩⟩
   ·have hc2:(c !=0)=true:=by simpa using hc
    have HCC:=zh hc;have HF:=zh (HDB.out c rfl hc);clear hc
    go_wp2_with (go_at_call 68;refine(HEV.out _ ag).mono ?_;rintro e' w' ⟨x',rfl,hx',bs5,d5,rfl⟩;clear hx')
    go_returns
    exact⟨World.Grows.trans' HD.out.gr ag,by rw [HF.out]<;>rfl,fun h0=>absurd (HF.out ▸ h0) HCC.out⟩
end Go.Proofs.YtlheailebbngiaaGreatDoor
