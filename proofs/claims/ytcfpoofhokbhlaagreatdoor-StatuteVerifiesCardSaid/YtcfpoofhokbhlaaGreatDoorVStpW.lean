import Derived.Test.YtcfpoofhokbhlaaGreatDoorVLtQ
import Derived.Test.YtcfpoofhokbhlaaGreatDoorVLawBo
set_option linter.all false
set_option maxHeartbeats 16000000
set_option maxRecDepth 1000000
namespace Go.Proofs.YtcfpoofhokbhlaaGreatDoor
open Go.Proofs.Tryz Tryz List
open Go.RowKit
theorem KA{n k:Int}(hn:I64 n)(hk:2<=k):-9223372036854775808<=n.tdiv k/\n.tdiv k<=9223372036854775807:=by
 obtain⟨h1,h2⟩:=hn;by_cases h:0<=n
 ·rw [Int.tdiv_eq_ediv_of_nonneg h];have:=Int.ediv_le_self k h;have:=Int.ediv_nonneg h (show 0<=k by omega);omega
 ·have e:n.tdiv k= -((-n) / k):=by
   rw [<-Int.tdiv_eq_ediv_of_nonneg (show 0<=-n by omega),Int.neg_tdiv,Int.neg_neg]
  have h3:(-n) / k*k<=-n:=Int.ediv_mul_le _ ze;have h4:0<=(-n) / k:=Int.ediv_nonneg ze ze;have h5:(-n) / k*2<=(-n) / k*k:=Int.mul_le_mul_of_nonneg_left hk h4;omega
def Bb(n dim:Int):Value:=.agg #[.int .i64 dim,.bool (DL n dim).yes,.int .i64 (DL n dim).n,.int .i64 (DL n dim).d]
theorem GM(n dim:Int)(w:World)(hn:I64 n):Calls prog 8 #[.int .i64 n,.int .i64 dim] w fun e w'=>e= .returned (Bb n dim)/\w.Grows w':=by
 obtain⟨hn1,hn2⟩:=hn;by_cases hd:dim=1
 ·subst hd;by_cases hm:n.tmod 2=0
  ·have HV:Hid (Bb n 1= .agg #[.int .i64 1,.bool true,.int .i64 0,.int .i64 0]):=yq (by unfold Bb DL;simp [hm]);rw [HV.out];have hb:(n.tmod 2==0)=true:=by simpa using hm
   go_enter func8,ntmps8
   exact nE
  ·have HV:Hid (Bb n 1= .agg #[.int .i64 1,.bool false,.int .i64 0,.int .i64 0]):=yq (by unfold Bb DL;simp [hm]);rw [HV.out];have hb:(n.tmod 2==0)=false:=by simpa using hm
   go_enter func8,ntmps8
   exact nE
 ·have hb:(dim==1)=false:=by simpa using hd
  have HV:Hid (Bb n dim= .agg #[.int .i64 dim,.bool false,.int .i64 (mkN (n.tmod 100000) (1+pick (n.tdiv 7) 12)),.int .i64 (mkD (n.tmod 100000) (1+pick (n.tdiv 7) 12))]):=yq (by unfold Bb DL;simp [hd]);rw [HV.out];have hp:=cZ (n.tdiv 7) 12 ze;have ht:=Kz n;have h7:=KA (n:=n) ⟨hn1,hn2⟩ (show(2:Int)<=7 by omega);have hw:IntKind.i64.wrap (n.tdiv 7)=n.tdiv 7:=IntWalk.i64_in _ ze;clear h7;clear hd
  go_enter func8,ntmps8
  go_wp2_with (first
   |(go_at_call 6;refine gw (bz _ _ _ ze) ?_)
   |(go_at_call 12;refine gvq (dZ _ _ _ ze ze ze ze) ?_;intro bs d))
  exact lU
def dL(l:List (ByteArray × Val)):List Value:=l.flatMap fun p=>[.string p.1,.int .i64 p.2.dim,.bool p.2.yes,.int .i64 p.2.n,.int .i64 p.2.d]
theorem iN(l:List (ByteArray × Val)):(dL l).length=l.length*5:=by
 induction l with
 |nil=>rfl
 |cons p r ih=>unfold dL at *;rw [flatMap_cons,length_append,ih];simp;omega
theorem Bp(l:List (ByteArray × Val)):∀i,i<l.length->(dL l)[i*5]? =some (.string (stN l i))/\(dL l)[i*5+1]? =some (.int .i64 (stV l i).dim)/\(dL l)[i*5+2]? =some (.bool (stV l i).yes)/\(dL l)[i*5+3]? =some (.int .i64 (stV l i).n)/\(dL l)[i*5+4]? =some (.int .i64 (stV l i).d):=by
 induction l with
 |nil=>intro i hi;simp at hi
 |cons p r ih=>
  intro i hi
  cases i with
  |zero=>exact⟨rfl,rfl,rfl,rfl,rfl⟩
  |succ i=>
   have h:=ih i yo
   have e:∀j,(dL (p::r))[(i+1)*5+j]? =(dL r)[i*5+j]?:=fun j=>by
    rw [show(i+1)*5+j=i*5+j+5 by omega];rfl
   have e0:=e 0;rw [Nat.add_zero,Nat.add_zero]at e0;rw [e0,e 1,e 2,e 3,e 4];exact h
theorem jk(l:List (ByteArray × Val))(p:ByteArray × Val):dL (l++[p])=dL l++[.string p.1,.int .i64 p.2.dim,.bool p.2.yes,.int .i64 p.2.n,.int .i64 p.2.d]:=by
 unfold dL;simp
theorem bi.of_own{w:World}{base:Nat}{v:Value}{l:List (ByteArray × Val)}(h:w.ownsRow base 53 5 v l.length (dL l))(hl:l.length<=1000):bi w v l:=by
 obtain⟨-,⟨rfl,h0⟩|⟨g,cap,cur,rfl,hb,hg,h2,h3,h4,h5⟩⟩:=id h
 ·exact⟨by omega,none,0,by rw [h0],.inl h0⟩
 ·refine⟨by omega,_,cap,rfl,.inr ⟨g,0,rfl,(Array.getElem?_eq_some_iff.1 hg).1,fun i hi=>?_⟩⟩;obtain⟨g0,g1,g2,g3,g4⟩:=Bp l i hi;have hL:=iN l;rw [Nat.zero_add];exact⟨(h.cellAt (i*5) ze).trans g0,(h.cellAt (i*5+1) ze).trans g1,(h.cellAt (i*5+2) ze).trans g2,(h.cellAt (i*5+3) ze).trans g3,(h.cellAt (i*5+4) ze).trans g4⟩
theorem Cf:(prog.info? 53).map (fun i=>(i.zero,i.size,i.bytes))=some (some (.agg #[.string ⟨#[]⟩,.int .i64 0,.bool false,.int .i64 0,.int .i64 0]),5,48):=by kernel_rfl
def Mid(B:Nat)(W w:World):Prop:=W.heap.size<=w.heap.size/\∀k,B<=k->k<W.heap.size->w.heap[k]? =W.heap[k]?
def vwA(v:Vw)(y:Value):Array Value:=#[.int .i64 v.age,.int .i64 v.year,.int .i64 v.children,.int .i64 v.insured,.int .i64 v.worked,.int .i64 v.voluntary,.int .i64 v.service,.int .i64 v.equated,.int .i64 v.raising,.int .i64 v.resident,.int .i64 v.bn,.int .i64 v.bd,y]
def Out(B H:Nat)(v:Value):Prop:=∀k,v.ownBlock=some k->k<B\/H<=k
section
variable {B H : Nat} {W w w' : World} {v : Value}
theorem Mid.refl(B:Nat)(W:World):Mid B W W:=⟨Nat.le_refl _,fun _ _ _=>rfl⟩
theorem Mid.grows(h:Mid B W w)(hg:w.Grows w'):Mid B W w':=⟨Nat.le_trans h.1 hg.below.size,fun k h1 h2=>(hg.below.block k (Nat.lt_of_lt_of_le h2 h.1)).trans (h.2 k h1 h2)⟩
theorem Mid.grown(h:Mid B W w)(hg:w.grownBy w' v.ownBlock)(ho:Out B W.heap.size v):Mid B W w':=
 ⟨Nat.le_trans h.1 hg.size,fun k h1 h2=>(hg.block k (Nat.lt_of_lt_of_le h2 h.1) (fun e=>by have:=ho k e.symm;omega)).trans (h.2 k h1 h2)⟩
theorem Out.next{g H' n cap:Nat}(h:Out B H v)(hg:v.ownBlock=some g\/g=H')(hH:H<=H'):Out B H (.slice (some ⟨g,0,none⟩) n cap):=by
 intro k hk;obtain rfl:g=k:=by simpa [Value.ownBlock]using hk
 rcases hg with hg|rfl
 ·exact h _ hg
 ·exact .inr hH
theorem Mid.ints{zs:List Int}(hm:Mid B W w)(h:ax W v zs)(hn:∀k,v.ownBlock=some k->B<=k):ax w v zs:=by
 obtain⟨h0,hr,a,cap,rfl,h1⟩:=h;refine⟨h0,hr,a,cap,rfl,h1.imp id ?_⟩;rintro⟨b,off,rfl,hb,hc⟩;exact⟨b,off,rfl,Nat.lt_of_lt_of_le hb hm.1,fun i hi=>(World.cell?_of_block (hm.2 b (hn b rfl) hb)).trans (hc i hi)⟩
end
theorem Ko{E:Ex}{ls:List (ByteArray × Ex)}{k:Nat}(hk:k<((az E ls).map Int.ofNat).length):((az E ls).map Int.ofNat).getD k 0=((az E ls).getD k 0:Nat):=by
 rw [length_map]at hk;rw [getD_eq_getElem?_getD,getD_eq_getElem?_getD,getElem?_map,getElem?_eq_getElem hk];rfl
theorem Bc(E:Ex)(ls:List (ByteArray × Ex)):(az E ls).length<=ls.length:=jg ls.length
theorem QE{w:World}{a:Option Addr}{n cap:Nat}{st:List (ByteArray × Val)}(h:bi w (.slice a n cap) st){j:Nat}(hj:j<st.length):∃b off,a=some ⟨b,off,none⟩/\b<w.heap.size/\w.cell? ⟨b,off+j*5,none⟩=some (.string (stN st j)):=by
 obtain⟨-,a',c',hv,h0|⟨b,off,ha,hb,hc⟩⟩:=h
 ·omega
 ·simp only [Value.slice.injEq]at hv;obtain⟨rfl,-,-⟩:=hv;exact⟨b,off,ha,hb,(hc j hj).1⟩
def GrP(r:(Bool × Int × Int) × List (ByteArray × Val) × Int)(w:World)(e:Ending)(w':World):Prop:=∃sv,e= .returned (.tuple #[.agg #[.bool r.1.1,.int .i64 r.1.2.1,.int .i64 r.1.2.2,sv],.int .i64 r.2.2])/\w.Grows w'/\bi w' sv r.2.1/\∀k,sv.ownBlock=some k->w.heap.size<=k
theorem GrP.bad{r:(Bool × Int × Int) × List (ByteArray × Val) × Int}{w w':World}{c:Int}(hr:r=((false,0,0),[],c))(hg:w.Grows w'):GrP r w (.returned (.tuple #[.agg #[.bool false,.int .i64 0,.int .i64 0,.slice none 0 0],.int .i64 c])) w':=by
 subst hr;exact⟨_,rfl,hg,⟨by simp,none,0,rfl,.inl rfl⟩,fun k hk=>by cases hk⟩
theorem GrP.ok{r:(Bool × Int × Int) × List (ByteArray × Val) × Int}{w w':World}{b:Bool}{n d:Int}{sv:Value}{st:List (ByteArray × Val)}(hr:r=((b,n,d),st,0))(hg:w.Grows w')(hs:bi w' sv st)(hn:∀k,sv.ownBlock=some k->w.heap.size<=k):GrP r w (.returned (.tuple #[.agg #[.bool b,.int .i64 n,.int .i64 d,sv],.int .i64 0])) w':=by
 subst hr;exact⟨sv,rfl,hg,hs,hn⟩
theorem bi.same{w w':World}{v:Value}{st:List (ByteArray × Val)}(h:bi w v st)(hs:w.heap.size<=w'.heap.size)(hk:∀k,v.ownBlock=some k->w'.heap[k]? =w.heap[k]?):bi w' v st:=by
 obtain⟨h0,a,cap,rfl,h1⟩:=h;refine⟨h0,a,cap,rfl,h1.imp id ?_⟩;rintro⟨b,off,rfl,hb,hc⟩;refine⟨b,off,rfl,Nat.lt_of_lt_of_le hb hs,fun j hj=>?_⟩;have e:∀o,w'.cell? ⟨b,o,none⟩=w.cell? ⟨b,o,none⟩:=fun o=>World.cell?_of_block (hk b rfl);obtain⟨c0,c1,c2,c3,c4⟩:=hc j hj;exact⟨(e _).trans c0,(e _).trans c1,(e _).trans c2,(e _).trans c3,(e _).trans c4⟩
theorem bi.moved{X Y:World}(hs:X.heap.size=Y.heap.size){bs:Array Obj}{d d':Nat}{v:Value}{st:List (ByteArray × Val)}(h:bi (X.grow bs d) v st)(hk:∀k,v.ownBlock=some k->X.heap.size<=k):bi (Y.grow bs d') v st:=
 h.same (by simp [hs]) fun k hv=>World.heap_grow_same hs bs d d' (hk k hv)
theorem oL{ls:List (ByteArray × Ex)}{env:List (ByteArray × Int)}{v:Vw}{E:Ex}{D0 D:List Nat}{st0 st:List (ByteArray × Val)}{m:Int}(hra:dW v ls env E D0 st0 (az E ls).length D st)(hl:iA ls ls.length env)(hok:v.ok=true)(ht:aR env E=(m,0)) :
 gG v st E=aj v st E/\okR m (aj v st E):=by
 obtain⟨h1,h2,h3⟩:=wW ht;have h4:=hra.last hl h2 h3;have:=uP hok hra.ok.ok h1 (by rw [h4]);rw [h4]at this;exact this
def Marks(n:Nat)(D:List Nat)(M:List Bool):Prop:=M.length=n/\∀k,k<n->M.getD k false=D.contains k
theorem Marks.push{n:Nat}{D:List Nat}{M:List Bool}{i:Nat}(h:Marks n D M)(hi:i<n):Marks n (D++[i]) (M.set i true):=by
 refine⟨by rw [length_set];exact h.1,fun k hk=>?_⟩;rw [Bool.eq_iff_iff,contains_iff_mem,mem_append,mem_singleton];by_cases hki:k=i
 ·subst hki;rw [set_self (by rw [h.1];exact hk)];simp
 ·rw [FL hki,h.2 k hk,contains_iff_mem];simp [hki]
theorem Marks.zero(n:Nat):Marks n [] (List.replicate n false):=⟨by simp,fun k hk=>by simp [getD_eq_getElem?_getD,getElem?_replicate,hk]⟩
def No2(X N:Nat)(v:Value):Prop:=∀k,v.ownBlock=some k->k≠X/\k≠N
structure iU(W0 w:World)(X N:Nat)(v:Vw)(y vb:Value)(n:Nat)(D:List Nat)(st:List (ByteArray × Val)):Prop where
 gr:W0.Grows w
 ev:w.heap[X]? =some (.cells (evC v y vb) 119 (0,0))
 mks:∃M,w.heap[N]? =some (.cells (bbs M) 4 (0,0))/\Marks n D M
 row:w.ownsRow W0.heap.size 53 5 vb st.length (dL st)
 no:No2 X N vb
section
variable {W0 w w' : World} {X N : Nat} {v : Vw} {y vb : Value} {n : Nat} {D : List Nat} {st : List (ByteArray × Val)}
theorem iU.grows(h:iU W0 w X N v y vb n D st)(hg:w.Grows w'):iU W0 w' X N v y vb n D st:=by
 obtain⟨M,hM,hm⟩:=h.mks;exact⟨gqq h.gr hg,(hg.below.block X (Array.getElem?_eq_some_iff.1 h.ev).1).trans h.ev,⟨M,(hg.below.block N (Array.getElem?_eq_some_iff.1 hM).1).trans hM,hm⟩,bK h.row hg,h.no⟩
theorem iU.steps(h:iU W0 w X N v y vb n D st)(hl:st.length<=1000):bi w vb st:=bi.of_own h.row hl
theorem iU.evAt(h:iU W0 w X N v y vb n D st)(hl:st.length<=1000)(hy:bI W0 y v.years):sw w X v y st vb:=⟨h.ev,hy.grows h.gr,h.steps hl⟩
end
theorem eO(w:World)(X i:Nat)(u:Value):w.grownBy (w.setCell ⟨X,i,none⟩ u) (some X):=
 ⟨rfl,rfl,rfl,by simp [World.setCell],fun k hk hne=>by
  have h:X≠k:=fun e=>hne (by rw [e])
  simp [World.setCell,Array.getElem?_modify,h]⟩
theorem FW{w:World}{base:Nat}{e:TypeId}{size:Nat}{vb:Value}{n:Nat}{xs:List Value}(h:w.ownsRow base e size vb n xs){X i:Nat}{u:Value}(hn:∀k,vb.ownBlock=some k->k≠X):(w.setCell ⟨X,i,none⟩ u).ownsRow base e size vb n xs:=
 h.kept (eO w X i u) (by
  cases ho:vb.ownBlock with
  |none=>exact .inl rfl
  |some k=>exact .inr fun e=>hn k ho (Option.some.inj e))
theorem Mid.set{B:Nat}{W w:World}(h:Mid B W w){X i:Nat}{u:Value}(hX:X<B):Mid B W (w.setCell ⟨X,i,none⟩ u):=
 ⟨Nat.le_trans h.1 (eO w X i u).size,fun k h1 h2=>((eO w X i u).block k (Nat.lt_of_lt_of_le h2 h.1) fun e=>by have:=Option.some.inj e;omega).trans (h.2 k h1 h2)⟩
theorem iU.app{W0 w w2:World}{X N:Nat}{v:Vw}{y vb:Value}{n:Nat}{D:List Nat}{st:List (ByteArray × Val)}{p:ByteArray × Val}{g cap H:Nat}(h:iU W0 w X N v y vb n D st)(hXN:X≠N)(hX:W0.heap.size<=X)(hgrow:w.grownBy w2 vb.ownBlock)
 (hown:w2.ownsRow W0.heap.size 53 5 (.slice (some ⟨g,0,none⟩) (st.length+1) cap) (st.length+1) (dL (st++[p]))) (hgg:vb.ownBlock=some g\/g=H) (hH:w.heap.size<=H) :
 iU W0 (w2.setCell ⟨X,13,none⟩ (.slice (some ⟨g,0,none⟩) (st.length+1) cap)) X N v y (.slice (some ⟨g,0,none⟩) (st.length+1) cap) n D (st++[p]):=by
 obtain⟨M,hM,hm⟩:=h.mks;have hXl:=(Array.getElem?_eq_some_iff.1 h.ev).1;have hNl:=(Array.getElem?_eq_some_iff.1 hM).1
 have hno:No2 X N (.slice (some ⟨g,0,none⟩) (st.length+1) cap):=fun k hk=>by
  obtain rfl:g=k:=by simpa [Value.ownBlock]using hk
  rcases hgg with hg|rfl
  ·exact h.no _ hg
  ·exact⟨by omega,by omega⟩
 have hX2:w2.heap[X]? =some (.cells (evC v y vb) 119 (0,0)):=(hgrow.block X hXl fun e=>(h.no X e.symm).1 rfl).trans h.ev;have hN2:w2.heap[N]? =some (.cells (bbs M) 4 (0,0)):=(hgrow.block N hNl fun e=>(h.no N e.symm).2 rfl).trans hM;refine⟨World.Grows.grown (World.Grows.grown h.gr hgrow fun k hk=>(h.row.lt k hk).1) (eO w2 X 13 _) fun k hk=>by cases hk;exact hX, ?_,⟨M, ?_,hm⟩, ?_,hno⟩
 ·exact Joins.block_setCell hX2 _
 ·exact((eO w2 X 13 _).block N (Array.getElem?_eq_some_iff.1 hN2).1 fun e=>hXN (Option.some.inj e).symm).trans hN2
 ·rw [length_append];exact FW hown fun k hk=>(hno k hk).1
theorem iU.unfr{W0 w w2:World}{X N:Nat}{v:Vw}{y vb:Value}{n:Nat}{D:List Nat}{st:List (ByteArray × Val)}(h:iU W0 w X N v y vb n D st)(hgrow:w.grownBy w2 vb.ownBlock):w2.frozen? ⟨X,13,none⟩=false:=
 Joins.unfrozen_of_block ((hgrow.block X (Array.getElem?_eq_some_iff.1 h.ev).1 fun e=>(h.no X e.symm).1 rfl).trans h.ev) 13
theorem iU.mark{W0 w:World}{X N:Nat}{v:Vw}{y vb:Value}{n i:Nat}{D:List Nat}{st:List (ByteArray × Val)}(h:iU W0 w X N v y vb n D st)(hXN:X≠N)(hN:W0.heap.size<=N)(hi:i<n):iU W0 (w.setCell ⟨N,i,none⟩ (.bool true)) X N v y vb n (D++[i]) st:=by
 obtain⟨M,hM,hm⟩:=h.mks;have hXl:=(Array.getElem?_eq_some_iff.1 h.ev).1;refine⟨World.Grows.grown h.gr (eO w N i _) fun k hk=>by cases hk;exact hN, ?_,⟨M.set i true, ?_,hm.push hi⟩,FW h.row fun k hk=>(h.no k hk).2,h.no⟩
 ·exact((eO w N i _).block X hXl fun e=>hXN (Option.some.inj e)).trans h.ev
 ·rw [<-AO];exact Joins.block_setCell hM _
def Rk(W0:World)(X N:Nat)(v:Vw)(y:Value)(ls:List (ByteArray × Ex))(env:List (ByteArray × Int))(n0:Nat)(r:List Nat × List (ByteArray × Val) × Int)(B:Nat)(w:World)(e:Ending)(w':World):Prop:=
 W0.Grows w'/\e= .returned (.int .i64 r.2.2)/\(r.2.2=0->∃vb,iU W0 w' X N v y vb ls.length r.1 r.2.1/\r.2.1.length<=n0+11/\Mid B w w')
theorem Mid.trans{B:Nat}{W w w':World}(h:Mid B W w)(h2:Mid B w w'):Mid B W w':=⟨Nat.le_trans h.1 h2.1,fun k h1 hk=>(h2.2 k h1 (Nat.lt_of_lt_of_le hk h.1)).trans (h.2 k h1 hk)⟩
theorem rP(ls:List (ByteArray × Ex))(env:List (ByteArray × Int))(v:Vw)(E:Ex)(u y vs:Value)(nm:ByteArray)(a5:Option Addr)(k5 dc:Nat)(W0 w:World)(X N:Nat)(D0:List Nat)(st0:List (ByteArray × Val))(m:Int)
 (hl:iA ls ls.length env) (hlen:ls.length<=10) (hbl:∀t∈ls,t.2.size<=1000000) (hok:v.ok=true) (hrng:dV v) (hnm:fq nm=false) (hty:aR env E=(m,0)) (hbig:E.size<=1000000)
 (hR:aB (fun _=>True) W0 E u) (hL:gI W0 (.slice a5 ls.length k5) ls) (hY:bI W0 y v.years) (hD:iU W0 w X N v y vs ls.length D0 st0) (hst:lq ls env D0 st0) (hn:st0.length<=20) (hXN:X≠N) (hXW:W0.heap.size<=X) (hNW:W0.heap.size<=N) (U0:Nat) (hU0:U0<=w.heap.size) (hXU:X<U0) (hNU:N<U0) (hvU:∀k,vs.ownBlock=some k->k<U0) :
 Calls prog 42 #[.pointer (some ⟨X,0,none⟩),exV E u,.slice a5 ls.length k5,.slice (some ⟨N,0,none⟩) ls.length dc,.string nm] w (Rk W0 X N v y ls env st0.length (eZ v ls E nm D0 st0) U0 w):=by
 obtain⟨i0,hi,hz0,hz1,hz2⟩:=info_parts Cf;have HL:=yq hL;have HR:=yq hR;have HY:=yq hY;have HLS:=yq hl;have HBL:=yq hbl;have HOK:=yq hok;have HRNG:=yq hrng;have HD0:=yq hD;have HST:=yq hst;have HTY:=yq (wW hty);have HU:=yq (fun w' (hg:W0.Grows w')=>JX E u (.slice a5 ls.length k5) ls w' (hR.grows hg) (hL.grows hg));obtain⟨ua,uc,rfl⟩:=hR.form0;have hzk:=fun k=>@Ko E ls k;have hzl:((az E ls).map Int.ofNat).length=(az E ls).length:=by simp
 have hul:=Bc E ls;have hX0:X<w.heap.size:=(Array.getElem?_eq_some_iff.1 hD.ev).1;have hN0:N<w.heap.size:=by obtain⟨M,hM,-⟩:=hD.mks;exact(Array.getElem?_eq_some_iff.1 hM).1
 unfold exV at HU;generalize(az E ls).map Int.ofNat=Z at *;have HZK:=yq hzk;have HZL:=yq hzl;have hZ10:Z.length<=10:=by omega
 unfold exV;clear hR hL hl hbl hok hrng hD hst hty hzk hzl hul
 go_enter func42,ntmps42
 go_wp2_with (go_at_call 65;refine(HU.out _ (gqq HD0.out.gr ag)).mono ?_;rintro e' w' ⟨⟨x,rfl,hxi,hxn⟩,bs,d,rfl⟩;have HXI:=yq hxi;have HXN:=yq hxn;obtain⟨-,-,xa,xc,rfl,-⟩:=hxi;clear hxn)
 refine fF (fun W2 hW=>?_);have HD2:Hid (iU W0 W2 X N v y vs ls.length D0 st0):=yq (by rw [<-hW];exact HD0.out.grows ag)
 have HBE:Hid (W2.heap[w.heap.size]? =some (.cells #[.int .i64 E.op,.int .i64 E.num,.int .i64 E.den,.int .i64 E.dim,.string E.name,.slice ua E.args.length uc] 69 (0,0))):=yq (by
  rw [<-hW,World.heap_grow _ _ _ zg];exact bP _ _ _ zg)
 have HXI2:Hid (ax W2 (.slice xa Z.length xc) Z):=yq (by rw [<-hW];exact HXI.out);have HXN2:Hid (∀k,(Value.slice xa Z.length xc).ownBlock=some k->w.heap.size<=k):=yq (fun k hk=>by have:=HXN.out k hk;simp at this;omega);have hs2:w.heap.size<W2.heap.size:=(Array.getElem?_eq_some_iff.1 HBE.out).1;have HOT:Hid (Out U0 W2.heap.size vs):=yq (fun k hk=>.inl (hvU k hk));have HMW:Hid (Mid U0 w W2):=yq (by rw [<-hW];exact(Mid.refl U0 w).grows ag);clear hW HXI HXN HU HD0
 go_loopw [21] (fun v21 wr=>∃(k:Nat) (vb:Value) (D:List Nat) (st:List (ByteArray × Val)),k<=Z.length/\v21= .int .i64 k/\iU W0 wr X N v y vb ls.length D st/\Mid U0 W2 wr/\Out U0 W2.heap.size vb/\st.length<=st0.length+k/\Hid (dW v ls env E D0 st0 k D st)) (fun v21 _=>Z.length-(intOf v21).toNat)
 case atStart=>exact⟨0,vs,D0,st0,by omega,rfl,HD2.out,.refl _ _,HOT.out,by omega,yq (dW.zero E HST.out)⟩
 case round=>
  obtain⟨k,vb,D,st,hk,rfl,hd,hm,hout,hsl,HRA⟩:=hrel;obtain⟨W1,rfl⟩:∃W1,W1=wr:=⟨_,rfl⟩;have HD:=yq hd;have HM:=yq hm;have HOT1:=yq hout;have hs1:w.heap.size<W1.heap.size:=by have:=hm.1;omega
  have hX1:X<W1.heap.size:=by omega
  have hN1:N<W1.heap.size:=by omega
  have HBE1:=yq ((hm.2 _ hU0 hs2).trans HBE.out);have hXI1:=hm.ints HXI2.out (fun k hk=>Nat.le_trans hU0 (HXN2.out k hk));clear hm hout;by_cases hlt:k<Z.length
  ·have hu:k<(az E ls).length:=by rw [<-HZL.out];exact hlt
   have hzk:=HZK.out k hlt;have hil:=sD (sF hu);obtain⟨hfo,hty,hva⟩:=HRA.out.typed HLS.out hu;have HSK:=yq (fun hc=>HRA.out.skip hu hc);have HBAD:=yq (fun hc hv=>HRA.out.bad hu hc hv);have HNX:=yq (fun hc hv=>HRA.out.next HLS.out HOK.out hu hc hv);have HSO:=yq HRA.out.ok;generalize(az E ls).getD k 0=i at *;obtain⟨-,-,xa',xc',hv1,hx⟩:=hXI1;simp only [Value.slice.injEq,true_and]at hv1;obtain⟨rfl,rfl⟩:=hv1;rcases hx with h0|⟨bu,ou,rfl,hbu,hx⟩
   ·omega
   have q1:=hx k hlt;rw [hzk]at q1;obtain⟨M,hM,hmk⟩:=hd.mks;have q2:W1.cell? ⟨N,i,none⟩=some (.bool (D.contains i)):=by rw [cell_of_row W1 _ _ _ _ _ hM,ny M (by rw [hmk.1];exact hil),hmk.2 i hil]
   have d1:(k:Int)<(Z.length:Int):=by omega
   have d2:(i:Int)<(ls.length:Int):=by omega
   have d3:(0:Int)<=(i:Int):=by omega
   have HKL:=yq hlt;have HSL:=yq hsl;have HIL:=yq hil
   cases hc:D.contains i with
   |true=>
    rw [hc]at q2;have HN2:=yq (HSK.out hc);clear hx hM hmk hil hu hzk hd hlt hk hsl hc hfo hty hva
    go_wp2_with fail
    go_roundw
    case rel=>exact⟨k+1,vb,D,st,HKL.out,by go_num,HD.out.grows ag,HM.out.grows ag,HOT1.out,by have:=HSL.out;omega,HN2⟩
    case measure=>simp [intOf];have:=HKL.out;omega
   |false=>
    rw [hc]at q2;have HC:=yq hc;obtain⟨-,a',c',hv2,hy⟩:=HL.out.grows hd.gr;simp only [Value.slice.injEq,true_and]at hv2;obtain⟨rfl,rfl⟩:=hv2;rcases hy with h0|⟨bl,ol,rfl,hbl,hy⟩
    ·omega
    obtain⟨ub,m,m0,m1,m2,m3,m4,m5,hrb⟩:=hy i hil
    have hbl0:bl<W0.heap.size:=by
     obtain⟨-,a'',c'',hv3,h0|⟨b3,o3,hb3,hlt3,-⟩⟩:=HL.out
     ·omega
     ·simp only [Value.slice.injEq,Option.some.injEq,Addr.mk.injEq,and_true,true_and]at hv3 hb3;obtain⟨e1,-⟩:=hv3;rw [<-e1]at hb3;simp only [Option.some.injEq,Addr.mk.injEq,and_true]at hb3;omega
    have hsz:=HBL.out _ (gq hil);have hEV:=fun w' (hg:W1.Grows w') hr hr2 ra rc hrp=>rM (fun _=>True) v y vb st X HOK.out (fun p hp=>HSO.out.ok p hp) HRNG.out (ls.getD i default).2.size (ls.getD i default).2 (Nat.le_refl _) hr hr2 ra rc w' hrp ((hd.grows hg).evAt ze HY.out);generalize ls.getD i default=tt at *;obtain⟨nmi,bd⟩:=tt;dsimp only at m m0 m1 m2 m3 m4 m5 hrb hsz HBAD HNX hEV hfo hty;obtain⟨ra,rc,rfl⟩:=hrb.form0;have HRB:=yq hrb;have HEV:=yq (fun w' (hg:W1.Grows w')=>hEV w' hg hfo (by rw [hty]) ra rc (HRB.out.grows hg));have HB1:=yq (fun hv=>HBAD.out HC.out hv);have HN1:=yq (fun hv=>HNX.out HC.out hv);unfold exV at HEV;generalize aj v st bd=r at *;obtain⟨⟨rm,ry,rn,rd⟩,c⟩:=r;unfold EvR dY at HEV;dsimp only at HEV HB1 HN1;have HDM:=yq hmk;have HMB:=yq hM;clear hx hM hmk hil hu hzk hlt hk hsl hc hfo hty hva hEV hrb hy HBAD HNX HSK;by_cases hc:c=0
    ·subst hc;have HN2:=yq (HN1.out rfl)
     go_wp2_with (go_at_call 66;refine(HEV.out _ ag).mono ?_;rintro e' w' ⟨x',rfl,hx',bs5,d5,rfl⟩;have hx2:=hx' rfl;clear hx';subst hx2)
     refine fF (fun W5 hW5=>?_);have HG5:Hid (W1.Grows W5):=yq (by rw [<-hW5];exact ag);obtain⟨B,hB⟩:∃B,B=W1.heap.size+bs5.size:=⟨_,rfl⟩;have HBX:Hid (W5.heap[B]? =some (.cells #[.int .i64 rm,.bool ry,.int .i64 rn,.int .i64 rd] 51 (0,0))):=yq xE;rw [<-hB];have HD5:=yq (HD.out.grows HG5.out);have hrow:=fun k (hk:vb.ownBlock=some k)=>HD.out.row.lt k hk;have hB5:B<W5.heap.size:=(Array.getElem?_eq_some_iff.1 HBX.out).1;have hs15:W1.heap.size<=W5.heap.size:=HG5.out.below.size;have hg0:W0.heap.size<=W1.heap.size:=HD.out.gr.below.size;have x13:W5.cell? ⟨X,13,none⟩=some vb:=by rw [cell_of_row W5 _ _ _ _ _ HD5.out.ev];rfl
     have xn:W5.cell? ⟨bl,ol+i*7,none⟩=some (.string nmi):=(World.cell?_of_block (HG5.out.below.block bl hbl)).trans m;have yb:=fun(j:Nat) (z:Value) (hz:(#[Value.int .i64 rm,.bool ry,.int .i64 rn,.int .i64 rd]:Array Value)[j]? =some z)=>(cell_of_row W5 _ j _ _ _ HBX.out).trans hz
     have HSOF:Hid (∀w',Rel W5 vb.ownBlock w'->(w'.cell? ⟨X,13,none⟩=some vb/\w'.cell? ⟨bl,ol+i*7,none⟩=some (.string nmi)/\w'.cell? ⟨B,0,none⟩=some (.int .i64 rm)/\w'.cell? ⟨B,1,none⟩=some (.bool ry)/\w'.cell? ⟨B,2,none⟩=some (.int .i64 rn)/\w'.cell? ⟨B,3,none⟩=some (.int .i64 rd))):=yq (fun w' hr=>by
      have e1:=hr.cell (b:=X) (o:=13) ze (fun e=>(HD.out.no X e.symm).1 rfl);have e2:=hr.cell (b:=bl) (o:=ol+i*7) ze (fun e=>by have:=(hrow bl e.symm).1;omega);have e3:=fun o=>hr.cell (b:=B) (o:=o) hB5 (fun e=>by have:=(hrow B e.symm).2;omega)
      exact⟨e1.trans x13,e2.trans xn,(e3 0).trans (yb 0 _ rfl),(e3 1).trans (yb 1 _ rfl),(e3 2).trans (yb 2 _ rfl),(e3 3).trans (yb 3 _ rfl)⟩)
     have HM5:=yq (HM.out.grows HG5.out);clear hW5 hB HBX x13 xn yb HG5 q1 q2 m m0 m1 m2 m3 m4 m5 hrow;refine TS.begin [16] (fun w'=>w'.cell? ⟨X,13,none⟩=some vb/\w'.cell? ⟨bl,ol+i*7,none⟩=some (.string nmi)/\w'.cell? ⟨B,0,none⟩=some (.int .i64 rm)/\w'.cell? ⟨B,1,none⟩=some (.bool ry)/\w'.cell? ⟨B,2,none⟩=some (.int .i64 rn)/\w'.cell? ⟨B,3,none⟩=some (.int .i64 rd)) zf zf (HSOF.out _ ((Rel.refl _ _).grows ag)) (fun hS=>?_);refine TS.skB 0 hS ?_;refine TS.skB 1 hS ?_;refine TS.skB 2 hS ?_;refine TS.skB 3 hS ?_;refine TS.skB 4 hS ?_;refine TS.skB 5 hS ?_;refine TS.skB 6 hS ?_;refine TS.skB 7 hS ?_;refine TS.skB 8 hS ?_;refine TS.skB 9 hS ?_;refine TS.skB 10 hS ?_;refine TS.skB 11 hS ?_;refine TS.one (i:=12) zf rfl (fun K1 hK1=>?_);have HK1:=yq hK1;clear hK1 hS;dsimp only [getElem_toArray,getElem_cons_succ,getElem_cons_zero]
     go_simp
     refine TS.go HK1.out (HSOF.out _ ((Rel.refl _ _).grows ag)) (fun hS=>?_);clear HK1 K1
     (try simp only [nS])
     refine TS.one (i:=13) zf rfl (fun K1 hK1=>?_);refine step_append_lies _ rfl _ _ 44 rfl W0.heap.size 53 i0 _ 5 48 underlying44 hi hz0 hz1 hz2 rfl zo vb st.length _ rfl (bK HD5.out.row ag) ⟨_,0,none⟩ 1 1 [.string nmi,.int .i64 rm,.bool ry,.int .i64 rn,.int .i64 rd] rfl rfl (aQ _ [.string nmi,.int .i64 rm,.bool ry,.int .i64 rn,.int .i64 rd] _ _ zg) xj ze (by unfold maxLen;have:=HSL.out;omega) (by have:=HSL.out;omega) (by have:=HD5.out.gr.below.size;simp;omega) _ rfl ?_;intro g cap w2 hown2 hgrow2 hgg hgl;have hS2:=HSOF.out w2 (((Rel.refl W5 _).grows ag).grown hgrow2);have HD6:Hid (iU W0 (w2.setCell ⟨X,13,none⟩ (.slice (some ⟨g,0,none⟩) (st.length+1) cap)) X N v y (.slice (some ⟨g,0,none⟩) (st.length+1) cap) ls.length D (st++[(nmi,⟨rm,ry,rn,rd⟩)])):=yq ((HD5.out.grows ag).app hXN hXW hgrow2 (by rw [jk];exact hown2) hgg (Nat.le_refl _));have hz5:=(HD5.out.grows ag).unfr hgrow2;have HM6:Hid (Mid U0 W2 (w2.setCell ⟨X,13,none⟩ (.slice (some ⟨g,0,none⟩) (st.length+1) cap))):=yq (Mid.set (Mid.grown (HM5.out.grows ag) hgrow2 HOT1.out) hXU);have HT6:Hid (Out U0 W2.heap.size (.slice (some ⟨g,0,none⟩) (st.length+1) cap)):=yq (HOT1.out.next hgg (by have:=HM5.out.1;simp;omega));refine hK1 _ _ (fun _=>hS2) ?_;clear hK1 K1 hown2 hgrow2 hgg hS;have hS:=hS2;clear hS2
     (try simp only [nS])
     refine TS.skB 14 hS ?_;refine TS.skB 15 hS ?_;refine TS.weB 16 ?_;clear hS HD5 HSOF HM5;clear hz5;generalize w2.setCell ⟨X,13,none⟩ (.slice (some ⟨g,0,none⟩) (st.length+1) cap)=W6 at *;obtain⟨M6,hM6,hmk6⟩:=HD6.out.mks;have c0:W6.cell? ⟨N,i,none⟩=some (.bool (M6.getD i false)):=by rw [cell_of_row W6 _ _ _ _ _ hM6];exact ny M6 (by rw [hmk6.1];exact HIL.out)
     have z0:W6.frozen? ⟨N,i,none⟩=false:=Joins.unfrozen_of_block hM6 i;have hN6:=(Array.getElem?_eq_some_iff.1 hM6).1;have HD7:=yq (HD6.out.mark hXN hNW HIL.out);have HM7:=yq (Mid.set (i:=i) (u:=.bool true) HM6.out hNU);clear hM6 hmk6 HD6 HM6
     go_wp2_with fail
     go_roundw
     case rel=>exact⟨k+1,_,_,_,HKL.out,by go_num,HD7.out,HM7.out,HT6.out,by have:=HSL.out;simp;omega,HN2⟩
     case measure=>simp [intOf];have:=HKL.out;omega
    ·have hc2:(c !=0)=true:=by simpa using hc
     have HF:=yq (HB1.out hc);have HCC:=yq hc;clear hc
     go_wp2_with (go_at_call 66;refine(HEV.out _ ag).mono ?_;rintro e' w' ⟨x',rfl,hx',bs5,d5,rfl⟩;clear hx')
     go_returns
     have hF:(eZ v ls E nm D0 st0).2.2=c:=Mh (by rw [HF.out]) HCC.out;exact⟨gqq HD.out.gr ag,by rw [hF]<;>rfl,fun h0=>absurd (hF ▸ h0) HCC.out⟩
  ·obtain rfl:k=Z.length:=by omega
   have HRE:Hid (dW v ls env E D0 st0 (az E ls).length D st):=yq (by rw [<-HZL.out];exact HRA.out);have HSL:=yq hsl;have hEV:=rM (fun _=>True) v y vb st X HOK.out (fun p hp=>HRE.out.ok.ok p hp) HRNG.out E.size E (Nat.le_refl _) HTY.out.2.1 (by rw [HRE.out.last HLS.out HTY.out.2.1 HTY.out.2.2]);have HEV:=yq (fun w' (hg:W1.Grows w')=>hEV ua uc w' (HR.out.grows (gqq hd.gr hg)) ((hd.grows hg).evAt ze HY.out));have HDB:=yq (fun c h1 h2=>Mg (nm:=nm) (c:=c) HRE.out.done h1 h2);have HDC:=yq (fun x h1=>Mf (nm:=nm) (x:=x) HRE.out.done h1);have hbe:=fun(j:Nat) (z:Value) (hz:(#[Value.int .i64 E.op,.int .i64 E.num,.int .i64 E.den,.int .i64 E.dim,.string E.name,.slice ua E.args.length uc]:Array Value)[j]? =some z)=>(cell_of_row W1 _ j _ _ _ HBE1.out).trans hz;have b0:=hbe 0 _ rfl;have b1:=hbe 1 _ rfl;have b2:=hbe 2 _ rfl;have b3:=hbe 3 _ rfl;have b4:=hbe 4 _ rfl;have b5:=hbe 5 _ rfl;unfold exV at HEV;generalize aj v st E=r at *;obtain⟨⟨rm,ry,rn,rd⟩,c⟩:=r;unfold EvR dY at HEV;dsimp only at HEV HDB HDC;clear hbe hEV hXI1 hd hsl;by_cases hc:c=0
   ·subst hc;have HF:=yq (HDC.out ⟨rm,ry,rn,rd⟩ rfl)
    go_wp2_with (go_at_call 66;refine(HEV.out _ ag).mono ?_;rintro e' w' ⟨x',rfl,hx',bs5,d5,rfl⟩;have hx2:=hx' rfl;clear hx';subst hx2)
    refine fF (fun W5 hW5=>?_);have HG5:Hid (W1.Grows W5):=yq (by rw [<-hW5];exact ag);have HG5X:=HG5;obtain⟨B,hB⟩:∃B,B=W1.heap.size+bs5.size:=⟨_,rfl⟩;have HBX:Hid (W5.heap[B]? =some (.cells #[.int .i64 rm,.bool ry,.int .i64 rn,.int .i64 rd] 51 (0,0))):=yq xE;rw [<-hB];have HD5:=yq (HD.out.grows HG5.out);have hrow:=fun k (hk:vb.ownBlock=some k)=>HD.out.row.lt k hk;have hB5:B<W5.heap.size:=(Array.getElem?_eq_some_iff.1 HBX.out).1;have hs15:W1.heap.size<=W5.heap.size:=HG5.out.below.size;have x13:W5.cell? ⟨X,13,none⟩=some vb:=by rw [cell_of_row W5 _ _ _ _ _ HD5.out.ev];rfl
    have yb:=fun(j:Nat) (z:Value) (hz:(#[Value.int .i64 rm,.bool ry,.int .i64 rn,.int .i64 rd]:Array Value)[j]? =some z)=>(cell_of_row W5 _ j _ _ _ HBX.out).trans hz
    have HSOF:Hid (∀w',Rel W5 vb.ownBlock w'->(w'.cell? ⟨X,13,none⟩=some vb/\w'.cell? ⟨B,0,none⟩=some (.int .i64 rm)/\w'.cell? ⟨B,1,none⟩=some (.bool ry)/\w'.cell? ⟨B,2,none⟩=some (.int .i64 rn)/\w'.cell? ⟨B,3,none⟩=some (.int .i64 rd))):=yq (fun w' hr=>by
     have e1:=hr.cell (b:=X) (o:=13) ze (fun e=>(HD.out.no X e.symm).1 rfl);have e3:=fun o=>hr.cell (b:=B) (o:=o) hB5 (fun e=>by have:=(hrow B e.symm).2;omega)
     exact⟨e1.trans x13,(e3 0).trans (yb 0 _ rfl),(e3 1).trans (yb 1 _ rfl),(e3 2).trans (yb 2 _ rfl),(e3 3).trans (yb 3 _ rfl)⟩)
    clear hW5 hB HBX x13 yb HG5 b0 b1 b2 b3 b4 b5 hrow;refine TS.begin [12] (fun w'=>w'.cell? ⟨X,13,none⟩=some vb/\w'.cell? ⟨B,0,none⟩=some (.int .i64 rm)/\w'.cell? ⟨B,1,none⟩=some (.bool ry)/\w'.cell? ⟨B,2,none⟩=some (.int .i64 rn)/\w'.cell? ⟨B,3,none⟩=some (.int .i64 rd)) zf zf (HSOF.out _ ((Rel.refl _ _).grows ag)) (fun hS=>?_);refine TS.skB 0 hS ?_;refine TS.skB 1 hS ?_;refine TS.skB 2 hS ?_;refine TS.skB 3 hS ?_;refine TS.skB 4 hS ?_;refine TS.skB 5 hS ?_;refine TS.skB 6 hS ?_;refine TS.skB 7 hS ?_;refine TS.one (i:=8) zf rfl (fun K1 hK1=>?_);have HK1:=yq hK1;clear hK1 hS;dsimp only [getElem_toArray,getElem_cons_succ,getElem_cons_zero]
    go_simp
    refine TS.go HK1.out (HSOF.out _ ((Rel.refl _ _).grows ag)) (fun hS=>?_);clear HK1 K1
    (try simp only [nS])
    refine TS.one (i:=9) zf rfl (fun K1 hK1=>?_);refine step_append_lies _ rfl _ _ 44 rfl W0.heap.size 53 i0 _ 5 48 underlying44 hi hz0 hz1 hz2 rfl zo vb st.length _ rfl (bK HD5.out.row ag) ⟨_,0,none⟩ 1 1 [.string nm,.int .i64 rm,.bool ry,.int .i64 rn,.int .i64 rd] rfl rfl (aQ _ [.string nm,.int .i64 rm,.bool ry,.int .i64 rn,.int .i64 rd] _ _ zg) xj ze (by unfold maxLen;have:=HSL.out;omega) (by have:=HSL.out;omega) (by have:=HD5.out.gr.below.size;simp;omega) _ rfl ?_;intro g cap w2 hown2 hgrow2 hgg hgl;have hS2:=HSOF.out w2 (((Rel.refl W5 _).grows ag).grown hgrow2);have HD6:Hid (iU W0 (w2.setCell ⟨X,13,none⟩ (.slice (some ⟨g,0,none⟩) (st.length+1) cap)) X N v y (.slice (some ⟨g,0,none⟩) (st.length+1) cap) ls.length D (st++[(nm,⟨rm,ry,rn,rd⟩)])):=yq ((HD5.out.grows ag).app hXN hXW hgrow2 (by rw [jk];exact hown2) hgg (Nat.le_refl _));have hz5:=(HD5.out.grows ag).unfr hgrow2;have HM6:Hid (Mid U0 W2 (w2.setCell ⟨X,13,none⟩ (.slice (some ⟨g,0,none⟩) (st.length+1) cap))):=yq (Mid.set (Mid.grown ((HM.out.grows HG5X.out).grows ag) hgrow2 HOT1.out) hXU);refine hK1 _ _ (fun _=>hS2) ?_;clear hK1 K1 hown2 hgrow2 hgg hS;have hS:=hS2;clear hS2
    (try simp only [nS])
    refine TS.skB 10 hS ?_;refine TS.skB 11 hS ?_;refine TS.weB 12 ?_;clear hS HD5 HSOF
    go_wp2_with fail
    go_returns
    exact⟨HD6.out.gr,by rw [HF.out]<;>rfl,fun _=>⟨_,by rw [HF.out];exact HD6.out,by rw [HF.out];have:=HSL.out;simp;omega,HMW.out.trans HM6.out⟩⟩
   ·have hc2:(c !=0)=true:=by simpa using hc
    have HCC:=yq hc;have HF:=yq (HDB.out c rfl hc);clear hc
    go_wp2_with (go_at_call 66;refine(HEV.out _ ag).mono ?_;rintro e' w' ⟨x',rfl,hx',bs5,d5,rfl⟩;clear hx')
    go_returns
    exact⟨gqq HD.out.gr ag,by rw [HF.out]<;>rfl,fun h0=>absurd (HF.out ▸ h0) HCC.out⟩
theorem wB{w:World}{a:Option Addr}{n cap:Nat}{st:List (ByteArray × Val)}(h:bi w (.slice a n cap) st){j:Nat}(hj:j<st.length):∃b off,a=some ⟨b,off,none⟩/\b<w.heap.size/\w.cell? ⟨b,off+j*5,none⟩=some (.string (stN st j))/\w.cell? ⟨b,off+j*5+1,none⟩=some (.int .i64 (stV st j).dim)/\w.cell? ⟨b,off+j*5+2,none⟩=some (.bool (stV st j).yes)/\w.cell? ⟨b,off+j*5+3,none⟩=some (.int .i64 (stV st j).n)/\w.cell? ⟨b,off+j*5+4,none⟩=some (.int .i64 (stV st j).d):=by
 obtain⟨-,a',c',hv,h0|⟨b,off,ha,hb,hc⟩⟩:=h
 ·omega
 ·simp only [Value.slice.injEq]at hv;obtain⟨rfl,-,-⟩:=hv;obtain⟨s0,s1,s2,s3,s4⟩:=hc j hj;exact⟨b,off,ha,hb,s0,s1,s2,s3,s4⟩
def Fw(p q:ByteArray × Val):Prop:=p.1=q.1/\p.2.dim=q.2.dim/\p.2.yes=q.2.yes/\p.2.n=q.2.n/\p.2.d=q.2.d
theorem Fw.eq{p q:ByteArray × Val}(h:Fw p q):p=q:=by
 obtain⟨a,⟨b1,b2,b3,b4⟩⟩:=p;obtain⟨c,⟨d1,d2,d3,d4⟩⟩:=q;obtain⟨h1,h2,h3,h4,h5⟩:=h;simp only at h1 h2 h3 h4 h5;subst h1 h2 h3 h4 h5;rfl
theorem Bn(st:List (ByteArray × Val))(k:Nat):(stN st k,stV st k)=st.getD k (ByteArray.empty,.zero):=by
 rfl
theorem D6(sa sb:List (ByteArray × Val))(va vb:Value)(w:World)(ha:bi w va sa)(hb:bi w vb sb):Calls prog 11 #[va,vb] w fun e w'=>∃q,e= .returned (.bool q)/\(q=true↔sa=sb)/\w.Grows w':=by
 have HA:=yq ha;have HB:=yq hb;obtain⟨h1000,a,c,rfl,-⟩:=ha;obtain⟨-,b,d,rfl,-⟩:=hb;by_cases hl:sa.length=sb.length
 case neg=>
  have hl2:¬(sa.length:Int)=(sb.length:Int):=by omega
  go_enter func11,ntmps11
  exact Ry
 rw [<-hl]
 go_enter func11,ntmps11
 go_wp2_with fail
 go_loopw [5] (fun v3 wr=>∃k:Nat,k<=sa.length/\v3= .int .i64 k/\w.Grows wr/\Hid (∀j,j<k->Fw (stN sa j,stV sa j) (stN sb j,stV sb j))) (fun v3 _=>sa.length-(intOf v3).toNat)
 case atStart=>exact⟨0,by omega,rfl,.refl _,yq (fun j hj=>by omega)⟩
 case round=>
  exact vz2
theorem Q9(sa sb:List (ByteArray × Val))(va vb:Value)(w:World)(ha:bi w va sa)(hb:bi w vb sb):Calls prog 21 #[va,vb] w fun e w'=>∃q,e= .returned (.bool q)/\(q=true↔sa=sb)/\w.Grows w':=by
 have HA:=yq ha;have HB:=yq hb;obtain⟨h1000,a,c,rfl,-⟩:=ha;obtain⟨-,b,d,rfl,-⟩:=hb;by_cases hl:sa.length=sb.length
 case neg=>
  have hl2:¬(sa.length:Int)=(sb.length:Int):=by omega
  go_enter func21,ntmps21
  exact Ry
 rw [<-hl]
 go_enter func21,ntmps21
 go_wp2_with fail
 go_loopw [5,13] (fun v5 v3 wr=>∃k:Nat,k<=sa.length/\v3= .int .i64 k/\w.Grows wr/\Hid (∀j,j<k->Fw (stN sa j,stV sa j) (stN sb j,stV sb j))) (fun v5 v3 _=>sa.length-(intOf v3).toNat)
 case atStart=>exact⟨0,by omega,rfl,.refl _,yq (fun j hj=>by omega)⟩
 case round=>
  exact vz2
theorem QD(b off i:Nat):(⟨b,off,none⟩:Addr).add i=⟨b,off+i,none⟩:=by unfold Addr.add;split<;>simp_all
theorem tL(a b:List (ByteArray × Val)):dL (a++b)=dL a++dL b:=by unfold dL;rw [flatMap_append]
theorem mU(p:ByteArray × Val)(r:List (ByteArray × Val)):dL (p::r)= .string p.1:: .int .i64 p.2.dim:: .bool p.2.yes:: .int .i64 p.2.n:: .int .i64 p.2.d::dL r:=rfl
theorem Ac:∀(st:List (ByteArray × Val)) (k:Nat) (s:ByteArray),k<st.length->(dL st).set (k*5) (.string s)=dL (st.set k (s,stV st k))
 | [],_,_,h=>by simp at h
 |q::r,0,s,_=>rfl
 |q::r,k+1,s,h=>by
  rw [mU,show(k+1)*5=k*5+1+1+1+1+1 by omega];simp only [set_cons_succ,getD_cons_succ];rw [Ac r k s zF,mU];rfl
theorem Ab:∀(st:List (ByteArray × Val)) (k:Nat) (x:Val),k<st.length->((((dL st).set (k*5+1) (.int .i64 x.dim)).set (k*5+2) (.bool x.yes)).set (k*5+3) (.int .i64 x.n)).set (k*5+4) (.int .i64 x.d)=dL (st.set k (stN st k,x))
 | [],_,_,h=>by simp at h
 |q::r,0,x,_=>rfl
 |q::r,k+1,x,h=>by
  rw [mU,show(k+1)*5=k*5+1+1+1+1+1 by omega];have:=Ab r k x zF;simp only [show ∀a b:Nat,a+1+1+1+1+1+b=a+b+1+1+1+1+1 from fun a b=>by omega,set_cons_succ];rw [this,mU];rfl
theorem KJ(st:List (ByteArray × Val))(k:Nat)(p:ByteArray × Val)(h:k<st.length):(((((dL st).set (k*5) (.string p.1)).set (k*5+1) (.int .i64 p.2.dim)).set (k*5+2) (.bool p.2.yes)).set (k*5+3) (.int .i64 p.2.n)).set (k*5+4) (.int .i64 p.2.d)=dL (st.set k p):=by
 rw [Ac st k p.1 h,Ab _ k p.2 (by rw [length_set];exact h)]
 congr 1
 rw [set_set]
 have:stN (st.set k (p.1,stV st k)) k=p.1:=by
  show((st.set k (p.1,stV st k)).getD k (ByteArray.empty,Val.zero)).1=p.1;rw [getD_eq_getElem?_getD,getElem?_set_self h];rfl
 rw [this]
section
variable {w : World} {base g n c : Nat} {st : List (ByteArray × Val)}
def fE(base:Nat)(w:World)(v:Value)(st:List (ByteArray × Val)):Prop:=w.ownsRow base 53 5 v st.length (dL st)
theorem fE.nm{k:Nat}(s:ByteArray)(h:fE base w (.slice (some ⟨g,0,none⟩) st.length c) st)(hk:k<st.length):fE base (w.setCell ⟨g,k*5,none⟩ (.string s)) (.slice (some ⟨g,0,none⟩) st.length c) (st.set k (s,stV st k)):=by
 have h1:=(World.ownsRow.stored h (k*5) (.string s)).1;rw [Ac st k s hk]at h1;unfold fE;rw [length_set];exact h1
theorem fE.vl{k:Nat}(x:Val)(h:fE base w (.slice (some ⟨g,0,none⟩) st.length c) st)(hk:k<st.length):fE base ((((w.setCell ⟨g,k*5+1,none⟩ (.int .i64 x.dim)).setCell ⟨g,k*5+2,none⟩ (.bool x.yes)).setCell ⟨g,k*5+3,none⟩ (.int .i64 x.n)).setCell ⟨g,k*5+4,none⟩ (.int .i64 x.d)) (.slice (some ⟨g,0,none⟩) st.length c) (st.set k (stN st k,x)):=by
 have h1:=(World.ownsRow.stored h (k*5+1) (.int .i64 x.dim)).1;have h2:=(World.ownsRow.stored h1 (k*5+2) (.bool x.yes)).1;have h3:=(World.ownsRow.stored h2 (k*5+3) (.int .i64 x.n)).1;have h4:=(World.ownsRow.stored h3 (k*5+4) (.int .i64 x.d)).1;rw [Ab st k x hk]at h4;unfold fE;rw [length_set];exact h4
theorem fE.all{k:Nat}(p:ByteArray × Val)(h:fE base w (.slice (some ⟨g,0,none⟩) st.length c) st)(hk:k<st.length):fE base (((((w.setCell ⟨g,k*5,none⟩ (.string p.1)).setCell ⟨g,k*5+1,none⟩ (.int .i64 p.2.dim)).setCell ⟨g,k*5+2,none⟩ (.bool p.2.yes)).setCell ⟨g,k*5+3,none⟩ (.int .i64 p.2.n)).setCell ⟨g,k*5+4,none⟩ (.int .i64 p.2.d)) (.slice (some ⟨g,0,none⟩) st.length c) (st.set k p):=by
 have h0:=(World.ownsRow.stored h (k*5) (.string p.1)).1;have h1:=(World.ownsRow.stored h0 (k*5+1) (.int .i64 p.2.dim)).1;have h2:=(World.ownsRow.stored h1 (k*5+2) (.bool p.2.yes)).1;have h3:=(World.ownsRow.stored h2 (k*5+3) (.int .i64 p.2.n)).1;have h4:=(World.ownsRow.stored h3 (k*5+4) (.int .i64 p.2.d)).1;rw [KJ st k p hk]at h4;unfold fE;rw [length_set];exact h4
theorem fE.news{i m:Nat}(h:fE base w (.slice (some ⟨g,0,none⟩) st.length c) st)(hm:i+m<=st.length):∀j u,(dL ((st.drop i).take m))[j]? =some u->w.cell? ((⟨g,i*5,none⟩:Addr).add j)=some u:=by
 intro j u hu;have hj:=(List.getElem?_eq_some_iff.1 hu).1;have hl:((st.drop i).take m).length=m:=by rw [length_take,length_drop];omega
 rw [iN,hl]at hj;have e:st=st.take i++((st.drop i).take m++(st.drop i).drop m):=by rw [take_append_drop,take_append_drop]
 have e2:(dL st)[i*5+j]? =some u:=by
  rw [e,tL,tL,getElem?_append_right (by rw [iN,length_take];exact Nat.le_trans (Nat.mul_le_mul_right 5 (Nat.min_le_left _ _)) (Nat.le_add_right _ _))];rw [iN,length_take,show min i st.length=i by omega,Nat.add_sub_cancel_left,getElem?_append_left (by rw [iN,hl];exact hj)];exact hu
 have h5:w.ownsRow base 53 5 (.slice (some ⟨g,0,none⟩) st.length c) st.length (dL st):=h;rw [QD];exact(h5.cellAt (i*5+j) ze).trans e2
end
theorem Bo(l:List (ByteArray × Val)):∀u∈dL l,u.oneCell'=true:=by
 intro u hu;obtain⟨x,-,hx⟩:=mem_flatMap.1 hu;simp at hx;rcases hx with rfl|rfl|rfl|rfl|rfl<;>rfl
theorem xY{B size n:Nat}{T:TypeId}{v:Value}{xs:List Value}{w:World}(h:w.ownsRow B T size v n xs):∃a c,v= .slice a n c/\n<=c/\c<=maxLen/\((a=none/\c=0/\n=0)\/∃b,a=some ⟨b,0,none⟩/\B<=b/\b<w.heap.size):=by
 obtain⟨-,⟨rfl,h0⟩|⟨g,cap,cur,rfl,hb,hg,hnc,hm,-⟩⟩:=h
 ·exact⟨none,0,by rw [h0],by omega,by decide,.inl ⟨rfl,rfl,h0⟩⟩
 ·exact⟨_,_,rfl,hnc,hm,.inr ⟨g,rfl,hb,(Array.getElem?_eq_some_iff.1 hg).1⟩⟩
theorem fE.cut{w:World}{base g c i j:Nat}{st:List (ByteArray × Val)}(h:fE base w (.slice (some ⟨g,0,none⟩) st.length c) st)(hj:i<=st.length):∃AD,(if c=i then some (⟨g,0,none⟩:Addr)else some ⟨g,i*5,none⟩)=some ⟨g,AD,none⟩/\∀k u,(dL ((st.drop i).take (st.length-i)))[k]? =some u->w.cell? ((⟨g,AD,none⟩:Addr).add k)=some u:=by
 by_cases hc:c=i
 ·have h5:w.ownsRow base 53 5 (.slice (some ⟨g,0,none⟩) st.length c) st.length (dL st):=h;obtain⟨a,c',hv,hle,-⟩:=xY h5;simp only [Value.slice.injEq]at hv;refine⟨0,by rw [if_pos hc],fun k u hk=>?_⟩
  have e:(st.drop i).take (st.length-i)= []:=by
   apply eq_nil_of_length_eq_zero;rw [length_take,length_drop];omega
  rw [e]at hk;simp [dL]at hk
 ·exact⟨_,by rw [if_neg hc],fE.news h ze⟩
theorem GZ(st:List (ByteArray × Val))(i m:Nat)(h:i+m<=st.length):(dL ((st.drop i).take m)).length=m*5:=by rw [iN,length_take,length_drop];congr 1;omega
theorem Sj(p:ByteArray × Val):[Value.string p.1,.int .i64 p.2.dim,.bool p.2.yes,.int .i64 p.2.n,.int .i64 p.2.d]=dL [p]:=by simp [dL]
end Go.Proofs.YtcfpoofhokbhlaaGreatDoor
