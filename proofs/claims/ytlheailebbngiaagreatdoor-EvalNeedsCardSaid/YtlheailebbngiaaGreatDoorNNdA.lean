import Derived.Test.YtlheailebbngiaaGreatDoorNLtQ
import Derived.Test.YtlheailebbngiaaGreatDoorNUsR
import Derived.Test.YtlheailebbngiaaGreatDoorNStpP
import Derived.Test.YtlheailebbngiaaGreatDoorLLawBo
set_option linter.all false
set_option maxHeartbeats 16000000
set_option maxRecDepth 1000000
namespace Go.Proofs.YtlheailebbngiaaGreatDoor
open Go.RowKit
theorem setAll_out{j:Nat}:∀(vs:List Value) (o:Nat) (cs:Array Value),(j<o∨o+vs.length≤j)→(setAll cs o vs)[j]? =cs[j]?
 | [],_,_,_=>rfl
 |v::vs,o,cs,h=>by
  simp only [List.length_cons]at h;rw [setAll,setAll_out vs (o+1) _ (by omega),Array.getElem?_setIfInBounds_ne (by omega)]
theorem setAll_in:∀(vs:List Value) (o i:Nat) (cs:Array Value),i<vs.length→o+vs.length≤cs.size→(setAll cs o vs)[o+i]? =vs[i]?
 |v::vs,o,0,cs,_,hs=>by
  simp only [List.length_cons]at hs;rw [setAll,setAll_out vs (o+1) _ (by omega),Nat.add_zero,Array.getElem?_setIfInBounds_self_of_lt (by omega)];rfl
 |v::vs,o,i+1,cs,h,hs=>by
  simp only [List.length_cons]at h hs;rw [setAll,show o+(i+1)=o+1+i by omega,setAll_in vs (o+1) i _ (by omega) (by simp;omega)];rfl
theorem VerAt.leCells{B:Nat}{W:World}{V:VerP}{v3 v4 v6 v7:Value}{gg cap:Nat}(h:VerAt B W V v3 v4 (.slice (some ⟨gg,0,none⟩) V.le.length cap) v6 v7){k:Nat}(hk:k<V.le.length) :
 (∀i,W.frozen? ⟨gg,i,none⟩=false)∧∀j,j<6→∃z,W.cell? ⟨gg,k*7+1+j,none⟩=some z:=by
 obtain⟨ql,qg,qr,H1,H2,H3,H4,H5,e1,e2,e3,hQ⟩:=h;have hlen:(letL ql).length=V.le.length:=by rw [←e1];simp [letL]
 rcases hQ.r3.own.2 with ⟨h',_⟩|⟨g',cap',cur,h',hbg,hg,hle,hmx,hsz,htk⟩
 ·simp at h'
 ·simp only [Value.slice.injEq,Option.some.injEq,Addr.mk.injEq,and_true,true_and]at h';obtain⟨rfl,-⟩:=h';have hs2:V.le.length*7≤cur.size:=by rw [hsz,←hlen];exact Nat.mul_le_mul_right _ hle
  exact⟨fun i=>Joins.unfrozen_of_block hg i,fun j hj=>⟨cur[k*7+1+j]'(by omega),by rw [cell_of_row _ _ _ _ _ _ hg,Array.getElem?_eq_getElem (by omega)]⟩⟩
theorem VerAt.setBody{B:Nat}{W:World}{V:VerP}{v3 v4 v6 v7:Value}{gg cap:Nat}(h:VerAt B W V v3 v4 (.slice (some ⟨gg,0,none⟩) V.le.length cap) v6 v7)(hln:V.cr.length≤1000∧V.se.length≤1000∧V.le.length≤10∧V.gr.length≤1000∧V.re.length≤1000){k:Nat}(hk:k<V.le.length){E:Ex}{u:Value}(hE:RepE (fun b=>b≠gg) W E u) :
 VerC (W.setCells gg (k*7+1) (cells1 E u)) {V with le:=chL V.le k E} v3 v4 (.slice (some ⟨gg,0,none⟩) V.le.length cap) v6 v7∧
 NumsX 2 (W.setCells gg (k*7+1) (cells1 E u)) v3 V.cr.length∧NumsX 3 (W.setCells gg (k*7+1) (cells1 E u)) v4 V.se.length:=by
 obtain⟨ql,qg,qr,H1,H2,H3,H4,H5,e1,e2,e3,hQ⟩:=h;obtain⟨b1,b2,b3⟩:=hQ.r3.apart;have ho:=hQ.ord;have hlen:(letL ql).length=V.le.length:=by rw [←e1];simp [letL]
 obtain⟨cur,hg,hsz⟩:∃cur,W.heap[gg]? =some (.cells cur 84 (0,0))∧V.le.length*7≤cur.size:=by
  rcases hQ.r3.own.2 with ⟨h',_⟩|⟨g',cap',cur,h',hbg,hg,hle,hmx,hsz,htk⟩
  ·simp at h'
  ·simp only [Value.slice.injEq,Option.some.injEq,Addr.mk.injEq,and_true,true_and]at h';obtain⟨rfl,-⟩:=h';exact⟨cur,hg,by rw [hsz,←hlen];exact Nat.mul_le_mul_right _ hle⟩
 have hin:k*7+7≤cur.size:=by omega
 have hn:Next gg W (W.setCells gg (k*7+1) (cells1 E u)):=next_setCells _ _ _ (Next.refl _ _);have hblk:=block_setCells (cells1 E u) (k*7+1) W cur hg
 have hnew:∀i z,(cells1 E u)[i]? =some z→(W.setCells gg (k*7+1) (cells1 E u)).cell? ⟨gg,k*7+1+i,none⟩=some z:=fun i z hz=>by
  have hi:=(List.getElem?_eq_some_iff.1 hz).1;rw [cell_of_row _ _ _ _ _ _ hblk,setAll_in _ _ _ _ hi (by simp only [cells1,List.length_cons,List.length_nil];omega)];exact hz
 have hold:∀o,(o<k*7+1∨k*7+7≤o)→(W.setCells gg (k*7+1) (cells1 E u)).cell? ⟨gg,o,none⟩=W.cell? ⟨gg,o,none⟩:=fun o hoo=>by
  rw [cell_of_row _ _ _ _ _ _ hblk,cell_of_row _ _ _ _ _ _ hg,setAll_out _ _ _ (by simp only [cells1,List.length_cons,List.length_nil];omega)]
 generalize W.setCells gg (k*7+1) (cells1 E u)=w' at *
 have hd:VerAt B w' {V with le:=[]} v3 v4 (.slice none 0 0) v6 v7:=by
  have hQ0:VerQ B W V.cr V.se [] qg qr v3 v4 (.slice none 0 0) v6 v7 H1 H2 H3 H4 H5:=⟨hQ.ord,hQ.r1,hQ.r2,RowX.nil _ _ _ _ _,hQ.r4,hQ.r5⟩;exact⟨[],qg,qr,H1,H2,H3,H4,H5,rfl,e2,e3,hQ0.put3 ⟨b1,b2⟩ hn (RowX.nil _ _ _ _ _)⟩
 have hc:=hd.verC ⟨hln.1,hln.2.1,by simp,hln.2.2.2.1,hln.2.2.2.2⟩;have hnx:=hd.numsX;refine⟨⟨hc.cr,hc.se, ?_,hc.gr,hc.re⟩,hnx⟩;obtain⟨a,cap',hv,hx⟩:=hQ.r3.toG.cells;rw [hlen]at hv hx;simp only [Value.slice.injEq,true_and]at hv;obtain⟨rfl,rfl⟩:=hv;rcases hx with h0|⟨g',ha,-,-,hx⟩
 ·omega
 simp only [Option.some.injEq,Addr.mk.injEq,and_true]at ha;subst ha;refine⟨by rw [chL_len];omega,_,cap,by rw [chL_len],.inr ⟨gg,0,rfl,Nat.lt_of_lt_of_le b3 hn.size,fun i hi=>?_⟩⟩;rw [chL_len]at hi;obtain⟨⟨s,e,v⟩,hta,htl⟩:=map_at' e1 hi;have hget:(letL ql).getD i []= .string s::cells1 e v:=by simp [letL,List.getD_eq_getElem?_getD,List.getElem?_map,hta]
 have hle:V.le.getD i default=(s,e):=by rw [List.getD_eq_getElem?_getD,htl];rfl
 have h7:=fun j u hj hu=>hx i j u hi hj (by rw [hget];exact hu);rw [show 0+i*7=i*7 by omega];by_cases hik:i=k
 ·subst hik;rw [chL_at hk,hle];refine⟨u,(hold _ (by omega)).trans (h7 0 _ (by omega) rfl),hnew 0 _ rfl,hnew 1 _ rfl,hnew 2 _ rfl,hnew 3 _ rfl,hnew 4 _ rfl,hnew 5 _ rfl, ?_⟩;exact(hE.keep hn.size fun b o hb hlt=>World.cell?_of_block (hn.blk b hlt hb)).mono fun _ _=>trivial
 ·rw [chL_other hik,hle];have ho':=fun j (hj:j<7)=>hold (i*7+j) (by omega);refine⟨v,(ho' 0 (by omega)).trans (h7 0 _ (by omega) rfl),(ho' 1 (by omega)).trans (h7 1 _ (by omega) rfl),(ho' 2 (by omega)).trans (h7 2 _ (by omega) rfl),(ho' 3 (by omega)).trans (h7 3 _ (by omega) rfl),(ho' 4 (by omega)).trans (h7 4 _ (by omega) rfl),(ho' 5 (by omega)).trans (h7 5 _ (by omega) rfl),(ho' 6 (by omega)).trans (h7 6 _ (by omega) rfl), ?_⟩;have hr:=hQ.r3.rep (e,v) (List.mem_map.2 ⟨_,List.mem_of_getElem? hta,rfl⟩);exact(hr.keep hn.size fun b o hb hlt=>World.cell?_of_block (hn.blk b hlt fun c=>hb.2 (by rw [c];rfl))).mono fun _ _=>trivial
theorem letN_word:∀i,i<5→inpD (letN i).toList=0∧nameB (letN i)=true:=by decide+kernel
theorem letN_inj:∀i,i<5→∀j,j<5→letN i=letN j→i=j:=by decide+kernel
theorem letD_bd(R:RawV)(i:Nat):1≤letD R i∧letD R i≤4:=by unfold letD;omega
theorem lastN_envF(R:RawV):∀k,k≤5→∀i,i<k→lastN (envF R k) (letN i)=some (letD R i)
 |0,_,i,hi=>by omega
 |k+1,hk,i,hi=>by
  rw [envF_succ,lastN_snoc];by_cases h:i=k
  ·subst h;rw [if_pos rfl]
  ·rw [if_neg (fun e=>h (letN_inj i (by omega) k (by omega) e.symm)),lastN_envF R k (by omega) i (by omega)]
theorem envF_good(R:RawV){k:Nat}(hk:k≤5):EnvG (envF R k):=by
 intro p hp;obtain⟨i,hi,rfl⟩:=List.mem_map.1 hp;have hi:=List.mem_range.1 hi;obtain⟨a,b⟩:=letN_word i (by omega);exact⟨a,b,(letD_bd R i).1,(letD_bd R i).2,lastN_envF R k hk i hi⟩
theorem infer_made{env:List (ByteArray × Int)}(hE:EnvG env){e:Ex}{d:Int}(h:TypedE env d e∧validB e=true):inferE env e=(d,0):=by
 unfold inferE;rw [if_pos ⟨h.2,by unfold dimsOk;rw [List.all_eq_true];intro p hp;obtain⟨-,-,a,b,-⟩:=hE p hp;exact decide_eq_true ⟨a,b⟩⟩];exact h.1.2
theorem made_ok(R:RawV):LsOk (madeP R).le (madeP R).le.length (envF R (nLet R)):=by
 have hl:(madeP R).le.length=nLet R:=by simp [madeP]
 have h5:nLet R≤5:=by unfold nLet;omega
 have g:∀i,i<nLet R→(madeP R).le.getD i default=(letN i,letE R i):=fun i hi=>by
  simp [madeP,List.getD_eq_getElem?_getD,List.getElem?_map,List.getElem?_range hi]
 have g':∀i,i<nLet R→(envF R (nLet R)).getD i default=(letN i,letD R i):=fun i hi=>by
  simp [envF,List.getD_eq_getElem?_getD,List.getElem?_map,List.getElem?_range hi]
 have t:∀i,i<nLet R→(envF R (nLet R)).take i=envF R i:=fun i hi=>by
  unfold envF;rw [←List.map_take,List.take_range,Nat.min_eq_left (by omega)]
 rw [hl];refine⟨envF_length _ _,fun i hi=>?_,fun i hi=>?_,fun i hi=>?_,fun i j hij hj=>?_⟩
 ·rw [g i hi,g' i hi]
 ·rw [g i hi,g' i hi,t i hi];exact infer_made (envF_good R (by omega)) (topF_typed _ (envF_good R (by omega)) (letD_bd R i).1 (letD_bd R i).2)
 ·rw [g i hi];exact letN_word i (by omega)
 ·rw [g i (by omega),g j hj];exact fun e=>by have:=letN_inj i (by omega) j (by omega) e;omega
def stpL(l:List (ByteArray × Val)):List Value:=l.flatMap fun p=>[.string p.1,.int .i64 p.2.dim,.bool p.2.yes,.int .i64 p.2.n,.int .i64 p.2.d]
theorem stpL_len(l:List (ByteArray × Val)):(stpL l).length=l.length*5:=by
 induction l with
 |nil=>rfl
 |cons p r ih=>unfold stpL at *;rw [List.flatMap_cons,List.length_append,ih];simp;omega
theorem stpL_get(l:List (ByteArray × Val)):∀i,i<l.length→(stpL l)[i*5]? =some (.string (stN l i))∧(stpL l)[i*5+1]? =some (.int .i64 (stV l i).dim)∧(stpL l)[i*5+2]? =some (.bool (stV l i).yes)∧(stpL l)[i*5+3]? =some (.int .i64 (stV l i).n)∧(stpL l)[i*5+4]? =some (.int .i64 (stV l i).d):=by
 induction l with
 |nil=>intro i hi;simp at hi
 |cons p r ih=>
  intro i hi
  cases i with
  |zero=>exact⟨rfl,rfl,rfl,rfl,rfl⟩
  |succ i=>
   have h:=ih i (by simpa using hi)
   have e:∀j,(stpL (p::r))[(i+1)*5+j]? =(stpL r)[i*5+j]?:=fun j=>by
    rw [show(i+1)*5+j=i*5+j+5 by omega];rfl
   have e0:=e 0;rw [Nat.add_zero,Nat.add_zero]at e0;rw [e0,e 1,e 2,e 3,e 4];exact h
theorem stpL_snoc(l:List (ByteArray × Val))(p:ByteArray × Val):stpL (l++[p])=stpL l++[.string p.1,.int .i64 p.2.dim,.bool p.2.yes,.int .i64 p.2.n,.int .i64 p.2.d]:=by
 unfold stpL;simp
theorem StpAt.of_own{w:World}{base:Nat}{v:Value}{l:List (ByteArray × Val)}(h:w.ownsRow base 68 5 v l.length (stpL l))(hl:l.length≤1000):StpAt w v l:=by
 obtain⟨-,⟨rfl,h0⟩|⟨g,cap,cur,rfl,hb,hg,h2,h3,h4,h5⟩⟩:=id h
 ·exact⟨by omega,none,0,by rw [h0],.inl h0⟩
 ·refine⟨by omega,_,cap,rfl,.inr ⟨g,0,rfl,(Array.getElem?_eq_some_iff.1 hg).1,fun i hi=>?_⟩⟩;obtain⟨g0,g1,g2,g3,g4⟩:=stpL_get l i hi;have hL:=stpL_len l;rw [Nat.zero_add];exact⟨(h.cellAt (i*5) (by omega)).trans g0,(h.cellAt (i*5+1) (by omega)).trans g1,(h.cellAt (i*5+2) (by omega)).trans g2,(h.cellAt (i*5+3) (by omega)).trans g3,(h.cellAt (i*5+4) (by omega)).trans g4⟩
theorem infoS:(Tryz.prog.info? 68).map (fun i=>(i.zero,i.size,i.bytes))=some (some (.agg #[.string ⟨#[]⟩,.int .i64 0,.bool false,.int .i64 0,.int .i64 0]),5,48):=by kernel_rfl
end Go.Proofs.YtlheailebbngiaaGreatDoor
namespace Go
theorem growsR{w w':World}(h:RowKit.Below w.heap.size w w':=by(try simp only [World.grow_grow,World.grow_drew,World.drew_grow,←Array.append_assoc]);repeat' (first|(with_reducible exact Go.RowKit.Below.fin)|(with_reducible exact Go.RowKit.Below.refl _ _)|(with_reducible assumption)|(with_reducible refine Go.RowKit.Below.peel ?_ ?_)|(with_reducible refine Go.RowKit.Below.grow ?_ ?_ _ _)|(with_reducible refine Go.RowKit.Below.alloc ?_ ?_ _)|(with_reducible refine Go.RowKit.Below.drewN ?_ _)|(with_reducible refine Go.RowKit.Below.drew ?_)|(with_reducible refine Go.RowKit.Below.setCell ?_ ?_ _)|go_size)):w.Grows w':=.of_below h
end Go
namespace Go.Proofs.YtlheailebbngiaaGreatDoor
open Go.RowKit
def Mid(B:Nat)(W w:World):Prop:=W.heap.size≤w.heap.size∧∀k,B≤k→k<W.heap.size→w.heap[k]? =W.heap[k]?
def Out(B H:Nat)(v:Value):Prop:=∀k,v.ownBlock=some k→k<B∨H≤k
section
variable {B H : Nat} {W w w' : World} {v : Value}
theorem Mid.refl(B:Nat)(W:World):Mid B W W:=⟨Nat.le_refl _,fun _ _ _=>rfl⟩
theorem Mid.grows(h:Mid B W w)(hg:w.Grows w'):Mid B W w':=⟨Nat.le_trans h.1 hg.below.size,fun k h1 h2=>(hg.below.block k (Nat.lt_of_lt_of_le h2 h.1)).trans (h.2 k h1 h2)⟩
theorem Mid.grown(h:Mid B W w)(hg:w.grownBy w' v.ownBlock)(ho:Out B W.heap.size v):Mid B W w':=
 ⟨Nat.le_trans h.1 hg.size,fun k h1 h2=>(hg.block k (Nat.lt_of_lt_of_le h2 h.1) (fun e=>by have:=ho k e.symm;omega)).trans (h.2 k h1 h2)⟩
theorem Out.next{g H' n cap:Nat}(h:Out B H v)(hg:v.ownBlock=some g∨g=H')(hH:H≤H'):Out B H (.slice (some ⟨g,0,none⟩) n cap):=by
 intro k hk;obtain rfl:g=k:=by simpa [Value.ownBlock]using hk
 rcases hg with hg|rfl
 ·exact h _ hg
 ·exact .inr hH
theorem Mid.ints{zs:List Int}(hm:Mid B W w)(h:IntsAt W v zs)(hn:∀k,v.ownBlock=some k→B≤k):IntsAt w v zs:=by
 obtain⟨h0,hr,a,cap,rfl,h1⟩:=h;refine⟨h0,hr,a,cap,rfl,h1.imp id ?_⟩;rintro⟨b,off,rfl,hb,hc⟩;exact⟨b,off,rfl,Nat.lt_of_lt_of_le hb hm.1,fun i hi=>(World.cell?_of_block (hm.2 b (hn b rfl) hb)).trans (hc i hi)⟩
theorem World.Grows.grown{row:Option Nat}(h:W.Grows w)(hg:w.grownBy w' row)(hr:∀k,row=some k→W.heap.size≤k):W.Grows w':=.of_below (Below.grown h.below hg h.below.size hr)
end
theorem uses_z{E:Ex}{ls:List (ByteArray × Ex)}{k:Nat}(hk:k<((usesL E ls).map Int.ofNat).length):((usesL E ls).map Int.ofNat).getD k 0=((usesL E ls).getD k 0:Nat):=by
 rw [List.length_map]at hk;rw [List.getD_eq_getElem?_getD,List.getD_eq_getElem?_getD,List.getElem?_map,List.getElem?_eq_getElem hk];rfl
theorem uses_len(E:Ex)(ls:List (ByteArray × Ex)):(usesL E ls).length≤ls.length:=usesG_length ls.length
def GrP(r:(Bool × Int × Int) × List (ByteArray × Val) × Int)(w:World)(e:Ending)(w':World):Prop:=∃sv,e= .returned (.tuple #[.agg #[.bool r.1.1,.int .i64 r.1.2.1,.int .i64 r.1.2.2,sv],.int .i64 r.2.2])∧w.Grows w'∧StpAt w' sv r.2.1∧∀k,sv.ownBlock=some k→w.heap.size≤k
theorem GrP.bad{r:(Bool × Int × Int) × List (ByteArray × Val) × Int}{w w':World}{c:Int}(hr:r=((false,0,0),[],c))(hg:w.Grows w'):GrP r w (.returned (.tuple #[.agg #[.bool false,.int .i64 0,.int .i64 0,.slice none 0 0],.int .i64 c])) w':=by
 subst hr;exact⟨_,rfl,hg,⟨by simp,none,0,rfl,.inl rfl⟩,fun k hk=>by cases hk⟩
theorem GrP.ok{r:(Bool × Int × Int) × List (ByteArray × Val) × Int}{w w':World}{b:Bool}{n d:Int}{sv:Value}{st:List (ByteArray × Val)}(hr:r=((b,n,d),st,0))(hg:w.Grows w')(hs:StpAt w' sv st)(hn:∀k,sv.ownBlock=some k→w.heap.size≤k):GrP r w (.returned (.tuple #[.agg #[.bool b,.int .i64 n,.int .i64 d,sv],.int .i64 0])) w':=by
 subst hr;exact⟨sv,rfl,hg,hs,hn⟩
theorem StpAt.same{w w':World}{v:Value}{st:List (ByteArray × Val)}(h:StpAt w v st)(hs:w.heap.size≤w'.heap.size)(hk:∀k,v.ownBlock=some k→w'.heap[k]? =w.heap[k]?):StpAt w' v st:=by
 obtain⟨h0,a,cap,rfl,h1⟩:=h;refine⟨h0,a,cap,rfl,h1.imp id ?_⟩;rintro⟨b,off,rfl,hb,hc⟩;refine⟨b,off,rfl,Nat.lt_of_lt_of_le hb hs,fun j hj=>?_⟩;have e:∀o,w'.cell? ⟨b,o,none⟩=w.cell? ⟨b,o,none⟩:=fun o=>World.cell?_of_block (hk b rfl);obtain⟨c0,c1,c2,c3,c4⟩:=hc j hj;exact⟨(e _).trans c0,(e _).trans c1,(e _).trans c2,(e _).trans c3,(e _).trans c4⟩
theorem StpAt.moved{X Y:World}(hs:X.heap.size=Y.heap.size){bs:Array Obj}{d d':Nat}{v:Value}{st:List (ByteArray × Val)}(h:StpAt (X.grow bs d) v st)(hk:∀k,v.ownBlock=some k→X.heap.size≤k):StpAt (Y.grow bs d') v st:=
 h.same (by simp [hs]) fun k hv=>World.heap_grow_same hs bs d d' (hk k hv)
theorem used_val{ls:List (ByteArray × Ex)}{env:List (ByteArray × Int)}{v:Vw}{E:Ex}{D0 D:List Nat}{st0 st:List (ByteArray × Val)}{m:Int}(hra:RunAt v ls env E D0 st0 (usesL E ls).length D st)(hl:LsOk ls ls.length env)(hok:v.ok=true)(ht:inferE env E=(m,0)) :
 exprF' v st E=valueF v st E∧okR m (valueF v st E):=by
 obtain⟨h1,h2,h3⟩:=inferE_ok ht;have h4:=hra.last hl h2 h3;have:=expr_typed hok hra.ok.ok h1 (by rw [h4]);rw [h4]at this;exact this
def Marks(n:Nat)(D:List Nat)(M:List Bool):Prop:=M.length=n∧∀k,k<n→M.getD k false=D.contains k
theorem Marks.push{n:Nat}{D:List Nat}{M:List Bool}{i:Nat}(h:Marks n D M)(hi:i<n):Marks n (D++[i]) (M.set i true):=by
 refine⟨by rw [List.length_set];exact h.1,fun k hk=>?_⟩;rw [Bool.eq_iff_iff,List.contains_iff_mem,List.mem_append,List.mem_singleton];by_cases hki:k=i
 ·subst hki;rw [set_self (by rw [h.1];exact hk)];simp
 ·rw [set_get hki,h.2 k hk,List.contains_iff_mem];simp [hki]
theorem Marks.zero(n:Nat):Marks n [] (List.replicate n false):=⟨by simp,fun k hk=>by simp [List.getD_eq_getElem?_getD,List.getElem?_replicate,hk]⟩
def No2(X N:Nat)(v:Value):Prop:=∀k,v.ownBlock=some k→k≠X∧k≠N
structure DfAt(W0 w:World)(X N:Nat)(v:Vw)(y vb:Value)(n:Nat)(D:List Nat)(st:List (ByteArray × Val)):Prop where
 gr:W0.Grows w
 ev:w.heap[X]? =some (.cells (evC v y vb) 126 (0,0))
 mks:∃M,w.heap[N]? =some (.cells (bbs M) 4 (0,0))∧Marks n D M
 row:w.ownsRow W0.heap.size 68 5 vb st.length (stpL st)
 no:No2 X N vb
section
variable {W0 w w' : World} {X N : Nat} {v : Vw} {y vb : Value} {n : Nat} {D : List Nat} {st : List (ByteArray × Val)}
theorem DfAt.grows(h:DfAt W0 w X N v y vb n D st)(hg:w.Grows w'):DfAt W0 w' X N v y vb n D st:=by
 obtain⟨M,hM,hm⟩:=h.mks;exact⟨World.Grows.trans' h.gr hg,(hg.below.block X (Array.getElem?_eq_some_iff.1 h.ev).1).trans h.ev,⟨M,(hg.below.block N (Array.getElem?_eq_some_iff.1 hM).1).trans hM,hm⟩,own_grow h.row hg,h.no⟩
theorem DfAt.steps(h:DfAt W0 w X N v y vb n D st)(hl:st.length≤1000):StpAt w vb st:=StpAt.of_own h.row hl
theorem DfAt.evAt(h:DfAt W0 w X N v y vb n D st)(hl:st.length≤1000)(hy:YrAt W0 y v.years):EvAt w X v y st vb:=⟨h.ev,hy.grows h.gr,h.steps hl⟩
end
theorem setCell_grown(w:World)(X i:Nat)(u:Value):w.grownBy (w.setCell ⟨X,i,none⟩ u) (some X):=
 ⟨rfl,rfl,rfl,by simp [World.setCell],fun k hk hne=>by
  have h:X≠k:=fun e=>hne (by rw [e])
  simp [World.setCell,Array.getElem?_modify,h]⟩
theorem own_set{w:World}{base:Nat}{e:TypeId}{size:Nat}{vb:Value}{n:Nat}{xs:List Value}(h:w.ownsRow base e size vb n xs){X i:Nat}{u:Value}(hn:∀k,vb.ownBlock=some k→k≠X):(w.setCell ⟨X,i,none⟩ u).ownsRow base e size vb n xs:=
 h.kept (setCell_grown w X i u) (by
  cases ho:vb.ownBlock with
  |none=>exact .inl rfl
  |some k=>exact .inr fun e=>hn k ho (Option.some.inj e))
theorem Mid.set{B:Nat}{W w:World}(h:Mid B W w){X i:Nat}{u:Value}(hX:X<B):Mid B W (w.setCell ⟨X,i,none⟩ u):=
 ⟨Nat.le_trans h.1 (setCell_grown w X i u).size,fun k h1 h2=>((setCell_grown w X i u).block k (Nat.lt_of_lt_of_le h2 h.1) fun e=>by have:=Option.some.inj e;omega).trans (h.2 k h1 h2)⟩
theorem DfAt.app{W0 w w2:World}{X N:Nat}{v:Vw}{y vb:Value}{n:Nat}{D:List Nat}{st:List (ByteArray × Val)}{p:ByteArray × Val}{g cap H:Nat}(h:DfAt W0 w X N v y vb n D st)(hXN:X≠N)(hX:W0.heap.size≤X)(hgrow:w.grownBy w2 vb.ownBlock)
 (hown:w2.ownsRow W0.heap.size 68 5 (.slice (some ⟨g,0,none⟩) (st.length+1) cap) (st.length+1) (stpL (st++[p]))) (hgg:vb.ownBlock=some g∨g=H) (hH:w.heap.size≤H) :
 DfAt W0 (w2.setCell ⟨X,13,none⟩ (.slice (some ⟨g,0,none⟩) (st.length+1) cap)) X N v y (.slice (some ⟨g,0,none⟩) (st.length+1) cap) n D (st++[p]):=by
 obtain⟨M,hM,hm⟩:=h.mks;have hXl:=(Array.getElem?_eq_some_iff.1 h.ev).1;have hNl:=(Array.getElem?_eq_some_iff.1 hM).1
 have hno:No2 X N (.slice (some ⟨g,0,none⟩) (st.length+1) cap):=fun k hk=>by
  obtain rfl:g=k:=by simpa [Value.ownBlock]using hk
  rcases hgg with hg|rfl
  ·exact h.no _ hg
  ·exact⟨by omega,by omega⟩
 have hX2:w2.heap[X]? =some (.cells (evC v y vb) 126 (0,0)):=(hgrow.block X hXl fun e=>(h.no X e.symm).1 rfl).trans h.ev;have hN2:w2.heap[N]? =some (.cells (bbs M) 4 (0,0)):=(hgrow.block N hNl fun e=>(h.no N e.symm).2 rfl).trans hM;refine⟨World.Grows.grown (World.Grows.grown h.gr hgrow fun k hk=>(h.row.lt k hk).1) (setCell_grown w2 X 13 _) fun k hk=>by cases hk;exact hX, ?_,⟨M, ?_,hm⟩, ?_,hno⟩
 ·exact Joins.block_setCell hX2 _
 ·exact((setCell_grown w2 X 13 _).block N (Array.getElem?_eq_some_iff.1 hN2).1 fun e=>hXN (Option.some.inj e).symm).trans hN2
 ·rw [List.length_append];exact own_set hown fun k hk=>(hno k hk).1
theorem DfAt.unfr{W0 w w2:World}{X N:Nat}{v:Vw}{y vb:Value}{n:Nat}{D:List Nat}{st:List (ByteArray × Val)}(h:DfAt W0 w X N v y vb n D st)(hgrow:w.grownBy w2 vb.ownBlock):w2.frozen? ⟨X,13,none⟩=false:=
 Joins.unfrozen_of_block ((hgrow.block X (Array.getElem?_eq_some_iff.1 h.ev).1 fun e=>(h.no X e.symm).1 rfl).trans h.ev) 13
theorem DfAt.mark{W0 w:World}{X N:Nat}{v:Vw}{y vb:Value}{n i:Nat}{D:List Nat}{st:List (ByteArray × Val)}(h:DfAt W0 w X N v y vb n D st)(hXN:X≠N)(hN:W0.heap.size≤N)(hi:i<n):DfAt W0 (w.setCell ⟨N,i,none⟩ (.bool true)) X N v y vb n (D++[i]) st:=by
 obtain⟨M,hM,hm⟩:=h.mks;have hXl:=(Array.getElem?_eq_some_iff.1 h.ev).1;refine⟨World.Grows.grown h.gr (setCell_grown w N i _) fun k hk=>by cases hk;exact hN, ?_,⟨M.set i true, ?_,hm.push hi⟩,own_set h.row fun k hk=>(h.no k hk).2,h.no⟩
 ·exact((setCell_grown w N i _).block X hXl fun e=>hXN (Option.some.inj e)).trans h.ev
 ·rw [←bbs_set];exact Joins.block_setCell hM _
def DefP(W0:World)(X N:Nat)(v:Vw)(y:Value)(ls:List (ByteArray × Ex))(env:List (ByteArray × Int))(n0:Nat)(r:List Nat × List (ByteArray × Val) × Int)(B:Nat)(w:World)(e:Ending)(w':World):Prop:=
 W0.Grows w'∧e= .returned (.int .i64 r.2.2)∧(r.2.2=0→∃vb,DfAt W0 w' X N v y vb ls.length r.1 r.2.1∧r.2.1.length≤n0+11∧Mid B w w')
theorem Mid.trans{B:Nat}{W w w':World}(h:Mid B W w)(h2:Mid B w w'):Mid B W w':=⟨Nat.le_trans h.1 h2.1,fun k h1 hk=>(h2.2 k h1 (Nat.lt_of_lt_of_le hk h.1)).trans (h.2 k h1 hk)⟩
theorem define2_any(ls:List (ByteArray × Ex))(env:List (ByteArray × Int))(v:Vw)(E:Ex)(u y vs:Value)(nm:ByteArray)(a5:Option Addr)(k5 dc:Nat)(W0 w:World)(X N:Nat)(D0:List Nat)(st0:List (ByteArray × Val))(m:Int)
 (hl:LsOk ls ls.length env) (hlen:ls.length≤10) (hbl:∀t∈ls,t.2.size≤1000000) (hok:v.ok=true) (hrng:VwRng v) (hnm:nameB nm=false) (hty:inferE env E=(m,0)) (hbig:E.size≤1000000)
 (hR:RepE (fun _=>True) W0 E u) (hL:LetsAt W0 (.slice a5 ls.length k5) ls) (hY:YrAt W0 y v.years) (hD:DfAt W0 w X N v y vs ls.length D0 st0) (hst:StOk ls env D0 st0) (hn:st0.length≤20) (hXN:X≠N) (hXW:W0.heap.size≤X) (hNW:W0.heap.size≤N) (U0:Nat) (hU0:U0≤w.heap.size) (hXU:X<U0) (hNU:N<U0) (hvU:∀k,vs.ownBlock=some k→k<U0) :
 Calls Tryz.prog 80 #[.pointer (some ⟨X,0,none⟩),exV E u,.slice a5 ls.length k5,.slice (some ⟨N,0,none⟩) ls.length dc,.string nm] w (DefP W0 X N v y ls env st0.length (defF v ls E nm D0 st0) U0 w):=by
 obtain⟨i0,hi,hz0,hz1,hz2⟩:=info_parts infoS;have HL:=zh hL;have HR:=zh hR;have HY:=zh hY;have HLS:=zh hl;have HBL:=zh hbl;have HOK:=zh hok;have HRNG:=zh hrng;have HD0:=zh hD;have HST:=zh hst;have HTY:=zh (inferE_ok hty);have HU:=zh (fun w' (hg:W0.Grows w')=>Uses2_any E u (.slice a5 ls.length k5) ls w' (hR.grows hg) (hL.grows hg));obtain⟨ua,uc,rfl⟩:=hR.form0;have hzk:=fun k=>@uses_z E ls k;have hzl:((usesL E ls).map Int.ofNat).length=(usesL E ls).length:=by simp
 have hul:=uses_len E ls;have hX0:X<w.heap.size:=(Array.getElem?_eq_some_iff.1 hD.ev).1;have hN0:N<w.heap.size:=by obtain⟨M,hM,-⟩:=hD.mks;exact(Array.getElem?_eq_some_iff.1 hM).1
 unfold exV at HU;generalize(usesL E ls).map Int.ofNat=Z at *;have HZK:=zh hzk;have HZL:=zh hzl;have hZ10:Z.length≤10:=by omega
 unfold exV;clear hR hL hl hbl hok hrng hD hst hty hzk hzl hul
 go_enter Tryz.func80,Tryz.ntmps80
 go_wp2_with (go_at_call 38;refine(HU.out _ (World.Grows.trans' HD0.out.gr growsA)).mono ?_;rintro e' w' ⟨⟨x,rfl,hxi,hxn⟩,bs,d,rfl⟩;have HXI:=zh hxi;have HXN:=zh hxn;obtain⟨-,-,xa,xc,rfl,-⟩:=hxi;clear hxn)
 refine wp_abs (fun W2 hW=>?_);have HD2:Hid (DfAt W0 W2 X N v y vs ls.length D0 st0):=zh (by rw [←hW];exact HD0.out.grows growsA)
 have HBE:Hid (W2.heap[w.heap.size]? =some (.cells #[.int .i64 E.op,.int .i64 E.num,.int .i64 E.den,.int .i64 E.dim,.string E.name,.slice ua E.args.length uc] 51 (0,0))):=zh (by
  rw [←hW,World.heap_grow _ _ _ (by simp)];exact heap_new _ _ _ (by simp))
 have HXI2:Hid (IntsAt W2 (.slice xa Z.length xc) Z):=zh (by rw [←hW];exact HXI.out);have HXN2:Hid (∀k,(Value.slice xa Z.length xc).ownBlock=some k→w.heap.size≤k):=zh (fun k hk=>by have:=HXN.out k hk;simp at this;omega);have hs2:w.heap.size<W2.heap.size:=(Array.getElem?_eq_some_iff.1 HBE.out).1;have HOT:Hid (Out U0 W2.heap.size vs):=zh (fun k hk=>.inl (hvU k hk));have HMW:Hid (Mid U0 w W2):=zh (by rw [←hW];exact(Mid.refl U0 w).grows growsA);clear hW HXI HXN HU HD0
 go_loopw [21] (fun v21 wr=>∃(k:Nat) (vb:Value) (D:List Nat) (st:List (ByteArray × Val)),k≤Z.length∧v21= .int .i64 k∧DfAt W0 wr X N v y vb ls.length D st∧Mid U0 W2 wr∧Out U0 W2.heap.size vb∧st.length≤st0.length+k∧Hid (RunAt v ls env E D0 st0 k D st)) (fun v21 _=>Z.length-(intOf v21).toNat)
 case atStart=>exact⟨0,vs,D0,st0,by omega,rfl,HD2.out,.refl _ _,HOT.out,by omega,zh (RunAt.zero E HST.out)⟩
 case round=>
  obtain⟨k,vb,D,st,hk,rfl,hd,hm,hout,hsl,HRA⟩:=hrel;obtain⟨W1,rfl⟩:∃W1,W1=wr:=⟨_,rfl⟩;have HD:=zh hd;have HM:=zh hm;have HOT1:=zh hout;have hs1:w.heap.size<W1.heap.size:=by have:=hm.1;omega
  have hX1:X<W1.heap.size:=by omega
  have hN1:N<W1.heap.size:=by omega
  have HBE1:=zh ((hm.2 _ hU0 hs2).trans HBE.out);have hXI1:=hm.ints HXI2.out (fun k hk=>Nat.le_trans hU0 (HXN2.out k hk));clear hm hout;by_cases hlt:k<Z.length
  ·have hu:k<(usesL E ls).length:=by rw [←HZL.out];exact hlt
   have hzk:=HZK.out k hlt;have hil:=uses_lt (uses_at hu);obtain⟨hfo,hty,hva⟩:=HRA.out.typed HLS.out hu;have HSK:=zh (fun hc=>HRA.out.skip hu hc);have HBAD:=zh (fun hc hv=>HRA.out.bad hu hc hv);have HNX:=zh (fun hc hv=>HRA.out.next HLS.out HOK.out hu hc hv);have HSO:=zh HRA.out.ok;generalize(usesL E ls).getD k 0=i at *;obtain⟨-,-,xa',xc',hv1,hx⟩:=hXI1;simp only [Value.slice.injEq,true_and]at hv1;obtain⟨rfl,rfl⟩:=hv1;rcases hx with h0|⟨bu,ou,rfl,hbu,hx⟩
   ·omega
   have q1:=hx k hlt;rw [hzk]at q1;obtain⟨M,hM,hmk⟩:=hd.mks;have q2:W1.cell? ⟨N,i,none⟩=some (.bool (D.contains i)):=by rw [cell_of_row W1 _ _ _ _ _ hM,bbs_get M (by rw [hmk.1];exact hil),hmk.2 i hil]
   have d1:(k:Int)<(Z.length:Int):=by omega
   have d2:(i:Int)<(ls.length:Int):=by omega
   have d3:(0:Int)≤(i:Int):=by omega
   have HKL:=zh hlt;have HSL:=zh hsl;have HIL:=zh hil
   cases hc:D.contains i with
   |true=>
    rw [hc]at q2;have HN2:=zh (HSK.out hc);clear hx hM hmk hil hu hzk hd hlt hk hsl hc hfo hty hva
    go_wp2_with fail
    go_roundw
    case rel=>exact⟨k+1,vb,D,st,HKL.out,by go_num,HD.out.grows growsA,HM.out.grows growsA,HOT1.out,by have:=HSL.out;omega,HN2⟩
    case measure=>simp [intOf];have:=HKL.out;omega
   |false=>
    rw [hc]at q2;have HC:=zh hc;obtain⟨-,a',c',hv2,hy⟩:=HL.out.grows hd.gr;simp only [Value.slice.injEq,true_and]at hv2;obtain⟨rfl,rfl⟩:=hv2;rcases hy with h0|⟨bl,ol,rfl,hbl,hy⟩
    ·omega
    obtain⟨ub,m,m0,m1,m2,m3,m4,m5,hrb⟩:=hy i hil
    have hbl0:bl<W0.heap.size:=by
     obtain⟨-,a'',c'',hv3,h0|⟨b3,o3,hb3,hlt3,-⟩⟩:=HL.out
     ·omega
     ·simp only [Value.slice.injEq,Option.some.injEq,Addr.mk.injEq,and_true,true_and]at hv3 hb3;obtain⟨e1,-⟩:=hv3;rw [←e1]at hb3;simp only [Option.some.injEq,Addr.mk.injEq,and_true]at hb3;omega
    have hsz:=HBL.out _ (getD_mem hil);have hEV:=fun w' (hg:W1.Grows w') hr hr2 ra rc hrp=>evexpr_walk (fun _=>True) v y vb st X HOK.out (fun p hp=>HSO.out.ok p hp) HRNG.out (ls.getD i default).2.size (ls.getD i default).2 (Nat.le_refl _) hr hr2 ra rc w' hrp ((hd.grows hg).evAt (by omega) HY.out);generalize ls.getD i default=tt at *;obtain⟨nmi,bd⟩:=tt;dsimp only at m m0 m1 m2 m3 m4 m5 hrb hsz HBAD HNX hEV hfo hty;obtain⟨ra,rc,rfl⟩:=hrb.form0;have HRB:=zh hrb;have HEV:=zh (fun w' (hg:W1.Grows w')=>hEV w' hg hfo (by rw [hty]) ra rc (HRB.out.grows hg));have HB1:=zh (fun hv=>HBAD.out HC.out hv);have HN1:=zh (fun hv=>HNX.out HC.out hv);unfold exV at HEV;generalize valueF v st bd=r at *;obtain⟨⟨rm,ry,rn,rd⟩,c⟩:=r;unfold EvR valV at HEV;dsimp only at HEV HB1 HN1;have HDM:=zh hmk;have HMB:=zh hM;clear hx hM hmk hil hu hzk hlt hk hsl hc hfo hty hva hEV hrb hy HBAD HNX HSK;by_cases hc:c=0
    ·subst hc;have HN2:=zh (HN1.out rfl)
     go_wp2_with (go_at_call 68;refine(HEV.out _ growsA).mono ?_;rintro e' w' ⟨x',rfl,hx',bs5,d5,rfl⟩;have hx2:=hx' rfl;clear hx';subst hx2)
     refine wp_abs (fun W5 hW5=>?_);have HG5:Hid (W1.Grows W5):=zh (by rw [←hW5];exact growsA);obtain⟨B,hB⟩:∃B,B=W1.heap.size+bs5.size:=⟨_,rfl⟩;have HBX:Hid (W5.heap[B]? =some (.cells #[.int .i64 rm,.bool ry,.int .i64 rn,.int .i64 rd] 34 (0,0))):=zh (by rw [hB,←hW5];exact heap_new _ _ _ (by simp));rw [←hB];have HD5:=zh (HD.out.grows HG5.out);have hrow:=fun k (hk:vb.ownBlock=some k)=>HD.out.row.lt k hk;have hB5:B<W5.heap.size:=(Array.getElem?_eq_some_iff.1 HBX.out).1;have hs15:W1.heap.size≤W5.heap.size:=HG5.out.below.size;have hg0:W0.heap.size≤W1.heap.size:=HD.out.gr.below.size;have x13:W5.cell? ⟨X,13,none⟩=some vb:=by rw [cell_of_row W5 _ _ _ _ _ HD5.out.ev];rfl
     have xn:W5.cell? ⟨bl,ol+i*7,none⟩=some (.string nmi):=(World.cell?_of_block (HG5.out.below.block bl hbl)).trans m;have yb:=fun(j:Nat) (z:Value) (hz:(#[Value.int .i64 rm,.bool ry,.int .i64 rn,.int .i64 rd]:Array Value)[j]? =some z)=>(cell_of_row W5 _ j _ _ _ HBX.out).trans hz
     have HSOF:Hid (∀w',Rel W5 vb.ownBlock w'→(w'.cell? ⟨X,13,none⟩=some vb∧w'.cell? ⟨bl,ol+i*7,none⟩=some (.string nmi)∧w'.cell? ⟨B,0,none⟩=some (.int .i64 rm)∧w'.cell? ⟨B,1,none⟩=some (.bool ry)∧w'.cell? ⟨B,2,none⟩=some (.int .i64 rn)∧w'.cell? ⟨B,3,none⟩=some (.int .i64 rd))):=zh (fun w' hr=>by
      have e1:=hr.cell (b:=X) (o:=13) (by omega) (fun e=>(HD.out.no X e.symm).1 rfl);have e2:=hr.cell (b:=bl) (o:=ol+i*7) (by omega) (fun e=>by have:=(hrow bl e.symm).1;omega);have e3:=fun o=>hr.cell (b:=B) (o:=o) hB5 (fun e=>by have:=(hrow B e.symm).2;omega)
      exact⟨e1.trans x13,e2.trans xn,(e3 0).trans (yb 0 _ rfl),(e3 1).trans (yb 1 _ rfl),(e3 2).trans (yb 2 _ rfl),(e3 3).trans (yb 3 _ rfl)⟩)
     have HM5:=zh (HM.out.grows HG5.out);clear hW5 hB HBX x13 xn yb HG5 q1 q2 m m0 m1 m2 m3 m4 m5 hrow;refine TS.begin [16] (fun w'=>w'.cell? ⟨X,13,none⟩=some vb∧w'.cell? ⟨bl,ol+i*7,none⟩=some (.string nmi)∧w'.cell? ⟨B,0,none⟩=some (.int .i64 rm)∧w'.cell? ⟨B,1,none⟩=some (.bool ry)∧w'.cell? ⟨B,2,none⟩=some (.int .i64 rn)∧w'.cell? ⟨B,3,none⟩=some (.int .i64 rd)) (by kernel_rfl) (by kernel_rfl) (HSOF.out _ ((Rel.refl _ _).grows growsA)) (fun hS=>?_);refine TS.skB 0 hS ?_;refine TS.skB 1 hS ?_;refine TS.skB 2 hS ?_;refine TS.skB 3 hS ?_;refine TS.skB 4 hS ?_;refine TS.skB 5 hS ?_;refine TS.skB 6 hS ?_;refine TS.skB 7 hS ?_;refine TS.skB 8 hS ?_;refine TS.skB 9 hS ?_;refine TS.skB 10 hS ?_;refine TS.skB 11 hS ?_;refine TS.one (i:=12) (by kernel_rfl) rfl (fun K1 hK1=>?_);have HK1:=zh hK1;clear hK1 hS;dsimp only [List.getElem_toArray,List.getElem_cons_succ,List.getElem_cons_zero]
     go_simp
     refine TS.go HK1.out (HSOF.out _ ((Rel.refl _ _).grows growsA)) (fun hS=>?_);clear HK1 K1
     (try simp only [nS])
     refine TS.one (i:=13) (by kernel_rfl) rfl (fun K1 hK1=>?_);refine step_append_lies _ rfl _ _ 47 rfl W0.heap.size 68 i0 _ 5 48 Tryz.underlying47 hi hz0 hz1 hz2 rfl (by decide) vb st.length _ rfl (own_grow HD5.out.row growsA) ⟨_,0,none⟩ 1 1 [.string nmi,.int .i64 rm,.bool ry,.int .i64 rn,.int .i64 rd] rfl rfl (news_cells _ [.string nmi,.int .i64 rm,.bool ry,.int .i64 rn,.int .i64 rd] _ _ (by simp)) (by intro u hu;simp at hu;rcases hu with rfl|rfl|rfl|rfl|rfl<;>rfl) (by omega) (by unfold maxLen;have:=HSL.out;omega) (by have:=HSL.out;omega) (by have:=HD5.out.gr.below.size;simp;omega) _ rfl ?_;intro g cap w2 hown2 hgrow2 hgg hgl;have hS2:=HSOF.out w2 (((Rel.refl W5 _).grows growsA).grown hgrow2);have HD6:Hid (DfAt W0 (w2.setCell ⟨X,13,none⟩ (.slice (some ⟨g,0,none⟩) (st.length+1) cap)) X N v y (.slice (some ⟨g,0,none⟩) (st.length+1) cap) ls.length D (st++[(nmi,⟨rm,ry,rn,rd⟩)])):=zh ((HD5.out.grows growsA).app hXN hXW hgrow2 (by rw [stpL_snoc];exact hown2) hgg (Nat.le_refl _));have hz5:=(HD5.out.grows growsA).unfr hgrow2;have HM6:Hid (Mid U0 W2 (w2.setCell ⟨X,13,none⟩ (.slice (some ⟨g,0,none⟩) (st.length+1) cap))):=zh (Mid.set (Mid.grown (HM5.out.grows growsA) hgrow2 HOT1.out) hXU);have HT6:Hid (Out U0 W2.heap.size (.slice (some ⟨g,0,none⟩) (st.length+1) cap)):=zh (HOT1.out.next hgg (by have:=HM5.out.1;simp;omega));refine hK1 _ _ (fun _=>hS2) ?_;clear hK1 K1 hown2 hgrow2 hgg hS;have hS:=hS2;clear hS2
     (try simp only [nS])
     refine TS.skB 14 hS ?_;refine TS.skB 15 hS ?_;refine TS.weB 16 ?_;clear hS HD5 HSOF HM5;clear hz5;generalize w2.setCell ⟨X,13,none⟩ (.slice (some ⟨g,0,none⟩) (st.length+1) cap)=W6 at *;obtain⟨M6,hM6,hmk6⟩:=HD6.out.mks;have c0:W6.cell? ⟨N,i,none⟩=some (.bool (M6.getD i false)):=by rw [cell_of_row W6 _ _ _ _ _ hM6];exact bbs_get M6 (by rw [hmk6.1];exact HIL.out)
     have z0:W6.frozen? ⟨N,i,none⟩=false:=Joins.unfrozen_of_block hM6 i;have hN6:=(Array.getElem?_eq_some_iff.1 hM6).1;have HD7:=zh (HD6.out.mark hXN hNW HIL.out);have HM7:=zh (Mid.set (i:=i) (u:=.bool true) HM6.out hNU);clear hM6 hmk6 HD6 HM6
     go_wp2_with fail
     go_roundw
     case rel=>exact⟨k+1,_,_,_,HKL.out,by go_num,HD7.out,HM7.out,HT6.out,by have:=HSL.out;simp;omega,HN2⟩
     case measure=>simp [intOf];have:=HKL.out;omega
    ·have hc2:(c !=0)=true:=by simpa using hc
     have HF:=zh (HB1.out hc);have HCC:=zh hc;clear hc
     go_wp2_with (go_at_call 68;refine(HEV.out _ growsA).mono ?_;rintro e' w' ⟨x',rfl,hx',bs5,d5,rfl⟩;clear hx')
     go_returns
     have hF:(defF v ls E nm D0 st0).2.2=c:=def_a (by rw [HF.out]) HCC.out;exact⟨World.Grows.trans' HD.out.gr growsA,by rw [hF]<;>rfl,fun h0=>absurd (hF ▸ h0) HCC.out⟩
  ·obtain rfl:k=Z.length:=by omega
   have HRE:Hid (RunAt v ls env E D0 st0 (usesL E ls).length D st):=zh (by rw [←HZL.out];exact HRA.out);have HSL:=zh hsl;have hEV:=evexpr_walk (fun _=>True) v y vb st X HOK.out (fun p hp=>HRE.out.ok.ok p hp) HRNG.out E.size E (Nat.le_refl _) HTY.out.2.1 (by rw [HRE.out.last HLS.out HTY.out.2.1 HTY.out.2.2]);have HEV:=zh (fun w' (hg:W1.Grows w')=>hEV ua uc w' (HR.out.grows (World.Grows.trans' hd.gr hg)) ((hd.grows hg).evAt (by omega) HY.out));have HDB:=zh (fun c h1 h2=>def_b (nm:=nm) (c:=c) HRE.out.done h1 h2);have HDC:=zh (fun x h1=>def_c (nm:=nm) (x:=x) HRE.out.done h1);have hbe:=fun(j:Nat) (z:Value) (hz:(#[Value.int .i64 E.op,.int .i64 E.num,.int .i64 E.den,.int .i64 E.dim,.string E.name,.slice ua E.args.length uc]:Array Value)[j]? =some z)=>(cell_of_row W1 _ j _ _ _ HBE1.out).trans hz;have b0:=hbe 0 _ rfl;have b1:=hbe 1 _ rfl;have b2:=hbe 2 _ rfl;have b3:=hbe 3 _ rfl;have b4:=hbe 4 _ rfl;have b5:=hbe 5 _ rfl;unfold exV at HEV;generalize valueF v st E=r at *;obtain⟨⟨rm,ry,rn,rd⟩,c⟩:=r;unfold EvR valV at HEV;dsimp only at HEV HDB HDC;clear hbe hEV hXI1 hd hsl;by_cases hc:c=0
   ·subst hc;have HF:=zh (HDC.out ⟨rm,ry,rn,rd⟩ rfl)
    go_wp2_with (go_at_call 68;refine(HEV.out _ growsA).mono ?_;rintro e' w' ⟨x',rfl,hx',bs5,d5,rfl⟩;have hx2:=hx' rfl;clear hx';subst hx2)
    refine wp_abs (fun W5 hW5=>?_);have HG5:Hid (W1.Grows W5):=zh (by rw [←hW5];exact growsA);have HG5X:=HG5;obtain⟨B,hB⟩:∃B,B=W1.heap.size+bs5.size:=⟨_,rfl⟩;have HBX:Hid (W5.heap[B]? =some (.cells #[.int .i64 rm,.bool ry,.int .i64 rn,.int .i64 rd] 34 (0,0))):=zh (by rw [hB,←hW5];exact heap_new _ _ _ (by simp));rw [←hB];have HD5:=zh (HD.out.grows HG5.out);have hrow:=fun k (hk:vb.ownBlock=some k)=>HD.out.row.lt k hk;have hB5:B<W5.heap.size:=(Array.getElem?_eq_some_iff.1 HBX.out).1;have hs15:W1.heap.size≤W5.heap.size:=HG5.out.below.size;have x13:W5.cell? ⟨X,13,none⟩=some vb:=by rw [cell_of_row W5 _ _ _ _ _ HD5.out.ev];rfl
    have yb:=fun(j:Nat) (z:Value) (hz:(#[Value.int .i64 rm,.bool ry,.int .i64 rn,.int .i64 rd]:Array Value)[j]? =some z)=>(cell_of_row W5 _ j _ _ _ HBX.out).trans hz
    have HSOF:Hid (∀w',Rel W5 vb.ownBlock w'→(w'.cell? ⟨X,13,none⟩=some vb∧w'.cell? ⟨B,0,none⟩=some (.int .i64 rm)∧w'.cell? ⟨B,1,none⟩=some (.bool ry)∧w'.cell? ⟨B,2,none⟩=some (.int .i64 rn)∧w'.cell? ⟨B,3,none⟩=some (.int .i64 rd))):=zh (fun w' hr=>by
     have e1:=hr.cell (b:=X) (o:=13) (by omega) (fun e=>(HD.out.no X e.symm).1 rfl);have e3:=fun o=>hr.cell (b:=B) (o:=o) hB5 (fun e=>by have:=(hrow B e.symm).2;omega)
     exact⟨e1.trans x13,(e3 0).trans (yb 0 _ rfl),(e3 1).trans (yb 1 _ rfl),(e3 2).trans (yb 2 _ rfl),(e3 3).trans (yb 3 _ rfl)⟩)
    clear hW5 hB HBX x13 yb HG5 b0 b1 b2 b3 b4 b5 hrow;refine TS.begin [12] (fun w'=>w'.cell? ⟨X,13,none⟩=some vb∧w'.cell? ⟨B,0,none⟩=some (.int .i64 rm)∧w'.cell? ⟨B,1,none⟩=some (.bool ry)∧w'.cell? ⟨B,2,none⟩=some (.int .i64 rn)∧w'.cell? ⟨B,3,none⟩=some (.int .i64 rd)) (by kernel_rfl) (by kernel_rfl) (HSOF.out _ ((Rel.refl _ _).grows growsA)) (fun hS=>?_);refine TS.skB 0 hS ?_;refine TS.skB 1 hS ?_;refine TS.skB 2 hS ?_;refine TS.skB 3 hS ?_;refine TS.skB 4 hS ?_;refine TS.skB 5 hS ?_;refine TS.skB 6 hS ?_;refine TS.skB 7 hS ?_;refine TS.one (i:=8) (by kernel_rfl) rfl (fun K1 hK1=>?_);have HK1:=zh hK1;clear hK1 hS;dsimp only [List.getElem_toArray,List.getElem_cons_succ,List.getElem_cons_zero]
    go_simp
    refine TS.go HK1.out (HSOF.out _ ((Rel.refl _ _).grows growsA)) (fun hS=>?_);clear HK1 K1
    (try simp only [nS])
    refine TS.one (i:=9) (by kernel_rfl) rfl (fun K1 hK1=>?_);refine step_append_lies _ rfl _ _ 47 rfl W0.heap.size 68 i0 _ 5 48 Tryz.underlying47 hi hz0 hz1 hz2 rfl (by decide) vb st.length _ rfl (own_grow HD5.out.row growsA) ⟨_,0,none⟩ 1 1 [.string nm,.int .i64 rm,.bool ry,.int .i64 rn,.int .i64 rd] rfl rfl (news_cells _ [.string nm,.int .i64 rm,.bool ry,.int .i64 rn,.int .i64 rd] _ _ (by simp)) (by intro u hu;simp at hu;rcases hu with rfl|rfl|rfl|rfl|rfl<;>rfl) (by omega) (by unfold maxLen;have:=HSL.out;omega) (by have:=HSL.out;omega) (by have:=HD5.out.gr.below.size;simp;omega) _ rfl ?_;intro g cap w2 hown2 hgrow2 hgg hgl;have hS2:=HSOF.out w2 (((Rel.refl W5 _).grows growsA).grown hgrow2);have HD6:Hid (DfAt W0 (w2.setCell ⟨X,13,none⟩ (.slice (some ⟨g,0,none⟩) (st.length+1) cap)) X N v y (.slice (some ⟨g,0,none⟩) (st.length+1) cap) ls.length D (st++[(nm,⟨rm,ry,rn,rd⟩)])):=zh ((HD5.out.grows growsA).app hXN hXW hgrow2 (by rw [stpL_snoc];exact hown2) hgg (Nat.le_refl _));have hz5:=(HD5.out.grows growsA).unfr hgrow2;have HM6:Hid (Mid U0 W2 (w2.setCell ⟨X,13,none⟩ (.slice (some ⟨g,0,none⟩) (st.length+1) cap))):=zh (Mid.set (Mid.grown ((HM.out.grows HG5X.out).grows growsA) hgrow2 HOT1.out) hXU);refine hK1 _ _ (fun _=>hS2) ?_;clear hK1 K1 hown2 hgrow2 hgg hS;have hS:=hS2;clear hS2
    (try simp only [nS])
    refine TS.skB 10 hS ?_;refine TS.skB 11 hS ?_;refine TS.weB 12 ?_;clear hS HD5 HSOF
    go_wp2_with fail
    go_returns
    exact⟨HD6.out.gr,by rw [HF.out]<;>rfl,fun _=>⟨_,by rw [HF.out];exact HD6.out,by rw [HF.out];have:=HSL.out;simp;omega,HMW.out.trans HM6.out⟩⟩
   ·have hc2:(c !=0)=true:=by simpa using hc
    have HCC:=zh hc;have HF:=zh (HDB.out c rfl hc);clear hc
    go_wp2_with (go_at_call 68;refine(HEV.out _ growsA).mono ?_;rintro e' w' ⟨x',rfl,hx',bs5,d5,rfl⟩;clear hx')
    go_returns
    exact⟨World.Grows.trans' HD.out.gr growsA,by rw [HF.out]<;>rfl,fun h0=>absurd (HF.out ▸ h0) HCC.out⟩
theorem stp_cells{w:World}{a:Option Addr}{n cap:Nat}{st:List (ByteArray × Val)}(h:StpAt w (.slice a n cap) st){j:Nat}(hj:j<st.length):∃b off,a=some ⟨b,off,none⟩∧b<w.heap.size∧w.cell? ⟨b,off+j*5,none⟩=some (.string (stN st j))∧w.cell? ⟨b,off+j*5+1,none⟩=some (.int .i64 (stV st j).dim)∧w.cell? ⟨b,off+j*5+2,none⟩=some (.bool (stV st j).yes)∧w.cell? ⟨b,off+j*5+3,none⟩=some (.int .i64 (stV st j).n)∧w.cell? ⟨b,off+j*5+4,none⟩=some (.int .i64 (stV st j).d):=by
 obtain⟨-,a',c',hv,h0|⟨b,off,ha,hb,hc⟩⟩:=h
 ·omega
 ·simp only [Value.slice.injEq]at hv;obtain⟨rfl,-,-⟩:=hv;obtain⟨s0,s1,s2,s3,s4⟩:=hc j hj;exact⟨b,off,ha,hb,s0,s1,s2,s3,s4⟩
theorem sameSteps_any(st:List (ByteArray × Val))(va vb:Value)(w:World)(ha:StpAt w va st)(hb:StpAt w vb st):Calls Tryz.prog 88 #[va,vb] w fun e w'=>e= .returned (.bool true)∧w.Grows w':=by
 have HA:=zh ha;have HB:=zh hb;obtain⟨h1000,a,c,rfl,-⟩:=ha;obtain⟨-,b,d,rfl,-⟩:=hb
 go_enter Tryz.func88,Tryz.ntmps88
 go_wp2_with fail
 go_loopw [5] (fun v3 wr=>∃k:Nat,k≤st.length∧v3= .int .i64 k∧w.Grows wr) (fun v3 _=>st.length-(intOf v3).toNat)
 case atStart=>exact⟨0,by omega,rfl,.refl _⟩
 case round=>
  obtain⟨k,hk,rfl,hg⟩:=hrel;have HG:=zh hg;by_cases hlt:k<st.length
  ·obtain⟨ba,oa,rfl,hba,p0,p1,p2,p3,p4⟩:=stp_cells (HA.out.grows hg) hlt;obtain⟨bb,ob,rfl,hbb,q0,q1,q2,q3,q4⟩:=stp_cells (HB.out.grows hg) hlt;have d1:(k:Int)<(st.length:Int):=by omega
   have HL:=zh hlt;generalize stN st k=nm at *;generalize stV st k=x at *;clear hg hlt hk
   go_wp2_with fail
   go_region
   go_wp2_with fail
   go_roundw
   case rel=>exact⟨k+1,HL.out,by go_num,World.Grows.trans' HG.out growsA⟩
   case measure=>simp [intOf];have:=HL.out;omega
  ·obtain rfl:k=st.length:=by omega
   clear hg hlt hk
   go_wp2_with fail
   go_returns
   exact⟨rfl,HG.out⟩
theorem sameResult_any(st:List (ByteArray × Val))(va vb:Value)(h:Bool)(n d:Int)(w:World)(ha:StpAt w va st)(hb:StpAt w vb st):Calls Tryz.prog 44 #[.agg #[.bool h,.int .i64 n,.int .i64 d,va],.agg #[.bool h,.int .i64 n,.int .i64 d,vb]] w fun e w'=>e= .returned (.bool true)∧w.Grows w':=by
 have HA:=zh ha;have HB:=zh hb;have HS:=zh (fun w' (hg:w.Grows w')=>sameSteps_any st va vb w' (HA.out.grows hg) (HB.out.grows hg));obtain⟨h1000,a,c,rfl,-⟩:=ha;obtain⟨-,b,e,rfl,-⟩:=hb
 go_enter Tryz.func44,Tryz.ntmps44
 go_wp2_with (go_at_call 88;refine(HS.out _ growsA).mono ?_;rintro e' w' ⟨rfl,bs,d',rfl⟩)
 go_returns
 exact⟨rfl,growsA⟩
end Go.Proofs.YtlheailebbngiaaGreatDoor
