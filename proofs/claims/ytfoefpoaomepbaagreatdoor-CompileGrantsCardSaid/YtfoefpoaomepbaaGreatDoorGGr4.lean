import Derived.Test.YtfoefpoaomepbaaGreatDoorGGr2
import Derived.Lib.OwnBridge
set_option linter.all false
set_option maxHeartbeats 16000000
set_option maxRecDepth 1000000
namespace Go.Proofs.YtfoefpoaomepbaaGreatDoor
open Go.Proofs.Tryz Tryz List
open Go.RowKit
theorem CB{env:List (ByteArray × Int)}:∀(l:List (Int × Ex × Ex)) (pre:List Int),grG env pre l=0->(∀g∈l,pre.contains g.1=false)/\l.Pairwise (fun a b=>a.1≠b.1)
 | [],_,_=>⟨fun _ h=>by(cases h),.nil⟩
 |g::r,pre,h=>by
  rw [grG]at h
  split at h
  ·cases h
  rename_i h0
  split at h
  ·rename_i h1;exact absurd h h1
  split at h
  ·rename_i h1;exact absurd h h1
  obtain⟨a,b⟩:=CB r _ h;have ha:=fun x hx=>Bool.eq_false_iff.1 (a x hx);refine⟨fun x hx=>?_,pairwise_cons.2 ⟨fun x hx e=>ha x hx (contains_iff_mem.2 (mem_append.2 (.inr zW))),b⟩⟩;rcases mem_cons.1 hx with rfl|hx
  ·simpa using h0
  ·exact Bool.eq_false_iff.2 fun c=>ha x hx (contains_iff_mem.2 (mem_append.2 (.inl (contains_iff_mem.1 c))))
theorem BH{env:List (ByteArray × Int)}:∀(l:List (Int × Ex)) (pre:List Int),reG env pre l=0->(∀g∈l,pre.contains g.1=false)/\l.Pairwise (fun a b=>a.1≠b.1)
 | [],_,_=>⟨fun _ h=>by(cases h),.nil⟩
 |g::r,pre,h=>by
  rw [reG]at h
  split at h
  ·cases h
  rename_i h0
  split at h
  ·rename_i h1;exact absurd h h1
  obtain⟨a,b⟩:=BH r _ h;have ha:=fun x hx=>Bool.eq_false_iff.1 (a x hx);refine⟨fun x hx=>?_,pairwise_cons.2 ⟨fun x hx e=>ha x hx (contains_iff_mem.2 (mem_append.2 (.inr zW))),b⟩⟩;rcases mem_cons.1 hx with rfl|hx
  ·simpa using h0
  ·exact Bool.eq_false_iff.2 fun c=>ha x hx (contains_iff_mem.2 (mem_append.2 (.inl (contains_iff_mem.1 c))))
theorem vers_apart{V:dK}(h:bM V=0):V.gr.Pairwise (fun a b=>a.1≠b.1)/\V.re.Pairwise (fun a b=>a.1≠b.1):=by
 unfold bM at h
 split at h
 ·rename_i h1;exact absurd h h1
 split at h
 ·cases h
 split at h
 ·cases h
 split at h
 ·rename_i h2;exact absurd h h2
 rename_i h2
 exact⟨(CB _ _ (Decidable.byContradiction h2)).2,(BH _ _ h).2⟩
theorem apart_first{β:Type}[Inhabited (Int × β)]{l:List (Int × β)}{b:Int}{k:Nat}(h:l.Pairwise (fun a b=>a.1≠b.1))(hk:k<l.length)(hb:(l.getD k default).1=b):∀j,j<k->(l.getD j default).1≠b:=fun j hj e=>by
 have hjl:j<l.length:=by omega
 have g:∀i (hi:i<l.length),l.getD i default=l[i]:=fun i hi=>by rw [getD_eq_getElem?_getD,getElem?_eq_getElem hi];rfl
 exact pairwise_iff_getElem.1 h j k hjl hk hj (by rw [<-g j hjl,<-g k hk,e,hb])
theorem FT(fn:FuncId){w:World}{a:Option Addr}{cap n i:Nat}{l:List (Int × Ex × Ex)}(h:gL w (.slice a n cap) l)(hi:i<=l.length)(lb:Array Value)(p:Nat->Bool)
 (hp:∀k,k<i->∀(a1 a2 a3 a4 a5 a6 a7 a8 a9 a10 a11 a12:Value),∀w',w.Grows w'->Calls prog fn (#[.agg (.int .i64 (l.getD k default).1::[a1,a2,a3,a4,a5,a6,a7,a8,a9,a10,a11,a12]).toArray]++lb) w' fun r w''=>r= .returned (.bool (p k))/\w'.Grows w'') :
 wu 13 fn lb p w (.slice a i cap) i:=by
 obtain⟨h0,a1,c1,hv1,h1⟩:=h;simp only [Value.slice.injEq]at hv1;obtain⟨rfl,rfl,rfl⟩:=hv1;refine⟨by omega,a,cap,rfl, ?_⟩;by_cases hz:i=0
 ·exact .inl hz
 rcases h1 with h1|⟨b,off,rfl,hb,hc⟩
 ·omega
 refine .inr ⟨b,off,rfl,hb,fun k hk=>?_⟩;obtain⟨u,u',g⟩:=hc k zb;refine⟨[.int .i64 (l.getD k default).1,.int .i64 (l.getD k default).2.1.op,.int .i64 (l.getD k default).2.1.num,.int .i64 (l.getD k default).2.1.den,.int .i64 (l.getD k default).2.1.dim,.string (l.getD k default).2.1.name,u,.int .i64 (l.getD k default).2.2.op,.int .i64 (l.getD k default).2.2.num,.int .i64 (l.getD k default).2.2.den,.int .i64 (l.getD k default).2.2.dim,.string (l.getD k default).2.2.name,u'],rfl,fun j x hj=>?_,hp k hk _ _ _ _ _ _ _ _ _ _ _ _⟩
 match j,hj with
 |0,hj=>cases hj;exact g.nm
 |1,hj=>cases hj;exact g.c0
 |2,hj=>cases hj;exact g.c1
 |3,hj=>cases hj;exact g.c2
 |4,hj=>cases hj;exact g.c3
 |5,hj=>cases hj;exact g.c4
 |6,hj=>cases hj;exact g.c5
 |7,hj=>cases hj;exact g.e0
 |8,hj=>cases hj;exact g.e1
 |9,hj=>cases hj;exact g.e2
 |10,hj=>cases hj;exact g.e3
 |11,hj=>cases hj;exact g.e4
 |12,hj=>cases hj;exact g.e5
theorem QN:∀args w,(callFunc 66 args).run prog w= .ok (.enter 66 args) w:=enters_of func66 ze rfl
theorem TL:∀args w,(callFunc 68 args).run prog w= .ok (.enter 68 args) w:=enters_of func68 ze rfl
theorem tC(z y:Int)(a1 a2 a3 a4 a5 a6 a7 a8 a9 a10 a11 a12:Value)(b:Nat)(w:World)(hb:w.heap[b]? =some (.cells #[.int .i64 y] 3 (0,0))) :
 Calls prog 66 (#[.agg (.int .i64 z::[a1,a2,a3,a4,a5,a6,a7,a8,a9,a10,a11,a12]).toArray]++#[.pointer (some ⟨b,0,none⟩)]) w fun r w'=>r= .returned (.bool (decide (z=y)))/\w.Grows w':=by
 show Calls prog 66 #[.agg #[.int .i64 z,a1,a2,a3,a4,a5,a6,a7,a8,a9,a10,a11,a12],.pointer (some ⟨b,0,none⟩)] w _;have hbl:b<w.heap.size:=(Array.getElem?_eq_some_iff.1 hb).1;have x0:w.cell? ⟨b,0,none⟩=some (.int .i64 y):=by rw [cell_of_row w b _ _ _ _ hb];rfl
 clear hb;by_cases hn:z=y
 ·have h2:(z==y)=true:=by rw [hn];simp
  have HD:Hid (decide (z=y)=true):=yq (decide_eq_true hn);clear hn
  go_enter func66,ntmps66
  go_wp2_with fail
  go_returns
  exact⟨av HD.out.symm,.of_below af⟩
 ·have h2:(z==y)=false:=by simpa using hn
  have HD:Hid (decide (z=y)=false):=yq (decide_eq_false hn);clear hn
  go_enter func66,ntmps66
  go_wp2_with fail
  go_returns
  exact⟨av HD.out.symm,.of_below af⟩
def jy(w:World)(v:Value)(zs:List Int):Prop:=zs.length<=1000/\∃a c,v= .slice a zs.length c/\(zs.length=0\/∃b off,a=some ⟨b,off,none⟩/\b<w.heap.size/\∀j,j<zs.length->w.cell? ⟨b,off+j,none⟩=some (.int .i64 (zs.getD j 0)))
theorem jP(zs:List Int)(v:Value)(z:Int)(w:World)(h:jy w v zs):Calls prog 69 #[v,.int .i64 z] w fun e w'=>e= .returned (.bool (zs.contains z))/\w'=w:=by
 obtain⟨hl,a,c,rfl,h0|⟨b,off,rfl,hb,hc⟩⟩:=h
 ·obtain rfl:zs= []:=eq_nil_of_length_eq_zero h0;exact slices_Contains_int_empty a c z w
 ·have:=slices_Contains_int b off zs.length c zs z w (Nat.le_refl _) zb hc;rw [take_of_length_le (Nat.le_refl _)]at this;exact this
theorem MC(zs:List Int)(v:Value)(B:Nat)(z:Int)(W:World)(hB:W.cell? ⟨B,0,none⟩=some v)(h:jy W v zs):FnGives prog 68 #[.pointer (some ⟨B,0,none⟩)] #[.int .i64 z] (.bool (zs.contains z)) W:=by
 show Calls prog 68 #[.int .i64 z,.pointer (some ⟨B,0,none⟩)] W _;have HC:=yq (jP zs v z W h);generalize zs.contains z=q at HC ⊢;have hBl:=World.block_lt_of_cell? _ _ hB;clear h
 go_enter func68,ntmps68
 go_wp2_with (go_at_call 69;refine HC.out.mono ?_;rintro e w' ⟨rfl,rfl⟩)
 go_returns
 exact⟨rfl,0,rfl⟩
def nmV(l:List Nat):List Value:=l.map fun(k:Nat)=>Value.int .i64 k
theorem Gi(l:List Nat):nmV l=(l.map Int.ofNat).map (Value.int .i64):=by unfold nmV;rw [map_map];rfl
def UI(V:List Nat)(base:Nat)(v:Value)(w:World)(e:Ending)(w':World):Prop:=∃v',e= .returned v'/\w'.ownsRow base 3 1 v' V.length (nmV V)/\w.grownBy w' v.ownBlock/\∀b,v'.ownBlock=some b->v.ownBlock=some b
theorem jy.cell{w w':World}{v:Value}{zs:List Int}(h:jy w v zs)(hs:w.heap.size<=w'.heap.size)(hc:∀b,v.ownBlock=some b->∀o,w'.cell? ⟨b,o,none⟩=w.cell? ⟨b,o,none⟩):jy w' v zs:=by
 obtain⟨hl,a,c,rfl,h0⟩:=h;refine⟨hl,a,c,rfl,h0.imp id ?_⟩;rintro⟨b,off,rfl,hb,hx⟩;exact⟨b,off,rfl,by omega,fun j hj=>(hc b rfl _).trans (hx j hj)⟩
theorem Qa(U1 U2:List Nat)(v1 v2:Value)(B base:Nat)(w:World)(hB:w.cell? ⟨B,0,none⟩=some v1)(h1:jy w v1 (U1.map Int.ofNat))(hl2:U2.length<=1000)(ho:w.ownsRow base 3 1 v2 U2.length (nmV U2))(hnB:v2.ownBlock≠some B)(hn1:∀b,v1.ownBlock=some b->v2.ownBlock≠some b) :
 Calls prog 67 #[v2,.func (.func 68) #[] #[.pointer (some ⟨B,0,none⟩)]] w (UI (U2.filter fun k=>!U1.contains k) base v2 w):=by
 have hBl:=World.block_lt_of_cell? _ _ hB;rcases ho.2 with ⟨rfl,hz⟩|⟨g,cap,cur,rfl,hb,hg,hnc,hcm,hcs,hct⟩
 ·obtain rfl:U2= []:=eq_nil_of_length_eq_zero hz;show Calls prog 67 #[.slice none 0 0,.func (.func 68) #[] #[.pointer (some ⟨B,0,none⟩)]] w _;clear h1 hB hn1 hnB hz
  go_enter func67,ntmps67
  go_wp2_with (go_at_call 125;refine gw (slices_IndexFunc_empty (α:=Int) none 0 _ _) ?_)
  go_returns
  exact⟨_,rfl,World.ownsRow_nil _ _ _ _,⟨rfl,rfl,rfl,Nat.le_refl _,fun _ _ _=>rfl⟩,fun _ h=>h⟩
 ·have hgB:g≠B:=fun e=>hnB (by rw [e];rfl);have h1l:∀b,v1.ownBlock=some b->b<w.heap.size->True:=fun _ _ _=>trivial
  have hpa:PredAt prog 68 #[.pointer (some ⟨B,0,none⟩)] (Value.int .i64) (fun z=>(U1.map Int.ofNat).contains z) w:=fun W x hb=>by
   refine MC _ v1 B x W ((hb.cell (p:=⟨B,0,none⟩) hBl).trans hB) ?_;obtain⟨k1,a,c,rfl,k2⟩:=h1;refine⟨k1,a,c,rfl,k2.imp id ?_⟩;rintro⟨b,off,rfl,hbw,hx⟩;exact⟨b,off,rfl,Nat.lt_of_lt_of_le hbw hb.size,fun j hj=>(hb.cell (p:=⟨b,off+j,none⟩) hbw).trans (hx j hj)⟩
  have hpo:PredOver prog 68 #[.pointer (some ⟨B,0,none⟩)] (Value.int .i64) (fun z=>(U1.map Int.ofNat).contains z) g 0 U2.length w:=fun n os dk x _=>by
   have hc:∀b,b<w.heap.size->b≠g->∀o,(sortWorld (Value.int .i64) w g 0 n dk os).cell? ⟨b,o,none⟩=w.cell? ⟨b,o,none⟩:=fun b hb hbg o=>by
    unfold sortWorld;rw [Sort.cell?_grow _ _ _ (by show b<(Sort.putRow _ _ _ _ _).heap.size;rw [Sort.size_putRow];exact hb),Sort.cell?_putRow_other _ _ g 0 _ _ (Or.inl hbg)];rfl
   refine MC _ v1 B x _ ((hc B hBl (Ne.symm hgB) 0).trans hB) ?_;obtain⟨k1,a,c,rfl,k2⟩:=h1;refine⟨k1,a,c,rfl,k2.imp id ?_⟩;rintro⟨b,off,rfl,hbw,hx⟩;refine⟨b,off,rfl, ?_,fun j hj=>(hc b hbw (fun e=>hn1 b rfl (by rw [e];rfl)) _).trans (hx j hj)⟩;unfold sortWorld;show b<(Sort.grow _ _).heap.size;have:(Sort.putRow (Value.int .i64) (Sort.ahead w n) g 0 dk).heap.size=w.heap.size:=by rw [Sort.size_putRow];rfl
   have:w.heap.size<=(Sort.grow (Sort.putRow (Value.int .i64) (Sort.ahead w n) g 0 dk) os).heap.size:=by
    show _<=((Sort.putRow (Value.int .i64) (Sort.ahead w n) g 0 dk).heap++os).size;rw [Array.size_append];omega
   omega
  have ho2:w.ownsRow base 3 1 (.slice (some ⟨g,0,none⟩) U2.length cap) U2.length ((U2.map Int.ofNat).map (Value.int .i64)):=by rw [<-Gi];exact ho
  obtain⟨g',cap',e1,-,-,-,-,-,hH⟩:=Lib.holds_of_ownsRow ho2 (by intro h;cases h);cases e1;have hsz:(U2.map Int.ofNat).toArray.size=U2.length:=by simp
  have hcon:=slices_DeleteFunc (Value.int .i64) (fun _=>rfl) (fun z=>(U1.map Int.ofNat).contains z) 68 #[.pointer (some ⟨B,0,none⟩)] TL 0 zeroValue3 g 0 cap (U2.map Int.ofNat).toArray w hpa (by rw [hsz];exact hpo) hH (by rw [hsz];omega) (by rw [hsz];exact hnc);rw [hsz]at hcon
  have hfl:((U2.map Int.ofNat).toArray.toList.filter fun x=>!(U1.map Int.ofNat).contains x)=(U2.filter fun k=>!U1.contains k).map Int.ofNat:=by
   show((U2.map Int.ofNat).filter fun x=>!(U1.map Int.ofNat).contains x)=_;rw [filter_map]
   congr 1
   apply filter_congr;intro k _;show(!(U1.map Int.ofNat).contains (Int.ofNat k))=!U1.contains k
   congr 1
   rw [Bool.eq_iff_iff,contains_iff_mem,contains_iff_mem,mem_map];constructor
   ·rintro⟨j,hj,e⟩;cases e;exact hj
   ·intro hj;exact⟨k,hj,rfl⟩
  rw [hfl,length_map]at hcon;have hfle:(U2.filter fun k=>!U1.contains k).length<=U2.length:=length_filter_le _ _;generalize(U2.filter fun k=>!U1.contains k)=V at *;refine hcon.mono ?_;rintro e w' ⟨rfl,q,rfl⟩;refine⟨_,rfl, ?_,⟨rfl,rfl,rfl,by simp [Sort.putRow,Sort.mapBlock,Sort.ahead],fun k _ hk=>?_⟩,fun b hb=>hb⟩
  ·have:=Lib.ownsRow_putRow (q:=q) (k:=V.length) (ys:=V.map Int.ofNat++List.replicate (U2.length-V.length) 0) ho2 zg hfle;rw [take_left' zd,<-Gi]at this;exact this
  ·have hkg:g≠k:=fun e=>hk (by rw [e];rfl);simp [Sort.putRow,Sort.mapBlock,Sort.ahead,Array.getElem?_modify,hkg]
theorem jy.grows{w w':World}{v:Value}{zs:List Int}(h:jy w v zs)(hg:w.Grows w'):jy w' v zs:=by
 obtain⟨hl,a,c,rfl,h0⟩:=h;refine⟨hl,a,c,rfl,h0.imp id ?_⟩;rintro⟨b,off,rfl,hb,hx⟩;exact⟨b,off,rfl,Nat.lt_of_lt_of_le hb hg.below.size,fun j hj=>(World.cell?_of_block (a:=⟨b,off+j,none⟩) (hg.below.block b hb)).trans (hx j hj)⟩
theorem jy.ints{w:World}{v:Value}{U:List Nat}(h:aD w v (U.map Int.ofNat))(hl:U.length<=1000):jy w v (U.map Int.ofNat):=by
 obtain⟨-,-,a,c,rfl,h0⟩:=h;exact⟨by rw [length_map];exact hl,a,c,rfl,h0⟩
theorem jy.own{w:World}{base:Nat}{v:Value}{U:List Nat}(h:w.ownsRow base 3 1 v U.length (nmV U))(hl:U.length<=1000):jy w v (U.map Int.ofNat):=by
 obtain⟨a,c,rfl,-,h0⟩:=rowForm3 h;refine⟨by rw [length_map];exact hl,a,c,by rw [length_map], ?_⟩;rw [length_map];refine h0.imp id ?_;rintro⟨b,rfl,-,-,hb⟩;refine⟨b,0,rfl,hb,fun j hj=>?_⟩;rw [Nat.zero_add];refine(h.cellAt j zb).trans ?_;unfold nmV;rw [getElem?_map,getElem?_eq_getElem hj,getD_eq_getElem?_getD,getElem?_map,getElem?_eq_getElem hj];rfl
theorem cg_bad(V:dK)(b x0 x1 x2:Int)(v3 v4 v5 v6 v7:Value)(w:World)(h:wh w V v3 v4 v5 v6 v7)(hnx:fP 2 w v3 V.cr.length/\fP 3 w v4 V.se.length)(hcp:iM v3/\iM v6/\iM v7)(hs:pY V)(ht:Tab w)(hv:bM V≠0) :
 Calls prog 27 #[.agg #[.int .i64 x0,.int .i64 x1,.int .i64 x2,v3,v4,v5,v6,v7],.int .i64 b] w (CmpP (bM V) [] [] w):=by
 have HV:=yq h;have HS:=yq hs;have HT:=yq ht;have HVE:=yq (fun w' (hg:w.Grows w')=>kU V x0 x1 x2 v3 v4 v5 v6 v7 w' (HV.out.grows hg) ⟨hnx.1.grows hg,hnx.2.grows hg⟩ hcp HS.out (HT.out.grows hg));obtain⟨-,a3,k3,rfl,-⟩:=h.cr;obtain⟨-,a4,k4,rfl,-⟩:=h.se;obtain⟨-,a5,k5,rfl,-⟩:=h.le;obtain⟨-,a6,k6,rfl,-⟩:=h.gr;obtain⟨-,a7,k7,rfl,-⟩:=h.re;simp only [length_map]at HVE ⊢;generalize bM V=c at *;have hc:(c !=0)=true:=by simpa using hv
 clear h hs hnx hcp ht hv
 go_enter func27,ntmps27
 go_wp2_with (go_at_call 64;refine gv (HVE.out _ growsR) ?_;intro bs d)
 go_returns
 exact Dr _ growsR
theorem cg_none(V:dK)(b x0 x1 x2:Int)(v3 v4 v5 v6 v7:Value)(w:World)(h:wh w V v3 v4 v5 v6 v7)(hnx:fP 2 w v3 V.cr.length/\fP 3 w v4 V.se.length)(hcp:iM v3/\iM v6/\iM v7)(hs:pY V)(ht:Tab w)(hv:bM V=0)(hno:∀j,j<V.gr.length->(V.gr.getD j default).1≠b) :
 Calls prog 27 #[.agg #[.int .i64 x0,.int .i64 x1,.int .i64 x2,v3,v4,v5,v6,v7],.int .i64 b] w (CmpP 9 [] [] w):=by
 have HV:=yq h;have HS:=yq hs;have HT:=yq ht;have HVE:=yq (fun w' (hg:w.Grows w')=>kU V x0 x1 x2 v3 v4 v5 v6 v7 w' (HV.out.grows hg) ⟨hnx.1.grows hg,hnx.2.grows hg⟩ hcp HS.out (HT.out.grows hg));obtain⟨-,a3,k3,rfl,-⟩:=h.cr;obtain⟨-,a4,k4,rfl,-⟩:=h.se;obtain⟨-,a5,k5,rfl,-⟩:=h.le;obtain⟨-,a6,k6,rfl,-⟩:=h.gr;obtain⟨-,a7,k7,rfl,-⟩:=h.re;simp only [length_map]at HVE ⊢;rw [hv]at HVE;have HNO:=yq hno;have HIX:=yq (fun w' (hg:w.Grows w') (hb:w'.heap[w.heap.size+1]? =some (.cells #[.int .i64 b] 3 (0,0)))=>uG 66 #[.pointer (some ⟨w.heap.size+1,0,none⟩)] QN (fun k=>decide ((V.gr.getD k default).1=b)) (.slice a6 V.gr.length k6) V.gr.length w' (FT 66 (HV.out.gr.grows hg) (Nat.le_refl _) _ _ (fun k hk a1 a2 a3 a4 a5 a6 a7 a8 a9 a10 a11 a12 w2 hg2=>tC (V.gr.getD k default).1 b a1 a2 a3 a4 a5 a6 a7 a8 a9 a10 a11 a12 (w.heap.size+1) w2 ((hg2.below.block _ (Array.getElem?_eq_some_iff.1 hb).1).trans hb))));clear h hs hnx hcp ht hv hno
 go_enter func27,ntmps27
 go_wp2_with (go_at_call 64;refine gv (HVE.out _ growsR) ?_;intro bs d)
 go_at_call 65
 refine(HIX.out _ growsR ((World.heap_grow _ _ _ yb).trans ((Below.heap_alloc _ _ _ yb).trans (heap_new _ _ _ zd)))).mono ?_;rintro e' w' ⟨⟨z,rfl,hz⟩,bs1,d1,rfl⟩;rcases hz with ⟨rfl,-⟩|⟨k,hk,-,hkb⟩
 ·go_wp2_with fail
  go_returns
  exact Dr _ growsR
 ·exact absurd (of_decide_eq_true hkb) (HNO.out k hk)
theorem GSl.zs{W8 wr:World}{g:Nat}{vS v:Value}{sl:List ByteArray}{zs:List Int}(h:GSl W8 g vS sl wr)(hz:jy W8 v zs)(hn:∀bb,v.ownBlock=some bb->bb≠g):jy wr v zs:=by
 obtain⟨hl,a,c,rfl,h0⟩:=hz;refine⟨hl,a,c,rfl,h0.imp id ?_⟩;rintro⟨b,off,rfl,hb,hx⟩;exact⟨b,off,rfl,Nat.lt_of_lt_of_le hb h.ext.size,fun j hj=>(World.cell?_of_block (a:=⟨b,off+j,none⟩) (h.ext.block b hb zV (hn b rfl))).trans (hx j hj)⟩
theorem GSl.push2{W8 wr W w1:World}{g:Nat}{vS:Value}{sl:List ByteArray}(h:GSl W8 g vS sl wr)(s t:ByteArray){gg n c H:Nat}(hn:n=sl.length+2)(hg:wr.Grows W)(hgr:W.grownBy w1 vS.ownBlock)(ha:vS.ownBlock=some gg\/gg=H)(hH:wr.heap.size<=H)
 (ho:w1.ownsRow W8.heap.size 9 1 (.slice (some ⟨gg,0,none⟩) n c) n (slV sl++[.string s,.string t])):GSl W8 g (.slice (some ⟨gg,0,none⟩) n c) (sl++[s,t]) (w1.setCell ⟨g,1,none⟩ (.slice (some ⟨gg,0,none⟩) n c)):=by
 subst hn;have hx:=Ext.app (n:=sl.length+2) (c:=c) hg hgr ha hH;obtain⟨ty,hb⟩:=h.blk;have hgv:some g≠vS.ownBlock:=fun e=>by have:=(h.row.lt g e.symm).1;have:=h.gb;omega
 have hb1:=(hx.g.block g (Array.getElem?_eq_some_iff.1 hb).1 hgv).trans hb;refine⟨?_,⟨ty,Go.Joins.block_setCell hb1 _⟩,h.ext.trans ((bR.ext hx).set 1 _),h.gb⟩
 have ho2:w1.ownsRow W8.heap.size 9 1 (.slice (some ⟨gg,0,none⟩) (sl.length+2) c) (sl++[s,t]).length (slV (sl++[s,t])):=by
  rw [length_append];unfold slV;rw [map_append];exact ho
 exact l6 ho2 (kE w1 g 1 _) yV
structure KSt(S:Nat->Prop)(N G:Nat)(w W9:World)(vs:Value)(sl:List ByteArray)(v:Value)(L:List Ins)(wi:World):Prop where
 pre:bL S N W9.heap.size G wi v vs L sl
 gr:w.Grows wi
 old:∀b,b<W9.heap.size->b≠G->wi.heap[b]? =W9.heap[b]?
 le:W9.heap.size<=wi.heap.size
 g0:w.heap.size<=G
def QC(S:Nat->Prop)(N G:Nat)(w W9:World)(vs:Value)(sl:List ByteArray)(L:List Ins)(rv:Value)(e:Ending)(w':World):Prop:=∃a c,e= .returned rv/\KSt S N G w W9 vs sl (.slice a L.length c) L w'
section
variable {S : Nat -> Prop} {N G : Nat} {w W9 wi w1 : World} {vs v v1 : Value} {sl : List ByteArray} {L L1 : List Ins}
theorem KSt.step(h:KSt S N G w W9 vs sl v L wi)(h1:bL S N W9.heap.size G w1 v1 vs L1 sl)(hx:bR G wi w1 v v1):KSt S N G w W9 vs sl v1 L1 w1:=
 ⟨h1,h.pre.kept h.gr h.g0 hx,fun b hb hn=>(hx.block b (Nat.lt_of_lt_of_le hb h.le) (fun e=>by have:=(h.pre.pre.row.lt b e.symm).1;omega) hn).trans (h.old b hb hn),Nat.le_trans h.le hx.size,h.g0⟩
theorem KSt.grows(h:KSt S N G w W9 vs sl v L wi)(hg:wi.Grows w1):KSt S N G w W9 vs sl v L w1:=h.step (h.pre.grows hg) (bR.of hg)
theorem KSt.emit(h:KSt S N G w W9 vs sl v L wi)(op a:Int)(hl:L.length<=1000000):Calls prog 70 #[.pointer (some ⟨G,0,none⟩),.int .i64 op,.int .i64 a] wi (QC S N G w W9 vs sl (L++[⟨op,a,0,0⟩]) (.int .i64 (L.length:Nat))):=
 (jk op a h.pre hl).mono fun _ _ ⟨a,c,he,hp,hx⟩=>⟨a,c,he,h.step hp hx⟩
theorem KSt.patch(h:KSt S N G w W9 vs sl v L wi)(q c at_:Nat)(hl:L.length<=1000000)(hq:wi.cell? ⟨q,0,none⟩=some (.int .i64 (at_:Nat)))(hat:at_<L.length) :
 Calls prog 72 #[.pointer (some ⟨G,0,none⟩),.slice (some ⟨q,0,none⟩) 1 c] wi (QC S N G w W9 vs sl (eP L at_ (L.length:Nat)) (.tuple #[])):=
 (wN q c at_ h.pre hl hq hat).mono fun _ _ ⟨a,c,he,hp,hx⟩=>⟨a,c,he,h.step hp hx⟩
theorem KSt.define(h:KSt S N G w W9 vs sl v L wi)(e:Ex)(ve:Value)(nm:ByteArray)(hd:NG sl nm e)(ht:Tab w)(hr:ax (fun _=>True) w e ve)(hl:L.length+(codeF (slK sl) (aN e) L.length).length+1<=1000000) :
 Calls prog 49 #[.pointer (some ⟨G,0,none⟩),.string nm,exV e ve] wi (QC S N G w W9 vs sl (L++(codeF (slK sl) (aN e) L.length++[⟨4,slK sl nm,0,0⟩])) (.tuple #[])):=
 (uT e nm hd.1 h.pre h.gr ht (hr.grows h.gr) hd.2.1 hd.2.2.1 hd.2.2.2 hl).mono fun _ _ ⟨a,c,he,hp,hx⟩=>⟨a,c,he,h.step hp hx⟩
theorem KSt.defs(h:KSt S N G w W9 vs sl v L wi)(ls:List (ByteArray × Ex))(env:List (ByteArray × Int))(U:List Nat)(hU:∀i∈U,i<ls.length/\NG sl (ls.getD i default).1 (ls.getD i default).2)(vl vu:Value)(ht:Tab w)(hls:LetsAt w vl ls)(hz:jy W9 vu (U.map Int.ofNat))(hS:∀b,vu.ownBlock=some b->S b/\b≠G)
 (hl:L.length+(aj (U.map (eG sl ls env)) L.length).length<=1000000) :
 Calls prog 48 #[.pointer (some ⟨G,0,none⟩),vl,vu] wi (QC S N G w W9 vs sl (L++aj (U.map (eG sl ls env)) L.length) (.tuple #[])):=
 (MO ls env U hU h.pre h.gr h.g0 ht hls (by
  obtain⟨k1,a,c,rfl,k2⟩:=hz;refine⟨k1,a,c,rfl,k2.imp id ?_⟩;rintro⟨b,off,rfl,hb,hx⟩
  exact⟨b,off,rfl,(hS b rfl).1,Nat.lt_of_lt_of_le hb h.le,fun j hj=>(World.cell?_of_block (a:=⟨b,off+j,none⟩) (h.old b hb (hS b rfl).2)).trans (hx j hj)⟩) hl).mono fun _ _ ⟨a,c,he,hp,hx⟩=>⟨a,c,he,h.step hp hx⟩
end
theorem M5(p0 q0:List Dfn)(dE dF:Dfn)(x:Ins):aj (p0++[dE]) 0=aj p0 0++dE.code (aj p0 0).length/\
 (((aj (p0++[dE]) 0++[x])++[(⟨22,0,0,0⟩:Ins)])++aj (q0++[dF]) ((aj (p0++[dE]) 0++[x])++[(⟨22,0,0,0⟩:Ins)]).length=(((aj (p0++[dE]) 0++[x])++[(⟨22,0,0,0⟩:Ins)])++aj q0 ((aj (p0++[dE]) 0++[x])++[(⟨22,0,0,0⟩:Ins)]).length)++dF.code (((aj (p0++[dE]) 0++[x])++[(⟨22,0,0,0⟩:Ins)])++aj q0 ((aj (p0++[dE]) 0++[x])++[(⟨22,0,0,0⟩:Ins)]).length).length)/\
 eP (((aj (p0++[dE]) 0++[x])++[(⟨22,0,0,0⟩:Ins)])++aj (q0++[dF]) ((aj (p0++[dE]) 0++[x])++[(⟨22,0,0,0⟩:Ins)]).length) (aj (p0++[dE]) 0++[x]).length (((aj (p0++[dE]) 0++[x])++[(⟨22,0,0,0⟩:Ins)])++aj (q0++[dF]) ((aj (p0++[dE]) 0++[x])++[(⟨22,0,0,0⟩:Ins)]).length).length=aj (p0++[dE]) 0++dB (fun _=>[x]) (q0++[dF]) (aj (p0++[dE]) 0).length:=by
 refine⟨by rw [oC,Nat.zero_add], ?_, ?_⟩
 ·generalize(aj (p0++[dE]) 0++[x])++[(⟨22,0,0,0⟩:Ins)]=A;rw [oC,length_append,append_assoc]
 ·generalize aj (p0++[dE]) 0=A;have hl4:((A++[x])++[(⟨22,0,0,0⟩:Ins)]).length=A.length+1+1:=by simp
  rw [hl4];have:=tu (A++[x]) ⟨22,0,0,0⟩ (aj (q0++[dF]) (A.length+1+1)) ((((A++[x])++[(⟨22,0,0,0⟩:Ins)])++aj (q0++[dF]) (A.length+1+1)).length:Nat);rw [show(A++[x])++[(⟨22,0,0,0⟩:Ins)]++aj (q0++[dF]) (A.length+1+1)=(A++[x])++⟨22,0,0,0⟩::aj (q0++[dF]) (A.length+1+1)by rw [append_assoc];rfl]at this ⊢;rw [this];unfold dB;rw [append_assoc];simp only [length_append,length_cons,length_nil,cons_append,nil_append,Nat.zero_add]
  congr 5
  omega
theorem contains_nat(U:List Nat)(k:Nat):(U.map Int.ofNat).contains (k:Int)=U.contains k:=by
 rw [Bool.eq_iff_iff,contains_iff_mem,contains_iff_mem,mem_map];constructor
 ·rintro⟨j,hj,e⟩;obtain rfl:j=k:=Int.ofNat.inj e;exact hj
 ·intro hj;exact⟨k,hj,rfl⟩
theorem cgV_len(U1 U2:List Nat)(ls:List (ByteArray × Ex))(k:Nat)(hk:k<=ls.length)(h10:ls.length<=10):(((List.range k).filter fun i=>U1.contains i || U2.contains i).map fun i=>(ls.getD i default).1).length<=10:=by
 rw [length_map];have:=length_filter_le (fun i=>U1.contains i || U2.contains i) (List.range k);rw [length_range]at this;omega
theorem cgV_next(U1 U2:List Nat)(ls:List (ByteArray × Ex))(k:Nat):((List.range (k+1)).filter fun i=>U1.contains i || U2.contains i).map (fun i=>(ls.getD i default).1)=((List.range k).filter fun i=>U1.contains i || U2.contains i).map (fun i=>(ls.getD i default).1)++(if(U1.contains k || U2.contains k)=true then [(ls.getD k default).1]else []):=by
 rw [range_succ,filter_append,map_append]
 congr 1
 by_cases h:(U1.contains k || U2.contains k)=true
 ·rw [if_pos h,filter_cons,if_pos h];rfl
 ·rw [if_neg h,filter_cons,if_neg h];rfl
theorem slotG_useP(e f:Ex)(ls:List (ByteArray × Ex)):((List.range ls.length).filter fun i=>(usesL e ls).contains i || (useP e f ls).contains i).map (fun i=>(ls.getD i default).1)++[ifN,payN]=slotG e f ls:=by
 unfold slotG
 congr 2
 apply filter_congr;intro i _;rw [Bool.eq_iff_iff,Bool.or_eq_true,Bool.or_eq_true,contains_iff_mem,contains_iff_mem,contains_iff_mem];constructor
 ·rintro(h|h)
  ·exact .inl h
  ·exact .inr (useP_mem h).1
 ·rintro(h|h)
  ·exact .inl h
  ·exact useP_or h
theorem GM{ls:List (ByteArray × Ex)}{env:List (ByteArray × Int)}(hl:iP ls ls.length env)(e f:Ex){i:Nat}(h:i∈usesL e ls\/i∈useP e f ls):i<ls.length/\NG (slotG e f ls) (ls.getD i default).1 (ls.getD i default).2:=by
 have hil:i<ls.length:=by
  rcases h with h|h
  ·exact uses_lt h
  ·exact uses_lt (useP_mem h).1
 obtain⟨-,-,-,-,t5,t6,t7⟩:=jV (hl.ty i hil);refine⟨hil, ?_, ?_,t6,fun s hs hk=>?_⟩
 ·rcases h with h|h
  ·exact mU h
  ·exact oZ (useP_mem h).1
 ·unfold bB at t5;simp only [Bool.and_eq_true,decide_eq_true_eq]at t5;omega
 ·have hm:=nD _ hs;rcases hl.named (Nat.le_of_lt hil) (jF _ t6 (by rw [t7]) hm)with h0|⟨j,hj,rfl⟩
  ·exact absurd (qD hk) h0
  ·rcases h with h|h
   ·exact mU (jB h hj hm)
   ·exact oZ (jB (useP_mem h).1 hj hm)
theorem GL{ls:List (ByteArray × Ex)}{env:List (ByteArray × Int)}(hl:iP ls ls.length env)(e f x:Ex)(hx:x=e\/x=f){m:Int}{nm:ByteArray}(hn:nm∈slotG e f ls)(ht:aQ env x=(m,0)):NG (slotG e f ls) nm x:=by
 obtain⟨-,-,-,-,t5,t6,t7⟩:=jV ht;have htk:env.take ls.length=env:=take_of_length_le (by rw [hl.len];exact Nat.le_refl _);refine⟨hn, ?_,t6,fun s hs hk=>?_⟩
 ·unfold bB at t5;simp only [Bool.and_eq_true,decide_eq_true_eq]at t5;omega
 ·have hm:=nD _ hs;rcases hl.named (Nat.le_refl _) (by rw [htk];exact jF _ t6 (by rw [t7]) hm)with h0|⟨j,hj,rfl⟩
  ·exact absurd (qD hk) h0
  ·rcases hx with rfl|rfl
   ·exact mU (jA hj hm)
   ·exact oZ (jA hj hm)
theorem cg_hop{w:World}{bs:Array Obj}{d k:Nat}{o:Obj}(h:k<w.heap.size):((w.grow bs d).alloc o).heap[k]? =w.heap[k]?:=by rw [Below.heap_alloc _ _ _ (by simp;omega),World.heap_grow _ _ _ h]
theorem cg_sz{p:Prop}(h:p:=by simp<;>omega):p:=h
theorem cg_ok(V:dK)(b x0 x1 x2:Int)(v3 v4 v5 v6 v7:Value)(w:World)(h:wh w V v3 v4 v5 v6 v7)(hnx:fP 2 w v3 V.cr.length∧fP 3 w v4 V.se.length)(hcp:iM v3∧iM v6∧iM v7)(hs:pY V)(ht:Tab w)(h10:V.le.length≤10)(hv:bM V=0)(k:Nat)(hk:k<V.gr.length)(hkb:(V.gr.getD k default).1=b)(env:List (ByteArray × Int))(henv:(dn V.le).1=env) :
 Calls Tryz.prog 27 #[.agg #[.int .i64 x0,.int .i64 x1,.int .i64 x2,v3,v4,v5,v6,v7],.int .i64 b] w (CmpP 0 (uZ (V.gr.getD k default).2.1 (V.gr.getD k default).2.2 V.le env) (slotG (V.gr.getD k default).2.1 (V.gr.getD k default).2.2 V.le) w):=by
 have HV:=yq h
 have HS:=yq hs
 have HT:=yq ht
 have HVE:=yq (fun w' (hg:w.Grows w')=>kU V x0 x1 x2 v3 v4 v5 v6 v7 w' (HV.out.grows hg) ⟨hnx.1.grows hg,hnx.2.grows hg⟩ hcp HS.out (HT.out.grows hg))
 obtain⟨-,a3,k3,rfl,-⟩:=h.cr
 obtain⟨-,a4,k4,rfl,-⟩:=h.se
 obtain⟨-,a5,k5,rfl,-⟩:=h.le
 obtain⟨-,a6,k6,rfl,-⟩:=h.gr
 obtain⟨-,a7,k7,rfl,-⟩:=h.re
 simp only [List.length_map]at HVE ⊢
 rw [hv]at HVE
 have hvo:=G9.of hv
 rw [henv]at hvo
 have hap:=apart_first (vers_apart hv).1 hk hkb
 have HKK:=yq (show ∀j,j<V.gr.length→(V.gr.getD j default).1=b→j=k from fun j hj hjb=>by
  rcases Nat.lt_trichotomy j k with c|c|c
  ·exact absurd hjb (hap j c)
  ·exact c
  ·exact absurd hkb (apart_first (vers_apart hv).1 hj hjb k c))
 have HIX:=yq (fun w' (hg:w.Grows w') (hb:w'.heap[w.heap.size+1]? =some (.cells #[.int .i64 b] 3 (0,0)))=>uG 66 #[.pointer (some ⟨w.heap.size+1,0,none⟩)] QN (fun k=>decide ((V.gr.getD k default).1=b)) (.slice a6 V.gr.length k6) V.gr.length w' (FT 66 (HV.out.gr.grows hg) (Nat.le_refl _) _ _ (fun k hk a1 a2 a3 a4 a5 a6 a7 a8 a9 a10 a11 a12 w2 hg2=>tC (V.gr.getD k default).1 b a1 a2 a3 a4 a5 a6 a7 a8 a9 a10 a11 a12 (w.heap.size+1) w2 ((hg2.below.block _ (Array.getElem?_eq_some_iff.1 hb).1).trans hb))))
 obtain⟨-,a',c',hv',hx⟩:=HV.out.gr
 simp only [Value.slice.injEq,true_and]at hv'
 obtain⟨rfl,rfl⟩:=hv'
 rcases hx with hz|⟨bg,og,rfl,hbg,hx⟩
 ·omega
 obtain⟨u,u',hg⟩:=hx k hk
 have hm:=getD_mem hk
 have d1':(k:Int)<(V.gr.length:Int):=by omega
 have d2':¬(k:Int)<0:=by omega
 have d3':(0:Int)≤(k:Int):=by omega
 obtain⟨ty1,ty2⟩:=hvo.gr _ hm
 obtain⟨sz1,sz2⟩:=HS.out.gr _ hm
 obtain⟨q0,p0,p1,p2,p3,p4,p5,r0,r1,r2,r3,r4,r5,hra,hrb⟩:=hg
 obtain⟨ia,ic,rfl⟩:=hra.form0
 obtain⟨pa,pc,rfl⟩:=hrb.form0
 have HKB:=yq hkb
 have HNK:Hid ((∀j,j<V.gr.length→(fun j=>decide ((V.gr.getD j default).1=b)) j=false)→False):=yq (fun hno=>absurd hkb (of_decide_eq_false (hno k hk)))
 have HAP:=yq hap
 have HKL:=yq hk
 generalize V.gr.getD k default=g at *
 obtain⟨gb,E,F⟩:=g
 dsimp only at *
 have HUE:=yq (fun W (hg:w.Grows W)=>p9 E _ (.slice a5 V.le.length k5) V.le W (hra.grows hg) (HV.out.le.grows hg))
 have HUF:=yq (fun W (hg:w.Grows W)=>p9 F _ (.slice a5 V.le.length k5) V.le W (hrb.grows hg) (HV.out.le.grows hg))
 have HRA:=yq hra
 have HRB:=yq hrb
 have HLK:=yq hvo.ls
 have HTE:=yq ty1
 have HTF:=yq ty2
 have H10:=yq h10
 have HLE:=yq (show(usesL E V.le).length≤10 by have:=usesG_length (e:=E) (ls:=V.le) V.le.length;unfold usesL;omega)
 have HLF:=yq (show(usesL F V.le).length≤10 by have:=usesG_length (e:=F) (ls:=V.le) V.le.length;unfold usesL;omega)
 have HFI:Hid ((usesL F V.le).filter (fun i=>!(usesL E V.le).contains i)=useP E F V.le):=yq rfl
 unfold exV at HUE HUF
 clear h hs hnx hcp ht hv hra hrb ty1 ty2 hx hm hkb hap hvo henv
 go_enter Tryz.func27,Tryz.ntmps27
 go_wp2_with (go_at_call 64;refine(HVE.out _ growsR).mono ?_;rintro e' w' ⟨rfl,bs,d,rfl⟩)
 go_at_call 65
 refine(HIX.out _ growsR ((World.heap_grow _ _ _ (by simp;try omega)).trans ((Below.heap_alloc _ _ _ (by simp;try omega)).trans (heap_new _ _ _ (by simp))))).mono ?_
 rintro e' w' ⟨⟨z,rfl,hz⟩,bs1,d1,rfl⟩
 rcases hz with ⟨-,hno⟩|⟨k',hk',rfl,hkb'⟩
 ·exact(HNK.out hno).elim
 obtain rfl:=HKK.out k' hk' (of_decide_eq_true hkb')
 have hbgl:bg<w.heap.size:=hbg
 clear hk' hkb' HKK HNK HAP HIX HVE
 go_upto_region 9 with (go_at_call 47;refine(HUE.out _ growsR).mono ?_;rintro e' w' ⟨⟨xu,rfl,-,hown1⟩,bs3,d3,rfl⟩;have HO1:=yq hown1;obtain⟨ua,uc,rfl,-,-⟩:=rowForm3 hown1;clear hown1)
 have HZ1:=yq (jy.own (U:=usesL E V.le) HO1.out (by have:=HLE.out;omega))
 go_wp2_with (go_at_call 47;refine(HUF.out _ growsR).mono ?_;rintro e' w' ⟨⟨xf,rfl,-,hown2⟩,bs4,d4,rfl⟩;have HO2:=yq hown2;clear hown2)
 go_at_call 67
 refine(Qa (usesL E V.le) (usesL F V.le) (.slice ua (usesL E V.le).length uc) xf _ _ _ (by simp [go_sem]) (HZ1.out.grows growsR) (by have:=HLF.out;omega) HO2.out (fun e=>by have:=(HO2.out.lt _ e).1;simp at this;omega) (fun b h1 h2=>by have h3:=(HO1.out.lt _ h1).2;have h4:=(HO2.out.lt _ h2).1;simp at h3 h4;omega)).mono ?_
 rintro e' w9 ⟨xs,rfl,hownS,hgr,hsub⟩
 obtain⟨bs5,d5,rfl⟩:=World.Grows.grown ⟨bs4,d4,rfl⟩ hgr (fun k hk=>(HO2.out.lt k hk).1)
 rw [HFI.out]at hownS
 have HOS:=yq hownS
 have HSB:=yq (fun bb (hb:xs.ownBlock=some bb)=>(HO2.out.lt _ (hsub bb hb)).1)
 obtain⟨sa,sc,rfl,-,-⟩:=rowForm3 hownS
 clear hownS hgr hsub HO2 HUE HUF
 go_upto_region 11 with fail
 have n1:=HO1.out.lt
 have n2:=fun bb hb=>And.intro (HSB.out bb hb) (HOS.out.lt bb hb).2
 have hu10:=HLE.out
 have hp10:(useP E F V.le).length≤1000:=by have h1:(useP E F V.le).length≤(usesL F V.le).length:=List.length_filter_le _ _;have:=HLF.out;omega
 simp only [World.size_alloc,World.size_grow,Array.size_append]at n1 n2
 refine cutW (fun W=>(w.Grows W∧W.heap[w.heap.size]? =some ((.cells #[.int .i64 x0,.int .i64 x1,.int .i64 x2,.slice a3 V.cr.length k3,.slice a4 V.se.length k4,.slice a5 V.le.length k5,.slice (some ⟨bg,og,none⟩) V.gr.length k6,.slice a7 V.re.length k7] 82))∧W.heap[w.heap.size+1+1]? =some (.cells #[.slice none 0 0,.slice none 0 0] 58)∧W.heap[w.heap.size+1+1+1+(bs.size+bs1.size)]? =some (.cells #[.int .i64 gb,.int .i64 E.op,.int .i64 E.num,.int .i64 E.den,.int .i64 E.dim,.string E.name,.slice ia E.args.length ic,.int .i64 F.op,.int .i64 F.num,.int .i64 F.den,.int .i64 F.dim,.string F.name,.slice pa F.args.length pc] 86)∧
  W.heap[w.heap.size+1+1+1+(bs.size+bs1.size)+1+bs3.size]? =some (.cells #[.slice ua (usesL E V.le).length uc] 22)∧W.heap[w.heap.size+1+1+1+(bs.size+bs1.size)+1+bs3.size+1+bs5.size]? =some (.cells #[.slice none 0 0,.slice none 0 0] 111))∧jy W (.slice ua (usesL E V.le).length uc) ((usesL E V.le).map Int.ofNat)∧jy W (.slice sa (useP E F V.le).length sc) ((useP E F V.le).map Int.ofNat)) ?_ ?_
 ·exact⟨⟨growsR,(cg_hop cg_sz).trans ((cg_hop cg_sz).trans ((cg_hop cg_sz).trans ((Below.heap_alloc _ _ _ cg_sz).trans ((Below.heap_alloc _ _ _ cg_sz).trans (heap_new _ _ _ (by simp)))))),(cg_hop cg_sz).trans ((cg_hop cg_sz).trans ((cg_hop cg_sz).trans (heap_new _ _ _ (by simp)))),(cg_hop cg_sz).trans ((cg_hop cg_sz).trans (heap_new _ _ _ (by simp<;>omega))),(cg_hop cg_sz).trans (heap_new _ _ _ (by simp<;>omega)),heap_new _ _ _ (by simp<;>omega)⟩,HZ1.out.grows growsR,(jy.own HOS.out hp10).grows growsR⟩
 rintro W8 ⟨⟨k1,k2,k3',k4',k5',k6⟩,k7,k8⟩
 clear hu10 hp10 HZ1 HO1 HOS HSB HKB HKL
 have K1:=yq k1
 have K2:=yq k2
 have K3:=yq k3'
 have K4:=yq k4'
 have K5:=yq k5'
 have K6:=yq k6
 have K7:=yq k7
 have K8:=yq k8
 have hG8:=(Array.getElem?_eq_some_iff.1 k6).1
 have l1:w.heap.size+1+1<w.heap.size+1+1+1+(bs.size+bs1.size):=by omega
 have l2:w.heap.size+1+1+1+(bs.size+bs1.size)<w.heap.size+1+1+1+(bs.size+bs1.size)+1+bs3.size:=by omega
 have l3:w.heap.size+1+1+1+(bs.size+bs1.size)+1+bs3.size<w.heap.size+1+1+1+(bs.size+bs1.size)+1+bs3.size+1+bs5.size:=by omega
 clear k1 k2 k3' k4' k5' k6 k7 k8
 generalize w.heap.size+1+1+1+(bs.size+bs1.size)+1+bs3.size+1+bs5.size=G at *
 generalize w.heap.size+1+1+1+(bs.size+bs1.size)+1+bs3.size=FB at *
 generalize w.heap.size+1+1+1+(bs.size+bs1.size)=GB at *
 have N1:Hid (∀bb,(Value.slice ua (usesL E V.le).length uc).ownBlock=some bb→GB<bb∧bb<FB):=yq (fun bb hb=>by have:=n1 bb hb;omega)
 have N2:Hid (∀bb,(Value.slice sa (useP E F V.le).length sc).ownBlock=some bb→FB<bb∧bb<G):=yq (fun bb hb=>by have:=n2 bb hb;omega)
 clear n1 n2
 have HUI:=yq (fun i (hi:i∈usesL E V.le)=>GM HLK.out E F (.inl hi))
 have HUP:=yq (fun i (hi:i∈useP E F V.le)=>GM HLK.out E F (.inr hi))
 have HDI:=yq (GL HLK.out E F E (.inl rfl) lS HTE.out)
 have HDP:=yq (GL HLK.out E F F (.inr rfl) qj HTF.out)
 have HCL:=yq (codeG_len HLK.out H10.out HTE.out HTF.out)
 have HSW:=yq (slotG_words HLK.out H10.out (e:=E) (f:=F))
 have HSX:Hid (((List.range V.le.length).filter fun i=>(usesL E V.le).contains i || (useP E F V.le).contains i).map (fun i=>(V.le.getD i default).1)++[ifN,payN]=slotG E F V.le):=yq (slotG_useP E F V.le)
 have HCG:Hid (uZ E F V.le env=aj ((usesL E V.le).map (eG (slotG E F V.le) V.le env)++[AR (slotG E F V.le) env E ifN 1]) 0++dB (fun _=>[⟨3,(slK (slotG E F V.le) ifN:Nat),0,0⟩]) ((useP E F V.le).map (eG (slotG E F V.le) V.le env)++[AR (slotG E F V.le) env F payN 4]) (aj ((usesL E V.le).map (eG (slotG E F V.le) V.le env)++[AR (slotG E F V.le) env E ifN 1]) 0).length):=yq rfl
 have HLP:Hid ((useP E F V.le).length≤10):=yq (by have h1:(useP E F V.le).length≤(usesL F V.le).length:=List.length_filter_le _ _;have:=HLF.out;omega)
 clear HFI HLF
 generalize uZ E F V.le env=CG at *
 generalize slotG E F V.le=sl at *
 generalize usesL E V.le=U1 at *
 generalize useP E F V.le=U2 at *
 obtain⟨i1,hi1,hz11,hz21,hz31⟩:=info_parts infoStr
 have hb2:=K2.out
 have y5:=cell_of_row W8 _ 5 _ _ _ hb2
 have yl:=(Array.getElem?_eq_some_iff.1 hb2).1
 clear hb2
 have h10':(V.le.length:Int)≤10:=by omega
 go_wp2_with fail
 go_loopw [49] (fun v49 wr=>∃k:Nat,k≤V.le.length∧v49= .int .i64 k∧∃vS,Hid (GSl W8 G vS (((List.range k).filter fun i=>U1.contains i || U2.contains i).map fun i=>(V.le.getD i default).1) wr)) (fun v49 _=>V.le.length-(intOf v49).toNat)
 case atStart=>exact⟨0,by omega,rfl,_,yq (by simpa using GSl.start K6.out)⟩
 case round=>
  obtain⟨k,hk,rfl,vS,HS⟩:=hrel
  have hgr:=HS.out.ext.kept0 K1.out (by omega) (by rintro b ⟨⟩)
  have hcv:=cgV_len U1 U2 V.le k hk h10
  obtain⟨sa2,sc2,rfl,-,-⟩:=rowForm3 HS.out.row
  by_cases hlt:k<V.le.length
  ·obtain⟨-,a2,c2,hv2,hz|⟨lb,lo,hla,hlb,hs⟩⟩:=HV.out.le.grows hgr
   ·omega
   simp only [Value.slice.injEq]at hv2
   obtain⟨rfl,-,rfl⟩:=hv2
   obtain rfl:=hla
   obtain⟨ux,hsl⟩:=hs k hlt
   obtain⟨xa,xc,rfl⟩:=hsl.rep.form0
   obtain⟨e0,e1,e2,e3,e4,e5,e6,-⟩:=hsl
   have hfb:=(HS.out.ext.block FB (by omega) (by rintro⟨⟩) (by omega)).trans K5.out
   have f0:=cell_of_row wr _ 0 _ _ _ hfb
   have fl:=(Array.getElem?_eq_some_iff.1 hfb).1
   have HC1:=yq (fun W (hg:wr.Grows W)=>jP _ _ (k:Int) W ((HS.out.zs K7.out (fun bb hb=>by have:=N1.out bb hb;omega)).grows hg))
   have HC2:=yq (fun W (hg:wr.Grows W)=>jP _ _ (k:Int) W ((HS.out.zs K8.out (fun bb hb=>by have:=N2.out bb hb;omega)).grows hg))
   rw [contains_nat]at HC1 HC2
   have d1:(k:Int)<(V.le.length:Int):=by omega
   have HLT:=yq hlt
   have hbl:lb<wr.heap.size:=hlb
   have hnx:=cgV_next U1 U2 V.le k
   have c1:=HS.out.c1
   have hgl:=HS.out.glt
   have hf1:=HS.out.f 1
   have HROW:=yq HS.out.row
   have HBW:=yq HS.out.ext.size
   have HCV:=yq hcv
   generalize(V.le.getD k default).1=nm at *
   generalize(V.le.getD k default).2=bd at *
   generalize((List.range k).filter fun i=>U1.contains i || U2.contains i).map (fun i=>(V.le.getD i default).1)=nms at *
   generalize hn2:((List.range (k+1)).filter fun i=>U1.contains i || U2.contains i).map (fun i=>(V.le.getD i default).1)=nms2 at hnx
   have HN2:=yq hn2
   clear hn2 hgr hs hfb hlt hk hcv
   by_cases hp:(U1.contains k || U2.contains k)=true
   ·rw [if_pos hp]at hnx
    have HNX:=yq hnx
    clear hnx
    cases q1:U1.contains k with
    |true=>
     rw [q1]at HC1
     clear HC2 hp q1
     go_upto_region 15 with (first
      |(go_at_call 69;refine(HC1.out _ growsR).mono ?_;rintro e w' ⟨rfl,rfl⟩)
      |(go_at_call 69;refine(HC2.out _ growsR).mono ?_;rintro e w' ⟨rfl,rfl⟩))
     go_wp2_with (at_builtin;refine wpList_append_lies _ rfl _ _ 56 rfl W8.heap.size 9 i1 _ 1 16 Tryz.underlying56 hi1 hz11 hz21 hz31 rfl (by decide) (.slice sa2 nms.length sc2) nms.length (slV nms) rfl (own_grow9 HROW.out growsR) ⟨_,0,none⟩ 1 1 [.string nm] rfl rfl (news_cells _ [.string nm] _ _ (by simp)) (by intro u hu;simp at hu;subst hu;rfl) (by decide) (by unfold maxLen;have:=HCV.out;omega) (by have:=HCV.out;omega) (by have:=HBW.out;simp;omega) _ rfl ?_;intro g6 c6 w6 hown hgrow hgg hgl6;obtain⟨r1,r2,r3⟩:=HS.out.ready growsR hgrow;have h6:=HS.out.push nm (n:=nms.length+1) rfl growsR hgrow hgg (by simp<;>omega) hown;rw [←HNX.out]at h6;have H6:=yq h6;clear hown hgrow hgg hgl6 h6)
     go_roundw
     case rel=>exact⟨k+1,HLT.out,by go_num,_,by rw [HN2.out];exact H6⟩
     case measure=>simp [intOf];have:=HLT.out;omega
    |false=>
     have q2:U2.contains k=true:=by rw [q1]at hp;exact hp
     rw [q1]at HC1
     rw [q2]at HC2
     clear hp q1 q2
     go_upto_region 15 with (first
      |(go_at_call 69;refine(HC1.out _ growsR).mono ?_;rintro e w' ⟨rfl,rfl⟩)
      |(go_at_call 69;refine(HC2.out _ growsR).mono ?_;rintro e w' ⟨rfl,rfl⟩))
     go_wp2_with (at_builtin;refine wpList_append_lies _ rfl _ _ 56 rfl W8.heap.size 9 i1 _ 1 16 Tryz.underlying56 hi1 hz11 hz21 hz31 rfl (by decide) (.slice sa2 nms.length sc2) nms.length (slV nms) rfl (own_grow9 HROW.out growsR) ⟨_,0,none⟩ 1 1 [.string nm] rfl rfl (news_cells _ [.string nm] _ _ (by simp)) (by intro u hu;simp at hu;subst hu;rfl) (by decide) (by unfold maxLen;have:=HCV.out;omega) (by have:=HCV.out;omega) (by have:=HBW.out;simp;omega) _ rfl ?_;intro g6 c6 w6 hown hgrow hgg hgl6;obtain⟨r1,r2,r3⟩:=HS.out.ready growsR hgrow;have h6:=HS.out.push nm (n:=nms.length+1) rfl growsR hgrow hgg (by simp<;>omega) hown;rw [←HNX.out]at h6;have H6:=yq h6;clear hown hgrow hgg hgl6 h6)
     go_roundw
     case rel=>exact⟨k+1,HLT.out,by go_num,_,by rw [HN2.out];exact H6⟩
     case measure=>simp [intOf];have:=HLT.out;omega
   ·rw [if_neg hp,List.append_nil]at hnx
    rw [Bool.not_eq_true,Bool.or_eq_false_iff]at hp
    rw [hp.1]at HC1
    rw [hp.2]at HC2
    have HNX:=yq hnx
    clear hnx hp
    go_wp2_with (first
     |(go_at_call 69;refine(HC1.out _ growsR).mono ?_;rintro e w' ⟨rfl,rfl⟩)
     |(go_at_call 69;refine(HC2.out _ growsR).mono ?_;rintro e w' ⟨rfl,rfl⟩))
    go_roundw
    case rel=>exact⟨k+1,HLT.out,by go_num,_,by rw [HN2.out,HNX.out];exact yq (HS.out.grows growsR)⟩
    case measure=>simp [intOf];have:=HLT.out;omega
  ·obtain rfl:k=V.le.length:=by omega
   have c1:=HS.out.c1
   have hgl:=HS.out.glt
   have hf1:=HS.out.f 1
   have HROW:=yq HS.out.row
   have HBW:=yq HS.out.ext.size
   have HCV:=yq hcv
   have hsx:=HSX.out
   generalize((List.range V.le.length).filter fun i=>U1.contains i || U2.contains i).map (fun i=>(V.le.getD i default).1)=nms at *
   clear hgr hk hlt hcv
   go_upto_region 18 with (at_builtin;refine wpList_append_lies _ rfl _ _ 56 rfl W8.heap.size 9 i1 _ 1 16 Tryz.underlying56 hi1 hz11 hz21 hz31 rfl (by decide) (.slice sa2 nms.length sc2) nms.length (slV nms) rfl (own_grow9 HROW.out growsR) ⟨_,0,none⟩ 2 2 [.string ifN,.string payN] rfl rfl (news_cells _ [.string ifN,.string payN] _ _ (by simp)) (by intro u hu;simp at hu;rcases hu with rfl|rfl<;>rfl) (by decide) (by unfold maxLen;have:=HCV.out;omega) (by have:=HCV.out;omega) (by have:=HBW.out;simp;omega) _ rfl ?_;intro g6 c6 w6 hown hgrow hgg hgl6;obtain⟨r1,r2,r3⟩:=HS.out.ready growsR hgrow;have h6:=HS.out.push2 ifN payN (n:=nms.length+2) rfl growsR hgrow hgg (by simp<;>omega) hown;rw [hsx]at h6;have H6:=yq h6;clear hown hgrow hgg hgl6 h6)
   refine cutW (fun W=>GSl W8 G (.slice (some ⟨g6,0,none⟩) (nms.length+2) c6) sl W) H6.out ?_
   intro W9 h9
   have HSN:Hid (∀s∈sl,s.size≤maxLen):=yq (by
    intro s hs
    have hw:=HSW.out.1
    unfold eO at hw
    simp only [Bool.and_eq_true,decide_eq_true_eq,List.all_eq_true]at hw
    have:=hw.1.2 s hs
    unfold isWord at this
    simp only [Bool.and_eq_true,decide_eq_true_eq]at this
    unfold maxLen;omega)
   have hp9:=h9.pre (fun bb=>(Value.slice ua U1.length uc).ownBlock=some bb∨(Value.slice sa U2.length sc).ownBlock=some bb) (fun bb hb=>by
    rcases hb with hb|hb
    ·have:=N1.out bb hb;omega
    ·have:=N2.out bb hb;omega) (by have:=HSW.out.2;omega) HSN.out
   have hg9:=h9.ext.kept0 K1.out (by omega) (by rintro b ⟨⟩)
   have h0:KSt _ W9.heap.size G w W9 (.slice (some ⟨g6,0,none⟩) (nms.length+2) c6) sl (.slice none 0 0) [] W9:=⟨hp9,hg9,fun _ _ _=>rfl,Nat.le_refl _,by omega⟩
   have hle9:=h9.ext.size
   have B0:=yq ((h9.ext.block w.heap.size (by omega) (by rintro⟨⟩) (by omega)).trans K2.out)
   have B1:=yq ((h9.ext.block FB (by omega) (by rintro⟨⟩) (by omega)).trans K5.out)
   have B2:=yq ((h9.ext.block GB (by omega) (by rintro⟨⟩) (by omega)).trans K4.out)
   have B3:=yq ((h9.ext.block (w.heap.size+1+1) (by omega) (by rintro⟨⟩) (by omega)).trans K3.out)
   obtain⟨q1,q2,q3⟩:=M5 (U1.map (eG sl V.le env)) (U2.map (eG sl V.le env)) (AR sl env E ifN 1) (AR sl env F payN 4) ⟨3,(slK sl ifN:Nat),0,0⟩
   have q4:=HCG.out.trans q3.symm
   have hcl:=HCL.out
   rw [q4,iA]at hcl
   obtain⟨L1,hL1⟩:∃x,x=aj (U1.map (eG sl V.le env)) 0:=⟨_,rfl⟩
   obtain⟨L2,hL2⟩:∃x,x=aj (U1.map (eG sl V.le env)++[AR sl env E ifN 1]) 0:=⟨_,rfl⟩
   rw [←hL1,←hL2]at q1
   rw [←hL2]at q2 q4 hcl
   obtain⟨L3,hL3⟩:∃x,x=L2++[(⟨3,(slK sl ifN:Nat),0,0⟩:Ins)]:=⟨_,rfl⟩
   rw [←hL3]at q2 q4 hcl
   obtain⟨L4,hL4⟩:∃x,x=L3++[(⟨22,0,0,0⟩:Ins)]:=⟨_,rfl⟩
   rw [←hL4]at q2 q4 hcl
   obtain⟨L5,hL5⟩:∃x,x=L4++aj (U2.map (eG sl V.le env)) L4.length:=⟨_,rfl⟩
   rw [←hL5]at q2
   obtain⟨L6,hL6⟩:∃x,x=L4++aj (U2.map (eG sl V.le env)++[AR sl env F payN 4]) L4.length:=⟨_,rfl⟩
   rw [←hL6]at q2 q4 hcl
   have q1':L2=L1++(codeF (slK sl) (aN E) L1.length++[⟨4,(slK sl ifN:Nat),0,0⟩]):=q1
   have q2':L6=L5++(codeF (slK sl) (aN F) L5.length++[⟨4,(slK sl payN:Nat),0,0⟩]):=q2
   have n2:L2.length=L1.length+((codeF (slK sl) (aN E) L1.length).length+1):=by rw [q1',List.length_append,List.length_append];rfl
   have n3:L3.length=L2.length+1:=by rw [hL3,List.length_append];rfl
   have n4:L4.length=L3.length+1:=by rw [hL4,List.length_append];rfl
   have n5:L5.length=L4.length+(aj (U2.map (eG sl V.le env)) L4.length).length:=by rw [hL5,List.length_append]
   have n6:L6.length=L5.length+((codeF (slK sl) (aN F) L5.length).length+1):=by rw [q2',List.length_append,List.length_append];rfl
   have HLN:Hid (L2.length=L1.length+((codeF (slK sl) (aN E) L1.length).length+1)∧L3.length=L2.length+1∧L4.length=L3.length+1∧L5.length=L4.length+(aj (U2.map (eG sl V.le env)) L4.length).length∧L6.length=L5.length+((codeF (slK sl) (aN F) L5.length).length+1)∧L6.length≤4000):=yq ⟨n2,n3,n4,n5,n6,hcl⟩
   have Q1:=yq q1'
   have Q2:=yq q2'
   have E3:=yq hL3
   have E4:=yq hL4
   have E5:=yq hL5
   have HCQ:=yq q4
   have HIS:Hid (pK sl ifN=(slK sl ifN:Nat)):=yq (by unfold pK;rw [if_pos (List.any_eq_true.2 ⟨ifN,HDI.out.1,by simp⟩)])
   have zz2:=h9.zs K8.out (fun bb hb=>by have:=N2.out bb hb;omega)
   have Z2:=yq zz2
   have HK1:=yq (h0.defs V.le env U1 HUI.out (.slice a5 V.le.length k5) _ HT.out HV.out.le (h9.zs K7.out (fun bb hb=>by have:=N1.out bb hb;omega)) (fun bb hb=>⟨.inr (.inl hb),by have:=N1.out bb hb;omega⟩) (by rw [List.length_nil,←hL1];omega))
   rw [List.length_nil,List.nil_append,←hL1]at HK1
   have HROW9:=yq h9.row
   have L9:=yq hle9
   clear q1 q1' q2 q2' q3 q4 n2 n3 n4 n5 n6 hL1 hL2 hL3 hL4 hL5 hL6 hcl h0 hp9 hg9 zz2 h9 H6 HS c1 hgl hf1 HROW HBW HCV hsx r1 r2 r3 K2 K3 K4 K5 K6 K7 K8 y5 yl HCG HCL
   have b0:=B0.out
   have b1:=B1.out
   have y5:=cell_of_row W9 _ 5 _ _ _ b0
   have f0:=cell_of_row W9 _ 0 _ _ _ b1
   have yl:=(Array.getElem?_eq_some_iff.1 b0).1
   have fl:=(Array.getElem?_eq_some_iff.1 b1).1
   clear b0 b1
   go_upto_region 19 with (go_at_call 48;refine HK1.out.mono ?_;rintro e' w1 ⟨a1,c1,rfl,h1⟩;have H1:=yq h1;clear h1)
   clear y5 f0 yl fl HK1
   have HK2:=yq (H1.out.define E _ ifN HDI.out HT.out HRA.out (by have:=HLN.out;omega))
   rw [←Q1.out]at HK2
   unfold exV at HK2
   have b2:=(H1.out.old GB (by have:=L9.out;omega) (by omega)).trans B2.out
   have p1:=cell_of_row w1 _ 1 _ _ _ b2
   have p2:=cell_of_row w1 _ 2 _ _ _ b2
   have p3:=cell_of_row w1 _ 3 _ _ _ b2
   have p4:=cell_of_row w1 _ 4 _ _ _ b2
   have p5:=cell_of_row w1 _ 5 _ _ _ b2
   have p6:=cell_of_row w1 _ 6 _ _ _ b2
   have pl:=(Array.getElem?_eq_some_iff.1 b2).1
   clear b2
   go_upto_region 20 with (go_at_call 49;refine HK2.out.mono ?_;rintro e' w2 ⟨a2,c2,rfl,h2⟩;have H2:=yq h2;clear h2)
   clear p1 p2 p3 p4 p5 p6 pl HK2
   have s1:=H2.out.pre.c1
   have sgl:=H2.out.pre.glt
   go_upto_region 21 with (first
    |(go_at_call 71;refine(kD sl ifN _ _ H2.out.pre.pre.sl.txt).mono ?_;rintro e' w' ⟨rfl,⟨bs3,d3,rfl⟩⟩;rw [HIS.out])
    |(go_at_call 70;refine((H2.out.grows growsR).emit 3 (slK sl ifN:Nat) (by have:=HLN.out;omega)).mono ?_;rintro e' w3 ⟨a3',c3,rfl,h3⟩;rw [←E3.out]at h3;have H3:=yq h3;clear h3))
   clear s1 sgl
   go_upto_region 22 with (go_at_call 70;refine(H3.out.emit 22 0 (by have:=HLN.out;omega)).mono ?_;rintro e' w4 ⟨a4',c4,rfl,h4⟩;rw [←E4.out]at h4;have H4:=yq h4;clear h4)
   have HK5:=yq (H4.out.defs V.le env U2 HUP.out (.slice a5 V.le.length k5) _ HT.out HV.out.le Z2.out (fun bb hb=>⟨.inr (.inr hb),by have:=N2.out bb hb;omega⟩) (by have:=HLN.out;omega))
   rw [←E5.out]at HK5
   have b0:=(H4.out.old w.heap.size (by have:=L9.out;omega) (by omega)).trans B0.out
   have y5:=cell_of_row w4 _ 5 _ _ _ b0
   have yl:=(Array.getElem?_eq_some_iff.1 b0).1
   clear b0
   go_upto_region 23 with (go_at_call 48;refine HK5.out.mono ?_;rintro e' w5 ⟨a5',c5,rfl,h5⟩;have H5:=yq h5;clear h5)
   clear y5 yl HK5
   have HK6:=yq (H5.out.define F _ payN HDP.out HT.out HRB.out (by have:=HLN.out;omega))
   rw [←Q2.out]at HK6
   unfold exV at HK6
   have b2:=(H5.out.old GB (by have:=L9.out;omega) (by omega)).trans B2.out
   have p1:=cell_of_row w5 _ 7 _ _ _ b2
   have p2:=cell_of_row w5 _ 8 _ _ _ b2
   have p3:=cell_of_row w5 _ 9 _ _ _ b2
   have p4:=cell_of_row w5 _ 10 _ _ _ b2
   have p5:=cell_of_row w5 _ 11 _ _ _ b2
   have p6:=cell_of_row w5 _ 12 _ _ _ b2
   have pl:=(Array.getElem?_eq_some_iff.1 b2).1
   clear b2
   go_upto_region 24 with (go_at_call 49;refine HK6.out.mono ?_;rintro e' w6' ⟨a6',c6',rfl,h6⟩;have H6:=yq h6;clear h6)
   clear p1 p2 p3 p4 p5 p6 pl HK6
   go_upto_region 25 with (go_at_call 72;refine((H6.out.grows growsR).patch _ _ L3.length (by have:=HLN.out;omega) (cell_of_row _ _ 0 _ _ _ (heap_alloc_new _ _)) (by have:=HLN.out;omega)).mono ?_;rintro e' w7 ⟨a7',c7,rfl,h7⟩;have H7:=yq h7;clear h7)
   have hbx:=(H7.out.old (w.heap.size+1+1) (by have:=L9.out;omega) (by omega)).trans B3.out
   have hbl2:=(Array.getElem?_eq_some_iff.1 hbx).1
   have y0:=cell_of_row w7 _ 0 _ _ _ hbx
   have y1:=cell_of_row w7 _ 1 _ _ _ hbx
   have f0:=Go.Joins.unfrozen_of_block hbx 0
   have f1:=Go.Joins.unfrozen_of_block hbx 1
   have z0:=H7.out.pre.c0
   have z1:=H7.out.pre.c1
   have hgl2:=H7.out.pre.glt
   have hne:G≠w.heap.size+1+1:=by omega
   have HFN:Hid (∀w',w'=(w7.setCell ⟨w.heap.size+1+1,0,none⟩ (.slice a7' (eP L6 L3.length (L6.length:Nat)).length c7)).setCell ⟨w.heap.size+1+1,1,none⟩ (.slice (some ⟨g6,0,none⟩) (nms.length+2) c6)→CmpP 0 CG sl w (.returned (.tuple #[.agg #[.slice a7' (eP L6 L3.length (L6.length:Nat)).length c7,.slice (some ⟨g6,0,none⟩) (nms.length+2) c6],.int .i64 0])) w'):=yq (by
    intro w' hw'
    have s1:=kE w7 (w.heap.size+1+1) 0 (.slice a7' (eP L6 L3.length (L6.length:Nat)).length c7)
    have s2:=kE (w7.setCell ⟨w.heap.size+1+1,0,none⟩ (.slice a7' (eP L6 L3.length (L6.length:Nat)).length c7)) (w.heap.size+1+1) 1 (.slice (some ⟨g6,0,none⟩) (nms.length+2) c6)
    rw [←hw']at s2
    have h9:=L9.out
    refine⟨_,_,W9.heap.size,W8.heap.size,rfl,World.Grows.grown (World.Grows.grown H7.out.gr s1 (by rintro k ⟨⟩;omega)) s2 (by rintro k ⟨⟩;omega), ?_, ?_⟩
    ·have hr:=H7.out.pre.pre.row
     rw [HCQ.out]
     unfold kW at hr ⊢
     have hlo:∀b,(some (w.heap.size+1+1))=some b→(Value.slice a7' (eP L6 L3.length (L6.length:Nat)).length c7).ownBlock≠some b:=by rintro b ⟨⟩ e;have:=(hr.lt _ e).1;omega
     exact l6 (l6 hr s1 hlo) s2 hlo
    ·have hr:=HROW9.out
     have hlo:∀b,(some (w.heap.size+1+1))=some b→(Value.slice (some ⟨g6,0,none⟩) (nms.length+2) c6).ownBlock≠some b:=by rintro b ⟨⟩ e;have:=(hr.lt _ e).1;omega
     have hr2:=BM (w':=w7) hr (fun b hb=>H7.out.old b (hr.lt b hb).2 (H7.out.pre.gS b (.inl hb)))
     exact l6 (l6 hr2 s1 hlo) s2 hlo)
   have HBX:=yq hbx
   clear hbx
   generalize(eP L6 L3.length (L6.length:Nat)).length=N at *
   go_wp2_with fail
   obtain⟨wf,hwf⟩:∃x,x=(w7.setCell ⟨w.heap.size+1+1,0,none⟩ (.slice a7' N c7)).setCell ⟨w.heap.size+1+1,1,none⟩ (.slice (some ⟨g6,0,none⟩) (nms.length+2) c6):=⟨_,rfl⟩
   rw [←hwf]
   have hC:=HFN.out wf hwf
   have hb9:wf.heap[w.heap.size+1+1]? =some (.cells #[.slice a7' N c7,.slice (some ⟨g6,0,none⟩) (nms.length+2) c6] 58 (0,0)):=by
    rw [hwf];exact Go.Joins.block_setCell (Go.Joins.block_setCell HBX.out _) _
   have u0:wf.cell? ⟨w.heap.size+1+1,0,none⟩=some (.slice a7' N c7):=cell_of_row wf _ 0 _ _ _ hb9
   have u1:wf.cell? ⟨w.heap.size+1+1,1,none⟩=some (.slice (some ⟨g6,0,none⟩) (nms.length+2) c6):=cell_of_row wf _ 1 _ _ _ hb9
   have HC:=yq hC
   clear hwf hb9 hC y0 y1 f0 f1 z0 z1
   (try simp only [Exit.inBlock,Exit.then])
   refine bodyPost_ret (by simp [results,Tryz.results27,go_sem,u0,u1];try rfl) rfl ?_
   exact HC.out
end Go.Proofs.YtfoefpoaomepbaaGreatDoor
