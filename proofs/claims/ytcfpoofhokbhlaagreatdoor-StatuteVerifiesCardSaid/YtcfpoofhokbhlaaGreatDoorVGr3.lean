import Derived.Test.YtcfpoofhokbhlaaGreatDoorVLt2
import Derived.Test.YtcfpoofhokbhlaaGreatDoorVStpW
set_option linter.all false
set_option maxHeartbeats 16000000
set_option maxRecDepth 1000000
namespace Go.Proofs.YtcfpoofhokbhlaaGreatDoor
open Go.Proofs.Tryz Tryz List
open Go.RowKit
def ku(V:dH)(v:Vw):Int:=if v.ok=false then 1 else bF V
theorem Ju(V:dH)(v:Vw)(y:Value)(x0 x1 x2:Int)(v3 v4 v5 v6 v7:Value)(w:World)(h:vw w V v3 v4 v5 v6 v7)(hnx:gT 2 w v3 V.cr.length/\gT 3 w v4 V.se.length)(hcp:je v3/\je v6/\je v7)(hs:lI V)(ht:Tab w)(hrng:dV v)(hY:bI w y v.years) :
 Calls prog 39 #[.agg #[.int .i64 x0,.int .i64 x1,.int .i64 x2,v3,v4,v5,v6,v7],vwV v y] w fun e w'=>e= .returned (.int .i64 (ku V v))/\w.Grows w':=by
 have HV:=yq h;have HN:=yq hnx;have HCP:=yq hcp;have HS:=yq hs;have HT:=yq ht;have HY:=yq hY;have HVW:=yq (fun w' (hg:w.Grows w')=>jN v y w' hrng (HY.out.grows hg));have HVR:=yq (fun w' (hg:w.Grows w')=>AR V x0 x1 x2 v3 v4 v5 v6 v7 w' (HV.out.grows hg) ⟨HN.out.1.grows hg,HN.out.2.grows hg⟩ HCP.out HS.out (HT.out.grows hg));obtain⟨-,a3,k3,rfl,-⟩:=h.cr;obtain⟨-,a4,k4,rfl,-⟩:=h.se;obtain⟨-,a5,k5,rfl,-⟩:=h.le;obtain⟨-,a6,k6,rfl,-⟩:=h.gr;obtain⟨-,a7,k7,rfl,-⟩:=h.re;obtain⟨-,ya,yc,rfl,-⟩:=hY;unfold vwV at HVW;unfold vwV;simp only [length_map]at HVR ⊢;clear h hnx hcp hs ht hrng
 cases hok:v.ok with
 |false=>
  have HF:Hid (ku V v=1):=yq (by unfold ku;rw [if_pos hok]);rw [hok]at HVW;clear hok
  go_enter func39,ntmps39
  go_wp2_with (go_at_call 63;refine gvq (HVW.out _ ag) ?_;intro bs d)
  go_returns
  exact⟨by rw [HF.out]<;>rfl,ag⟩
 |true=>
  have HF:Hid (ku V v=bF V):=yq (by unfold ku;rw [if_neg (by rw [hok];simp)]);rw [hok]at HVW;clear hok
  go_enter func39,ntmps39
  go_wp2_with (first|(go_at_call 63;refine gvq (HVW.out _ ag) ?_;intro bs d)|(go_at_call 64;refine gvq (HVR.out _ ag) ?_;intro bs2 d2))
  go_returns
  exact⟨by rw [HF.out]<;>rfl,ag⟩
theorem BN(v:Vw)(y:Value)(st:List (ByteArray × Val))(p:ByteArray × Val)(vb:Value)(X:Nat)(w:World)(hev:w.heap[X]? =some (.cells (evC v y vb) 119 (0,0)))(hst:bi w vb (st++[p])) :
 Calls prog 43 #[.pointer (some ⟨X,0,none⟩)] w fun e w'=>e= .returned (dY p.2)/\w.Grows w':=by
 obtain⟨h1000,a,cap,rfl,h0|⟨b,off,rfl,hb,hc⟩⟩:=hst
 ·simp at h0
 obtain⟨s0,s1,s2,s3,s4⟩:=hc st.length zg;have e1:stV (st++[p]) st.length=p.2:=by simp [stV,getD_eq_getElem?_getD]
 have hl:(st++[p]).length=st.length+1:=by simp
 rw [e1]at s1 s2 s3 s4;rw [hl]at hev h1000;have x13:w.cell? ⟨X,13,none⟩=some (.slice (some ⟨b,off,none⟩) (st.length+1) cap):=by rw [cell_of_row w _ _ _ _ _ hev];rfl
 have hX:X<w.heap.size:=(Array.getElem?_eq_some_iff.1 hev).1;generalize st.length=n at *;have d1:((n+1:Nat):Int)-1=(n:Int):=by omega
 have d2:(n:Int)<((n+1:Nat):Int):=by omega
 have d3:(0:Int)<=(n:Int):=by omega
 obtain⟨nm,x⟩:=p;dsimp only at s1 s2 s3 s4;unfold dY;dsimp only;clear hc hev e1 hl s0
 go_enter func43,ntmps43
 go_wp2_with fail
 go_region
 go_wp2_with fail
 go_returns
 exact⟨rfl,.of_below af⟩
theorem Tj(m n d:Int)(y:Bool)(w:World):(Instr.field 51 (.agg #[.int .i64 m,.bool y,.int .i64 n,.int .i64 d]) 1).run prog w= .ok (.bool y) w:=by kernel_rfl
theorem Ti(m n d:Int)(y:Bool)(w:World):(Instr.field 51 (.agg #[.int .i64 m,.bool y,.int .i64 n,.int .i64 d]) 2).run prog w= .ok (.agg #[.int .i64 n,.int .i64 d]) w:=by kernel_rfl
theorem Cr{env:List (ByteArray × Int)}:∀(l:List (Int × Ex × Ex)) (pre:List Int),grG env pre l=0->(∀g∈l,pre.contains g.1=false)/\l.Pairwise (fun a b=>a.1≠b.1)
 | [],_,_=>⟨fun _ h=>by(cases h),.nil⟩
 |g::r,pre,h=>by
  rw [grG]at h
  split at h
  ·cases h
  rename_i h0
  split at h
  ·rename_i h1;exact absurd h h1
  split at h
  ·rename_i h1;exact absurd h h1
  obtain⟨a,b⟩:=Cr r _ h;have ha:=fun x hx=>Bool.eq_false_iff.1 (a x hx);refine⟨fun x hx=>?_,pairwise_cons.2 ⟨fun x hx e=>ha x hx (contains_iff_mem.2 (mem_append.2 (.inr ye))),b⟩⟩;rcases mem_cons.1 hx with rfl|hx
  ·simpa using h0
  ·exact Bool.eq_false_iff.2 fun c=>ha x hx (contains_iff_mem.2 (mem_append.2 (.inl (contains_iff_mem.1 c))))
theorem Bu{env:List (ByteArray × Int)}:∀(l:List (Int × Ex)) (pre:List Int),reG env pre l=0->(∀g∈l,pre.contains g.1=false)/\l.Pairwise (fun a b=>a.1≠b.1)
 | [],_,_=>⟨fun _ h=>by(cases h),.nil⟩
 |g::r,pre,h=>by
  rw [reG]at h
  split at h
  ·cases h
  rename_i h0
  split at h
  ·rename_i h1;exact absurd h h1
  obtain⟨a,b⟩:=Bu r _ h;have ha:=fun x hx=>Bool.eq_false_iff.1 (a x hx);refine⟨fun x hx=>?_,pairwise_cons.2 ⟨fun x hx e=>ha x hx (contains_iff_mem.2 (mem_append.2 (.inr ye))),b⟩⟩;rcases mem_cons.1 hx with rfl|hx
  ·simpa using h0
  ·exact Bool.eq_false_iff.2 fun c=>ha x hx (contains_iff_mem.2 (mem_append.2 (.inl (contains_iff_mem.1 c))))
theorem DK{V:dH}(h:bF V=0):V.gr.Pairwise (fun a b=>a.1≠b.1)/\V.re.Pairwise (fun a b=>a.1≠b.1):=by
 unfold bF at h
 split at h
 ·rename_i h1;exact absurd h h1
 split at h
 ·cases h
 split at h
 ·cases h
 split at h
 ·rename_i h2;exact absurd h h2
 rename_i h2
 exact⟨(Cr _ _ (Decidable.byContradiction h2)).2,(Bu _ _ h).2⟩
theorem Dk{β:Type}[Inhabited (Int × β)]{l:List (Int × β)}{b:Int}{k:Nat}(h:l.Pairwise (fun a b=>a.1≠b.1))(hk:k<l.length)(hb:(l.getD k default).1=b):∀j,j<k->(l.getD j default).1≠b:=fun j hj e=>by
 have hjl:j<l.length:=by omega
 have g:∀i (hi:i<l.length),l.getD i default=l[i]:=fun i hi=>by rw [getD_eq_getElem?_getD,getElem?_eq_getElem hi];rfl
 exact pairwise_iff_getElem.1 h j k hjl hk hj (by rw [<-g j hjl,<-g k hk,e,hb])
theorem IX{V:dH}{b:Int}{v:Vw}{c:Int}(h:ku V v=c)(hc:c≠0):fH V b v=((false,0,0),[],c):=by
 unfold ku at h
 split at h
 ·subst h;exact Cu zv
 ·subst h;exact Gh (by simpa using ‹¬v.ok=false›) hc
theorem Fb{V:dH}{v:Vw}(h:ku V v=0):v.ok=true/\bF V=0:=by
 unfold ku at h
 split at h
 ·cases h
 ·exact⟨by simpa using ‹¬v.ok=false›,h⟩
theorem Me{v:Vw}{ls:List (ByteArray × Ex)}{e:Ex}{nm:ByteArray}{D0 D:List Nat}{st0 st:List (ByteArray × Val)}(h:eZ v ls e nm D0 st0=(D,st,0)):∃st' x,st=st'++[(nm,x)]/\gU v ls (az e ls) D0 st0=(D,st',0)/\aj v st' e=(x,0):=by
 unfold eZ at h
 split at h
 ·rename_i h1;rw [h]at h1;exact absurd rfl h1
 rename_i h1
 split at h
 ·rename_i h2;exact absurd (Prod.mk.inj (Prod.mk.inj h).2).2 h2
 rename_i h2
 obtain⟨h3,h4⟩:=Prod.mk.inj h;obtain⟨h4,-⟩:=Prod.mk.inj h4;exact⟨_,_,h4.symm,Prod.ext h3 (Prod.ext rfl (Decidable.byContradiction h1)),Prod.ext rfl (Decidable.byContradiction h2)⟩
theorem iU.start{W0 w1:World}{X N:Nat}{v:Vw}{y:Value}{n:Nat}(hg:W0.Grows w1)(h1:w1.heap[X]? =some (.cells (evC v y (.slice none 0 0)) 119 (0,0)))(h2:w1.heap[N]? =some (.cells (madeCells #[.bool false] n) 4 (0,0))):iU W0 w1 X N v y (.slice none 0 0) n [] []:=
 ⟨hg,h1,⟨_,by rw [h2,Dh],Marks.zero n⟩,World.ownsRow_nil _ _ _ _,fun k hk=>by cases hk⟩
theorem NJ(fn:FuncId){w:World}{a:Option Addr}{cap n i:Nat}{l:List (Int × Ex × Ex)}(h:iT w (.slice a n cap) l)(hi:i<=l.length)(lb:Array Value)(p:Nat->Bool)
 (hp:∀k,k<i->∀(a1 a2 a3 a4 a5 a6 a7 a8 a9 a10 a11 a12:Value),∀w',w.Grows w'->Calls prog fn (#[.agg (.int .i64 (l.getD k default).1::[a1,a2,a3,a4,a5,a6,a7,a8,a9,a10,a11,a12]).toArray]++lb) w' fun r w''=>r= .returned (.bool (p k))/\w'.Grows w'') :
 vS 13 fn lb p w (.slice a i cap) i:=by
 obtain⟨h0,a1,c1,hv1,h1⟩:=h;simp only [Value.slice.injEq]at hv1;obtain⟨rfl,rfl,rfl⟩:=hv1;refine⟨by omega,a,cap,rfl, ?_⟩;by_cases hz:i=0
 ·exact .inl hz
 rcases h1 with h1|⟨b,off,rfl,hb,hc⟩
 ·omega
 refine .inr ⟨b,off,rfl,hb,fun k hk=>?_⟩;obtain⟨u,u',g⟩:=hc k ze;refine⟨[.int .i64 (l.getD k default).1,.int .i64 (l.getD k default).2.1.op,.int .i64 (l.getD k default).2.1.num,.int .i64 (l.getD k default).2.1.den,.int .i64 (l.getD k default).2.1.dim,.string (l.getD k default).2.1.name,u,.int .i64 (l.getD k default).2.2.op,.int .i64 (l.getD k default).2.2.num,.int .i64 (l.getD k default).2.2.den,.int .i64 (l.getD k default).2.2.dim,.string (l.getD k default).2.2.name,u'],rfl,fun j x hj=>?_,hp k hk _ _ _ _ _ _ _ _ _ _ _ _⟩
 match j,hj with
 |0,hj=>cases hj;exact g.nm
 |1,hj=>cases hj;exact g.c0
 |2,hj=>cases hj;exact g.c1
 |3,hj=>cases hj;exact g.c2
 |4,hj=>cases hj;exact g.c3
 |5,hj=>cases hj;exact g.c4
 |6,hj=>cases hj;exact g.c5
 |7,hj=>cases hj;exact g.e0
 |8,hj=>cases hj;exact g.e1
 |9,hj=>cases hj;exact g.e2
 |10,hj=>cases hj;exact g.e3
 |11,hj=>cases hj;exact g.e4
 |12,hj=>cases hj;exact g.e5
theorem Sz:∀args w,(callFunc 41 args).run prog w= .ok (.enter 41 args) w:=enters_of func41 zf rfl
theorem D7(z y:Int)(a1 a2 a3 a4 a5 a6 a7 a8 a9 a10 a11 a12:Value)(b:Nat)(w:World)(hb:w.heap[b]? =some (.cells #[.int .i64 y] 3 (0,0))) :
 Calls prog 41 (#[.agg (.int .i64 z::[a1,a2,a3,a4,a5,a6,a7,a8,a9,a10,a11,a12]).toArray]++#[.pointer (some ⟨b,0,none⟩)]) w fun r w'=>r= .returned (.bool (decide (z=y)))/\w.Grows w':=by
 show Calls prog 41 #[.agg #[.int .i64 z,a1,a2,a3,a4,a5,a6,a7,a8,a9,a10,a11,a12],.pointer (some ⟨b,0,none⟩)] w _;have hbl:b<w.heap.size:=(Array.getElem?_eq_some_iff.1 hb).1;have x0:w.cell? ⟨b,0,none⟩=some (.int .i64 y):=by rw [cell_of_row w b _ _ _ _ hb];rfl
 clear hb;by_cases hn:z=y
 ·have h2:(z==y)=true:=by rw [hn];simp
  have HD:Hid (decide (z=y)=true):=yq (decide_eq_true hn);clear hn
  go_enter func41,ntmps41
  go_wp2_with fail
  go_returns
  exact⟨au HD.out.symm,.of_below af⟩
 ·have h2:(z==y)=false:=by simpa using hn
  have HD:Hid (decide (z=y)=false):=yq (decide_eq_false hn);clear hn
  go_enter func41,ntmps41
  go_wp2_with fail
  go_returns
  exact⟨au HD.out.symm,.of_below af⟩
theorem bi.lit{X Y w':World}{bs:Array Obj}{d d':Nat}{v:Value}{st:List (ByteArray × Val)}(hs:X.heap.size=Y.heap.size)(h:bi (X.grow bs d) v st)(hk:∀k,v.ownBlock=some k->X.heap.size<=k)(hg:(Y.grow bs d').Grows w'):bi w' v st:=(h.moved hs hk).grows hg
theorem own_ne{w:World}{base size n Z:Nat}{e e':TypeId}{v:Value}{xs:List Value}{cs:Array Value}(h:w.ownsRow base e size v n xs)(hz:w.heap[Z]? =some (.cells cs e' (0,0)))(he:e≠e'):∀k,v.ownBlock=some k->k≠Z:=by
 rintro k hk rfl;rcases h.2 with ⟨rfl,-⟩|⟨g,cap,cur,rfl,-,hg,-⟩
 ·cases hk
 ·obtain rfl:g=k:=by simpa [Value.ownBlock]using hk
  rw [hz]at hg;simp only [Option.some.injEq,Obj.cells.injEq]at hg;exact he hg.2.1.symm
theorem DJ{d:Int}(h:ay 0 d=true):d=1:=by
 have h1:=aC h;have h2:=qb h;simp at h2;omega
theorem Fz(V:dH)(v:Vw)(b x0 x1 x2:Int)(v3 v4 v5 v6 v7 y:Value)(w:World)(h:vw w V v3 v4 v5 v6 v7)(hnx:gT 2 w v3 V.cr.length/\gT 3 w v4 V.se.length)(hcp:je v3/\je v6/\je v7)(hs:lI V)(h10:V.le.length<=10)(ht:Tab w)(hrng:dV v)(hY:bI w y v.years) :
 Calls prog 20 #[.agg #[.int .i64 x0,.int .i64 x1,.int .i64 x2,v3,v4,v5,v6,v7],.int .i64 b,vwV v y] w (GrP (fH V b v) w):=by
 have HV:=yq h;have HS:=yq hs;have HY:=yq hY;have HT:=yq ht;have HCP:=yq hcp;have HNX:=yq hnx;have hle:=h.le.1;have hmk:=run_make_row' (P:=prog) 120 4 (.bool false) 1 underlying120 Ls rfl .i64 .i64 V.le.length ze ze;have HCK:=yq (fun w' (hg:w.Grows w')=>Ju V v y x0 x1 x2 v3 v4 v5 v6 v7 w' (HV.out.grows hg) ⟨HNX.out.1.grows hg,HNX.out.2.grows hg⟩ HCP.out HS.out (HT.out.grows hg) hrng (HY.out.grows hg));obtain⟨-,a3,k3,rfl,-⟩:=h.cr;obtain⟨-,a4,k4,rfl,-⟩:=h.se;obtain⟨-,a5,k5,rfl,-⟩:=h.le;obtain⟨-,a6,k6,rfl,-⟩:=h.gr;obtain⟨-,a7,k7,rfl,-⟩:=h.re;obtain⟨-,ya,yc,rfl,-⟩:=id hY;obtain⟨c,hc0⟩:∃c,ku V v=c:=⟨_,rfl⟩;rw [hc0]at HCK;unfold vwV at HCK;unfold vwV;simp only [length_map]at HCK ⊢;have HRNG:=yq hrng;clear h hs hnx hcp ht hrng hY;by_cases hc:c=0
 case neg=>
  have HF:=yq (IX (b:=b) hc0 hc);have hc2:(c !=0)=true:=by simpa using hc
  clear hc hc0 hmk hle
  go_enter func20,ntmps20
  go_wp2_with (go_at_call 39;refine gvq (HCK.out _ ag) ?_;intro bs d)
  go_returns
  exact GrP.bad HF.out ag
 subst hc;obtain⟨hok,hvz⟩:=Fb hc0;have hap:=(DK hvz).1;have HOK:=yq hok;have HVO:=yq (Gx.of hvz);have HFN:=yq (fun hn=>Cw (b:=b) hok hvz (xI hn));have HFA:=yq (fun(k:Nat) (hk:k<V.gr.length) (hb:(V.gr.getD k default).1=b)=>Cv (b:=b) hok hvz (xH hk (Dk hap hk hb) hb));have HIX:=yq (fun w' (hg:w.Grows w') (hb:w'.heap[w.heap.size+1]? =some (.cells #[.int .i64 b] 3 (0,0)))=>Cn 41 #[.pointer (some ⟨w.heap.size+1,0,none⟩)] Sz (fun k=>decide ((V.gr.getD k default).1=b)) (.slice a6 V.gr.length k6) V.gr.length w' (NJ 41 (HV.out.gr.grows hg) (Nat.le_refl _) _ _ (fun k hk a1 a2 a3 a4 a5 a6 a7 a8 a9 a10 a11 a12 w2 hg2=>D7 (V.gr.getD k default).1 b a1 a2 a3 a4 a5 a6 a7 a8 a9 a10 a11 a12 (w.heap.size+1) w2 ((hg2.below.block _ (Array.getElem?_eq_some_iff.1 hb).1).trans hb))));clear hok hvz hap hc0
 go_enter func20,ntmps20
 go_wp2_with (go_at_call 39;refine gvq (HCK.out _ ag) ?_;intro bs d)
 go_at_call 40
 refine(HIX.out _ ag ((World.heap_grow _ _ _ zG).trans ((Below.heap_alloc _ _ _ zG).trans ((Below.heap_alloc _ _ _ zg).trans (bP _ _ _ zg))))).mono ?_;rintro e' w' ⟨⟨z,rfl,hz⟩,bs1,d1,rfl⟩;clear HIX HCK;rcases hz with ⟨rfl,hno⟩|⟨k,hk,rfl,hkb⟩
 ·have HF:=yq (HFN.out (fun j hj=>of_decide_eq_false (hno j hj)));clear hno hmk
  go_wp2_with fail
  go_returns
  exact GrP.bad HF.out eB
 ·have hkb:=of_decide_eq_true hkb;have hFA:=HFA.out k hk hkb;clear HFA HFN;obtain⟨-,a',c',hv',hx⟩:=HV.out.gr;simp only [Value.slice.injEq,true_and]at hv';obtain⟨rfl,rfl⟩:=hv';rcases hx with h0|⟨bg,og,rfl,hbg,hx⟩
  ·omega
  obtain⟨u,u',hg⟩:=hx k hk;have hm:=gq hk;have d1':(k:Int)<(V.gr.length:Int):=by omega
  have d2':¬(k:Int)<0:=by omega
  have d3':(0:Int)<=(k:Int):=by omega
  obtain⟨ty1,ty2⟩:=HVO.out.gr _ hm;obtain⟨sz1,sz2⟩:=HS.out.gr _ hm;obtain⟨q0,p0,p1,p2,p3,p4,p5,r0,r1,r2,r3,r4,r5,hra,hrb⟩:=hg;obtain⟨ia,ic,rfl⟩:=hra.form0;obtain⟨pa,pc,rfl⟩:=hrb.form0;generalize V.gr.getD k default=g at *;have HLS:=yq HVO.out.ls;have HLE:=yq (show ∀t∈V.le,t.2.size<=1000000 from fun t ht=>(HS.out.le t ht).2);obtain⟨⟨D,st,c⟩,hr⟩:∃r,eZ v V.le g.2.1 ifN [] []=r:=⟨_,rfl⟩;have hD1:=fun W0 (hg:w.Grows W0) w1 X N (hD:iU W0 w1 X N v (.slice ya v.years.length yc) (.slice none 0 0) V.le.length [] []) hXN hXW hNW hX1 hN1=>rP V.le (dJ V.le).1 v g.2.1 (.slice ia g.2.1.args.length ic) (.slice ya v.years.length yc) (.slice none 0 0) ifN a5 k5 V.le.length W0 w1 X N [] [] 1 HLS.out h10 HLE.out HOK.out HRNG.out oZ.1 ty1 sz1 (hra.grows hg) (HV.out.le.grows hg) (HY.out.grows hg) hD (lq.zero _ _) zg hXN hXW hNW w1.heap.size (Nat.le_refl _) hX1 hN1 (fun k hk=>by cases hk);simp only [hr]at hD1;unfold Rk exV ifN at hD1;dsimp only at hD1;have HD1:=yq hD1;have HRB:=yq hrb;have HR:=yq hr;have HTY:=yq ty1;have HTY2:=yq ty2;have HFA:=yq hFA;simp only [World.grow_grow];generalize bs++bs1=B;clear hD1 hr hra hrb ty1 ty2 hFA hx hk hkb hm HVO
  go_wp2_with fail
  refine TS.begin [9,10] (World.Grows _) zf zf aL (fun hS=>?_);refine kq 0 hS ?_;refine kq 1 hS ?_;refine kq 2 hS ?_;refine kq 3 hS ?_;refine kq 4 hS ?_;refine kq 5 hS ?_;refine kq 6 hS ?_;refine kq 7 hS ?_;refine kq 8 hS ?_;refine TS.one (i:=9) zf rfl (fun K1 hK1=>?_);have HK1:=yq hK1;clear hK1 hS;dsimp only [getElem_toArray,getElem_cons_succ,getElem_cons_zero]
  go_simp
  go_at_call 42
  refine(HD1.out ((World.grow (((((w.alloc ((.cells #[.int .i64 x0,.int .i64 x1,.int .i64 x2,.slice a3 V.cr.length k3,.slice a4 V.se.length k4,.slice a5 V.le.length k5,.slice (some ⟨bg,og,none⟩) V.gr.length k6,.slice a7 V.re.length k7] 36))).alloc (.cells #[.int .i64 b] 3)).alloc ((.cells #[.int .i64 v.age,.int .i64 v.year,.int .i64 v.children,.int .i64 v.insured,.int .i64 v.worked,.int .i64 v.voluntary,.int .i64 v.service,.int .i64 v.equated,.int .i64 v.raising,.int .i64 v.resident,.int .i64 v.bn,.int .i64 v.bd,.slice ya v.years.length yc] 41))).alloc (.cells #[.bool false,.int .i64 0,.int .i64 0,.slice none 0 0] 46))) B d1)) ag _ ((w.heap.size+1+1+1+1+B.size)) (((w.heap.size+1+1+1+1+B.size))+1) (iU.start ag (by exact(Below.heap_alloc _ _ _ zg).trans (bP _ _ _ zg)) (by exact bP _ _ _ zg)) ze zg zg zG zg).mono ?_;rintro e' w' ⟨hG,rfl,hdf⟩;refine HK1.out _ _ (fun h=>absurd zo h) ?_;clear HK1 K1
  (try simp only [nS])
  refine TS.weB 10 ?_;by_cases hc:c=0
  case neg=>
   have hc2:(c !=0)=true:=by simpa using hc
   have HF:=yq (HFA.out.trans (LP (by rw [HR.out]) hc));clear hc;obtain⟨bs2,d2,rfl⟩:=hG
   go_wp2_with fail
   go_returns
   exact GrP.bad HF.out eB
  subst hc;obtain⟨st',x,rfl,hrun,hval⟩:=Me HR.out;obtain⟨cm,cy,cn,cd⟩:=x;have hra1:=dW.of_run (lq.zero V.le _) HLS.out HOK.out hrun;have hok1:=(oL hra1 HLS.out HOK.out HTY.out).2;rw [hval]at hok1;have hx:=(hok1.good rfl).1;have HST1:=yq (hra1.ok.other HLS.out (s:=ifN) oZ.1 hx);clear hrun hval hra1 hok1 hx;obtain⟨vb,hd,hsl,-⟩:=hdf zI
  obtain⟨va,vn,vcap,rfl⟩:∃a n c,vb= .slice a n c:=by
   obtain⟨-,a,c,h,-⟩:=hd.steps (by simp at hsl ⊢;omega);exact⟨a,_,c,h⟩
  have HG2:=yq hG;have HD2:=yq hd;have HSL:=yq hsl;have HOW:=yq (fun k hk=>(hd.row.lt k hk).1);have x13:w'.cell? ⟨((w.heap.size+1+1+1+1+B.size)),13,none⟩=some (.slice va vn vcap):=by rw [cell_of_row _ _ _ _ _ _ hd.ev];rfl
  have xl:((w.heap.size+1+1+1+1+B.size))<w'.heap.size:=(Array.getElem?_eq_some_iff.1 hd.ev).1;have hL1:=BN v _ st' _ (.slice va vn vcap) _ w' hd.ev (hd.steps (by simp at hsl ⊢;omega));unfold dY at hL1;dsimp only at hL1;have HL1:=yq hL1;clear hG hd hsl hdf hL1;have hfd:=Tj cm cn cd cy
  cases cy with
  |false=>
   have HF:=yq (HFA.out.trans (P9 HR.out rfl))
   go_upto_region 21 with (go_at_call 43;refine HL1.out.mono ?_;rintro e'' w'' ⟨rfl,bs3,d3,rfl⟩)
   refine fF (fun W8 hW8=>?_);have zb8:W8.heap[w'.heap.size+bs3.size]? =some (.cells #[.bool false,.int .i64 0,.int .i64 1,.slice va vn vcap] 46 (0,0)):=by rw [<-hW8];exact bP _ _ _ zg
   have HG8:Hid (((World.grow (((((w.alloc ((.cells #[.int .i64 x0,.int .i64 x1,.int .i64 x2,.slice a3 V.cr.length k3,.slice a4 V.se.length k4,.slice a5 V.le.length k5,.slice (some ⟨bg,og,none⟩) V.gr.length k6,.slice a7 V.re.length k7] 36))).alloc (.cells #[.int .i64 b] 3)).alloc ((.cells #[.int .i64 v.age,.int .i64 v.year,.int .i64 v.children,.int .i64 v.insured,.int .i64 v.worked,.int .i64 v.voluntary,.int .i64 v.service,.int .i64 v.equated,.int .i64 v.raising,.int .i64 v.resident,.int .i64 v.bn,.int .i64 v.bd,.slice ya v.years.length yc] 41))).alloc (.cells #[.bool false,.int .i64 0,.int .i64 0,.slice none 0 0] 46))) B d1)).Grows W8):=yq (gqq HG2.out (by rw [<-hW8];exact eB));have HS8:Hid (bi W8 (.slice va vn vcap) (st'++[(ifN,⟨cm,false,cn,cd⟩)])):=yq ((HD2.out.steps yR).grows (by rw [<-hW8];exact eB));have u0:=(cell_of_row W8 _ 0 _ _ _ zb8).trans rfl;have u1:=(cell_of_row W8 _ 1 _ _ _ zb8).trans rfl;have u2:=(cell_of_row W8 _ 2 _ _ _ zb8).trans rfl;have u3:=(cell_of_row W8 _ 3 _ _ _ zb8).trans rfl;have ul:w'.heap.size+bs3.size<W8.heap.size:=(Array.getElem?_eq_some_iff.1 zb8).1;clear zb8;clear hW8;obtain⟨bs8,d8,rfl⟩:=HG8.out;have HST8:=HS8.out;simp only [World.grow_grow]at u0 u1 u2 u3 ul HST8;replace HST8:=yq HST8;clear HS8 HG8
   go_wp2_with fail
   go_returns
   exact GrP.ok HF.out eB (bi.lit (X:=(((((w.alloc ((.cells #[.int .i64 x0,.int .i64 x1,.int .i64 x2,.slice a3 V.cr.length k3,.slice a4 V.se.length k4,.slice a5 V.le.length k5,.slice (some ⟨bg,og,none⟩) V.gr.length k6,.slice a7 V.re.length k7] 36))).alloc (.cells #[.int .i64 b] 3)).alloc ((.cells #[.int .i64 v.age,.int .i64 v.year,.int .i64 v.children,.int .i64 v.insured,.int .i64 v.worked,.int .i64 v.voluntary,.int .i64 v.service,.int .i64 v.equated,.int .i64 v.raising,.int .i64 v.resident,.int .i64 v.bn,.int .i64 v.bd,.slice ya v.years.length yc] 41))).alloc (.cells #[.bool false,.int .i64 0,.int .i64 0,.slice none 0 0] 46)))) (Y:=((((w.alloc ((.cells #[.int .i64 x0,.int .i64 x1,.int .i64 x2,.slice a3 V.cr.length k3,.slice a4 V.se.length k4,.slice a5 V.le.length k5,.slice (some ⟨bg,og,none⟩) V.gr.length k6,.slice a7 V.re.length k7] 36))).alloc (.cells #[.int .i64 b] 3)).alloc ((.cells #[.int .i64 v.age,.int .i64 v.year,.int .i64 v.children,.int .i64 v.insured,.int .i64 v.worked,.int .i64 v.voluntary,.int .i64 v.service,.int .i64 v.equated,.int .i64 v.raising,.int .i64 v.resident,.int .i64 v.bn,.int .i64 v.bd,.slice ya v.years.length yc] 41))).alloc (.cells #[.bool false,.int .i64 0,.int .i64 1,.slice va vn vcap] 46))) (d':=d8) zg HST8.out (fun k hk=>by have:=HOW.out k hk;simp at this ⊢;omega) eB) (fun k hk=>by have:=HOW.out k hk;simp at this;omega)
  |true=>
   obtain⟨⟨D2,st2,c2⟩,hr2⟩:∃r,eZ v V.le g.2.2 kI D (st'++[(ifN,⟨cm,true,cn,cd⟩)])=r:=⟨_,rfl⟩;have hD2:=fun W0 (hg:w.Grows W0) w1 X N vb U0 (hl20:(st'++[(ifN,(⟨cm,true,cn,cd⟩:Val))]).length<=20) (hD:iU W0 w1 X N v (.slice ya v.years.length yc) vb V.le.length D (st'++[(ifN,⟨cm,true,cn,cd⟩)])) hXN hXW hNW hU0 hXU hNU hvU=>rP V.le (dJ V.le).1 v g.2.2 (.slice pa g.2.2.args.length pc) (.slice ya v.years.length yc) vb kI a5 k5 V.le.length W0 w1 X N D (st'++[(ifN,⟨cm,true,cn,cd⟩)]) 4 HLS.out h10 HLE.out HOK.out HRNG.out oZ.2.1 HTY2.out sz2 (HRB.out.grows hg) (HV.out.le.grows hg) (HY.out.grows hg) hD HST1.out hl20 hXN hXW hNW U0 hU0 hXU hNU hvU;simp only [hr2]at hD2;unfold Rk exV kI at hD2;dsimp only at hD2;have HDD:=yq hD2;have HR2:=yq hr2
   have HBV:Hid (lD ((World.grow (((((w.alloc ((.cells #[.int .i64 x0,.int .i64 x1,.int .i64 x2,.slice a3 V.cr.length k3,.slice a4 V.se.length k4,.slice a5 V.le.length k5,.slice (some ⟨bg,og,none⟩) V.gr.length k6,.slice a7 V.re.length k7] 36))).alloc (.cells #[.int .i64 b] 3)).alloc ((.cells #[.int .i64 v.age,.int .i64 v.year,.int .i64 v.children,.int .i64 v.insured,.int .i64 v.worked,.int .i64 v.voluntary,.int .i64 v.service,.int .i64 v.equated,.int .i64 v.raising,.int .i64 v.resident,.int .i64 v.bn,.int .i64 v.bd,.slice ya v.years.length yc] 41))).alloc (.cells #[.bool false,.int .i64 0,.int .i64 0,.slice none 0 0] 46))) B d1)) w.heap.size (.int .i64 x0) (.int .i64 x1) (.int .i64 x2) (.slice a3 V.cr.length k3) (.slice a4 V.se.length k4) (.slice a5 V.le.length k5) (.slice (some ⟨bg,og,none⟩) V.gr.length k6) (.slice a7 V.re.length k7)):=yq (by
    unfold lD;rw [World.heap_grow _ _ _ zG,Below.heap_alloc _ _ _ zG,Below.heap_alloc _ _ _ zG,Below.heap_alloc _ _ _ zg]
    exact bP _ _ _ rfl)
   clear hD2 hr2;have HBV2:=yq (HBV.out.grows HG2.out);have o5:=HBV2.out.c5;have o6:=HBV2.out.c6;have ol:=HBV2.out.lt;have hgw:w.Grows w':=gqq (show w.Grows ((World.grow (((((w.alloc ((.cells #[.int .i64 x0,.int .i64 x1,.int .i64 x2,.slice a3 V.cr.length k3,.slice a4 V.se.length k4,.slice a5 V.le.length k5,.slice (some ⟨bg,og,none⟩) V.gr.length k6,.slice a7 V.re.length k7] 36))).alloc (.cells #[.int .i64 b] 3)).alloc ((.cells #[.int .i64 v.age,.int .i64 v.year,.int .i64 v.children,.int .i64 v.insured,.int .i64 v.worked,.int .i64 v.voluntary,.int .i64 v.service,.int .i64 v.equated,.int .i64 v.raising,.int .i64 v.resident,.int .i64 v.bn,.int .i64 v.bd,.slice ya v.years.length yc] 41))).alloc (.cells #[.bool false,.int .i64 0,.int .i64 0,.slice none 0 0] 46))) B d1))from ag) HG2.out;have bl:bg<w'.heap.size:=Nat.lt_of_lt_of_le hbg hgw.below.size;have hce:=fun o=>hgw.below.cell (p:=⟨bg,o,none⟩) hbg;have s0:=(hce _).trans r0;have s1:=(hce _).trans r1;have s2:=(hce _).trans r2;have s3:=(hce _).trans r3;have s4:=(hce _).trans r4;have s5:=(hce _).trans r5;have nl:((w.heap.size+1+1+1+1+B.size))+1<w'.heap.size:=by obtain⟨M,hM,-⟩:=HD2.out.mks;exact(Array.getElem?_eq_some_iff.1 hM).1
   clear hce hgw
   go_wp2_with (go_at_call 43;refine HL1.out.mono ?_;rintro e'' w'' ⟨rfl,bs3,d3,rfl⟩)
   refine TS.begin [9,10] (World.Grows _) zf zf aL (fun hS=>?_);refine kq 0 hS ?_;refine kq 1 hS ?_;refine kq 2 hS ?_;refine kq 3 hS ?_;refine kq 4 hS ?_;refine kq 5 hS ?_;refine kq 6 hS ?_;refine kq 7 hS ?_;refine kq 8 hS ?_;refine TS.one (i:=9) zf rfl (fun K1 hK1=>?_);have HK1:=yq hK1;clear hK1 hS;dsimp only [getElem_toArray,getElem_cons_succ,getElem_cons_zero]
   go_simp
   go_at_call 42
   refine(HDD.out ((World.grow (((((w.alloc ((.cells #[.int .i64 x0,.int .i64 x1,.int .i64 x2,.slice a3 V.cr.length k3,.slice a4 V.se.length k4,.slice a5 V.le.length k5,.slice (some ⟨bg,og,none⟩) V.gr.length k6,.slice a7 V.re.length k7] 36))).alloc (.cells #[.int .i64 b] 3)).alloc ((.cells #[.int .i64 v.age,.int .i64 v.year,.int .i64 v.children,.int .i64 v.insured,.int .i64 v.worked,.int .i64 v.voluntary,.int .i64 v.service,.int .i64 v.equated,.int .i64 v.raising,.int .i64 v.resident,.int .i64 v.bn,.int .i64 v.bd,.slice ya v.years.length yc] 41))).alloc (.cells #[.bool false,.int .i64 0,.int .i64 0,.slice none 0 0] 46))) B d1)) ag _ ((w.heap.size+1+1+1+1+B.size)) (((w.heap.size+1+1+1+1+B.size))+1) (.slice va vn vcap) (w'.heap.size+bs3.size) yR (HD2.out.grows eB) ze zg zg zG ze ze (fun k hk=>by have:=(HD2.out.row.lt k hk).2;omega)).mono ?_;rintro e' w'' ⟨hG4,rfl,hdf2⟩;refine HK1.out _ _ (fun h=>absurd zo h) ?_;clear HK1 K1
   (try simp only [nS])
   refine TS.weB 10 ?_;by_cases hc:c2=0
   case neg=>
    have hc2:(c2 !=0)=true:=by simpa using hc
    have HF:=yq (HFA.out.trans (LM HR.out rfl (by rw [HR2.out]) hc));clear hc;obtain⟨bs4,d4,rfl⟩:=hG4
    go_wp2_with fail
    go_returns
    exact GrP.bad HF.out eB
   subst hc;obtain⟨st2',p,rfl,hrun2,hval2⟩:=Me HR2.out;obtain⟨pm,py,pn,pd⟩:=p;have hra2:=dW.of_run HST1.out HLS.out HOK.out hrun2;have hok2:=(oL hra2 HLS.out HOK.out HTY2.out).2;rw [hval2]at hok2;have hx2:=hok2.good rfl;have hvf:=(Val.ok_num hx2.1 (by rw [hx2.2];decide)).2.2.2;dsimp only at hvf;have hF:=HFA.out.trans (P8 HR.out rfl HR2.out);dsimp only at hF;clear hrun2 hval2 hra2 hok2 hx2;obtain⟨vb2,hd2,hsl2,hm2⟩:=hdf2 zI
   obtain⟨va2,vn2,vcap2,rfl⟩:∃a n c,vb2= .slice a n c:=by
    obtain⟨-,a,c,h,-⟩:=hd2.steps (by have:=HSL.out;simp at hsl2 this ⊢;omega);exact⟨a,_,c,h⟩
   have HG4:=yq hG4;have HD4:=yq hd2;have HSN:=yq (show(st2'++[(kI,(⟨pm,py,pn,pd⟩:Val))]).length<=1000 from by have:=HSL.out;simp at hsl2 this ⊢;omega);have HOW4:=yq (fun k hk=>(hd2.row.lt k hk).1);have y13:w''.cell? ⟨((w.heap.size+1+1+1+1+B.size)),13,none⟩=some (.slice va2 vn2 vcap2):=by rw [cell_of_row _ _ _ _ _ _ hd2.ev];rfl
   have yl:((w.heap.size+1+1+1+1+B.size))<w''.heap.size:=(Array.getElem?_eq_some_iff.1 hd2.ev).1;have zb:w''.heap[w'.heap.size+bs3.size]? =some (.cells #[.bool true,.int .i64 0,.int .i64 1,.slice none 0 0] 46 (0,0)):=(hm2.2 _ (Nat.le_refl _) zg).trans (bP _ _ _ zg);have zl:w'.heap.size+bs3.size<w''.heap.size:=(Array.getElem?_eq_some_iff.1 zb).1;have zc:=fun(j:Nat) (z:Value) (hz:(#[.bool true,.int .i64 0,.int .i64 1,.slice none 0 0]:Array Value)[j]? =some z)=>(cell_of_row w'' _ j _ _ _ zb).trans hz;have z0:=zc 0 _ rfl;have z1:=zc 1 _ rfl;have z2:=zc 2 _ rfl;have z3:=zc 3 _ rfl;have zf1:=Joins.unfrozen_of_block zb 1;have zf2:=Joins.unfrozen_of_block zb 2;have HZB:=yq zb;have hL2:=BN v _ st2' _ (.slice va2 vn2 vcap2) _ w'' hd2.ev (hd2.steps (by have:=HSL.out;simp at hsl2 this ⊢;omega));unfold dY at hL2;dsimp only at hL2;have HL2:=yq hL2;clear hG4 hd2 hsl2 hdf2 hL2 hm2 zc zb;have hfe:=Ti pm pn pd py;by_cases hpn:0<pn
   ·rw [if_neg ze]at hF;have HF:=yq hF;clear hF hvf
    go_upto_region 20 with (go_at_call 43;refine HL2.out.mono ?_;rintro e3 w3 ⟨rfl,bs5,d5,rfl⟩)
    refine fF (fun W7 hW7=>?_)
    have zb7:W7.heap[w'.heap.size+bs3.size]? =some (.cells #[.bool true,.int .i64 pn,.int .i64 pd,.slice none 0 0] 46 (0,0)):=by
     rw [<-hW7,Below.heap_alloc _ _ _ zp,World.heap_grow _ _ _ zp];exact Joins.block_setCell (Joins.block_setCell HZB.out _) _
    have hk7:∀b,b<w''.heap.size->b≠w'.heap.size+bs3.size->W7.heap[b]? =w''.heap[b]?:=fun b hb hne=>by
     rw [<-hW7,Below.heap_alloc _ _ _ zp,World.heap_grow _ _ _ zp,Below.heap_setCell _ _ _ _ hne,Below.heap_setCell _ _ _ _ hne]
    have hs7:w''.heap.size<=W7.heap.size:=by rw [<-hW7];simp;omega
    have HG7:Hid (((World.grow (((((w.alloc ((.cells #[.int .i64 x0,.int .i64 x1,.int .i64 x2,.slice a3 V.cr.length k3,.slice a4 V.se.length k4,.slice a5 V.le.length k5,.slice (some ⟨bg,og,none⟩) V.gr.length k6,.slice a7 V.re.length k7] 36))).alloc (.cells #[.int .i64 b] 3)).alloc ((.cells #[.int .i64 v.age,.int .i64 v.year,.int .i64 v.children,.int .i64 v.insured,.int .i64 v.worked,.int .i64 v.voluntary,.int .i64 v.service,.int .i64 v.equated,.int .i64 v.raising,.int .i64 v.resident,.int .i64 v.bn,.int .i64 v.bd,.slice ya v.years.length yc] 41))).alloc (.cells #[.bool false,.int .i64 0,.int .i64 0,.slice none 0 0] 46))) B d1)).Grows W7):=yq (by
     rw [<-hW7];have hz:((World.grow (((((w.alloc ((.cells #[.int .i64 x0,.int .i64 x1,.int .i64 x2,.slice a3 V.cr.length k3,.slice a4 V.se.length k4,.slice a5 V.le.length k5,.slice (some ⟨bg,og,none⟩) V.gr.length k6,.slice a7 V.re.length k7] 36))).alloc (.cells #[.int .i64 b] 3)).alloc ((.cells #[.int .i64 v.age,.int .i64 v.year,.int .i64 v.children,.int .i64 v.insured,.int .i64 v.worked,.int .i64 v.voluntary,.int .i64 v.service,.int .i64 v.equated,.int .i64 v.raising,.int .i64 v.resident,.int .i64 v.bn,.int .i64 v.bd,.slice ya v.years.length yc] 41))).alloc (.cells #[.bool false,.int .i64 0,.int .i64 0,.slice none 0 0] 46))) B d1)).heap.size<=w'.heap.size+bs3.size:=by have:=HG2.out.below.size;omega
     exact .of_below ((((HG4.out.below.setCell hz _).setCell hz _).grow xA _ _).alloc xA _))
    have x7:W7.cell? ⟨((w.heap.size+1+1+1+1+B.size)),13,none⟩=some (.slice va2 vn2 vcap2):=(World.cell?_of_block (a:=⟨((w.heap.size+1+1+1+1+B.size)),13,none⟩) (hk7 ((w.heap.size+1+1+1+1+B.size)) yl ze)).trans y13;have xl7:((w.heap.size+1+1+1+1+B.size))<W7.heap.size:=by omega
    have zl7:w'.heap.size+bs3.size<W7.heap.size:=by omega
    have zc3:=(cell_of_row W7 _ 3 _ _ _ zb7).trans rfl;have zf3:=Joins.unfrozen_of_block zb7 3;have HS7:=yq ((HD4.out.steps HSN.out).same hs7 (fun k hk=>hk7 k (HD4.out.row.lt k hk).2 (own_ne HD4.out.row HZB.out zo k hk)));clear hW7 y13 yl z0 z1 z2 z3 zf1 zf2 zl
    go_upto_region 21 with fail
    refine fF (fun W8 hW8=>?_);have zb8:W8.heap[w'.heap.size+bs3.size]? =some (.cells #[.bool true,.int .i64 pn,.int .i64 pd,.slice va2 vn2 vcap2] 46 (0,0)):=by rw [<-hW8];exact Joins.block_setCell zb7 _
    have HG8:Hid (((World.grow (((((w.alloc ((.cells #[.int .i64 x0,.int .i64 x1,.int .i64 x2,.slice a3 V.cr.length k3,.slice a4 V.se.length k4,.slice a5 V.le.length k5,.slice (some ⟨bg,og,none⟩) V.gr.length k6,.slice a7 V.re.length k7] 36))).alloc (.cells #[.int .i64 b] 3)).alloc ((.cells #[.int .i64 v.age,.int .i64 v.year,.int .i64 v.children,.int .i64 v.insured,.int .i64 v.worked,.int .i64 v.voluntary,.int .i64 v.service,.int .i64 v.equated,.int .i64 v.raising,.int .i64 v.resident,.int .i64 v.bn,.int .i64 v.bd,.slice ya v.years.length yc] 41))).alloc (.cells #[.bool false,.int .i64 0,.int .i64 0,.slice none 0 0] 46))) B d1)).Grows W8):=yq (by
     rw [<-hW8]
     exact .of_below (HG7.out.below.setCell (show((World.grow (((((w.alloc ((.cells #[.int .i64 x0,.int .i64 x1,.int .i64 x2,.slice a3 V.cr.length k3,.slice a4 V.se.length k4,.slice a5 V.le.length k5,.slice (some ⟨bg,og,none⟩) V.gr.length k6,.slice a7 V.re.length k7] 36))).alloc (.cells #[.int .i64 b] 3)).alloc ((.cells #[.int .i64 v.age,.int .i64 v.year,.int .i64 v.children,.int .i64 v.insured,.int .i64 v.worked,.int .i64 v.voluntary,.int .i64 v.service,.int .i64 v.equated,.int .i64 v.raising,.int .i64 v.resident,.int .i64 v.bn,.int .i64 v.bd,.slice ya v.years.length yc] 41))).alloc (.cells #[.bool false,.int .i64 0,.int .i64 0,.slice none 0 0] 46))) B d1)).heap.size<=w'.heap.size+bs3.size from by have:=HG2.out.below.size;omega) _))
    have HS8:=yq (HS7.out.same (w':=W8) (by rw [<-hW8];simp) (fun k hk=>by rw [<-hW8];exact Below.heap_setCell _ _ _ _ (own_ne HD4.out.row HZB.out zo k hk)));have u0:=(cell_of_row W8 _ 0 _ _ _ zb8).trans rfl;have u1:=(cell_of_row W8 _ 1 _ _ _ zb8).trans rfl;have u2:=(cell_of_row W8 _ 2 _ _ _ zb8).trans rfl;have u3:=(cell_of_row W8 _ 3 _ _ _ zb8).trans rfl;have ul:w'.heap.size+bs3.size<W8.heap.size:=(Array.getElem?_eq_some_iff.1 zb8).1;clear zb8;have HOW:=HOW4;clear hW8 zb7 HS7 HG7 x7 xl7 zl7 zc3 zf3;obtain⟨bs8,d8,rfl⟩:=HG8.out;have HST8:=HS8.out;simp only [World.grow_grow]at u0 u1 u2 u3 ul HST8;replace HST8:=yq HST8;clear HS8 HG8
    go_wp2_with fail
    go_returns
    exact GrP.ok HF.out eB (bi.lit (X:=(((((w.alloc ((.cells #[.int .i64 x0,.int .i64 x1,.int .i64 x2,.slice a3 V.cr.length k3,.slice a4 V.se.length k4,.slice a5 V.le.length k5,.slice (some ⟨bg,og,none⟩) V.gr.length k6,.slice a7 V.re.length k7] 36))).alloc (.cells #[.int .i64 b] 3)).alloc ((.cells #[.int .i64 v.age,.int .i64 v.year,.int .i64 v.children,.int .i64 v.insured,.int .i64 v.worked,.int .i64 v.voluntary,.int .i64 v.service,.int .i64 v.equated,.int .i64 v.raising,.int .i64 v.resident,.int .i64 v.bn,.int .i64 v.bd,.slice ya v.years.length yc] 41))).alloc (.cells #[.bool false,.int .i64 0,.int .i64 0,.slice none 0 0] 46)))) (Y:=((((w.alloc ((.cells #[.int .i64 x0,.int .i64 x1,.int .i64 x2,.slice a3 V.cr.length k3,.slice a4 V.se.length k4,.slice a5 V.le.length k5,.slice (some ⟨bg,og,none⟩) V.gr.length k6,.slice a7 V.re.length k7] 36))).alloc (.cells #[.int .i64 b] 3)).alloc ((.cells #[.int .i64 v.age,.int .i64 v.year,.int .i64 v.children,.int .i64 v.insured,.int .i64 v.worked,.int .i64 v.voluntary,.int .i64 v.service,.int .i64 v.equated,.int .i64 v.raising,.int .i64 v.resident,.int .i64 v.bn,.int .i64 v.bd,.slice ya v.years.length yc] 41))).alloc (.cells #[.bool true,.int .i64 pn,.int .i64 pd,.slice va2 vn2 vcap2] 46))) (d':=d8) zg HST8.out (fun k hk=>by have:=HOW.out k hk;simp at this ⊢;omega) eB) (fun k hk=>by have:=HOW.out k hk;simp at this;omega)
   ·have hF2:fH V b v=((true,0,1),st2'++[(kI,⟨pm,py,pn,pd⟩)],0):=by
     rw [hF];by_cases h0:pn<0
     ·rw [if_pos h0]
     ·obtain rfl:pn=0:=by omega
      rw [if_neg h0,DJ hvf]
    have HF:=yq hF2;clear hF hF2 hvf
    go_upto_region 20 with (go_at_call 43;refine HL2.out.mono ?_;rintro e3 w3 ⟨rfl,bs5,d5,rfl⟩)
    refine fF (fun W7 hW7=>?_)
    have zb7:W7.heap[w'.heap.size+bs3.size]? =some (.cells #[.bool true,.int .i64 0,.int .i64 1,.slice none 0 0] 46 (0,0)):=by
     rw [<-hW7,Below.heap_alloc _ _ _ zp,World.heap_grow _ _ _ ze];exact HZB.out
    have hk7:∀b,b<w''.heap.size->b≠w'.heap.size+bs3.size->W7.heap[b]? =w''.heap[b]?:=fun b hb hne=>by
     rw [<-hW7,Below.heap_alloc _ _ _ zp,World.heap_grow _ _ _ ze]
    have hs7:w''.heap.size<=W7.heap.size:=by rw [<-hW7];simp;omega
    have HG7:Hid (((World.grow (((((w.alloc ((.cells #[.int .i64 x0,.int .i64 x1,.int .i64 x2,.slice a3 V.cr.length k3,.slice a4 V.se.length k4,.slice a5 V.le.length k5,.slice (some ⟨bg,og,none⟩) V.gr.length k6,.slice a7 V.re.length k7] 36))).alloc (.cells #[.int .i64 b] 3)).alloc ((.cells #[.int .i64 v.age,.int .i64 v.year,.int .i64 v.children,.int .i64 v.insured,.int .i64 v.worked,.int .i64 v.voluntary,.int .i64 v.service,.int .i64 v.equated,.int .i64 v.raising,.int .i64 v.resident,.int .i64 v.bn,.int .i64 v.bd,.slice ya v.years.length yc] 41))).alloc (.cells #[.bool false,.int .i64 0,.int .i64 0,.slice none 0 0] 46))) B d1)).Grows W7):=yq (by
     rw [<-hW7]
     exact gqq HG4.out eB)
    have x7:W7.cell? ⟨((w.heap.size+1+1+1+1+B.size)),13,none⟩=some (.slice va2 vn2 vcap2):=(World.cell?_of_block (a:=⟨((w.heap.size+1+1+1+1+B.size)),13,none⟩) (hk7 ((w.heap.size+1+1+1+1+B.size)) yl ze)).trans y13;have xl7:((w.heap.size+1+1+1+1+B.size))<W7.heap.size:=by omega
    have zl7:w'.heap.size+bs3.size<W7.heap.size:=by omega
    have zc3:=(cell_of_row W7 _ 3 _ _ _ zb7).trans rfl;have zf3:=Joins.unfrozen_of_block zb7 3;have HS7:=yq ((HD4.out.steps HSN.out).same hs7 (fun k hk=>hk7 k (HD4.out.row.lt k hk).2 (own_ne HD4.out.row HZB.out zo k hk)));clear hW7 y13 yl z0 z1 z2 z3 zf1 zf2 zl
    go_upto_region 21 with fail
    refine fF (fun W8 hW8=>?_);have zb8:W8.heap[w'.heap.size+bs3.size]? =some (.cells #[.bool true,.int .i64 0,.int .i64 1,.slice va2 vn2 vcap2] 46 (0,0)):=by rw [<-hW8];exact Joins.block_setCell zb7 _
    have HG8:Hid (((World.grow (((((w.alloc ((.cells #[.int .i64 x0,.int .i64 x1,.int .i64 x2,.slice a3 V.cr.length k3,.slice a4 V.se.length k4,.slice a5 V.le.length k5,.slice (some ⟨bg,og,none⟩) V.gr.length k6,.slice a7 V.re.length k7] 36))).alloc (.cells #[.int .i64 b] 3)).alloc ((.cells #[.int .i64 v.age,.int .i64 v.year,.int .i64 v.children,.int .i64 v.insured,.int .i64 v.worked,.int .i64 v.voluntary,.int .i64 v.service,.int .i64 v.equated,.int .i64 v.raising,.int .i64 v.resident,.int .i64 v.bn,.int .i64 v.bd,.slice ya v.years.length yc] 41))).alloc (.cells #[.bool false,.int .i64 0,.int .i64 0,.slice none 0 0] 46))) B d1)).Grows W8):=yq (by
     rw [<-hW8]
     exact .of_below (HG7.out.below.setCell (show((World.grow (((((w.alloc ((.cells #[.int .i64 x0,.int .i64 x1,.int .i64 x2,.slice a3 V.cr.length k3,.slice a4 V.se.length k4,.slice a5 V.le.length k5,.slice (some ⟨bg,og,none⟩) V.gr.length k6,.slice a7 V.re.length k7] 36))).alloc (.cells #[.int .i64 b] 3)).alloc ((.cells #[.int .i64 v.age,.int .i64 v.year,.int .i64 v.children,.int .i64 v.insured,.int .i64 v.worked,.int .i64 v.voluntary,.int .i64 v.service,.int .i64 v.equated,.int .i64 v.raising,.int .i64 v.resident,.int .i64 v.bn,.int .i64 v.bd,.slice ya v.years.length yc] 41))).alloc (.cells #[.bool false,.int .i64 0,.int .i64 0,.slice none 0 0] 46))) B d1)).heap.size<=w'.heap.size+bs3.size from by have:=HG2.out.below.size;omega) _))
    have HS8:=yq (HS7.out.same (w':=W8) (by rw [<-hW8];simp) (fun k hk=>by rw [<-hW8];exact Below.heap_setCell _ _ _ _ (own_ne HD4.out.row HZB.out zo k hk)));have u0:=(cell_of_row W8 _ 0 _ _ _ zb8).trans rfl;have u1:=(cell_of_row W8 _ 1 _ _ _ zb8).trans rfl;have u2:=(cell_of_row W8 _ 2 _ _ _ zb8).trans rfl;have u3:=(cell_of_row W8 _ 3 _ _ _ zb8).trans rfl;have ul:w'.heap.size+bs3.size<W8.heap.size:=(Array.getElem?_eq_some_iff.1 zb8).1;clear zb8;have HOW:=HOW4;clear hW8 zb7 HS7 HG7 x7 xl7 zl7 zc3 zf3;obtain⟨bs8,d8,rfl⟩:=HG8.out;have HST8:=HS8.out;simp only [World.grow_grow]at u0 u1 u2 u3 ul HST8;replace HST8:=yq HST8;clear HS8 HG8
    go_wp2_with fail
    go_returns
    exact GrP.ok HF.out eB (bi.lit (X:=(((((w.alloc ((.cells #[.int .i64 x0,.int .i64 x1,.int .i64 x2,.slice a3 V.cr.length k3,.slice a4 V.se.length k4,.slice a5 V.le.length k5,.slice (some ⟨bg,og,none⟩) V.gr.length k6,.slice a7 V.re.length k7] 36))).alloc (.cells #[.int .i64 b] 3)).alloc ((.cells #[.int .i64 v.age,.int .i64 v.year,.int .i64 v.children,.int .i64 v.insured,.int .i64 v.worked,.int .i64 v.voluntary,.int .i64 v.service,.int .i64 v.equated,.int .i64 v.raising,.int .i64 v.resident,.int .i64 v.bn,.int .i64 v.bd,.slice ya v.years.length yc] 41))).alloc (.cells #[.bool false,.int .i64 0,.int .i64 0,.slice none 0 0] 46)))) (Y:=((((w.alloc ((.cells #[.int .i64 x0,.int .i64 x1,.int .i64 x2,.slice a3 V.cr.length k3,.slice a4 V.se.length k4,.slice a5 V.le.length k5,.slice (some ⟨bg,og,none⟩) V.gr.length k6,.slice a7 V.re.length k7] 36))).alloc (.cells #[.int .i64 b] 3)).alloc ((.cells #[.int .i64 v.age,.int .i64 v.year,.int .i64 v.children,.int .i64 v.insured,.int .i64 v.worked,.int .i64 v.voluntary,.int .i64 v.service,.int .i64 v.equated,.int .i64 v.raising,.int .i64 v.resident,.int .i64 v.bn,.int .i64 v.bd,.slice ya v.years.length yc] 41))).alloc (.cells #[.bool true,.int .i64 0,.int .i64 1,.slice va2 vn2 vcap2] 46))) (d':=d8) zg HST8.out (fun k hk=>by have:=HOW.out k hk;simp at this ⊢;omega) eB) (fun k hk=>by have:=HOW.out k hk;simp at this;omega)
theorem tC(V:dH)(v:Vw)(b x0 x1 x2:Int)(v3 v4 v5 v6 v7 y s:Value)(st2:List (ByteArray × Val))(w:World)(h:vw w V v3 v4 v5 v6 v7)(hnx:gT 2 w v3 V.cr.length/\gT 3 w v4 V.se.length)(hcp:je v3/\je v6/\je v7)(hs:lI V)(h10:V.le.length<=10)(ht:Tab w)(hrng:dV v)(hY:bI w y v.years)(h2:bi w s st2) :
 Calls prog 10 #[.agg #[.int .i64 x0,.int .i64 x1,.int .i64 x2,v3,v4,v5,v6,v7],.int .i64 b,vwV v y,s] w fun e w'=>∃q,e= .returned (.bool q)/\(q=true↔(fH V b v).2.2=0/\(fH V b v).2.1=st2)/\w.Grows w':=by
 have HA:=yq (fun W (hg:w.Grows W)=>Fz V v b x0 x1 x2 v3 v4 v5 v6 v7 y W (h.grows hg) ⟨hnx.1.grows hg,hnx.2.grows hg⟩ hcp hs h10 (ht.grows hg) hrng (hY.grows hg));obtain⟨-,a3,k3,rfl,-⟩:=h.cr;obtain⟨-,a4,k4,rfl,-⟩:=h.se;obtain⟨-,a5,k5,rfl,-⟩:=h.le;obtain⟨-,a6,k6,rfl,-⟩:=h.gr;obtain⟨-,a7,k7,rfl,-⟩:=h.re;obtain⟨-,ya,yc,rfl,-⟩:=hY;have H2:=yq h2;obtain⟨-,ta,tc,rfl,-⟩:=h2;obtain⟨⟨⟨gh,gn,gd⟩,st,c⟩,hr⟩:∃r,fH V b v=r:=⟨_,rfl⟩;unfold GrP vwV at HA;unfold vwV;simp only [length_map,hr]at HA ⊢;clear hr h hnx hcp hs ht hrng;have HE:=yq (fun W sv (hg:w.Grows W) (hs:bi W sv st)=>Q9 st st2 sv _ W hs (H2.out.grows hg));by_cases hc:c=0
 ·subst hc
  go_enter func10,ntmps10
  go_wp2_with (first
   |(go_at_call 20;refine(HA.out _ ag).mono ?_;rintro e' w' ⟨sv,rfl,⟨bB,dB,rfl⟩,hsv,-⟩;have HSV:=yq hsv;obtain⟨-,sa,sc,rfl,-⟩:=hsv)
   |(go_at_call 21;refine(HE.out _ _ ag (HSV.out.grows ag)).mono ?_;rintro e' w' ⟨q,rfl,hq,bC,dC,rfl⟩;have HQ:=yq hq;clear hq))
  go_returns
  exact⟨_,rfl,⟨fun e=>⟨by trivial,HQ.out.1 e⟩,fun e=>HQ.out.2 e.2⟩,ag⟩
 ·have hc2:(c==0)=false:=by simpa using hc
  have HC:=yq hc;clear hc
  go_enter func10,ntmps10
  go_wp2_with (go_at_call 20;refine(HA.out _ ag).mono ?_;rintro e' w' ⟨sv,rfl,⟨bB,dB,rfl⟩,hsv,-⟩;have HSV:=yq hsv;obtain⟨-,sa,sc,rfl,-⟩:=hsv)
  go_returns
  exact⟨_,rfl,⟨fun e=>absurd e zg,fun e=>absurd e.1 HC.out⟩,ag⟩
end Go.Proofs.YtcfpoofhokbhlaaGreatDoor
