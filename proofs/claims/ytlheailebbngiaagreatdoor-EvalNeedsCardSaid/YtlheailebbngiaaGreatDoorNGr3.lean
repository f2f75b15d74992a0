import Derived.Test.YtlheailebbngiaaGreatDoorNLtQ
import Derived.Test.YtlheailebbngiaaGreatDoorNNdA
import Derived.Test.YtlheailebbngiaaGreatDoorLVwOf
set_option linter.all false
set_option maxHeartbeats 16000000
set_option maxRecDepth 1000000
namespace Go.Proofs.YtlheailebbngiaaGreatDoor
open Go.RowKit
def checkF(V:VerP)(v:Vw):Int:=if v.ok=false then 1 else versF V
theorem check_any(V:VerP)(v:Vw)(y:Value)(x0 x1 x2:Int)(v3 v4 v5 v6 v7:Value)(w:World)(h:VerC w V v3 v4 v5 v6 v7)(hnx:NumsX 2 w v3 V.cr.length∧NumsX 3 w v4 V.se.length)(hcp:CapOk v3∧CapOk v6∧CapOk v7)(hs:VerSm V)(ht:Tab w)(hrng:VwRng v)(hY:YrAt w y v.years) :
 Calls Tryz.prog 77 #[.agg #[.int .i64 x0,.int .i64 x1,.int .i64 x2,v3,v4,v5,v6,v7],vwV v y] w fun e w'=>e= .returned (.int .i64 (checkF V v))∧w.Grows w':=by
 have HV:=zh h;have HN:=zh hnx;have HCP:=zh hcp;have HS:=zh hs;have HT:=zh ht;have HY:=zh hY;have HVW:=zh (fun w' (hg:w.Grows w')=>ValidView2_any v y w' hrng (HY.out.grows hg));have HVR:=zh (fun w' (hg:w.Grows w')=>Version2_any V x0 x1 x2 v3 v4 v5 v6 v7 w' (HV.out.grows hg) ⟨HN.out.1.grows hg,HN.out.2.grows hg⟩ HCP.out HS.out (HT.out.grows hg));obtain⟨-,a3,k3,rfl,-⟩:=h.cr;obtain⟨-,a4,k4,rfl,-⟩:=h.se;obtain⟨-,a5,k5,rfl,-⟩:=h.le;obtain⟨-,a6,k6,rfl,-⟩:=h.gr;obtain⟨-,a7,k7,rfl,-⟩:=h.re;obtain⟨-,ya,yc,rfl,-⟩:=hY;unfold vwV at HVW;unfold vwV;simp only [List.length_map]at HVR ⊢;clear h hnx hcp hs ht hrng
 cases hok:v.ok with
 |false=>
  have HF:Hid (checkF V v=1):=zh (by unfold checkF;rw [if_pos hok]);rw [hok]at HVW;clear hok
  go_enter Tryz.func77,Tryz.ntmps77
  go_wp2_with (go_at_call 20;refine(HVW.out _ growsA).mono ?_;rintro e' w' ⟨rfl,bs,d,rfl⟩)
  go_returns
  exact⟨by rw [HF.out]<;>rfl,growsA⟩
 |true=>
  have HF:Hid (checkF V v=versF V):=zh (by unfold checkF;rw [if_neg (by rw [hok];simp)]);rw [hok]at HVW;clear hok
  go_enter Tryz.func77,Tryz.ntmps77
  go_wp2_with (first|(go_at_call 20;refine(HVW.out _ growsA).mono ?_;rintro e' w' ⟨rfl,bs,d,rfl⟩)|(go_at_call 124;refine(HVR.out _ growsA).mono ?_;rintro e' w' ⟨rfl,bs2,d2,rfl⟩))
  go_returns
  exact⟨by rw [HF.out]<;>rfl,growsA⟩
theorem last_any(v:Vw)(y:Value)(st:List (ByteArray × Val))(p:ByteArray × Val)(vb:Value)(X:Nat)(w:World)(hev:w.heap[X]? =some (.cells (evC v y vb) 126 (0,0)))(hst:StpAt w vb (st++[p])) :
 Calls Tryz.prog 81 #[.pointer (some ⟨X,0,none⟩)] w fun e w'=>e= .returned (valV p.2)∧w.Grows w':=by
 obtain⟨h1000,a,cap,rfl,h0|⟨b,off,rfl,hb,hc⟩⟩:=hst
 ·simp at h0
 obtain⟨s0,s1,s2,s3,s4⟩:=hc st.length (by simp);have e1:stV (st++[p]) st.length=p.2:=by simp [stV,List.getD_eq_getElem?_getD]
 have hl:(st++[p]).length=st.length+1:=by simp
 rw [e1]at s1 s2 s3 s4;rw [hl]at hev h1000;have x13:w.cell? ⟨X,13,none⟩=some (.slice (some ⟨b,off,none⟩) (st.length+1) cap):=by rw [cell_of_row w _ _ _ _ _ hev];rfl
 have hX:X<w.heap.size:=(Array.getElem?_eq_some_iff.1 hev).1;generalize st.length=n at *;have d1:((n+1:Nat):Int)-1=(n:Int):=by omega
 have d2:(n:Int)<((n+1:Nat):Int):=by omega
 have d3:(0:Int)≤(n:Int):=by omega
 obtain⟨nm,x⟩:=p;dsimp only at s1 s2 s3 s4;unfold valV;dsimp only;clear hc hev e1 hl s0
 go_enter Tryz.func81,Tryz.ntmps81
 go_wp2_with fail
 go_region
 go_wp2_with fail
 go_returns
 exact⟨rfl,.of_below belB⟩
theorem fld1(m n d:Int)(y:Bool)(w:World):(Instr.field 34 (.agg #[.int .i64 m,.bool y,.int .i64 n,.int .i64 d]) 1).run Tryz.prog w= .ok (.bool y) w:=by kernel_rfl
theorem fld2(m n d:Int)(y:Bool)(w:World):(Instr.field 34 (.agg #[.int .i64 m,.bool y,.int .i64 n,.int .i64 d]) 2).run Tryz.prog w= .ok (.agg #[.int .i64 n,.int .i64 d]) w:=by kernel_rfl
theorem gr_apart{env:List (ByteArray × Int)}:∀(l:List (Int × Ex × Ex)) (pre:List Int),grG env pre l=0→(∀g∈l,pre.contains g.1=false)∧l.Pairwise (fun a b=>a.1≠b.1)
 | [],_,_=>⟨fun _ h=>by(cases h),.nil⟩
 |g::r,pre,h=>by
  rw [grG]at h
  split at h
  ·cases h
  rename_i h0
  split at h
  ·rename_i h1;exact absurd h h1
  split at h
  ·rename_i h1;exact absurd h h1
  obtain⟨a,b⟩:=gr_apart r _ h;have ha:=fun x hx=>Bool.eq_false_iff.1 (a x hx);refine⟨fun x hx=>?_,List.pairwise_cons.2 ⟨fun x hx e=>ha x hx (List.contains_iff_mem.2 (List.mem_append.2 (.inr (by simp [e])))),b⟩⟩;rcases List.mem_cons.1 hx with rfl|hx
  ·simpa using h0
  ·exact Bool.eq_false_iff.2 fun c=>ha x hx (List.contains_iff_mem.2 (List.mem_append.2 (.inl (List.contains_iff_mem.1 c))))
theorem re_apart{env:List (ByteArray × Int)}:∀(l:List (Int × Ex)) (pre:List Int),reG env pre l=0→(∀g∈l,pre.contains g.1=false)∧l.Pairwise (fun a b=>a.1≠b.1)
 | [],_,_=>⟨fun _ h=>by(cases h),.nil⟩
 |g::r,pre,h=>by
  rw [reG]at h
  split at h
  ·cases h
  rename_i h0
  split at h
  ·rename_i h1;exact absurd h h1
  obtain⟨a,b⟩:=re_apart r _ h;have ha:=fun x hx=>Bool.eq_false_iff.1 (a x hx);refine⟨fun x hx=>?_,List.pairwise_cons.2 ⟨fun x hx e=>ha x hx (List.contains_iff_mem.2 (List.mem_append.2 (.inr (by simp [e])))),b⟩⟩;rcases List.mem_cons.1 hx with rfl|hx
  ·simpa using h0
  ·exact Bool.eq_false_iff.2 fun c=>ha x hx (List.contains_iff_mem.2 (List.mem_append.2 (.inl (List.contains_iff_mem.1 c))))
theorem vers_apart{V:VerP}(h:versF V=0):V.gr.Pairwise (fun a b=>a.1≠b.1)∧V.re.Pairwise (fun a b=>a.1≠b.1):=by
 unfold versF at h
 split at h
 ·rename_i h1;exact absurd h h1
 split at h
 ·cases h
 split at h
 ·cases h
 split at h
 ·rename_i h2;exact absurd h h2
 rename_i h2
 exact⟨(gr_apart _ _ (Decidable.byContradiction h2)).2,(re_apart _ _ h).2⟩
theorem apart_first{β:Type}[Inhabited (Int × β)]{l:List (Int × β)}{b:Int}{k:Nat}(h:l.Pairwise (fun a b=>a.1≠b.1))(hk:k<l.length)(hb:(l.getD k default).1=b):∀j,j<k→(l.getD j default).1≠b:=fun j hj e=>by
 have hjl:j<l.length:=by omega
 have g:∀i (hi:i<l.length),l.getD i default=l[i]:=fun i hi=>by rw [List.getD_eq_getElem?_getD,List.getElem?_eq_getElem hi];rfl
 exact List.pairwise_iff_getElem.1 h j k hjl hk hj (by rw [←g j hjl,←g k hk,e,hb])
theorem grF_check{V:VerP}{b:Int}{v:Vw}{c:Int}(h:checkF V v=c)(hc:c≠0):grantF V b v=((false,0,0),[],c):=by
 unfold checkF at h
 split at h
 ·subst h;exact grF_view (by assumption)
 ·subst h;exact grF_ver (by simpa using ‹¬v.ok=false›) hc
theorem check_zero{V:VerP}{v:Vw}(h:checkF V v=0):v.ok=true∧versF V=0:=by
 unfold checkF at h
 split at h
 ·cases h
 ·exact⟨by simpa using ‹¬v.ok=false›,h⟩
theorem def_ok{v:Vw}{ls:List (ByteArray × Ex)}{e:Ex}{nm:ByteArray}{D0 D:List Nat}{st0 st:List (ByteArray × Val)}(h:defF v ls e nm D0 st0=(D,st,0)):∃st' x,st=st'++[(nm,x)]∧runU v ls (usesL e ls) D0 st0=(D,st',0)∧valueF v st' e=(x,0):=by
 unfold defF at h
 split at h
 ·rename_i h1;rw [h]at h1;exact absurd rfl h1
 rename_i h1
 split at h
 ·rename_i h2;exact absurd (Prod.mk.inj (Prod.mk.inj h).2).2 h2
 rename_i h2
 obtain⟨h3,h4⟩:=Prod.mk.inj h;obtain⟨h4,-⟩:=Prod.mk.inj h4;exact⟨_,_,h4.symm,Prod.ext h3 (Prod.ext rfl (Decidable.byContradiction h1)),Prod.ext rfl (Decidable.byContradiction h2)⟩
theorem DfAt.start{W0 w1:World}{X N:Nat}{v:Vw}{y:Value}{n:Nat}(hg:W0.Grows w1)(h1:w1.heap[X]? =some (.cells (evC v y (.slice none 0 0)) 126 (0,0)))(h2:w1.heap[N]? =some (.cells (madeCells #[.bool false] n) 4 (0,0))):DfAt W0 w1 X N v y (.slice none 0 0) n [] []:=
 ⟨hg,h1,⟨_,by rw [h2,bbs_made],Marks.zero n⟩,World.ownsRow_nil _ _ _ _,fun k hk=>by cases hk⟩
theorem rowG_on(fn:FuncId){w:World}{a:Option Addr}{cap n i:Nat}{l:List (Int × Ex × Ex)}(h:GrantsAt w (.slice a n cap) l)(hi:i≤l.length)(lb:Array Value)(p:Nat→Bool)
 (hp:∀k,k<i→∀(a1 a2 a3 a4 a5 a6 a7 a8 a9 a10 a11 a12:Value),∀w',w.Grows w'→Calls Tryz.prog fn (#[.agg (.int .i64 (l.getD k default).1::[a1,a2,a3,a4,a5,a6,a7,a8,a9,a10,a11,a12]).toArray]++lb) w' fun r w''=>r= .returned (.bool (p k))∧w'.Grows w'') :
 RowP 13 fn lb p w (.slice a i cap) i:=by
 obtain⟨h0,a1,c1,hv1,h1⟩:=h;simp only [Value.slice.injEq]at hv1;obtain⟨rfl,rfl,rfl⟩:=hv1;refine⟨by omega,a,cap,rfl, ?_⟩;by_cases hz:i=0
 ·exact .inl hz
 rcases h1 with h1|⟨b,off,rfl,hb,hc⟩
 ·omega
 refine .inr ⟨b,off,rfl,hb,fun k hk=>?_⟩;obtain⟨u,u',g⟩:=hc k (by omega);refine⟨[.int .i64 (l.getD k default).1,.int .i64 (l.getD k default).2.1.op,.int .i64 (l.getD k default).2.1.num,.int .i64 (l.getD k default).2.1.den,.int .i64 (l.getD k default).2.1.dim,.string (l.getD k default).2.1.name,u,.int .i64 (l.getD k default).2.2.op,.int .i64 (l.getD k default).2.2.num,.int .i64 (l.getD k default).2.2.den,.int .i64 (l.getD k default).2.2.dim,.string (l.getD k default).2.2.name,u'],rfl,fun j x hj=>?_,hp k hk _ _ _ _ _ _ _ _ _ _ _ _⟩
 match j,hj with
 |0,hj=>cases hj;exact g.nm
 |1,hj=>cases hj;exact g.c0
 |2,hj=>cases hj;exact g.c1
 |3,hj=>cases hj;exact g.c2
 |4,hj=>cases hj;exact g.c3
 |5,hj=>cases hj;exact g.c4
 |6,hj=>cases hj;exact g.c5
 |7,hj=>cases hj;exact g.e0
 |8,hj=>cases hj;exact g.e1
 |9,hj=>cases hj;exact g.e2
 |10,hj=>cases hj;exact g.e3
 |11,hj=>cases hj;exact g.e4
 |12,hj=>cases hj;exact g.e5
theorem cloGa:∀args w,(callFunc 86 args).run Tryz.prog w= .ok (.enter 86 args) w:=enters_of Tryz.func86 (by kernel_rfl) rfl
theorem sameGa_any(z y:Int)(a1 a2 a3 a4 a5 a6 a7 a8 a9 a10 a11 a12:Value)(b:Nat)(w:World)(hb:w.heap[b]? =some (.cells #[.int .i64 y] 3 (0,0))) :
 Calls Tryz.prog 86 (#[.agg (.int .i64 z::[a1,a2,a3,a4,a5,a6,a7,a8,a9,a10,a11,a12]).toArray]++#[.pointer (some ⟨b,0,none⟩)]) w fun r w'=>r= .returned (.bool (decide (z=y)))∧w.Grows w':=by
 show Calls Tryz.prog 86 #[.agg #[.int .i64 z,a1,a2,a3,a4,a5,a6,a7,a8,a9,a10,a11,a12],.pointer (some ⟨b,0,none⟩)] w _;have hbl:b<w.heap.size:=(Array.getElem?_eq_some_iff.1 hb).1;have x0:w.cell? ⟨b,0,none⟩=some (.int .i64 y):=by rw [cell_of_row w b _ _ _ _ hb];rfl
 clear hb;by_cases hn:z=y
 ·have h2:(z==y)=true:=by rw [hn];simp
  have HD:Hid (decide (z=y)=true):=zh (decide_eq_true hn);clear hn
  go_enter Tryz.func86,Tryz.ntmps86
  go_wp2_with fail
  go_returns
  exact⟨ret_bool HD.out.symm,.of_below belB⟩
 ·have h2:(z==y)=false:=by simpa using hn
  have HD:Hid (decide (z=y)=false):=zh (decide_eq_false hn);clear hn
  go_enter Tryz.func86,Tryz.ntmps86
  go_wp2_with fail
  go_returns
  exact⟨ret_bool HD.out.symm,.of_below belB⟩
theorem StpAt.lit{X Y w':World}{bs:Array Obj}{d d':Nat}{v:Value}{st:List (ByteArray × Val)}(hs:X.heap.size=Y.heap.size)(h:StpAt (X.grow bs d) v st)(hk:∀k,v.ownBlock=some k→X.heap.size≤k)(hg:(Y.grow bs d').Grows w'):StpAt w' v st:=(h.moved hs hk).grows hg
theorem own_ne{w:World}{base size n Z:Nat}{e e':TypeId}{v:Value}{xs:List Value}{cs:Array Value}(h:w.ownsRow base e size v n xs)(hz:w.heap[Z]? =some (.cells cs e' (0,0)))(he:e≠e'):∀k,v.ownBlock=some k→k≠Z:=by
 rintro k hk rfl;rcases h.2 with ⟨rfl,-⟩|⟨g,cap,cur,rfl,-,hg,-⟩
 ·cases hk
 ·obtain rfl:g=k:=by simpa [Value.ownBlock]using hk
  rw [hz]at hg;simp only [Option.some.injEq,Obj.cells.injEq]at hg;exact he hg.2.1.symm
theorem vfrac_null{d:Int}(h:vfrac 0 d=true):d=1:=by
 have h1:=vfrac_bd h;have h2:=vfrac_gcd h;simp at h2;omega
theorem Grant2_any(V:VerP)(v:Vw)(b x0 x1 x2:Int)(v3 v4 v5 v6 v7 y:Value)(w:World)(h:VerC w V v3 v4 v5 v6 v7)(hnx:NumsX 2 w v3 V.cr.length∧NumsX 3 w v4 V.se.length)(hcp:CapOk v3∧CapOk v6∧CapOk v7)(hs:VerSm V)(h10:V.le.length≤10)(ht:Tab w)(hrng:VwRng v)(hY:YrAt w y v.years) :
 Calls Tryz.prog 42 #[.agg #[.int .i64 x0,.int .i64 x1,.int .i64 x2,v3,v4,v5,v6,v7],.int .i64 b,vwV v y] w (GrP (grantF V b v) w):=by
 have HV:=zh h;have HS:=zh hs;have HY:=zh hY;have HT:=zh ht;have HCP:=zh hcp;have HNX:=zh hnx;have hle:=h.le.1;have hmk:=run_make_row' (P:=Tryz.prog) 139 4 (.bool false) 1 Tryz.underlying139 infoBo rfl .i64 .i64 V.le.length (by omega) (by omega);have HCK:=zh (fun w' (hg:w.Grows w')=>check_any V v y x0 x1 x2 v3 v4 v5 v6 v7 w' (HV.out.grows hg) ⟨HNX.out.1.grows hg,HNX.out.2.grows hg⟩ HCP.out HS.out (HT.out.grows hg) hrng (HY.out.grows hg));obtain⟨-,a3,k3,rfl,-⟩:=h.cr;obtain⟨-,a4,k4,rfl,-⟩:=h.se;obtain⟨-,a5,k5,rfl,-⟩:=h.le;obtain⟨-,a6,k6,rfl,-⟩:=h.gr;obtain⟨-,a7,k7,rfl,-⟩:=h.re;obtain⟨-,ya,yc,rfl,-⟩:=id hY;obtain⟨c,hc0⟩:∃c,checkF V v=c:=⟨_,rfl⟩;rw [hc0]at HCK;unfold vwV at HCK;unfold vwV;simp only [List.length_map]at HCK ⊢;have HRNG:=zh hrng;clear h hs hnx hcp ht hrng hY;by_cases hc:c=0
 case neg=>
  have HF:=zh (grF_check (b:=b) hc0 hc);have hc2:(c !=0)=true:=by simpa using hc
  clear hc hc0 hmk hle
  go_enter Tryz.func42,Tryz.ntmps42
  go_wp2_with (go_at_call 77;refine(HCK.out _ growsA).mono ?_;rintro e' w' ⟨rfl,bs,d,rfl⟩)
  go_returns
  exact GrP.bad HF.out growsA
 subst hc;obtain⟨hok,hvz⟩:=check_zero hc0;have hap:=(vers_apart hvz).1;have HOK:=zh hok;have HVO:=zh (VerOk.of hvz);have HFN:=zh (fun hn=>grF_none (b:=b) hok hvz (find_none hn));have HFA:=zh (fun(k:Nat) (hk:k<V.gr.length) (hb:(V.gr.getD k default).1=b)=>grF_some (b:=b) hok hvz (find_some hk (apart_first hap hk hb) hb));have HIX:=zh (fun w' (hg:w.Grows w') (hb:w'.heap[w.heap.size+1]? =some (.cells #[.int .i64 b] 3 (0,0)))=>idxG_any 86 #[.pointer (some ⟨w.heap.size+1,0,none⟩)] cloGa (fun k=>decide ((V.gr.getD k default).1=b)) (.slice a6 V.gr.length k6) V.gr.length w' (rowG_on 86 (HV.out.gr.grows hg) (Nat.le_refl _) _ _ (fun k hk a1 a2 a3 a4 a5 a6 a7 a8 a9 a10 a11 a12 w2 hg2=>sameGa_any (V.gr.getD k default).1 b a1 a2 a3 a4 a5 a6 a7 a8 a9 a10 a11 a12 (w.heap.size+1) w2 ((hg2.below.block _ (Array.getElem?_eq_some_iff.1 hb).1).trans hb))));clear hok hvz hap hc0
 go_enter Tryz.func42,Tryz.ntmps42
 go_wp2_with (go_at_call 77;refine(HCK.out _ growsA).mono ?_;rintro e' w' ⟨rfl,bs,d,rfl⟩)
 go_at_call 85
 refine(HIX.out _ growsA ((World.heap_grow _ _ _ (by simp;try omega)).trans ((Below.heap_alloc _ _ _ (by simp;try omega)).trans ((Below.heap_alloc _ _ _ (by simp)).trans (heap_new _ _ _ (by simp)))))).mono ?_;rintro e' w' ⟨⟨z,rfl,hz⟩,bs1,d1,rfl⟩;clear HIX HCK;rcases hz with ⟨rfl,hno⟩|⟨k,hk,rfl,hkb⟩
 ·have HF:=zh (HFN.out (fun j hj=>of_decide_eq_false (hno j hj)));clear hno hmk
  go_wp2_with fail
  go_returns
  exact GrP.bad HF.out growsR
 ·have hkb:=of_decide_eq_true hkb;have hFA:=HFA.out k hk hkb;clear HFA HFN;obtain⟨-,a',c',hv',hx⟩:=HV.out.gr;simp only [Value.slice.injEq,true_and]at hv';obtain⟨rfl,rfl⟩:=hv';rcases hx with h0|⟨bg,og,rfl,hbg,hx⟩
  ·omega
  obtain⟨u,u',hg⟩:=hx k hk;have hm:=getD_mem hk;have d1':(k:Int)<(V.gr.length:Int):=by omega
  have d2':¬(k:Int)<0:=by omega
  have d3':(0:Int)≤(k:Int):=by omega
  obtain⟨ty1,ty2⟩:=HVO.out.gr _ hm;obtain⟨sz1,sz2⟩:=HS.out.gr _ hm;obtain⟨q0,p0,p1,p2,p3,p4,p5,r0,r1,r2,r3,r4,r5,hra,hrb⟩:=hg;obtain⟨ia,ic,rfl⟩:=hra.form0;obtain⟨pa,pc,rfl⟩:=hrb.form0;generalize V.gr.getD k default=g at *;have HLS:=zh HVO.out.ls;have HLE:=zh (show ∀t∈V.le,t.2.size≤1000000 from fun t ht=>(HS.out.le t ht).2);obtain⟨⟨D,st,c⟩,hr⟩:∃r,defF v V.le g.2.1 ifN [] []=r:=⟨_,rfl⟩;have hD1:=fun W0 (hg:w.Grows W0) w1 X N (hD:DfAt W0 w1 X N v (.slice ya v.years.length yc) (.slice none 0 0) V.le.length [] []) hXN hXW hNW hX1 hN1=>define2_any V.le (letsF V.le).1 v g.2.1 (.slice ia g.2.1.args.length ic) (.slice ya v.years.length yc) (.slice none 0 0) ifN a5 k5 V.le.length W0 w1 X N [] [] 1 HLS.out h10 HLE.out HOK.out HRNG.out kw_names.1 ty1 sz1 (hra.grows hg) (HV.out.le.grows hg) (HY.out.grows hg) hD (StOk.zero _ _) (by simp) hXN hXW hNW w1.heap.size (Nat.le_refl _) hX1 hN1 (fun k hk=>by cases hk);simp only [hr]at hD1;unfold DefP exV ifN at hD1;dsimp only at hD1;have HD1:=zh hD1;have HRB:=zh hrb;have HR:=zh hr;have HTY:=zh ty1;have HTY2:=zh ty2;have HFA:=zh hFA;simp only [World.grow_grow];generalize bs++bs1=B;clear hD1 hr hra hrb ty1 ty2 hFA hx hk hkb hm HVO
  go_wp2_with fail
  refine TS.begin [9,10] (World.Grows _) (by kernel_rfl) (by kernel_rfl) grows_drew0 (fun hS=>?_);refine TS.wkB 0 hS ?_;refine TS.wkB 1 hS ?_;refine TS.wkB 2 hS ?_;refine TS.wkB 3 hS ?_;refine TS.wkB 4 hS ?_;refine TS.wkB 5 hS ?_;refine TS.wkB 6 hS ?_;refine TS.wkB 7 hS ?_;refine TS.wkB 8 hS ?_;refine TS.one (i:=9) (by kernel_rfl) rfl (fun K1 hK1=>?_);have HK1:=zh hK1;clear hK1 hS;dsimp only [List.getElem_toArray,List.getElem_cons_succ,List.getElem_cons_zero]
  go_simp
  go_at_call 80
  refine(HD1.out ((World.grow (((((w.alloc ((.cells #[.int .i64 x0,.int .i64 x1,.int .i64 x2,.slice a3 V.cr.length k3,.slice a4 V.se.length k4,.slice a5 V.le.length k5,.slice (some ⟨bg,og,none⟩) V.gr.length k6,.slice a7 V.re.length k7] 81))).alloc (.cells #[.int .i64 b] 3)).alloc ((.cells #[.int .i64 v.age,.int .i64 v.year,.int .i64 v.children,.int .i64 v.insured,.int .i64 v.worked,.int .i64 v.voluntary,.int .i64 v.service,.int .i64 v.equated,.int .i64 v.raising,.int .i64 v.resident,.int .i64 v.bn,.int .i64 v.bd,.slice ya v.years.length yc] 26))).alloc (.cells #[.bool false,.int .i64 0,.int .i64 0,.slice none 0 0] 91))) B d1)) growsA _ ((w.heap.size+1+1+1+1+B.size)) (((w.heap.size+1+1+1+1+B.size))+1) (DfAt.start growsA (by exact(Below.heap_alloc _ _ _ (by simp)).trans (heap_new _ _ _ (by simp))) (by exact heap_new _ _ _ (by simp))) (by omega) (by simp) (by simp) (by simp;try omega) (by simp)).mono ?_;rintro e' w' ⟨hG,rfl,hdf⟩;refine HK1.out _ _ (fun h=>absurd (by decide) h) ?_;clear HK1 K1
  (try simp only [nS])
  refine TS.weB 10 ?_;by_cases hc:c=0
  case neg=>
   have hc2:(c !=0)=true:=by simpa using hc
   have HF:=zh (HFA.out.trans (grS_a (by rw [HR.out]) hc));clear hc;obtain⟨bs2,d2,rfl⟩:=hG
   go_wp2_with fail
   go_returns
   exact GrP.bad HF.out growsR
  subst hc;obtain⟨st',x,rfl,hrun,hval⟩:=def_ok HR.out;obtain⟨cm,cy,cn,cd⟩:=x;have hra1:=RunAt.of_run (StOk.zero V.le _) HLS.out HOK.out hrun;have hok1:=(used_val hra1 HLS.out HOK.out HTY.out).2;rw [hval]at hok1;have hx:=(hok1.good rfl).1;have HST1:=zh (hra1.ok.other HLS.out (s:=ifN) kw_names.1 hx);clear hrun hval hra1 hok1 hx;obtain⟨vb,hd,hsl,-⟩:=hdf (by first|rfl|trivial)
  obtain⟨va,vn,vcap,rfl⟩:∃a n c,vb= .slice a n c:=by
   obtain⟨-,a,c,h,-⟩:=hd.steps (by simp at hsl ⊢;omega);exact⟨a,_,c,h⟩
  have HG2:=zh hG;have HD2:=zh hd;have HSL:=zh hsl;have HOW:=zh (fun k hk=>(hd.row.lt k hk).1);have x13:w'.cell? ⟨((w.heap.size+1+1+1+1+B.size)),13,none⟩=some (.slice va vn vcap):=by rw [cell_of_row _ _ _ _ _ _ hd.ev];rfl
  have xl:((w.heap.size+1+1+1+1+B.size))<w'.heap.size:=(Array.getElem?_eq_some_iff.1 hd.ev).1;have hL1:=last_any v _ st' _ (.slice va vn vcap) _ w' hd.ev (hd.steps (by simp at hsl ⊢;omega));unfold valV at hL1;dsimp only at hL1;have HL1:=zh hL1;clear hG hd hsl hdf hL1;have hfd:=fld1 cm cn cd cy
  cases cy with
  |false=>
   have HF:=zh (HFA.out.trans (grS_c HR.out rfl))
   go_upto_region 21 with (go_at_call 81;refine HL1.out.mono ?_;rintro e'' w'' ⟨rfl,bs3,d3,rfl⟩)
   refine wp_abs (fun W8 hW8=>?_);have zb8:W8.heap[w'.heap.size+bs3.size]? =some (.cells #[.bool false,.int .i64 0,.int .i64 1,.slice va vn vcap] 91 (0,0)):=by rw [←hW8];exact heap_new _ _ _ (by simp)
   have HG8:Hid (((World.grow (((((w.alloc ((.cells #[.int .i64 x0,.int .i64 x1,.int .i64 x2,.slice a3 V.cr.length k3,.slice a4 V.se.length k4,.slice a5 V.le.length k5,.slice (some ⟨bg,og,none⟩) V.gr.length k6,.slice a7 V.re.length k7] 81))).alloc (.cells #[.int .i64 b] 3)).alloc ((.cells #[.int .i64 v.age,.int .i64 v.year,.int .i64 v.children,.int .i64 v.insured,.int .i64 v.worked,.int .i64 v.voluntary,.int .i64 v.service,.int .i64 v.equated,.int .i64 v.raising,.int .i64 v.resident,.int .i64 v.bn,.int .i64 v.bd,.slice ya v.years.length yc] 26))).alloc (.cells #[.bool false,.int .i64 0,.int .i64 0,.slice none 0 0] 91))) B d1)).Grows W8):=zh (World.Grows.trans' HG2.out (by rw [←hW8];exact growsR));have HS8:Hid (StpAt W8 (.slice va vn vcap) (st'++[(ifN,⟨cm,false,cn,cd⟩)])):=zh ((HD2.out.steps (by have:=HSL.out;simp at this ⊢;omega)).grows (by rw [←hW8];exact growsR));have u0:=(cell_of_row W8 _ 0 _ _ _ zb8).trans rfl;have u1:=(cell_of_row W8 _ 1 _ _ _ zb8).trans rfl;have u2:=(cell_of_row W8 _ 2 _ _ _ zb8).trans rfl;have u3:=(cell_of_row W8 _ 3 _ _ _ zb8).trans rfl;have ul:w'.heap.size+bs3.size<W8.heap.size:=(Array.getElem?_eq_some_iff.1 zb8).1;clear zb8;clear hW8;obtain⟨bs8,d8,rfl⟩:=HG8.out;have HST8:=HS8.out;simp only [World.grow_grow]at u0 u1 u2 u3 ul HST8;replace HST8:=zh HST8;clear HS8 HG8
   go_wp2_with fail
   go_returns
   exact GrP.ok HF.out growsR (StpAt.lit (X:=(((((w.alloc ((.cells #[.int .i64 x0,.int .i64 x1,.int .i64 x2,.slice a3 V.cr.length k3,.slice a4 V.se.length k4,.slice a5 V.le.length k5,.slice (some ⟨bg,og,none⟩) V.gr.length k6,.slice a7 V.re.length k7] 81))).alloc (.cells #[.int .i64 b] 3)).alloc ((.cells #[.int .i64 v.age,.int .i64 v.year,.int .i64 v.children,.int .i64 v.insured,.int .i64 v.worked,.int .i64 v.voluntary,.int .i64 v.service,.int .i64 v.equated,.int .i64 v.raising,.int .i64 v.resident,.int .i64 v.bn,.int .i64 v.bd,.slice ya v.years.length yc] 26))).alloc (.cells #[.bool false,.int .i64 0,.int .i64 0,.slice none 0 0] 91)))) (Y:=((((w.alloc ((.cells #[.int .i64 x0,.int .i64 x1,.int .i64 x2,.slice a3 V.cr.length k3,.slice a4 V.se.length k4,.slice a5 V.le.length k5,.slice (some ⟨bg,og,none⟩) V.gr.length k6,.slice a7 V.re.length k7] 81))).alloc (.cells #[.int .i64 b] 3)).alloc ((.cells #[.int .i64 v.age,.int .i64 v.year,.int .i64 v.children,.int .i64 v.insured,.int .i64 v.worked,.int .i64 v.voluntary,.int .i64 v.service,.int .i64 v.equated,.int .i64 v.raising,.int .i64 v.resident,.int .i64 v.bn,.int .i64 v.bd,.slice ya v.years.length yc] 26))).alloc (.cells #[.bool false,.int .i64 0,.int .i64 1,.slice va vn vcap] 91))) (d':=d8) (by simp) HST8.out (fun k hk=>by have:=HOW.out k hk;simp at this ⊢;omega) growsR) (fun k hk=>by have:=HOW.out k hk;simp at this;omega)
  |true=>
   obtain⟨⟨D2,st2,c2⟩,hr2⟩:∃r,defF v V.le g.2.2 payN D (st'++[(ifN,⟨cm,true,cn,cd⟩)])=r:=⟨_,rfl⟩;have hD2:=fun W0 (hg:w.Grows W0) w1 X N vb U0 (hl20:(st'++[(ifN,(⟨cm,true,cn,cd⟩:Val))]).length≤20) (hD:DfAt W0 w1 X N v (.slice ya v.years.length yc) vb V.le.length D (st'++[(ifN,⟨cm,true,cn,cd⟩)])) hXN hXW hNW hU0 hXU hNU hvU=>define2_any V.le (letsF V.le).1 v g.2.2 (.slice pa g.2.2.args.length pc) (.slice ya v.years.length yc) vb payN a5 k5 V.le.length W0 w1 X N D (st'++[(ifN,⟨cm,true,cn,cd⟩)]) 4 HLS.out h10 HLE.out HOK.out HRNG.out kw_names.2.1 HTY2.out sz2 (HRB.out.grows hg) (HV.out.le.grows hg) (HY.out.grows hg) hD HST1.out hl20 hXN hXW hNW U0 hU0 hXU hNU hvU;simp only [hr2]at hD2;unfold DefP exV payN at hD2;dsimp only at hD2;have HDD:=zh hD2;have HR2:=zh hr2
   have HBV:Hid (BoxV ((World.grow (((((w.alloc ((.cells #[.int .i64 x0,.int .i64 x1,.int .i64 x2,.slice a3 V.cr.length k3,.slice a4 V.se.length k4,.slice a5 V.le.length k5,.slice (some ⟨bg,og,none⟩) V.gr.length k6,.slice a7 V.re.length k7] 81))).alloc (.cells #[.int .i64 b] 3)).alloc ((.cells #[.int .i64 v.age,.int .i64 v.year,.int .i64 v.children,.int .i64 v.insured,.int .i64 v.worked,.int .i64 v.voluntary,.int .i64 v.service,.int .i64 v.equated,.int .i64 v.raising,.int .i64 v.resident,.int .i64 v.bn,.int .i64 v.bd,.slice ya v.years.length yc] 26))).alloc (.cells #[.bool false,.int .i64 0,.int .i64 0,.slice none 0 0] 91))) B d1)) w.heap.size (.int .i64 x0) (.int .i64 x1) (.int .i64 x2) (.slice a3 V.cr.length k3) (.slice a4 V.se.length k4) (.slice a5 V.le.length k5) (.slice (some ⟨bg,og,none⟩) V.gr.length k6) (.slice a7 V.re.length k7)):=zh (by
    unfold BoxV;rw [World.heap_grow _ _ _ (by simp;try omega),Below.heap_alloc _ _ _ (by simp;try omega),Below.heap_alloc _ _ _ (by simp;try omega),Below.heap_alloc _ _ _ (by simp)]
    exact heap_new _ _ _ rfl)
   clear hD2 hr2;have HBV2:=zh (HBV.out.grows HG2.out);have o5:=HBV2.out.c5;have o6:=HBV2.out.c6;have ol:=HBV2.out.lt;have hgw:w.Grows w':=World.Grows.trans' (show w.Grows ((World.grow (((((w.alloc ((.cells #[.int .i64 x0,.int .i64 x1,.int .i64 x2,.slice a3 V.cr.length k3,.slice a4 V.se.length k4,.slice a5 V.le.length k5,.slice (some ⟨bg,og,none⟩) V.gr.length k6,.slice a7 V.re.length k7] 81))).alloc (.cells #[.int .i64 b] 3)).alloc ((.cells #[.int .i64 v.age,.int .i64 v.year,.int .i64 v.children,.int .i64 v.insured,.int .i64 v.worked,.int .i64 v.voluntary,.int .i64 v.service,.int .i64 v.equated,.int .i64 v.raising,.int .i64 v.resident,.int .i64 v.bn,.int .i64 v.bd,.slice ya v.years.length yc] 26))).alloc (.cells #[.bool false,.int .i64 0,.int .i64 0,.slice none 0 0] 91))) B d1))from growsA) HG2.out;have bl:bg<w'.heap.size:=Nat.lt_of_lt_of_le hbg hgw.below.size;have hce:=fun o=>hgw.below.cell (p:=⟨bg,o,none⟩) hbg;have s0:=(hce _).trans r0;have s1:=(hce _).trans r1;have s2:=(hce _).trans r2;have s3:=(hce _).trans r3;have s4:=(hce _).trans r4;have s5:=(hce _).trans r5;have nl:((w.heap.size+1+1+1+1+B.size))+1<w'.heap.size:=by obtain⟨M,hM,-⟩:=HD2.out.mks;exact(Array.getElem?_eq_some_iff.1 hM).1
   clear hce hgw
   go_wp2_with (go_at_call 81;refine HL1.out.mono ?_;rintro e'' w'' ⟨rfl,bs3,d3,rfl⟩)
   refine TS.begin [9,10] (World.Grows _) (by kernel_rfl) (by kernel_rfl) grows_drew0 (fun hS=>?_);refine TS.wkB 0 hS ?_;refine TS.wkB 1 hS ?_;refine TS.wkB 2 hS ?_;refine TS.wkB 3 hS ?_;refine TS.wkB 4 hS ?_;refine TS.wkB 5 hS ?_;refine TS.wkB 6 hS ?_;refine TS.wkB 7 hS ?_;refine TS.wkB 8 hS ?_;refine TS.one (i:=9) (by kernel_rfl) rfl (fun K1 hK1=>?_);have HK1:=zh hK1;clear hK1 hS;dsimp only [List.getElem_toArray,List.getElem_cons_succ,List.getElem_cons_zero]
   go_simp
   go_at_call 80
   refine(HDD.out ((World.grow (((((w.alloc ((.cells #[.int .i64 x0,.int .i64 x1,.int .i64 x2,.slice a3 V.cr.length k3,.slice a4 V.se.length k4,.slice a5 V.le.length k5,.slice (some ⟨bg,og,none⟩) V.gr.length k6,.slice a7 V.re.length k7] 81))).alloc (.cells #[.int .i64 b] 3)).alloc ((.cells #[.int .i64 v.age,.int .i64 v.year,.int .i64 v.children,.int .i64 v.insured,.int .i64 v.worked,.int .i64 v.voluntary,.int .i64 v.service,.int .i64 v.equated,.int .i64 v.raising,.int .i64 v.resident,.int .i64 v.bn,.int .i64 v.bd,.slice ya v.years.length yc] 26))).alloc (.cells #[.bool false,.int .i64 0,.int .i64 0,.slice none 0 0] 91))) B d1)) growsA _ ((w.heap.size+1+1+1+1+B.size)) (((w.heap.size+1+1+1+1+B.size))+1) (.slice va vn vcap) (w'.heap.size+bs3.size) (by have:=HSL.out;simp at this ⊢;omega) (HD2.out.grows growsR) (by omega) (by simp) (by simp) (by simp;try omega) (by omega) (by omega) (fun k hk=>by have:=(HD2.out.row.lt k hk).2;omega)).mono ?_;rintro e' w'' ⟨hG4,rfl,hdf2⟩;refine HK1.out _ _ (fun h=>absurd (by decide) h) ?_;clear HK1 K1
   (try simp only [nS])
   refine TS.weB 10 ?_;by_cases hc:c2=0
   case neg=>
    have hc2:(c2 !=0)=true:=by simpa using hc
    have HF:=zh (HFA.out.trans (grS_d HR.out rfl (by rw [HR2.out]) hc));clear hc;obtain⟨bs4,d4,rfl⟩:=hG4
    go_wp2_with fail
    go_returns
    exact GrP.bad HF.out growsR
   subst hc;obtain⟨st2',p,rfl,hrun2,hval2⟩:=def_ok HR2.out;obtain⟨pm,py,pn,pd⟩:=p;have hra2:=RunAt.of_run HST1.out HLS.out HOK.out hrun2;have hok2:=(used_val hra2 HLS.out HOK.out HTY2.out).2;rw [hval2]at hok2;have hx2:=hok2.good rfl;have hvf:=(Val.ok_num hx2.1 (by rw [hx2.2];decide)).2.2.2;dsimp only at hvf;have hF:=HFA.out.trans (grS_f HR.out rfl HR2.out);dsimp only at hF;clear hrun2 hval2 hra2 hok2 hx2;obtain⟨vb2,hd2,hsl2,hm2⟩:=hdf2 (by first|rfl|trivial)
   obtain⟨va2,vn2,vcap2,rfl⟩:∃a n c,vb2= .slice a n c:=by
    obtain⟨-,a,c,h,-⟩:=hd2.steps (by have:=HSL.out;simp at hsl2 this ⊢;omega);exact⟨a,_,c,h⟩
   have HG4:=zh hG4;have HD4:=zh hd2;have HSN:=zh (show(st2'++[(payN,(⟨pm,py,pn,pd⟩:Val))]).length≤1000 from by have:=HSL.out;simp at hsl2 this ⊢;omega);have HOW4:=zh (fun k hk=>(hd2.row.lt k hk).1);have y13:w''.cell? ⟨((w.heap.size+1+1+1+1+B.size)),13,none⟩=some (.slice va2 vn2 vcap2):=by rw [cell_of_row _ _ _ _ _ _ hd2.ev];rfl
   have yl:((w.heap.size+1+1+1+1+B.size))<w''.heap.size:=(Array.getElem?_eq_some_iff.1 hd2.ev).1;have zb:w''.heap[w'.heap.size+bs3.size]? =some (.cells #[.bool true,.int .i64 0,.int .i64 1,.slice none 0 0] 91 (0,0)):=(hm2.2 _ (Nat.le_refl _) (by simp)).trans (heap_new _ _ _ (by simp));have zl:w'.heap.size+bs3.size<w''.heap.size:=(Array.getElem?_eq_some_iff.1 zb).1;have zc:=fun(j:Nat) (z:Value) (hz:(#[.bool true,.int .i64 0,.int .i64 1,.slice none 0 0]:Array Value)[j]? =some z)=>(cell_of_row w'' _ j _ _ _ zb).trans hz;have z0:=zc 0 _ rfl;have z1:=zc 1 _ rfl;have z2:=zc 2 _ rfl;have z3:=zc 3 _ rfl;have zf1:=Joins.unfrozen_of_block zb 1;have zf2:=Joins.unfrozen_of_block zb 2;have HZB:=zh zb;have hL2:=last_any v _ st2' _ (.slice va2 vn2 vcap2) _ w'' hd2.ev (hd2.steps (by have:=HSL.out;simp at hsl2 this ⊢;omega));unfold valV at hL2;dsimp only at hL2;have HL2:=zh hL2;clear hG4 hd2 hsl2 hdf2 hL2 hm2 zc zb;have hfe:=fld2 pm pn pd py;by_cases hpn:0<pn
   ·rw [if_neg (by omega)]at hF;have HF:=zh hF;clear hF hvf
    go_upto_region 20 with (go_at_call 81;refine HL2.out.mono ?_;rintro e3 w3 ⟨rfl,bs5,d5,rfl⟩)
    refine wp_abs (fun W7 hW7=>?_)
    have zb7:W7.heap[w'.heap.size+bs3.size]? =some (.cells #[.bool true,.int .i64 pn,.int .i64 pd,.slice none 0 0] 91 (0,0)):=by
     rw [←hW7,Below.heap_alloc _ _ _ (by simp;omega),World.heap_grow _ _ _ (by simp;omega)];exact Joins.block_setCell (Joins.block_setCell HZB.out _) _
    have hk7:∀b,b<w''.heap.size→b≠w'.heap.size+bs3.size→W7.heap[b]? =w''.heap[b]?:=fun b hb hne=>by
     rw [←hW7,Below.heap_alloc _ _ _ (by simp;omega),World.heap_grow _ _ _ (by simp;omega),Below.heap_setCell _ _ _ _ hne,Below.heap_setCell _ _ _ _ hne]
    have hs7:w''.heap.size≤W7.heap.size:=by rw [←hW7];simp;omega
    have HG7:Hid (((World.grow (((((w.alloc ((.cells #[.int .i64 x0,.int .i64 x1,.int .i64 x2,.slice a3 V.cr.length k3,.slice a4 V.se.length k4,.slice a5 V.le.length k5,.slice (some ⟨bg,og,none⟩) V.gr.length k6,.slice a7 V.re.length k7] 81))).alloc (.cells #[.int .i64 b] 3)).alloc ((.cells #[.int .i64 v.age,.int .i64 v.year,.int .i64 v.children,.int .i64 v.insured,.int .i64 v.worked,.int .i64 v.voluntary,.int .i64 v.service,.int .i64 v.equated,.int .i64 v.raising,.int .i64 v.resident,.int .i64 v.bn,.int .i64 v.bd,.slice ya v.years.length yc] 26))).alloc (.cells #[.bool false,.int .i64 0,.int .i64 0,.slice none 0 0] 91))) B d1)).Grows W7):=zh (by
     rw [←hW7];have hz:((World.grow (((((w.alloc ((.cells #[.int .i64 x0,.int .i64 x1,.int .i64 x2,.slice a3 V.cr.length k3,.slice a4 V.se.length k4,.slice a5 V.le.length k5,.slice (some ⟨bg,og,none⟩) V.gr.length k6,.slice a7 V.re.length k7] 81))).alloc (.cells #[.int .i64 b] 3)).alloc ((.cells #[.int .i64 v.age,.int .i64 v.year,.int .i64 v.children,.int .i64 v.insured,.int .i64 v.worked,.int .i64 v.voluntary,.int .i64 v.service,.int .i64 v.equated,.int .i64 v.raising,.int .i64 v.resident,.int .i64 v.bn,.int .i64 v.bd,.slice ya v.years.length yc] 26))).alloc (.cells #[.bool false,.int .i64 0,.int .i64 0,.slice none 0 0] 91))) B d1)).heap.size≤w'.heap.size+bs3.size:=by have:=HG2.out.below.size;omega
     exact .of_below ((((HG4.out.below.setCell hz _).setCell hz _).grow (by have:=HG4.out.below.size;simp at this ⊢;omega) _ _).alloc (by have:=HG4.out.below.size;simp at this ⊢;omega) _))
    have x7:W7.cell? ⟨((w.heap.size+1+1+1+1+B.size)),13,none⟩=some (.slice va2 vn2 vcap2):=(World.cell?_of_block (a:=⟨((w.heap.size+1+1+1+1+B.size)),13,none⟩) (hk7 ((w.heap.size+1+1+1+1+B.size)) yl (by omega))).trans y13;have xl7:((w.heap.size+1+1+1+1+B.size))<W7.heap.size:=by omega
    have zl7:w'.heap.size+bs3.size<W7.heap.size:=by omega
    have zc3:=(cell_of_row W7 _ 3 _ _ _ zb7).trans rfl;have zf3:=Joins.unfrozen_of_block zb7 3;have HS7:=zh ((HD4.out.steps HSN.out).same hs7 (fun k hk=>hk7 k (HD4.out.row.lt k hk).2 (own_ne HD4.out.row HZB.out (by decide) k hk)));clear hW7 y13 yl z0 z1 z2 z3 zf1 zf2 zl
    go_upto_region 21 with fail
    refine wp_abs (fun W8 hW8=>?_);have zb8:W8.heap[w'.heap.size+bs3.size]? =some (.cells #[.bool true,.int .i64 pn,.int .i64 pd,.slice va2 vn2 vcap2] 91 (0,0)):=by rw [←hW8];exact Joins.block_setCell zb7 _
    have HG8:Hid (((World.grow (((((w.alloc ((.cells #[.int .i64 x0,.int .i64 x1,.int .i64 x2,.slice a3 V.cr.length k3,.slice a4 V.se.length k4,.slice a5 V.le.length k5,.slice (some ⟨bg,og,none⟩) V.gr.length k6,.slice a7 V.re.length k7] 81))).alloc (.cells #[.int .i64 b] 3)).alloc ((.cells #[.int .i64 v.age,.int .i64 v.year,.int .i64 v.children,.int .i64 v.insured,.int .i64 v.worked,.int .i64 v.voluntary,.int .i64 v.service,.int .i64 v.equated,.int .i64 v.raising,.int .i64 v.resident,.int .i64 v.bn,.int .i64 v.bd,.slice ya v.years.length yc] 26))).alloc (.cells #[.bool false,.int .i64 0,.int .i64 0,.slice none 0 0] 91))) B d1)).Grows W8):=zh (by
     rw [←hW8]
     exact .of_below (HG7.out.below.setCell (show((World.grow (((((w.alloc ((.cells #[.int .i64 x0,.int .i64 x1,.int .i64 x2,.slice a3 V.cr.length k3,.slice a4 V.se.length k4,.slice a5 V.le.length k5,.slice (some ⟨bg,og,none⟩) V.gr.length k6,.slice a7 V.re.length k7] 81))).alloc (.cells #[.int .i64 b] 3)).alloc ((.cells #[.int .i64 v.age,.int .i64 v.year,.int .i64 v.children,.int .i64 v.insured,.int .i64 v.worked,.int .i64 v.voluntary,.int .i64 v.service,.int .i64 v.equated,.int .i64 v.raising,.int .i64 v.resident,.int .i64 v.bn,.int .i64 v.bd,.slice ya v.years.length yc] 26))).alloc (.cells #[.bool false,.int .i64 0,.int .i64 0,.slice none 0 0] 91))) B d1)).heap.size≤w'.heap.size+bs3.size from by have:=HG2.out.below.size;omega) _))
    have HS8:=zh (HS7.out.same (w':=W8) (by rw [←hW8];simp) (fun k hk=>by rw [←hW8];exact Below.heap_setCell _ _ _ _ (own_ne HD4.out.row HZB.out (by decide) k hk)));have u0:=(cell_of_row W8 _ 0 _ _ _ zb8).trans rfl;have u1:=(cell_of_row W8 _ 1 _ _ _ zb8).trans rfl;have u2:=(cell_of_row W8 _ 2 _ _ _ zb8).trans rfl;have u3:=(cell_of_row W8 _ 3 _ _ _ zb8).trans rfl;have ul:w'.heap.size+bs3.size<W8.heap.size:=(Array.getElem?_eq_some_iff.1 zb8).1;clear zb8;have HOW:=HOW4;clear hW8 zb7 HS7 HG7 x7 xl7 zl7 zc3 zf3;obtain⟨bs8,d8,rfl⟩:=HG8.out;have HST8:=HS8.out;simp only [World.grow_grow]at u0 u1 u2 u3 ul HST8;replace HST8:=zh HST8;clear HS8 HG8
    go_wp2_with fail
    go_returns
    exact GrP.ok HF.out growsR (StpAt.lit (X:=(((((w.alloc ((.cells #[.int .i64 x0,.int .i64 x1,.int .i64 x2,.slice a3 V.cr.length k3,.slice a4 V.se.length k4,.slice a5 V.le.length k5,.slice (some ⟨bg,og,none⟩) V.gr.length k6,.slice a7 V.re.length k7] 81))).alloc (.cells #[.int .i64 b] 3)).alloc ((.cells #[.int .i64 v.age,.int .i64 v.year,.int .i64 v.children,.int .i64 v.insured,.int .i64 v.worked,.int .i64 v.voluntary,.int .i64 v.service,.int .i64 v.equated,.int .i64 v.raising,.int .i64 v.resident,.int .i64 v.bn,.int .i64 v.bd,.slice ya v.years.length yc] 26))).alloc (.cells #[.bool false,.int .i64 0,.int .i64 0,.slice none 0 0] 91)))) (Y:=((((w.alloc ((.cells #[.int .i64 x0,.int .i64 x1,.int .i64 x2,.slice a3 V.cr.length k3,.slice a4 V.se.length k4,.slice a5 V.le.length k5,.slice (some ⟨bg,og,none⟩) V.gr.length k6,.slice a7 V.re.length k7] 81))).alloc (.cells #[.int .i64 b] 3)).alloc ((.cells #[.int .i64 v.age,.int .i64 v.year,.int .i64 v.children,.int .i64 v.insured,.int .i64 v.worked,.int .i64 v.voluntary,.int .i64 v.service,.int .i64 v.equated,.int .i64 v.raising,.int .i64 v.resident,.int .i64 v.bn,.int .i64 v.bd,.slice ya v.years.length yc] 26))).alloc (.cells #[.bool true,.int .i64 pn,.int .i64 pd,.slice va2 vn2 vcap2] 91))) (d':=d8) (by simp) HST8.out (fun k hk=>by have:=HOW.out k hk;simp at this ⊢;omega) growsR) (fun k hk=>by have:=HOW.out k hk;simp at this;omega)
   ·have hF2:grantF V b v=((true,0,1),st2'++[(payN,⟨pm,py,pn,pd⟩)],0):=by
     rw [hF];by_cases h0:pn<0
     ·rw [if_pos h0]
     ·obtain rfl:pn=0:=by omega
      rw [if_neg h0,vfrac_null hvf]
    have HF:=zh hF2;clear hF hF2 hvf
    go_upto_region 20 with (go_at_call 81;refine HL2.out.mono ?_;rintro e3 w3 ⟨rfl,bs5,d5,rfl⟩)
    refine wp_abs (fun W7 hW7=>?_)
    have zb7:W7.heap[w'.heap.size+bs3.size]? =some (.cells #[.bool true,.int .i64 0,.int .i64 1,.slice none 0 0] 91 (0,0)):=by
     rw [←hW7,Below.heap_alloc _ _ _ (by simp;omega),World.heap_grow _ _ _ (by omega)];exact HZB.out
    have hk7:∀b,b<w''.heap.size→b≠w'.heap.size+bs3.size→W7.heap[b]? =w''.heap[b]?:=fun b hb hne=>by
     rw [←hW7,Below.heap_alloc _ _ _ (by simp;omega),World.heap_grow _ _ _ (by omega)]
    have hs7:w''.heap.size≤W7.heap.size:=by rw [←hW7];simp;omega
    have HG7:Hid (((World.grow (((((w.alloc ((.cells #[.int .i64 x0,.int .i64 x1,.int .i64 x2,.slice a3 V.cr.length k3,.slice a4 V.se.length k4,.slice a5 V.le.length k5,.slice (some ⟨bg,og,none⟩) V.gr.length k6,.slice a7 V.re.length k7] 81))).alloc (.cells #[.int .i64 b] 3)).alloc ((.cells #[.int .i64 v.age,.int .i64 v.year,.int .i64 v.children,.int .i64 v.insured,.int .i64 v.worked,.int .i64 v.voluntary,.int .i64 v.service,.int .i64 v.equated,.int .i64 v.raising,.int .i64 v.resident,.int .i64 v.bn,.int .i64 v.bd,.slice ya v.years.length yc] 26))).alloc (.cells #[.bool false,.int .i64 0,.int .i64 0,.slice none 0 0] 91))) B d1)).Grows W7):=zh (by
     rw [←hW7]
     exact World.Grows.trans' HG4.out growsR)
    have x7:W7.cell? ⟨((w.heap.size+1+1+1+1+B.size)),13,none⟩=some (.slice va2 vn2 vcap2):=(World.cell?_of_block (a:=⟨((w.heap.size+1+1+1+1+B.size)),13,none⟩) (hk7 ((w.heap.size+1+1+1+1+B.size)) yl (by omega))).trans y13;have xl7:((w.heap.size+1+1+1+1+B.size))<W7.heap.size:=by omega
    have zl7:w'.heap.size+bs3.size<W7.heap.size:=by omega
    have zc3:=(cell_of_row W7 _ 3 _ _ _ zb7).trans rfl;have zf3:=Joins.unfrozen_of_block zb7 3;have HS7:=zh ((HD4.out.steps HSN.out).same hs7 (fun k hk=>hk7 k (HD4.out.row.lt k hk).2 (own_ne HD4.out.row HZB.out (by decide) k hk)));clear hW7 y13 yl z0 z1 z2 z3 zf1 zf2 zl
    go_upto_region 21 with fail
    refine wp_abs (fun W8 hW8=>?_);have zb8:W8.heap[w'.heap.size+bs3.size]? =some (.cells #[.bool true,.int .i64 0,.int .i64 1,.slice va2 vn2 vcap2] 91 (0,0)):=by rw [←hW8];exact Joins.block_setCell zb7 _
    have HG8:Hid (((World.grow (((((w.alloc ((.cells #[.int .i64 x0,.int .i64 x1,.int .i64 x2,.slice a3 V.cr.length k3,.slice a4 V.se.length k4,.slice a5 V.le.length k5,.slice (some ⟨bg,og,none⟩) V.gr.length k6,.slice a7 V.re.length k7] 81))).alloc (.cells #[.int .i64 b] 3)).alloc ((.cells #[.int .i64 v.age,.int .i64 v.year,.int .i64 v.children,.int .i64 v.insured,.int .i64 v.worked,.int .i64 v.voluntary,.int .i64 v.service,.int .i64 v.equated,.int .i64 v.raising,.int .i64 v.resident,.int .i64 v.bn,.int .i64 v.bd,.slice ya v.years.length yc] 26))).alloc (.cells #[.bool false,.int .i64 0,.int .i64 0,.slice none 0 0] 91))) B d1)).Grows W8):=zh (by
     rw [←hW8]
     exact .of_below (HG7.out.below.setCell (show((World.grow (((((w.alloc ((.cells #[.int .i64 x0,.int .i64 x1,.int .i64 x2,.slice a3 V.cr.length k3,.slice a4 V.se.length k4,.slice a5 V.le.length k5,.slice (some ⟨bg,og,none⟩) V.gr.length k6,.slice a7 V.re.length k7] 81))).alloc (.cells #[.int .i64 b] 3)).alloc ((.cells #[.int .i64 v.age,.int .i64 v.year,.int .i64 v.children,.int .i64 v.insured,.int .i64 v.worked,.int .i64 v.voluntary,.int .i64 v.service,.int .i64 v.equated,.int .i64 v.raising,.int .i64 v.resident,.int .i64 v.bn,.int .i64 v.bd,.slice ya v.years.length yc] 26))).alloc (.cells #[.bool false,.int .i64 0,.int .i64 0,.slice none 0 0] 91))) B d1)).heap.size≤w'.heap.size+bs3.size from by have:=HG2.out.below.size;omega) _))
    have HS8:=zh (HS7.out.same (w':=W8) (by rw [←hW8];simp) (fun k hk=>by rw [←hW8];exact Below.heap_setCell _ _ _ _ (own_ne HD4.out.row HZB.out (by decide) k hk)));have u0:=(cell_of_row W8 _ 0 _ _ _ zb8).trans rfl;have u1:=(cell_of_row W8 _ 1 _ _ _ zb8).trans rfl;have u2:=(cell_of_row W8 _ 2 _ _ _ zb8).trans rfl;have u3:=(cell_of_row W8 _ 3 _ _ _ zb8).trans rfl;have ul:w'.heap.size+bs3.size<W8.heap.size:=(Array.getElem?_eq_some_iff.1 zb8).1;clear zb8;have HOW:=HOW4;clear hW8 zb7 HS7 HG7 x7 xl7 zl7 zc3 zf3;obtain⟨bs8,d8,rfl⟩:=HG8.out;have HST8:=HS8.out;simp only [World.grow_grow]at u0 u1 u2 u3 ul HST8;replace HST8:=zh HST8;clear HS8 HG8
    go_wp2_with fail
    go_returns
    exact GrP.ok HF.out growsR (StpAt.lit (X:=(((((w.alloc ((.cells #[.int .i64 x0,.int .i64 x1,.int .i64 x2,.slice a3 V.cr.length k3,.slice a4 V.se.length k4,.slice a5 V.le.length k5,.slice (some ⟨bg,og,none⟩) V.gr.length k6,.slice a7 V.re.length k7] 81))).alloc (.cells #[.int .i64 b] 3)).alloc ((.cells #[.int .i64 v.age,.int .i64 v.year,.int .i64 v.children,.int .i64 v.insured,.int .i64 v.worked,.int .i64 v.voluntary,.int .i64 v.service,.int .i64 v.equated,.int .i64 v.raising,.int .i64 v.resident,.int .i64 v.bn,.int .i64 v.bd,.slice ya v.years.length yc] 26))).alloc (.cells #[.bool false,.int .i64 0,.int .i64 0,.slice none 0 0] 91)))) (Y:=((((w.alloc ((.cells #[.int .i64 x0,.int .i64 x1,.int .i64 x2,.slice a3 V.cr.length k3,.slice a4 V.se.length k4,.slice a5 V.le.length k5,.slice (some ⟨bg,og,none⟩) V.gr.length k6,.slice a7 V.re.length k7] 81))).alloc (.cells #[.int .i64 b] 3)).alloc ((.cells #[.int .i64 v.age,.int .i64 v.year,.int .i64 v.children,.int .i64 v.insured,.int .i64 v.worked,.int .i64 v.voluntary,.int .i64 v.service,.int .i64 v.equated,.int .i64 v.raising,.int .i64 v.resident,.int .i64 v.bn,.int .i64 v.bd,.slice ya v.years.length yc] 26))).alloc (.cells #[.bool true,.int .i64 0,.int .i64 1,.slice va2 vn2 vcap2] 91))) (d':=d8) (by simp) HST8.out (fun k hk=>by have:=HOW.out k hk;simp at this ⊢;omega) growsR) (fun k hk=>by have:=HOW.out k hk;simp at this;omega)
def oneR(R:RawV):RawV:={R with twist:=1}
theorem ofP_one(R:RawV):ofP (oneR R)=madeP (oneR R):=ofP_1 (by show ¬(1:Int)=0;decide) (by show ¬(1:Int).tmod 8=0;decide)
structure NdV(V:VerP)(env:List (ByteArray × Int)):Prop where
 ls:LsOk V.le V.le.length env
 sm:VerSm V
 ln:V.cr.length≤1000∧V.se.length≤1000∧V.le.length≤10∧V.gr.length≤1000∧V.re.length≤1000
 lets:letsF V.le=(env,0)
 good:∀k,k≤V.le.length→EnvG (env.take k)
 nms:∀x∈env,x.1.size≤140737488355328
 dims:∀k,k<V.le.length→1≤(env.getD k default).2∧(env.getD k default).2≤4
theorem NdV.of(R:RawV):NdV (madeP (oneR R)) (envF (oneR R) (nLet (oneR R))):=by
 have hl:(madeP (oneR R)).le.length=nLet (oneR R):=by simp [madeP]
 have h5:nLet (oneR R)≤5:=by unfold nLet;omega
 have hln:=of_lens (oneR R);have hsm:=of_sm (oneR R);rw [ofP_one]at hln hsm;refine⟨made_ok _,hsm,hln,by rw [letsF_len hln.2.2.1];exact lets_ok (made_ok _),fun k hk=>?_,envF_size _ _,fun k hk=>?_⟩
 ·have:(envF (oneR R) (nLet (oneR R))).take k=envF (oneR R) k:=by unfold envF;rw [←List.map_take,List.take_range,Nat.min_eq_left (by omega)]
  rw [this];exact envF_good _ (by omega)
 ·have:(envF (oneR R) (nLet (oneR R))).getD k default=(letN k,letD (oneR R) k):=by
   rw [hl]at hk;simp [envF,List.getD_eq_getElem?_getD,List.getElem?_map,List.getElem?_range hk]
  rw [this];exact letD_bd _ _
theorem nd_long(zs:List Int)(vl:Value)(cs:Array Value)(P:VwR)(vd vy:Value)(n:Int)(w:World)(hl:IntsAt w vl zs)(h:100<zs.length)(R:RawV)(hR:RawAt w cs.toList R) :
 Calls Tryz.prog 13 #[.agg cs,.agg #[.int .i64 P.age,.int .i64 P.year,.int .i64 P.children,.int .i64 P.base,.int .i64 P.den,vd,vy],vl,.int .i64 n] w fun e w'=>e= .returned (.bool true)∧w.Grows w':=by
 obtain⟨-,-,-,-,vc,vs,vl',vi,vp,vu,he,-⟩:=hR;obtain⟨l⟩:=cs;simp only at he;subst he;obtain⟨-,-,a1,c1,rfl,-⟩:=hl;have hn:(100:Int)<(zs.length:Int):=by omega
 clear h
 go_enter Tryz.func13,Tryz.ntmps13
 go_wp2_with fail
 go_returns
 exact⟨rfl,.of_below belB⟩
theorem then_abs{K:Act→World→Prop}{Q:Exit→Act→World→Prop}{e:Exit}{a:Act}{w:World}(h:∀W,w=W→Exit.then K Q e a W):Exit.then K Q e a w:=h w rfl
theorem setCells_grow{b:Nat}(bs:Array Obj)(d:Nat):∀(vs:List Value) (o:Nat) (w:World),b<w.heap.size→(w.grow bs d).setCells b o vs=(w.setCells b o vs).grow bs d
 | [],_,_,_=>rfl
 |v::vs,o,w,h=>by
  rw [World.setCells,World.setCells,World.setCell_grow w bs d v h,setCells_grow bs d vs (o+1) _ (by simpa using h)]
theorem VerAt.grows{B:Nat}{w w':World}{V:VerP}{v3 v4 v5 v6 v7:Value}(h:VerAt B w V v3 v4 v5 v6 v7)(hg:w.Grows w'):VerAt B w' V v3 v4 v5 v6 v7:=h.same hg.below.size fun k _ hk=>hg.below.block k hk
theorem VerAt.leBlock{B:Nat}{W:World}{V:VerP}{v3 v4 v5 v6 v7:Value}(h:VerAt B W V v3 v4 v5 v6 v7)(h0:0<V.le.length):∃gg cap,v5= .slice (some ⟨gg,0,none⟩) V.le.length cap∧B≤gg∧gg<W.heap.size:=by
 obtain⟨ql,qg,qr,H1,H2,H3,H4,H5,e1,e2,e3,hQ⟩:=h;have hl:(letL ql).length=V.le.length:=by rw [←e1];simp [letL]
 obtain⟨gg,cap,rfl⟩:=hQ.r3.block (by omega);obtain⟨b1,b2,b3⟩:=hQ.r3.apart;have:=hQ.ord;exact⟨gg,cap,by rw [hl],by omega,b3⟩
theorem BindAt.take{w:World}{a:Option Addr}{n cap k:Nat}{env:List (ByteArray × Int)}(h:BindAt w (.slice a n cap) env)(hk:k≤n):BindAt w (.slice a k cap) (env.take k):=by
 obtain⟨h0,a',c',hv,hc⟩:=h;simp only [Value.slice.injEq]at hv;obtain⟨rfl,rfl,rfl⟩:=hv;have hl:(env.take k).length=k:=by rw [List.length_take];omega
 refine⟨by omega,a,cap,by rw [hl], ?_⟩;by_cases hz:k=0
 ·exact .inl (by omega)
 rcases hc with hc|⟨b,off,ha,hb,hx⟩
 ·omega
 refine .inr ⟨b,off,ha,hb,fun i hi=>?_⟩;rw [hl]at hi;have hg:(env.take k)[i]? =env[i]?:=by rw [List.getElem?_take,if_pos hi]
 have:=hx i (by omega);unfold bdN bdD at *;simpa only [List.getD_eq_getElem?_getD,hg]using this
theorem grownBy_refl(w:World)(r:Option Nat):w.grownBy w r:=⟨rfl,rfl,rfl,Nat.le_refl _,fun _ _ _=>rfl⟩
theorem nats_one(U:List Nat):∀u∈U.map (fun(k:Nat)=>Value.int .i64 k),u.oneCell'=true:=by
 intro u hu;obtain⟨k,-,rfl⟩:=List.mem_map.1 hu;rfl
theorem step_append_nats{ops:Array Oper}{o:Oper}{a:Act}{w:World}{K:Act→World→Prop}{Q:Exit→Act→World→Prop}{E:Prop}(hgd:o.guard=none)(s x:Operand)
 (ho:o.op= .call {callee:=.builtin .append,args:=#[s,x],argTypes:=#[24,24]}) (i0:TypeInfo) (hi:(Tryz.prog).info? 3=some i0) (hz0:i0.zero=some (.int .i64 0)) (hz1:i0.size=1) (hz2:i0.bytes=8)
 {base base':Nat} {v u:Value} {A B:List Nat} (hs:a.eval s=v) (hx:a.eval x=u) (hA:w.ownsRow base 3 1 v A.length (A.map fun(k:Nat)=>.int .i64 k)) (hB:w.ownsRow base' 3 1 u B.length (B.map fun(k:Nat)=>.int .i64 k)) (hn:A.length≤1000∧B.length≤1000) (hbase:base≤w.heap.size)
 (h:∀v' w',w'.ownsRow base 3 1 v' (A++B).length ((A++B).map fun(k:Nat)=>.int .i64 k)→w.grownBy w' v.ownBlock→K (a.put o.dst v') w') :
 if Region.wanted o (yielded ops a.tmps)=true then Oper.wp Tryz.prog o a w K Q else E:=by
 rcases row_form hB with ⟨rfl,h0⟩|⟨g,cap,rfl,hbg,hgl⟩
 ·refine step_append_noneY hgd s x 24 ho base 3 i0 1 Tryz.underlying24 hi v _ _ hs hA hx (h v w ?_ (grownBy_refl _ _));have:B= []:=List.eq_nil_of_length_eq_zero h0;subst this;simpa using hA
 ·refine step_append_ownY hgd s x 24 ho base 3 i0 (.int .i64 0) 1 8 Tryz.underlying24 hi hz0 hz1 hz2 rfl (by decide) v A.length _ hs hA ⟨g,0,none⟩ B.length cap _ hx (by simp) (fun j z hz=>?_) (nats_one B) (by unfold maxLen;omega) (by omega) hbase (fun v' w' h1 h2=>h v' w' (by rw [List.length_append,List.map_append];exact h1) h2);have hj:=(List.getElem?_eq_some_iff.1 hz).1;rw [addr_add,hB.cellAt j (by simpa using hj)];exact hz
structure NdB(w0 X:Nat)(W:World)(c0 c1 c2 c3:Array Value):Prop where
 b0:W.heap[w0]? =some (.cells c0 72 (0,0))
 b1:W.heap[w0+1]? =some (.cells c1 28 (0,0))
 b2:W.heap[X]? =some (.cells c2 81 (0,0))
 b3:W.heap[X+1]? =some (.cells c3 97 (0,0))
theorem blk_grows{w w':World}{b:Nat}{o:Obj}(h:w.heap[b]? =some o)(hg:w.Grows w'):w'.heap[b]? =some o:=(hg.below.block b (Array.getElem?_eq_some_iff.1 h).1).trans h
theorem NdB.grows{w0 X:Nat}{W W':World}{c0 c1 c2 c3:Array Value}(h:NdB w0 X W c0 c1 c2 c3)(hg:W.Grows W'):NdB w0 X W' c0 c1 c2 c3:=⟨blk_grows h.b0 hg,blk_grows h.b1 hg,blk_grows h.b2 hg,blk_grows h.b3 hg⟩
theorem blk_cell{W:World}{b j:Nat}{c:Array Value}{t:TypeId}{z:Value}(h:W.heap[b]? =some (.cells c t (0,0)))(hz:c[j]? =some z):W.cell? ⟨b,j,none⟩=some z:=(cell_of_row W _ j _ _ _ h).trans hz
theorem blk_lt{W:World}{b:Nat}{o:Obj}(h:W.heap[b]? =some o):b<W.heap.size:=(Array.getElem?_eq_some_iff.1 h).1
theorem nd_core(hOf:Hid OfSaid)(zs:List Int)(vl:Value)(cs:Array Value)(R:RawV)(P:VwR)(vd vy:Value)(n:Int)(w:World)(hl:IntsAt w vl zs)(hR:RawAt w cs.toList R)(hd:IntsAt w vd P.days)(hy:IntsAt w vy P.years)(ht:Tab w)(h1:zs.length≤100)
 (V:VerP) (hV:Hid (ofP (oneR R)=V)) (env:List (ByteArray × Int)) (hN:NdV V env) (v:Vw) (hv:Hid (viewP P=v)) (hrng:VwRng v) :
 Calls Tryz.prog 13 #[.agg cs,.agg #[.int .i64 P.age,.int .i64 P.year,.int .i64 P.children,.int .i64 P.base,.int .i64 P.den,vd,vy],vl,.int .i64 n] w fun e w'=>e= .returned (.bool true)∧w.Grows w':=by
 obtain⟨i0,hi,hz0,hz1,hz2⟩:=info_parts infoU;have HT:=zh ht;have HN:=zh hN;have HRNG:=zh hrng;have HW:=zh (fun w' (hg:w.Grows w')=>viewOf_any P vd vy w' (IntsAt.growsG hd hg) (IntsAt.growsG hy hg));unfold VoP vwV at HW;rw [hv.out]at HW;have HMB:=zh (fun w' (hg:w.Grows w') (ev:Value) (dim:Int) (k:Nat) (he:EnvAt w' w'.heap.size ev (env.take k)) (hd1:1≤dim) (hd4:dim≤4)=>Expr_any vl ev zs (env.take k) dim w' (IntsAt.list (IntsAt.growsG hl hg) (Nat.le_refl _)) he hd1 hd4);unfold MadeEx exV at HMB;have hn1:¬(100:Int)<(zs.length:Int):=by omega
 obtain⟨ra,rb,rc,rd,vc,vs,vl',vi,vp,vu,he,i1,i2,i3,i4,i5,i6⟩:=hR;obtain⟨l⟩:=cs;simp only at he;subst he;have HR1:Hid (RawAt w [.int .i64 R.frm,.int .i64 R.mode,.int .i64 R.unit,vc,vs,vl',vi,vp,vu,.int .i64 1] (oneR R)):=zh ⟨ra,rb,rc,by show I64 (1:Int);unfold I64;omega,vc,vs,vl',vi,vp,vu,rfl,i1,i2,i3,i4,i5,i6⟩;have HOF:=zh (fun w' (hg:w.Grows w')=>hOf.out (oneR R) #[.int .i64 R.frm,.int .i64 R.mode,.int .i64 R.unit,vc,vs,vl',vi,vp,vu,.int .i64 1] w' (HR1.out.below hg.below));unfold OfPost at HOF;simp only [hV.out]at HOF;obtain⟨-,-,la,lc,rfl,-⟩:=hl;obtain⟨-,-,da,dc,rfl,-⟩:=hd;obtain⟨-,-,ya,yc,rfl,-⟩:=hy;clear ht ra rb rc rd i1 i2 i3 i4 i5 i6 hN hrng HR1
 go_enter Tryz.func13,Tryz.ntmps13
 go_wp2_with fail
 go_at_call 36
 refine(HOF.out _ growsR).mono ?_;rintro e w' ⟨v3,v4,v5,v6,v7,rfl,⟨bs,dr,rfl⟩,hver⟩;have HVER:=zh hver;have hvc:=hver.verC ⟨HN.out.ln.1,HN.out.ln.2.1,by have:=HN.out.ln.2.2.1;omega,HN.out.ln.2.2.2.1,HN.out.ln.2.2.2.2⟩;obtain⟨-,a3,k3,rfl,-⟩:=hvc.cr;obtain⟨-,a4,k4,rfl,-⟩:=hvc.se;obtain⟨-,a5,k5,rfl,-⟩:=hvc.le;obtain⟨-,a6,k6,rfl,-⟩:=hvc.gr;obtain⟨-,a7,k7,rfl,-⟩:=hvc.re;have HVC:=zh hvc;have HCP:=zh hver.caps;have HNX:=zh hver.numsX;simp only [List.length_map];clear hver hvc;by_cases h0:V.le.length=0
 ·have e1:((V.le.length:Int)==0)=true:=by rw [h0];rfl
  clear h0
  go_wp2_with ((go_at_call 19;refine(awake8_any _ (HT.out.grows growsR)).mono ?_;rintro e' w' ⟨rfl,bZ,dZ,rfl⟩))
  go_returns
  exact⟨rfl,growsR⟩
 by_cases h2:V.gr.length=0
 ·have e1:((V.le.length:Int)==0)=false:=by simpa using h0
  have e2:((V.gr.length:Int)==0)=true:=by rw [h2];rfl
  clear h0 h2
  go_wp2_with ((go_at_call 19;refine(awake8_any _ (HT.out.grows growsR)).mono ?_;rintro e' w' ⟨rfl,bZ,dZ,rfl⟩))
  go_returns
  exact⟨rfl,growsR⟩
 have e1:((V.le.length:Int)==0)=false:=by simpa using h0
 have e2:((V.gr.length:Int)==0)=false:=by simpa using h2
 have f1:(0:Int)<(V.gr.length:Int):=by omega
 have f2:0<V.gr.length:=by omega
 have f3:0<V.le.length:=by omega
 clear h0 h2;obtain⟨-,a',c',hv',hx⟩:=HVC.out.gr;simp only [Value.slice.injEq,true_and]at hv';obtain⟨rfl,rfl⟩:=hv';rcases hx with hx|⟨bg,og,rfl,hbg,hx⟩
 ·omega
 obtain⟨u,u',hg⟩:=hx 0 f2;have hgh:V.gr.head? =some (V.gr.getD 0 default):=by rw [List.head?_eq_getElem?,List.getD_eq_getElem?_getD,List.getElem?_eq_getElem f2];rfl
 obtain⟨q0,p0,p1,p2,p3,p4,p5,r0,r1,r2,r3,r4,r5,hra,hrb⟩:=hg;obtain⟨ia,ic,rfl⟩:=hra.form0;obtain⟨pa,pc,rfl⟩:=hrb.form0;generalize V.gr.getD 0 default=g at *;simp only [Nat.zero_mul,Nat.add_zero]at q0 p0 p1 p2 p3 p4 p5 r0 r1 r2 r3 r4 r5;have hbg':bg<w.heap.size+1+1+bs.size:=by simpa using hbg
 have HGH:=zh hgh;have HRA:=zh hra;have HRB:=zh hrb;clear hx hgh hra hrb
 go_wp2_with fail
 refine wp_abs (fun W1 hW1=>?_);obtain⟨W0,HVC0,HNX0,HRA0,HRB0,HVER0,HGV⟩:∃W0,Hid (VerC W0 V (.slice a3 (V.cr.map Prod.fst).length k3) (.slice a4 (V.se.map Prod.fst).length k4) (.slice a5 V.le.length k5) (.slice (some ⟨bg,og,none⟩) V.gr.length k6) (.slice a7 V.re.length k7))∧Hid (NumsX 2 W0 (.slice a3 (V.cr.map Prod.fst).length k3) V.cr.length∧NumsX 3 W0 (.slice a4 (V.se.map Prod.fst).length k4) V.se.length)∧Hid (RepE (fun _=>True) W0 g.2.1 (.slice ia g.2.1.args.length ic))∧Hid (RepE (fun _=>True) W0 g.2.2 (.slice pa g.2.2.args.length pc))∧True∧Hid (W0.Grows W1):=⟨_,HVC,HNX,HRA,HRB,trivial,zh (by rw [←hW1];exact growsA)⟩;have HG1:Hid (w.Grows W1):=zh (by rw [←hW1];exact growsR)
 have HB1:Hid (NdB w.heap.size ((w.heap.size+1+1+bs.size)) W1 #[.int .i64 R.frm,.int .i64 R.mode,.int .i64 R.unit,vc,vs,vl',vi,vp,vu,.int .i64 1] #[.int .i64 P.age,.int .i64 P.year,.int .i64 P.children,.int .i64 P.base,.int .i64 P.den,.slice da P.days.length dc,.slice ya P.years.length yc] #[.int .i64 V.frm,.int .i64 V.mode,.int .i64 V.unit,.slice a3 V.cr.length k3,.slice a4 V.se.length k4,.slice a5 V.le.length k5,.slice (some ⟨bg,og,none⟩) V.gr.length k6,.slice a7 V.re.length k7] #[.int .i64 g.1,.int .i64 g.2.1.op,.int .i64 g.2.1.num,.int .i64 g.2.1.den,.int .i64 g.2.1.dim,.string g.2.1.name,.slice ia g.2.1.args.length ic,.int .i64 g.2.2.op,.int .i64 g.2.2.num,.int .i64 g.2.2.den,.int .i64 g.2.2.dim,.string g.2.2.name,.slice pa g.2.2.args.length pc]):=zh (by
  rw [←hW1];refine⟨?_, ?_, ?_, ?_⟩
  ·rw [Below.heap_alloc _ _ _ (by simp;omega),Below.heap_alloc _ _ _ (by simp;omega),World.heap_grow _ _ _ (by simp;omega),Below.heap_alloc _ _ _ (by simp)];exact heap_new _ _ _ (by simp)
  ·rw [Below.heap_alloc _ _ _ (by simp;omega),Below.heap_alloc _ _ _ (by simp;omega),World.heap_grow _ _ _ (by simp)];exact heap_new _ _ _ (by simp)
  ·rw [Below.heap_alloc _ _ _ (by simp)];exact heap_new _ _ _ (by simp)
  ·exact heap_new _ _ _ (by simp))
 clear hW1 HVC HNX HRA HRB HVER q0 p0 p1 p2 p3 p4 p5 r0 r1 r2 r3 r4 r5;generalize((w.heap.size+1+1+bs.size))=X at *;have HVC1:=zh (HVC0.out.grows HGV.out);have HNX1:=zh (And.intro (HNX0.out.1.grows HGV.out) (HNX0.out.2.grows HGV.out));have HU1:=zh (fun w' (hg:W1.Grows w')=>Uses2own_any g.2.1 _ _ V.le w' ((HRA0.out.grows HGV.out).grows hg) (HVC1.out.le.grows hg));have HU2:=zh (fun w' (hg:W1.Grows w')=>Uses2own_any g.2.2 _ _ V.le w' ((HRB0.out.grows HGV.out).grows hg) (HVC1.out.le.grows hg));unfold exV at HU1 HU2;have x5:=blk_cell (j:=5) HB1.out.b2 rfl;have g1:=blk_cell (j:=1) HB1.out.b3 rfl;have g2:=blk_cell (j:=2) HB1.out.b3 rfl;have g3:=blk_cell (j:=3) HB1.out.b3 rfl;have g4:=blk_cell (j:=4) HB1.out.b3 rfl;have g5:=blk_cell (j:=5) HB1.out.b3 rfl;have g6:=blk_cell (j:=6) HB1.out.b3 rfl;have g7:=blk_cell (j:=7) HB1.out.b3 rfl;have g8:=blk_cell (j:=8) HB1.out.b3 rfl;have g9:=blk_cell (j:=9) HB1.out.b3 rfl;have g10:=blk_cell (j:=10) HB1.out.b3 rfl;have g11:=blk_cell (j:=11) HB1.out.b3 rfl;have g12:=blk_cell (j:=12) HB1.out.b3 rfl;have xl:=blk_lt HB1.out.b2;have gl:=blk_lt HB1.out.b3;have hln:=HN.out.ln.2.2.1;have hu1:=usesG_length (e:=g.2.1) (ls:=V.le) V.le.length;have hu2:=usesG_length (e:=g.2.2) (ls:=V.le) V.le.length;refine TS.begin [] (World.Grows _) (by kernel_rfl) (by kernel_rfl) grows_drew0 (fun hS=>?_);refine TS.wkB 0 hS ?_;refine TS.wkB 1 hS ?_;refine TS.wkB 2 hS ?_;refine TS.wkB 3 hS ?_;refine TS.wkB 5 hS ?_;refine TS.wkB 6 hS ?_;refine TS.wkB 7 hS ?_;refine TS.wkB 8 hS ?_;refine TS.one (i:=4) (by kernel_rfl) rfl (fun K1 hK1=>?_);have HK1:=zh hK1;clear hK1 hS;dsimp only [List.getElem_toArray,List.getElem_cons_succ,List.getElem_cons_zero]
 go_simp
 go_at_call 38
 refine(HU1.out _ growsA).mono ?_;rintro e' wA ⟨⟨xu,rfl,-,hxo⟩,bA,dA,rfl⟩;have HXU:=zh hxo;clear hxo;refine TS.go HK1.out growsA (fun hS=>?_);clear HK1 K1
 (try simp only [nS])
 refine TS.one (i:=9) (by kernel_rfl) rfl (fun K1 hK1=>?_);have HK1:=zh hK1;clear hK1 hS;dsimp only [List.getElem_toArray,List.getElem_cons_succ,List.getElem_cons_zero]
 go_simp
 go_at_call 38
 refine(HU2.out _ growsA).mono ?_;rintro e' wA ⟨⟨xv,rfl,-,hxo⟩,bB,dB,rfl⟩;have HXV:=zh hxo;clear hxo;refine TS.go HK1.out growsA (fun hS=>?_);clear HK1 K1
 (try simp only [nS])
 refine TS.one (i:=10) (by kernel_rfl) rfl (fun K1 hK1=>?_);refine step_append_nats rfl _ _ rfl i0 hi hz0 hz1 hz2 rfl rfl (own_grow HXU.out growsR) (own_grow HXV.out growsR) (by unfold usesL;omega) (by simp) ?_;intro ub w2 hub hgrow;have hG2:W1.Grows w2:=World.Grows.grown (W:=W1) growsR hgrow (fun k hk=>by have:=(HXU.out.lt k hk).1;simpa using this);refine hK1 _ _ (fun _=>hG2) ?_;clear hK1 K1 hS;have hS:=hG2;have HG2:=zh hG2;have HUB:=zh hub;clear hG2 hub hgrow
 (try simp only [nS])
 refine TS.wkB 11 hS ?_;refine TS.done (by kernel_rfl) ?_;clear hS HXU HXV HU1 HU2 x5 g1 g2 g3 g4 g5 g6 g7 g8 g9 g10 g11 g12 xl gl
 (try simp only [nS])
 have hul:(usesL g.2.1 V.le++usesL g.2.2 V.le).length≤1000:=by rw [List.length_append];unfold usesL;omega
 obtain⟨U,hU⟩:∃U,U=usesL g.2.1 V.le++usesL g.2.2 V.le:=⟨_,rfl⟩;rw [←hU]at HUB hul;replace hU:=zh hU;obtain⟨ua,uc,rfl,hur⟩:=own_read HUB.out;have HUR:=zh hur
 obtain⟨k,hk,hkp⟩:∃k:Nat,k<V.le.length∧pick n V.le.length=k:=by
  have:=pick_bd n V.le.length (by omega);exact⟨(pick n V.le.length).toNat,by omega,by omega⟩
 have HPK:=zh (fun w=>Pick_any n V.le.length w (by omega));rw [hkp]at HPK;have HKL:=zh hk;have HB2:=zh (HB1.out.grows HG2.out);have x5:=blk_cell (j:=5) HB2.out.b2 rfl;have xl:=blk_lt HB2.out.b2;have HGW2:=zh (World.Grows.trans' HG1.out HG2.out);clear hur hkp hu1 hu2 hk HUB
 go_wp2_with (go_at_call 15;refine(HPK.out _).mono ?_;rintro e' w' ⟨rfl,rfl⟩)
 go_loopw [13] (fun v13 wr=>∃i:Nat,i≤U.length∧v13= .int .i64 i∧Hid (∀j,j<i→U.getD j 0≠k)∧w2.Grows wr) (fun v13 _=>U.length-(intOf v13).toNat)
 case atStart=>exact⟨0,by omega,rfl,zh (fun j hj=>by omega),.refl _⟩
 case round=>
  obtain⟨i,hi',rfl,HNO,hgr⟩:=hrel;obtain⟨W3,rfl⟩:∃W3,W3=wr:=⟨_,rfl⟩;have HG3:=zh hgr;have HGW3:=zh (World.Grows.trans' HGW2.out hgr);clear hgr;by_cases hlt:i<U.length
  ·rcases HUR.out with h0|⟨gu,cur,rfl,-,hgu,hgx⟩
   ·omega
   have hgl:=blk_lt hgu;have y0:=(HG3.out.below.cell (p:=⟨gu,i,none⟩) (by exact hgl)).trans (hgx i hlt);have hsz:=HG3.out.below.size;have hgl2:gu<W3.heap.size:=by omega
   have d1:(i:Int)<(U.length:Int):=by omega
   have d0:(0:Int)≤(i:Int):=by omega
   have HIL:=zh hlt;obtain⟨z,hz⟩:∃z,U.getD i 0=z:=⟨_,rfl⟩;rw [hz]at y0;have HZ:=zh hz;clear hgu hgx hlt hi' hz x5 xl;by_cases hzk:z=k
   ·have b1:((z:Int)==(k:Int))=true:=by rw [hzk];simp
    clear hzk
    go_wp2_with ((go_at_call 19;refine(awake8_any _ (HT.out.grows (World.Grows.trans' HGW3.out growsR))).mono ?_;rintro e' w' ⟨rfl,bZ,dZ,rfl⟩))
    go_returns
    exact⟨rfl,World.Grows.trans' HGW3.out growsR⟩
   ·have b1:((z:Int)==(k:Int))=false:=by
     rw [Bool.eq_false_iff];intro c;exact hzk (by have:=eq_of_beq c;omega)
    have HZK:=zh hzk;clear hzk
    go_wp2_with fail
    go_roundw
    case rel=>exact⟨i+1,by have:=HIL.out;omega,by go_num,zh (fun j hj=>by
     by_cases e:j=i
     ·subst e;rw [HZ.out];exact HZK.out
     ·exact HNO.out j (by omega)),World.Grows.trans' HG3.out growsR⟩
    case measure=>simp [intOf];have:=HIL.out;omega
  ·obtain rfl:i=U.length:=by omega
   have hnot:k∉U:=fun h=>by
    obtain⟨j,hj,e⟩:=List.mem_iff_getElem.1 h;exact HNO.out j hj (by rw [List.getD_eq_getElem?_getD,List.getElem?_eq_getElem hj];exact e)
   rw [hU.out,List.mem_append]at hnot;have HN1:=zh (show k∉usesL g.2.1 V.le from fun h=>hnot (.inl h));have HN2:=zh (show k∉usesL g.2.2 V.le from fun h=>hnot (.inr h));have HG13:=zh (World.Grows.trans' HG2.out HG3.out);have HB3:=zh (HB2.out.grows HG3.out);have HL5:=zh (fun w' (hg:W1.Grows w')=>Lets5cap_any V.le _ w' (HVC1.out.le.grows hg) HN.out.sm.le);unfold LtCap at HL5;simp only [HN.out.lets]at HL5;clear x5 xl hnot HUR HNO HGW2 HB2 hi' hlt;have x5:=blk_cell (j:=5) HB3.out.b2 rfl;have xl:=blk_lt HB3.out.b2;have a0:=blk_cell (j:=0) HB3.out.b0 rfl;have a1:=blk_cell (j:=1) HB3.out.b0 rfl;have a2:=blk_cell (j:=2) HB3.out.b0 rfl;have a3':=blk_cell (j:=3) HB3.out.b0 rfl;have a4':=blk_cell (j:=4) HB3.out.b0 rfl;have a5':=blk_cell (j:=5) HB3.out.b0 rfl;have a6':=blk_cell (j:=6) HB3.out.b0 rfl;have a7':=blk_cell (j:=7) HB3.out.b0 rfl;have a8':=blk_cell (j:=8) HB3.out.b0 rfl;have a9':=blk_cell (j:=9) HB3.out.b0 rfl;have al:=blk_lt HB3.out.b0
   go_wp2_with (go_at_call 45;refine(HL5.out _ (World.Grows.trans' HG13.out growsR)).mono ?_;rintro e' w' ⟨ev,rfl,⟨bE,dE,rfl⟩,hbd,hcap⟩;have HBD:=zh hbd;obtain⟨-,ea,ec,rfl,-⟩:=hbd;have HEC:=zh (hcap _ _ _ rfl);clear hcap)
   go_at_call 36
   refine(HOF.out _ (World.Grows.trans' HGW3.out growsR)).mono ?_;rintro e' w' ⟨v3',v4',v5',v6',v7',rfl,⟨bF,dF,rfl⟩,hver⟩;obtain⟨gg,gcap,rfl,hgB,hgl⟩:=hver.leBlock (by omega);have HVY:=zh hver;have HCY:=zh hver.caps;have hvc':=hver.verC ⟨HN.out.ln.1,HN.out.ln.2.1,by have:=HN.out.ln.2.2.1;omega,HN.out.ln.2.2.2.1,HN.out.ln.2.2.2.2⟩;obtain⟨-,y3,j3,rfl,-⟩:=hvc'.cr;obtain⟨-,y4,j4,rfl,-⟩:=hvc'.se;obtain⟨-,y6,j6,rfl,-⟩:=hvc'.gr;obtain⟨-,y7,j7,rfl,-⟩:=hvc'.re;simp only [List.length_map];clear hver hvc' a0 a1 a2 a3' a4' a5' a6' a7' a8' a9' al x5 xl
   go_wp2_with fail
   refine wp_abs (fun W4 hW4=>?_);have HVY4:=zh (VerAt.grows HVY.out (show World.Grows _ W4 from by rw [←hW4];exact growsR));have HBD4:=zh (HBD.out.grows (show World.Grows _ W4 from by rw [←hW4];exact growsR));have HG34:Hid (W3.Grows W4):=zh (by rw [←hW4];exact growsR);obtain⟨Y,BY⟩:∃Y,Hid (Y=W3.heap.size+(bE.size+bF.size)∧W4.heap[Y]? =some (.cells #[.int .i64 V.frm,.int .i64 V.mode,.int .i64 V.unit,.slice y3 V.cr.length j3,.slice y4 V.se.length j4,.slice (some ⟨gg,0,none⟩) V.le.length gcap,.slice y6 V.gr.length j6,.slice y7 V.re.length j7] 81 (0,0))):=⟨_,zh ⟨rfl,by rw [←hW4];exact heap_new _ _ _ (by simp)⟩⟩;rw [←BY.out.1];have hgW:W3.heap.size≤gg:=by simp at hgB;omega
   have hgg4:gg<W4.heap.size:=by have:=HG34.out.below.size;rw [←hW4];simp at hgl ⊢;omega
   have hYg:Y≠gg:=by have:=BY.out.1;simp at hgl;omega
   clear hW4 HVY HBD hgB hgl;have HG14:=zh (World.Grows.trans' HG13.out HG34.out);have HGW4:=zh (World.Grows.trans' HG1.out HG14.out);have y5:=blk_cell (j:=5) BY.out.2 rfl;have yl:=blk_lt BY.out.2;have hle:=HN.out.ls.len;have hkl:=HKL.out;have hke:k<env.length:=by omega
   have hkc:k≤ec:=by have:=HEC.out;omega
   obtain⟨hd1,hd4⟩:=HN.out.dims k hkl;obtain⟨-,a',c',hv',hx⟩:=HBD4.out;simp only [Value.slice.injEq,true_and]at hv';obtain⟨rfl,rfl⟩:=hv';rcases hx with hx|⟨be,oe,rfl,hbe,hx⟩
   ·omega
   obtain⟨-,z1⟩:=hx k hke;have d1:(k:Int)<(env.length:Int):=by omega
   have d2:(k:Int)<(V.le.length:Int):=by omega
   have d0:(0:Int)≤(k:Int):=by omega
   have d3:(k:Int)≤(ec:Int):=by omega
   have hE:=infer_made (HN.out.good k (by omega)) (topF_typed zs (HN.out.good k (by omega)) hd1 hd4);have HMC:=zh (fun w' (hg:W4.Grows w')=>HMB.out w' (World.Grows.trans' HGW4.out hg) (.slice (some ⟨be,oe,none⟩) k ec) (env.getD k default).2 k (EnvAt.of_bind ((HBD4.out.grows hg).take (Nat.le_of_lt hke)) (fun x hx=>HN.out.nms x (List.mem_of_mem_take hx))) hd1 hd4);have HEB:=zh (topF_size zs (env.take k) (env.getD k default).2);have HE:=zh hE;generalize topF zs (env.take k) (env.getD k default).2=E at *;have z2:W4.cell? ⟨be,oe+k*2+1,none⟩=some (.int .i64 (env.getD k default).2):=z1;obtain⟨dk,hdk⟩:∃d,(env.getD k default).2=d:=⟨_,rfl⟩;rw [hdk]at z2 HMC;have HDK:=zh hdk;clear z1 hx hdk hE hd1 hd4 hle hkl;obtain⟨hfz,hcl⟩:=HVY4.out.leCells HKL.out;obtain⟨t0,e0⟩:=hcl 0 (by omega);obtain⟨t1,e1⟩:=hcl 1 (by omega);obtain⟨t2,e2⟩:=hcl 2 (by omega);obtain⟨t3,e3⟩:=hcl 3 (by omega);obtain⟨t4,e4⟩:=hcl 4 (by omega);obtain⟨t5,e5⟩:=hcl 5 (by omega);clear hcl;refine TS.begin [15] (World.Grows _) (by kernel_rfl) (by kernel_rfl) grows_drew0 (fun hS=>?_);refine TS.wkB 0 hS ?_;refine TS.wkB 1 hS ?_;refine TS.wkB 2 hS ?_;refine TS.wkB 3 hS ?_;refine TS.wkB 4 hS ?_;refine TS.wkB 5 hS ?_;refine TS.wkB 6 hS ?_;refine TS.wkB 7 hS ?_;refine TS.wkB 8 hS ?_;refine TS.wkB 9 hS ?_;refine TS.wkB 10 hS ?_;refine TS.wkB 11 hS ?_;refine TS.one (i:=12) (by kernel_rfl) rfl (fun K1 hK1=>?_);have HK1:=zh hK1;clear hK1 hS;dsimp only [List.getElem_toArray,List.getElem_cons_succ,List.getElem_cons_zero]
   go_simp
   go_at_call 27
   refine(HMC.out _ growsA).mono ?_;rintro e' wA ⟨cv,rfl,⟨bX,dX,rfl⟩,hrep⟩;obtain⟨ca,cc,rfl⟩:=hrep.form0;obtain⟨hvc6,hnx6⟩:=(HVY4.out.grows (show W4.Grows (W4.grow bX dX)from growsA)).setBody HN.out.ln HKL.out (show RepE (fun b=>b≠gg) (W4.grow bX dX) E (.slice ca E.args.length cc)from hrep.mono fun b hb=>by simp at hb;omega);have HV6:=zh hvc6;have HN6:=zh hnx6;clear hvc6 hnx6 hrep;refine TS.go HK1.out growsA (fun hS=>?_);clear HK1 K1
   (try simp only [nS])
   refine TS.wkB 13 hS ?_;refine TS.wkB 14 hS ?_;refine TS.weB 15 ?_;clear hS;refine then_abs (fun W6 hW6=>?_);have hW6':(W4.grow bX dX).setCells gg (k*7+1) (cells1 E (.slice ca E.args.length cc))=W6:=by rw [setCells_grow _ _ _ _ _ hgg4];exact hW6
   rw [hW6']at HV6 HN6;have hg16:W1.Grows W6:=.of_below (by rw [←hW6'];exact below_setCells (by have:=HG13.out.below.size;omega) _ _ _ (HG14.out.below.trans ((show Below W4.heap.size W4 (W4.grow bX dX)from(Below.refl _ _).grow (Nat.le_refl _) _ _).mono (by have:=HG14.out.below.size;omega))))
   have BY6:W6.heap[Y]? =W4.heap[Y]?:=by
    rw [←hW6',(next_setCells _ _ _ (Next.refl gg (W4.grow bX dX))).blk Y (by simp;omega) hYg];exact World.heap_grow _ _ _ yl
   have HG16:=zh hg16;have HGW6:=zh (World.Grows.trans' HG1.out hg16);have HBY:=zh (BY6.trans BY.out.2);have HB6:=zh (HB1.out.grows hg16);clear hW6 hW6' hfz e0 e1 e2 e3 e4 e5 hg16 BY6 HVY4 HMC HEC z2 y5 yl hYg hgg4 hgW BY;have HVC6:=zh (HVC1.out.grows HG16.out);have HNX6:=zh (And.intro (HNX1.out.1.grows HG16.out) (HNX1.out.2.grows HG16.out));have HPL:=zh (nd_plain HN.out.ls HN.out.ln.2.2.1 HKL.out (E:=E) HE.out v HGH.out HN1.out HN2.out)
   have HSY:Hid (VerSm {V with le:=chL V.le k E}):=zh ⟨fun t ht=>by
    rcases List.mem_or_eq_of_mem_set ht with ht|rfl
    ·exact HN.out.sm.le t ht
    ·exact⟨(HN.out.sm.le _ (getD_mem HKL.out)).1,HEB.out⟩,HN.out.sm.gr,HN.out.sm.re⟩
   have HA:=zh (fun w' (hg:W6.Grows w') (ya:Option Addr) (yc:Nat) (hY:YrAt w' (.slice ya v.years.length yc) v.years)=>Grant2_any V v g.1 V.frm V.mode V.unit _ _ _ _ _ _ w' (HVC6.out.grows hg) ⟨HNX6.out.1.grows hg,HNX6.out.2.grows hg⟩ HCP.out HN.out.sm HN.out.ln.2.2.1 (HT.out.grows (World.Grows.trans' HGW6.out hg)) HRNG.out hY);have HC:=zh (fun w' (hg:W6.Grows w') (ya:Option Addr) (yc:Nat) (hY:YrAt w' (.slice ya v.years.length yc) v.years)=>Grant2_any {V with le:=chL V.le k E} v g.1 V.frm V.mode V.unit _ _ _ _ _ _ w' (HV6.out.grows hg) ⟨HN6.out.1.grows hg,HN6.out.2.grows hg⟩ HCY.out HSY.out (by show(chL V.le k E).length≤10;rw [chL_len];exact HN.out.ln.2.2.1) (HT.out.grows (World.Grows.trans' HGW6.out hg)) HRNG.out hY);simp only [HPL.out]at HC;obtain⟨⟨⟨gh,gn,gd⟩,gst,gc⟩,hr⟩:∃r,grantF V g.1 v=r:=⟨_,rfl⟩;unfold GrP vwV at HA HC;simp only [List.length_map,hr]at HA HC;clear hr HPL HSY;have p0:=blk_cell (j:=0) HB6.out.b1 rfl;have p1:=blk_cell (j:=1) HB6.out.b1 rfl;have p2:=blk_cell (j:=2) HB6.out.b1 rfl;have p3:=blk_cell (j:=3) HB6.out.b1 rfl;have p4:=blk_cell (j:=4) HB6.out.b1 rfl;have p5:=blk_cell (j:=5) HB6.out.b1 rfl;have p6:=blk_cell (j:=6) HB6.out.b1 rfl;have x0:=blk_cell (j:=0) HB6.out.b2 rfl;have x1:=blk_cell (j:=1) HB6.out.b2 rfl;have x2:=blk_cell (j:=2) HB6.out.b2 rfl;have x3:=blk_cell (j:=3) HB6.out.b2 rfl;have x4:=blk_cell (j:=4) HB6.out.b2 rfl;have x5:=blk_cell (j:=5) HB6.out.b2 rfl;have x6:=blk_cell (j:=6) HB6.out.b2 rfl;have x7:=blk_cell (j:=7) HB6.out.b2 rfl;have g0:=blk_cell (j:=0) HB6.out.b3 rfl;have y0:=blk_cell (j:=0) HBY.out rfl;have y1:=blk_cell (j:=1) HBY.out rfl;have y2:=blk_cell (j:=2) HBY.out rfl;have y3:=blk_cell (j:=3) HBY.out rfl;have y4:=blk_cell (j:=4) HBY.out rfl;have y5:=blk_cell (j:=5) HBY.out rfl;have y6:=blk_cell (j:=6) HBY.out rfl;have y7:=blk_cell (j:=7) HBY.out rfl;have l1:=blk_lt HB6.out.b1;have l2:=blk_lt HB6.out.b2;have l3:=blk_lt HB6.out.b3;have l4:=blk_lt HBY.out
   go_wp2_with (first
    |(go_at_call 14;refine(HW.out _ (World.Grows.trans' HGW6.out growsR)).mono ?_;rintro e' w' ⟨yv,rfl,⟨bA,dA,rfl⟩,hyv⟩;have HYV:=zh hyv;obtain⟨-,ya1,yc1,rfl,-⟩:=hyv)
    |(go_at_call 42;first
     |(refine(HA.out _ growsR _ _ (HYV.out.grows growsR)).mono ?_;rintro e' w' ⟨sv,rfl,⟨bB,dB,rfl⟩,hsv,-⟩;have HSV:=zh hsv;obtain⟨-,sa,sc,rfl,-⟩:=hsv;clear HA)
     |(refine(HC.out _ growsR _ _ (HYV.out.grows growsR)).mono ?_;rintro e' w' ⟨su,rfl,⟨bC,dC,rfl⟩,hsu,-⟩;have HSU:=zh hsu;obtain⟨-,sa',sc',rfl,-⟩:=hsu))
    |(go_at_call 19;refine(awake8_any _ (HT.out.grows (World.Grows.trans' HGW6.out growsR))).mono ?_;rintro e' w' ⟨rfl,bD,dD,rfl⟩)
    |(go_at_call 44;refine(sameResult_any gst _ _ _ _ _ _ (HSV.out.grows growsR) (HSU.out.grows growsR)).mono ?_;rintro e' w' ⟨rfl,bE',dE',rfl⟩))
   go_returns
   exact⟨rfl,World.Grows.trans' HGW6.out growsR⟩
theorem nd_any(hOf:Hid OfSaid)(zs:List Int)(vl:Value)(cs:Array Value)(R:RawV)(P:VwR)(vd vy:Value)(n:Int)(w:World)(hl:IntsAt w vl zs)(hR:RawAt w cs.toList R)(hd:IntsAt w vd P.days)(hy:IntsAt w vy P.years)(ht:Tab w) :
 Calls Tryz.prog 13 #[.agg cs,.agg #[.int .i64 P.age,.int .i64 P.year,.int .i64 P.children,.int .i64 P.base,.int .i64 P.den,vd,vy],vl,.int .i64 n] w fun e w'=>e= .returned (.bool true)∧w.Grows w':=by
 by_cases h1:zs.length≤100
 ·exact nd_core hOf zs vl cs R P vd vy n w hl hR hd hy ht h1 _ (zh (ofP_one R)) _ (NdV.of R) _ (zh rfl) (viewP_rng P)
 ·exact nd_long zs vl cs P vd vy n w hl (by omega) R hR
end Go.Proofs.YtlheailebbngiaaGreatDoor
