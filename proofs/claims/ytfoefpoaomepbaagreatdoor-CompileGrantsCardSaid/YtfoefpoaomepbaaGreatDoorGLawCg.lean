import Derived.Test.YtfoefpoaomepbaaGreatDoorGGr4
import Derived.Test.YtfoefpoaomepbaaGreatDoorGMchV1
import Derived.Test.YtfoefpoaomepbaaGreatDoorGFlR
set_option linter.all false
set_option linter.all false
namespace Go.Proofs.YtfoefpoaomepbaaGreatDoor
open Go.RowKit
def CgCall(V:dK)(b r:Int)(l:List Ins)(sl:List ByteArray):Prop:=
 ∀(x0 x1 x2:Int) (v3 v4 v5 v6 v7:Value) (W:World),wh W V v3 v4 v5 v6 v7→(fP 2 W v3 V.cr.length∧fP 3 W v4 V.se.length)→(iM v3∧iM v6∧iM v7)→Tab W→
  Calls Tryz.prog 27 #[.agg #[.int .i64 x0,.int .i64 x1,.int .i64 x2,v3,v4,v5,v6,v7],.int .i64 b] W (CmpP r l sl W)
def CgCase(V:dK)(b r:Int)(l:List Ins)(sl:List ByteArray):Prop:=
 (r≠0∧l= []∧(bM V=r∨bM V=0∧r=9∧∀j,j<V.gr.length→(V.gr.getD j default).1≠b))∨
 (r=0∧bM V=0∧(∃d,verB l sl=(d,0))∧QQ l∧l.length≤4000∧sl.length≤12∧(∀s∈sl,s.size≤maxLen)∧∃k,k<V.gr.length∧(V.gr.getD k default).1=b∧(∀j,j<V.gr.length→(V.gr.getD j default).1=b→j=k)∧sl=slotG (V.gr.getD k default).2.1 (V.gr.getD k default).2.2 V.le)
theorem cg_call(V:dK)(b:Int)(hs:pY V)(h10:V.le.length≤10):∃r l sl,CgCall V b r l sl∧CgCase V b r l sl:=by
 by_cases hv:bM V=0
 ·by_cases hn:∀j,j<V.gr.length→(V.gr.getD j default).1≠b
  ·exact⟨9,[],[],fun x0 x1 x2 v3 v4 v5 v6 v7 W h hnx hcp ht=>cg_none V b x0 x1 x2 v3 v4 v5 v6 v7 W h hnx hcp hs ht hv hn,.inl ⟨by decide,rfl,.inr ⟨hv,rfl,hn⟩⟩⟩
  ·obtain⟨k,hk,hkb⟩:∃k,k<V.gr.length∧(V.gr.getD k default).1=b:=by
    refine Classical.byContradiction fun c=>hn fun j hj e=>c ⟨j,hj,e⟩
   have hvo:=G9.of hv
   obtain⟨t1,t2⟩:=hvo.gr _ (getD_mem hk)
   have hap:=apart_first (vers_apart hv).1 hk hkb
   obtain⟨d,hd⟩:=codeG_ver hvo.ls h10 t1 t2
   obtain⟨s1,s2⟩:=slotG_words hvo.ls h10 (e:=(V.gr.getD k default).2.1) (f:=(V.gr.getD k default).2.2)
   refine⟨0,_,_,fun x0 x1 x2 v3 v4 v5 v6 v7 W h hnx hcp ht=>cg_ok V b x0 x1 x2 v3 v4 v5 v6 v7 W h hnx hcp hs ht h10 hv k hk hkb _ rfl,.inr ⟨rfl,hv,⟨d,by rw [←ver_same];exact hd⟩,ver_i64 hd,codeG_len hvo.ls h10 t1 t2,s2,fun s hs=>?_,k,hk,hkb,fun j hj hjb=>?_,rfl⟩⟩
   ·unfold eO at s1
    simp only [Bool.and_eq_true,decide_eq_true_eq,List.all_eq_true]at s1
    have:=s1.1.2 s hs
    unfold isWord at this
    simp only [Bool.and_eq_true,decide_eq_true_eq]at this
    unfold maxLen;omega
   ·rcases Nat.lt_trichotomy j k with c|c|c
    ·exact absurd hjb (hap j c)
    ·exact c
    ·exact absurd hkb (apart_first (vers_apart hv).1 hj hjb k c)
 ·exact⟨bM V,[],[],fun x0 x1 x2 v3 v4 v5 v6 v7 W h hnx hcp ht=>cg_bad V b x0 x1 x2 v3 v4 v5 v6 v7 W h hnx hcp hs ht hv,.inl ⟨hv,rfl,.inl rfl⟩⟩
structure CgS(w:World)(X Y B1 B2:Nat)(V:dK)(v3 v4 v5 v6 v7 vI vS:Value)(l:List Ins)(sl:List ByteArray)(W:World):Prop where
 gr:w.Grows W
 b5:W.heap[X]? =some (.cells #[.int .i64 V.frm,.int .i64 V.mode,.int .i64 V.unit,v3,v4,v5,v6,v7] 82 (0,0))
 b6:W.heap[Y]? =some (.cells #[vI,vS] 58 (0,0))
 vc:wh W V v3 v4 v5 v6 v7
 ri:kW B1 W vI l
 rs:W.ownsRow B2 9 1 vS sl.length (slV sl)
theorem CgS.grows{w W W':World}{X Y B1 B2:Nat}{V:dK}{v3 v4 v5 v6 v7 vI vS:Value}{l:List Ins}{sl:List ByteArray}(h:CgS w X Y B1 B2 V v3 v4 v5 v6 v7 vI vS l sl W)(hg:W.Grows W'):CgS w X Y B1 B2 V v3 v4 v5 v6 v7 vI vS l sl W':=
 ⟨h.gr.trans' hg,(hg.below.block X (Array.getElem?_eq_some_iff.1 h.b5).1).trans h.b5,(hg.below.block Y (Array.getElem?_eq_some_iff.1 h.b6).1).trans h.b6,h.vc.grows hg,h.ri.grows hg,own_grow9 h.rs hg⟩
def CgAt(V:dK)(b:Int)(n:Nat)(z:Int):Prop:=(z= -1∧∀j,n≤j→j<V.gr.length→(V.gr.getD j default).1≠b)∨∃j:Nat,z=j∧j<V.gr.length∧(V.gr.getD j default).1=b
theorem CgAt.next{V:dK}{b:Int}{m:Nat}{z:Int}(h:CgAt V b (m+1) z)(hn:(V.gr.getD m default).1≠b):CgAt V b m z:=
 h.imp (fun⟨h1,h2⟩=>⟨h1,fun j hj hl=>(Nat.eq_or_lt_of_le hj).elim (fun e=>e ▸ hn) (fun c=>h2 j c hl)⟩) id
theorem cg_abs{K:Act→World→Prop}{Q:Exit→Act→World→Prop}{e:Exit}{a:Act}{w:World}(h:∀W,w=W→Exit.then K Q e a W):Exit.then K Q e a w:=h w rfl
theorem or_hit{A B:List Int}{z:Int}{m:Nat}(hm:m<A.length+B.length)(h:(A++B).getD m 0=z):(A.contains z || B.contains z)=true:=by
 have hl:m<(A++B).length:=by rw [List.length_append];exact hm
 rw [List.getD_eq_getElem?_getD,List.getElem?_eq_getElem hl,Option.getD_some]at h
 have:=List.getElem_mem hl
 rw [h,List.mem_append]at this
 rw [Bool.or_eq_true,List.contains_iff_mem,List.contains_iff_mem];exact this
theorem or_miss{A B:List Int}{z:Int}(h:∀m,m<A.length+B.length→(A++B).getD m 0≠z):(A.contains z || B.contains z)=false:=by
 rw [Bool.eq_false_iff,ne_eq,Bool.or_eq_true,List.contains_iff_mem,List.contains_iff_mem,←List.mem_append]
 intro hm
 obtain⟨i,hi,e⟩:=List.mem_iff_getElem.1 hm
 refine h i (by rw [←List.length_append];exact hi) ?_
 rw [List.getD_eq_getElem?_getD,List.getElem?_eq_getElem hi,Option.getD_some,e]
theorem aD.cell_at{w:World}{a:Option Addr}{n c:Nat}{zs:List Int}(h:aD w (.slice a n c) zs){i:Nat}(hi:i<zs.length):∃b o,a=some ⟨b,o,none⟩∧b<w.heap.size∧w.cell? ⟨b,o+i,none⟩=some (.int .i64 (zs.getD i 0)):=by
 obtain⟨-,-,a1,c1,hv,hx⟩:=h
 simp only [Value.slice.injEq]at hv
 obtain⟨rfl,-,-⟩:=hv
 rcases hx with hx|⟨b,o,e,hb,hx⟩
 ·omega
 ·exact⟨b,o,e,hb,hx i hi⟩
theorem app_left{A B:List Int}{m:Nat}(h:m<A.length):(A++B).getD m 0=A.getD m 0:=by
 rw [List.getD_eq_getElem?_getD,List.getElem?_append_left h,←List.getD_eq_getElem?_getD]
theorem app_right{A B:List Int}{j:Nat}:(A++B).getD (A.length+j) 0=B.getD j 0:=by
 rw [List.getD_eq_getElem?_getD,List.getElem?_append_right (by omega),Nat.add_sub_cancel_left,←List.getD_eq_getElem?_getD]
def nmF(ls:List (ByteArray × Ex))(A B:List Int)(i:Nat):List ByteArray:=((List.range i).filter fun i:Nat=>A.contains (i:Int) || B.contains (i:Int)).map fun i=>(ls.getD i default).1
theorem nmF_next(ls:List (ByteArray × Ex))(A B:List Int)(i:Nat):nmF ls A B (i+1)=nmF ls A B i++(if(A.contains (i:Int) || B.contains (i:Int))=true then [(ls.getD i default).1]else []):=by
 unfold nmF
 rw [List.range_succ,List.filter_append,List.map_append]
 congr 1
 by_cases h:(A.contains (i:Int) || B.contains (i:Int))=true
 ·rw [if_pos h,List.filter_cons,if_pos h];rfl
 ·rw [if_neg h,List.filter_cons,if_neg h];rfl
theorem nmF_len(ls:List (ByteArray × Ex))(A B:List Int)(i:Nat):(nmF ls A B i).length≤i:=by
 unfold nmF
 rw [List.length_map]
 have:=List.length_filter_le (fun i:Nat=>A.contains (i:Int) || B.contains (i:Int)) (List.range i)
 rwa [List.length_range]at this
theorem nmF_all(E F:Ex)(ls:List (ByteArray × Ex)):nmF ls ((usesL E ls).map Int.ofNat) ((usesL F ls).map Int.ofNat) ls.length++[ifN,payN]=slotG E F ls:=by
 unfold nmF slotG
 simp only [contains_nat]
def NmRow(W3:World)(vn:Value)(nms:List ByteArray)(wr:World):Prop:=W3.Grows wr∧wr.ownsRow W3.heap.size 9 1 vn nms.length (slV nms)
theorem NmRow.push{W3 wr w1:World}{vn:Value}{nms news:List ByteArray}{g n c:Nat}(h:NmRow W3 vn nms wr){W:World}(hg:wr.Grows W)(hgr:W.grownBy w1 vn.ownBlock)(hn:n=nms.length+news.length)(ho:w1.ownsRow W3.heap.size 9 1 (.slice (some ⟨g,0,none⟩) n c) n (slV nms++slV news)):NmRow W3 (.slice (some ⟨g,0,none⟩) n c) (nms++news) w1:=by
 subst hn
 refine⟨World.Grows.grown (h.1.trans' hg) hgr (fun k hk=>(h.2.lt k hk).1), ?_⟩
 rw [List.length_append];unfold slV at ho ⊢;rw [List.map_append];exact ho
set_option maxRecDepth 1000000 in
set_option maxHeartbeats 16000000 in
theorem cg_core(hOf:Hid OfSaid)(bn:Int)(cs:Array Value)(R:bW)(w:World)(hR:qa w cs.toList R)(ht:Tab w)(V:dK)(hV:Hid (ofP R=V))(hln:V.cr.length≤1000∧V.se.length≤1000∧V.le.length≤10∧V.gr.length≤1000∧V.re.length≤1000)(hsm:pY V)
 (b:Int) (hb:Hid (pick bn 5=b)) (r:Int) (l:List Ins) (sl:List ByteArray) (hcall:Hid (CgCall V b r l sl)) (hcase:Hid (CgCase V b r l sl)) :
 Calls Tryz.prog 7 #[.agg cs,.int .i64 bn] w fun e w'=>e= .returned (.bool true)∧w.Grows w':=by
 have HT:=yq ht
 have HSM:=yq hsm
 have HOF:=yq (fun w' (hg:w.Grows w')=>hOf.out R cs w' (hR.below hg.below))
 unfold OfPost at HOF
 simp only [hV.out]at HOF
 have HPK:=yq (fun w=>Pick_any bn 5 w (by omega))
 rw [hb.out]at HPK
 unfold CgCall at hcall
 obtain⟨-,-,-,-,vc,vs,vl',vi,vp,vu,he,-⟩:=hR
 obtain⟨l0⟩:=cs
 simp only at he
 subst he
 clear ht hsm
 go_enter Tryz.func7,Tryz.ntmps7
 go_upto_region 2 with (go_at_call 26;refine(HOF.out _ growsR).mono ?_;rintro e' w' ⟨v3,v4,v5,v6,v7,rfl,⟨bs,d,rfl⟩,hver⟩;have hvc:=hver.verC ⟨hln.1,hln.2.1,by omega,hln.2.2.2.1,hln.2.2.2.2⟩;obtain⟨-,a3,k3,rfl,-⟩:=hvc.cr;obtain⟨-,a4,k4,rfl,-⟩:=hvc.se;obtain⟨-,a5,k5,rfl,-⟩:=hvc.le;obtain⟨-,a6,k6,rfl,-⟩:=hvc.gr;obtain⟨-,a7,k7,rfl,-⟩:=hvc.re;have HVC:=yq hvc;have HNX:=yq hver.numsX;have HCP:=yq hver.caps;simp only [List.length_map]at HVC HNX HCP ⊢;clear hver hvc)
 go_upto_region 3 with (go_at_call 10;refine(HPK.out _).mono ?_;rintro e' w' ⟨rfl,rfl⟩)
 go_upto_region 4 with (go_at_call 27;refine(hcall.out _ _ _ _ _ _ _ _ _ (HVC.out.grows growsR) ⟨HNX.out.1.grows growsR,HNX.out.2.grows growsR⟩ HCP.out (HT.out.grows growsR)).mono ?_;rintro e' w' ⟨vI,vS,B1,B2,rfl,⟨bs2,d2,rfl⟩,hro1,hro2⟩;obtain⟨ia,ic,rfl⟩:=hro1.form;obtain⟨sa,sc,rfl,-,-⟩:=rowForm3 hro2;have HR1:=yq hro1;have HR2:=yq hro2;clear hro1 hro2)
 refine wp_abs (fun W1 hW1=>?_)
 have hS1:CgS w (w.heap.size+1+bs.size) (w.heap.size+1+bs.size+1+bs2.size) B1 B2 V (.slice a3 V.cr.length k3) (.slice a4 V.se.length k4) (.slice a5 V.le.length k5) (.slice a6 V.gr.length k6) (.slice a7 V.re.length k7) (.slice ia l.length ic) (.slice sa sl.length sc) l sl W1:=by
  rw [←hW1]
  refine⟨growsR, ?_, ?_,HVC.out.grows growsR,HR1.out.grows growsR,own_grow9 HR2.out growsR⟩
  ·rw [Below.heap_alloc _ _ _ (by simp;omega),World.heap_grow _ _ _ (by simp)];exact heap_new _ _ _ (by simp)
  ·exact heap_new _ _ _ (by simp)
 have HS1:=yq hS1
 generalize w.heap.size+1+bs.size+1+bs2.size=Y at *
 generalize w.heap.size+1+bs.size=X at *
 have HT1:=yq (HT.out.grows hS1.gr)
 obtain⟨-,a',c',hv',hgx⟩:=hS1.vc.gr
 simp only [Value.slice.injEq,true_and]at hv'
 obtain⟨rfl,rfl⟩:=hv'
 have x5:=cell_of_row W1 _ 5 _ _ _ hS1.b5
 have x6:=cell_of_row W1 _ 6 _ _ _ hS1.b5
 have xl:=(Array.getElem?_eq_some_iff.1 hS1.b5).1
 clear hW1 hS1 HVC HR1 HR2 HNX HCP HOF HPK hcall hV hb
 go_wp2_with fail
 go_loopw [8,9] (fun v8 v9 wr=>wr=W1∧∃(n:Nat) (z:Int),n≤V.gr.length∧v9= .int .i64 ((n:Int)-1)∧v8= .int .i64 z∧Hid (CgAt V b n z)) (fun _ v9 _=>(intOf v9+1).toNat)
 case atStart=>exact⟨rfl,V.gr.length,-1,Nat.le_refl _,rfl,rfl,yq (.inl ⟨rfl,fun j h1 h2=>by omega⟩)⟩
 case round=>
  obtain⟨hwr,n,z,hn,rfl,rfl,HZ⟩:=hrel
  subst hwr
  rcases Nat.eq_zero_or_pos n with rfl|h0
  ·clear hn
   clear hgx
   have x0:=cell_of_row wr _ 0 _ _ _ HS1.out.b5
   have x1:=cell_of_row wr _ 1 _ _ _ HS1.out.b5
   have x2:=cell_of_row wr _ 2 _ _ _ HS1.out.b5
   have x3:=cell_of_row wr _ 3 _ _ _ HS1.out.b5
   have x4:=cell_of_row wr _ 4 _ _ _ HS1.out.b5
   have x7:=cell_of_row wr _ 7 _ _ _ HS1.out.b5
   have y0:=cell_of_row wr _ 0 _ _ _ HS1.out.b6
   have yl:=(Array.getElem?_eq_some_iff.1 HS1.out.b6).1
   have HG1:=yq HS1.out.gr
   have HV5:=yq (fun W (hg:wr.Grows W)=>Version5_any V V.frm V.mode V.unit _ _ _ _ _ W (HS1.out.vc.grows hg) HSM.out)
   go_upto_region 11 with (go_at_call 28;refine(HV5.out _ growsA).mono ?_;rintro e' w' ⟨rfl,bs5,d5,rfl⟩)
   rcases hcase.out with ⟨hr,rfl,hv⟩|⟨rfl,hv,HVB,hio,hl4,hs12,hsz,k,hk,hkb,huq,hsl⟩
   ·rcases hv with hv|⟨hv,rfl,hno⟩
    ·rw [hv]
     have q1:(r==0)=false:=by simpa using hr
     have q2:(r !=0)=true:=by simpa using hr
     clear hv
     go_wp2_with (go_at_call 11;refine(awake10 _ (HT1.out.grows growsA)).mono ?_;rintro e' w' ⟨rfl,bs6,d6,rfl⟩)
     go_returns
     exact⟨rfl,World.Grows.trans' HG1.out growsA⟩
    ·rw [hv]
     obtain rfl:z= -1:=by
      rcases HZ.out with ⟨h,-⟩|⟨j,-,hj,hjb⟩
      ·exact h
      ·exact absurd hjb (hno j hj)
     clear hv hr
     go_wp2_with (go_at_call 11;refine(awake10 _ (HT1.out.grows growsA)).mono ?_;rintro e' w' ⟨rfl,bs6,d6,rfl⟩)
     go_returns
     exact⟨rfl,World.Grows.trans' HG1.out growsA⟩
   rw [hv]
   obtain rfl:z=(k:Int):=by
    rcases HZ.out with ⟨-,h⟩|⟨j,rfl,hj,hjb⟩
    ·exact absurd hkb (h k (Nat.zero_le _) hk)
    ·rw [huq j hj hjb]
   have hk0:¬(k:Int)<0:=by omega
   go_upto_region 16 with fail
   refine cutW (CgS w X Y B1 B2 V _ _ _ _ _ _ _ l sl) (HS1.out.grows growsA) ?_
   intro W2 h2
   obtain⟨-,a',c',hv',hz|⟨bg,og,rfl,hbg,hgx⟩⟩:=h2.vc.gr
   ·omega
   simp only [Value.slice.injEq,true_and]at hv'
   obtain⟨rfl,rfl⟩:=hv'
   obtain⟨u,u',q0,p0,p1,p2,p3,p4,p5,r0,r1,r2,r3,r4,r5,hra,hrb⟩:=hgx k hk
   obtain⟨ea,ec,rfl⟩:=hra.form0
   obtain⟨fa,fc,rfl⟩:=hrb.form0
   have d1:(k:Int)<(V.gr.length:Int):=by omega
   have d0:(0:Int)≤(k:Int):=by omega
   generalize(V.gr.getD k default).2.1=E at *
   generalize(V.gr.getD k default).2.2=F at *
   have x5:=cell_of_row W2 _ 5 _ _ _ h2.b5
   have x6:=cell_of_row W2 _ 6 _ _ _ h2.b5
   have xl:=(Array.getElem?_eq_some_iff.1 h2.b5).1
   have HS2:=yq h2
   have HRA:=yq hra
   have HRB:=yq hrb
   have HU1:=yq (fun W (hg:W2.Grows W)=>Uses8_any E _ _ V.le W (HRA.out.grows hg) (HS2.out.vc.le.grows hg))
   have HU2:=yq (fun W (hg:W2.Grows W)=>Uses8_any F _ _ V.le W (HRB.out.grows hg) (HS2.out.vc.le.grows hg))
   unfold exV at HU1 HU2
   have HHS:=yq hsl
   have HIO:=yq hio
   have HSZ:=yq hsz
   clear hgx hra hrb h2 HS1 HT1 HV5 HZ hcase q0 huq hkb hsl hio hsz hv
   refine TS.begin [] (World.Grows _) (by kernel_rfl) (by kernel_rfl) grows_drew0 (fun hS=>?_)
   refine kq 0 hS ?_
   refine kq 1 hS ?_
   refine kq 2 hS ?_
   refine kq 3 hS ?_
   refine kq 4 hS ?_
   refine kq 5 hS ?_
   refine kq 6 hS ?_
   refine kq 7 hS ?_
   refine kq 9 hS ?_
   refine kq 10 hS ?_
   refine kq 11 hS ?_
   refine kq 12 hS ?_
   refine kq 13 hS ?_
   refine kq 14 hS ?_
   refine kq 15 hS ?_
   refine kq 16 hS ?_
   refine TS.one (i:=8) (by kernel_rfl) rfl (fun K1 hK1=>?_)
   have HK1:=yq hK1
   clear hK1 hS
   dsimp only [List.getElem_toArray,List.getElem_cons_succ,List.getElem_cons_zero]
   go_simp
   go_at_call 21
   refine(HU1.out _ growsA).mono ?_
   rintro e' wA ⟨⟨xu,rfl,hxu,-⟩,bC,dC,rfl⟩
   obtain⟨ua,uc,rfl⟩:=aD.form hxu
   simp only [World.drew_grow]at hxu
   have HXU:=yq hxu
   clear hxu
   refine TS.go HK1.out growsA (fun hS=>?_)
   clear HK1 K1
   (try simp only [nS])
   refine TS.one (i:=17) (by kernel_rfl) rfl (fun K1 hK1=>?_)
   have HK1:=yq hK1
   clear hK1 hS
   dsimp only [List.getElem_toArray,List.getElem_cons_succ,List.getElem_cons_zero]
   go_simp
   go_at_call 21
   refine(HU2.out _ growsA).mono ?_
   rintro e' wA ⟨⟨xv,rfl,hxv,-⟩,bB,dB,rfl⟩
   obtain⟨va,vc2,rfl⟩:=aD.form hxv
   have HXV:=yq hxv
   clear hxv
   refine TS.go HK1.out growsA (fun hS=>?_)
   clear HK1 K1
   (try simp only [nS])
   refine kq 18 hS ?_
   refine kq 19 hS ?_
   refine TS.done (by kernel_rfl) ?_
   clear hS
   (try simp only [nS])
   have HNA:Hid (nmF V.le ((usesL E V.le).map Int.ofNat) ((usesL F V.le).map Int.ofNat) V.le.length++[ifN,payN]=sl):=yq ((nmF_all E F V.le).trans HHS.out.symm)
   have HLA:=usesG_length (e:=E) (ls:=V.le) V.le.length
   have HLB:=usesG_length (e:=F) (ls:=V.le) V.le.length
   refine cg_abs (fun W3 hW3=>?_)
   have HS3:=yq (HS2.out.grows (W':=W3) (by rw [←hW3];exact growsA))
   have ha10:((usesL E V.le).map Int.ofNat).length≤10:=by rw [List.length_map];unfold usesL;omega
   have hb10:((usesL F V.le).map Int.ofNat).length≤10:=by rw [List.length_map];unfold usesL;omega
   have hzA:((usesL E V.le).map Int.ofNat).length=(usesL E V.le).length:=List.length_map ..
   have hzB:((usesL F V.le).map Int.ofNat).length=(usesL F V.le).length:=List.length_map ..
   generalize(usesL E V.le).map Int.ofNat=zA at *
   generalize(usesL F V.le).map Int.ofNat=zB at *
   have hA:aD W3 (.slice ua zA.length uc) zA:=by rw [←hW3];exact aD.growsG HXU.out growsA
   have hB:aD W3 (.slice va zB.length vc2) zB:=by rw [←hW3];exact aD.growsG HXV.out growsA
   rw [hzA]at hA ha10
   rw [hzB]at hB hb10
   clear hW3 HS2 HXU HXV HRA HRB HU1 HU2 HHS HLA HLB x5 x6 p0 p1 p2 p3 p4 p5 r0 r1 r2 r3 r4 r5 hbg xl
   have HA:=yq hA
   have HB:=yq hB
   clear hA hB
   generalize(usesL E V.le).length=la at *
   generalize(usesL F V.le).length=lb at *
   have HZA:=yq hzA
   have HZB:=yq hzB
   clear hzA hzB
   have HT3:=yq (HT.out.grows HS3.out.gr)
   obtain⟨i1,hi1,hz11,hz21,hz31⟩:=info_parts infoStr
   have x5:=cell_of_row W3 _ 5 _ _ _ HS3.out.b5
   have xl:=(Array.getElem?_eq_some_iff.1 HS3.out.b5).1
   go_wp2_with fail
   go_loopw [11,14] (fun v11 v14 wr=>∃(i:Nat) (vn:Value),vn=v11∧i≤V.le.length∧v14= .int .i64 i∧Hid (NmRow W3 vn (nmF V.le zA zB i) wr)) (fun _ v14 _=>V.le.length-(intOf v14).toNat)
   case atStart=>exact⟨0,_,rfl,by omega,rfl,yq ⟨.refl _,World.ownsRow_nil _ _ _ _⟩⟩
   case round=>
    obtain⟨i,vn,rfl,hi,rfl,HN⟩:=hrel
    have HSr:=yq (HS3.out.grows HN.out.1)
    have x5:=cell_of_row wr _ 5 _ _ _ HSr.out.b5
    have xl:=(Array.getElem?_eq_some_iff.1 HSr.out.b5).1
    by_cases hlt:i<V.le.length
    ·have d2:(i:Int)<(V.le.length:Int):=by omega
     have HLT:=yq hlt
     clear hi
     obtain⟨na,nc,rfl,-,-⟩:=rowForm3 HN.out.2
     have hnx:=nmF_next V.le zA zB i
     have hnl:=nmF_len V.le zA zB i
     have HNL:=yq (show(nmF V.le zA zB i).length≤10 by omega)
     clear hnl
     go_wp2_with fail
     go_loopw [11,15] (fun v11 v15 wr2=>wr2=wr∧v11= .slice na (nmF V.le zA zB i).length nc∧∃q:Nat,q≤la+lb∧v15= .int .i64 q∧Hid (∀m,m<q→(zA++zB).getD m 0≠(i:Int))) (fun _ v15 _=>la+lb-(intOf v15).toNat)
     case atStart=>exact⟨rfl,rfl,0,by omega,rfl,yq (fun m hm=>by omega)⟩
     case round=>
      obtain⟨hwr,rfl,q,hq,rfl,HQ⟩:=hrel
      subst hwr
      by_cases hql:q<la+lb
      ·have e0:(q:Int)<(la:Int)+(lb:Int):=by omega
       have HQL:=yq hql
       clear hq hql
       have HNH:Hid ((zA++zB).getD q 0=(i:Int)→nmF V.le zA zB (i+1)=nmF V.le zA zB i++[(V.le.getD i default).1]):=yq (fun hz=>by rw [hnx,or_hit (by have:=HZA.out;have:=HZB.out;have:=HQL.out;omega) hz];simp)
       have HQ2:Hid ((zA++zB).getD q 0≠(i:Int)→∀m,m<q+1→(zA++zB).getD m 0≠(i:Int)):=yq (fun hz m hm=>by
        rcases Nat.lt_or_eq_of_le (Nat.le_of_lt_succ hm)with h|rfl
        ·exact HQ.out m h
        ·exact hz)
       obtain⟨-,a2,c2,hv2,hx2|⟨eb,eo,hea,hlb,hxs⟩⟩:=HSr.out.vc.le
       ·omega
       simp only [Value.slice.injEq]at hv2
       obtain⟨rfl,-,rfl⟩:=hv2
       obtain rfl:=hea
       obtain⟨ux,hsl⟩:=hxs i hlt
       have g0:=hsl.nm
       have hlb2:eb<wr.heap.size:=hlb
       generalize(V.le.getD i default).1=nm at *
       clear hnx hsl hxs
       by_cases hla:q<la
       ·obtain⟨b1,o1,rfl,hb1,q1⟩:=aD.cell_at (i:=q) (aD.growsG HA.out HN.out.1) (by have:=HZA.out;omega)
        rw [←app_left (B:=zB) (by have:=HZA.out;omega)]at q1
        have f1:(q:Int)<(la:Int):=by omega
        have f2:(0:Int)≤(q:Int):=by omega
        generalize(zA++zB).getD q 0=y at *
        clear hla
        by_cases hz:y=(i:Int)
        ·have HNX:=yq (HNH.out hz)
         subst hz
         clear HNH
         generalize nmF V.le zA zB i=nms at *
         go_wp2_with (at_builtin;refine wpList_append_lies _ rfl _ _ 56 rfl W3.heap.size 9 i1 _ 1 16 Tryz.underlying56 hi1 hz11 hz21 hz31 rfl (by decide) (.slice na nms.length nc) nms.length (slV nms) rfl (own_grow9 HN.out.2 growsA) ⟨_,0,none⟩ 1 1 [.string nm] rfl rfl (news_cells _ [.string nm] _ _ (by simp)) (by intro u hu;simp at hu;subst hu;rfl) (by decide) (by unfold maxLen;have:=HNL.out;omega) (by have:=HNL.out;omega) (by have:=HN.out.1.below.size;simp;omega) _ rfl ?_;intro g6 c6 w6 hown hgrow hgg hgl6;have HN6:=yq (HN.out.push (news:=[nm]) growsA hgrow rfl hown);clear hown hgrow hgg hgl6)
         go_roundw
         case rel=>exact⟨i+1,_,rfl,HLT.out,by go_num,by rw [HNX.out];exact HN6⟩
         case measure=>simp [intOf];have:=HLT.out;omega
        ·have e3:(y==(i:Int))=false:=by simpa using hz
         have HQ3:=yq (HQ2.out hz)
         clear hz
         go_wp2_with fail
         go_roundw
         case rel=>exact⟨trivial,rfl,q+1,HQL.out,by go_num,HQ3⟩
         case measure=>simp [intOf];have:=HQL.out;omega
       ·obtain⟨j,hqj⟩:∃j,q=zA.length+j:=⟨q-zA.length,by have:=HZA.out;omega⟩
        obtain⟨b1,o1,rfl,hb1,q1⟩:=aD.cell_at (i:=j) (aD.growsG HB.out HN.out.1) (by have:=HZA.out;have:=HZB.out;have:=HQL.out;omega)
        rw [←app_right (A:=zA) (B:=zB),←hqj]at q1
        have f1:¬(q:Int)<(la:Int):=by omega
        have f2:(la:Int)≤(q:Int):=by omega
        have f3:(q:Int)-(la:Int)=(j:Int):=by have:=HZA.out;omega
        have f4:(j:Int)<(lb:Int):=by have:=HZA.out;have:=HQL.out;omega
        have f5:(0:Int)≤(j:Int):=by omega
        clear hqj
        generalize(zA++zB).getD q 0=y at *
        clear hla
        by_cases hz:y=(i:Int)
        ·have HNX:=yq (HNH.out hz)
         subst hz
         clear HNH
         generalize nmF V.le zA zB i=nms at *
         go_wp2_with (at_builtin;refine wpList_append_lies _ rfl _ _ 56 rfl W3.heap.size 9 i1 _ 1 16 Tryz.underlying56 hi1 hz11 hz21 hz31 rfl (by decide) (.slice na nms.length nc) nms.length (slV nms) rfl (own_grow9 HN.out.2 growsA) ⟨_,0,none⟩ 1 1 [.string nm] rfl rfl (news_cells _ [.string nm] _ _ (by simp)) (by intro u hu;simp at hu;subst hu;rfl) (by decide) (by unfold maxLen;have:=HNL.out;omega) (by have:=HNL.out;omega) (by have:=HN.out.1.below.size;simp;omega) _ rfl ?_;intro g6 c6 w6 hown hgrow hgg hgl6;have HN6:=yq (HN.out.push (news:=[nm]) growsA hgrow rfl hown);clear hown hgrow hgg hgl6)
         go_roundw
         case rel=>exact⟨i+1,_,rfl,HLT.out,by go_num,by rw [HNX.out];exact HN6⟩
         case measure=>simp [intOf];have:=HLT.out;omega
        ·have e3:(y==(i:Int))=false:=by simpa using hz
         have HQ3:=yq (HQ2.out hz)
         clear hz
         go_wp2_with fail
         go_roundw
         case rel=>exact⟨trivial,rfl,q+1,HQL.out,by go_num,HQ3⟩
         case measure=>simp [intOf];have:=HQL.out;omega
      ·obtain rfl:q=la+lb:=by omega
       have HNX:Hid (nmF V.le zA zB (i+1)=nmF V.le zA zB i):=yq (by rw [hnx,or_miss (fun m hm=>HQ.out m (by have:=HZA.out;have:=HZB.out;omega))];simp)
       clear hnx hq hql
       go_wp2_with fail
       go_roundw
       case rel=>exact⟨i+1,_,rfl,HLT.out,by go_num,by rw [HNX.out];exact HN⟩
       case measure=>simp [intOf];have:=HLT.out;omega
    ·obtain rfl:i=V.le.length:=by omega
     obtain⟨na,nc,rfl,-,-⟩:=rowForm3 HN.out.2
     have hnl:=nmF_len V.le zA zB V.le.length
     have HNL:=yq (show(nmF V.le zA zB V.le.length).length≤10 by omega)
     have hna:=HNA.out
     obtain⟨dv,hdv⟩:=HVB
     have HVF:=yq (fun W (hg:W3.Grows W)=>VerifyR_any l sl _ _ W ((kW.insAt HS3.out.ri (by omega) HIO.out).grows hg) ((slRow_at HS3.out.rs (by omega) HSZ.out).grows hg))
     unfold VrfP at HVF
     rw [hdv]at HVF
     clear hnl hdv HNA
     generalize nmF V.le zA zB V.le.length=nms at *
     go_upto_region 26 with (at_builtin;refine wpList_append_lies _ rfl _ _ 56 rfl W3.heap.size 9 i1 _ 1 16 Tryz.underlying56 hi1 hz11 hz21 hz31 rfl (by decide) (.slice na nms.length nc) nms.length (slV nms) rfl (own_grow9 HN.out.2 growsA) ⟨_,0,none⟩ 2 2 [.string ifN,.string payN] rfl rfl (news_cells _ [.string ifN,.string payN] _ _ (by simp)) (by intro u hu;simp at hu;rcases hu with rfl|rfl<;>rfl) (by decide) (by unfold maxLen;have:=HNL.out;omega) (by have:=HNL.out;omega) (by have:=HN.out.1.below.size;simp;omega) _ rfl ?_;intro g6 c6 w6 hown hgrow hgg hgl6;have hn6:=HN.out.push (n:=nms.length+2) (news:=[ifN,payN]) growsA hgrow rfl hown;rw [hna]at hn6;have HN6:=yq hn6;clear hown hgrow hgg hgl6 hn6)
     have hnl:nms.length+2=sl.length:=by rw [←hna,List.length_append];rfl
     rw [hnl]at HN6 ⊢
     have HS6:=yq (HS3.out.grows HN6.out.1)
     have y0:=cell_of_row w6 _ 0 _ _ _ HS6.out.b6
     have y1:=cell_of_row w6 _ 1 _ _ _ HS6.out.b6
     have yl:=(Array.getElem?_eq_some_iff.1 HS6.out.b6).1
     have HG6:=yq HN6.out.1
     clear HN HSr
     go_upto_region 27 with (go_at_call 22;refine(HVF.out _ (World.Grows.trans' HG6.out growsA)).mono ?_;rintro e' w' ⟨rfl,bs7,d7,rfl⟩)
     have HL2:=yq (show 0<sl.length by omega)
     obtain⟨sa',sc',hsv,-,hsb⟩:=rowForm3 HS6.out.rs
     simp only [Value.slice.injEq,true_and]at hsv
     obtain⟨rfl,rfl⟩:=hsv
     rcases hsb with hsb|⟨sb,rfl,-,-,-⟩
     ·omega
     clear HVF y0
     go_wp2_with fail
     clear y1 yl
     go_loopw [18] (fun v18 wr2=>∃i:Nat,i≤sl.length∧v18= .int .i64 i∧w6.Grows wr2) (fun v18 _=>sl.length-(intOf v18).toNat)
     case atStart=>exact⟨0,by omega,rfl,growsA⟩
     case round=>
      obtain⟨i,hi,rfl,hgr⟩:=hrel
      have HS7:=yq (HS6.out.grows hgr)
      have HN7:=yq (own_grow9 HN6.out.2 hgr)
      have HG7:=yq hgr
      by_cases hlt:i<sl.length
      ·have y1:=cell_of_row wr _ 1 _ _ _ HS7.out.b6
       have yl:=(Array.getElem?_eq_some_iff.1 HS7.out.b6).1
       have q1:=(HS7.out.rs.cellAt i (by omega)).trans (slV_get sl i hlt)
       have q2:=(HN7.out.cellAt i (by omega)).trans (slV_get sl i hlt)
       have d1:(i:Int)<(sl.length:Int):=by omega
       have d2:(0:Int)≤(i:Int):=by omega
       have HLT:=yq hlt
       clear hgr hi hlt
       generalize sl.getD i ByteArray.empty=nm at *
       go_wp2_with fail
       go_quiet (fail)
       go_wp2_with fail
       go_roundw
       case rel=>exact⟨i+1,HLT.out,by go_num,World.Grows.trans' HG7.out growsA⟩
       case measure=>simp [intOf];have:=HLT.out;omega
      ·obtain rfl:i=sl.length:=by omega
       have HT7:=yq (HT.out.grows HS7.out.gr)
       have HGw:=yq HS7.out.gr
       clear hgr hi hlt
       go_wp2_with (go_at_call 11;refine(awake10 _ (HT7.out.grows growsA)).mono ?_;rintro e' w' ⟨rfl,bs8,d8,rfl⟩)
       go_returns
       exact⟨rfl,World.Grows.trans' HGw.out growsA⟩
  ·obtain⟨m,rfl⟩:∃m,n=m+1:=⟨n-1,by omega⟩
   rcases hgx with hz|⟨bg,og,rfl,hbg,hgx⟩
   ·omega
   obtain⟨u,u',hg⟩:=hgx m (by omega)
   have q0:=hg.nm
   have e1:((m+1:Nat):Int)-1=(m:Int):=by omega
   have d1:(m:Int)<(V.gr.length:Int):=by omega
   have d0:(0:Int)≤(m:Int):=by omega
   have HM:=yq (show m<V.gr.length by omega)
   clear hgx hg hn h0
   rw [e1]
   by_cases hq:(V.gr.getD m default).1=b
   ·rw [hq]at q0
    have HN:Hid (CgAt V b m m):=yq (.inr ⟨m,rfl,HM.out,hq⟩)
    clear hq
    go_wp2_with fail
    go_roundw
    case rel=>exact⟨trivial,m,m,Nat.le_of_lt HM.out,by go_num,rfl,HN⟩
    case measure=>simp [intOf]
   ·have HN:Hid (CgAt V b m z):=yq (HZ.out.next hq)
    generalize(V.gr.getD m default).1=y at *
    have e3:(y==b)=false:=by simpa using hq
    clear hq
    go_wp2_with fail
    go_roundw
    case rel=>exact⟨trivial,m,z,Nat.le_of_lt HM.out,by go_num,rfl,HN⟩
    case measure=>simp [intOf]
theorem cg_any(hOf:Hid OfSaid)(bn:Int)(cs:Array Value)(R:bW)(w:World)(hR:qa w cs.toList R)(ht:Tab w):Calls Tryz.prog 7 #[.agg cs,.int .i64 bn] w fun e w'=>e= .returned (.bool true)∧w.Grows w':=by
 have hln:=of_lens R
 have hsm:=of_sm R
 obtain⟨r,l,sl,h1,h2⟩:=cg_call (ofP R) (pick bn 5) hsm hln.2.2.1
 exact cg_core hOf bn cs R w hR ht _ (yq rfl) hln hsm _ (yq rfl) r l sl (yq h1) (yq h2)
end Go.Proofs.YtfoefpoaomepbaaGreatDoor
