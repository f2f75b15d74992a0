import Derived.Test.YtcfpoofhokbhlaaGreatDoorVGr3
import Derived.Test.YtcfpoofhokbhlaaGreatDoorVGr8
import Derived.Test.YtcfpoofhokbhlaaGreatDoorVVwOf
set_option linter.all false
set_option maxHeartbeats 16000000
set_option maxRecDepth 1000000
namespace Go.Proofs.YtcfpoofhokbhlaaGreatDoor
open Go.Proofs.Tryz Tryz List
open Go.RowKit
theorem sv_set5{W0 w:World}{g:Nat}(h:W0.Grows w)(hB:W0.heap.size≤g)(i1 i2 i3 i4 i5:Nat)(u1 u2 u3 u4 u5:Value):W0.Grows (((((w.setCell ⟨g,i1,none⟩ u1).setCell ⟨g,i2,none⟩ u2).setCell ⟨g,i3,none⟩ u3).setCell ⟨g,i4,none⟩ u4).setCell ⟨g,i5,none⟩ u5):= .of_below (((((h.below.setCell hB _).setCell hB _).setCell hB _).setCell hB _).setCell hB _)
theorem FI(hOf:Hid AV)(cs:Array Value)(R:cO)(P:VwR)(vd vy:Value)(bn kd an n:Int)(w:World)(hR:nP w cs.toList R)(hd:ax w vd P.days)(hy:ax w vy P.years)(ht:Tab w)(h64:I64 n)
 (V:dH) (hV:Hid (ofP R=V)) (hsm:lI V) (hln:V.cr.length≤1000∧V.se.length≤1000∧V.le.length≤10∧V.gr.length≤1000∧V.re.length≤1000) (v:Vw) (hv:Hid (nJ P=v)) (hrng:dV v) (k:Int) (hk:Hid (pick bn 4=k)) :
 Calls Tryz.prog 3 #[.agg cs,.agg #[.int .i64 P.age,.int .i64 P.year,.int .i64 P.children,.int .i64 P.base,.int .i64 P.den,vd,vy],.int .i64 bn,.int .i64 kd,.int .i64 an,.int .i64 n] w fun e w'=>e= .returned (.bool true)∧w.Grows w':=by
 obtain⟨i0,hi,hz0,hz1,hz2⟩:=info_parts Cf
 have HT:=yq ht
 have HR:=yq hR
 have H64:=yq h64
 have HW:=yq (fun w' (hg:w.Grows w')=>tq P vd vy w' (ax.growsG hd hg) (ax.growsG hy hg))
 unfold VoP vwV at HW
 rw [hv.out]at HW
 have HPK:=yq (fun w=>bz bn 4 w (by omega))
 rw [hk.out]at HPK
 have HP2:=yq (fun w=>bz kd 8 w (by omega))
 obtain⟨q,hq⟩:∃q,pick kd 8=q:=⟨_,rfl⟩
 rw [hq]at HP2
 clear hq
 obtain⟨-,-,-,-,vc,vs,vl',vi,vp,vu,he,-⟩:=hR
 obtain⟨l⟩:=cs
 simp only at he
 subst he
 obtain⟨-,-,da,dc,rfl,-⟩:=hd
 obtain⟨-,-,ya,yc,rfl,-⟩:=hy
 clear ht h64
 go_enter Tryz.func3,Tryz.ntmps3
 go_wp2_with fail
 refine(hOf.out R _ _ (HR.out.below (by(exact af)))).mono ?_
 rintro e w' ⟨v3,v4,v5,v6,v7,rfl,⟨bs,dr,rfl⟩,hver⟩
 rw [hV.out]at hver
 have HVC:=yq (hver.verC ⟨hln.1,hln.2.1,by omega,hln.2.2.2.1,hln.2.2.2.2⟩)
 have HNX:=yq hver.numsX
 have HCP:=yq hver.caps
 clear hver
 obtain⟨-,a3,k3,rfl,-⟩:=HVC.out.cr
 obtain⟨-,a4,k4,rfl,-⟩:=HVC.out.se
 obtain⟨-,a5,k5,rfl,-⟩:=HVC.out.le
 obtain⟨-,a6,k6,rfl,-⟩:=HVC.out.gr
 obtain⟨-,a7,k7,rfl,-⟩:=HVC.out.re
 have HA:=yq (fun W (hg:World.Grows _ W) (hg':w.Grows W) (ya:Option Addr) (yc:Nat) (hY:bI W (.slice ya v.years.length yc) v.years) s st2 (h2:bi W s st2)=>tC V v k (ofP R).frm (ofP R).mode (ofP R).unit _ _ _ _ _ _ s st2 W (HVC.out.grows hg) ⟨HNX.out.1.grows hg,HNX.out.2.grows hg⟩ HCP.out hsm hln.2.2.1 (HT.out.grows hg') hrng hY h2)
 have HB:=yq (fun W (hg:World.Grows _ W) (ya:Option Addr) (yc:Nat) (hY:bI W (.slice ya v.years.length yc) v.years)=>vF V v k (ofP R).frm (ofP R).mode (ofP R).unit _ _ _ _ _ _ W (HVC.out.grows hg) hsm hln.2.2.1 hrng hY)
 obtain⟨⟨⟨h,gn,gd⟩,st,c⟩,hr⟩:∃r,fH V k v=r:=⟨_,rfl⟩
 unfold GrO vwV at HB
 unfold vwV at HA
 simp only [List.length_map,hr]at HA HB ⊢
 clear hr
 go_upto_region 5 with (first
  |(go_at_call 5;refine(HW.out _ eB).mono ?_;rintro e' w' ⟨yv,rfl,⟨bA,dA,rfl⟩,hyv⟩;have HYV:=yq hyv;obtain⟨-,ya1,yc1,rfl,-⟩:=hyv)
  |(go_at_call 6;refine(HPK.out _).mono ?_;rintro e' w' ⟨rfl,rfl⟩)
  |(go_at_call 7;refine(HB.out _ eB _ _ (HYV.out.grows eB)).mono ?_;rintro e' w' ⟨sv,rfl,⟨bC,dC,rfl⟩,hown,hl40,-⟩;have HSU:=yq hown;have HL:=yq hl40;obtain⟨sa,sc,rfl,hsc,hsm2,hs3⟩:=xY hown;clear hown hl40))
 refine fF (fun W0 hW0=>?_)
 have HSU0:Hid (W0.ownsRow 0 53 5 (.slice sa st.length sc) st.length (dL st)):=yq (by rw [←hW0];exact lY (Nat.zero_le _) (bK HSU.out eB))
 have z3:W0.cell? ⟨w.heap.size+1+1+bs.size+1+bA.size+1+bC.size,3,none⟩=some (.slice sa st.length sc):=by rw [←hW0];simp [go_sem]
 have HW0:=yq hW0
 clear hW0 HW HB HPK
 go_cut [17]from 17 to 110 (fun v17 wx=>World.Grows W0 wx∧wx.ownsRow W0.heap.size 53 5 v17 st.length (dL st))
 case first=>
  rcases hs3 with ⟨rfl,rfl,h0⟩|⟨g,rfl,-,-⟩
  ·obtain rfl:=List.eq_nil_of_length_eq_zero h0
   go_wp2_with fail
   go_meet
   exact⟨World.Grows.refl _,World.ownsRow_nil _ _ _ _⟩
  ·have HL0:=HL.out
   go_wp2_with (at_builtin;refine wpList_append_own _ rfl _ _ 44 rfl W0.heap.size 53 i0 _ 5 48 Tryz.underlying44 hi hz0 hz1 hz2 rfl (by decide) (.slice none 0 0) 0 [] rfl (World.ownsRow_nil _ _ _ _) ⟨g,0,none⟩ st.length sc (dL st) rfl (iN st) (HSU0.out.cells rfl) (Bo st) (by unfold maxLen;omega) (by omega) (Nat.le_refl _) ?_;intro v1 w1 ho1 hg1 hn1;rw [Nat.zero_add,List.nil_append]at ho1;have HO1:=yq ho1;have HG1:=yq (World.Grows.grown (World.Grows.refl _) hg1 (fun k e=>by simp [Value.ownBlock]at e):W0.Grows w1);clear ho1 hg1 hn1)
   go_meet
   exact⟨HG1.out,HO1.out⟩
 case rest=>
 obtain⟨hg,hown⟩:=hcut
 have HG:=yq hg
 have HO:=yq hown
 obtain⟨ga,gc,rfl,hgc,hgm,hg3⟩:=xY hown
 clear hg hown hsc hsm2 hs3 z3 hgm
 go_upto_if 38 with fail
 go_cut [17]from 18 to 110 (fun v17 wx=>∃st2:List (ByteArray × Val),st2.length≤1000∧World.Grows W0 wx∧wx.ownsRow W0.heap.size 53 5 v17 st2.length (dL st2))
 case first=>
  by_cases h0:st.length=0
  ·have d0:¬(0:Int)<(st.length:Int):=by omega
   go_wp2_with fail
   go_meet
   exact⟨st,by have:=HL.out;omega,HG.out,by have h:=HO.out;rwa [h0]at h ⊢⟩
  have d0:(0:Int)<(st.length:Int):=by omega
  obtain⟨g,rfl,hgB,hgw⟩:=hg3.resolve_left (fun e=>h0 e.2.2)
  have HOS:Hid (fE W0.heap.size wc (.slice (some ⟨g,0,none⟩) st.length gc) st):=HO
  obtain⟨m,hm⟩:∃m,st.length=m:=⟨_,rfl⟩
  have HM:=yq hm
  have HL2:Hid (m≤40):=yq (by have:=HL.out;omega)
  rw [hm]at HO d0 hgc ⊢
  clear hm h0 hg3
  have hb:=cZ an m (by omega)
  have HP1:=yq (fun w=>bz an m w (by have:=HL2.out;omega))
  obtain⟨j,hj⟩:∃j:Nat,pick an m=(j:Int):=⟨(pick an m).toNat,by omega⟩
  rw [hj]at HP1 hb
  have HJ:Hid (j<m):=yq (by omega)
  have s2:(j:Int)+1≤(m:Int):=by omega
  clear hj hb
  go_upto_region 8 with (go_at_call 6;refine(HP1.out _).mono ?_;rintro e' w' ⟨rfl,rfl⟩)
  go_upto_region 9 with (go_at_call 6;refine(HP2.out _).mono ?_;rintro e' w' ⟨rfl,rfl⟩)
  clear HP1 HP2
  by_cases q0:q=0
  ·subst q0
   have s1:(j:Int)≤(gc:Int):=by omega
   have s2':(j:Int)≤(m:Int):=by omega
   have s3:(m:Int)≤(gc:Int):=by omega
   have s4:j≤gc:=by omega
   have s5:j+1≤m:=by omega
   have s5':j≤m:=by omega
   have HN1:=yq (fE.news HOS.out (i:=0) (m:=j) (by have:=HJ.out;have:=HM.out;omega))
   go_upto_region 11 with (first
    |(at_builtin;refine wpList_append_own _ rfl _ _ 44 rfl W0.heap.size 53 i0 _ 5 48 Tryz.underlying44 hi hz0 hz1 hz2 rfl (by decide) (.slice none 0 0) 0 [] rfl (World.ownsRow_nil _ _ _ _) ⟨g,0,none⟩ j gc (dL ((st.drop 0).take j)) rfl (GZ st 0 j (by have:=HJ.out;have:=HM.out;omega)) HN1.out (Bo _) (by unfold maxLen;have:=HL2.out;have:=HJ.out;omega) (by have:=HL2.out;have:=HJ.out;omega) HG.out.below.size ?_;intro v1 w1 ho1 hg1 hn1;rw [Nat.zero_add,List.nil_append]at ho1;obtain⟨b1,c1,rfl,-,-,-⟩:=xY ho1;have HO1:=yq ho1;have HG1:=yq (World.Grows.grown (World.Grows.refl _) hg1 (fun k e=>by simp [Value.ownBlock]at e):World.Grows wc w1);clear ho1 hg1 hn1;obtain⟨AD,hAD,hCE⟩:=fE.cut (bK HOS.out HG1.out) (i:=j+1) (j:=0) (by have:=HJ.out;have:=HM.out;omega);rw [HM.out]at hCE;have HAD:=yq hAD;have HCE:=yq hCE;clear hAD hCE))
   have s7:(j:Int)+1≤40:=by have:=HL2.out;omega
   go_wp2_with (at_builtin;refine wpList_append_own _ rfl _ _ 44 rfl W0.heap.size 53 i0 _ 5 48 Tryz.underlying44 hi hz0 hz1 hz2 rfl (by decide) (.slice b1 j c1) j _ rfl HO1.out ⟨g,AD,none⟩ (m-(j+1)) (gc-(j+1)) (dL ((st.drop (j+1)).take (m-(j+1)))) (by show Value.slice _ _ _=_;rw [HAD.out]) (GZ st (j+1) _ (by have:=HJ.out;have:=HM.out;omega)) HCE.out (Bo _) (by unfold maxLen;have:=HL2.out;have:=HJ.out;omega) (by have:=HL2.out;have:=HJ.out;omega) (World.Grows.trans' HG.out HG1.out).below.size ?_;intro v2 w2 ho2 hg2 hn2;have HO2:=yq ho2;have HG2:=yq (World.Grows.grown (World.Grows.trans' HG.out HG1.out) hg2 (fun k e=>(HO1.out.lt k e).1):World.Grows W0 w2);clear ho2 hg2 hn2)
   all_goals go_meet
   all_goals exact⟨(st.drop 0).take j++(st.drop (j+1)).take (m-(j+1)),by rw [List.length_append,List.length_take,List.length_take];have:=HL2.out;have:=HJ.out;omega,HG2.out,by
    have hlen:((st.drop 0).take j++(st.drop (j+1)).take (m-(j+1))).length=j+(m-(j+1)):=by rw [List.length_append,List.length_take,List.length_take,List.length_drop,List.length_drop];have:=HJ.out;have:=HM.out;omega
    rw [hlen,tL];exact HO2.out⟩
  have e0:(q==0)=false:=by simpa using q0
  clear q0
  have s7:(j:Int)<40:=by have:=HL2.out;omega
  have s8:j<m:=HJ.out
  obtain⟨c0,c1,c2,c3,c4⟩:=Bp st j (by have:=HJ.out;have:=HM.out;omega)
  have p0:=(HO.out.cellAt (j*5) (by omega)).trans c0
  have p1:=(HO.out.cellAt (j*5+1) (by omega)).trans c1
  have p2:=(HO.out.cellAt (j*5+2) (by omega)).trans c2
  have p3:=(HO.out.cellAt (j*5+3) (by omega)).trans c3
  have p4:=(HO.out.cellAt (j*5+4) (by omega)).trans c4
  have f0:=HO.out.frozenAt (j*5)
  have f1:=HO.out.frozenAt (j*5+1)
  have f2:=HO.out.frozenAt (j*5+2)
  have f3:=HO.out.frozenAt (j*5+3)
  have f4:=HO.out.frozenAt (j*5+4)
  clear c0 c1 c2 c3 c4
  by_cases q1:q=1
  ·subst q1
   go_wp2_with fail
   go_meet
   refine⟨st.set j (⟨#[112,97,121]⟩,stV st j),by rw [List.length_set];have:=HL.out;omega,.of_below (HG.out.below.setCell hgB _), ?_⟩
   rw [←HM.out]
   exact fE.nm _ HOS.out (by have:=HJ.out;have:=HM.out;omega)
  have e1:(q==1)=false:=by simpa using q1
  clear q1
  by_cases q2:q=2
  ·subst q2
   have HVA:=yq (fun wS=>GM n (stV st j).dim wS H64.out)
   unfold Bb at HVA
   go_wp2_with (go_at_call 8;refine(HVA.out _).mono ?_;rintro e' w' ⟨rfl,bV,dV,rfl⟩)
   go_meet
   refine⟨st.set j (stN st j,⟨(stV st j).dim,(DL n (stV st j).dim).yes,(DL n (stV st j).dim).n,(DL n (stV st j).dim).d⟩),by rw [List.length_set];have:=HL.out;omega,World.Grows.trans' (.of_below ((((HG.out.below.setCell hgB _).setCell hgB _).setCell hgB _).setCell hgB _)) ag, ?_⟩
   rw [←HM.out]
   exact bK (fE.vl ⟨(stV st j).dim,(DL n (stV st j).dim).yes,(DL n (stV st j).dim).n,(DL n (stV st j).dim).d⟩ HOS.out (by have:=HJ.out;have:=HM.out;omega)) ag
  have e2:(q==2)=false:=by simpa using q2
  clear q2
  by_cases q3:q=3
  ·subst q3
   have HP4:=yq (fun w=>bz n 4 w (by omega))
   have hb:=cZ n 4 (by omega)
   have hw1:IntKind.i64.wrap (1+pick n 4)=1+pick n 4:=IntWalk.i64_in _ (by omega)
   generalize pick n 4=z at *
   have HVA:=yq (fun wS=>GM n (1+z) wS H64.out)
   unfold Bb at HVA
   go_wp2_with (first
    |(go_at_call 6;refine(HP4.out _).mono ?_;rintro e' w' ⟨rfl,rfl⟩)
    |(go_at_call 8;refine(HVA.out _).mono ?_;rintro e' w' ⟨rfl,bV,dV,rfl⟩))
   go_meet
   refine⟨st.set j (stN st j,⟨(1+z),(DL n (1+z)).yes,(DL n (1+z)).n,(DL n (1+z)).d⟩),by rw [List.length_set];have:=HL.out;omega,World.Grows.trans' (.of_below ((((HG.out.below.setCell hgB _).setCell hgB _).setCell hgB _).setCell hgB _)) ag, ?_⟩
   rw [←HM.out]
   exact bK (fE.vl ⟨(1+z),(DL n (1+z)).yes,(DL n (1+z)).n,(DL n (1+z)).d⟩ HOS.out (by have:=HJ.out;have:=HM.out;omega)) ag
  have e3:(q==3)=false:=by simpa using q3
  clear q3
  by_cases q4:q=4
  ·subst q4
   go_wp2_with (at_builtin;refine wpList_append_own _ rfl _ _ 44 rfl W0.heap.size 53 i0 _ 5 48 Tryz.underlying44 hi hz0 hz1 hz2 rfl (by decide) (.slice (some ⟨g,0,none⟩) m gc) m _ rfl (bK HO.out eB) ⟨wc.heap.size,0,none⟩ 1 1 [.string (stN st j),.int .i64 (stV st j).dim,.bool (stV st j).yes,.int .i64 (stV st j).n,.int .i64 (stV st j).d] rfl rfl (aQ _ [.string (stN st j),.int .i64 (stV st j).dim,.bool (stV st j).yes,.int .i64 (stV st j).n,.int .i64 (stV st j).d] _ _ (by simp)) (Bo [(stN st j,stV st j)]) (by unfold maxLen;have:=HL2.out;omega) (by have:=HL2.out;omega) (by have:=HG.out.below.size;simp;omega) ?_;intro v2 w2 ho2 hg2 hn2;have HO2:=yq ho2;have HG2:=yq (World.Grows.grown (World.Grows.trans' HG.out eB) hg2 (fun k e=>(HO.out.lt k e).1):World.Grows W0 w2);clear ho2 hg2 hn2)
   go_meet
   exact⟨st++[(stN st j,stV st j)],by rw [List.length_append];have:=HL.out;simp;omega,HG2.out,by
    rw [List.length_append,HM.out,tL];exact HO2.out⟩
  have e4:(q==4)=false:=by simpa using q4
  clear q4
  by_cases q5:q=5
  ·subst q5
   go_upto_region 21 with fail
   have d1:(j:Int)<(m:Int):=by omega
   obtain⟨g0,g1,g2,g3,g4⟩:=Bp st 0 (by have:=HJ.out;have:=HM.out;omega)
   have r0:=(HO.out.cellAt (0*5) (by omega)).trans g0
   have r1:=(HO.out.cellAt (0*5+1) (by omega)).trans g1
   have r2:=(HO.out.cellAt (0*5+2) (by omega)).trans g2
   have r3:=(HO.out.cellAt (0*5+3) (by omega)).trans g3
   have r4:=(HO.out.cellAt (0*5+4) (by omega)).trans g4
   clear g0 g1 g2 g3 g4
   simp only [Nat.zero_mul,Nat.zero_add]at r0 r1 r2 r3 r4
   have x0:=HO.out.frozenAt 0
   have x1:=HO.out.frozenAt 1
   have x2:=HO.out.frozenAt 2
   have x3:=HO.out.frozenAt 3
   have x4:=HO.out.frozenAt 4
   by_cases j0:j=0
   ·obtain rfl:=j0
    clear r0 r1 r2 r3 r4 x0 x1 x2 x3 x4
    simp only [Nat.zero_mul,Nat.zero_add]at p0 p1 p2 p3 p4 f0 f1 f2 f3 f4
    go_region
    go_wp2_with fail
    go_meet
    refine⟨(st.set 0 (stN st 0,stV st 0)).set 0 (stN st 0,stV st 0),by rw [List.length_set,List.length_set];have:=HL.out;omega,World.Grows.trans' (sv_set5 (sv_set5 HG.out hgB _ _ _ _ _ _ _ _ _ _) hgB _ _ _ _ _ _ _ _ _ _) aL, ?_⟩
    have h1:=fE.all (k:=0) (stN st 0,stV st 0) HOS.out (by have:=HJ.out;have:=HM.out;omega)
    have h2:=fE.all (k:=0) (stN st 0,stV st 0) (by rw [List.length_set];exact h1) (by rw [List.length_set];have:=HJ.out;have:=HM.out;omega)
    unfold fE at h2
    simp only [List.length_set,HM.out]at h2 ⊢
    exact World.ownsRow.drew h2
   ·have n1:¬j*5=1:=by omega
    have n2:¬j*5=2:=by omega
    have n3:¬j*5=3:=by omega
    have n4:¬j*5=4:=by omega
    go_region
    go_wp2_with fail
    go_meet
    refine⟨(st.set j (stN st 0,stV st 0)).set 0 (stN st j,stV st j),by rw [List.length_set,List.length_set];have:=HL.out;omega,World.Grows.trans' (sv_set5 (sv_set5 HG.out hgB _ _ _ _ _ _ _ _ _ _) hgB _ _ _ _ _ _ _ _ _ _) aL, ?_⟩
    have h1:=fE.all (k:=j) (stN st 0,stV st 0) HOS.out (by have:=HJ.out;have:=HM.out;omega)
    have h2:=fE.all (k:=0) (stN st j,stV st j) (by rw [List.length_set];exact h1) (by rw [List.length_set];have:=HJ.out;have:=HM.out;omega)
    unfold fE at h2
    simp only [List.length_set,HM.out]at h2 ⊢
    exact World.ownsRow.drew h2
  have e5:(q==5)=false:=by simpa using q5
  clear q5
  go_wp2_with fail
  go_meet
  exact⟨st,by have:=HL.out;omega,HG.out,by rw [HM.out];exact HO.out⟩
 case rest=>
 obtain⟨st2,hl2,⟨bs9,d9,rfl⟩,hown2⟩:=hcut
 have HS2:=yq (bi.of_own hown2 hl2)
 obtain⟨ta,tc,rfl,-⟩:=xY hown2
 clear hown2 hl2 HG HO hg3 hgc
 have hW:=HW0.out
 clear HW0
 subst hW
 by_cases hc:c=0
 ·subst hc
  go_wp2_with (first
   |(go_at_call 9;refine(JH _).mono ?_;rintro e' w' ⟨rfl,bD,dD,rfl⟩)
   |(go_at_call 10;refine(HA.out _ eB eB _ _ (HYV.out.grows eB) _ _ (HS2.out.grows eB)).mono ?_;rintro e' w' ⟨q1,rfl,hq1,bE,dE,rfl⟩;have HQ1:=yq hq1;clear hq1)
   |(go_at_call 11;refine(D6 st2 st _ _ _ (HS2.out.grows eB) ((bi.of_own HSU.out (by have:=HL.out;omega)).grows eB)).mono ?_;rintro e' w' ⟨q2,rfl,hq2,bF,dF,rfl⟩;have HQ2:=yq hq2;clear hq2))
  go_returns
  refine⟨?_,eB⟩
  obtain rfl:q1=q2:=by rw [Bool.eq_iff_iff,HQ1.out,HQ2.out];exact⟨fun e=>e.2.symm,fun e=>⟨by trivial,e.symm⟩⟩
  simp
 ·have hc2:(c==0)=false:=by simpa using hc
  have HC:=yq hc
  clear hc
  go_wp2_with (first
   |(go_at_call 9;refine(JH _).mono ?_;rintro e' w' ⟨rfl,bD,dD,rfl⟩)
   |(go_at_call 10;refine(HA.out _ eB eB _ _ (HYV.out.grows eB) _ _ (HS2.out.grows eB)).mono ?_;rintro e' w' ⟨q1,rfl,hq1,bE,dE,rfl⟩;obtain rfl:q1=false:=by {cases q1 with|false=>rfl|true=>exact absurd (hq1.1 rfl).1 HC.out};clear hq1))
  go_returns
  exact⟨by simp,eB⟩
theorem QC(hOf:Hid AV)(cs:Array Value)(R:cO)(P:VwR)(vd vy:Value)(bn kd an n:Int)(w:World)(hR:nP w cs.toList R)(hd:ax w vd P.days)(hy:ax w vy P.years)(ht:Tab w)(h64:I64 n) :
 Calls Tryz.prog 3 #[.agg cs,.agg #[.int .i64 P.age,.int .i64 P.year,.int .i64 P.children,.int .i64 P.base,.int .i64 P.den,vd,vy],.int .i64 bn,.int .i64 kd,.int .i64 an,.int .i64 n] w fun e w'=>e= .returned (.bool true)∧w.Grows w':=
 FI hOf cs R P vd vy bn kd an n w hR hd hy ht h64 _ (yq rfl) (PZ R) (FX R) _ (yq rfl) (vV P) _ (yq rfl)
end Go.Proofs.YtcfpoofhokbhlaaGreatDoor
