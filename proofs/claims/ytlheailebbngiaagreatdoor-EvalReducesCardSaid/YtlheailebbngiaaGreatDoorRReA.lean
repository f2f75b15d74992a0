import Derived.Test.YtlheailebbngiaaGreatDoorRGr8
import Derived.Test.YtlheailebbngiaaGreatDoorRVr2
import Derived.Test.YtlheailebbngiaaGreatDoorRVmP
import Derived.Test.YtlheailebbngiaaGreatDoorRChP
import Derived.Test.YtlheailebbngiaaGreatDoorRVwOf
set_option linter.all false
set_option maxHeartbeats 16000000
set_option maxRecDepth 1000000
namespace Go.Proofs.YtlheailebbngiaaGreatDoor
open Go.Proofs.Tryz List
open Go.RowKit
def RdP(r:(Int × Int) × Int)(w:World)(e:Ending)(w':World):Prop:=e= .returned (.tuple #[.agg #[.int .i64 r.1.1,.int .i64 r.1.2],.int .i64 r.2])/\w.Grows w'
theorem RdP.mk{r:(Int × Int) × Int}{w w':World}{n d c:Int}(hr:r=((n,d),c))(hg:w.Grows w'):RdP r w (.returned (.tuple #[.agg #[.int .i64 n,.int .i64 d],.int .i64 c])) w':=by
 subst hr;exact⟨rfl,hg⟩
theorem wG{cn cd:Int}(hv:az cn cd=true):∃an ad kz:Int,((if cn<0 then(0,1)else(cn,cd):Int × Int)=(an,ad))/\fJ an ad 1 1=(kz,0)/\iV an ad 1 1/\
 ((0<kz/\(if cn<0 then(0,1)else if cd<cn then(1,1)else(cn,cd):Int × Int)=(1,1))\/(¬0<kz/\(if cn<0 then(0,1)else if cd<cn then(1,1)else(cn,cd):Int × Int)=(an,ad))):=by
 have hb:=aF hv;have e1:az 1 1=true:=by decide+kernel
 have hc:fJ cn cd 1 1=(gJ cn cd 1 1,0):=by unfold fJ;rw [hv,e1];rfl
 by_cases h1:cn<0
 ·exact⟨0,1,-1,if_pos h1,by decide+kernel,by unfold iV I64;omega,.inr ⟨by decide,if_pos h1⟩⟩
 by_cases h2:cd<cn
 ·refine⟨cn,cd,1,if_neg h1, ?_,by unfold iV I64;omega,.inl ⟨by decide,by rw [if_neg h1,if_pos h2]⟩⟩;rw [hc];unfold gJ;rw [Int.mul_one,Int.one_mul,if_neg ze,if_pos h2]
 ·refine⟨cn,cd,_,if_neg h1,hc,by unfold iV I64;omega,.inr ⟨?_,by rw [if_neg h1,if_neg h2]⟩⟩;unfold gJ;rw [Int.mul_one,Int.one_mul]
  split
  ·decide
  ·first|decide|(rw [if_neg h2];decide)
theorem P5{V:cO}{b:Int}{v:Vw}{i:Nat}(h:v.ok=true)(h2:aX V=0)(hi:i<V.re.length)(hn:∀j,j<i->(V.re.getD j default).1≠b)(hb:(V.re.getD i default).1=b):lN V b v=Ay v V.le (V.re.getD i default).2:=AJ h h2 (nE hi hn hb)
theorem vD.both{W0:World}{v:Vw}{ls:List (ByteArray × Ex)}{env:List (ByteArray × Int)}{E:Ex}{D0 D:List Nat}{st0 st:List (ByteArray × Val)}{e:Ending}{w':World}{c:Int}(h:vD W0 v ls env E D0 st0 e w')(hr:gD v ls (aA E ls) D0 st0=(D,st,c)) :
 ∃vs,e= .returned (.tuple #[vs,.int .i64 c])/\W0.Grows w'/\(c=0->w'.ownsRow W0.heap.size 68 5 vs st.length (jV st)/\st.length<=st0.length+10):=by
 by_cases hc:c=0
 ·subst hc;obtain⟨vs,he,hg,ho,hl⟩:=h.good hr;exact⟨vs,he,hg,fun _=>⟨ho,hl⟩⟩
 ·obtain⟨he,hg⟩:=h.bad (by rw [hr]) hc;exact⟨_,he,hg,fun h0=>absurd h0 hc⟩
theorem CG(V:cO)(v:Vw)(b x0 x1 x2:Int)(v3 v4 v5 v6 v7 y:Value)(w:World)(h:vv w V v3 v4 v5 v6 v7)(hs:kT V)(h10:V.le.length<=10)(hrng:dN v)(hY:bK w y v.years) :
 Calls prog 41 #[.agg #[.int .i64 x0,.int .i64 x1,.int .i64 x2,v3,v4,v5,v6,v7],.int .i64 b,vwV v y] w (RdP (lN V b v) w):=by
 have HV:=zh h;have HS:=zh hs;have HY:=zh hY;have HVW:=zh (fun w' (hg:w.Grows w')=>eF v y w' hrng (HY.out.grows hg));have HVR:=zh (fun w' (hg:w.Grows w')=>pV V x0 x1 x2 v3 v4 v5 v6 v7 w' (HV.out.grows hg) HS.out);have HVK:=zh (fun h0:aX V=0=>xJ.of h0);obtain⟨-,a3,k3,rfl,-⟩:=h.cr;obtain⟨-,a4,k4,rfl,-⟩:=h.se;obtain⟨-,a5,k5,rfl,-⟩:=h.le;obtain⟨-,a6,k6,rfl,-⟩:=h.gr;obtain⟨-,a7,k7,rfl,-⟩:=h.re;have HLA:=zh (fun W (hg:w.Grows W) (E:Ex) u (h0:aX V=0) (hok:v.ok=true) (hr:aC (fun _=>True) W E u)=>qA V.le (dK V.le).1 v E u y (.slice none 0 0) a3 a4 a5 a6 a7 (V.cr.map Prod.fst).length (V.se.map Prod.fst).length V.gr.length V.re.length k3 k4 k5 k6 k7 x0 x1 x2 W W [] [] (HVK.out h0).ls h10 (fun t ht=>(HS.out.le t ht).2) hok hrng hr (HV.out.le.grows hg) (HY.out.grows hg) (.refl _) (jX.zero _ _) zg (World.ownsRow_nil _ _ _ _));obtain⟨-,ya,yc,rfl,-⟩:=id hY;have HX:=zh (fun w' E a cap (hg:w.Grows w') st vb (hrep:aC (fun _=>True) w' E (.slice a E.args.length cap)) (hsz:E.size<=1000000) (hs:aV w' vb st) (hE:∀p∈st,p.2.ok=true)=>qZ (fun _=>True) v (.slice ya v.years.length yc) vb st E a cap w' hrep ze (hY.grows hg) hrng hs (fun p hp=>Val.ok_rng (hE p hp)));unfold vwV at HVW;unfold vwV exV at HLA;unfold vH vwV exV at HX;unfold vwV;simp only [length_map]at HVR HLA ⊢;clear h hs hrng hY
 cases hok:v.ok with
 |false=>
  have HF:=zh (AC (V:=V) (b:=b) hok);rw [hok]at HVW;clear hok
  go_enter func41,ntmps41
  go_wp2_with ((first|(go_at_call 21;refine(HVW.out _ af).mono ?_;rintro e' w' ⟨rfl,bs,d,rfl⟩)|(go_at_call 82;refine(HVR.out _ af).mono ?_;rintro e' w' ⟨rfl,bs2,d2,rfl⟩)))
  go_returns
  exact RdP.mk HF.out af
 |true=>
 rw [hok]at HVW;by_cases hc:aX V=0
 case neg=>
  have hc2:(aX V !=0)=true:=by simpa using hc
  have HF:=zh (EX (b:=b) hok hc);clear hok hc;generalize aX V=c at *
  go_enter func41,ntmps41
  go_wp2_with ((first|(go_at_call 21;refine(HVW.out _ af).mono ?_;rintro e' w' ⟨rfl,bs,d,rfl⟩)|(go_at_call 82;refine(HVR.out _ af).mono ?_;rintro e' w' ⟨rfl,bs2,d2,rfl⟩)))
  go_returns
  exact RdP.mk HF.out af
 have HFA:=zh (fun i=>P5 (i:=i) (b:=b) hok hc);have HFN:=zh (fun hn=>AL (b:=b) hok hc (nG hn));have HLB:=zh (fun w' hg E u=>HLA.out w' hg E u hc hok);have HTY:=zh (HVK.out hc).re;have HLS:=zh (HVK.out hc).ls;have HOK:=zh hok;rw [hc]at HVR;clear hok hc HLA HVK
 go_enter func41,ntmps41
 go_wp2_with ((first|(go_at_call 21;refine(HVW.out _ af).mono ?_;rintro e' w' ⟨rfl,bs,d,rfl⟩)|(go_at_call 82;refine(HVR.out _ af).mono ?_;rintro e' w' ⟨rfl,bs2,d2,rfl⟩)))
 clear HVW HVR
 go_loopw [9] (fun vi wr=>∃i:Nat,i<=V.re.length/\vi= .int .i64 i/\Hid (∀j,j<i->(V.re.getD j default).1≠b)/\World.Grows ((((w.alloc (.cells #[.int .i64 x0,.int .i64 x1,.int .i64 x2,.slice a3 V.cr.length k3,.slice a4 V.se.length k4,.slice a5 V.le.length k5,.slice a6 V.gr.length k6,.slice a7 V.re.length k7] 81)).alloc (.cells #[.int .i64 v.age,.int .i64 v.year,.int .i64 v.children,.int .i64 v.insured,.int .i64 v.worked,.int .i64 v.voluntary,.int .i64 v.service,.int .i64 v.equated,.int .i64 v.raising,.int .i64 v.resident,.int .i64 v.bn,.int .i64 v.bd,.slice ya v.years.length yc] 26)).alloc (.cells #[.int .i64 0,.int .i64 0] 23))) wr) (fun vi _=>V.re.length-(intOf vi).toNat)
 case atStart=>exact⟨0,by omega,rfl,zh (fun j hj=>by omega),af⟩
 case round=>
  obtain⟨i,hi,rfl,HN,bs9,d9,rfl⟩:=hrel;by_cases hlt:i<V.re.length
  ·obtain⟨-,a',c',hv',hx⟩:=HV.out.re;simp only [Value.slice.injEq,true_and]at hv';obtain⟨rfl,rfl⟩:=hv';rcases hx with h0|⟨bg,og,rfl,hbg,hx⟩
   ·omega
   obtain⟨u,hg⟩:=hx i hlt;have hm:=fD hlt;have d1:(i:Int)<(V.re.length:Int):=by omega
   have HKL:=zh hlt;have i1000:i<=1000:=by have:=HV.out.re.1;omega
   have HAT:=zh (fun hb=>HFA.out i hlt HN.out hb);have HNX:=zh (fun hb=>E9 HN.out hb);have HCL:=zh (fun w' (hw:w.Grows w')=>HLB.out w' hw _ u (hg.rep.grows hw));have hty:=HTY.out _ hm;have hsz:=HS.out.re _ hm;obtain⟨q0,p0,p1,p2,p3,p4,p5,hra⟩:=hg;obtain⟨ia,ic,rfl⟩:=hra.form0;generalize V.re.getD i default=g at *;obtain⟨gb,ge⟩:=g;dsimp only at q0 p0 p1 p2 p3 p4 p5 hra HCL HAT HNX hty hsz;have HRA0:=zh hra;clear hx hm hlt hi hra;by_cases hb:gb=b
   ·have hb2:(gb !=b)=false:=by simpa using hb
    have HFB:=zh (HAT.out hb);obtain⟨⟨D,st,c⟩,hr⟩:∃r,gD v V.le (aA ge V.le) [] []=r:=⟨_,rfl⟩;have HR:=zh hr;clear hb hr HAT HNX
    go_wp2_with fail
    refine TS.begin [] (World.Grows _) zf zf aG (fun hS=>?_);refine TS.wkB 0 hS ?_;refine TS.wkB 1 hS ?_;refine TS.wkB 2 hS ?_;refine TS.wkB 3 hS ?_;refine TS.wkB 4 hS ?_;refine TS.wkB 5 hS ?_;refine TS.wkB 6 hS ?_;refine TS.wkB 7 hS ?_;refine TS.one (i:=8) zf rfl (fun K1 hK1=>?_);have HK1:=zh hK1;clear hK1 hS;dsimp only [getElem_toArray,getElem_cons_succ,getElem_cons_zero]
    go_simp
    go_at_call 83
    refine((HCL.out _ aU).mono fun _ _ h=>h.both HR.out).mono ?_;rintro e' w' ⟨vs,rfl,⟨bs3,d3,rfl⟩,hov⟩;have HOV:=zh hov;clear hov;refine TS.go HK1.out aU (fun hS=>?_);clear HK1 K1
    (try simp only [nS])
    refine TS.wkB 9 hS ?_;refine TS.wkB 10 hS ?_;refine TS.wkB 11 hS ?_;refine TS.wkB 12 hS ?_;refine TS.wkB 13 hS ?_;refine TS.done zf ?_;clear hS
    (try simp only [nS])
    by_cases hc:c=0
    case neg=>
     have hc2:(c !=0)=true:=by simpa using hc
     have HF:=zh (HFB.out.trans (J2 (FK (nm:=byN) (by rw [HR.out]) hc) hc));clear hc
     go_wp2_with fail
     go_returns
     exact RdP.mk HF.out aU
    subst hc;obtain⟨hown,hsl⟩:=HOV.out rfl;have HSP:=zh (aV.of_own hown zZ);have HRA:=zh (dY.of_run (jX.zero V.le _) HLS.out HOK.out HR.out);obtain⟨hev,hok1⟩:=l5 HRA.out HLS.out HOK.out hty;have HDB:=zh (fun c h1 h2=>HFB.out.trans (J2 (c:=c) (FJ (nm:=byN) HR.out h1 h2) h2));have HDC:=zh (fun x h1=>HFB.out.trans (OY (FI (nm:=byN) (x:=x) HR.out h1)));have HX1:=zh (fun w' (hg:w.Grows w') vb (hs:aV w' vb st)=>by have:=HX.out w' ge ia ic hg st vb (HRA0.out.grows hg) hsz hs HRA.out.ok.ok;rw [hev]at this;exact this);generalize ai v st ge=r at *;obtain⟨⟨cm,cy,cn,cd⟩,c⟩:=r;unfold dM at HX1;dsimp only at HX1 HDB HDC hok1;clear hty hsz hev hown hsl HOV
    go_wp2_with fail
    refine TS.begin [] (World.Grows _) zf zf aG (fun hS=>?_);refine TS.wkB 0 hS ?_;refine TS.wkB 1 hS ?_;refine TS.wkB 2 hS ?_;refine TS.wkB 3 hS ?_;refine TS.wkB 4 hS ?_;refine TS.wkB 5 hS ?_;refine TS.wkB 6 hS ?_;refine TS.wkB 7 hS ?_;refine TS.two (i:=8) (k:=12) zf rfl rfl (fun K1 hK1=>?_) (fun K1 hK1=>?_)
    focus
     have HK1:=zh hK1;clear hK1 hS;dsimp only [getElem_toArray,getElem_cons_succ,getElem_cons_zero]
     go_simp
     go_at_call 30
     refine(HX1.out _ aU _ (HSP.out.grows aU)).mono ?_;rintro e' w' ⟨rfl,bs5,d5,rfl⟩;refine TS.go HK1.out aU (fun hS=>?_);clear HK1 K1
     (try simp only [nS])
     refine TS.wkB 9 hS ?_;refine TS.wkB 10 hS ?_;refine TS.wkB 11 hS ?_;refine TS.one (i:=12) zf rfl (fun K1 hK1=>?_);have HK1:=zh hK1;clear hK1 hS;dsimp only [getElem_toArray,getElem_cons_succ,getElem_cons_zero]
     go_simp
     refine TS.go HK1.out aU (fun hS=>?_);clear HK1 K1
     (try simp only [nS])
     refine TS.one (i:=13) zf rfl (fun K1 hK1=>?_);have HK1:=zh hK1;clear hK1 hS;dsimp only [getElem_toArray,getElem_cons_succ,getElem_cons_zero]
     go_simp
     refine TS.go HK1.out aU (fun hS=>?_);clear HK1 K1
     (try simp only [nS])
     refine TS.wkB 14 hS ?_;refine TS.done zf ?_;clear hS
     (try simp only [nS])
     by_cases hc:c=0
     case neg=>
      have HF:=zh (HDB.out c rfl hc);have hc2:(c !=0)=true:=by simpa using hc
      clear hc hok1
      go_wp2_with fail
      go_returns
      exact RdP.mk HF.out aU
     subst hc;have hx:=hok1.good rfl;have hvf:=(Val.ok_num hx.1 (by rw [hx.2];decide)).2.2.2;dsimp only at hvf;obtain⟨an,ad,kz,hab,hcm,h64,hk⟩:=wG hvf;have hF:=HDC.out ⟨cm,cy,cn,cd⟩ rfl;have hAB:=q9 cn cd;have hCM:=fun w=>jm an ad 1 1 w h64;unfold frI at hCM;rw [hab]at hAB;rw [hcm]at hCM;dsimp only at hF hAB hCM;have HAB:=zh hAB;have HCM:=zh hCM;clear hab hcm hAB hCM hx hvf hok1 HDB HDC;rcases hk with ⟨hk,he⟩|⟨hk,he⟩
     all_goals
      rw [he]at hF;have HF:=zh hF;clear hF he
      go_wp2_with (first
       |(go_at_call 84;refine(HAB.out _).mono ?_;rintro e' w' ⟨rfl,bs7,d7,rfl⟩)
       |(go_at_call 24;refine(HCM.out _).mono ?_;rintro e' w' ⟨rfl,bs8,d8,rfl⟩))
      go_returns
      exact RdP.mk HF.out aU
    focus
     have HK1:=zh hK1;clear hK1 hS;dsimp only [getElem_toArray,getElem_cons_succ,getElem_cons_zero]
     go_simp
     refine TS.go HK1.out aU (fun hS=>?_);clear HK1 K1
     (try simp only [nS])
     refine TS.one (i:=8) zf rfl (fun K1 hK1=>?_);have HK1:=zh hK1;clear hK1 hS;dsimp only [getElem_toArray,getElem_cons_succ,getElem_cons_zero]
     go_simp
     go_at_call 30
     refine(HX1.out _ aU _ (HSP.out.grows aU)).mono ?_;rintro e' w' ⟨rfl,bs5,d5,rfl⟩;refine TS.go HK1.out aU (fun hS=>?_);clear HK1 K1
     (try simp only [nS])
     refine TS.wkB 9 hS ?_;refine TS.wkB 10 hS ?_;refine TS.wkB 11 hS ?_;refine TS.one (i:=13) zf rfl (fun K1 hK1=>?_);have HK1:=zh hK1;clear hK1 hS;dsimp only [getElem_toArray,getElem_cons_succ,getElem_cons_zero]
     go_simp
     refine TS.go HK1.out aU (fun hS=>?_);clear HK1 K1
     (try simp only [nS])
     refine TS.wkB 14 hS ?_;refine TS.done zf ?_;clear hS
     (try simp only [nS])
     by_cases hc:c=0
     case neg=>
      have HF:=zh (HDB.out c rfl hc);have hc2:(c !=0)=true:=by simpa using hc
      clear hc hok1
      go_wp2_with fail
      go_returns
      exact RdP.mk HF.out aU
     subst hc;have hx:=hok1.good rfl;have hvf:=(Val.ok_num hx.1 (by rw [hx.2];decide)).2.2.2;dsimp only at hvf;obtain⟨an,ad,kz,hab,hcm,h64,hk⟩:=wG hvf;have hF:=HDC.out ⟨cm,cy,cn,cd⟩ rfl;have hAB:=q9 cn cd;have hCM:=fun w=>jm an ad 1 1 w h64;unfold frI at hCM;rw [hab]at hAB;rw [hcm]at hCM;dsimp only at hF hAB hCM;have HAB:=zh hAB;have HCM:=zh hCM;clear hab hcm hAB hCM hx hvf hok1 HDB HDC;rcases hk with ⟨hk,he⟩|⟨hk,he⟩
     all_goals
      rw [he]at hF;have HF:=zh hF;clear hF he
      go_wp2_with (first
       |(go_at_call 84;refine(HAB.out _).mono ?_;rintro e' w' ⟨rfl,bs7,d7,rfl⟩)
       |(go_at_call 24;refine(HCM.out _).mono ?_;rintro e' w' ⟨rfl,bs8,d8,rfl⟩))
      go_returns
      exact RdP.mk HF.out aU
   ·have hb2:(gb !=b)=true:=by simpa using hb
    have HN2:=zh (HNX.out hb);clear hb
    go_wp2_with fail
    go_roundw
    case rel=>exact⟨i+1,HKL.out,by go_num,HN2,af⟩
    case measure=>simp [intOf];have:=HKL.out;omega
  ·obtain rfl:i=V.re.length:=by omega
   have HF:=zh (HFN.out HN.out)
   go_wp2_with fail
   go_returns
   exact RdP.mk HF.out af
theorem CJ(V:cO)(v:Vw)(b x0 x1 x2:Int)(v3 v4 v5 v6 v7 y:Value)(w:World)(h:vv w V v3 v4 v5 v6 v7)(hnx:gV 2 w v3 V.cr.length/\gV 3 w v4 V.se.length)(hcp:jg v3/\jg v6/\jg v7)(hs:kT V)(h10:V.le.length<=10)(ht:Tab w)(hrng:dN v)(hY:bK w y v.years) :
 Calls prog 40 #[.agg #[.int .i64 x0,.int .i64 x1,.int .i64 x2,v3,v4,v5,v6,v7],.int .i64 b,vwV v y] w (RdP (lN V b v) w):=by
 have HV:=zh h;have HS:=zh hs;have HY:=zh hY;have HT:=zh ht;have HCP:=zh hcp;have HNX:=zh hnx;have hle:=h.le.1;have hmk:=run_make_row' (P:=prog) 139 4 (.bool false) 1 underlying139 D7 rfl .i64 .i64 V.le.length ze ze;have HCK:=zh (fun w' (hg:w.Grows w')=>xH V v y x0 x1 x2 v3 v4 v5 v6 v7 w' (HV.out.grows hg) ⟨HNX.out.1.grows hg,HNX.out.2.grows hg⟩ HCP.out HS.out (HT.out.grows hg) hrng (HY.out.grows hg));obtain⟨-,a3,k3,rfl,-⟩:=h.cr;obtain⟨-,a4,k4,rfl,-⟩:=h.se;obtain⟨-,a5,k5,rfl,-⟩:=h.le;obtain⟨-,a6,k6,rfl,-⟩:=h.gr;obtain⟨-,a7,k7,rfl,-⟩:=h.re;obtain⟨-,ya,yc,rfl,-⟩:=id hY;obtain⟨c,hc0⟩:∃c,iO V v=c:=⟨_,rfl⟩;rw [hc0]at HCK;unfold vwV at HCK;unfold vwV;simp only [length_map]at HCK ⊢;have HRNG:=zh hrng;clear h hs hnx hcp ht hrng hY;by_cases hc:c=0
 case neg=>
  have HF:=zh (Gj (b:=b) hc0 hc);have hc2:(c !=0)=true:=by simpa using hc
  clear hc hc0 hmk hle
  go_enter func40,ntmps40
  go_wp2_with (go_at_call 77;refine(HCK.out _ af).mono ?_;rintro e' w' ⟨rfl,bs,d,rfl⟩)
  go_returns
  exact RdP.mk HF.out af
 subst hc;obtain⟨hok,hvz⟩:=uX hc0;have hap:=(tC hvz).2;have HOK:=zh hok;have HVO:=zh (xJ.of hvz);have HFN:=zh (fun hn=>AL (b:=b) hok hvz (nG hn));have HFA:=zh (fun(k:Nat) (hk:k<V.re.length) (hb:(V.re.getD k default).1=b)=>AJ (b:=b) hok hvz (nE hk (rT hap hk hb) hb));have HIX:=zh (fun w' (hg:w.Grows w') (hb:w'.heap[w.heap.size+1]? =some (.cells #[.int .i64 b] 3 (0,0)))=>BC 79 #[.pointer (some ⟨w.heap.size+1,0,none⟩)] Rs (fun k=>decide ((V.re.getD k default).1=b)) (.slice a7 V.re.length k7) V.re.length w' (ML 79 (HV.out.re.grows hg) (Nat.le_refl _) _ _ (fun k hk a1 a2 a3 a4 a5 a6 w2 hg2=>Di (V.re.getD k default).1 b a1 a2 a3 a4 a5 a6 (w.heap.size+1) w2 ((hg2.below.block _ (Array.getElem?_eq_some_iff.1 hb).1).trans hb))));clear hok hvz hap hc0
 go_enter func40,ntmps40
 go_wp2_with (go_at_call 77;refine(HCK.out _ af).mono ?_;rintro e' w' ⟨rfl,bs,d,rfl⟩)
 go_at_call 78
 refine(HIX.out _ af ((World.heap_grow _ _ _ zB).trans ((Below.heap_alloc _ _ _ zB).trans ((Below.heap_alloc _ _ _ zg).trans (aY _ _ _ zg))))).mono ?_;rintro e' w' ⟨⟨z,rfl,hz⟩,bs1,d1,rfl⟩;clear HIX HCK;rcases hz with ⟨rfl,hno⟩|⟨k,hk,rfl,hkb⟩
 ·have HF:=zh (HFN.out (fun j hj=>of_decide_eq_false (hno j hj)));clear hno hmk
  go_wp2_with fail
  go_returns
  exact RdP.mk HF.out aU
 have hkb:=of_decide_eq_true hkb;have hFA:=HFA.out k hk hkb;clear HFA HFN;obtain⟨-,a',c',hv',hx⟩:=HV.out.re;simp only [Value.slice.injEq,true_and]at hv';obtain⟨rfl,rfl⟩:=hv';rcases hx with h0|⟨bg,og,rfl,hbg,hx⟩
 ·omega
 obtain⟨u,hg⟩:=hx k hk;have hm:=fD hk;have d1':(k:Int)<(V.re.length:Int):=by omega
 have d2':¬(k:Int)<0:=by omega
 have d3':(0:Int)<=(k:Int):=by omega
 have ty1:=HVO.out.re _ hm;have sz1:=HS.out.re _ hm;obtain⟨q0,p0,p1,p2,p3,p4,p5,hra⟩:=hg;obtain⟨ia,ic,rfl⟩:=hra.form0;generalize V.re.getD k default=g at *;obtain⟨gb,ge⟩:=g;dsimp only at q0 p0 p1 p2 p3 p4 p5 hra hFA ty1 sz1 hkb;have HLS:=zh HVO.out.ls;have HLE:=zh (show ∀t∈V.le,t.2.size<=1000000 from fun t ht=>(HS.out.le t ht).2);obtain⟨⟨D,st,c⟩,hr⟩:∃r,dX v V.le ge byN [] []=r:=⟨_,rfl⟩;have hD1:=fun W0 (hg:w.Grows W0) w1 X N (hD:iC W0 w1 X N v (.slice ya v.years.length yc) (.slice none 0 0) V.le.length [] []) hXN hXW hNW hX1 hN1=>mK V.le (dK V.le).1 v ge (.slice ia ge.args.length ic) (.slice ya v.years.length yc) (.slice none 0 0) byN a5 k5 V.le.length W0 w1 X N [] [] 2 HLS.out h10 HLE.out HOK.out HRNG.out mo.2.2 ty1 sz1 (hra.grows hg) (HV.out.le.grows hg) (HY.out.grows hg) hD (jX.zero _ _) zg hXN hXW hNW w1.heap.size (Nat.le_refl _) hX1 hN1 (fun k hk=>by cases hk);simp only [hr]at hD1;unfold OV exV byN at hD1;dsimp only at hD1;have HD1:=zh hD1;have HR:=zh hr;have HTY:=zh ty1;have HFA:=zh hFA;simp only [World.grow_grow];generalize bs++bs1=B;clear hD1 hr hra ty1 hFA hx hk hkb hm HVO
 go_wp2_with fail
 refine TS.begin [12,13] (World.Grows _) zf zf aG (fun hS=>?_);refine TS.wkB 0 hS ?_;refine TS.wkB 1 hS ?_;refine TS.wkB 2 hS ?_;refine TS.wkB 3 hS ?_;refine TS.wkB 4 hS ?_;refine TS.wkB 5 hS ?_;refine TS.wkB 6 hS ?_;refine TS.wkB 7 hS ?_;refine TS.wkB 8 hS ?_;refine TS.wkB 9 hS ?_;refine TS.wkB 10 hS ?_;refine TS.one (i:=11) zf rfl (fun K1 hK1=>?_);have HK1:=zh hK1;clear hK1 hS;dsimp only [getElem_toArray,getElem_cons_succ,getElem_cons_zero]
 go_simp
 refine TS.go HK1.out yg (fun hS=>?_);clear HK1 K1
 (try simp only [nS])
 refine TS.one (i:=12) zf rfl (fun K1 hK1=>?_);have HK1:=zh hK1;clear hK1 hS;dsimp only [getElem_toArray,getElem_cons_succ,getElem_cons_zero]
 go_simp
 go_at_call 80
 refine(HD1.out ((World.grow (((((w.alloc (.cells #[.int .i64 x0,.int .i64 x1,.int .i64 x2,.slice a3 V.cr.length k3,.slice a4 V.se.length k4,.slice a5 V.le.length k5,.slice a6 V.gr.length k6,.slice (some ⟨bg,og,none⟩) V.re.length k7] 81)).alloc (.cells #[.int .i64 b] 3)).alloc (.cells #[.int .i64 v.age,.int .i64 v.year,.int .i64 v.children,.int .i64 v.insured,.int .i64 v.worked,.int .i64 v.voluntary,.int .i64 v.service,.int .i64 v.equated,.int .i64 v.raising,.int .i64 v.resident,.int .i64 v.bn,.int .i64 v.bd,.slice ya v.years.length yc] 26)).alloc (.cells #[.int .i64 0,.int .i64 0] 23))) B d1)) af _ ((w.heap.size+1+1+1+1+B.size)) (((w.heap.size+1+1+1+1+B.size))+1) (iC.start af (by exact(Below.heap_alloc _ _ _ zg).trans (aY _ _ _ zg)) (by exact aY _ _ _ zg)) ze zg zg zB zg).mono ?_;rintro e' w' ⟨hG,rfl,hdf⟩;refine HK1.out _ _ (fun h=>absurd zo h) ?_;clear HK1 K1
 (try simp only [nS])
 refine TS.weB 13 ?_;by_cases hc:c=0
 case neg=>
  have hc2:(c !=0)=true:=by simpa using hc
  have HF:=zh (HFA.out.trans (J2 (by rw [HR.out]) hc));clear hc;obtain⟨bs2,d2,rfl⟩:=hG
  go_wp2_with fail
  go_returns
  exact RdP.mk HF.out aU
 subst hc;obtain⟨st',x,rfl,hrun,hval⟩:=Ev HR.out;obtain⟨cm,cy,cn,cd⟩:=x;obtain⟨vb,hd,hsl,-⟩:=hdf zF;have hL1:=uG v _ st' _ vb _ _ hd.ev (hd.steps (by simp at hsl ⊢;omega));unfold dM at hL1;obtain⟨bs2,d2,rfl⟩:=hG;simp only [World.grow_grow]at hL1;have HL1:=zh hL1;clear hdf hd hsl hL1;have hF:=HFA.out.trans (OY HR.out);dsimp only at hF;clear hrun hval;have hfd:=Rp cm cn cd cy;by_cases h1:cn<0
 ·rw [if_pos h1]at hF;have HF:=zh hF;clear hF
  go_wp2_with (go_at_call 81;refine HL1.out.mono ?_;rintro e'' w'' ⟨rfl,bs3,d3,rfl⟩)
  go_returns
  exact RdP.mk HF.out aU
 rw [if_neg h1]at hF;by_cases h2:cd<cn
 ·rw [if_pos h2]at hF;have HF:=zh hF;clear hF
  go_wp2_with (go_at_call 81;refine HL1.out.mono ?_;rintro e'' w'' ⟨rfl,bs3,d3,rfl⟩)
  go_returns
  exact RdP.mk HF.out aU
 ·rw [if_neg h2]at hF;have HF:=zh hF;clear hF
  go_wp2_with (go_at_call 81;refine HL1.out.mono ?_;rintro e'' w'' ⟨rfl,bs3,d3,rfl⟩)
  go_returns
  exact RdP.mk HF.out aU
theorem Ns(hOf:Hid vC)(cs:Array Value)(R:dh)(P:VwR)(vd vy:Value)(bn:Int)(w:World)(hR:lL w cs.toList R)(hd:ay w vd P.days)(hy:ay w vy P.years)(ht:Tab w)
 (V:cO) (hV:Hid (ofP R=V)) (hsm:kT V) (hln:V.cr.length<=1000/\V.se.length<=1000/\V.le.length<=10/\V.gr.length<=1000/\V.re.length<=1000) (v:Vw) (hv:Hid (lX P=v)) (hrng:dN v) (k:Int) (hk:Hid (pick bn 4=k)) (q1 q2 c:Int) (hr:Hid (lN V k v=((q1,q2),c))) (hbd:c=0->0<=q1/\q1<=q2) :
 Calls prog 11 #[.agg cs,.agg #[.int .i64 P.age,.int .i64 P.year,.int .i64 P.children,.int .i64 P.base,.int .i64 P.den,vd,vy],.int .i64 bn] w fun e w'=>e= .returned (.bool true)/\w.Grows w':=by
 have HT:=zh ht;have HR:=zh hR;have HW:=zh (fun w' (hg:w.Grows w')=>tq P vd vy w' (ay.growsG hd hg) (ay.growsG hy hg));unfold VoP vwV at HW;rw [hv.out]at HW;have HPK:=zh (fun w=>bP bn 4 w ze);rw [hk.out]at HPK;obtain⟨-,-,-,-,vc,vs,vl',vi,vp,vu,he,-⟩:=hR;obtain⟨l⟩:=cs;simp only at he;subst he;obtain⟨-,-,da,dc,rfl,-⟩:=hd;obtain⟨-,-,ya,yc,rfl,-⟩:=hy;clear ht
 go_enter func11,ntmps11
 go_wp2_with fail
 refine(hOf.out R _ _ (HR.out.below ag)).mono ?_;rintro e w' ⟨v3,v4,v5,v6,v7,rfl,⟨bs,dr,rfl⟩,hver⟩;rw [hV.out]at hver;have HVC:=zh (hver.verC ⟨hln.1,hln.2.1,by omega,hln.2.2.2.1,hln.2.2.2.2⟩);have HNX:=zh hver.numsX;have HCP:=zh hver.caps;clear hver;obtain⟨-,a3,k3,rfl,-⟩:=HVC.out.cr;obtain⟨-,a4,k4,rfl,-⟩:=HVC.out.se;obtain⟨-,a5,k5,rfl,-⟩:=HVC.out.le;obtain⟨-,a6,k6,rfl,-⟩:=HVC.out.gr;obtain⟨-,a7,k7,rfl,-⟩:=HVC.out.re;have HA:=zh (fun W (hg:World.Grows _ W) (hg':w.Grows W) (ya:Option Addr) (yc:Nat) (hY:bK W (.slice ya v.years.length yc) v.years)=>CJ V v k (ofP R).frm (ofP R).mode (ofP R).unit _ _ _ _ _ _ W (HVC.out.grows hg) ⟨HNX.out.1.grows hg,HNX.out.2.grows hg⟩ HCP.out hsm hln.2.2.1 (HT.out.grows hg') hrng hY);have HB:=zh (fun W (hg:World.Grows _ W) (ya:Option Addr) (yc:Nat) (hY:bK W (.slice ya v.years.length yc) v.years)=>CG V v k (ofP R).frm (ofP R).mode (ofP R).unit _ _ _ _ _ _ W (HVC.out.grows hg) hsm hln.2.2.1 hrng hY);unfold RdP vwV at HA HB;simp only [length_map,hr.out]at HA HB ⊢;by_cases hc:c=0
 focus
  obtain⟨b1,b2⟩:=hbd hc;subst hc
 rotate_left
 focus
  have hc2:(c !=0)=true:=by simpa using hc
  clear hc hbd
 rotate_left
 all_goals
  go_wp2_with (first
   |(go_at_call 14;refine(HW.out _ aU).mono ?_;rintro e' w' ⟨yv,rfl,⟨bA,dA,rfl⟩,hyv⟩;have HYV:=zh hyv;obtain⟨-,ya1,yc1,rfl,-⟩:=hyv)
   |(go_at_call 15;refine(HPK.out _).mono ?_;rintro e' w' ⟨rfl,rfl⟩)
   |(go_at_call 40;refine(HA.out _ aU aU _ _ (HYV.out.grows aU)).mono ?_;rintro e' w' ⟨rfl,bB,dB,rfl⟩)
   |(go_at_call 41;refine(HB.out _ aU _ _ (HYV.out.grows aU)).mono ?_;rintro e' w' ⟨rfl,bC,dC,rfl⟩)
   |(go_at_call 19;refine(vo _ (HT.out.grows aU)).mono ?_;rintro e' w' ⟨rfl,bD,dD,rfl⟩))
  go_returns
  exact⟨rfl,aU⟩
theorem PZ(hOf:Hid vC)(cs:Array Value)(R:dh)(P:VwR)(vd vy:Value)(bn:Int)(w:World)(hR:lL w cs.toList R)(hd:ay w vd P.days)(hy:ay w vy P.years)(ht:Tab w) :
 Calls prog 11 #[.agg cs,.agg #[.int .i64 P.age,.int .i64 P.year,.int .i64 P.children,.int .i64 P.base,.int .i64 P.den,vd,vy],.int .i64 bn] w fun e w'=>e= .returned (.bool true)/\w.Grows w':=
 Ns hOf cs R P vd vy bn w hR hd hy ht _ (zh rfl) (OZ R) (E8 R) _ (zh rfl) (vY P) _ (zh rfl) _ _ _ (zh rfl) (Nq _ _ _)
end Go.Proofs.YtlheailebbngiaaGreatDoor
