import Derived.Test.YtlheailebbngiaaGreatDoorGGr8
import Derived.Test.YtlheailebbngiaaGreatDoorGGr3
import Derived.Test.YtlheailebbngiaaGreatDoorGVwOf
set_option linter.all false
set_option maxHeartbeats 16000000
set_option maxRecDepth 1000000
namespace Go.Proofs.YtlheailebbngiaaGreatDoor
open Go.Proofs.Tryz List
open Go.RowKit
theorem Nv(hOf:Hid Ef)(cs:Array Value)(R:df)(P:VwR)(vd vy:Value)(bn sp:Int)(w:World)(hR:pJ w cs.toList R)(hd:ay w vd P.days)(hy:ay w vy P.years)(ht:Tab w)
 (V:dK) (hV:Hid (ofP R=V)) (hsm:nK V) (hln:V.cr.length<=1000/\V.se.length<=1000/\V.le.length<=10/\V.gr.length<=1000/\V.re.length<=1000) (v:Vw) (hv:Hid (nC P=v)) (hrng:dW v) (k:Int) (hk:Hid (pick bn 5=k)) :
 Calls prog 12 #[.agg cs,.agg #[.int .i64 P.age,.int .i64 P.year,.int .i64 P.children,.int .i64 P.base,.int .i64 P.den,vd,vy],.int .i64 bn,.int .i64 sp] w fun e w'=>e= .returned (.bool true)/\w.Grows w':=by
 have HT:=zh ht;have HR:=zh hR;have HW:=zh (fun w' (hg:w.Grows w')=>Ct P vd vy w' (ay.growsG hd hg) (ay.growsG hy hg));unfold VoP vwV at HW;rw [hv.out]at HW;have HPK:=zh (fun w=>bN bn 5 w ze);rw [hk.out]at HPK;obtain⟨-,-,-,-,vc,vs,vl',vi,vp,vu,he,-⟩:=hR;obtain⟨l⟩:=cs;simp only at he;subst he;obtain⟨-,-,da,dc,rfl,-⟩:=hd;obtain⟨-,-,ya,yc,rfl,-⟩:=hy;clear ht
 go_enter func12,ntmps12
 go_wp2_with fail
 refine(hOf.out R _ _ (HR.out.below af)).mono ?_;rintro e w' ⟨v3,v4,v5,v6,v7,rfl,⟨bs,dr,rfl⟩,hver⟩;rw [hV.out]at hver;have HVC:=zh (hver.verC ⟨hln.1,hln.2.1,by omega,hln.2.2.2.1,hln.2.2.2.2⟩);have HNX:=zh hver.numsX;have HCP:=zh hver.caps;clear hver;obtain⟨-,a3,k3,rfl,-⟩:=HVC.out.cr;obtain⟨-,a4,k4,rfl,-⟩:=HVC.out.se;obtain⟨-,a5,k5,rfl,-⟩:=HVC.out.le;obtain⟨-,a6,k6,rfl,-⟩:=HVC.out.gr;obtain⟨-,a7,k7,rfl,-⟩:=HVC.out.re;by_cases hs:sp.tmod 9=0
 focus
  have hs2:(sp.tmod 9==0)=true:=by simpa using hs
  clear hs;have HA:=zh (fun W (hg:World.Grows _ W) (hg':w.Grows W) (ya:Option Addr) (yc:Nat) (hY:bJ W (.slice ya v.years.length yc) v.years)=>uS V ⟨sp,v.year,v.children,v.insured,v.worked,v.voluntary,v.service,v.equated,v.raising,v.resident,v.bn,v.bd,v.years⟩ k (ofP R).frm (ofP R).mode (ofP R).unit _ _ _ _ _ _ W (HVC.out.grows hg) ⟨HNX.out.1.grows hg,HNX.out.2.grows hg⟩ HCP.out hsm hln.2.2.1 (HT.out.grows hg') ⟨hrng.base⟩ hY);have HB:=zh (fun W (hg:World.Grows _ W) (ya:Option Addr) (yc:Nat) (hY:bJ W (.slice ya v.years.length yc) v.years)=>uR V ⟨sp,v.year,v.children,v.insured,v.worked,v.voluntary,v.service,v.equated,v.raising,v.resident,v.bn,v.bd,v.years⟩ k (ofP R).frm (ofP R).mode (ofP R).unit _ _ _ _ _ _ W (HVC.out.grows hg) hsm hln.2.2.1 ⟨hrng.base⟩ hY);obtain⟨⟨⟨h,n,d⟩,st,c⟩,hr⟩:∃r,gF V k ⟨sp,v.year,v.children,v.insured,v.worked,v.voluntary,v.service,v.equated,v.raising,v.resident,v.bn,v.bd,v.years⟩=r:=⟨_,rfl⟩
 rotate_left
 focus
  have hs2:(sp.tmod 9==0)=false:=by simpa using hs
  clear hs;have HA:=zh (fun W (hg:World.Grows _ W) (hg':w.Grows W) (ya:Option Addr) (yc:Nat) (hY:bJ W (.slice ya v.years.length yc) v.years)=>uS V v k (ofP R).frm (ofP R).mode (ofP R).unit _ _ _ _ _ _ W (HVC.out.grows hg) ⟨HNX.out.1.grows hg,HNX.out.2.grows hg⟩ HCP.out hsm hln.2.2.1 (HT.out.grows hg') ⟨hrng.base⟩ hY);have HB:=zh (fun W (hg:World.Grows _ W) (ya:Option Addr) (yc:Nat) (hY:bJ W (.slice ya v.years.length yc) v.years)=>uR V v k (ofP R).frm (ofP R).mode (ofP R).unit _ _ _ _ _ _ W (HVC.out.grows hg) hsm hln.2.2.1 ⟨hrng.base⟩ hY);obtain⟨⟨⟨h,n,d⟩,st,c⟩,hr⟩:∃r,gF V k v=r:=⟨_,rfl⟩
 rotate_left
 all_goals
  unfold GrP vwV at HA HB;simp only [length_map,hr]at HA HB ⊢;clear hr
  go_wp2_with (first
   |(go_at_call 14;refine(HW.out _ dJ).mono ?_;rintro e' w' ⟨yv,rfl,⟨bA,dA,rfl⟩,hyv⟩;have HYV:=zh hyv;obtain⟨-,ya1,yc1,rfl,-⟩:=hyv)
   |(go_at_call 15;refine(HPK.out _).mono ?_;rintro e' w' ⟨rfl,rfl⟩)
   |(go_at_call 42;refine(HA.out _ dJ dJ _ _ (HYV.out.grows dJ)).mono ?_;rintro e' w' ⟨sv,rfl,⟨bB,dB,rfl⟩,hsv,-⟩;have HSV:=zh hsv;obtain⟨-,sa,sc,rfl,-⟩:=hsv)
   |(go_at_call 43;refine(HB.out _ dJ _ _ (HYV.out.grows dJ)).mono ?_;rintro e' w' ⟨su,rfl,⟨bC,dC,rfl⟩,hsu,-⟩;have HSU:=zh hsu;obtain⟨-,sa',sc',rfl,-⟩:=hsu)
   |(go_at_call 19;refine(Ec _ (HT.out.grows dJ)).mono ?_;rintro e' w' ⟨rfl,bD,dD,rfl⟩)
   |(go_at_call 44;refine(sU st _ _ _ _ _ _ (HSV.out.grows dJ) (HSU.out.grows dJ)).mono ?_;rintro e' w' ⟨rfl,bE,dE,rfl⟩))
  go_returns
  exact⟨rfl,dJ⟩
theorem PM(hOf:Hid Ef)(cs:Array Value)(R:df)(P:VwR)(vd vy:Value)(bn sp:Int)(w:World)(hR:pJ w cs.toList R)(hd:ay w vd P.days)(hy:ay w vy P.years)(ht:Tab w) :
 Calls prog 12 #[.agg cs,.agg #[.int .i64 P.age,.int .i64 P.year,.int .i64 P.children,.int .i64 P.base,.int .i64 P.den,vd,vy],.int .i64 bn,.int .i64 sp] w fun e w'=>e= .returned (.bool true)/\w.Grows w':=
 Nv hOf cs R P vd vy bn sp w hR hd hy ht _ (zh rfl) (Qa R) (MW R) _ (zh rfl) (Fh P) _ (zh rfl)
end Go.Proofs.YtlheailebbngiaaGreatDoor
