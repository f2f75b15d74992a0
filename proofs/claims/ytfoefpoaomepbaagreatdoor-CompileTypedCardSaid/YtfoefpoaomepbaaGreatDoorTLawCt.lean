import Derived.Test.YtfoefpoaomepbaaGreatDoorTGnF
import Derived.Test.YtfoefpoaomepbaaGreatDoorTVmP
import Derived.Test.YtfoefpoaomepbaaGreatDoorTWild
set_option linter.all false
set_option maxHeartbeats 16000000
set_option maxRecDepth 1000000
namespace Go.Proofs.YtfoefpoaomepbaaGreatDoor
open Go.RowKit
def LetsP(ls:List (ByteArray × Ex))(w:World)(e:Ending)(w':World):Prop:=∃v,e= .returned v∧w.Grows w'∧LetsAt w' v ls
theorem lets_any(hOf:Hid OfSaid)(cs:Array Value)(R:RawV)(w:World)(hR:RawAt w cs.toList R):Calls Tryz.prog 18 #[.agg cs] w (LetsP (ofP R).le w):=by
 have HR:=Lib.hid hR
 have hlen:=(of_lens R).2.2.1
 obtain⟨-,-,-,-,vc,vs,vl',vi,vp,vu,he,-⟩:=hR
 obtain⟨l⟩:=cs
 simp only at he
 subst he
 have hfd:∀(a b c v3 v4 v5 v6 v7:Value) (W:World),(Instr.field 82 (.agg #[a,b,c,v3,v4,v5,v6,v7]) 4).run Tryz.prog W= .ok v5 W:=by intros;kernel_rfl
 go_enter Tryz.func18,Tryz.ntmps18
 go_wp2_with fail
 refine(hOf.out R _ _ (HR.out.below belB)).mono ?_
 rintro e w' ⟨v3,v4,v5,v6,v7,rfl,⟨bs,dr,rfl⟩,hver⟩
 have HLA:=Lib.hid (hver.lets (by omega))
 clear hver
 go_wp2_with fail
 go_returns
 exact⟨_,rfl,growsR,HLA.out⟩
theorem cmp_any(ls:List (ByteArray × Ex))(e:Ex)(hsz:e.size≤1000000)(hsm:LsSmall ls)(h10:ls.length≤10):∃l sl,∀(W:World) (ve vl:Value),RepE (fun _=>True) W e ve→LetsAt W vl ls→Tab W→
 Calls Tryz.prog 20 #[exV e ve,vl] W (CmpP (if(letsF ls).2≠0 then(letsF ls).2 else(inferE (letsF ls).1 e).2) l sl W):=by
 by_cases hb:(letsF ls).2≠0∨(inferE (letsF ls).1 e).2≠0
 ·exact⟨[],[],fun W ve vl hr hl ht=>cmp_bad e ls ve vl W hr hsz hl hsm ht hb⟩
 ·have h1:(letsF ls).2=0:=Decidable.byContradiction fun c=>hb (.inl c)
  have h2:(inferE (letsF ls).1 e).2=0:=Decidable.byContradiction fun c=>hb (.inr c)
  refine⟨defsC (progX e ls (letsF ls).1 (inferE (letsF ls).1 e).1) 0,slotX e ls,fun W ve vl hr hl ht=>?_⟩
  rw [if_neg (by simpa using h1),h2]
  exact cmp_ok e ls ve vl W (letsF ls).1 (inferE (letsF ls).1 e).1 hr hsz hl hsm ht h10 (Prod.ext rfl h1) (Prod.ext rfl h2)
theorem ct_long(zs:List Int)(vl:Value)(cs:Array Value)(w:World)(hl:IntsAt w vl zs)(h:200<zs.length)(R:RawV)(hR:RawAt w cs.toList R) :
 Calls Tryz.prog 6 #[.agg cs,vl] w fun e w'=>e= .returned (.bool true)∧w.Grows w':=by
 obtain⟨-,-,-,-,vc,vs,vl',vi,vp,vu,he,-⟩:=hR
 obtain⟨l⟩:=cs
 simp only at he
 subst he
 obtain⟨-,-,a1,c1,rfl,-⟩:=hl
 have hn:(200:Int)<(zs.length:Int):=by omega
 clear h
 go_enter Tryz.func6,Tryz.ntmps6
 go_wp2_with fail
 go_returns
 exact⟨rfl,growsR⟩
theorem ct_core(hOf:Hid OfSaid)(zs:List Int)(vl:Value)(cs:Array Value)(R:RawV)(w:World)(hl:IntsAt w vl zs)(hR:RawAt w cs.toList R)(ht:Tab w)(h1:zs.length≤200) :
 Calls Tryz.prog 6 #[.agg cs,vl] w fun e w'=>e= .returned (.bool true)∧w.Grows w':=by
 have HT:=Lib.hid ht
 have HLT:=Lib.hid (fun W (hg:w.Grows W)=>lets_any hOf cs R W (hR.below hg.below))
 have HWD:=Lib.hid (fun w' (hg:w.Grows w')=>Wild_any vl zs w' (IntsAt.list (IntsAt.growsG hl hg) (Nat.le_refl _)))
 have hsm:=(of_sm R).le
 have h10:=(of_lens R).2.2.1
 unfold WildR exV at HWD
 unfold LetsP at HLT
 generalize(ofP R).le=ls at *
 have hn1:¬(200:Int)<(zs.length:Int):=by omega
 have HSM:=Lib.hid hsm
 have H10:=Lib.hid h10
 obtain⟨-,-,-,-,vc,vs,vl',vi,vp,vu,he,-⟩:=hR
 obtain⟨l⟩:=cs
 simp only at he
 subst he
 obtain⟨-,-,la,lc,rfl,-⟩:=hl
 clear ht hsm h10 h1
 go_enter Tryz.func6,Tryz.ntmps6
 go_upto_region 5 with (first
  |(go_at_call 18;refine(HLT.out _ growsR).mono ?_;rintro e' w' ⟨v5,rfl,⟨bs,d,rfl⟩,hla⟩;obtain⟨-,la5,lc5,rfl,-⟩:=id hla;have HLA:=Lib.hid hla;clear hla)
  |(go_at_call 8;refine(HWD.out _ growsR).mono ?_;rintro e' w' ⟨E,v,rfl,⟨bs2,d2,rfl⟩,HRP,hsz⟩;obtain⟨va,vc,rfl⟩:=RepE.form0 HRP;have HRE:=Lib.hid (HRP.mono (S':=fun _=>True) (fun _ _=>trivial));have HSZ:=Lib.hid hsz;clear hsz HRP))
 obtain⟨l,sl,hcm⟩:=cmp_any ls E HSZ.out HSM.out H10.out
 have HC:=Lib.hid hcm
 have HL5:=Lib.hid (fun W v (h:LetsAt W v ls)=>Lets5_any ls v W h HSM.out)
 have HI5:=Lib.hid (fun W u ve (h:RepE (fun _=>True) W E u) (hv:BindAt W ve (letsF ls).1)=>Infer5_any _ (letsF ls).1 E u ve W h (by have:=HSZ.out;omega) hv)
 unfold exV at HC HI5
 unfold LtPost at HL5
 unfold InfP at HI5
 clear hcm HLT HWD
 generalize letsF ls=L at *
 obtain⟨env,c⟩:=L
 dsimp only at HC HL5 HI5
 generalize inferE env E=I at *
 obtain⟨m,c2⟩:=I
 dsimp only at HC HI5
 by_cases hc:c=0
 focus
  subst hc
  rw [if_neg (by simp)]at HC
  unfold CmpP at HC
 rotate_left
 focus
  have q1:(c==0)=false:=by simpa using hc
  rw [if_pos hc]at HC
  unfold CmpP at HC
  clear hc
 rotate_left
 all_goals
  go_wp2_with (first
   |(go_at_call 20;refine(HC.out _ _ _ (HRE.out.grows growsR) (HLA.out.grows growsR) (HT.out.grows growsR)).mono ?_;rintro e' w' ⟨vI,vS,B1,B2,rfl,⟨bs3,d3,rfl⟩,hro1,hro2⟩;obtain⟨ia,ic,rfl⟩:=hro1.form;obtain⟨sa,sc,rfl,-,-⟩:=rowForm3 hro2;clear hro1 hro2)
   |(go_at_call 19;refine(HL5.out _ _ (HLA.out.grows growsR)).mono ?_;rintro e' w' ⟨x,rfl,⟨bs4,d4,rfl⟩,hbd⟩;have HBD:=Lib.hid hbd;clear hbd)
   |(go_at_call 25;refine(HI5.out _ _ _ (HRE.out.grows growsR) HBD.out).mono ?_;rintro e' w' ⟨rfl,bs5,d5,rfl⟩)
   |(go_at_call 11;refine(awake10 _ (HT.out.grows growsR)).mono ?_;rintro e' w' ⟨rfl,bs6,d6,rfl⟩))
  go_returns
  exact⟨rfl,growsR⟩
theorem ct_any(hOf:Hid OfSaid)(zs:List Int)(vl:Value)(cs:Array Value)(R:RawV)(w:World)(hl:IntsAt w vl zs)(hR:RawAt w cs.toList R)(ht:Tab w) :
 Calls Tryz.prog 6 #[.agg cs,vl] w fun e w'=>e= .returned (.bool true)∧w.Grows w':=by
 by_cases h1:zs.length≤200
 ·exact ct_core hOf zs vl cs R w hl hR ht h1
 ·exact ct_long zs vl cs w hl (by omega) R hR
end Go.Proofs.YtfoefpoaomepbaaGreatDoor
