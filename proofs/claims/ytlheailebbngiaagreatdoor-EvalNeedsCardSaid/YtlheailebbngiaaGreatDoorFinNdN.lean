/- EvalNeeds: for every input the law returns true, and its arguments read as they did; its tied card. No condition. -/
import Derived.Test.YtlheailebbngiaaGreatDoorNGr3
import Derived.Test.YtlheailebbngiaaGreatDoorLOf
import Derived.Test.YtlheailebbngiaaGreatDoorCards
import Derived.Test.YtlheailebbngiaaGreatDoorTie
import Derived.SevenTiedAt
set_option linter.all false
set_option maxHeartbeats 16000000
set_option maxRecDepth 1000000
namespace Go.Proofs.YtlheailebbngiaaGreatDoor
open Go.ChangeShapes Go.WideShapes Go.ChangeAt Go.RowKit
theorem nd_law{H:Type}(enc:TypeId × Value→H):LawWalk enc Tryz.prog 13 [72,28,24,3]:=by
 intro W base args ds p hL hval hA hfit;obtain⟨v0,vs0,d0,ds0,p0,q0,hargs,rfl,rfl,h0,r0⟩:=trodAll_cons hA;obtain⟨v1,vs1,d1,ds1,p1,q1,rfl,rfl,rfl,h1,r1⟩:=trodAll_cons r0;obtain⟨v2,vs2,d2,ds2,p2,q2,rfl,rfl,rfl,h2,r2⟩:=trodAll_cons r1;obtain⟨v3,vs3,d3,ds3,p3,q3,rfl,rfl,rfl,h3,r3⟩:=trodAll_cons r2;obtain⟨rfl,rfl,rfl⟩:=trodAll_nil r3;obtain rfl:args=#[v0,v1,v2,v3]:=by cases args;simp_all
 obtain⟨R,cs,rfl,hR⟩:=RawAt.of_trod (hval 0 _ v0 rfl rfl) h0 (hfit 0 _ _ rfl rfl);obtain⟨P,vd,vy,rfl,hd,hy⟩:=VwR.of_trod (hval 1 _ v1 rfl rfl) h1 (hfit 1 _ _ rfl rfl);obtain⟨zs,hI⟩:=ints_of (hval 2 _ v2 rfl rfl) h2 (hfit 2 _ _ rfl rfl);obtain⟨n,rfl,-,-,-⟩:=open_int Tryz.underlying3 (hval 3 _ v3 rfl rfl) h3;exact(nd_any (zh of_said) zs _ cs R P _ _ n W hI hR hd hy (tab_of_laid hL)).mono fun e w' h=>⟨h.1,h.2.below⟩
theorem nd_lifted(os:Os)(started:os.Started)(H:Type)(enc:TypeId × Value→H) :
 ReturnsInHanded {} Tryz.checked os 13 .any (fun w args=>(Rows.evalNeedsSpec.pre enc Tryz.prog Tryz.f13 [] false w args∧laidMetH Tryz.prog laidsX w)∧sizedMet enc Tryz.prog Tryz.f13 (OpenSpec.ofChange Rows.evalNeedsSpec) false w args) (Rows.evalNeedsSpec.post enc Tryz.prog Tryz.f13 false true false false):=
 law_lift (C:=Tryz.checked) (s:=Rows.evalNeedsSpec) own started (by kernel_rfl) Tryz.func13
  (ChangeSpec.witness_at (enc:=enc) (C:=Tryz.checked) (os:=os) (X:=fun w _=>laidMetH Tryz.prog laidsX w) false (World.laidAll Tryz.prog os laidsX) #[.agg #[.int .i64 0,.int .i64 0,.int .i64 0,.slice none 0 0,.slice none 0 0,.slice none 0 0,.slice none 0 0,.slice none 0 0,.slice none 0 0,.int .i64 0],.agg #[.int .i64 0,.int .i64 0,.int .i64 0,.int .i64 0,.int .i64 0,.slice none 0 0,.slice none 0 0],.slice none 0 0,.int .i64 0] 8 (World.laidAll_os _ _ _) (by kernel_rfl) (by kernel_rfl) (by kernel_rfl) (by kernel_rfl) (by kernel_rfl) (laidsMet os _))
  laidOut (by kernel_rfl) rfl Tryz.underlying4 rfl (fun ds hds=>by
   match ds,hds with
   | [d0,d1,d2,d3],_=>rfl) (nd_law enc)
theorem nd_row:Rows.EvalNeedsSaid:=
 OpenClaim.holds_of_wide 13 Tryz.f13 rfl rfl rfl rfl rfl rfl rfl ⟨rfl,rfl,rfl,rfl,rfl⟩ rfl rfl rfl rfl rfl (by kernel_rfl) Tryz.func13 nd_facts
  (of_decide_eq_true (by kernel_rfl)) (by unfold Func.isWrapper;first|(rw [if_pos (by decide+kernel)];kernel_rfl)|(rw [if_neg (by decide+kernel)];exact⟨rfl,rfl⟩))
  (fun os started H enc _=>nd_lifted os started H enc)
theorem nd_stand:(Tryz.f13.params.toList.all fun t=>!Tryz.prog.wantsStandIn t)=true:=by kernel_rfl
theorem nd_proved:Rows.EvalNeedsCardSaid:=
 Claim7.holds_tied_plain_at .later [] [.data,.data,.data] true Rows.evalNeedsCard.stood.harness false
  nd_row (fun _ h=>by cases h) (by kernel_rfl) (fun _ h=>by cases h) evalNeeds_row_tie rfl ⟨rfl,rfl⟩ (by kernel_rfl) rfl
  (fun f fn hf hfn=>by
   obtain rfl:f=13:=Option.some.inj ((show Tryz.prog.funcNamed "pension/pensionlaw8.EvalNeeds" =some 13 by kernel_rfl).symm.trans hf)|>.symm;obtain rfl:fn=Tryz.f13:=(Option.some.inj (Tryz.func13.symm.trans hfn)).symm
   exact⟨by kernel_rfl,fun j t ht=>by
    have hw:=List.all_eq_true.1 nd_stand t (List.mem_of_getElem? (by simpa using ht));have hw2:Tryz.prog.wantsStandIn t=false:=by simpa using hw
    exact hw2⟩)
  (by kernel_rfl)
#print axioms nd_proved
end Go.Proofs.YtlheailebbngiaaGreatDoor
