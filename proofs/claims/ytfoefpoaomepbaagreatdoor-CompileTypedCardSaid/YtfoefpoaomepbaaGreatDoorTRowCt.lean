import Derived.Test.YtfoefpoaomepbaaGreatDoorTLawCt
import Derived.Test.YtfoefpoaomepbaaGreatDoorTFcCt
import Derived.Test.YtfoefpoaomepbaaGreatDoorTOf3
import Derived.Test.YtfoefpoaomepbaaGreatDoorCards
import Derived.Test.YtfoefpoaomepbaaGreatDoorTie
import Derived.SevenTiedAt
set_option linter.all false
set_option maxHeartbeats 16000000
set_option maxRecDepth 1000000
namespace Go.Proofs.YtfoefpoaomepbaaGreatDoor
open Go.ChangeShapes Go.WideShapes Go.ChangeAt Go.RowKit
theorem ct_law{H:Type}(enc:TypeId × Value→H):LawWalk enc Tryz.prog 6 [49,22]:=by
 intro W base args ds p hL hval hA hfit
 obtain⟨v0,vs0,d0,ds0,p0,q0,hargs,rfl,rfl,h0,r0⟩:=trodAll_cons hA
 obtain⟨v1,vs1,d1,ds1,p1,q1,rfl,rfl,rfl,h1,r1⟩:=trodAll_cons r0
 obtain⟨rfl,rfl,rfl⟩:=trodAll_nil r1
 obtain rfl:args=#[v0,v1]:=by cases args;simp_all
 obtain⟨R,cs,rfl,hR⟩:=RawAt.of_trod (hval 0 _ v0 rfl rfl) h0 (hfit 0 _ _ rfl rfl)
 obtain⟨zs,hI⟩:=ints_of (hval 1 _ v1 rfl rfl) h1 (hfit 1 _ _ rfl rfl)
 exact(ct_any of_said zs _ cs R W hI hR (tab_of_laid hL)).mono fun e w' h=>⟨h.1,h.2.below⟩
theorem ct_lifted(os:Os)(started:os.Started)(H:Type)(enc:TypeId × Value→H) :
 ReturnsInHanded {} Tryz.checked os 6 .any (fun w args=>(Rows.compileTypedSpec.pre enc Tryz.prog Tryz.f6 [] false w args∧laidMetH Tryz.prog laidsX w)∧sizedMet enc Tryz.prog Tryz.f6 (OpenSpec.ofChange Rows.compileTypedSpec) false w args) (Rows.compileTypedSpec.post enc Tryz.prog Tryz.f6 false true false false):=
 law_lift (C:=Tryz.checked) (s:=Rows.compileTypedSpec) own started (by kernel_rfl) Tryz.func6
  (ChangeSpec.witness_at (enc:=enc) (C:=Tryz.checked) (os:=os) (X:=fun w _=>laidMetH Tryz.prog laidsX w) false (World.laidAll Tryz.prog os laidsX) #[.agg #[.int .i64 0,.int .i64 0,.int .i64 0,.slice none 0 0,.slice none 0 0,.slice none 0 0,.slice none 0 0,.slice none 0 0,.slice none 0 0,.int .i64 0],.slice none 0 0] 8 (World.laidAll_os _ _ _) (by kernel_rfl) (by kernel_rfl) (by kernel_rfl) (by kernel_rfl) (by kernel_rfl) (laidsMet os _))
  laidOut (by kernel_rfl) rfl Tryz.underlying4 rfl (fun ds hds=>by
   match ds,hds with
   | [d0,d1],_=>rfl) (ct_law enc)
theorem ct_row:Rows.CompileTypedSaid:=
 OpenClaim.holds_of_wide 6 Tryz.f6 rfl rfl rfl rfl rfl rfl rfl ⟨rfl,rfl,rfl,rfl,rfl⟩ rfl rfl rfl rfl rfl (by kernel_rfl) Tryz.func6 ct_facts
  (of_decide_eq_true (by kernel_rfl)) (by unfold Func.isWrapper;first|(rw [if_pos (by decide+kernel)];kernel_rfl)|(rw [if_neg (by decide+kernel)];exact⟨rfl,rfl⟩))
  (fun os started H enc _=>ct_lifted os started H enc)
end Go.Proofs.YtfoefpoaomepbaaGreatDoor
