import Derived.Test.YtblkcgceefjmjaaGreatDoorTRunM
import Derived.Test.YtblkcgceefjmjaaGreatDoorTFcMs
import Derived.Test.YtblkcgceefjmjaaGreatDoorArgMS
import Derived.Test.YtblkcgceefjmjaaGreatDoorSpTS
import Derived.Test.YtblkcgceefjmjaaGreatDoorCards
import Derived.Test.YtblkcgceefjmjaaGreatDoorTie
import Derived.SevenTiedAt
set_option linter.all false
set_option maxHeartbeats 16000000
set_option maxRecDepth 1000000
namespace Go.Proofs.YtblkcgceefjmjaaGreatDoor
open Go.ChangeShapes Go.WideShapes Go.ChangeAt Go.RowKit
theorem inf_said:InfSaid:=fun S env e v ve w h hb ht hv=>Infer2_any S env e v ve w h hb ht hv
theorem ms_law{H:Type}(enc:TypeId × Value→H):LawWalk enc Tryz.prog 10 [47,22,96,36]:=by
 intro W base args ds p hL hval hA hfit
 obtain⟨v0,vs0,d0,ds0,p0,q0,hargs,rfl,rfl,h0,r0⟩:=trodAll_cons hA
 obtain⟨v1,vs1,d1,ds1,p1,q1,rfl,rfl,rfl,h1,r1⟩:=trodAll_cons r0
 obtain⟨v2,vs2,d2,ds2,p2,q2,rfl,rfl,rfl,h2,r2⟩:=trodAll_cons r1
 obtain⟨v3,vs3,d3,ds3,p3,q3,rfl,rfl,rfl,h3,r3⟩:=trodAll_cons r2
 obtain⟨rfl,rfl,rfl⟩:=trodAll_nil r3
 obtain rfl:args=#[v0,v1,v2,v3]:=by cases args;simp_all
 obtain⟨ls,hI⟩:=rows_of (hval 0 _ v0 rfl rfl) h0 (hfit 0 _ _ rfl rfl)
 obtain⟨gd,hG⟩:=ints_of (hval 1 _ v1 rfl rfl) h1 (hfit 1 _ _ rfl rfl)
 obtain⟨ps,hP⟩:=pokes_of (hval 2 _ v2 rfl rfl) h2
 obtain⟨R,vd,vy,rfl,hd,hy⟩:=VwR.of_trod (hval 3 _ v3 rfl rfl) h3 (hfit 3 _ _ rfl rfl)
 exact(ms_any (Lib.hid inf_said) ls gd ps R _ _ _ _ _ W hI hG hP hd hy (tab_of_laid hL)).mono fun e w' h=>⟨h.1,h.2.below⟩
theorem ms_lifted(os:Os)(started:os.Started)(H:Type)(enc:TypeId × Value→H) :
 ReturnsInHanded {} Tryz.checked os 10 .any (fun w args=>(Rows.machineSafeSpec.pre enc Tryz.prog Tryz.f10 [] false w args∧laidMetH Tryz.prog laidsX w)∧sizedMet enc Tryz.prog Tryz.f10 (OpenSpec.ofChange Rows.machineSafeSpec) false w args) (Rows.machineSafeSpec.post enc Tryz.prog Tryz.f10 false true false false):=
 law_lift (C:=Tryz.checked) (s:=Rows.machineSafeSpec) own started (by kernel_rfl) Tryz.func10
  (ChangeSpec.witness_at (enc:=enc) (C:=Tryz.checked) (os:=os) (X:=fun w _=>laidMetH Tryz.prog laidsX w) false (World.laidAll Tryz.prog os laidsX) #[.slice none 0 0,.slice none 0 0,.slice none 0 0,.agg #[.int .i64 0,.int .i64 0,.int .i64 0,.int .i64 0,.int .i64 0,.slice none 0 0,.slice none 0 0]] 8 (World.laidAll_os _ _ _) (by kernel_rfl) (by kernel_rfl) (by kernel_rfl) (by kernel_rfl) (by kernel_rfl) (laidsMet os _))
  laidOut (by kernel_rfl) rfl Tryz.underlying4 rfl (fun ds hds=>by
   match ds,hds with
   | [d0,d1,d2,d3],_=>rfl) (ms_law enc)
theorem ms_row:Rows.MachineSafeSaid:=
 OpenClaim.holds_of_wide 10 Tryz.f10 rfl rfl rfl rfl rfl rfl rfl ⟨rfl,rfl,rfl,rfl,rfl⟩ rfl rfl rfl rfl rfl (by kernel_rfl) Tryz.func10 ms_facts
  (of_decide_eq_true (by kernel_rfl)) (by unfold Func.isWrapper;first|(rw [if_pos (by decide+kernel)];kernel_rfl)|(rw [if_neg (by decide+kernel)];exact⟨rfl,rfl⟩))
  (fun os started H enc _=>ms_lifted os started H enc)
end Go.Proofs.YtblkcgceefjmjaaGreatDoor
