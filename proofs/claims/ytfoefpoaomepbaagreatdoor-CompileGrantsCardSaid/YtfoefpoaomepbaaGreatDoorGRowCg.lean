import Derived.Test.YtfoefpoaomepbaaGreatDoorGLawCg
import Derived.Test.YtfoefpoaomepbaaGreatDoorGFcCg
import Derived.Test.YtfoefpoaomepbaaGreatDoorCards
import Derived.Test.YtfoefpoaomepbaaGreatDoorTie
import Derived.SevenTiedAt
set_option linter.all false
set_option maxHeartbeats 16000000
set_option maxRecDepth 1000000
namespace Go.Proofs.YtfoefpoaomepbaaGreatDoor
open Go.Proofs.Tryz Tryz List
open Go.ChangeShapes Go.WideShapes Go.ChangeAt Go.RowKit
theorem R4{H:Type}(enc:TypeId × Value->H):Hd enc prog 7 [49,3]:=by
 intro W base args ds p hL hval hA hfit;obtain⟨v0,vs0,d0,ds0,p0,q0,hargs,rfl,rfl,h0,r0⟩:=trodAll_cons hA;obtain⟨v1,vs1,d1,ds1,p1,q1,rfl,rfl,rfl,h1,r1⟩:=trodAll_cons r0;obtain⟨rfl,rfl,rfl⟩:=trodAll_nil r1;obtain rfl:args=#[v0,v1]:=by cases args;simp_all
 obtain⟨R,cs,rfl,hR⟩:=qa.of_trod (hval 0 _ v0 rfl rfl) h0 (hfit 0 _ _ rfl rfl);obtain⟨n,rfl,-,-,-⟩:=open_int underlying3 (hval 1 _ v1 rfl rfl) h1;exact(cg_any OW n cs R W hR (Br hL)).mono fun e w' h=>⟨h.1,h.2.below⟩
theorem JW(os:Os)(started:os.Started)(H:Type)(enc:TypeId × Value->H) :
 ReturnsInHanded {} checked os 7 .any (fun w args=>(Rows.compileGrantsSpec.pre enc prog f7 [] false w args/\laidMetH prog iG w)/\sizedMet enc prog f7 (OpenSpec.ofChange Rows.compileGrantsSpec) false w args) (Rows.compileGrantsSpec.post enc prog f7 false true false false):=
 LQ (C:=checked) (s:=Rows.compileGrantsSpec) own started ze func7
  (ChangeSpec.witness_at (enc:=enc) (C:=checked) (os:=os) (X:=fun w _=>laidMetH prog iG w) false (World.laidAll prog os iG) #[.agg #[.int .i64 0,.int .i64 0,.int .i64 0,.slice none 0 0,.slice none 0 0,.slice none 0 0,.slice none 0 0,.slice none 0 0,.slice none 0 0,.int .i64 0],.int .i64 0] 8 (World.laidAll_os _ _ _) ze ze ze ze ze (LW os _))
  laidOut ze rfl underlying4 rfl (fun ds hds=>by
   match ds,hds with
   | [d0,d1],_=>rfl) (R4 enc)
theorem RZ:Rows.CompileGrantsSaid:=
 OpenClaim.holds_of_wide 7 f7 rfl rfl rfl rfl rfl rfl rfl ⟨rfl,rfl,rfl,rfl,rfl⟩ rfl rfl rfl rfl rfl ze func7 M6
  (of_decide_eq_true ze) (by unfold Func.isWrapper;first|(rw [if_pos zp];kernel_rfl)|(rw [if_neg zp];exact⟨rfl,rfl⟩))
  (fun os started H enc _=>JW os started H enc)
end Go.Proofs.YtfoefpoaomepbaaGreatDoor
