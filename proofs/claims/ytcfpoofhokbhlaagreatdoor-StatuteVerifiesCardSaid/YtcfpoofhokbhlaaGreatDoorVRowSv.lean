import Derived.Test.YtcfpoofhokbhlaaGreatDoorVLawSv
import Derived.Test.YtcfpoofhokbhlaaGreatDoorVFcSv
import Derived.Test.YtcfpoofhokbhlaaGreatDoorVOf2
import Derived.Test.YtcfpoofhokbhlaaGreatDoorCards
import Derived.Test.YtcfpoofhokbhlaaGreatDoorTie
import Derived.SevenTiedAt
set_option linter.all false
set_option maxHeartbeats 16000000
set_option maxRecDepth 1000000
namespace Go.Proofs.YtcfpoofhokbhlaaGreatDoor
open Go.Proofs.Tryz Tryz List
open Go.ChangeShapes Go.WideShapes Go.ChangeAt Go.RowKit
theorem QB{H:Type}(enc:TypeId × Value->H):GA enc prog 3 [25,27,3,3,3,3]:=by
 intro W base args ds p hL hval hA hfit;obtain⟨v0,vs0,d0,ds0,p0,q0,hargs,rfl,rfl,h0,r0⟩:=trodAll_cons hA;obtain⟨v1,vs1,d1,ds1,p1,q1,rfl,rfl,rfl,h1,r1⟩:=trodAll_cons r0;obtain⟨v2,vs2,d2,ds2,p2,q2,rfl,rfl,rfl,h2,r2⟩:=trodAll_cons r1;obtain⟨v3,vs3,d3,ds3,p3,q3,rfl,rfl,rfl,h3,r3⟩:=trodAll_cons r2;obtain⟨v4,vs4,d4,ds4,p4,q4,rfl,rfl,rfl,h4,r4⟩:=trodAll_cons r3;obtain⟨v5,vs5,d5,ds5,p5,q5,rfl,rfl,rfl,h5,r5⟩:=trodAll_cons r4;obtain⟨rfl,rfl,rfl⟩:=trodAll_nil r5;obtain rfl:args=#[v0,v1,v2,v3,v4,v5]:=by cases args;simp_all
 obtain⟨R,cs,rfl,hR⟩:=nP.of_trod (hval 0 _ v0 rfl rfl) h0 (hfit 0 _ _ rfl rfl);obtain⟨P,vd,vy,rfl,hd,hy⟩:=VwR.of_trod (hval 1 _ v1 rfl rfl) h1 (hfit 1 _ _ rfl rfl);obtain⟨n,rfl,-,-,-⟩:=open_int underlying3 (hval 2 _ v2 rfl rfl) h2;obtain⟨kd,rfl,-,-,-⟩:=open_int underlying3 (hval 3 _ v3 rfl rfl) h3;obtain⟨an,rfl,-,-,-⟩:=open_int underlying3 (hval 4 _ v4 rfl rfl) h4;obtain⟨z,rfl,-,-,hw⟩:=open_int underlying3 (hval 5 _ v5 rfl rfl) h5;exact(QC (yq Ow) cs R P _ _ n kd an z W hR hd hy (Bi hL) (qC hw)).mono fun e w' h=>⟨h.1,h.2.below⟩
theorem GY(os:Os)(started:os.Started)(H:Type)(enc:TypeId × Value->H) :
 ReturnsInHanded {} checked os 3 .any (fun w args=>(Rows.statuteVerifiesSpec.pre enc prog f3 [] false w args/\laidMetH prog iX w)/\sizedMet enc prog f3 (OpenSpec.ofChange Rows.statuteVerifiesSpec) false w args) (Rows.statuteVerifiesSpec.post enc prog f3 false true false false):=
 Lh (C:=checked) (s:=Rows.statuteVerifiesSpec) own started zf func3
  (ChangeSpec.witness_at (enc:=enc) (C:=checked) (os:=os) (X:=fun w _=>laidMetH prog iX w) false (World.laidAll prog os iX) #[.agg #[.int .i64 0,.int .i64 0,.int .i64 0,.slice none 0 0,.slice none 0 0,.slice none 0 0,.slice none 0 0,.slice none 0 0,.slice none 0 0,.int .i64 0],.agg #[.int .i64 0,.int .i64 0,.int .i64 0,.int .i64 0,.int .i64 0,.slice none 0 0,.slice none 0 0],.int .i64 0,.int .i64 0,.int .i64 0,.int .i64 0] 8 (World.laidAll_os _ _ _) zf zf zf zf zf (Ll os _))
  laidOut zf rfl underlying4 rfl (fun ds hds=>by
   match ds,hds with
   | [d0,d1,d2,d3,d4,d5],_=>rfl) (QB enc)
theorem QA:Rows.StatuteVerifiesSaid:=
 OpenClaim.holds_of_wide 3 f3 rfl rfl rfl rfl rfl rfl rfl ⟨rfl,rfl,rfl,rfl,rfl⟩ rfl rfl rfl rfl rfl zf func3 KG
  (of_decide_eq_true zf) (by unfold Func.isWrapper;first|(rw [if_pos zq];kernel_rfl)|(rw [if_neg zq];exact⟨rfl,rfl⟩))
  (fun os started H enc _=>GY os started H enc)
end Go.Proofs.YtcfpoofhokbhlaaGreatDoor
