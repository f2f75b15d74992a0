import Derived.Test.YteildlpchhlchaaGreatDoorRAw9X
import Derived.Test.YteildlpchhlchaaGreatDoorRFcMr
import Derived.Test.YteildlpchhlchaaGreatDoorCards
import Derived.Test.YteildlpchhlchaaGreatDoorTie
import Derived.SevenTiedAt
set_option linter.all false
set_option maxHeartbeats 16000000
set_option maxRecDepth 1000000
namespace Go.Proofs.YteildlpchhlchaaGreatDoor
open Go.Proofs.Tryz Tryz List
open Go.ChangeShapes Go.WideShapes Go.ChangeAt Go.RowKit
theorem Lt:gU:=fun S env e v ve w h hb ht hv hx=>MJ S env e v ve w h hb ht hv (yq (.inr hx))
theorem QE{H:Type}(enc:TypeId × Value->H):Gj enc prog 7 [47,22,75,36,3]:=by
 intro W base args ds p hL hval hA hfit;obtain⟨v0,vs0,d0,ds0,p0,q0,hargs,rfl,rfl,h0,r0⟩:=trodAll_cons hA;obtain⟨v1,vs1,d1,ds1,p1,q1,rfl,rfl,rfl,h1,r1⟩:=trodAll_cons r0;obtain⟨v2,vs2,d2,ds2,p2,q2,rfl,rfl,rfl,h2,r2⟩:=trodAll_cons r1;obtain⟨v3,vs3,d3,ds3,p3,q3,rfl,rfl,rfl,h3,r3⟩:=trodAll_cons r2;obtain⟨v4,vs4,d4,ds4,p4,q4,rfl,rfl,rfl,h4,r4⟩:=trodAll_cons r3;obtain⟨rfl,rfl,rfl⟩:=trodAll_nil r4;obtain rfl:args=#[v0,v1,v2,v3,v4]:=by cases args;simp_all
 obtain⟨ls,hI⟩:=Nk (hval 0 _ v0 rfl rfl) h0 (hfit 0 _ _ rfl rfl);obtain⟨gd,hG⟩:=Oq (hval 1 _ v1 rfl rfl) h1 (hfit 1 _ _ rfl rfl);obtain⟨ps,hP⟩:=KH (hval 2 _ v2 rfl rfl) h2;obtain⟨R,vd,vy,rfl,hd,hy⟩:=VwR.of_trod (hval 3 _ v3 rfl rfl) h3 (hfit 3 _ _ rfl rfl);obtain⟨sp,rfl,-,-,-⟩:=open_int underlying3 (hval 4 _ v4 rfl rfl) h4;exact(QF (yq Lt) ls gd ps R _ _ _ _ _ sp W hI hG hP hd hy (A7 hL)).mono fun e w' h=>⟨h.1,h.2.below⟩
theorem Ia(os:Os)(started:os.Started)(H:Type)(enc:TypeId × Value->H) :
 ReturnsInHanded {} checked os 7 .any (fun w args=>(Rows.machineRunsSpec.pre enc prog f7 [] false w args/\laidMetH prog iW w)/\sizedMet enc prog f7 (OpenSpec.ofChange Rows.machineRunsSpec) false w args) (Rows.machineRunsSpec.post enc prog f7 false true false false):=
 Lc (C:=checked) (s:=Rows.machineRunsSpec) own started zd func7
  (ChangeSpec.witness_at (enc:=enc) (C:=checked) (os:=os) (X:=fun w _=>laidMetH prog iW w) false (World.laidAll prog os iW) #[.slice none 0 0,.slice none 0 0,.slice none 0 0,.agg #[.int .i64 0,.int .i64 0,.int .i64 0,.int .i64 0,.int .i64 0,.slice none 0 0,.slice none 0 0],.int .i64 0] 8 (World.laidAll_os _ _ _) zd zd zd zd zd (Lg os _))
  laidOut zd rfl underlying4 rfl (fun ds hds=>by
   match ds,hds with
   | [d0,d1,d2,d3,d4],_=>rfl) (QE enc)
theorem QD:Rows.MachineRunsSaid:=
 OpenClaim.holds_of_wide 7 f7 rfl rfl rfl rfl rfl rfl rfl ⟨rfl,rfl,rfl,rfl,rfl⟩ rfl rfl rfl rfl rfl zd func7 KU
  (of_decide_eq_true zd) (by unfold Func.isWrapper;first|(rw [if_pos zt];kernel_rfl)|(rw [if_neg zt];exact⟨rfl,rfl⟩))
  (fun os started H enc _=>Ia os started H enc)
end Go.Proofs.YteildlpchhlchaaGreatDoor
