import Derived.Test.YtblkcgceefjmjaaGreatDoorVSpcP
import Derived.Test.YtblkcgceefjmjaaGreatDoorVFcSp
import Derived.Test.YtblkcgceefjmjaaGreatDoorCards
import Derived.Test.YtblkcgceefjmjaaGreatDoorTie
import Derived.SevenTiedAt
set_option linter.all false
set_option maxHeartbeats 16000000
set_option maxRecDepth 1000000
namespace Go.Proofs.YtblkcgceefjmjaaGreatDoor
open Go.Proofs.Tryz Tryz List
open Go.ChangeShapes Go.WideShapes Go.ChangeAt Go.RowKit
theorem gQ:InfSaid:=fun S env e v ve w h hb ht hv=>Infer2_any S env e v ve w h hb ht hv
theorem jg{H:Type}(enc:TypeId × Value->H):LawWalk enc prog 11 [47,47,22,36]:=by
 intro W base args ds p hL hval hA hfit;obtain⟨v0,vs0,d0,ds0,p0,q0,hargs,rfl,rfl,h0,r0⟩:=trodAll_cons hA;obtain⟨v1,vs1,d1,ds1,p1,q1,rfl,rfl,rfl,h1,r1⟩:=trodAll_cons r0;obtain⟨v2,vs2,d2,ds2,p2,q2,rfl,rfl,rfl,h2,r2⟩:=trodAll_cons r1;obtain⟨v3,vs3,d3,ds3,p3,q3,rfl,rfl,rfl,h3,r3⟩:=trodAll_cons r2;obtain⟨rfl,rfl,rfl⟩:=trodAll_nil r3;obtain rfl:args=#[v0,v1,v2,v3]:=by cases args;simp_all
 obtain⟨ls,hI⟩:=fu (hval 0 _ v0 rfl rfl) h0 (hfit 0 _ _ rfl rfl);obtain⟨lb,hM⟩:=fu (hval 1 _ v1 rfl rfl) h1 (hfit 1 _ _ rfl rfl);obtain⟨gd,hG⟩:=ints_of (hval 2 _ v2 rfl rfl) h2 (hfit 2 _ _ rfl rfl);obtain⟨R,vd,vy,rfl,hd,hy⟩:=VwR.of_trod (hval 3 _ v3 rfl rfl) h3 (hfit 3 _ _ rfl rfl);exact(jh (zh gQ) ls lb gd R _ _ _ _ _ W hI hM hG hd hy (tab_of_laid hL)).mono fun e w' h=>⟨h.1,h.2.below⟩
theorem fI(os:Os)(started:os.Started)(H:Type)(enc:TypeId × Value->H) :
 ReturnsInHanded {} checked os 11 .any (fun w args=>(Rows.machineSplicedSpec.pre enc prog f11 [] false w args/\laidMetH prog laidsX w)/\sizedMet enc prog f11 (OpenSpec.ofChange Rows.machineSplicedSpec) false w args) (Rows.machineSplicedSpec.post enc prog f11 false true false false):=
 law_lift (C:=checked) (s:=Rows.machineSplicedSpec) own started zd func11
  (ChangeSpec.witness_at (enc:=enc) (C:=checked) (os:=os) (X:=fun w _=>laidMetH prog laidsX w) false (World.laidAll prog os laidsX) #[.slice none 0 0,.slice none 0 0,.slice none 0 0,.agg #[.int .i64 0,.int .i64 0,.int .i64 0,.int .i64 0,.int .i64 0,.slice none 0 0,.slice none 0 0]] 8 (World.laidAll_os _ _ _) zd zd zd zd zd (laidsMet os _))
  laidOut zd rfl underlying4 rfl (fun ds hds=>by
   match ds,hds with
   | [d0,d1,d2,d3],_=>rfl) (jg enc)
theorem jf:Rows.MachineSplicedSaid:=
 OpenClaim.holds_of_wide 11 f11 rfl rfl rfl rfl rfl rfl rfl ⟨rfl,rfl,rfl,rfl,rfl⟩ rfl rfl rfl rfl rfl zd func11 sp_facts
  (of_decide_eq_true zd) (by unfold Func.isWrapper;first|(rw [if_pos zr];kernel_rfl)|(rw [if_neg zr];exact⟨rfl,rfl⟩))
  (fun os started H enc _=>fI os started H enc)
end Go.Proofs.YtblkcgceefjmjaaGreatDoor
