import Derived.Test.YtfoefpoaomepbaaGreatDoorFKpP
import Derived.Test.YtfoefpoaomepbaaGreatDoorFFcCk
import Derived.Test.YtfoefpoaomepbaaGreatDoorCards
import Derived.Test.YtfoefpoaomepbaaGreatDoorTie
import Derived.SevenTiedAt
set_option linter.all false
set_option maxHeartbeats 16000000
set_option maxRecDepth 1000000
namespace Go.Proofs.YtfoefpoaomepbaaGreatDoor
open Go.ChangeShapes Go.WideShapes Go.ChangeAt Go.RowKit
theorem ck_law{H:Type}(enc:TypeId × Value→H):LawWalk enc Tryz.prog 4 [22,3,36]:=by
 intro W base args ds p hL hval hA hfit
 obtain⟨v0,vs0,d0,ds0,p0,q0,hargs,rfl,rfl,h0,r0⟩:=trodAll_cons hA
 obtain⟨v1,vs1,d1,ds1,p1,q1,rfl,rfl,rfl,h1,r1⟩:=trodAll_cons r0
 obtain⟨v2,vs2,d2,ds2,p2,q2,rfl,rfl,rfl,h2,r2⟩:=trodAll_cons r1
 obtain⟨rfl,rfl,rfl⟩:=trodAll_nil r2
 obtain rfl:args=#[v0,v1,v2]:=by cases args;simp_all
 obtain⟨zs,hl⟩:=ints_of (hval 0 _ v0 rfl rfl) h0 (hfit 0 _ _ rfl rfl)
 obtain⟨dim,rfl,-,-,-⟩:=open_int Tryz.underlying3 (hval 1 _ v1 rfl rfl) h1
 obtain⟨R,vd,vy,rfl,hd,hy⟩:=VwR.of_trod (hval 2 _ v2 rfl rfl) h2 (hfit 2 _ _ rfl rfl)
 exact(ck_any zs R _ vd vy dim W hl hd hy (tab_of_laid hL)).mono fun e w' h=>⟨h.1,h.2.below⟩
theorem ck_lifted(os:Os)(started:os.Started)(H:Type)(enc:TypeId × Value→H) :
 ReturnsInHanded {} Tryz.checked os 4 .any (fun w args=>(Rows.compileKeepsSpec.pre enc Tryz.prog Tryz.f4 [] false w args∧laidMetH Tryz.prog laidsX w)∧sizedMet enc Tryz.prog Tryz.f4 (OpenSpec.ofChange Rows.compileKeepsSpec) false w args) (Rows.compileKeepsSpec.post enc Tryz.prog Tryz.f4 false true false false):=
 law_lift (C:=Tryz.checked) (s:=Rows.compileKeepsSpec) own started (by kernel_rfl) Tryz.func4
  (ChangeSpec.witness_at (enc:=enc) (C:=Tryz.checked) (os:=os) (X:=fun w _=>laidMetH Tryz.prog laidsX w) false (World.laidAll Tryz.prog os laidsX) #[.slice none 0 0,.int .i64 0,.agg #[.int .i64 0,.int .i64 0,.int .i64 0,.int .i64 0,.int .i64 0,.slice none 0 0,.slice none 0 0]] 8 (World.laidAll_os _ _ _) (by kernel_rfl) (by kernel_rfl) (by kernel_rfl) (by kernel_rfl) (by kernel_rfl) (laidsMet os _))
  laidOut (by kernel_rfl) rfl Tryz.underlying4 rfl (fun ds hds=>by
   match ds,hds with
   | [d0,d1,d2],_=>rfl) (ck_law enc)
theorem ck_row:Rows.CompileKeepsSaid:=
 OpenClaim.holds_of_wide 4 Tryz.f4 rfl rfl rfl rfl rfl rfl rfl ⟨rfl,rfl,rfl,rfl,rfl⟩ rfl rfl rfl rfl rfl (by kernel_rfl) Tryz.func4 ck_facts
  (of_decide_eq_true (by kernel_rfl)) (by unfold Func.isWrapper;first|(rw [if_pos (by decide+kernel)];kernel_rfl)|(rw [if_neg (by decide+kernel)];exact⟨rfl,rfl⟩))
  (fun os started H enc _=>ck_lifted os started H enc)
end Go.Proofs.YtfoefpoaomepbaaGreatDoor
