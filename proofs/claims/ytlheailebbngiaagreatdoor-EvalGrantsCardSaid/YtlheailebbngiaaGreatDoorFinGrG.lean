/- EvalGrants: for every input the law returns true, and its arguments read as they did; its tied card. No condition. -/
import Derived.Test.YtlheailebbngiaaGreatDoorGLawGr
import Derived.Test.YtlheailebbngiaaGreatDoorCards
import Derived.Test.YtlheailebbngiaaGreatDoorTie
import Derived.SevenTiedAt
set_option linter.all false
set_option maxHeartbeats 16000000
set_option maxRecDepth 1000000
namespace Go.Proofs.YtlheailebbngiaaGreatDoor
open Go.Proofs.Tryz List
open Go.ChangeShapes Go.WideShapes Go.ChangeAt Go.RowKit
theorem PK{H:Type}(enc:TypeId × Value->H):Fe enc prog 12 [72,28,3,3]:=by
 intro W base args ds p hL hval hA hfit;obtain⟨v0,vs0,d0,ds0,p0,q0,hargs,rfl,rfl,h0,r0⟩:=trodAll_cons hA;obtain⟨v1,vs1,d1,ds1,p1,q1,rfl,rfl,rfl,h1,r1⟩:=trodAll_cons r0;obtain⟨v2,vs2,d2,ds2,p2,q2,rfl,rfl,rfl,h2,r2⟩:=trodAll_cons r1;obtain⟨v3,vs3,d3,ds3,p3,q3,rfl,rfl,rfl,h3,r3⟩:=trodAll_cons r2;obtain⟨rfl,rfl,rfl⟩:=trodAll_nil r3;obtain rfl:args=#[v0,v1,v2,v3]:=by cases args;simp_all
 obtain⟨R,cs,rfl,hR⟩:=pJ.of_trod (hval 0 _ v0 rfl rfl) h0 (hfit 0 _ _ rfl rfl);obtain⟨P,vd,vy,rfl,hd,hy⟩:=VwR.of_trod (hval 1 _ v1 rfl rfl) h1 (hfit 1 _ _ rfl rfl);obtain⟨n,rfl,-,-,hw⟩:=open_int underlying3 (hval 2 _ v2 rfl rfl) h2;obtain⟨sp,rfl,-,-,-⟩:=open_int underlying3 (hval 3 _ v3 rfl rfl) h3;exact(PM (zh MV) cs R P _ _ n sp W hR hd hy (yZ hL)).mono fun e w' h=>⟨h.1,h.2.below⟩
theorem Gz(os:Os)(started:os.Started)(H:Type)(enc:TypeId × Value->H) :
 ReturnsInHanded {} checked os 12 .any (fun w args=>(Rows.evalGrantsSpec.pre enc prog f12 [] false w args/\laidMetH prog iX w)/\sizedMet enc prog f12 (OpenSpec.ofChange Rows.evalGrantsSpec) false w args) (Rows.evalGrantsSpec.post enc prog f12 false true false false):=
 JJ (C:=checked) (s:=Rows.evalGrantsSpec) own started zf func12
  (ChangeSpec.witness_at (enc:=enc) (C:=checked) (os:=os) (X:=fun w _=>laidMetH prog iX w) false (World.laidAll prog os iX) #[.agg #[.int .i64 0,.int .i64 0,.int .i64 0,.slice none 0 0,.slice none 0 0,.slice none 0 0,.slice none 0 0,.slice none 0 0,.slice none 0 0,.int .i64 0],.agg #[.int .i64 0,.int .i64 0,.int .i64 0,.int .i64 0,.int .i64 0,.slice none 0 0,.slice none 0 0],.int .i64 0,.int .i64 0] 8 (World.laidAll_os _ _ _) zf zf zf zf zf (JM os _))
  laidOut zf rfl underlying4 rfl (fun ds hds=>by
   match ds,hds with
   | [d0,d1,d2,d3],_=>rfl) (PK enc)
theorem PI:Rows.EvalGrantsSaid:=
 OpenClaim.holds_of_wide 12 f12 rfl rfl rfl rfl rfl rfl rfl ⟨rfl,rfl,rfl,rfl,rfl⟩ rfl rfl rfl rfl rfl zf func12 Ka
  (of_decide_eq_true zf) (by unfold Func.isWrapper;first|(rw [if_pos zq];kernel_rfl)|(rw [if_neg zq];exact⟨rfl,rfl⟩))
  (fun os started H enc _=>Gz os started H enc)
theorem J8:(f12.params.toList.all fun t=>!prog.wantsStandIn t)=true:=by kernel_rfl
theorem gr_proved:Rows.EvalGrantsCardSaid:=
 Claim7.holds_tied_plain_at .later [] [.data,.data,.data] true Rows.evalGrantsCard.stood.harness false
  PI (fun _ h=>by cases h) zf (fun _ h=>by cases h) evalGrants_row_tie rfl ⟨rfl,rfl⟩ zf rfl
  (fun f fn hf hfn=>by
   obtain rfl:f=12:=Option.some.inj ((show prog.funcNamed "pension/pensionlaw8.EvalGrants" =some 12 by kernel_rfl).symm.trans hf)|>.symm;obtain rfl:fn=f12:=(Option.some.inj (func12.symm.trans hfn)).symm
   exact⟨by kernel_rfl,fun j t ht=>by
    have hw:=all_eq_true.1 J8 t (List.mem_of_getElem? (by simpa using ht));have hw2:prog.wantsStandIn t=false:=by simpa using hw
    exact hw2⟩)
  zf
#print axioms gr_proved
end Go.Proofs.YtlheailebbngiaaGreatDoor
