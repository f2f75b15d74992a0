/- EvalReduces: for every input the law returns true, and its arguments read as they did; its tied card. No condition. -/
import Derived.Test.YtlheailebbngiaaGreatDoorRReA
import Derived.Test.YtlheailebbngiaaGreatDoorCards
import Derived.Test.YtlheailebbngiaaGreatDoorTie
import Derived.SevenTiedAt
set_option linter.all false
set_option maxHeartbeats 16000000
set_option maxRecDepth 1000000
namespace Go.Proofs.YtlheailebbngiaaGreatDoor
open Go.Proofs.Tryz List
open Go.ChangeShapes Go.WideShapes Go.ChangeAt Go.RowKit
theorem PX{H:Type}(enc:TypeId × Value->H):Aj enc prog 11 [72,28,3]:=by
 intro W base args ds p hL hval hA hfit;obtain⟨v0,vs0,d0,ds0,p0,q0,hargs,rfl,rfl,h0,r0⟩:=trodAll_cons hA;obtain⟨v1,vs1,d1,ds1,p1,q1,rfl,rfl,rfl,h1,r1⟩:=trodAll_cons r0;obtain⟨v2,vs2,d2,ds2,p2,q2,rfl,rfl,rfl,h2,r2⟩:=trodAll_cons r1;obtain⟨rfl,rfl,rfl⟩:=trodAll_nil r2;obtain rfl:args=#[v0,v1,v2]:=by cases args;simp_all
 obtain⟨R,cs,rfl,hR⟩:=lL.of_trod (hval 0 _ v0 rfl rfl) h0 (hfit 0 _ _ rfl rfl);obtain⟨P,vd,vy,rfl,hd,hy⟩:=VwR.of_trod (hval 1 _ v1 rfl rfl) h1 (hfit 1 _ _ rfl rfl);obtain⟨n,rfl,-,-,hw⟩:=open_int underlying3 (hval 2 _ v2 rfl rfl) h2;exact(PZ (zh E5) cs R P _ _ n W hR hd hy (rz hL)).mono fun e w' h=>⟨h.1,h.2.below⟩
theorem Gi(os:Os)(started:os.Started)(H:Type)(enc:TypeId × Value->H) :
 ReturnsInHanded {} checked os 11 .any (fun w args=>(Rows.evalReducesSpec.pre enc prog f11 [] false w args/\laidMetH prog gG w)/\sizedMet enc prog f11 (OpenSpec.ofChange Rows.evalReducesSpec) false w args) (Rows.evalReducesSpec.post enc prog f11 false true false false):=
 Be (C:=checked) (s:=Rows.evalReducesSpec) own started zf func11
  (ChangeSpec.witness_at (enc:=enc) (C:=checked) (os:=os) (X:=fun w _=>laidMetH prog gG w) false (World.laidAll prog os gG) #[.agg #[.int .i64 0,.int .i64 0,.int .i64 0,.slice none 0 0,.slice none 0 0,.slice none 0 0,.slice none 0 0,.slice none 0 0,.slice none 0 0,.int .i64 0],.agg #[.int .i64 0,.int .i64 0,.int .i64 0,.int .i64 0,.int .i64 0,.slice none 0 0,.slice none 0 0],.int .i64 0] 8 (World.laidAll_os _ _ _) zf zf zf zf zf (Bg os _))
  laidOut zf rfl underlying4 rfl (fun ds hds=>by
   match ds,hds with
   | [d0,d1,d2],_=>rfl) (PX enc)
theorem PV:Rows.EvalReducesSaid:=
 OpenClaim.holds_of_wide 11 f11 rfl rfl rfl rfl rfl rfl rfl ⟨rfl,rfl,rfl,rfl,rfl⟩ rfl rfl rfl rfl rfl zf func11 JZ
  (of_decide_eq_true zf) yG
  (fun os started H enc _=>Gi os started H enc)
theorem JY:(f11.params.toList.all fun t=>!prog.wantsStandIn t)=true:=by kernel_rfl
theorem re_proved:Rows.EvalReducesCardSaid:=
 Claim7.holds_tied_plain_at .later [] [.data,.data,.data] true Rows.evalReducesCard.stood.harness false
  PV (fun _ h=>by cases h) zf (fun _ h=>by cases h) evalReduces_row_tie rfl ⟨rfl,rfl⟩ zf rfl
  (fun f fn hf hfn=>by
   obtain rfl:f=11:=Option.some.inj ((show prog.funcNamed "pension/pensionlaw8.EvalReduces" =some 11 by kernel_rfl).symm.trans hf)|>.symm;obtain rfl:fn=f11:=(Option.some.inj (func11.symm.trans hfn)).symm
   exact⟨by kernel_rfl,fun j t ht=>by
    have hw:=all_eq_true.1 JY t (List.mem_of_getElem? (by simpa using ht));have hw2:prog.wantsStandIn t=false:=by simpa using hw
    exact hw2⟩)
  zf
#print axioms re_proved
end Go.Proofs.YtlheailebbngiaaGreatDoor
