import Derived.Test.YtlheailebbngiaaGreatDoorLVal
import Derived.Test.YtlheailebbngiaaGreatDoorLBkB
import Derived.Test.YtlheailebbngiaaGreatDoorLK
set_option linter.all false
set_option maxHeartbeats 16000000
set_option maxRecDepth 1000000
namespace Go.Proofs.YtlheailebbngiaaGreatDoor
open Go.RowKit
def inV(o:Option Val):Value:=match o with|some x=>.tuple #[valV x,.bool true]|none=>.tuple #[valV .zero,.bool false]
theorem input2_none(v:Vw)(y:Value)(s:ByteArray)(w:World)(hr:VwRng v)(hy:YrAt w y v.years)(h:inpD s.toList=0∨v.ok=false):(Calls Tryz.prog 17 #[vwV v y,.string s] w fun r w'=>r= .returned (inV (inputV v s))∧w.Grows w'):=by
 have HF:Hid (inputV v s=none):=Lib.hid (by unfold inputV;rw [if_pos h])
 rw [HF.out]
 show Calls _ _ _ _ fun r w'=>r= .returned (.tuple #[.agg #[.int .i64 0,.bool false,.int .i64 0,.int .i64 0],.bool false])∧_
 have HY:=Lib.hid hy
 have HV:=Lib.hid (fun w' (hg:w.Grows w')=>ValidView2_any v y w' hr (HY.out.grows hg))
 have HI:=Lib.hid (fun w=>Input2_any s w)
 obtain⟨-,a,c,rfl,-⟩:=hy
 unfold vwV at HV ⊢
 clear hr
 by_cases hd:inpD s.toList=0
 ·rw [hd]at HI
  clear h hd
  go_enter Tryz.func17,Tryz.ntmps17
  go_wp2_with (go_at_call 47;refine(HI.out _).mono ?_;rintro e' w' ⟨rfl,rfl⟩)
  exact lz10
 ·rw [h.resolve_left hd]at HV
  rw [decide_eq_true hd]at HI
  clear h hd
  generalize inpD s.toList=D at HI
  have HG:Hid (∀o1 o2,w.Grows ((w.alloc o1).alloc o2)):=Lib.hid (fun o1 o2=>.of_below belB)
  go_enter Tryz.func17,Tryz.ntmps17
  go_wp2_with (first
   |(go_at_call 47;refine(HI.out _).mono ?_;rintro e' w' ⟨rfl,rfl⟩)
   |(go_at_call 20;refine(HV.out _ (HG.out _ _)).mono ?_;rintro e' w' ⟨rfl,bs,d,rfl⟩))
  exact lz10
theorem inp_cases{s:List UInt8}(h:inpD s≠0):s= [98,97,115,101]∨s= [97,103,101]∨s= [121,101,97,114]∨s= [99,104,105,108,100,114,101,110]∨s= [105,110,115,117,114,101,100]∨s= [119,111,114,107,101,100]∨s= [118,111,108,117,110,116,97,114,121]∨s= [115,101,114,118,105,99,101]∨s= [101,113,117,97,116,101,100]∨s= [114,97,105,115,105,110,103]∨s= [114,101,115,105,100,101,110,116]:=by
 unfold inpD at h
 split at h
 ·rename_i c;rcases c with c|c|c<;>simp [c]
 ·split at h
  ·rename_i c;rcases c with c|c|c|c|c|c|c<;>simp [c]
  ·split at h
   ·rename_i c;simp [c]
   ·exact absurd rfl h
theorem input2_some(v:Vw)(y:Value)(s:ByteArray)(w:World)(hr:VwRng v)(hy:YrAt w y v.years)(hd:inpD s.toList≠0)(hv:v.ok=true):(Calls Tryz.prog 17 #[vwV v y,.string s] w fun r w'=>r= .returned (inV (inputV v s))∧w.Grows w'):=by
 have HF:inputV v s=some (.num (inpD s.toList) (v.numF s.toList).1 (v.numF s.toList).2):=by unfold inputV;rw [if_neg (by rw [hv];simp [hd])]
 rw [HF]
 show Calls _ _ _ _ fun r w'=>r= .returned (.tuple #[.agg #[.int .i64 (inpD s.toList),.bool false,.int .i64 (v.numF s.toList).1,.int .i64 (v.numF s.toList).2],.bool true])∧_
 have HY:=Lib.hid hy
 have HV:=Lib.hid (fun w' (hg:w.Grows w')=>ValidView2_any v y w' hr (HY.out.grows hg))
 have HI:=Lib.hid (fun w=>Input2_any s w)
 have HN:=Lib.hid (fun m n d w=>evnum_any m n d w)
 unfold valV Val.num at HN
 dsimp only at HN
 obtain⟨-,a,c,rfl,-⟩:=hy
 unfold vwV at HV ⊢
 rw [hv]at HV
 have hc:=inp_cases hd
 clear hr HF hv
 have HG:Hid (∀o1 o2,w.Grows ((w.alloc o1).alloc o2)):=Lib.hid (fun o1 o2=>.of_below belB)
 rcases hc with hs|hs|hs|hs|hs|hs|hs|hs|hs|hs|hs
 all_goals
  rw [hs]at HI hd ⊢
  simp [inpD]at HI
  simp only [inpD,Vw.numF]
  simp
  clear hd
  go_enter Tryz.func17,Tryz.ntmps17
  go_wp2_with (first
   |(go_at_call 47;refine(HI.out _).mono ?_;rintro e' w' ⟨rfl,rfl⟩)
   |(go_at_call 20;refine(HV.out _ (HG.out _ _)).mono ?_;rintro e' w' ⟨rfl,bs,d,rfl⟩)
   |(go_at_call 48;refine(HN.out _ _ _ _).mono ?_;rintro e' w' ⟨rfl,bs2,d2,rfl⟩))
  exact lz10
end Go.Proofs.YtlheailebbngiaaGreatDoor
