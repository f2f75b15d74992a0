/- MachineRaw: the walk. -/
import Derived.Test.YtaghhncnicbedaaGreatDoorAw9
import Derived.Test.YtaghhncnicbedaaGreatDoorRvVM
import Derived.Test.YtaghhncnicbedaaGreatDoorMMArg
import Derived.Test.YtaghhncnicbedaaGreatDoorMchX
set_option linter.all false
namespace Go.Proofs.YtaghhncnicbedaaGreatDoor
open Go.RowKit
set_option maxRecDepth 1000000 in
set_option maxHeartbeats 8000000 in
theorem rw_any (hInf : Hid InfSaid) (l : List Ins) (sl : List ByteArray) (vi vs : Value) (w : World) (hI : InsRaw w vi l) (hS : SlRaw w vs sl) (ht : Tab w) :
    Calls Tryz.prog 5 #[.agg #[vi, vs]] w fun e w' => e = .returned (.bool true) ∧ w.Grows w' := by
  have hI0 := hI
  have hS0 := hS
  obtain ⟨ai, ci, rfl, -⟩ := hI
  obtain ⟨-, as', cs', -, rfl, -⟩ := hS
  by_cases h1 : 60 < l.length
  · have h2 : (60 : Int) < (l.length : Int) := by omega
    clear hI0 hS0 hInf ht
    go_enter Tryz.func5, Tryz.ntmps5
    go_wp2_with fail
    go_returns
    exact ⟨rfl, growsR⟩
  have h2 : ¬ (60 : Int) < (l.length : Int) := by omega
  by_cases h3 : 20 < sl.length
  · have h4 : (20 : Int) < (sl.length : Int) := by omega
    clear hI0 hS0 hInf ht
    go_enter Tryz.func5, Tryz.ntmps5
    go_wp2_with fail
    go_returns
    exact ⟨rfl, growsR⟩
  have h4 : ¬ (20 : Int) < (sl.length : Int) := by omega
  have hIA : InsAt w _ l := hI0.at (by omega)
  have hSA : SlAt w _ sl := hS0.at (by omega)
  have HA := Lib.hid (fun W (hg : w.Grows W) => VerifyM_any hInf l sl _ _ W (hIA.grows hg) (hSA.grows hg) (ht.grows hg))
  have HB := Lib.hid (fun W (hg : w.Grows W) => VerifyR_any l sl _ _ W (hIA.grows hg) (hSA.grows hg))
  have HW := Lib.hid (fun W (hg : w.Grows W) => awake9_any hInf W (ht.grows hg))
  rw [ver_same] at HA
  unfold VrfP at HA HB
  generalize verB l sl = r at *
  obtain ⟨d, c⟩ := r
  dsimp only at HA HB
  clear hI0 hS0 hInf ht hIA hSA h1 h3
  go_enter Tryz.func5, Tryz.ntmps5
  go_wp2_with (first
    | (go_at_call 21; refine (HA.out _ growsR).mono ?_; rintro e' w' ⟨rfl, bs, d1, rfl⟩)
    | (go_at_call 22; refine (HB.out _ growsR).mono ?_; rintro e' w' ⟨rfl, bs2, d2, rfl⟩)
    | (go_at_call 23; refine (HW.out _ growsR).mono ?_; rintro e' w' ⟨rfl, bs3, d3, rfl⟩))
  go_returns
  exact ⟨rfl, growsR⟩
end Go.Proofs.YtaghhncnicbedaaGreatDoor
