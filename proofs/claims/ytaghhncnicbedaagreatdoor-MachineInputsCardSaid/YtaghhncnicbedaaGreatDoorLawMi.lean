/- MachineInputs: the walk. -/
import Derived.Test.YtaghhncnicbedaaGreatDoorAw9
import Derived.Test.YtaghhncnicbedaaGreatDoorMMchC
import Derived.Test.YtaghhncnicbedaaGreatDoorBTakeC
import Derived.Test.YtaghhncnicbedaaGreatDoorBGen
set_option linter.all false
namespace Go.Proofs.YtaghhncnicbedaaGreatDoor
open Go.RowKit
def InsP (w : World) (e : Ending) (w' : World) : Prop := ∃ g, e = .returned (.slice (some ⟨g, 0, none⟩) 11 11) ∧ w.Grows w' ∧ ∃ ty, w'.heap[g]? = some (.cells inpA ty (0, 0))
set_option maxHeartbeats 2000000 in
theorem Inputs2_any (w : World) : Calls Tryz.prog 27 #[] w (InsP w) := by
  go_enter Tryz.func27, Tryz.ntmps27
  go_wp2_with (go_at_call 50; refine (inputs2_any _).mono ?_; rintro e' w' ⟨rfl, bs, d, rfl⟩; unfold inpA)
  go_returns
  exact ⟨_, rfl, growsR, _, heap_new _ _ _ (by simp)⟩
set_option maxRecDepth 1000000 in
set_option maxHeartbeats 8000000 in
theorem mi_any (hInf : Hid InfSaid) (n : Int) (w : World) (ht : Tab w) : Calls Tryz.prog 10 #[.int .i64 n] w fun e w' => e = .returned (.bool true) ∧ w.Grows w' := by
  have HT := Lib.hid ht
  have HW := Lib.hid (fun W (hg : w.Grows W) => awake9_any hInf W (ht.grows hg))
  have HP := Lib.hid (fun W => Pick_any n 11 W (by omega))
  have hb := pick_bd n 11 (by omega)
  obtain ⟨m, hm⟩ : ∃ m : Nat, pick n 11 = m := ⟨(pick n 11).toNat, by omega⟩
  rw [hm] at HP hb
  have hm11 : m < 11 := by omega
  have hA := inpA_get m hm11
  have HM := Lib.hid hm11
  have HA := Lib.hid hA
  clear ht hInf hm hb hA hm11
  go_enter Tryz.func10, Tryz.ntmps10
  go_wp2_with (first
    | (go_at_call 27; refine (Inputs2_any _).mono ?_; rintro e' w' ⟨g, rfl, ⟨bs, d, rfl⟩, ty, hh⟩; have HH := Lib.hid hh; clear hh)
    | (go_at_call 28; refine (Names_any _).mono ?_; rintro e' w' ⟨rfl, rfl⟩)
    | (go_at_call 13; refine (HP.out _).mono ?_; rintro e' w' ⟨rfl, rfl⟩)
    | (go_at_call 23; refine (HW.out _ growsR).mono ?_; rintro e' w' ⟨rfl, bs3, d3, rfl⟩))
  refine cutW (fun W => w.Grows W ∧ (∃ ty, W.heap[g]? = some (.cells inpA ty (0, 0))) ∧ ∃ ty, W.heap[w.heap.size + bs.size]? = some (.cells inpA ty (0, 0))) ⟨growsR, ⟨_, (Below.heap_alloc _ _ _ (Array.getElem?_eq_some_iff.1 HH.out).1).trans HH.out⟩, _, heap_new _ _ _ (by simp)⟩ ?_
  intro W hW
  obtain ⟨hg, ⟨ty1, h1⟩, ty2, h2⟩ := hW
  generalize w.heap.size + bs.size = B at *
  have c1 := (cell_of_row W g m _ _ _ h1).trans HA.out
  have c2 := (cell_of_row W B m _ _ _ h2).trans HA.out
  have l1 := (Array.getElem?_eq_some_iff.1 h1).1
  have l2 := (Array.getElem?_eq_some_iff.1 h2).1
  have HG := Lib.hid hg
  have hm : (m : Int) < 11 := by have := HM.out; omega
  generalize inpNm m = nm at *
  clear h1 h2 hg HH HP
  refine TS.begin [19] (World.Grows W) (by kernel_rfl) (by kernel_rfl) grows_drew0 (fun hS => ?_)
  refine TS.one (i := 0) (by kernel_rfl) rfl (fun K1 hK1 => ?_)
  have HK1 := Lib.hid hK1
  clear hK1 hS
  dsimp only [List.getElem_toArray, List.getElem_cons_succ, List.getElem_cons_zero]
  go_simp
  go_at_call 23
  refine (HW.out _ (HG.out.trans' growsR)).mono ?_
  rintro e' w' ⟨rfl, bs3, d3, rfl⟩
  refine TS.go HK1.out growsR (fun hS => ?_)
  clear HK1 K1
  (try simp only [nS])
  refine TS.takeV (i := 1) (v := ?_) rfl (by kernel_rfl) (by kernel_rfl) (by kernel_rfl) (by decide) (fun _ _ _ h => h) rfl hS ?_ ?_
  rotate_left
  focus
    rintro wS ⟨gbS, gdS, rfl⟩
    go_simp
    rfl
  (try simp only [nS])
  refine TS.takeV (i := 2) (v := ?_) rfl (by kernel_rfl) (by kernel_rfl) (by kernel_rfl) (by decide) (fun _ _ _ h => h) rfl hS ?_ ?_
  rotate_left
  focus
    rintro wS ⟨gbS, gdS, rfl⟩
    go_simp
    rfl
  (try simp only [nS])
  refine TS.takeV (i := 3) (v := ?_) rfl (by kernel_rfl) (by kernel_rfl) (by kernel_rfl) (by decide) (fun _ _ _ h => h) rfl hS ?_ ?_
  rotate_left
  focus
    rintro wS ⟨gbS, gdS, rfl⟩
    go_simp
    rfl
  (try simp only [nS])
  refine TS.takeV (i := 4) (v := ?_) rfl (by kernel_rfl) (by kernel_rfl) (by kernel_rfl) (by decide) (fun _ _ _ h => h) rfl hS ?_ ?_
  rotate_left
  focus
    rintro wS ⟨gbS, gdS, rfl⟩
    go_simp
    rfl
  (try simp only [nS])
  refine TS.takeV (i := 5) (v := ?_) rfl (by kernel_rfl) (by kernel_rfl) (by kernel_rfl) (by decide) (fun _ _ _ h => h) rfl hS ?_ ?_
  rotate_left
  focus
    rintro wS ⟨gbS, gdS, rfl⟩
    go_simp
    rfl
  (try simp only [nS])
  refine TS.takeV (i := 6) (v := ?_) rfl (by kernel_rfl) (by kernel_rfl) (by kernel_rfl) (by decide) (fun _ _ _ h => h) rfl hS ?_ ?_
  rotate_left
  focus
    rintro wS ⟨gbS, gdS, rfl⟩
    go_simp
    rfl
  (try simp only [nS])
  refine TS.takeV (i := 7) (v := ?_) rfl (by kernel_rfl) (by kernel_rfl) (by kernel_rfl) (by decide) (fun _ _ _ h => h) rfl hS ?_ ?_
  rotate_left
  focus
    rintro wS ⟨gbS, gdS, rfl⟩
    go_simp
    rfl
  (try simp only [nS])
  refine TS.takeV (i := 8) (v := ?_) rfl (by kernel_rfl) (by kernel_rfl) (by kernel_rfl) (by decide) (fun _ _ _ h => h) rfl hS ?_ ?_
  rotate_left
  focus
    rintro wS ⟨gbS, gdS, rfl⟩
    go_simp
    rfl
  (try simp only [nS])
  refine TS.takeV (i := 9) (v := ?_) rfl (by kernel_rfl) (by kernel_rfl) (by kernel_rfl) (by decide) (fun _ _ _ h => h) rfl hS ?_ ?_
  rotate_left
  focus
    rintro wS ⟨gbS, gdS, rfl⟩
    go_simp
    rfl
  (try simp only [nS])
  refine TS.takeV (i := 10) (v := ?_) rfl (by kernel_rfl) (by kernel_rfl) (by kernel_rfl) (by decide) (fun _ _ _ h => h) rfl hS ?_ ?_
  rotate_left
  focus
    rintro wS ⟨gbS, gdS, rfl⟩
    go_simp
    rfl
  (try simp only [nS])
  refine TS.takeV (i := 11) (v := ?_) rfl (by kernel_rfl) (by kernel_rfl) (by kernel_rfl) (by decide) (fun _ _ _ h => h) rfl hS ?_ ?_
  rotate_left
  focus
    rintro wS ⟨gbS, gdS, rfl⟩
    go_simp
    rfl
  (try simp only [nS])
  refine TS.takeV (i := 12) (v := ?_) rfl (by kernel_rfl) (by kernel_rfl) (by kernel_rfl) (by decide) (fun _ _ _ h => h) rfl hS ?_ ?_
  rotate_left
  focus
    rintro wS ⟨gbS, gdS, rfl⟩
    go_simp
    rfl
  (try simp only [nS])
  refine TS.takeV (i := 13) (v := ?_) rfl (by kernel_rfl) (by kernel_rfl) (by kernel_rfl) (by decide) (fun _ _ _ h => h) rfl hS ?_ ?_
  rotate_left
  focus
    rintro wS ⟨gbS, gdS, rfl⟩
    go_simp
    rfl
  (try simp only [nS])
  refine TS.takeV (i := 14) (v := ?_) rfl (by kernel_rfl) (by kernel_rfl) (by kernel_rfl) (by decide) (fun _ _ _ h => h) rfl hS ?_ ?_
  rotate_left
  focus
    rintro wS ⟨gbS, gdS, rfl⟩
    go_simp
    rfl
  (try simp only [nS])
  refine TS.takeV (i := 15) (v := ?_) rfl (by kernel_rfl) (by kernel_rfl) (by kernel_rfl) (by decide) (fun _ _ _ h => h) rfl hS ?_ ?_
  rotate_left
  focus
    rintro wS ⟨gbS, gdS, rfl⟩
    go_simp
    rfl
  (try simp only [nS])
  refine TS.takeV (i := 16) (v := ?_) rfl (by kernel_rfl) (by kernel_rfl) (by kernel_rfl) (by decide) (fun _ _ _ h => h) rfl hS ?_ ?_
  rotate_left
  focus
    rintro wS ⟨gbS, gdS, rfl⟩
    go_simp
    rfl
  (try simp only [nS])
  refine TS.takeV (i := 17) (v := ?_) rfl (by kernel_rfl) (by kernel_rfl) (by kernel_rfl) (by decide) (fun _ _ _ h => h) rfl hS ?_ ?_
  rotate_left
  focus
    rintro wS ⟨gbS, gdS, rfl⟩
    go_simp
    rfl
  (try simp only [nS])
  refine TS.takeV (i := 18) (v := ?_) rfl (by kernel_rfl) (by kernel_rfl) (by kernel_rfl) (by decide) (fun _ _ _ h => h) rfl hS ?_ ?_
  rotate_left
  focus
    rintro wS ⟨gbS, gdS, rfl⟩
    go_simp
    rfl
  (try simp only [nS])
  refine TS.one (i := 19) (by kernel_rfl) rfl (fun K1 hK1 => ?_)
  go_simp
  refine hK1 _ _ (fun h => absurd (by decide) h) (TS.done (by kernel_rfl) ?_)
  clear hK1 K1 hS
  (try simp only [nS])
  go_wp2_with fail
  go_returns
  exact ⟨rfl, HG.out.trans' growsR⟩
end Go.Proofs.YtaghhncnicbedaaGreatDoor
