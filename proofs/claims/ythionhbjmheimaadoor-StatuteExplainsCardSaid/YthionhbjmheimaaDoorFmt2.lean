/- rational.Format: the text of a fraction. -/
import Derived.Test.YthionhbjmheimaaDoorLExpL
import Derived.Test.YthionhbjmheimaaDoorLDc3
set_option linter.all false
namespace Go.Proofs.YthionhbjmheimaaDoor
open Go.RowKit
set_option maxHeartbeats 2000000 in
theorem Format2_any (n d : Int) (w : World) (h1 : -9223372036854775808 ≤ n) (h2 : n ≤ 9223372036854775807) (h3 : -9223372036854775808 ≤ d) (h4 : d ≤ 9223372036854775807) (ht : Tab w) : Calls Tryd.prog 19 #[.agg #[.int .i64 n, .int .i64 d]] w fun e w' => e = .returned (.string (fracS n d)) ∧ w.Grows w' := by
  rw [← fmtS_frac]
  have HT := Lib.hid ht
  have HV := Lib.hid (fun w => Valid2_any n d w h1 h2 h3 h4)
  clear ht
  cases hv : vfrac n d
  · have HR : Hid (fmtS n d = ⟨#[]⟩) := Lib.hid (by unfold fmtS; rw [hv]; rfl)
    rw [hv] at HV
    go_enter Tryd.func19, Tryd.ntmps19
    go_wp2_with (go_at_call 35; (with_reducible refine (HV.out _).mono ?_); rintro e w' ⟨rfl, bs, dr, rfl⟩)
    go_returns
    exact ⟨by rw [HR.out]; rfl, .of_below (by (exact belB))⟩
  · have hb := vfrac_bd hv
    have HI : Hid (∀ w, Tab w → Calls Tryd.prog 36 #[.int .i64 n] w fun e w' => e = .returned (.string ⟨(Lib.itoa n).toArray⟩) ∧ w.Grows w') := Lib.hid (fun w h => Itoa_any n (by omega) (by omega) w h)
    have HJ : Hid (∀ w, Tab w → Calls Tryd.prog 36 #[.int .i64 d] w fun e w' => e = .returned (.string ⟨(Lib.itoa d).toArray⟩) ∧ w.Grows w') := Lib.hid (fun w h => Itoa_any d (by omega) (by omega) w h)
    have z1 := itoa_size (n := n) (by omega) (by omega)
    have z2 := itoa_size (n := d) (by omega) (by omega)
    have HR : Hid (fmtS n d = if d = 1 then ⟨(Lib.itoa n).toArray⟩ else ⟨(Lib.itoa n).toArray⟩ ++ (⟨#[47]⟩ ++ ⟨(Lib.itoa d).toArray⟩)) := Lib.hid (by unfold fmtS; rw [hv]; rfl)
    rw [HR.out]
    rw [hv] at HV
    clear HR
    generalize (⟨(Lib.itoa n).toArray⟩ : ByteArray) = s1 at *
    generalize (⟨(Lib.itoa d).toArray⟩ : ByteArray) = s2 at *
    have z0 : (⟨#[47]⟩ : ByteArray).size = 1 := rfl
    by_cases hd : d = 1
    · have HD := Lib.hid hd
      have hd1 : (d == 1) = true := by simpa using hd
      rw [if_pos hd]
      clear hd
      go_enter Tryd.func19, Tryd.ntmps19
      go_wp2_with (first | (go_at_call 35; (with_reducible refine (HV.out _).mono ?_); rintro e w' ⟨rfl, bs, dr, rfl⟩) | (go_at_call 36; (with_reducible refine (HI.out _ (HT.out.grows growsA)).mono ?_); rintro e w' ⟨rfl, bs2, dr2, rfl⟩))
      go_returns
      exact ⟨rfl, .of_below (by (exact belB))⟩
    · rw [if_neg hd]
      have hd1 : (d == 1) = false := by simpa using hd
      clear hd
      go_enter Tryd.func19, Tryd.ntmps19
      go_wp2_with (first | (go_at_call 35; (with_reducible refine (HV.out _).mono ?_); rintro e w' ⟨rfl, bs, dr, rfl⟩) | (go_at_call 36; (first | (with_reducible refine (HI.out _ (HT.out.grows growsA)).mono ?_) | (with_reducible refine (HJ.out _ (HT.out.grows growsA)).mono ?_)); rintro e w' ⟨rfl, bs2, dr2, rfl⟩))
      go_returns
      exact ⟨rfl, .of_below (by (exact belB))⟩
end Go.Proofs.YthionhbjmheimaaDoor
