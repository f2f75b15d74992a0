/- FormatDecimal of the program. -/
import Derived.Test.YtlheailebbngiaaGreatDoorQDc1
import Derived.Test.YtlheailebbngiaaGreatDoorQDc2
import Derived.Lib.ItoaLen
set_option linter.all false
namespace Go.Proofs.YtlheailebbngiaaGreatDoor
open Go.RowKit
def FdPost (n d m : Int) (w : World) (e : Ending) (w' : World) : Prop := ∃ s, e = .returned (.tuple #[.string s, .bool (decOk n d m)]) ∧ (decOk n d m = true → s.data.toList = dec2T n d m) ∧ w.Grows w'
theorem FdPost.no {n d m : Int} {w w' : World} (h : decOk n d m = false) (hw : w.Grows w') : FdPost n d m w (.returned (.tuple #[.string ⟨#[]⟩, .bool false])) w' :=
  ⟨⟨#[]⟩, by rw [h], fun k => (by rw [h] at k; cases k), hw⟩
theorem FdPost.yes {n d m : Int} {w w' : World} {s : ByteArray} (h : decOk n d m = true) (hs : s.data.toList = dec2T n d m) (hw : w.Grows w') : FdPost n d m w (.returned (.tuple #[.string s, .bool true])) w' :=
  ⟨s, by rw [h], fun _ => hs, hw⟩
/-- k digits behind the point are written, r is what is left. -/
def FdAt (n d : Int) (k : Nat) (l : List Int) (r : Int) (s : ByteArray) : Prop :=
  fdig d 4 (n % d) = (fdig d (4 - k) r).map (l ++ ·) ∧ l.length = k ∧ s.data.toList = Lib.decDigits (n / d).toNat ++ dotL l
theorem dotL_snoc {l : List Int} (h : l ≠ []) (x : Int) : dotL (l ++ [x]) = dotL l ++ [dgB x] := by
  unfold dotL
  rw [if_neg h, if_neg (by simp)]
  simp
theorem dotL_one (x : Int) : dotL [x] = [46, dgB x] := by unfold dotL; rw [if_neg (by simp)]; rfl
theorem dec_dg {x : Int} (h0 : 0 ≤ x) (h1 : x ≤ 9) : Lib.decDigits x.toNat = [dgB x] := by
  rw [Lib.decDigits, dif_pos (by omega)]; rfl
theorem app_list (a b : ByteArray) : (a ++ b).data.toList = a.data.toList ++ b.data.toList := by
  rw [ByteArray.data_append, Array.toList_append]
theorem fdig_more {d : Int} {f : Nat} {r : Int} (h : 0 < r) : fdig d (f + 1) r = (fdig d f (r * 10 % d)).map fun l => r * 10 / d :: l := by
  rw [fdig, if_neg (by omega)]
theorem FdAt.first {n d r : Int} {s : ByteArray} (h : FdAt n d 0 [] r s) (hr : 0 < r) (h0 : 0 ≤ r * 10 / d) (h1 : r * 10 / d ≤ 9) : FdAt n d 1 [r * 10 / d] (r * 10 % d) (s ++ ⟨#[46]⟩ ++ ⟨(Lib.decDigits (r * 10 / d).toNat).toArray⟩) := by
  obtain ⟨a, -, c⟩ := h
  refine ⟨?_, rfl, ?_⟩
  · rw [a, show 4 - 0 = 3 + 1 by rfl, fdig_more hr]
    cases fdig d 3 (r * 10 % d) <;> rfl
  · rw [app_list, app_list, c, dec_dg h0 h1, dotL_one]
    simp [dotL]
theorem FdAt.more {n d r : Int} {s : ByteArray} {k : Nat} {l : List Int} (h : FdAt n d k l r s) (hk : 0 < k) (hk4 : k < 4) (hr : 0 < r) (h0 : 0 ≤ r * 10 / d) (h1 : r * 10 / d ≤ 9) :
    FdAt n d (k + 1) (l ++ [r * 10 / d]) (r * 10 % d) (s ++ ⟨(Lib.decDigits (r * 10 / d).toNat).toArray⟩) := by
  obtain ⟨a, b, c⟩ := h
  refine ⟨?_, by simp [b], ?_⟩
  · rw [a, show 4 - k = (4 - (k + 1)) + 1 by omega, fdig_more hr]
    cases fdig d (4 - (k + 1)) (r * 10 % d) <;> simp
  · rw [app_list, c, dec_dg h0 h1, dotL_snoc (by intro e; rw [e] at b; simp at b; omega), List.append_assoc]
theorem FdAt.none4 {n d r : Int} {s : ByteArray} {l : List Int} (h : FdAt n d 4 l r s) (hr : 0 < r) : fdig d 4 (n % d) = none := by
  rw [h.1]; show (fdig d 0 r).map _ = none; rw [fdig, if_neg (by omega)]; rfl
theorem FdAt.some {n d r : Int} {s : ByteArray} {k : Nat} {l : List Int} (h : FdAt n d k l r s) (hr : r ≤ 0) : fdig d 4 (n % d) = some l := by
  rw [h.1]
  have : fdig d (4 - k) r = Option.some [] := by
    cases 4 - k with
    | zero => rw [fdig, if_pos hr]
    | succ f => rw [fdig, if_pos hr]
  rw [this]; simp
theorem dec_cmp {s : ByteArray} {n d m : Int} {l : List Int} (h1 : 1 ≤ d) (h2 : d ≤ 10000) (h3 : 0 ≤ n) (h4 : n ≤ 1000000000000000) (hf : fdig d 4 (n % d) = some l) (hs : s.data.toList = Lib.decDigits (n / d).toNat ++ dotL l ++ sufL m) :
    (decF s.data.toList = none ∧ decOk n d m = false) ∨ ∃ a b c, decF s.data.toList = some (a, b, c) ∧ ((a = n ∧ b = d ∧ c = m ∧ decOk n d m = true ∧ s.data.toList = dec2T n d m) ∨ (a ≠ n ∧ decOk n d m = false) ∨ (b ≠ d ∧ decOk n d m = false) ∨ (c ≠ m ∧ decOk n d m = false)) := by
  have hr := dec2_read (m := m) h1 h2 h3 h4 hf
  rw [← hs] at hr
  cases hd : decF s.data.toList with
  | none =>
    left
    refine ⟨rfl, ?_⟩
    rw [Bool.eq_false_iff]; intro k
    have := hr.2 k
    rw [hd] at this; cases this
  | some t =>
    right
    obtain ⟨a, b, c⟩ := t
    refine ⟨a, b, c, rfl, ?_⟩
    by_cases e1 : a = n
    · by_cases e2 : b = d
      · by_cases e3 : c = m
        · left
          refine ⟨e1, e2, e3, hr.1 (by rw [hd, e1, e2, e3]), ?_⟩
          unfold dec2T; rw [hf]; exact hs
        · right; right; right
          refine ⟨e3, ?_⟩
          rw [Bool.eq_false_iff]; intro k
          have := hr.2 k
          rw [hd] at this
          simp only [Option.some.injEq, Prod.mk.injEq] at this
          exact e3 this.2.2
      · right; right; left
        refine ⟨e2, ?_⟩
        rw [Bool.eq_false_iff]; intro k
        have := hr.2 k
        rw [hd] at this
        simp only [Option.some.injEq, Prod.mk.injEq] at this
        exact e2 this.2.1
    · right; left
      refine ⟨e1, ?_⟩
      rw [Bool.eq_false_iff]; intro k
      have := hr.2 k
      rw [hd] at this
      simp only [Option.some.injEq, Prod.mk.injEq] at this
      exact e1 this.1
set_option maxHeartbeats 8000000 in
theorem FormatDecimal2_any (n d m : Int) (w : World) (h1 : I64 n) (h2 : I64 d) (h3 : I64 m) (ht : Tab w) : Calls Tryz.prog 205 #[.agg #[.int .i64 n, .int .i64 d], .int .i64 m] w (FdPost n d m w) := by
  unfold I64 at h1 h2 h3
  by_cases c1 : d < 1
  · go_enter Tryz.func205, Tryz.ntmps205
    go_wp2_with fail
    go_returns
    exact FdPost.no (decOk_out (by omega)) (.of_below (by (exact belB)))
  by_cases c2 : 10000 < d
  · go_enter Tryz.func205, Tryz.ntmps205
    go_wp2_with fail
    go_returns
    exact FdPost.no (decOk_out (by omega)) (.of_below (by (exact belB)))
  by_cases c3 : n < 0
  · go_enter Tryz.func205, Tryz.ntmps205
    go_wp2_with fail
    go_returns
    exact FdPost.no (decOk_out (by omega)) (.of_below (by (exact belB)))
  by_cases c4 : (1000000000000000 : Int) < n
  · go_enter Tryz.func205, Tryz.ntmps205
    go_wp2_with fail
    go_returns
    exact FdPost.no (decOk_out (by omega)) (.of_below (by (exact belB)))
  have d0 : 1 ≤ d := by omega
  have d1 : d ≤ 10000 := by omega
  have n0 : 0 ≤ n := by omega
  have n1 : n ≤ 1000000000000000 := by omega
  clear c1 c2 c3 c4
  have hq0 : 0 ≤ n / d := Int.ediv_nonneg n0 (by omega)
  have hq1 : n / d ≤ n := Int.ediv_le_self _ n0
  have hr0 : 0 ≤ n % d := Int.emod_nonneg _ (by omega)
  have hr1 : n % d < d := Int.emod_lt_of_pos _ (by omega)
  have et : n.tdiv d = n / d := Int.tdiv_eq_ediv_of_nonneg n0
  have em : n.tmod d = n % d := Int.tmod_eq_emod_of_nonneg n0
  have dz : (d == 0) = false := by simp; omega
  have HT := Lib.hid ht
  have hi : Lib.itoa (n / d) = Lib.decDigits (n / d).toNat := by unfold Lib.itoa; rw [if_neg (by omega)]
  have HI : Hid (∀ w, Tab w → Calls Tryz.prog 211 #[.int .i64 (n / d)] w fun e w' => e = .returned (.string ⟨(Lib.decDigits (n / d).toNat).toArray⟩) ∧ w.Grows w') := Lib.hid (fun w h => by
    have := Itoa_any (n / d) (by omega) (by omega) w h
    rwa [hi] at this)
  have HS0 : Hid (FdAt n d 0 [] (n % d) ⟨(Lib.decDigits (n / d).toNat).toArray⟩) := Lib.hid ⟨by show _ = (fdig d 4 (n % d)).map _; simp, rfl, by simp [dotL]⟩
  have HZ0 : Hid ((⟨(Lib.decDigits (n / d).toNat).toArray⟩ : ByteArray).size ≤ 20) := Lib.hid (by
    show (Lib.decDigits (n / d).toNat).toArray.size ≤ 20
    rw [List.size_toArray, Lib.decDigits_length]
    exact Lib.nDigits_le20 _ (by omega))
  clear hi ht
  generalize (⟨(Lib.decDigits (n / d).toNat).toArray⟩ : ByteArray) = s0 at *
  go_enter Tryz.func205, Tryz.ntmps205
  go_wp2_with (go_at_call 211; (with_reducible refine (HI.out _ (HT.out.alloc _)).mono ?_); rintro e w' ⟨rfl, bs, dr, rfl⟩)
  go_loopw [6, 7, 8] (fun v6 v7 v8 wr => ∃ k : Nat, ∃ l : List Int, ∃ r : Int, ∃ s : ByteArray, k ≤ 4 ∧ v8 = .int .i64 k ∧ v7 = .int .i64 r ∧ v6 = .string s ∧ 0 ≤ r ∧ r < d ∧ (s.size : Int) ≤ 30 + 10 * k ∧ Hid (FdAt n d k l r s) ∧
    World.Grows (w.alloc (.cells #[.int .i64 n, .int .i64 d] 23)) wr) (fun _ _ v8 _ => 5 - (intOf v8).toNat)
  case atStart => exact ⟨0, [], _, _, by omega, rfl, rfl, rfl, hr0, hr1, by have := HZ0.out; omega, HS0, .of_below (by (exact belB))⟩
  case round =>
    obtain ⟨k, l, r, s, hk, rfl, rfl, rfl, r0, r1, hsz, HF, bs3, dr3, rfl⟩ := hrel
    clear HI
    by_cases hp : 0 < r
    · have x0 : 0 ≤ r * 10 / d := Int.ediv_nonneg (by omega) (by omega)
      have x1 : r * 10 / d ≤ 9 := by
        have : r * 10 / d < 10 := Int.ediv_lt_of_lt_mul (by omega) (by omega)
        omega
      have x2 : 0 ≤ r * 10 % d := Int.emod_nonneg _ (by omega)
      have x3 : r * 10 % d < d := Int.emod_lt_of_pos _ (by omega)
      have x4 : (r * 10).tdiv d = r * 10 / d := Int.tdiv_eq_ediv_of_nonneg (by omega)
      have x5 : (r * 10).tmod d = r * 10 % d := Int.tmod_eq_emod_of_nonneg (by omega)
      have HX : Hid _ := Lib.hid (fun w => Itoa_digit (r * 10 / d) x0 x1 w)
      have HXB := Lib.hid (And.intro x0 x1)
      obtain ⟨s9, hs9⟩ : ∃ s9, (⟨(Lib.decDigits (r * 10 / d).toNat).toArray⟩ : ByteArray) = s9 := ⟨_, rfl⟩
      have hz9 : s9.size = 1 := by rw [← hs9, dec_dg x0 x1]; rfl
      rw [hs9] at HX
      have HS9 := Lib.hid hs9
      clear hs9
      by_cases k0 : k = 0
      · subst k0
        have hl : l = [] := List.eq_nil_of_length_eq_zero HF.out.2.1
        subst hl
        go_wp2_with (go_at_call 211; (with_reducible refine (HX.out _).mono ?_); rintro e w' ⟨rfl, rfl⟩)
        go_roundw
        case rel => exact ⟨1, _, _, _, by omega, rfl, rfl, rfl, x2, x3, by
          rw [ByteArray.size_append, ByteArray.size_append, hz9]
          show ((s.size + 1 + 1 : Nat) : Int) ≤ _
          simp at hsz ⊢; omega, Lib.hid (by rw [← HS9.out]; exact HF.out.first hp HXB.out.1 HXB.out.2), .of_below (by (exact belB))⟩
        case measure => simp [intOf]
      · by_cases k4 : k = 4
        · subst k4
          have HN := Lib.hid (dec2_none (m := m) d0 d1 n0 n1 (HF.out.none4 hp))
          go_wp2_with fail
          go_returns
          exact FdPost.no HN.out (.of_below (by (exact belB)))
        · have kz : ((k : Int) == 0) = false := by simp; omega
          have k44 : ((k : Int) == 4) = false := by simp; omega
          go_wp2_with (go_at_call 211; (with_reducible refine (HX.out _).mono ?_); rintro e w' ⟨rfl, rfl⟩)
          go_roundw
          case rel => exact ⟨k + 1, _, _, _, by omega, by go_num, rfl, rfl, x2, x3, by
            rw [ByteArray.size_append, hz9]; omega, Lib.hid (by rw [← HS9.out]; exact HF.out.more (by omega) (by omega) hp HXB.out.1 HXB.out.2), .of_below (by (exact belB))⟩
          case measure => simp [intOf]; omega
    · clear HS0 HZ0
      have hsz2 : (s.size : Int) ≤ 70 := by omega
      by_cases m3 : m = 3
      · subst m3
        have HDEC := Lib.hid (dec_cmp (m := 3) (s := s ++ ⟨#[100]⟩) d0 d1 n0 n1 (HF.out.some (by omega)) (by rw [app_list, HF.out.2.2]; try rfl))
        have HD : Hid _ := Lib.hid (fun w => Decimal2_any (s ++ ⟨#[100]⟩) w (by rw [ByteArray.size_append]; unfold maxLen; show s.size + 1 ≤ _; omega))
        clear HF
        rcases HDEC.out with ⟨hn, hno⟩ | ⟨a, b, c, hs, ⟨rfl, rfl, rfl, hy, ht⟩ | ⟨h1, hno⟩ | ⟨h1, hno⟩ | ⟨h1, hno⟩⟩
        · rw [hn] at HD
          simp only [decFV] at HD
          have HO := Lib.hid hno
          clear hn hno HDEC
          go_wp2_with ((go_at_call 212; (with_reducible refine (HD.out _).mono ?_); rintro e w' ⟨rfl, bsd, drd, rfl⟩))
          go_returns
          exact FdPost.no HO.out (.of_below (by (exact belB)))
        · rw [hs] at HD
          simp only [decFV] at HD
          have HO := Lib.hid (And.intro hy ht)
          clear hs hy ht HDEC
          go_wp2_with ((go_at_call 212; (with_reducible refine (HD.out _).mono ?_); rintro e w' ⟨rfl, bsd, drd, rfl⟩))
          go_returns
          exact FdPost.yes HO.out.1 HO.out.2 (.of_below (by (exact belB)))
        · rw [hs] at HD
          simp only [decFV] at HD
          have HO := Lib.hid hno
          have q1 : (a == n) = false := by simpa using h1
          clear hs hno HDEC h1
          go_wp2_with ((go_at_call 212; (with_reducible refine (HD.out _).mono ?_); rintro e w' ⟨rfl, bsd, drd, rfl⟩))
          go_returns
          exact FdPost.no HO.out (.of_below (by (exact belB)))
        · rw [hs] at HD
          simp only [decFV] at HD
          have HO := Lib.hid hno
          have q1 : (b == d) = false := by simpa using h1
          clear hs hno HDEC h1
          go_wp2_with ((go_at_call 212; (with_reducible refine (HD.out _).mono ?_); rintro e w' ⟨rfl, bsd, drd, rfl⟩))
          all_goals
            go_returns
            exact FdPost.no HO.out (.of_below (by (exact belB)))
        · rw [hs] at HD
          simp only [decFV] at HD
          have HO := Lib.hid hno
          have q1 : (c == 3) = false := by simpa using h1
          clear hs hno HDEC h1
          go_wp2_with ((go_at_call 212; (with_reducible refine (HD.out _).mono ?_); rintro e w' ⟨rfl, bsd, drd, rfl⟩))
          all_goals
            go_returns
            exact FdPost.no HO.out (.of_below (by (exact belB)))
      · by_cases m4 : m = 4
        · subst m4
          have HDEC := Lib.hid (dec_cmp (m := 4) (s := s ++ ⟨#[109]⟩) d0 d1 n0 n1 (HF.out.some (by omega)) (by rw [app_list, HF.out.2.2]; try rfl))
          have HD : Hid _ := Lib.hid (fun w => Decimal2_any (s ++ ⟨#[109]⟩) w (by rw [ByteArray.size_append]; unfold maxLen; show s.size + 1 ≤ _; omega))
          clear HF
          rcases HDEC.out with ⟨hn, hno⟩ | ⟨a, b, c, hs, ⟨rfl, rfl, rfl, hy, ht⟩ | ⟨h1, hno⟩ | ⟨h1, hno⟩ | ⟨h1, hno⟩⟩
          · rw [hn] at HD
            simp only [decFV] at HD
            have HO := Lib.hid hno
            clear hn hno HDEC
            go_wp2_with ((go_at_call 212; (with_reducible refine (HD.out _).mono ?_); rintro e w' ⟨rfl, bsd, drd, rfl⟩))
            go_returns
            exact FdPost.no HO.out (.of_below (by (exact belB)))
          · rw [hs] at HD
            simp only [decFV] at HD
            have HO := Lib.hid (And.intro hy ht)
            clear hs hy ht HDEC
            go_wp2_with ((go_at_call 212; (with_reducible refine (HD.out _).mono ?_); rintro e w' ⟨rfl, bsd, drd, rfl⟩))
            go_returns
            exact FdPost.yes HO.out.1 HO.out.2 (.of_below (by (exact belB)))
          · rw [hs] at HD
            simp only [decFV] at HD
            have HO := Lib.hid hno
            have q1 : (a == n) = false := by simpa using h1
            clear hs hno HDEC h1
            go_wp2_with ((go_at_call 212; (with_reducible refine (HD.out _).mono ?_); rintro e w' ⟨rfl, bsd, drd, rfl⟩))
            go_returns
            exact FdPost.no HO.out (.of_below (by (exact belB)))
          · rw [hs] at HD
            simp only [decFV] at HD
            have HO := Lib.hid hno
            have q1 : (b == d) = false := by simpa using h1
            clear hs hno HDEC h1
            go_wp2_with ((go_at_call 212; (with_reducible refine (HD.out _).mono ?_); rintro e w' ⟨rfl, bsd, drd, rfl⟩))
            all_goals
              go_returns
              exact FdPost.no HO.out (.of_below (by (exact belB)))
          · rw [hs] at HD
            simp only [decFV] at HD
            have HO := Lib.hid hno
            have q1 : (c == 4) = false := by simpa using h1
            clear hs hno HDEC h1
            go_wp2_with ((go_at_call 212; (with_reducible refine (HD.out _).mono ?_); rintro e w' ⟨rfl, bsd, drd, rfl⟩))
            all_goals
              go_returns
              exact FdPost.no HO.out (.of_below (by (exact belB)))
        · have y3 : (m == 3) = false := by simpa using m3
          have y4 : (m == 4) = false := by simpa using m4
          have hsuf : sufL m = [] := by unfold sufL; rw [if_neg m3, if_neg m4]
          have hap : s.data.toList = s.data.toList ++ sufL m := by rw [hsuf, List.append_nil]
          have HAP := Lib.hid hap
          clear m3 m4 hsuf hap
          have HDEC := Lib.hid (dec_cmp (m := m) (s := s) d0 d1 n0 n1 (HF.out.some (by omega)) (by rw [HAP.out, HF.out.2.2]; try rfl))
          have HD : Hid _ := Lib.hid (fun w => Decimal2_any (s) w (by unfold maxLen; omega))
          clear HF
          rcases HDEC.out with ⟨hn, hno⟩ | ⟨a, b, c, hs, ⟨rfl, rfl, rfl, hy, ht⟩ | ⟨h1, hno⟩ | ⟨h1, hno⟩ | ⟨h1, hno⟩⟩
          · rw [hn] at HD
            simp only [decFV] at HD
            have HO := Lib.hid hno
            clear hn hno HDEC
            go_wp2_with ((go_at_call 212; (with_reducible refine (HD.out _).mono ?_); rintro e w' ⟨rfl, bsd, drd, rfl⟩))
            go_returns
            exact FdPost.no HO.out (.of_below (by (exact belB)))
          · rw [hs] at HD
            simp only [decFV] at HD
            have HO := Lib.hid (And.intro hy ht)
            clear hs hy ht HDEC
            go_wp2_with ((go_at_call 212; (with_reducible refine (HD.out _).mono ?_); rintro e w' ⟨rfl, bsd, drd, rfl⟩))
            go_returns
            exact FdPost.yes HO.out.1 HO.out.2 (.of_below (by (exact belB)))
          · rw [hs] at HD
            simp only [decFV] at HD
            have HO := Lib.hid hno
            have q1 : (a == n) = false := by simpa using h1
            clear hs hno HDEC h1
            go_wp2_with ((go_at_call 212; (with_reducible refine (HD.out _).mono ?_); rintro e w' ⟨rfl, bsd, drd, rfl⟩))
            go_returns
            exact FdPost.no HO.out (.of_below (by (exact belB)))
          · rw [hs] at HD
            simp only [decFV] at HD
            have HO := Lib.hid hno
            have q1 : (b == d) = false := by simpa using h1
            clear hs hno HDEC h1
            go_wp2_with ((go_at_call 212; (with_reducible refine (HD.out _).mono ?_); rintro e w' ⟨rfl, bsd, drd, rfl⟩))
            all_goals
              go_returns
              exact FdPost.no HO.out (.of_below (by (exact belB)))
          · rw [hs] at HD
            simp only [decFV] at HD
            have HO := Lib.hid hno
            have q1 : (c == m) = false := by simpa using h1
            clear hs hno HDEC h1
            go_wp2_with ((go_at_call 212; (with_reducible refine (HD.out _).mono ?_); rintro e w' ⟨rfl, bsd, drd, rfl⟩))
            all_goals
              go_returns
              exact FdPost.no HO.out (.of_below (by (exact belB)))
end Go.Proofs.YtlheailebbngiaaGreatDoor
