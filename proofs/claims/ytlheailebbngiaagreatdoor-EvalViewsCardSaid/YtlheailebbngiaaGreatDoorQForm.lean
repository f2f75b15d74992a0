/- Trees with the right fields. -/
import Derived.Test.YtlheailebbngiaaGreatDoorQDec
set_option linter.all false
namespace Go.Proofs.YtlheailebbngiaaGreatDoor
open Go.RowKit

theorem Calls.quiet_eq {P : Program} {f : FuncId} {args : Array Value} {w : World} {n : Nat} {v : Value}
    (h : Calls P f args (w.drewN n) fun e w' => e = .returned v ∧ w.drewN n = w') : Calls P f args (w.drewN n) fun e w'' => e = .returned v ∧ ∃ m, w'' = w.drewN m :=
  h.mono fun _ _ ⟨he, hm⟩ => ⟨he, n, hm.symm⟩
theorem RepE.form0 {S : Nat → Prop} {w : World} {e : Ex} {v : Value} (h : RepE S w e v) : ∃ a cap, v = .slice a e.args.length cap := by cases h; exact ⟨_, _, rfl⟩
mutual
def formedB : Ex → Bool
  | .mk o n d m s l => decide ((l.length : Int) = argsN o) &&
      (if o = 1 then decOk n d m && s.toList.isEmpty
       else if o = 2 then decide (n = 0) && decide (d = 0) && decide (m = 0) && nameB s
       else if o = 3 then decide (m = 0) && s.toList.isEmpty && decide (d = 1) && decide (1 ≤ n) && decide (n ≤ 45)
       else formedsB l && (decide (n = 0) && decide (d = 0) && decide (m = 0) && s.toList.isEmpty))
def formedsB : List Ex → Bool
  | [] => true
  | e :: r => formedB e && formedsB r
end
theorem formedB_eq (e : Ex) : formedB e = (decide ((e.args.length : Int) = argsN e.op) &&
      (if e.op = 1 then decOk e.num e.den e.dim && e.name.toList.isEmpty
       else if e.op = 2 then decide (e.num = 0) && decide (e.den = 0) && decide (e.dim = 0) && nameB e.name
       else if e.op = 3 then decide (e.dim = 0) && e.name.toList.isEmpty && decide (e.den = 1) && decide (1 ≤ e.num) && decide (e.num ≤ 45)
       else formedsB e.args && (decide (e.num = 0) && decide (e.den = 0) && decide (e.dim = 0) && e.name.toList.isEmpty))) := by
  cases e; rw [formedB]; rfl
theorem formedsB_take (l : List Ex) (k : Nat) (h : k < l.length) : formedsB (l.take (k + 1)) = (formedsB (l.take k) && formedB (l.getD k default)) := by
  induction l generalizing k with
  | nil => simp at h
  | cons e r ih =>
    cases k with
    | zero => simp [formedsB]
    | succ k => simp only [List.take_succ_cons, formedsB, List.getD_cons_succ]; rw [ih k (by simpa using h), Bool.and_assoc]
theorem formedsB_no (l : List Ex) (k : Nat) (h : k < l.length) (hf : formedB (l.getD k default) = false) : formedsB l = false := by
  induction l generalizing k with
  | nil => simp at h
  | cons e r ih =>
    cases k with
    | zero => simp only [List.getD_cons_zero] at hf; simp [formedsB, hf]
    | succ k => simp only [List.getD_cons_succ] at hf; simp [formedsB, ih k (by simpa using h) hf]

set_option maxHeartbeats 2000000 in
set_option maxRecDepth 100000 in
theorem formed_len
    (S : Nat → Prop) (e : Ex) (v : Value) (w : World) (h : RepE S w e v)
    (hne : ¬ (e.args.length : Int) = argsN e.op) : (Calls Tryz.prog 71 #[exV e v] w fun r w' => r = .returned (.bool (formedB e)) ∧ w.Grows w') := by
  have HF : Hid (formedB e = false) := Lib.hid (by rw [formedB_eq, decide_eq_false hne, Bool.false_and])
  have hr := h.rng
  obtain ⟨a, cap, hv⟩ : ∃ a cap, v = .slice a e.args.length cap := by cases h; exact ⟨_, _, rfl⟩
  subst hv
  clear h
  obtain ⟨on, od⟩ := hr.num
  obtain ⟨pn, pd⟩ := hr.den
  have hsz := hr.name
  clear hr
  have h1 : ((e.args.length : Int) != argsN e.op) = true := by simpa using hne
  clear hne
  go_enter Tryz.func71, Tryz.ntmps71
  go_wp2_with fail
  go_quiet ((go_at_call 104; exact Calls.quiet_eq (Args_any _ _)))
  go_wp2_with fail
  go_returns
  exact ⟨ret_bool HF.out.symm, .of_below (by (exact belB))⟩
set_option maxHeartbeats 2000000 in
set_option maxRecDepth 100000 in
theorem formed_lit
    (S : Nat → Prop) (e : Ex) (v : Value) (w : World) (h : RepE S w e v)
    (hle : (e.args.length : Int) = argsN e.op) (ho : e.op = 1) : (Calls Tryz.prog 71 #[exV e v] w fun r w' => r = .returned (.bool (formedB e)) ∧ w.Grows w') := by
  have HF : Hid (formedB e = (decOk e.num e.den e.dim && e.name.toList.isEmpty)) := Lib.hid (by rw [formedB_eq, decide_eq_true hle, Bool.true_and, if_pos ho])
  have hr := h.rng
  obtain ⟨a, cap, hv⟩ : ∃ a cap, v = .slice a e.args.length cap := by cases h; exact ⟨_, _, rfl⟩
  subst hv
  clear h
  obtain ⟨on, od⟩ := hr.num
  obtain ⟨pn, pd⟩ := hr.den
  have hsz := hr.name
  clear hr
  have h1 : ((e.args.length : Int) != argsN 1) = false := by rw [ho] at hle; simpa using hle
  clear hle
  go_enter Tryz.func71, Tryz.ntmps71
  go_wp2_with fail
  go_quiet ((go_at_call 104; exact Calls.quiet_eq (Args_any _ _)))
  go_wp2_with (go_at_call 121; refine (FormatDecimal_any _ _ _ _ (by omega) (by omega) (by omega) (by omega)).mono ?_; rintro e' w' ⟨rfl, bs, d, rfl⟩; simp only [decV])
  all_goals
    go_returns
    exact ⟨ret_bool (by rw [HF.out]; simp [*]), .of_below (by (exact belB))⟩
set_option maxHeartbeats 2000000 in
set_option maxRecDepth 100000 in
theorem formed_name
    (S : Nat → Prop) (e : Ex) (v : Value) (w : World) (h : RepE S w e v)
    (hle : (e.args.length : Int) = argsN e.op) (ho : e.op = 2) : (Calls Tryz.prog 71 #[exV e v] w fun r w' => r = .returned (.bool (formedB e)) ∧ w.Grows w') := by
  have HF : Hid (formedB e = (decide (e.num = 0) && decide (e.den = 0) && decide (e.dim = 0) && nameB e.name)) := Lib.hid (by rw [formedB_eq, decide_eq_true hle, Bool.true_and, if_neg (by omega), if_pos ho])
  have hr := h.rng
  obtain ⟨a, cap, hv⟩ : ∃ a cap, v = .slice a e.args.length cap := by cases h; exact ⟨_, _, rfl⟩
  subst hv
  clear h
  obtain ⟨on, od⟩ := hr.num
  obtain ⟨pn, pd⟩ := hr.den
  have hsz := hr.name
  clear hr
  have h1 : ((e.args.length : Int) != argsN 2) = false := by rw [ho] at hle; simpa using hle
  clear hle
  have hm : e.name.size ≤ maxLen := by unfold maxLen; omega
  have HM := Lib.hid hm
  clear hm
  go_enter Tryz.func71, Tryz.ntmps71
  go_wp2_with fail
  go_quiet ((go_at_call 104; exact Calls.quiet_eq (Args_any _ _)))
  go_wp2_with (go_at_call 89; refine (IsName_any _ _ HM.out).mono ?_; rintro e' w' ⟨rfl, rfl⟩)
  all_goals
    go_returns
    exact ⟨ret_bool (by rw [HF.out]; simp [*]), .of_below (by (exact belB))⟩
set_option maxHeartbeats 2000000 in
set_option maxRecDepth 100000 in
theorem formed_best
    (S : Nat → Prop) (e : Ex) (v : Value) (w : World) (h : RepE S w e v)
    (hle : (e.args.length : Int) = argsN e.op) (ho : e.op = 3) : (Calls Tryz.prog 71 #[exV e v] w fun r w' => r = .returned (.bool (formedB e)) ∧ w.Grows w') := by
  have HF : Hid (formedB e = (decide (e.dim = 0) && e.name.toList.isEmpty && decide (e.den = 1) && decide (1 ≤ e.num) && decide (e.num ≤ 45))) := Lib.hid (by rw [formedB_eq, decide_eq_true hle, Bool.true_and, if_neg (by omega), if_neg (by omega), if_pos ho])
  have hr := h.rng
  obtain ⟨a, cap, hv⟩ : ∃ a cap, v = .slice a e.args.length cap := by cases h; exact ⟨_, _, rfl⟩
  subst hv
  clear h
  obtain ⟨on, od⟩ := hr.num
  obtain ⟨pn, pd⟩ := hr.den
  have hsz := hr.name
  clear hr
  have h1 : ((e.args.length : Int) != argsN 3) = false := by rw [ho] at hle; simpa using hle
  clear hle
  go_enter Tryz.func71, Tryz.ntmps71
  go_wp2_with fail
  go_quiet ((go_at_call 104; exact Calls.quiet_eq (Args_any _ _)))
  go_wp2_with fail
  all_goals
    go_returns
    exact ⟨ret_bool (by rw [HF.out]; first | (simp [*]; done) | (simp [*]; intros; omega)), .of_below (by (exact belB))⟩
/-- The operands up to a place have the right fields. -/
def fT (e : Ex) (k : Nat) : Bool := formedsB (e.args.take k)
theorem fT_zero (e : Ex) : fT e 0 = true := rfl
theorem fT_succ (e : Ex) (k : Nat) (h : k < e.args.length) (h1 : fT e k = true) (h2 : formedB (e.arg k) = true) : fT e (k + 1) = true := by
  unfold fT at *; rw [formedsB_take _ _ h, h1, Bool.true_and]; exact h2
set_option maxHeartbeats 4000000 in
set_option maxRecDepth 100000 in
theorem formed_walk (S : Nat → Prop) (n : Nat) : ∀ (e : Ex), e.size ≤ n → ∀ (v : Value) (w : World), RepE S w e v → (Calls Tryz.prog 71 #[exV e v] w fun r w' => r = .returned (.bool (formedB e)) ∧ w.Grows w') := by
  induction n with
  | zero => intro e he; have := e.size_pos; omega
  | succ n ih =>
    intro e he v w h
    by_cases hle : (e.args.length : Int) = argsN e.op
    · by_cases o1 : e.op = 1
      · exact formed_lit S e v w h hle o1
      · by_cases o2 : e.op = 2
        · exact formed_name S e v w h hle o2
        · by_cases o3 : e.op = 3
          · exact formed_best S e v w h hle o3
          · have HF : Hid (formedB e = (formedsB e.args && (decide (e.num = 0) && decide (e.den = 0) && decide (e.dim = 0) && e.name.toList.isEmpty))) := Lib.hid (by rw [formedB_eq, decide_eq_true hle, Bool.true_and, if_neg o1, if_neg o2, if_neg o3])
            have IH := Lib.hid ih
            clear ih
            have h1 : ((e.args.length : Int) != argsN e.op) = false := by simpa using hle
            have p1 : (e.op == 1) = false := by simpa using o1
            have p2 : (e.op == 2) = false := by simpa using o2
            have p3 : (e.op == 3) = false := by simpa using o3
            clear hle o1 o2 o3
            cases h with
            | mk _ a cap vs hr hc hs =>
              have hlen := hr.len
              have Hs := Lib.hid hs
              have He := Lib.hid he
              have Hc := Lib.hid hc
              clear hr hs he hc
              generalize hz : (decide (e.num = 0) && decide (e.den = 0) && decide (e.dim = 0) && e.name.toList.isEmpty) = z at HF
              have HZ := Lib.hid hz
              clear hz
              go_enter Tryz.func71, Tryz.ntmps71
              go_wp2_with fail
              go_quiet ((go_at_call 104; exact Calls.quiet_eq (Args_any _ _)))
              go_wp2_with fail
              all_goals
                go_loopw [6] (fun v6 wr => ∃ k : Nat, k ≤ e.args.length ∧ v6 = .int .i64 k ∧ Hid (fT e k = true) ∧
                  ∃ x1 x2 x3 : Int, World.Grows (w.alloc (.cells #[.int .i64 e.op, .int .i64 x1, .int .i64 x2, .int .i64 x3, .string e.name, .slice a e.args.length cap] 51)) wr) (fun v6 _ => e.args.length - (intOf v6).toNat)
                case atStart => exact ⟨0, by omega, rfl, Lib.hid (fT_zero e), _, _, _, .of_below (by (exact belB))⟩
                case round =>
                  obtain ⟨k, hk, rfl, HT, x1, x2, x3, bs, d, rfl⟩ := hrel
                  by_cases hlt : k < e.args.length
                  · rcases Hc.out with h0 | ⟨b, off, rfl, hS, hbw, hx⟩
                    · omega
                    · obtain ⟨y0, y1, y2, y3, y4, y5⟩ := hx k hlt
                      clear hx
                      have hlt1 : (k : Int) < (e.args.length : Int) := by omega
                      have HA := Lib.hid (e.size_arg k hlt)
                      cases hb : formedB (e.arg k)
                      · have HB := Lib.hid hb
                        clear hb
                        go_wp2_with fail
                        refine (IH.out (e.arg k) (by have := He.out; have := HA.out; omega) (vs k) _ (((Hs.out k hlt).alloc _).grow _ _)).mono ?_
                        rintro r w' ⟨rfl, bs2, d2, rfl⟩
                        simp only [HB.out]
                        go_wp2_with fail
                        go_returns
                        exact ⟨ret_bool (by rw [HF.out, formedsB_no _ k hlt HB.out, Bool.false_and]), .of_below (by (exact belB))⟩
                      · have HB := Lib.hid hb
                        clear hb
                        go_wp2_with fail
                        refine (IH.out (e.arg k) (by have := He.out; have := HA.out; omega) (vs k) _ (((Hs.out k hlt).alloc _).grow _ _)).mono ?_
                        rintro r w' ⟨rfl, bs2, d2, rfl⟩
                        simp only [HB.out]
                        go_wp2_with fail
                        go_roundw
                        case rel => exact ⟨k + 1, by omega, by go_num, Lib.hid (fT_succ e k hlt HT.out HB.out), x1, x2, x3, .of_below (by (exact belB))⟩
                        case measure => simp [intOf]; omega
                  · obtain rfl : k = e.args.length := by omega
                    have HT2 : Hid (formedsB e.args = true) := Lib.hid (by have := HT.out; unfold fT at this; rw [List.take_length] at this; exact this)
                    clear HT
                    go_wp2_with fail
                    go_returns
                    exact ⟨ret_bool (by rw [HF.out, HT2.out, Bool.true_and, ← HZ.out]; simp [*]), .of_below (by (exact belB))⟩
    · exact formed_len S e v w h hle

theorem formed_any (S : Nat → Prop) (e : Ex) (v : Value) (w : World) (h : RepE S w e v) : (Calls Tryz.prog 71 #[exV e v] w fun r w' => r = .returned (.bool (formedB e)) ∧ w.Grows w') := formed_walk S e.size e (Nat.le_refl _) v w h
/-- Is it a valid expression? -/
def validB (e : Ex) : Bool := decide (e.depth ≤ 10) && decide (e.size ≤ 60) && formedB e
set_option maxHeartbeats 2000000 in
theorem ValidExpr_any (S : Nat → Prop) (e : Ex) (v : Value) (w : World) (h : Hid (RepE S w e v)) (hbig : Hid (e.size ≤ 2305843009213693952)) : Calls Tryz.prog 35 #[exV e v] w fun r w' => r = .returned (.bool (validB e)) ∧ w.Grows w' := by
  obtain ⟨a, cap, hv⟩ := h.out.form0
  subst hv
  by_cases c1 : (e.depth : Int) ≤ 10
  · by_cases c2 : (e.size : Int) ≤ 60
    · go_enter Tryz.func35, Tryz.ntmps35
      go_wp2_with ((first | (go_at_call 32; refine (Depth_walk S e.size e (Nat.le_refl _) _ _ (h.out.alloc _) hbig).mono ?_; rintro r w' ⟨rfl, bs, d, rfl⟩) | (go_at_call 33; refine (Size_walk S e.size e (Nat.le_refl _) _ _ ((h.out.alloc _).grow _ _) hbig).mono ?_; rintro r w' ⟨rfl, bs2, d2, rfl⟩) | (go_at_call 71; refine (formed_any S e _ _ ((h.out.alloc _).grow _ _)).mono ?_; rintro r w' ⟨rfl, bs3, d3, rfl⟩)))
      go_returns
      exact ⟨ret_bool (by unfold validB; rw [decide_eq_true (by omega), decide_eq_true (by omega)]; rfl), .of_below (by (exact belB))⟩
    · go_enter Tryz.func35, Tryz.ntmps35
      go_wp2_with ((first | (go_at_call 32; refine (Depth_walk S e.size e (Nat.le_refl _) _ _ (h.out.alloc _) hbig).mono ?_; rintro r w' ⟨rfl, bs, d, rfl⟩) | (go_at_call 33; refine (Size_walk S e.size e (Nat.le_refl _) _ _ ((h.out.alloc _).grow _ _) hbig).mono ?_; rintro r w' ⟨rfl, bs2, d2, rfl⟩) | (go_at_call 71; refine (formed_any S e _ _ ((h.out.alloc _).grow _ _)).mono ?_; rintro r w' ⟨rfl, bs3, d3, rfl⟩)))
      go_returns
      exact ⟨ret_bool (by unfold validB; rw [decide_eq_false (show ¬ e.size ≤ 60 by omega)]; simp), .of_below (by (exact belB))⟩
  · go_enter Tryz.func35, Tryz.ntmps35
    go_wp2_with ((first | (go_at_call 32; refine (Depth_walk S e.size e (Nat.le_refl _) _ _ (h.out.alloc _) hbig).mono ?_; rintro r w' ⟨rfl, bs, d, rfl⟩) | (go_at_call 33; refine (Size_walk S e.size e (Nat.le_refl _) _ _ ((h.out.alloc _).grow _ _) hbig).mono ?_; rintro r w' ⟨rfl, bs2, d2, rfl⟩) | (go_at_call 71; refine (formed_any S e _ _ ((h.out.alloc _).grow _ _)).mono ?_; rintro r w' ⟨rfl, bs3, d3, rfl⟩)))
    go_returns
    exact ⟨ret_bool (by unfold validB; rw [decide_eq_false (show ¬ e.depth ≤ 10 by omega)]; simp), .of_below (by (exact belB))⟩
end Go.Proofs.YtlheailebbngiaaGreatDoor
