/- Size and depth of trees, in the program. -/
import Derived.Test.YtlheailebbngiaaGreatDoorQForm
import Derived.Test.YtlheailebbngiaaGreatDoorQSyE
import Derived.Test.YtlheailebbngiaaGreatDoorQFd2
set_option linter.all false
namespace Go.Proofs.YtlheailebbngiaaGreatDoor
open Go.RowKit
set_option maxHeartbeats 1000000 in
theorem Size2_walk (S : Nat → Prop) (n : Nat) : ∀ (e : Ex), e.size ≤ n → ∀ (v : Value) (w : World), RepE S w e v → Hid (e.size ≤ 2305843009213693952) →
    Calls Tryz.prog 135 #[exV e v] w fun r w' => r = .returned (.int .i64 (e.size : Nat)) ∧ w.Grows w' := by
  induction n with
  | zero => intro e he; have := e.size_pos; omega
  | succ n ih =>
    intro e he v w h hbig
    have IH := Lib.hid ih
    clear ih
    cases h with
    | mk _ a cap vs hr hc hs =>
      have hlen := hr.len
      have Hs := Lib.hid hs
      have He := Lib.hid he
      have Hc := Lib.hid hc
      clear hr hs he hc
      go_enter Tryz.func135, Tryz.ntmps135
      go_wp2_with fail
      go_loopw [3, 9] (fun v3 v4 wr => ∃ k : Nat, k ≤ e.args.length ∧ v3 = .int .i64 (szT e k) ∧ v4 = .int .i64 k ∧
        World.Grows (w.alloc (.cells #[.int .i64 e.op, .int .i64 e.num, .int .i64 e.den, .int .i64 e.dim, .string e.name, .slice a e.args.length cap] 51)) wr) (fun _ v4 _ => e.args.length - (intOf v4).toNat)
      case atStart => exact ⟨0, by omega, by rw [szT_zero], rfl, .refl _⟩
      case round =>
        obtain ⟨k, hk, rfl, rfl, bs, d, rfl⟩ := hrel
        have hb := szT_bd e k
        have hb0 : 1 ≤ szT e k := hb.1
        have hb1 : szT e k ≤ 2305843009213693952 := by have := hbig.out; omega
        clear hb
        by_cases hlt : k < e.args.length
        · rcases Hc.out with h0 | ⟨b, off, rfl, hS, hbw, hx⟩
          · omega
          · obtain ⟨x0, x1, x2, x3, x4, x5⟩ := hx k hlt
            clear hx
            have hR := Hs.out k hlt
            obtain ⟨ak, ck, hvk⟩ := hR.form0
            rw [hvk] at x5 hR
            have HR := Lib.hid hR
            clear hR hvk
            have hlt1 : (k : Int) < (e.args.length : Int) := by omega
            have HN := Lib.hid (szT_succ e k hlt)
            have HA := Lib.hid (e.size_arg k hlt)
            have hs1 : ((e.arg k).size : Int) ≤ 2305843009213693952 := by have := hbig.out; have := HA.out; omega
            go_wp2_with fail
            refine (IH.out (e.arg k) (by have := He.out; have := HA.out; omega) (.slice ak _ ck) _ (((HR.out.alloc _).grow _ _).alloc _) (by have := hbig.out; have := HA.out; show _ ≤ _; omega)).mono ?_
            rintro r w' ⟨rfl, bs2, d2, rfl⟩
            go_wp2_with fail
            go_roundw
            case rel => exact ⟨k + 1, by omega, by rw [HN.out], by go_num, .of_below (by (exact belB))⟩
            case measure => simp [intOf]; omega
        · have HN := Lib.hid (szT_all e k (by omega))
          obtain rfl : k = e.args.length := by omega
          go_wp2_with fail
          go_returns
          exact ⟨ret_int HN.out, .of_below (by (exact belB))⟩

set_option maxHeartbeats 1000000 in
theorem Depth2_walk (S : Nat → Prop) (n : Nat) : ∀ (e : Ex), e.size ≤ n → ∀ (v : Value) (w : World), RepE S w e v → Hid (e.size ≤ 2305843009213693952) →
    Calls Tryz.prog 134 #[exV e v] w fun r w' => r = .returned (.int .i64 (e.depth : Nat)) ∧ w.Grows w' := by
  induction n with
  | zero => intro e he; have := e.size_pos; omega
  | succ n ih =>
    intro e he v w h hbig
    have IH := Lib.hid ih
    clear ih
    cases h with
    | mk _ a cap vs hr hc hs =>
      have hlen := hr.len
      have Hs := Lib.hid hs
      have He := Lib.hid he
      have Hc := Lib.hid hc
      clear hr hs he hc
      go_enter Tryz.func134, Tryz.ntmps134
      go_wp2_with fail
      go_loopw [3, 9] (fun v3 v4 wr => ∃ k : Nat, k ≤ e.args.length ∧ v3 = .int .i64 (dpT e k) ∧ v4 = .int .i64 k ∧
        World.Grows (w.alloc (.cells #[.int .i64 e.op, .int .i64 e.num, .int .i64 e.den, .int .i64 e.dim, .string e.name, .slice a e.args.length cap] 51)) wr) (fun _ v4 _ => e.args.length - (intOf v4).toNat)
      case atStart => exact ⟨0, by omega, by rw [dpT_zero], rfl, .refl _⟩
      case round =>
        obtain ⟨k, hk, rfl, rfl, bs, d, rfl⟩ := hrel
        have hb := dpT_bd e k
        have hb0 : 0 ≤ dpT e k := hb.1
        have hb1 : dpT e k ≤ 2305843009213693952 := by have := hbig.out; omega
        clear hb
        by_cases hlt : k < e.args.length
        · rcases Hc.out with h0 | ⟨b, off, rfl, hS, hbw, hx⟩
          · omega
          · obtain ⟨x0, x1, x2, x3, x4, x5⟩ := hx k hlt
            clear hx
            have hR := Hs.out k hlt
            obtain ⟨ak, ck, hvk⟩ := hR.form0
            rw [hvk] at x5 hR
            have HR := Lib.hid hR
            clear hR hvk
            have hlt1 : (k : Int) < (e.args.length : Int) := by omega
            have HN := Lib.hid (dpT_succ e k hlt)
            have HA := Lib.hid (e.size_arg k hlt)
            have hs1 : ((e.arg k).depth : Int) ≤ 2305843009213693952 := by have := hbig.out; have := HA.out; have := (e.arg k).depth_size; omega
            go_wp2_with fail
            refine (IH.out (e.arg k) (by have := He.out; have := HA.out; omega) (.slice ak _ ck) _ (((HR.out.alloc _).grow _ _).alloc _) (by have := hbig.out; have := HA.out; show _ ≤ _; omega)).mono ?_
            rintro r w' ⟨rfl, bs2, d2, rfl⟩
            go_wp2_with fail
            go_roundw
            case rel => exact ⟨k + 1, by omega, by rw [HN.out], by go_num, .of_below (by (exact belB))⟩
            case measure => simp [intOf]; omega
        · have HN := Lib.hid (dpT_all e k (by omega))
          obtain rfl : k = e.args.length := by omega
          go_wp2_with fail
          go_returns
          exact ⟨ret_int HN.out, .of_below (by (exact belB))⟩
end Go.Proofs.YtlheailebbngiaaGreatDoor
/- Trees with the right fields, and valid expressions, in the program. -/
namespace Go.Proofs.YtlheailebbngiaaGreatDoor
open Go.RowKit
/-- The fields of a tree, its operands aside. -/
def nodeB (e : Ex) : Bool := decide ((e.args.length : Int) = argsN e.op) &&
  (if e.op = 1 then decOk e.num e.den e.dim && e.name.toList.isEmpty
   else if e.op = 2 then decide (e.num = 0) && decide (e.den = 0) && decide (e.dim = 0) && nameB e.name
   else if e.op = 3 then decide (e.dim = 0) && e.name.toList.isEmpty && decide (e.den = 1) && decide (1 ≤ e.num) && decide (e.num ≤ 45)
   else decide (e.num = 0) && decide (e.den = 0) && decide (e.dim = 0) && e.name.toList.isEmpty)
theorem formed_node (e : Ex) : formedB e = (nodeB e && formedsB e.args) := by
  rw [formedB_eq]
  unfold nodeB
  by_cases hl : (e.args.length : Int) = argsN e.op
  · rw [decide_eq_true hl, Bool.true_and, Bool.true_and]
    have nil (h : e.op = 1 ∨ e.op = 2 ∨ e.op = 3) : formedsB e.args = true := by
      have : e.args = [] := by
        have h0 : argsN e.op = 0 := by unfold argsN; rw [if_pos (by omega)]
        exact List.eq_nil_of_length_eq_zero (by omega)
      rw [this]; rfl
    by_cases o1 : e.op = 1
    · rw [if_pos o1, if_pos o1, nil (.inl o1), Bool.and_true]
    · rw [if_neg o1, if_neg o1]
      by_cases o2 : e.op = 2
      · rw [if_pos o2, if_pos o2, nil (.inr (.inl o2)), Bool.and_true]
      · rw [if_neg o2, if_neg o2]
        by_cases o3 : e.op = 3
        · rw [if_pos o3, if_pos o3, nil (.inr (.inr o3)), Bool.and_true]
        · rw [if_neg o3, if_neg o3, Bool.and_comm]
  · rw [decide_eq_false hl]; rfl
theorem formeds_any (l : List Ex) : formedsB l = !(List.range l.length).any fun k => !formedB (l.getD k default) := by
  induction l with
  | nil => rfl
  | cons e r ih =>
    rw [formedsB, ih, List.length_cons, List.range_succ_eq_map, List.any_cons, List.any_map]
    simp only [List.getD_cons_zero, Bool.not_or, Bool.not_not]
    congr 1
set_option maxHeartbeats 4000000 in
set_option maxRecDepth 100000 in
theorem node2_len (e : Ex) (a : Option Addr) (cap : Nat) (w : World) (hr : ExRng e) (hne : ¬ (e.args.length : Int) = argsN e.op) : (Calls Tryz.prog 179 #[exV e (.slice a e.args.length cap)] w fun r w' => r = .returned (.bool (nodeB e)) ∧ w.Grows w') := by
  have HF : Hid (nodeB e = false) := Lib.hid (by unfold nodeB; rw [decide_eq_false hne, Bool.false_and])
  obtain ⟨on, od⟩ := hr.num
  obtain ⟨pn, pd⟩ := hr.den
  have hsz := hr.name
  have hi := Lib.hid (And.intro hr.num (And.intro hr.den hr.dim))
  clear hr
  have h1 : ((e.args.length : Int) != argsN e.op) = true := by simpa using hne
  clear hne
  go_enter Tryz.func179, Tryz.ntmps179
  go_wp2_with fail
  go_quiet ((go_at_call 204; exact Calls.quiet_eq (arity2_any _ _)))
  go_wp2_with fail
  go_returns
  exact ⟨ret_bool HF.out.symm, .of_below (by (exact belB))⟩
set_option maxHeartbeats 4000000 in
set_option maxRecDepth 100000 in
theorem node2_lit (e : Ex) (a : Option Addr) (cap : Nat) (w : World) (hr : ExRng e) (ht : Tab w) (hle : (e.args.length : Int) = argsN e.op) (ho : e.op = 1) : (Calls Tryz.prog 179 #[exV e (.slice a e.args.length cap)] w fun r w' => r = .returned (.bool (nodeB e)) ∧ w.Grows w') := by
  have HF : Hid (nodeB e = (decOk e.num e.den e.dim && e.name.toList.isEmpty)) := Lib.hid (by unfold nodeB; rw [decide_eq_true hle, Bool.true_and, if_pos ho])
  obtain ⟨on, od⟩ := hr.num
  obtain ⟨pn, pd⟩ := hr.den
  have hsz := hr.name
  have hi := Lib.hid (And.intro hr.num (And.intro hr.den hr.dim))
  clear hr
  have HT := Lib.hid ht
  clear ht
  have h1 : ((e.args.length : Int) != argsN 1) = false := by rw [ho] at hle; simpa using hle
  clear hle
  cases hd : decOk e.num e.den e.dim
  all_goals
    have HD : Hid _ := Lib.hid (fun w (ht : Tab w) => FormatDecimal2_any e.num e.den e.dim w hi.out.1 hi.out.2.1 hi.out.2.2 ht)
    unfold FdPost at HD
    rw [hd] at HD HF
    clear hd
    go_enter Tryz.func179, Tryz.ntmps179
    go_wp2_with fail
    go_quiet ((go_at_call 204; exact Calls.quiet_eq (arity2_any _ _)))
    go_wp2_with (go_at_call 205; refine (HD.out _ ((HT.out.alloc _).drewN _)).mono ?_; rintro e' w' ⟨s, rfl, -, bs, d, rfl⟩)
    all_goals
      go_returns
      exact ⟨ret_bool (by rw [HF.out]; simp [*]), .of_below (by (exact belB))⟩
set_option maxHeartbeats 4000000 in
set_option maxRecDepth 100000 in
theorem node2_name (e : Ex) (a : Option Addr) (cap : Nat) (w : World) (hr : ExRng e) (hle : (e.args.length : Int) = argsN e.op) (ho : e.op = 2) : (Calls Tryz.prog 179 #[exV e (.slice a e.args.length cap)] w fun r w' => r = .returned (.bool (nodeB e)) ∧ w.Grows w') := by
  have HF : Hid (nodeB e = (decide (e.num = 0) && decide (e.den = 0) && decide (e.dim = 0) && nameB e.name)) := Lib.hid (by unfold nodeB; rw [decide_eq_true hle, Bool.true_and, if_neg (by omega), if_pos ho])
  obtain ⟨on, od⟩ := hr.num
  obtain ⟨pn, pd⟩ := hr.den
  have hsz := hr.name
  have hi := Lib.hid (And.intro hr.num (And.intro hr.den hr.dim))
  clear hr
  have h1 : ((e.args.length : Int) != argsN 2) = false := by rw [ho] at hle; simpa using hle
  clear hle
  have HM := Lib.hid (show e.name.size ≤ maxLen by unfold maxLen; omega)
  go_enter Tryz.func179, Tryz.ntmps179
  go_wp2_with fail
  go_quiet ((go_at_call 204; exact Calls.quiet_eq (arity2_any _ _)))
  go_wp2_with (go_at_call 206; refine (isName2_any _ _ HM.out).mono ?_; rintro e' w' ⟨rfl, rfl⟩)
  all_goals
    go_returns
    exact ⟨ret_bool (by rw [HF.out]; first | (simp [*]; done) | (simp [*]; rfl)), .of_below (by (exact belB))⟩
set_option maxHeartbeats 4000000 in
set_option maxRecDepth 100000 in
theorem node2_best (e : Ex) (a : Option Addr) (cap : Nat) (w : World) (hr : ExRng e) (hle : (e.args.length : Int) = argsN e.op) (ho : e.op = 3) : (Calls Tryz.prog 179 #[exV e (.slice a e.args.length cap)] w fun r w' => r = .returned (.bool (nodeB e)) ∧ w.Grows w') := by
  have HF : Hid (nodeB e = (decide (e.dim = 0) && e.name.toList.isEmpty && decide (e.den = 1) && decide (1 ≤ e.num) && decide (e.num ≤ 45))) := Lib.hid (by unfold nodeB; rw [decide_eq_true hle, Bool.true_and, if_neg (by omega), if_neg (by omega), if_pos ho])
  obtain ⟨on, od⟩ := hr.num
  obtain ⟨pn, pd⟩ := hr.den
  have hsz := hr.name
  have hi := Lib.hid (And.intro hr.num (And.intro hr.den hr.dim))
  clear hr
  have h1 : ((e.args.length : Int) != argsN 3) = false := by rw [ho] at hle; simpa using hle
  clear hle
  go_enter Tryz.func179, Tryz.ntmps179
  go_wp2_with fail
  go_quiet ((go_at_call 204; exact Calls.quiet_eq (arity2_any _ _)))
  go_wp2_with fail
  all_goals
    go_returns
    exact ⟨ret_bool (by rw [HF.out]; first | (simp [*]; done) | (simp [*]; rfl) | (simp [*]; intros; omega)), .of_below (by (exact belB))⟩
set_option maxHeartbeats 4000000 in
set_option maxRecDepth 100000 in
theorem node2_op (e : Ex) (a : Option Addr) (cap : Nat) (w : World) (hr : ExRng e) (hle : (e.args.length : Int) = argsN e.op) (o1 : ¬ e.op = 1) (o2 : ¬ e.op = 2) (o3 : ¬ e.op = 3) : (Calls Tryz.prog 179 #[exV e (.slice a e.args.length cap)] w fun r w' => r = .returned (.bool (nodeB e)) ∧ w.Grows w') := by
  have HF : Hid (nodeB e = (decide (e.num = 0) && decide (e.den = 0) && decide (e.dim = 0) && e.name.toList.isEmpty)) := Lib.hid (by unfold nodeB; rw [decide_eq_true hle, Bool.true_and, if_neg o1, if_neg o2, if_neg o3])
  obtain ⟨on, od⟩ := hr.num
  obtain ⟨pn, pd⟩ := hr.den
  have hsz := hr.name
  have hi := Lib.hid (And.intro hr.num (And.intro hr.den hr.dim))
  clear hr
  have h1 : ((e.args.length : Int) != argsN e.op) = false := by simpa using hle
  have p1 : (e.op == 1) = false := by simpa using o1
  have p2 : (e.op == 2) = false := by simpa using o2
  have p3 : (e.op == 3) = false := by simpa using o3
  clear hle o1 o2 o3
  go_enter Tryz.func179, Tryz.ntmps179
  go_wp2_with fail
  go_quiet ((go_at_call 204; exact Calls.quiet_eq (arity2_any _ _)))
  go_wp2_with fail
  all_goals
    go_returns
    exact ⟨ret_bool (by rw [HF.out]; simp [*]), .of_below (by (exact belB))⟩
theorem node2_any (e : Ex) (a : Option Addr) (cap : Nat) (w : World) (hr : ExRng e) (ht : Tab w) : (Calls Tryz.prog 179 #[exV e (.slice a e.args.length cap)] w fun r w' => r = .returned (.bool (nodeB e)) ∧ w.Grows w') := by
  by_cases hle : (e.args.length : Int) = argsN e.op
  · by_cases o1 : e.op = 1
    · exact node2_lit e a cap w hr ht hle o1
    · by_cases o2 : e.op = 2
      · exact node2_name e a cap w hr hle o2
      · by_cases o3 : e.op = 3
        · exact node2_best e a cap w hr hle o3
        · exact node2_op e a cap w hr hle o1 o2 o3
  · exact node2_len e a cap w hr hle
theorem form_clos : ∀ args w, (callFunc 180 args).run Tryz.prog w = .ok (.enter 180 args) w := enters_of Tryz.func180 (by kernel_rfl) rfl
set_option maxHeartbeats 4000000 in
theorem form2_walk (S : Nat → Prop) (n : Nat) : ∀ (e : Ex), e.size ≤ n → ∀ (v : Value) (w : World), RepE S w e v → Tab w →
    Calls Tryz.prog 136 #[exV e v] w fun r w' => r = .returned (.bool (formedB e)) ∧ w.Grows w' := by
  induction n with
  | zero => intro e he; have := e.size_pos; omega
  | succ n ih =>
    intro e he v w h ht
    have HR := Lib.hid h
    have HT := Lib.hid ht
    have HN : Hid (_) := Lib.hid (fun a cap w (ht : Tab w) => node2_any e a cap w h.rng ht)
    have hany := formeds_any e.args
    have hfn := formed_node e
    obtain ⟨a, cap, rfl⟩ := h.form0
    have HC : Hid (∀ w', w.Grows w' → Calls Tryz.prog 122 #[.slice a e.args.length cap, .func (.func 180) #[] #[]] w' fun r w'' => r = .returned (.bool (!formedsB e.args)) ∧ w'.Grows w'') := Lib.hid (fun w' hg => by
      have := containsE_any S 180 #[] form_clos e (.slice a e.args.length cap) (fun k => !formedB (e.arg k)) w' (HR.out.grows hg) (Lib.hid (fun k hk ak ck w1 hg1 hR1 => by
        have hsm := e.size_arg k hk
        have IH := Lib.hid (fun w2 h1 h2 => ih (e.arg k) (by omega) (.slice ak (e.arg k).args.length ck) w2 h1 h2)
        have hT1 := Lib.hid ((HT.out.grows hg).grows hg1)
        have HR1 := Lib.hid hR1
        dsimp only
        generalize formedB (e.arg k) = q at *
        clear hany hfn HN HR HT hR1 ih hg hg1
        generalize e.arg k = x at *
        show Calls Tryz.prog 180 #[exV x (.slice ak x.args.length ck)] w1 _
        go_enter Tryz.func180, Tryz.ntmps180
        go_wp2_with (go_at_call 136; refine (IH.out _ (HR1.out.alloc _) (hT1.out.alloc _)).mono ?_; rintro e' w' ⟨rfl, bs, d, rfl⟩)
        go_returns
        exact ⟨ret_bool rfl, .of_below (by (exact belB))⟩))
      rw [show (List.range e.args.length).any (fun k => !formedB (e.arg k)) = !formedsB e.args by rw [hany, Bool.not_not]; rfl] at this
      exact this)
    clear hany ih h ht
    generalize formedsB e.args = q at *
    generalize nodeB e = p at *
    have HF := Lib.hid hfn
    clear hfn
    cases p
    · go_enter Tryz.func136, Tryz.ntmps136
      go_wp2_with (go_at_call 179; refine (HN.out _ _ _ (HT.out.alloc _)).mono ?_; rintro e' w' ⟨rfl, bs, d, rfl⟩)
      go_returns
      exact ⟨ret_bool (by rw [HF.out]; rfl), .of_below (by (exact belB))⟩
    · go_enter Tryz.func136, Tryz.ntmps136
      go_wp2_with (first | (go_at_call 179; refine (HN.out _ _ _ (HT.out.alloc _)).mono ?_; rintro e' w' ⟨rfl, bs, d, rfl⟩) | (go_at_call 122; refine (HC.out _ (.of_below (by (exact belB)))).mono ?_; rintro e' w' ⟨rfl, bs2, d2, rfl⟩))
      go_returns
      exact ⟨ret_bool (by rw [HF.out]; simp), .of_below (by (exact belB))⟩
theorem form2_any (S : Nat → Prop) (e : Ex) (v : Value) (w : World) (h : RepE S w e v) (ht : Tab w) : Calls Tryz.prog 136 #[exV e v] w fun r w' => r = .returned (.bool (formedB e)) ∧ w.Grows w' := form2_walk S e.size e (Nat.le_refl _) v w h ht
set_option maxHeartbeats 2000000 in
theorem ValidExpr2_any (S : Nat → Prop) (e : Ex) (v : Value) (w : World) (h : Hid (RepE S w e v)) (hbig : Hid (e.size ≤ 2305843009213693952)) (ht : Hid (Tab w)) : Calls Tryz.prog 108 #[exV e v] w fun r w' => r = .returned (.bool (validB e)) ∧ w.Grows w' := by
  obtain ⟨a, cap, hv⟩ := h.out.form0
  subst hv
  by_cases c1 : (e.depth : Int) ≤ 10
  · by_cases c2 : (e.size : Int) ≤ 60
    · go_enter Tryz.func108, Tryz.ntmps108
      go_wp2_with ((first | (go_at_call 134; refine (Depth2_walk S e.size e (Nat.le_refl _) _ _ (h.out.alloc _) hbig).mono ?_; rintro r w' ⟨rfl, bs, d, rfl⟩) | (go_at_call 135; refine (Size2_walk S e.size e (Nat.le_refl _) _ _ ((h.out.alloc _).grow _ _) hbig).mono ?_; rintro r w' ⟨rfl, bs2, d2, rfl⟩) | (go_at_call 136; refine (form2_any S e _ _ ((h.out.alloc _).grow _ _) ((ht.out.alloc _).grow _ _)).mono ?_; rintro r w' ⟨rfl, bs3, d3, rfl⟩)))
      go_returns
      exact ⟨ret_bool (by unfold validB; rw [decide_eq_true (by omega), decide_eq_true (by omega)]; rfl), .of_below (by (exact belB))⟩
    · go_enter Tryz.func108, Tryz.ntmps108
      go_wp2_with ((first | (go_at_call 134; refine (Depth2_walk S e.size e (Nat.le_refl _) _ _ (h.out.alloc _) hbig).mono ?_; rintro r w' ⟨rfl, bs, d, rfl⟩) | (go_at_call 135; refine (Size2_walk S e.size e (Nat.le_refl _) _ _ ((h.out.alloc _).grow _ _) hbig).mono ?_; rintro r w' ⟨rfl, bs2, d2, rfl⟩) | (go_at_call 136; refine (form2_any S e _ _ ((h.out.alloc _).grow _ _) ((ht.out.alloc _).grow _ _)).mono ?_; rintro r w' ⟨rfl, bs3, d3, rfl⟩)))
      go_returns
      exact ⟨ret_bool (by unfold validB; rw [decide_eq_false (show ¬ e.size ≤ 60 by omega)]; simp), .of_below (by (exact belB))⟩
  · go_enter Tryz.func108, Tryz.ntmps108
    go_wp2_with ((first | (go_at_call 134; refine (Depth2_walk S e.size e (Nat.le_refl _) _ _ (h.out.alloc _) hbig).mono ?_; rintro r w' ⟨rfl, bs, d, rfl⟩) | (go_at_call 135; refine (Size2_walk S e.size e (Nat.le_refl _) _ _ ((h.out.alloc _).grow _ _) hbig).mono ?_; rintro r w' ⟨rfl, bs2, d2, rfl⟩) | (go_at_call 136; refine (form2_any S e _ _ ((h.out.alloc _).grow _ _) ((ht.out.alloc _).grow _ _)).mono ?_; rintro r w' ⟨rfl, bs3, d3, rfl⟩)))
    go_returns
    exact ⟨ret_bool (by unfold validB; rw [decide_eq_false (show ¬ e.depth ≤ 10 by omega)]; simp), .of_below (by (exact belB))⟩
end Go.Proofs.YtlheailebbngiaaGreatDoor
