/- slices.Backward over a slice of steps: what comes, and in what order. -/
import Derived.Test.YtlheailebbngiaaGreatDoorQSyE
import Derived.RangeFuncNested
import Derived.RangeFuncBound
import Derived.RangeFuncCalls
import Derived.RangeFuncLeaves
import Derived.Shelf.Abstract
import Derived.Shelf.RegionOpen
import Derived.WalkKit
import Derived.OwnWalkIn
import Derived.TacticsInMore
import Derived.LoopNIn
import Derived.LoopIn
import Derived.Test.YtlheailebbngiaaGreatDoorQInE
import Derived.Test.YtlheailebbngiaaGreatDoorQTyI
import Derived.Test.YtlheailebbngiaaGreatDoorQFrAll
set_option linter.all false
namespace Go.Proofs.YtlheailebbngiaaGreatDoor
open Go.RowKit Go.Shelf
attribute [local go_sem] Oper.semAt_some
abbrev SRow := List (ByteArray × Val)
abbrev stN (l : List (ByteArray × Val)) (i : Nat) : ByteArray := (l.getD i (ByteArray.empty, Val.zero)).1
abbrev stV (l : List (ByteArray × Val)) (i : Nat) : Val := (l.getD i (ByteArray.empty, Val.zero)).2
structure StepAt (W : World) (b o : Nat) (n : ByteArray) (x : Val) : Prop where
  p0 : W.cell? ⟨b, o, none⟩ = some (.string n)
  p1 : W.cell? ⟨b, o + 1, none⟩ = some (.int .i64 x.dim)
  p2 : W.cell? ⟨b, o + 2, none⟩ = some (.bool x.yes)
  p3 : W.cell? ⟨b, o + 3, none⟩ = some (.int .i64 x.n)
  p4 : W.cell? ⟨b, o + 4, none⟩ = some (.int .i64 x.d)
theorem StepAt.same {W W' : World} {b o : Nat} {n : ByteArray} {x : Val} (h : StepAt W b o n x) (hw : ∀ o, W'.cell? ⟨b, o, none⟩ = W.cell? ⟨b, o, none⟩) : StepAt W' b o n x :=
  ⟨by rw [hw]; exact h.p0, by rw [hw]; exact h.p1, by rw [hw]; exact h.p2, by rw [hw]; exact h.p3, by rw [hw]; exact h.p4⟩
def SRow.el (x : SRow) (i : Nat) : Value := .agg #[.string (stN x i), .int .i64 (stV x i).dim, .bool (stV x i).yes, .int .i64 (stV x i).n, .int .i64 (stV x i).d]
/-- v is a slice of n steps in a block below n₀. -/
def SRow.Lies (x : SRow) (n₀ : Nat) (W : World) (v : Value) (n : Nat) : Prop :=
  n ≤ 1000 ∧ ∃ a cap, v = .slice a n cap ∧ (n = 0 ∨ ∃ b off, a = some ⟨b, off, none⟩ ∧ b < n₀ ∧ ∀ i, i < n → StepAt W b (off + i * 5) (stN x i) (stV x i))
theorem SRow.Lies.below {x : SRow} {n₀ n : Nat} {W W' : World} {v : Value} (h : SRow.Lies x n₀ W v n) (hb : Below n₀ W W') : SRow.Lies x n₀ W' v n := by
  obtain ⟨h0, a, cap, hv, h1⟩ := h
  refine ⟨h0, a, cap, hv, h1.imp id ?_⟩
  rintro ⟨b, off, ha, hlt, hc⟩
  exact ⟨b, off, ha, hlt, fun i hi => (hc i hi).same fun o => hb.cell (p := ⟨b, o, none⟩) hlt⟩
set_option maxRecDepth 100000 in
set_option maxHeartbeats 4000000 in
theorem backS1_in (F : Fence) (n : Nat) (hf : F.fn 182) (hro : F.round = none) (hn : 1 ≤ n) (l Bs n₀ len : Nat) (x : SRow) (v : Value) (J Jx : List (Fin len) → World → Prop)
    (hY : ∀ pre (i : Fin len) W, J pre W → pre.length < len → YieldAt F (n - 1) Tryz.prog l #[.int .i64 ((i.1 : Nat) : Int), x.el i.1] W fun e W' =>
      (e = .returned (.bool true) ∧ J (pre ++ [i]) W' ∧ Below n₀ W W') ∨ (e = .returned (.bool false) ∧ Jx (pre ++ [i]) W'))
    (W : World) (hBs : W.cell? ⟨Bs, 0, none⟩ = some v) (hBl : Bs < n₀) (hL : x.Lies n₀ W v len) (h0 : J [] W) :
    CallsIn F n Tryz.prog 182 #[.func (.yield l) #[] #[], .pointer (some ⟨Bs, 0, none⟩)] W fun e W' => (∃ v, e = .returned v) ∧
      ((∃ ys, ys = backs len len ∧ J ys W') ∨ (∃ pre, (∃ k, k < len ∧ pre = backs len (k + 1)) ∧ Jx pre W')) := by
  have HL := Lib.hid hL
  obtain ⟨h1000, a, cap, rfl, -⟩ := hL
  refine callsIn_of_wp Tryz.func182 rfl hf ?_ hro
  simp only [Tryz.ntmps182, List.size_toArray, List.length_cons, List.length_nil, Nat.reduceAdd, Nat.reduceSub, Array.replicate_succ, Array.replicate_zero, List.push_toArray, List.append_toArray, List.nil_append, List.cons_append]
  gi_wp2
  gi_loopw [3] (fun vi wr => ∃ k : Nat, k ≤ len ∧ vi = .int .i64 ((len : Int) - 1 - k) ∧ J (backs len k) wr ∧ Below n₀ W wr) (fun vi _ => (intOf vi + 1).toNat)
  case atStart => exact ⟨0, Nat.zero_le _, by simp, h0, Below.refl _ _⟩
  case round =>
    obtain ⟨k, hk, rfl, hJs, hnx⟩ := hrel
    by_cases hlt : k < len
    · have hcs := (hnx.cell (p := ⟨Bs, 0, none⟩) hBl).trans hBs
      have hLr := HL.out.below hnx
      obtain ⟨-, a', cap', hv, hx⟩ := hLr
      simp only [Value.slice.injEq, true_and] at hv
      obtain ⟨rfl, rfl⟩ := hv
      rcases hx with hx | ⟨b, off, rfl, hb, hx⟩
      · omega
      obtain ⟨i, hi⟩ : ∃ i : Nat, (len : Int) - 1 - k = i := ⟨len - 1 - k, by omega⟩
      have hii : i < len := by omega
      have hik : len - 1 - k = i := by omega
      obtain ⟨q0, q1, q2, q3, q4⟩ := hx i hii
      obtain ⟨fn, tmps, assign, body, hy, hR⟩ := hY _ ⟨i, hii⟩ wr hJs (by rw [backs_length _ _ hk]; exact hlt)
      simp only at hy
      unfold SRow.el at hy
      generalize stN x i = z0 at *
      generalize stV x i = zz at *
      obtain ⟨z1, z2, z3, z4⟩ := zz
      dsimp only at hy q1 q2 q3 q4
      have d1 : (i : Int) < (len : Int) := by omega
      have d0 : (0 : Int) ≤ (i : Int) := by omega
      have hlen1 : (len : Int) ≤ 1000 := by omega
      rw [hi]
      have HI := Lib.hid hi
      have HIK := Lib.hid hik
      clear hx hi hik hBs h0
      gi_wp2
      refine hR.mono ?_
      rintro e W3 (⟨rfl, hJ3, hk3⟩ | ⟨rfl, hJx3⟩)
      · gi_wp2
        go_roundw
        case rel => exact ⟨k + 1, by omega, by have := HI.out; first | (congr 1; omega) | (simp; omega), by rw [backs_succ _ _ ⟨i, hii⟩ hlt HIK.out]; exact hJ3, hnx.trans hk3⟩
        case measure => first | (simp [intOf]; done) | (simp [intOf]; omega)
      · gi_wp2
        refine bodyPost_ret (results_none rfl _ _ _) rfl ?_
        exact ⟨⟨_, rfl⟩, .inr ⟨_, ⟨k, hlt, by rw [backs_succ _ _ ⟨i, hii⟩ hlt HIK.out]⟩, hJx3⟩⟩
    · obtain rfl : k = len := by omega
      have hz : (k : Int) - 1 - k = -1 := by omega
      rw [hz]
      clear hz
      gi_wp2
      go_end0
      exact ⟨⟨_, rfl⟩, .inl ⟨_, rfl, hJs⟩⟩
set_option maxHeartbeats 1000000 in
theorem backS_in (F : Fence) (n : Nat) (hf : F.fn 140) (hro : F.round = none) (a : Option Addr) (len cap : Nat) (w : World) :
    CallsIn F n Tryz.prog 140 #[.slice a len cap] w fun e w' => e = .returned (.func (.func 182) #[] #[.pointer (some ⟨w.heap.size, 0, none⟩)]) ∧ w' = w.alloc (.cells #[.slice a len cap] 47) := by
  refine callsIn_of_wp Tryz.func140 rfl hf ?_ hro
  simp only [Tryz.ntmps140, List.size_toArray, List.length_cons, List.length_nil, Nat.reduceAdd, Nat.reduceSub, Array.replicate_succ, Array.replicate_zero, List.push_toArray, List.append_toArray, List.nil_append, List.cons_append]
  gi_wp2
  go_ret
  exact ⟨rfl, rfl⟩
theorem backS_stops (F : Fence) (n : Nat) (hf : F.fn 182) (hro : F.round = none) (hn : 1 ≤ n) (Bs n₀ : Nat) (v : Value) (x : SRow) (len : Nat) (w : World) (hBs : Bs < n₀) (hn₀ : n₀ ≤ w.heap.size)
    (hc : w.cell? ⟨Bs, 0, none⟩ = some v) (hL : x.Lies n₀ w v len) :
    SeqStopsK F n Tryz.prog 182 #[.pointer (some ⟨Bs, 0, none⟩)] (fun i : Fin len => #[Value.int .i64 ((i.1 : Nat) : Int), x.el i.1]) (Below n₀) (fun ys => ys = backs len len)
      (fun pre => ∃ k, k < len ∧ pre = backs len (k + 1)) len w := fun l J Jx W hW _ _ hY h0 =>
  backS1_in F n hf hro hn l Bs n₀ len x v J Jx hY W ((hW.cell (p := ⟨Bs, 0, none⟩) (by show Bs < w.heap.size; omega)).trans hc) hBs (hL.below (hW.mono hn₀)) h0
end Go.Proofs.YtlheailebbngiaaGreatDoor
/- The evaluator in memory; what evaluating gives. -/
namespace Go.Proofs.YtlheailebbngiaaGreatDoor
open Go.RowKit
/-- v is a slice of these steps. -/
def StpAt (w : World) (v : Value) (l : List (ByteArray × Val)) : Prop := SRow.Lies l w.heap.size w v l.length
theorem StpAt.below {w w' : World} {v : Value} {l : List (ByteArray × Val)} {n : Nat} (h : StpAt w v l) (hn : w.heap.size ≤ n) (hb : Below n w w') : StpAt w' v l := by
  have h2 := SRow.Lies.below h (hb.mono hn)
  obtain ⟨h0, a, cap, hv, h1⟩ := h2
  exact ⟨h0, a, cap, hv, h1.imp id fun ⟨b, off, ha, hlt, hc⟩ => ⟨b, off, ha, Nat.lt_of_lt_of_le hlt hb.size, hc⟩⟩
theorem StpAt.grows {w w' : World} {v : Value} {l : List (ByteArray × Val)} (h : StpAt w v l) (hg : w.Grows w') : StpAt w' v l := h.below (Nat.le_refl _) hg.below
def evC (v : Vw) (y se : Value) : Array Value := #[.int .i64 v.age, .int .i64 v.year, .int .i64 v.children, .int .i64 v.insured, .int .i64 v.worked, .int .i64 v.voluntary, .int .i64 v.service, .int .i64 v.equated, .int .i64 v.raising, .int .i64 v.resident, .int .i64 v.bn, .int .i64 v.bd, y, se]
/-- The evaluator: a block of 14 cells. -/
structure EvAt (w : World) (E : Nat) (v : Vw) (y : Value) (env : List (ByteArray × Val)) (se : Value) : Prop where
  blk : w.heap[E]? = some (.cells (evC v y se) 126 (0, 0))
  yr : YrAt w y v.years
  st : StpAt w se env
theorem EvAt.lt {w : World} {E : Nat} {v : Vw} {y : Value} {env : List (ByteArray × Val)} {se : Value} (h : EvAt w E v y env se) : E < w.heap.size := (Array.getElem?_eq_some_iff.1 h.blk).1
theorem EvAt.grows {w w' : World} {E : Nat} {v : Vw} {y : Value} {env : List (ByteArray × Val)} {se : Value} (h : EvAt w E v y env se) (hg : w.Grows w') : EvAt w' E v y env se :=
  ⟨(hg.below.block E h.lt).trans h.blk, h.yr.grows hg, h.st.grows hg⟩
/-- What evaluating gives: a value and a code; behind an error any value. -/
def EvR (r : Val × Int) (w : World) (e : Ending) (w' : World) : Prop := ∃ x : Val, e = .returned (.tuple #[valV x, .int .i64 r.2]) ∧ (r.2 = 0 → x = r.1) ∧ w.Grows w'
theorem evR {r : Val × Int} {x : Val} {c : Int} {w w' : World} (hc : c = r.2) (hx : c = 0 → x = r.1) (hg : w.Grows w') : EvR r w (.returned (.tuple #[.agg #[.int .i64 x.dim, .bool x.yes, .int .i64 x.n, .int .i64 x.d], .int .i64 c])) w' := by
  subst hc; exact ⟨x, rfl, hx, hg⟩
theorem evR' {r : Val × Int} {m n d c : Int} {b : Bool} {w w' : World} (hc : c = r.2) (hx : c = 0 → (⟨m, b, n, d⟩ : Val) = r.1) (hg : w.Grows w') : EvR r w (.returned (.tuple #[.agg #[.int .i64 m, .bool b, .int .i64 n, .int .i64 d], .int .i64 c])) w' := evR (x := ⟨m, b, n, d⟩) hc hx hg
/-- An operand's cells. -/
theorem RepE.arg_cells {S : Nat → Prop} {w : World} {e : Ex} {a : Option Addr} {cap : Nat} (h : RepE S w e (.slice a e.args.length cap)) (hn : 0 < e.args.length) : ∃ b off, a = some ⟨b, off, none⟩ ∧ b < w.heap.size ∧
    ∀ k, k < e.args.length → ∃ ak ck, ExAt w b (off + k * 6) (e.arg k) (.slice ak (e.arg k).args.length ck) ∧ RepE S w (e.arg k) (.slice ak (e.arg k).args.length ck) := by
  generalize hv : Value.slice a e.args.length cap = v at h
  cases h with
  | mk _ a' cap' vs hr hc hs =>
    cases hv
    rcases hc with h0 | ⟨b, off, rfl, -, hb, hx⟩
    · omega
    · refine ⟨b, off, rfl, hb, fun k hk => ?_⟩
      obtain ⟨ak, ck, hvk⟩ := (hs k hk).form0
      exact ⟨ak, ck, hvk ▸ hx k hk, hvk ▸ hs k hk⟩
theorem name_typed {v : Vw} (hv : v.ok = true) {env : List (ByteArray × Val)} (hE : ∀ p ∈ env, p.2.ok = true) {s : ByteArray} (h : (inferN (dimsOf env) s).2 = 0) : (nameF v env s).2 = 0 := by
  rcases name_ok hv hE h with h1 | ⟨-, h2⟩
  · exact h1.1
  · unfold nameF at h2 ⊢
    split <;> rename_i hx
    · rfl
    · rw [hx] at h2
      dsimp only at h2
      split <;> rename_i hy
      · rfl
      · rw [hy] at h2; dsimp only at h2; omega
end Go.Proofs.YtlheailebbngiaaGreatDoor
/- evaluator.unary: an operation with one operand. -/
namespace Go.Proofs.YtlheailebbngiaaGreatDoor
open Go.RowKit
theorem RepE.exRng {S : Nat → Prop} {w : World} {e : Ex} {v : Value} (h : RepE S w e v) : ExRng e := h.rng
/-- The call of expr at an operand. -/
def EvIH (S : Nat → Prop) (E : Nat) (w : World) (x : Ex) (r : Val × Int) : Prop :=
  ∀ ak ck w', w.Grows w' → RepE S w' x (.slice ak x.args.length ck) → Calls Tryz.prog 68 #[.pointer (some ⟨E, 0, none⟩), exV x (.slice ak x.args.length ck)] w' (EvR r w')
set_option maxRecDepth 100000 in
set_option maxHeartbeats 4000000 in
theorem unary_any (S : Nat → Prop) (E : Nat) (e : Ex) (a : Option Addr) (cap : Nat) (w : World) (r0 : Val × Int) (h : RepE S w e (.slice a e.args.length cap)) (hop : e.op = 4 ∨ e.op = 5 ∨ e.op = 6) (hlen : 0 < e.args.length)
    (hok : r0.2 = 0 → VRng r0.1) (ih : EvIH S E w (e.arg 0) r0) :
    Calls Tryz.prog 113 #[.pointer (some ⟨E, 0, none⟩), exV e (.slice a e.args.length cap)] w (EvR (if r0.2 ≠ 0 then (.zero, r0.2) else op1 e.op r0.1) w) := by
  obtain ⟨b, off, rfl, hbw, hx⟩ := h.arg_cells hlen
  obtain ⟨ak, ck, hxk, hRk⟩ := hx 0 hlen
  have HRK := Lib.hid hRk
  obtain ⟨x0, x1, x2, x3, x4, x5⟩ := hxk
  have HCL := Lib.hid (fun w' hg hr => ih ak ck w' hg hr)
  unfold EvR exV at HCL
  unfold valV at HCL
  have d1 : (0 : Int) < (e.args.length : Int) := by omega
  clear h hx hRk ih
  obtain ⟨x, hxe⟩ : ∃ x, e.arg 0 = x := ⟨_, rfl⟩
  rw [hxe] at HCL x0 x1 x2 x3 x4 x5 HRK
  clear hxe
  simp only [Nat.zero_mul, Nat.add_zero] at x0 x1 x2 x3 x4 x5
  obtain ⟨q, c⟩ := r0
  dsimp only at hok HCL ⊢
  unfold exV
  by_cases hc : c = 0
  · subst hc
    have hq := hok rfl
    have HF := Lib.hid (fun w => Floor2_any q.n q.d w hq.1.1 hq.1.2 hq.2.1 hq.2.2)
    have HN := Lib.hid (fun w => Neg2_any q.n q.d w hq.1.1 hq.1.2 hq.2.1 hq.2.2)
    have HU := Lib.hid (fun m n d w => evnum_any m n d w)
    have HT := Lib.hid (fun b w => evtruth_any b w)
    unfold valV Val.num at HU
    unfold valV Val.truth at HT
    unfold frI at HF
    unfold frV at HN
    dsimp only at HU HT
    clear hok hq
    have HO : Hid ((if (0 : Int) ≠ 0 then (Val.zero, (0 : Int)) else op1 e.op q) = op1 e.op q) := Lib.hid (by simp)
    rw [HO.out]
    have HP := Lib.hid (show op1 e.op q = op1 e.op q from rfl)
    obtain ⟨qm, qy, qn, qd⟩ := q
    rcases hop with ho | ho | ho
    all_goals
      rw [ho] at HP ⊢
      clear HO
      simp only [op1] at HP ⊢
      simp at HP ⊢
    · generalize negF qn qd = R at *
      go_enter Tryz.func113, Tryz.ntmps113
      go_wp2_with (first
        | (go_at_call 68; refine (HCL.out _ (.of_below (by (exact belB))) (HRK.out.grows (.of_below (by (exact belB))))).mono ?_; rintro e' w' ⟨x, rfl, hx, bs, d, rfl⟩; obtain rfl := hx rfl)
        | (go_at_call 142; refine (HN.out _).mono ?_; rintro e' w' ⟨rfl, bs2, d2, rfl⟩)
        | (go_at_call 48; refine (HU.out _ _ _ _).mono ?_; rintro e' w' ⟨rfl, bs3, d3, rfl⟩))
      go_returns
      exact evR' (by unfold numR; split <;> simp_all) (by intro h; unfold numR; rw [if_pos h]; rfl) (.of_below (by (exact belB)))
    · go_enter Tryz.func113, Tryz.ntmps113
      go_wp2_with (first
        | (go_at_call 68; refine (HCL.out _ (.of_below (by (exact belB))) (HRK.out.grows (.of_below (by (exact belB))))).mono ?_; rintro e' w' ⟨x, rfl, hx, bs, d, rfl⟩; obtain rfl := hx rfl)
        | (go_at_call 116; refine (HT.out _ _).mono ?_; rintro e' w' ⟨rfl, bs2, d2, rfl⟩))
      go_returns
      exact evR' rfl (fun _ => rfl) (.of_below (by (exact belB)))
    · generalize floorF qn qd = R at *
      go_enter Tryz.func113, Tryz.ntmps113
      go_wp2_with (first
        | (go_at_call 68; refine (HCL.out _ (.of_below (by (exact belB))) (HRK.out.grows (.of_below (by (exact belB))))).mono ?_; rintro e' w' ⟨x, rfl, hx, bs, d, rfl⟩; obtain rfl := hx rfl)
        | (go_at_call 141; refine (HF.out _).mono ?_; rintro e' w' ⟨rfl, bs2, d2, rfl⟩)
        | (go_at_call 48; refine (HU.out _ _ _ _).mono ?_; rintro e' w' ⟨rfl, bs3, d3, rfl⟩))
      go_returns
      exact evR' (by unfold numR; split <;> simp_all) (by intro h; unfold numR; rw [if_pos h]; rfl) (.of_below (by (exact belB)))
  · have hq1 : (c != 0) = true := by simpa using hc
    have HC := Lib.hid hc
    rw [if_pos hc]
    clear hok hc hop
    go_enter Tryz.func113, Tryz.ntmps113
    go_wp2_with (go_at_call 68; refine (HCL.out _ (.of_below (by (exact belB))) (HRK.out.grows (.of_below (by (exact belB))))).mono ?_; rintro e' w' ⟨x, rfl, hx, bs, d, rfl⟩)
    go_returns
    exact evR' rfl (fun h => absurd h HC.out) (.of_below (by (exact belB)))
end Go.Proofs.YtlheailebbngiaaGreatDoor
/- evaluator.logic: And, Or and If, which do not need all of their operands. -/
namespace Go.Proofs.YtlheailebbngiaaGreatDoor
open Go.RowKit
/-- What logic gives, out of what its operands give. -/
def logF (op : Int) (r0 r1 r2 : Val × Int) : Val × Int :=
  if r0.2 ≠ 0 then (.zero, r0.2) else if op = 17 then (if r0.1.yes = true then r1 else r0) else if op = 18 then (if r0.1.yes = true then r0 else r1) else if r0.1.yes = true then r1 else r2
set_option maxRecDepth 100000 in
set_option maxHeartbeats 8000000 in
theorem logic_any (S : Nat → Prop) (E : Nat) (e : Ex) (a : Option Addr) (cap : Nat) (w : World) (r0 r1 r2 : Val × Int) (h : RepE S w e (.slice a e.args.length cap)) (hop : e.op = 17 ∨ e.op = 18 ∨ e.op = 21) (hlen : 2 ≤ e.args.length) (hlen3 : e.op = 21 → 3 ≤ e.args.length)
    (ih0 : EvIH S E w (e.arg 0) r0) (ih1 : EvIH S E w (e.arg 1) r1) (ih2 : e.op = 21 → EvIH S E w (e.arg 2) r2) :
    Calls Tryz.prog 114 #[.pointer (some ⟨E, 0, none⟩), exV e (.slice a e.args.length cap)] w (EvR (logF e.op r0 r1 r2) w) := by
  obtain ⟨b, off, rfl, hbw, hx⟩ := h.arg_cells (by omega)
  obtain ⟨ak, ck, hxk, hR0⟩ := hx 0 (by omega)
  obtain ⟨x0, x1, x2, x3, x4, x5⟩ := hxk
  obtain ⟨ak1, ck1, hxk1, hR1⟩ := hx 1 (by omega)
  obtain ⟨y0, y1, y2, y3, y4, y5⟩ := hxk1
  have HR0 := Lib.hid hR0
  have HR1 := Lib.hid hR1
  have HC0 := Lib.hid (fun w' hg hr => ih0 ak ck w' hg hr)
  have HC1 := Lib.hid (fun w' hg hr => ih1 ak1 ck1 w' hg hr)
  unfold EvR exV at HC0 HC1
  unfold valV at HC0 HC1
  have d0 : (0 : Int) < (e.args.length : Int) := by omega
  have d1 : (1 : Int) < (e.args.length : Int) := by omega
  simp only [Nat.zero_mul, Nat.add_zero, Nat.one_mul] at x0 x1 x2 x3 x4 x5 y0 y1 y2 y3 y4 y5
  obtain ⟨x, hxe⟩ : ∃ x, e.arg 0 = x := ⟨_, rfl⟩
  rw [hxe] at HC0 x0 x1 x2 x3 x4 x5 HR0
  obtain ⟨y, hye⟩ : ∃ y, e.arg 1 = y := ⟨_, rfl⟩
  rw [hye] at HC1 y0 y1 y2 y3 y4 y5 HR1
  clear hR0 hR1 ih0 ih1 hxe hye
  have HL := Lib.hid (show logF e.op r0 r1 r2 = logF e.op r0 r1 r2 from rfl)
  obtain ⟨q, c⟩ := r0
  dsimp only at HC0
  unfold exV
  by_cases hc : c = 0
  · subst hc
    obtain ⟨qm, qy, qn, qd⟩ := q
    rcases hop with ho | ho | ho
    · clear hx h hlen3 ih2 HL
      rw [ho]
      unfold logF
      cases qy
      all_goals
        simp
        go_enter Tryz.func114, Tryz.ntmps114
        go_wp2_with (go_at_call 68; first
          | ((with_reducible refine (HC0.out _ (.of_below (by (exact belB))) (HR0.out.grows (.of_below (by (exact belB))))).mono ?_); rintro e' w' ⟨x, rfl, hx, bs, d, rfl⟩; obtain rfl := hx rfl)
          | ((with_reducible refine (HC1.out _ (.of_below (by (exact belB))) (HR1.out.grows (.of_below (by (exact belB))))).mono ?_); rintro e' w' ⟨z1, rfl, hz1, bs1, d1, rfl⟩; obtain ⟨zm, zy, zn, zd⟩ := z1))
        go_returns
        first
          | exact evR' rfl (fun _ => rfl) (.of_below (by (exact belB)))
          | exact evR' rfl hz1 (.of_below (by (exact belB)))
    · clear hx h hlen3 ih2 HL
      rw [ho]
      unfold logF
      cases qy
      all_goals
        simp
        go_enter Tryz.func114, Tryz.ntmps114
        go_wp2_with (go_at_call 68; first
          | ((with_reducible refine (HC0.out _ (.of_below (by (exact belB))) (HR0.out.grows (.of_below (by (exact belB))))).mono ?_); rintro e' w' ⟨x, rfl, hx, bs, d, rfl⟩; obtain rfl := hx rfl)
          | ((with_reducible refine (HC1.out _ (.of_below (by (exact belB))) (HR1.out.grows (.of_below (by (exact belB))))).mono ?_); rintro e' w' ⟨z1, rfl, hz1, bs1, d1, rfl⟩; obtain ⟨zm, zy, zn, zd⟩ := z1))
        go_returns
        first
          | exact evR' rfl (fun _ => rfl) (.of_below (by (exact belB)))
          | exact evR' rfl hz1 (.of_below (by (exact belB)))
    · have hl3 := hlen3 ho
      have ih2 := ih2 ho
      obtain ⟨ak2, ck2, hxk2, hR2⟩ := hx 2 (by omega)
      obtain ⟨u0, u1, u2, u3, u4, u5⟩ := hxk2
      have HR2 := Lib.hid hR2
      have HC2 := Lib.hid (fun w' hg hr => ih2 ak2 ck2 w' hg hr)
      unfold EvR exV at HC2
      unfold valV at HC2
      have d2 : (2 : Int) < (e.args.length : Int) := by omega
      simp only [Nat.reduceMul] at u0 u1 u2 u3 u4 u5
      obtain ⟨u, hue⟩ : ∃ u, e.arg 2 = u := ⟨_, rfl⟩
      rw [hue] at HC2 u0 u1 u2 u3 u4 u5 HR2
      clear hx h hlen3 ih2 HL hR2 hue hl3
      rw [ho]
      unfold logF
      cases qy
      all_goals
        simp
        go_enter Tryz.func114, Tryz.ntmps114
        go_wp2_with (go_at_call 68; first
          | ((with_reducible refine (HC0.out _ (.of_below (by (exact belB))) (HR0.out.grows (.of_below (by (exact belB))))).mono ?_); rintro e' w' ⟨x, rfl, hx, bs, d, rfl⟩; obtain rfl := hx rfl)
          | ((with_reducible refine (HC1.out _ (.of_below (by (exact belB))) (HR1.out.grows (.of_below (by (exact belB))))).mono ?_); rintro e' w' ⟨z1, rfl, hz1, bs1, d1, rfl⟩; obtain ⟨zm, zy, zn, zd⟩ := z1)
          | ((with_reducible refine (HC2.out _ (.of_below (by (exact belB))) (HR2.out.grows (.of_below (by (exact belB))))).mono ?_); rintro e' w' ⟨z1, rfl, hz1, bs1, d1, rfl⟩; obtain ⟨zm, zy, zn, zd⟩ := z1))
        go_returns
        exact evR' rfl hz1 (.of_below (by (exact belB)))
  · have hq1 : (c != 0) = true := by simpa using hc
    have HC := Lib.hid hc
    clear hx h hlen3 ih2 hop HL HC1 HR1
    have HLF : Hid (logF e.op (q, c) r1 r2 = (.zero, c)) := Lib.hid (by unfold logF; rw [if_pos hc])
    rw [HLF.out]
    clear hc HLF
    go_enter Tryz.func114, Tryz.ntmps114
    go_wp2_with (go_at_call 68; refine (HC0.out _ (.of_below (by (exact belB))) (HR0.out.grows (.of_below (by (exact belB))))).mono ?_; rintro e' w' ⟨x, rfl, hx, bs, d, rfl⟩)
    go_returns
    exact evR' rfl (fun h => absurd h HC.out) (.of_below (by (exact belB)))
end Go.Proofs.YtlheailebbngiaaGreatDoor
