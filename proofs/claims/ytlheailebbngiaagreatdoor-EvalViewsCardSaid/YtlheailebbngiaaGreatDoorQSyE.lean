/- slices.IndexFunc, slices.ContainsFunc over the operands of an expression, whatever the predicate. -/
import Derived.Test.YtlheailebbngiaaGreatDoorQForm
import Derived.Test.YtlheailebbngiaaGreatDoorQBase
import Derived.Test.YtlheailebbngiaaGreatDoorQNames
import Derived.RangeFuncNested
import Derived.RangeFuncBound
import Derived.RangeFuncCalls
import Derived.RangeFuncLeaves
import Derived.Shelf.Abstract
import Derived.Shelf.RegionOpen
import Derived.WalkKit
import Derived.OwnWalkIn
import Derived.TacticsInMore
import Derived.LoopNIn
import Derived.LoopIn
import Derived.Test.YtlheailebbngiaaGreatDoorQTyR
import Derived.Test.YtlheailebbngiaaGreatDoorQSrc
import Derived.Laws.Strings
set_option linter.all false
namespace Go.Proofs.YtlheailebbngiaaGreatDoor
open Go.RowKit
def IdxE (n : Nat) (p : Nat → Bool) (r : Int) : Prop := (r = -1 ∧ ∀ k, k < n → p k = false) ∨ ∃ k : Nat, k < n ∧ r = k ∧ p k = true
theorem IdxE.any {n : Nat} {p : Nat → Bool} {r : Int} (h : IdxE n p r) : decide (0 ≤ r) = (List.range n).any p := by
  rcases h with ⟨rfl, h⟩ | ⟨k, hk, rfl, hp⟩
  · symm
    rw [show decide ((0 : Int) ≤ -1) = false by decide, Bool.eq_false_iff]
    intro hc
    obtain ⟨k, hk, hp⟩ := List.any_eq_true.1 hc
    rw [h k (List.mem_range.1 hk)] at hp; cases hp
  · rw [decide_eq_true (show (0 : Int) ≤ k by omega)]
    symm
    exact List.any_eq_true.2 ⟨k, List.mem_range.2 hk, hp⟩
def PredE (S : Nat → Prop) (g : FuncId) (lb : Array Value) (e : Ex) (p : Nat → Bool) (w : World) : Prop :=
  ∀ k, k < e.args.length → ∀ a c w', w.Grows w' → RepE S w' (e.arg k) (.slice a (e.arg k).args.length c) → Calls Tryz.prog g (#[exV (e.arg k) (.slice a (e.arg k).args.length c)] ++ lb) w' fun r w'' => r = .returned (.bool (p k)) ∧ w'.Grows w''
theorem RepE.grows {S : Nat → Prop} {w w' : World} {e : Ex} {v : Value} (h : RepE S w e v) (hg : w.Grows w') : RepE S w' e v := by
  obtain ⟨bs, d, rfl⟩ := hg; exact h.grow bs d
set_option maxHeartbeats 2000000 in
theorem idxE_any (S : Nat → Prop) (g : FuncId) (lb : Array Value) (eg : ∀ args w, (callFunc g args).run Tryz.prog w = .ok (.enter g args) w) (e : Ex) (v : Value) (p : Nat → Bool) (w : World) (h : RepE S w e v) (hp : Hid (PredE S g lb e p w)) :
    Calls Tryz.prog 156 #[v, .func (.func g) #[] lb] w fun r w' => (∃ z, r = .returned (.int .i64 z) ∧ IdxE e.args.length p z) ∧ w.Grows w' := by
  cases h with
  | mk _ a cap vs hr hc hs =>
    have hlen := hr.len
    have Hs := Lib.hid hs
    have Hc := Lib.hid hc
    clear hr hs hc
    go_enter Tryz.func156, Tryz.ntmps156
    go_wp2_with fail
    go_loopw [5, 8] (fun _ v8 wr => ∃ k : Nat, k ≤ e.args.length ∧ v8 = .int .i64 k ∧ Hid (∀ j, j < k → p j = false) ∧ w.Grows wr) (fun _ v8 _ => e.args.length - (intOf v8).toNat)
    case atStart => exact ⟨0, by omega, rfl, Lib.hid (fun j hj => by omega), .refl _⟩
    case round =>
      obtain ⟨k, hk, rfl, hno, hgr⟩ := hrel
      have HG := Lib.hid hgr
      obtain ⟨bs, d, rfl⟩ := hgr
      by_cases hlt2 : k < e.args.length
      · rcases Hc.out with h0 | ⟨b, off, rfl, hg, hbw, hx⟩
        · omega
        · obtain ⟨x0, x1, x2, x3, x4, x5⟩ := hx k hlt2
          clear hx
          have hR := Hs.out k hlt2
          obtain ⟨ak, ck, hvk⟩ := hR.form0
          rw [hvk] at x5 hR
          have d1 : (k : Int) < (e.args.length : Int) := by omega
          have hcall := hp.out k hlt2 ak ck _ HG.out (hR.grow bs d)
          have HLT := Lib.hid hlt2
          clear hR hvk
          cases hq : p k with
          | true =>
            rw [hq] at hcall
            have HQ := Lib.hid hq
            clear hq
            have HCL := Lib.hid hcall
            clear hcall
            go_wp2_with (go_at_fn g; refine HCL.out.mono ?_; rintro e' w' ⟨rfl, bs2, d2, rfl⟩)
            go_returns
            exact ⟨⟨_, rfl, .inr ⟨k, HLT.out, rfl, HQ.out⟩⟩, .of_below (by (exact belB))⟩
          | false =>
            rw [hq] at hcall
            have HQ := Lib.hid hq
            clear hq
            have HCL := Lib.hid hcall
            clear hcall
            go_wp2_with (go_at_fn g; refine HCL.out.mono ?_; rintro e' w' ⟨rfl, bs2, d2, rfl⟩)
            go_roundw
            case rel => exact ⟨k + 1, by omega, by go_num, Lib.hid (fun j hj => by
              by_cases ej : j = k
              · subst ej; exact HQ.out
              · exact hno.out j (by omega)), .of_below (by (exact belB))⟩
            case measure => simp [intOf]; omega
      · obtain rfl : k = e.args.length := by omega
        go_wp2_with fail
        go_returns
        exact ⟨⟨_, rfl, .inl ⟨rfl, hno.out⟩⟩, .of_below (by (exact belB))⟩
set_option maxHeartbeats 2000000 in
theorem containsE_any (S : Nat → Prop) (g : FuncId) (lb : Array Value) (eg : ∀ args w, (callFunc g args).run Tryz.prog w = .ok (.enter g args) w) (e : Ex) (v : Value) (p : Nat → Bool) (w : World) (h : RepE S w e v) (hp : Hid (PredE S g lb e p w)) :
    Calls Tryz.prog 122 #[v, .func (.func g) #[] lb] w fun r w' => r = .returned (.bool ((List.range e.args.length).any p)) ∧ w.Grows w' := by
  have HI := Lib.hid (idxE_any S g lb eg e v p w h hp)
  obtain ⟨a, cap, rfl⟩ := h.form0
  clear h hp
  generalize hX : (List.range e.args.length).any p = X
  have HX := Lib.hid hX
  clear hX
  go_enter Tryz.func122, Tryz.ntmps122
  go_wp2_with (go_at_call 156; refine HI.out.mono ?_; rintro e' w' ⟨⟨z, rfl, hz⟩, bs2, d2, rfl⟩; have HZ := Lib.hid hz.any; clear hz)
  go_returns
  exact ⟨ret_bool (by rw [← HX.out, ← HZ.out]), .of_below (by (exact belB))⟩
end Go.Proofs.YtlheailebbngiaaGreatDoor
/- A slice of bindings, read; a predicate over it. -/
namespace Go.Proofs.YtlheailebbngiaaGreatDoor
open Go.RowKit
abbrev bdN (l : List (ByteArray × Int)) (i : Nat) : ByteArray := (l.getD i (ByteArray.empty, 0)).1
abbrev bdD (l : List (ByteArray × Int)) (i : Nat) : Int := (l.getD i (ByteArray.empty, 0)).2
/-- v is a slice of these bindings. -/
def BindAt (w : World) (v : Value) (l : List (ByteArray × Int)) : Prop :=
  l.length ≤ 1000 ∧ ∃ a cap, v = .slice a l.length cap ∧ (l.length = 0 ∨ ∃ b off, a = some ⟨b, off, none⟩ ∧ b < w.heap.size ∧ ∀ i, i < l.length → w.cell? ⟨b, off + i * 2, none⟩ = some (.string (bdN l i)) ∧ w.cell? ⟨b, off + i * 2 + 1, none⟩ = some (.int .i64 (bdD l i)))
theorem BindAt.below {w w' : World} {v : Value} {l : List (ByteArray × Int)} {n : Nat} (h : BindAt w v l) (hn : w.heap.size ≤ n) (hb : Below n w w') : BindAt w' v l := by
  obtain ⟨h0, a, cap, hv, h1⟩ := h
  refine ⟨h0, a, cap, hv, h1.imp id ?_⟩
  rintro ⟨b, off, ha, hlt, hc⟩
  refine ⟨b, off, ha, Nat.lt_of_lt_of_le hlt hb.size, fun i hi => ?_⟩
  rw [hb.cell (p := ⟨b, off + i * 2, none⟩) (Nat.lt_of_lt_of_le hlt hn), hb.cell (p := ⟨b, off + i * 2 + 1, none⟩) (Nat.lt_of_lt_of_le hlt hn)]
  exact hc i hi
theorem BindAt.grows {w w' : World} {v : Value} {l : List (ByteArray × Int)} (h : BindAt w v l) (hg : w.Grows w') : BindAt w' v l := h.below (Nat.le_refl _) hg.below
theorem BindAt.grow {w : World} {v : Value} {l : List (ByteArray × Int)} (h : BindAt w v l) (bs : Array Obj) (d : Nat) : BindAt (w.grow bs d) v l := h.grows ⟨bs, d, rfl⟩
theorem BindAt.alloc {w : World} {v : Value} {l : List (ByteArray × Int)} (h : BindAt w v l) (o : Obj) : BindAt (w.alloc o) v l := h.below (Nat.le_refl _) ((Below.refl _ _).alloc (Nat.le_refl _) _)
def PredB (g : FuncId) (lb : Array Value) (l : List (ByteArray × Int)) (p : Nat → Bool) (w : World) : Prop :=
  ∀ k, k < l.length → ∀ w', w.Grows w' → Calls Tryz.prog g (#[.agg #[.string (bdN l k), .int .i64 (bdD l k)]] ++ lb) w' fun r w'' => r = .returned (.bool (p k)) ∧ w'.Grows w''
set_option maxHeartbeats 2000000 in
theorem idxB_any (g : FuncId) (lb : Array Value) (eg : ∀ args w, (callFunc g args).run Tryz.prog w = .ok (.enter g args) w) (l : List (ByteArray × Int)) (v : Value) (p : Nat → Bool) (w : World) (h : BindAt w v l) (hp : Hid (PredB g lb l p w)) :
    Calls Tryz.prog 137 #[v, .func (.func g) #[] lb] w fun r w' => (∃ z, r = .returned (.int .i64 z) ∧ IdxE l.length p z) ∧ w.Grows w' := by
  obtain ⟨hlen, a, cap, rfl, hc⟩ := h
  have Hc := Lib.hid hc
  clear hc
  go_enter Tryz.func137, Tryz.ntmps137
  go_wp2_with fail
  go_loopw [5, 8] (fun _ v8 wr => ∃ k : Nat, k ≤ l.length ∧ v8 = .int .i64 k ∧ Hid (∀ j, j < k → p j = false) ∧ w.Grows wr) (fun _ v8 _ => l.length - (intOf v8).toNat)
  case atStart => exact ⟨0, by omega, rfl, Lib.hid (fun j hj => by omega), .refl _⟩
  case round =>
    obtain ⟨k, hk, rfl, hno, hgr⟩ := hrel
    have HG := Lib.hid hgr
    by_cases hlt2 : k < l.length
    · rcases Hc.out with h0 | ⟨b, off, rfl, hbw, hx⟩
      · omega
      · obtain ⟨x0, x1⟩ := hx k hlt2
        have y0 : wr.cell? ⟨b, off + k * 2, none⟩ = some (.string (bdN l k)) := by rw [hgr.below.cell (p := ⟨b, off + k * 2, none⟩) hbw]; exact x0
        have y1 : wr.cell? ⟨b, off + k * 2 + 1, none⟩ = some (.int .i64 (bdD l k)) := by rw [hgr.below.cell (p := ⟨b, off + k * 2 + 1, none⟩) hbw]; exact x1
        clear hx x0 x1
        have d1 : (k : Int) < (l.length : Int) := by omega
        have hcall := hp.out k hlt2 _ hgr
        generalize bdN l k = nk at *
        generalize bdD l k = dk at *
        have HLT := Lib.hid hlt2
        clear hgr
        cases hq : p k with
        | true =>
          rw [hq] at hcall
          have HQ := Lib.hid hq
          clear hq
          have HCL := Lib.hid hcall
          clear hcall
          go_wp2_with (go_at_fn g; refine HCL.out.mono ?_; rintro e' w' ⟨rfl, hg2⟩; have HG2 := Lib.hid hg2; clear hg2)
          go_returns
          exact ⟨⟨_, rfl, .inr ⟨k, HLT.out, rfl, HQ.out⟩⟩, World.Grows.trans HG.out HG2.out⟩
        | false =>
          rw [hq] at hcall
          have HQ := Lib.hid hq
          clear hq
          have HCL := Lib.hid hcall
          clear hcall
          go_wp2_with (go_at_fn g; refine HCL.out.mono ?_; rintro e' w' ⟨rfl, hg2⟩; have HG2 := Lib.hid hg2; clear hg2)
          go_roundw
          case rel => exact ⟨k + 1, by omega, by go_num, Lib.hid (fun j hj => by
            by_cases ej : j = k
            · subst ej; exact HQ.out
            · exact hno.out j (by omega)), World.Grows.trans HG.out HG2.out⟩
          case measure => simp [intOf]; omega
    · obtain rfl : k = l.length := by omega
      clear hgr
      go_wp2_with fail
      go_returns
      exact ⟨⟨_, rfl, .inl ⟨rfl, hno.out⟩⟩, HG.out⟩
set_option maxHeartbeats 2000000 in
theorem containsB_any (g : FuncId) (lb : Array Value) (eg : ∀ args w, (callFunc g args).run Tryz.prog w = .ok (.enter g args) w) (l : List (ByteArray × Int)) (v : Value) (p : Nat → Bool) (w : World) (h : BindAt w v l) (hp : Hid (PredB g lb l p w)) :
    Calls Tryz.prog 109 #[v, .func (.func g) #[] lb] w fun r w' => r = .returned (.bool ((List.range l.length).any p)) ∧ w.Grows w' := by
  have HI := Lib.hid (idxB_any g lb eg l v p w h hp)
  obtain ⟨-, a, cap, rfl, -⟩ := h
  clear hp
  generalize hX : (List.range l.length).any p = X
  have HX := Lib.hid hX
  clear hX
  go_enter Tryz.func109, Tryz.ntmps109
  go_wp2_with (go_at_call 137; refine HI.out.mono ?_; rintro e' w' ⟨⟨z, rfl, hz⟩, bs2, d2, rfl⟩; have HZ := Lib.hid hz.any; clear hz)
  go_returns
  exact ⟨ret_bool (by rw [← HX.out, ← HZ.out]), .of_below (by (exact belB))⟩
theorem badB_clos : ∀ args w, (callFunc 110 args).run Tryz.prog w = .ok (.enter 110 args) w := enters_of Tryz.func110 (by kernel_rfl) rfl
set_option maxHeartbeats 1000000 in
theorem badB_one (n : ByteArray) (d : Int) (w : World) : Calls Tryz.prog 110 #[.agg #[.string n, .int .i64 d]] w fun r w' => r = .returned (.bool (!decide (1 ≤ d ∧ d ≤ 4))) ∧ w.Grows w' := by
  by_cases h1 : d < 1
  · go_enter Tryz.func110, Tryz.ntmps110
    go_wp2
    go_returns
    exact ⟨ret_bool (by first | rfl | (simp; done) | (simp; omega)), .of_below (by (exact belB))⟩
  · by_cases h2 : d > 4
    · go_enter Tryz.func110, Tryz.ntmps110
      go_wp2
      go_returns
      exact ⟨ret_bool (by first | rfl | (simp; done) | (simp; omega)), .of_below (by (exact belB))⟩
    · go_enter Tryz.func110, Tryz.ntmps110
      go_wp2
      go_returns
      exact ⟨ret_bool (by first | rfl | (simp; done) | (simp; omega)), .of_below (by (exact belB))⟩
end Go.Proofs.YtlheailebbngiaaGreatDoor
/- slices.Backward over a slice of bindings: what comes, and in what order. -/
namespace Go.Proofs.YtlheailebbngiaaGreatDoor
open Go.RowKit Go.Shelf
attribute [local go_sem] Oper.semAt_some
/-- What has come when k rounds are over, from the last on: n - 1, .., n - k. -/
def backs (n k : Nat) : List (Fin n) := (List.finRange n).reverse.take k
theorem backs_zero (n : Nat) : backs n 0 = [] := rfl
theorem backs_succ (n k : Nat) (i : Fin n) (hk : k < n) (hi : n - 1 - k = i.1) : backs n (k + 1) = backs n k ++ [i] := by
  have hl : k < (List.finRange n).reverse.length := by simpa using hk
  unfold backs
  rw [List.take_succ_eq_append_getElem hl]
  congr 2
  apply Fin.ext
  rw [List.getElem_reverse]
  simp
  omega
theorem backs_length (n k : Nat) (hk : k ≤ n) : (backs n k).length = k := by simp [backs, hk]
theorem backs_mem {n k : Nat} (i : Fin n) (hk : n ≤ i.1 + k) : i ∈ backs n k := by
  unfold backs
  have hl : n - 1 - i.1 < (List.finRange n).reverse.length := by simp; omega
  have he : (List.finRange n).reverse[n - 1 - i.1] = i := by
    apply Fin.ext
    rw [List.getElem_reverse]
    simp
    omega
  rw [List.mem_take_iff_getElem]
  exact ⟨n - 1 - i.1, by simp; omega, he⟩
abbrev BRow := List (ByteArray × Int)
def BRow.el (x : BRow) (i : Nat) : Value := .agg #[.string (bdN x i), .int .i64 (bdD x i)]
/-- v is a slice of n bindings in a block below n₀. -/
def BRow.Lies (x : BRow) (n₀ : Nat) (W : World) (v : Value) (n : Nat) : Prop :=
  n ≤ 1000 ∧ ∃ a cap, v = .slice a n cap ∧ (n = 0 ∨ ∃ b off, a = some ⟨b, off, none⟩ ∧ b < n₀ ∧ ∀ i, i < n → W.cell? ⟨b, off + i * 2, none⟩ = some (.string (bdN x i)) ∧ W.cell? ⟨b, off + i * 2 + 1, none⟩ = some (.int .i64 (bdD x i)))
theorem BRow.Lies.below {x : BRow} {n₀ n : Nat} {W W' : World} {v : Value} (h : BRow.Lies x n₀ W v n) (hb : Below n₀ W W') : BRow.Lies x n₀ W' v n := by
  obtain ⟨h0, a, cap, hv, h1⟩ := h
  refine ⟨h0, a, cap, hv, h1.imp id ?_⟩
  rintro ⟨b, off, ha, hlt, hc⟩
  refine ⟨b, off, ha, hlt, fun i hi => ?_⟩
  rw [hb.cell (p := ⟨b, off + i * 2, none⟩) hlt, hb.cell (p := ⟨b, off + i * 2 + 1, none⟩) hlt]
  exact hc i hi
theorem BindAt.lies {W : World} {v : Value} {l : List (ByteArray × Int)} (h : BindAt W v l) : BRow.Lies l W.heap.size W v l.length := h
set_option maxRecDepth 100000 in
set_option maxHeartbeats 4000000 in
theorem backB1_in (F : Fence) (n : Nat) (hf : F.fn 207) (hro : F.round = none) (hn : 1 ≤ n) (l Bs n₀ len : Nat) (x : BRow) (v : Value) (J Jx : List (Fin len) → World → Prop)
    (hY : ∀ pre (i : Fin len) W, J pre W → pre.length < len → YieldAt F (n - 1) Tryz.prog l #[.int .i64 ((i.1 : Nat) : Int), x.el i.1] W fun e W' =>
      (e = .returned (.bool true) ∧ J (pre ++ [i]) W' ∧ Below n₀ W W') ∨ (e = .returned (.bool false) ∧ Jx (pre ++ [i]) W'))
    (W : World) (hBs : W.cell? ⟨Bs, 0, none⟩ = some v) (hBl : Bs < n₀) (hL : x.Lies n₀ W v len) (h0 : J [] W) :
    CallsIn F n Tryz.prog 207 #[.func (.yield l) #[] #[], .pointer (some ⟨Bs, 0, none⟩)] W fun e W' => (∃ v, e = .returned v) ∧
      ((∃ ys, ys = backs len len ∧ J ys W') ∨ (∃ pre, (∃ k, k < len ∧ pre = backs len (k + 1)) ∧ Jx pre W')) := by
  have HL := Lib.hid hL
  obtain ⟨h1000, a, cap, rfl, -⟩ := hL
  refine callsIn_of_wp Tryz.func207 rfl hf ?_ hro
  simp only [Tryz.ntmps207, List.size_toArray, List.length_cons, List.length_nil, Nat.reduceAdd, Nat.reduceSub, Array.replicate_succ, Array.replicate_zero, List.push_toArray, List.append_toArray, List.nil_append, List.cons_append]
  gi_wp2
  gi_loopw [3] (fun vi wr => ∃ k : Nat, k ≤ len ∧ vi = .int .i64 ((len : Int) - 1 - k) ∧ J (backs len k) wr ∧ Below n₀ W wr) (fun vi _ => (intOf vi + 1).toNat)
  case atStart => exact ⟨0, Nat.zero_le _, by simp, h0, Below.refl _ _⟩
  case round =>
    obtain ⟨k, hk, rfl, hJs, hnx⟩ := hrel
    by_cases hlt : k < len
    · have hcs := (hnx.cell (p := ⟨Bs, 0, none⟩) hBl).trans hBs
      have hLr := HL.out.below hnx
      obtain ⟨-, a', cap', hv, hx⟩ := hLr
      simp only [Value.slice.injEq, true_and] at hv
      obtain ⟨rfl, rfl⟩ := hv
      rcases hx with hx | ⟨b, off, rfl, hb, hx⟩
      · omega
      obtain ⟨i, hi⟩ : ∃ i : Nat, (len : Int) - 1 - k = i := ⟨len - 1 - k, by omega⟩
      have hii : i < len := by omega
      have hik : len - 1 - k = i := by omega
      obtain ⟨q0, q1⟩ := hx i hii
      obtain ⟨fn, tmps, assign, body, hy, hR⟩ := hY _ ⟨i, hii⟩ wr hJs (by rw [backs_length _ _ hk]; exact hlt)
      simp only at hy
      unfold BRow.el at hy
      unfold bdN at hy q0
      unfold bdD at hy q1
      generalize (x.getD i (ByteArray.empty, 0)).1 = z0 at *
      generalize (x.getD i (ByteArray.empty, 0)).2 = z1 at *
      have d1 : (i : Int) < (len : Int) := by omega
      have d0 : (0 : Int) ≤ (i : Int) := by omega
      have hlen1 : (len : Int) ≤ 1000 := by omega
      rw [hi]
      have HI := Lib.hid hi
      have HIK := Lib.hid hik
      clear hx hi hik hBs h0
      gi_wp2
      refine hR.mono ?_
      rintro e W3 (⟨rfl, hJ3, hk3⟩ | ⟨rfl, hJx3⟩)
      · gi_wp2
        go_roundw
        case rel => exact ⟨k + 1, by omega, by have := HI.out; first | (congr 1; omega) | (simp; omega), by rw [backs_succ _ _ ⟨i, hii⟩ hlt HIK.out]; exact hJ3, hnx.trans hk3⟩
        case measure => first | (simp [intOf]; done) | (simp [intOf]; omega)
      · gi_wp2
        refine bodyPost_ret (results_none rfl _ _ _) rfl ?_
        exact ⟨⟨_, rfl⟩, .inr ⟨_, ⟨k, hlt, by rw [backs_succ _ _ ⟨i, hii⟩ hlt HIK.out]⟩, hJx3⟩⟩
    · obtain rfl : k = len := by omega
      have hz : (k : Int) - 1 - k = -1 := by omega
      rw [hz]
      clear hz
      gi_wp2
      go_end0
      exact ⟨⟨_, rfl⟩, .inl ⟨_, rfl, hJs⟩⟩
set_option maxHeartbeats 1000000 in
theorem backB_in (F : Fence) (n : Nat) (hf : F.fn 181) (hro : F.round = none) (a : Option Addr) (len cap : Nat) (w : World) :
    CallsIn F n Tryz.prog 181 #[.slice a len cap] w fun e w' => e = .returned (.func (.func 207) #[] #[.pointer (some ⟨w.heap.size, 0, none⟩)]) ∧ w' = w.alloc (.cells #[.slice a len cap] 54) := by
  refine callsIn_of_wp Tryz.func181 rfl hf ?_ hro
  simp only [Tryz.ntmps181, List.size_toArray, List.length_cons, List.length_nil, Nat.reduceAdd, Nat.reduceSub, Array.replicate_succ, Array.replicate_zero, List.push_toArray, List.append_toArray, List.nil_append, List.cons_append]
  gi_wp2
  go_ret
  exact ⟨rfl, rfl⟩
theorem backB_stops (F : Fence) (n : Nat) (hf : F.fn 207) (hro : F.round = none) (hn : 1 ≤ n) (Bs n₀ : Nat) (v : Value) (x : BRow) (len : Nat) (w : World) (hBs : Bs < n₀) (hn₀ : n₀ ≤ w.heap.size)
    (hc : w.cell? ⟨Bs, 0, none⟩ = some v) (hL : x.Lies n₀ w v len) :
    SeqStopsK F n Tryz.prog 207 #[.pointer (some ⟨Bs, 0, none⟩)] (fun i : Fin len => #[Value.int .i64 ((i.1 : Nat) : Int), x.el i.1]) (Below n₀) (fun ys => ys = backs len len)
      (fun pre => ∃ k, k < len ∧ pre = backs len (k + 1)) len w := fun l J Jx W hW _ _ hY h0 =>
  backB1_in F n hf hro hn l Bs n₀ len x v J Jx hY W ((hW.cell (p := ⟨Bs, 0, none⟩) (by show Bs < w.heap.size; omega)).trans hc) hBs (hL.below (hW.mono hn₀)) h0
end Go.Proofs.YtlheailebbngiaaGreatDoor
/- typing.lookup: the dimension of a name. -/
namespace Go.Proofs.YtlheailebbngiaaGreatDoor
open Go.RowKit Go.Shelf
attribute [local go_sem] Oper.semAt_some
theorem toList_inj {a b : ByteArray} (h : a.toList = b.toList) : a = b := by
  rw [ByteArray.toList_eq, ByteArray.toList_eq] at h
  exact ByteArray.ext (Array.ext' h)
theorem lastN_some {α : Type} (env : List (ByteArray × α)) (s : ByteArray) (i : Nat) (d : ByteArray × α) (hi : i < env.length) (he : (env.getD i d).1 = s) (hl : ∀ j, i < j → j < env.length → (env.getD j d).1 ≠ s) : lastN env s = some (env.getD i d).2 := by
  have h1 : env = env.take i ++ env.getD i d :: env.drop (i + 1) := by
    rw [List.getD_eq_getElem?_getD, List.getElem?_eq_getElem hi, Option.getD_some, List.getElem_cons_drop, List.take_append_drop]
  have h2 : (env.drop (i + 1)).reverse.find? (fun p => decide (p.1 = s)) = none := by
    rw [List.find?_eq_none]
    intro x hx
    obtain ⟨k, hk, rfl⟩ := List.getElem_of_mem (List.mem_reverse.1 hx)
    have hk2 : i + 1 + k < env.length := by rw [List.length_drop] at hk; omega
    have := hl (i + 1 + k) (by omega) hk2
    rw [List.getD_eq_getElem?_getD, List.getElem?_eq_getElem hk2, Option.getD_some] at this
    rw [List.getElem_drop]
    simpa using this
  unfold lastN
  generalize hz : env.getD i d = z at *
  rw [h1, List.reverse_append, List.reverse_cons, List.append_assoc, List.find?_append, h2]
  simp [he]
theorem lastN_none {α : Type} (env : List (ByteArray × α)) (s : ByteArray) (d : ByteArray × α) (hl : ∀ j, j < env.length → (env.getD j d).1 ≠ s) : lastN env s = none := by
  unfold lastN
  rw [Option.map_eq_none_iff, List.find?_eq_none]
  intro x hx
  obtain ⟨k, hk, rfl⟩ := List.getElem_of_mem (List.mem_reverse.1 hx)
  have := hl k hk
  rw [List.getD_eq_getElem?_getD, List.getElem?_eq_getElem hk, Option.getD_some] at this
  simpa using this
def lookV (env : List (ByteArray × Int)) (s : ByteArray) : Int × Bool := if inpD s.toList ≠ 0 then (inpD s.toList, true) else match lastN env s with | some m => (m, true) | none => (0, false)
theorem lookV_infer (env : List (ByteArray × Int)) (s : ByteArray) : inferN env s = if (lookV env s).2 = true then ((lookV env s).1, 0) else (0, 5) := by
  unfold inferN lookV
  by_cases h : inpD s.toList ≠ 0
  · rw [if_pos h, if_pos h]; simp
  · rw [if_neg h, if_neg h]
    cases lastN env s <;> simp
def LkP (env : List (ByteArray × Int)) (s : ByteArray) (w : World) (e : Ending) (w' : World) : Prop := e = .returned (.tuple #[.int .i64 (lookV env s).1, .bool (lookV env s).2]) ∧ w.Grows w'
/-- lookup's memory within its loop. -/
structure LkMem (B : Nat) (s : ByteArray) (m : Int) (q : Bool) (W : World) : Prop where
  nm : W.heap[B]? = some (.cells #[.string s] 9 (0, 0))
  res : W.heap[B + 1]? = some (.cells #[.int .i64 m] 3 (0, 0))
  ok : W.heap[B + 2]? = some (.cells #[.bool q] 4 (0, 0))
  size : B + 4 ≤ W.heap.size
theorem LkMem.own {B : Nat} {s : ByteArray} {m : Int} {q : Bool} {X Y : World} {row : Option Nat} (h : LkMem B s m q X) (hg : X.grownBy Y row) (hr : ∀ r, row = some r → ∃ o : Obj, X.heap[r]? = some o ∧ o.isCells = false) : LkMem B s m q Y :=
  ⟨(grownBy_keeps_cells hg hr h.nm rfl).trans h.nm, (grownBy_keeps_cells hg hr h.res rfl).trans h.res, (grownBy_keeps_cells hg hr h.ok rfl).trans h.ok, Nat.le_trans h.size hg.size⟩
theorem LkMem.alloc {B : Nat} {s : ByteArray} {m : Int} {q : Bool} {X : World} (h : LkMem B s m q X) (o : Obj) : LkMem B s m q (X.alloc o) := h.own (World.grownBy_alloc X o none) (fun r e => by cases e)
def LkBody (B : Nat) (s : ByteArray) (L : List (ByteArray × Int)) (w : World) (c : Code) (pre : List (Fin L.length)) (W : World) : Prop :=
  (c = .ret ∧ ∃ ini i, pre = ini ++ [i] ∧ (∀ j ∈ ini, bdN L j.1 ≠ s) ∧ bdN L i.1 = s ∧ LkMem B s (bdD L i.1) true W) ∧ Below w.heap.size w W
set_option maxHeartbeats 2000000 in
theorem lookup_in (s : ByteArray) (L : List (ByteArray × Int)) (v : Value) (w : World) (h : BindAt w v L) (hs : inpD s.toList ≠ 0) : Calls Tryz.prog 138 #[.string s, v] w (LkP L s w) := by
  obtain ⟨-, a, cap, rfl, -⟩ := h
  have HF : Hid (lookV L s = (inpD s.toList, true)) := Lib.hid (by unfold lookV; rw [if_pos hs])
  have HI : Hid (∀ w, Calls Tryz.prog 47 #[.string s] w fun e w' => e = .returned (.tuple #[.int .i64 (inpD s.toList), .bool true]) ∧ w = w') := Lib.hid (fun w => (Input2_any s w).mono (by rintro e w' ⟨rfl, rfl⟩; rw [decide_eq_true hs]; exact ⟨rfl, rfl⟩))
  clear hs
  generalize inpD s.toList = D at *
  go_enter Tryz.func138, Tryz.ntmps138
  go_wp2_with (go_at_call 47; refine (HI.out _).mono ?_; rintro e w' ⟨rfl, rfl⟩)
  go_returns
  unfold LkP
  rw [HF.out]
  exact ⟨rfl, .of_below (by (exact belB))⟩
set_option maxRecDepth 1000000 in
set_option maxHeartbeats 8000000 in
theorem lookup_no (s : ByteArray) (L : List (ByteArray × Int)) (v : Value) (w : World) (h : BindAt w v L) (hs : inpD s.toList = 0) : Calls Tryz.prog 138 #[.string s, v] w (LkP L s w) := by
  have HV := Lib.hid h
  obtain ⟨-, a, cap, rfl, -⟩ := h
  have HS : Hid (lookV L s = match lastN L s with | some m => (m, true) | none => (0, false)) := Lib.hid (by unfold lookV; rw [if_neg (by omega)])
  have HI : Hid (∀ w, Calls Tryz.prog 47 #[.string s] w fun e w' => e = .returned (.tuple #[.int .i64 0, .bool false]) ∧ w = w') := Lib.hid (fun w => (Input2_any s w).mono (by rintro e w' ⟨rfl, rfl⟩; rw [hs]; exact ⟨rfl, rfl⟩))
  clear hs
  refine (callsIn_wide (n := 6)).1 ?_
  refine callsIn_of_wp_marks Tryz.func138 rfl trivial ?_ rfl
  simp only [Tryz.ntmps138, List.size_toArray, List.length_cons, List.length_nil, Nat.reduceAdd, Nat.reduceSub, Array.replicate_succ, Array.replicate_zero, List.push_toArray, List.append_toArray, List.nil_append, List.cons_append]
  gi_wp2_with (first
    | (refine ⟨trivial, ?_⟩; gi_at_call 47; refine (callsIn_wide.2 (HI.out _)).mono ?_; rintro e w' ⟨rfl, rfl⟩)
    | (refine ⟨trivial, ?_⟩; gi_at_call 181; refine (backB_in Fence.wide _ trivial rfl _ _ _ _).mono ?_; rintro e w' ⟨rfl, rfl⟩))
  obtain ⟨W0, hW0⟩ : ∃ W0, (((w.alloc (.cells #[.string s] 9)).alloc (.cells #[.int .i64 0] 3)).alloc (.cells #[.bool false] 4)).alloc (.cells #[.slice a L.length cap] 54) = W0 := ⟨_, rfl⟩
  have hsz : W0.heap.size = w.heap.size + 4 := by rw [← hW0]; simp
  have hB0 : Below w.heap.size w W0 := by rw [← hW0]; (exact belB)
  have hm0 : LkMem w.heap.size s 0 false W0 := by rw [← hW0]; exact ⟨by (repeat (first | (rw [heap_alloc_if, if_pos (by simp; done)]; done) | (rw [heap_alloc_if, if_neg (by simp; omega)]) | (rw [heap_alloc_if, if_neg (by simp; done)]))), by (repeat (first | (rw [heap_alloc_if, if_pos (by simp; done)]; done) | (rw [heap_alloc_if, if_neg (by simp; omega)]) | (rw [heap_alloc_if, if_neg (by simp; done)]))), by (repeat (first | (rw [heap_alloc_if, if_pos (by simp; done)]; done) | (rw [heap_alloc_if, if_neg (by simp; omega)]) | (rw [heap_alloc_if, if_neg (by simp; done)]))), by simp⟩
  have hbk : W0.cell? ⟨w.heap.size + 3, 0, none⟩ = some (.slice a L.length cap) := by rw [← hW0, World.cell?_alloc_at _ _ _ _ (by simp)]; rfl
  rw [hW0]
  clear hW0
  have HB0 := Lib.hid hB0
  have HM0 := Lib.hid hm0
  have HVW := Lib.hid (HV.out.below (Nat.le_refl _) hB0)
  refine wpIn_rangeFunc_ownH (F := Fence.wide) rfl (by omega) (gf := 207) (lb := #[.pointer (some ⟨w.heap.size + 3, 0, none⟩)]) rfl trivial (enters_of Tryz.func207 (by kernel_rfl) rfl)
    (backB_stops Fence.wide 5 trivial rfl (by omega) (w.heap.size + 3) W0.heap.size (.slice a L.length cap) L L.length W0 (by omega) (Nat.le_refl _) hbk HVW.out.lies) belowK_t (belowK_b (Nat.le_refl _)) (Below.refl _ _) (fun _ => rfl)
    (fun pre W => (LkMem w.heap.size s 0 false W ∧ ∀ j ∈ pre, bdN L j.1 ≠ s) ∧ Below w.heap.size w W)
    (LkBody w.heap.size s L w)
    (OwnFrom.and (Own.from (fun s A B row hs hg hr => ⟨hs.1.own hg hr, hs.2⟩) _) (ownFrom_below (Nat.le_refl _) (by omega)))
    (fun c => OwnFrom.and (Own.from (fun s A B row hs hg hr => by obtain ⟨h1, ini, i, h2, h3, h5, h4⟩ := hs; exact ⟨h1, ini, i, h2, h3, h5, h4.own hg hr⟩) _) (ownFrom_below (Nat.le_refl _) (by omega)))
    ⟨⟨hm0, fun j hj => by cases hj⟩, hB0⟩
    (fun i a' W => ∃ Bx, w.heap.size + 3 < Bx ∧ W.heap[Bx]? = some (.cells #[.string (bdN L i.1), .int .i64 (bdD L i.1)] 64 (0, 0)) ∧
      a' = { tmps := #[.string s, .slice a L.length cap, .pointer (some ⟨w.heap.size, 0, none⟩), undef, .pointer (some ⟨w.heap.size + 1, 0, none⟩), .pointer (some ⟨w.heap.size + 1 + 1, 0, none⟩), .int .i64 0, .bool false, undef, .pointer (some ⟨Bx, 0, none⟩), .tuple #[.int .i64 0, .bool false], .string s, .tuple #[.int .i64 0, .bool false], .int .i64 0, .bool false, .bool false, undef, .slice a L.length cap, .func (.func 207) #[] #[.pointer (some ⟨w.heap.size + 1 + 1 + 1, 0, none⟩)], .int .i64 ((i.1 : Nat) : Int), BRow.el L i.1, undef, undef, undef, undef, undef, undef], defers := [] })
    (fun i a' _ X Y row hs hg hr => by obtain ⟨Bx, h1, h2, h3⟩ := hs; exact ⟨Bx, h1, (grownBy_keeps_cells hg (fun r e => (hr r e).2) h2 rfl).trans h2, h3⟩)
    ?assign ?body ?done ?stop
  case assign =>
    rintro l pre i W K ⟨⟨hm, hpre⟩, hB1⟩ hK
    unfold BRow.el
    gi_wp2
    have hs1 := hm.size
    refine hK _ _ ((KeepsOthers.alloc _ _).from _) ((Below.refl _ W).alloc (by omega) _) ⟨⟨hm.alloc _, hpre⟩, hB1.alloc hB1.size _⟩ ⟨W.heap.size, by omega, heap_alloc_new _ _, rfl⟩
  case body =>
    rintro l pre i a' W hl ⟨r, hr⟩ ⟨⟨hm, hpre⟩, hB1⟩ ⟨Bx, hBx, hbx, rfl⟩ hlt
    have HM := Lib.hid hm
    have HB1 := Lib.hid hB1
    have HP := Lib.hid hpre
    have q0 : W.cell? ⟨Bx, 0, none⟩ = some (.string (bdN L i.1)) := cell_of_row _ _ _ _ _ _ hbx
    have q1 : W.cell? ⟨Bx, 1, none⟩ = some (.int .i64 (bdD L i.1)) := cell_of_row _ _ _ _ _ _ hbx
    have qn : W.cell? ⟨w.heap.size, 0, none⟩ = some (.string s) := cell_of_row _ _ _ _ _ _ hm.nm
    have r0 : W.cell? ⟨w.heap.size + 1, 0, none⟩ = some (.int .i64 0) := cell_of_row _ _ _ _ _ _ hm.res
    have rk : W.cell? ⟨w.heap.size + 1 + 1, 0, none⟩ = some (.bool false) := cell_of_row _ _ _ _ _ _ hm.ok
    have rf : ∀ j, W.frozen? ⟨w.heap.size + 1, j, none⟩ = false := fun j => Joins.unfrozen_of_block hm.res j
    have rg : ∀ j, W.frozen? ⟨w.heap.size + 1 + 1, j, none⟩ = false := fun j => Joins.unfrozen_of_block hm.ok j
    unfold BRow.el
    generalize hN : bdN L i.1 = nk at *
    generalize hD : bdD L i.1 = dk at *
    have HN := Lib.hid hN
    have HD := Lib.hid hD
    clear hm hpre hB1 hbx hN hD
    by_cases he : nk = s
    · have HE := Lib.hid he
      have he2 : (nk.toList == s.toList) = true := by rw [he]; simp
      clear he
      gi_wp2
      have hs1 := HM.out.size
      have hh : ∀ k, k ≠ w.heap.size + 1 → k ≠ w.heap.size + 2 → ((W.setCell ⟨w.heap.size + 1, 0, none⟩ (.int .i64 dk)).setCell ⟨w.heap.size + 2, 0, none⟩ (.bool true)).heap[k]? = W.heap[k]? := fun k hk hk2 => (Below.heap_setCell _ _ _ _ hk2).trans (Below.heap_setCell _ _ _ _ hk)
      have key : LkMem w.heap.size s dk true ((W.setCell ⟨w.heap.size + 1, 0, none⟩ (.int .i64 dk)).setCell ⟨w.heap.size + 2, 0, none⟩ (.bool true)) := by
        refine ⟨?_, ?_, ?_, ?_⟩
        · rw [hh _ (by omega) (by omega)]; exact HM.out.nm
        · rw [Below.heap_setCell _ _ _ _ (by show w.heap.size + 1 ≠ w.heap.size + 2; omega)]; exact Joins.block_setCell HM.out.res _
        · exact Joins.block_setCell ((Below.heap_setCell _ _ _ _ (by show w.heap.size + 2 ≠ w.heap.size + 1; omega)).trans HM.out.ok) _
        · simp; omega
      have kf : KeepsFrom W0.heap.size W ((W.setCell ⟨w.heap.size + 1, 0, none⟩ (.int .i64 dk)).setCell ⟨w.heap.size + 2, 0, none⟩ (.bool true)) := ⟨by simp, fun k o hBk hk _ => by
        rw [hh _ (by omega) (by omega)]; exact hk⟩
      have bl : Below w.heap.size w ((W.setCell ⟨w.heap.size + 1, 0, none⟩ (.int .i64 dk)).setCell ⟨w.heap.size + 2, 0, none⟩ (.bool true)) :=
        (HB1.out.setCell (by show w.heap.size ≤ w.heap.size + 1; omega) _).setCell (by show w.heap.size ≤ w.heap.size + 2; omega) _
      exact ⟨kf, ⟨rfl, pre, i, rfl, HP.out, by rw [HN.out]; exact HE.out, by rw [HD.out]; exact key⟩, bl⟩
    · have HE := Lib.hid he
      have he2 : (nk.toList == s.toList) = false := by
        rw [beq_eq_false_iff_ne]; exact fun h => he (toList_inj h)
      clear he
      gi_wp2
      refine ⟨KeepsFrom.refl _ _, Below.refl _ _, ⟨⟨HM.out, fun j hj => ?_⟩, HB1.out⟩⟩
      rcases List.mem_append.1 hj with h1 | h1
      · exact HP.out j h1
      · obtain rfl : j = i := by simpa using h1
        rw [HN.out]; exact HE.out
  case done =>
    rintro D xs W hD rfl ⟨⟨hm, hpre⟩, hB1⟩ hK
    have HM := Lib.hid hm
    have HB1 := Lib.hid hB1
    have HP := Lib.hid hpre
    have r0 : W.cell? ⟨w.heap.size + 1, 0, none⟩ = some (.int .i64 0) := cell_of_row _ _ _ _ _ _ hm.res
    have rk : W.cell? ⟨w.heap.size + 1 + 1, 0, none⟩ = some (.bool false) := cell_of_row _ _ _ _ _ _ hm.ok
    have rf : ∀ j, W.frozen? ⟨w.heap.size + 1, j, none⟩ = false := fun j => Joins.unfrozen_of_block hm.res j
    have rg : ∀ j, W.frozen? ⟨w.heap.size + 1 + 1, j, none⟩ = false := fun j => Joins.unfrozen_of_block hm.ok j
    clear hm hB1 hpre
    gi_wp2
    have hDW := (Array.getElem?_eq_some_iff.1 hK).1
    have hs1 := HM.out.size
    have hh : ∀ k, k ≠ w.heap.size + 1 → k ≠ w.heap.size + 2 → ((W.setCell ⟨w.heap.size + 1, 0, none⟩ (.int .i64 0)).setCell ⟨w.heap.size + 2, 0, none⟩ (.bool false)).heap[k]? = W.heap[k]? := fun k hk hk2 => (Below.heap_setCell _ _ _ _ hk2).trans (Below.heap_setCell _ _ _ _ hk)
    have m2 : LkMem w.heap.size s 0 false ((W.setCell ⟨w.heap.size + 1, 0, none⟩ (.int .i64 0)).setCell ⟨w.heap.size + 2, 0, none⟩ (.bool false)) := by
      refine ⟨?_, ?_, ?_, ?_⟩
      · rw [hh _ (by omega) (by omega)]; exact HM.out.nm
      · rw [Below.heap_setCell _ _ _ _ (by show w.heap.size + 1 ≠ w.heap.size + 2; omega)]; exact Joins.block_setCell HM.out.res _
      · exact Joins.block_setCell ((Below.heap_setCell _ _ _ _ (by show w.heap.size + 2 ≠ w.heap.size + 1; omega)).trans HM.out.ok) _
      · simp; omega
    have bl : Below w.heap.size w ((W.setCell ⟨w.heap.size + 1, 0, none⟩ (.int .i64 0)).setCell ⟨w.heap.size + 2, 0, none⟩ (.bool false)) :=
      (HB1.out.setCell (by show w.heap.size ≤ w.heap.size + 1; omega) _).setCell (by show w.heap.size ≤ w.heap.size + 2; omega) _
    have hK' : ((W.setCell ⟨w.heap.size + 1, 0, none⟩ (.int .i64 0)).setCell ⟨w.heap.size + 2, 0, none⟩ (.bool false)).heap[D]? = some (.deferred (some [])) := by rw [hh _ (by omega) (by omega)]; exact hK
    refine ⟨by simp, .inl ⟨_, _, rfl, run_takeDeferred hK', ?_⟩⟩
    have m3 := m2.own (grownBy_putObj' _ D (.deferred none)) (fun r e => by cases e; exact ⟨_, hK', rfl⟩)
    have bl3 := bl.trans (belowK_b (w := w) (Nat.le_refl _) _ D _ (.deferred none) (by omega) hK' rfl rfl)
    show LeavesInM Fence.wide 6 Tryz.prog Tryz.f138 _ _ _ _ (((W.setCell ⟨w.heap.size + 1, 0, none⟩ (.int .i64 0)).setCell ⟨w.heap.size + 2, 0, none⟩ (.bool false)).putObj D (.deferred none))
    generalize (((W.setCell ⟨w.heap.size + 1, 0, none⟩ (.int .i64 0)).setCell ⟨w.heap.size + 2, 0, none⟩ (.bool false)).putObj D (.deferred none)) = W9 at m3 bl3 ⊢
    have e0 : W9.cell? ⟨w.heap.size + 1, 0, none⟩ = some (.int .i64 0) := cell_of_row _ _ _ _ _ _ m3.res
    have ek : W9.cell? ⟨w.heap.size + 1 + 1, 0, none⟩ = some (.bool false) := cell_of_row _ _ _ _ _ _ m3.ok
    have hn : lastN L s = none := lastN_none L s (ByteArray.empty, 0) fun j hj => HP.out ⟨j, hj⟩ (backs_mem _ (by simp))
    refine ⟨.tuple #[.int .i64 0, .bool false], ?_, ?_, .of_below bl3⟩
    · simp [results, Tryz.f138, go_sem, e0, ek]
    · rw [HS.out, hn]
  case stop =>
    rintro D c pre W hD ⟨k, hk, rfl⟩ ⟨⟨rfl, ini, i, hin, hini, hsi, hm1⟩, hB1⟩ hK
    have hm := hm1.own (grownBy_putObj' W D (.deferred none)) (fun r e => by cases e; exact ⟨_, hK, rfl⟩)
    have bl3 := hB1.trans (belowK_b (w := w) (Nat.le_refl _) W D _ (.deferred none) (by omega) hK rfl rfl)
    gi_wp2
    refine ⟨by simp, .inl ⟨_, _, rfl, run_takeDeferred hK, ?_⟩⟩
    generalize W.putObj D (.deferred none) = W9 at hm bl3 ⊢
    have e0 : W9.cell? ⟨w.heap.size + 1, 0, none⟩ = some (.int .i64 (bdD L i.1)) := cell_of_row _ _ _ _ _ _ hm.res
    have ek : W9.cell? ⟨w.heap.size + 1 + 1, 0, none⟩ = some (.bool true) := cell_of_row _ _ _ _ _ _ hm.ok
    have hii : L.length - 1 - k < L.length := by omega
    rw [backs_succ _ _ ⟨L.length - 1 - k, hii⟩ hk rfl] at hin
    obtain ⟨h1, h2⟩ := List.append_inj' hin rfl
    subst h1
    obtain rfl : (⟨L.length - 1 - k, hii⟩ : Fin L.length) = i := by simpa using h2
    have hn : lastN L s = some (bdD L (L.length - 1 - k)) := lastN_some L s (L.length - 1 - k) (ByteArray.empty, 0) hii hsi fun j hj hjl => hini ⟨j, hjl⟩ (backs_mem _ (by simp; omega))
    refine ⟨.tuple #[.int .i64 (bdD L (L.length - 1 - k)), .bool true], ?_, ?_, .of_below bl3⟩
    · simp [results, Tryz.f138, go_sem, e0, ek]
    · rw [HS.out, hn]
theorem lookup_any (s : ByteArray) (L : List (ByteArray × Int)) (v : Value) (w : World) (h : BindAt w v L) : Calls Tryz.prog 138 #[.string s, v] w (LkP L s w) := by
  by_cases hs : inpD s.toList = 0
  · exact lookup_no s L v w h hs
  · exact lookup_in s L v w h hs
end Go.Proofs.YtlheailebbngiaaGreatDoor
