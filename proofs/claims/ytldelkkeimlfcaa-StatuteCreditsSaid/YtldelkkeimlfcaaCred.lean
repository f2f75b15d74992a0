/- Credit: which kinds a version credits. -/
import Derived.Test.YtldelkkeimlfcaaOfSaid
set_option linter.all false
namespace Go.Proofs.Ytldelkkeimlfcaa
open Go.RowKit

/-- A slice of credits: n of them. -/
def CreditsAt (w : World) (v : Value) (n : Nat) (kd lm : Nat → Int) : Prop :=
  n ≤ 1000 ∧ ∃ a cap, v = .slice a n cap ∧ (n = 0 ∨ ∃ b off, a = some ⟨b, off, none⟩ ∧ b < w.heap.size ∧ ∀ i, i < n →
    w.cell? ⟨b, off + i * 2, none⟩ = some (.int .i64 (kd i)) ∧ w.cell? ⟨b, off + i * 2 + 1, none⟩ = some (.int .i64 (lm i)))
theorem CreditsAt.same {w w' : World} {v : Value} {n : Nat} {kd lm : Nat → Int} (h : CreditsAt w v n kd lm) (hsz : w.heap.size ≤ w'.heap.size) (hw : ∀ k, k < w.heap.size → w'.heap[k]? = w.heap[k]?) : CreditsAt w' v n kd lm := by
  obtain ⟨h0, a, cap, hv, h1⟩ := h
  refine ⟨h0, a, cap, hv, h1.imp id ?_⟩
  rintro ⟨b, off, ha, hb, hc⟩
  refine ⟨b, off, ha, by omega, fun i hi => ?_⟩
  have e : ∀ o, w'.cell? ⟨b, o, none⟩ = w.cell? ⟨b, o, none⟩ := fun o => World.cell?_of_block (hw b hb)
  rw [e, e]
  exact hc i hi
theorem CreditsAt.alloc {w : World} {v : Value} {n : Nat} {kd lm : Nat → Int} (h : CreditsAt w v n kd lm) (o : Obj) : CreditsAt (w.alloc o) v n kd lm := h.same (by simp) fun k hk => Below.heap_alloc w o k hk
theorem CreditsAt.grow {w : World} {v : Value} {n : Nat} {kd lm : Nat → Int} (h : CreditsAt w v n kd lm) (bs : Array Obj) (d : Nat) : CreditsAt (w.grow bs d) v n kd lm := h.same (by simp) fun k hk => World.heap_grow w bs d hk
/-- r is the index of the first credit of a kind; -1: there is none. -/
def CredFound (kd : Nat → Int) (kind : Int) (n : Nat) (r : Int) : Prop := (r = -1 ∧ ∀ i, i < n → kd i ≠ kind) ∨ ∃ k : Nat, k < n ∧ r = k ∧ kd k = kind ∧ ∀ i, i < k → kd i ≠ kind
theorem CredFound.eq {kd : Nat → Int} {kind : Int} {n : Nat} {r r' : Int} (h : CredFound kd kind n r) (h' : CredFound kd kind n r') : r = r' := by
  rcases h with ⟨h1, h2⟩ | ⟨k, h1, h2, h3, h4⟩ <;> rcases h' with ⟨g1, g2⟩ | ⟨k', g1, g2, g3, g4⟩
  · omega
  · exact absurd g3 (h2 _ g1)
  · exact absurd h3 (g2 _ h1)
  · have : ¬ k < k' := fun h => g4 _ h h3
    have : ¬ k' < k := fun h => h4 _ h g3
    omega
def credV (lm : Nat → Int) (r : Int) : Value := if r < 0 then .tuple #[.int .i64 0, .bool false] else .tuple #[.int .i64 (lm r.toNat), .bool true]
theorem credV_yes (lm : Nat → Int) (k : Nat) : credV lm k = .tuple #[.int .i64 (lm k), .bool true] := by unfold credV; rw [if_neg (by omega)]; rfl
theorem credV_no (lm : Nat → Int) : credV lm (-1) = .tuple #[.int .i64 0, .bool false] := rfl
def IdxPost (kd : Nat → Int) (kind : Int) (n : Nat) (w : World) (e : Ending) (w' : World) : Prop := ∃ r : Int, e = .returned (.int .i64 r) ∧ CredFound kd kind n r ∧ w.Grows w'
def CredPost (kd lm : Nat → Int) (kind : Int) (n : Nat) (w : World) (e : Ending) (w' : World) : Prop := ∃ r : Int, e = .returned (credV lm r) ∧ CredFound kd kind n r ∧ w.Grows w'
def None (kd : Nat → Int) (kind : Int) (k : Nat) : Prop := ∀ i, i < k → kd i ≠ kind
theorem None.zero (kd : Nat → Int) (kind : Int) : None kd kind 0 := fun i hi => by omega
theorem None.succ {kd : Nat → Int} {kind : Int} {k : Nat} (h : None kd kind k) (hk : kd k ≠ kind) : None kd kind (k + 1) := fun i hi => by
  rcases Nat.lt_or_ge i k with h1 | h1
  · exact h i h1
  · obtain rfl : i = k := by omega
    exact hk
theorem cred1_walk (k c lim : Int) (b : Nat) (w : World) (hb : w.cell? ⟨b, 0, none⟩ = some (.int .i64 k)) (hlt : b < w.heap.size) :
    Calls Try.prog 35 #[.agg #[.int .i64 c, .int .i64 lim], .pointer (some ⟨b, 0, none⟩)] w fun e w' => e = .returned (.bool (c == k)) ∧ w.Grows w' := by
  go_enter Try.func35, Try.ntmps35
  go_wp2_with fail
  go_returns
  exact ⟨rfl, .of_below (by (repeat' (first | (with_reducible exact Below.refl _ _) | (with_reducible assumption) | (with_reducible refine Below.grow ?_ ?_ _ _) | (with_reducible refine Below.alloc ?_ ?_ _) | (with_reducible refine Below.drewN ?_ _) | (with_reducible refine Below.drew ?_) | (with_reducible refine Below.setCell ?_ ?_ _) | go_size)))⟩
set_option maxHeartbeats 1000000 in
theorem indexFunc_walk (a : Option Addr) (n cap : Nat) (kd lm : Nat → Int) (kind : Int) (b : Nat) (w : World) (h : CreditsAt w (.slice a n cap) n kd lm) (hb : w.cell? ⟨b, 0, none⟩ = some (.int .i64 kind)) (hlt : b < w.heap.size) :
    Calls Try.prog 34 #[.slice a n cap, .func (Fn.func 35) #[] #[.pointer (some ⟨b, 0, none⟩)]] w (IdxPost kd kind n w) := by
  obtain ⟨hn, a', cap', hv, hc⟩ := h
  simp only [Value.slice.injEq, true_and] at hv
  obtain ⟨rfl, rfl⟩ := hv
  have HC := Lib.hid hc
  clear hc
  go_enter Try.func34, Try.ntmps34
  go_wp2_with fail
  go_loopw [8] (fun v8 wr => ∃ k : Nat, k ≤ n ∧ v8 = .int .i64 k ∧ None kd kind k ∧ w.Grows wr) (fun v8 _ => n - (intOf v8).toNat)
  case atStart => exact ⟨0, by omega, rfl, .zero _ _, .refl _⟩
  case round =>
    obtain ⟨k, hk, rfl, hno, bs, d, rfl⟩ := hrel
    have HNO := Lib.hid hno
    clear hno
    by_cases hlt2 : k < n
    · rcases HC.out with h0 | ⟨g, off, rfl, hg, hx⟩
      · omega
      · obtain ⟨x0, x1⟩ := hx k hlt2
        have d1 : (k : Int) < (n : Int) := by omega
        by_cases he : kd k = kind
        · have hb2 : (kd k == kind) = true := by simp [he]
          have HE := Lib.hid he
          clear he hx
          go_wp2_with (go_at_call 35; refine (cred1_walk kind _ _ b _ (by simp [go_sem, hlt, hb]) (by simp; omega)).mono ?_; rintro e w' ⟨rfl, bs2, d2, rfl⟩)
          go_returns
          exact ⟨k, rfl, .inr ⟨k, hlt2, rfl, HE.out, HNO.out⟩, .of_below (by (repeat' (first | (with_reducible exact Below.refl _ _) | (with_reducible assumption) | (with_reducible refine Below.grow ?_ ?_ _ _) | (with_reducible refine Below.alloc ?_ ?_ _) | (with_reducible refine Below.drewN ?_ _) | (with_reducible refine Below.drew ?_) | (with_reducible refine Below.setCell ?_ ?_ _) | go_size)))⟩
        · have hb2 : (kd k == kind) = false := by simp [he]
          have HE := Lib.hid he
          clear he hx
          go_wp2_with (go_at_call 35; refine (cred1_walk kind _ _ b _ (by simp [go_sem, hlt, hb]) (by simp; omega)).mono ?_; rintro e w' ⟨rfl, bs2, d2, rfl⟩)
          go_roundw
          case rel => exact ⟨k + 1, by omega, by go_num, HNO.out.succ HE.out, .of_below (by (repeat' (first | (with_reducible exact Below.refl _ _) | (with_reducible assumption) | (with_reducible refine Below.grow ?_ ?_ _ _) | (with_reducible refine Below.alloc ?_ ?_ _) | (with_reducible refine Below.drewN ?_ _) | (with_reducible refine Below.drew ?_) | (with_reducible refine Below.setCell ?_ ?_ _) | go_size)))⟩
          case measure => simp [intOf]; omega
    · obtain rfl : k = n := by omega
      go_wp2_with fail
      go_returns
      exact ⟨-1, rfl, .inl ⟨rfl, HNO.out⟩, .of_below (by (repeat' (first | (with_reducible exact Below.refl _ _) | (with_reducible assumption) | (with_reducible refine Below.grow ?_ ?_ _ _) | (with_reducible refine Below.alloc ?_ ?_ _) | (with_reducible refine Below.drewN ?_ _) | (with_reducible refine Below.drew ?_) | (with_reducible refine Below.setCell ?_ ?_ _) | go_size)))⟩
set_option maxHeartbeats 1000000 in
theorem credit2_walk (c0 c1 c2 c3 c4 c5 c6 c7 : Value) (n : Nat) (kd lm : Nat → Int) (kind : Int) (w : World) (h : CreditsAt w c3 n kd lm) :
    Calls Try.prog 16 #[.agg #[c0, c1, c2, c3, c4, c5, c6, c7], .int .i64 kind] w (CredPost kd lm kind n w) := by
  have H := Lib.hid h
  obtain ⟨hn, a, cap, rfl, hc⟩ := h
  have HC := Lib.hid hc
  clear hc
  go_enter Try.func16, Try.ntmps16
  go_wp2_with fail
  refine (indexFunc_walk a n cap kd lm kind (w.heap.size + 1) _ ((H.out.alloc _).alloc _) (by simp [go_sem]) (by simp)).mono ?_
  rintro e w' ⟨r, rfl, hf, bs, d, rfl⟩
  have HF := Lib.hid hf
  rcases hf with ⟨rfl, -⟩ | ⟨k, hk, rfl, -, -⟩
  · go_wp2_with fail
    go_returns
    exact ⟨-1, rfl, HF.out, .of_below (by (repeat' (first | (with_reducible exact Below.refl _ _) | (with_reducible assumption) | (with_reducible refine Below.grow ?_ ?_ _ _) | (with_reducible refine Below.alloc ?_ ?_ _) | (with_reducible refine Below.drewN ?_ _) | (with_reducible refine Below.drew ?_) | (with_reducible refine Below.setCell ?_ ?_ _) | go_size)))⟩
  · rcases HC.out with h0 | ⟨g, off, rfl, hg, hx⟩
    · omega
    · obtain ⟨x0, x1⟩ := hx k hk
      have d1 : (k : Int) < (n : Int) := by omega
      have d2 : ¬ (k : Int) < 0 := by omega
      clear hx
      go_wp2_with fail
      go_returns
      exact ⟨k, by rw [credV_yes]; rfl, HF.out, .of_below (by (repeat' (first | (with_reducible exact Below.refl _ _) | (with_reducible assumption) | (with_reducible refine Below.grow ?_ ?_ _ _) | (with_reducible refine Below.alloc ?_ ?_ _) | (with_reducible refine Below.drewN ?_ _) | (with_reducible refine Below.drew ?_) | (with_reducible refine Below.setCell ?_ ?_ _) | go_size)))⟩
set_option maxHeartbeats 1000000 in
theorem credit1_walk (c0 c1 c2 c3 c4 c5 c6 c7 : Value) (n : Nat) (kd lm : Nat → Int) (kind : Int) (w : World) (h : CreditsAt w c3 n kd lm) :
    Calls Try.prog 17 #[.agg #[c0, c1, c2, c3, c4, c5, c6, c7], .int .i64 kind] w (CredPost kd lm kind n w) := by
  obtain ⟨hn, a, cap, rfl, hc⟩ := h
  have HC := Lib.hid hc
  clear hc
  go_enter Try.func17, Try.ntmps17
  go_wp2_with fail
  go_loopw [6] (fun v6 wr => ∃ k : Nat, k ≤ n ∧ v6 = .int .i64 k ∧ None kd kind k ∧ World.Grows (w.alloc (.cells #[c0, c1, c2, .slice a n cap, c4, c5, c6, c7] 34)) wr) (fun v6 _ => n - (intOf v6).toNat)
  case atStart => exact ⟨0, by omega, rfl, .zero _ _, .refl _⟩
  case round =>
    obtain ⟨k, hk, rfl, hno, bs, d, rfl⟩ := hrel
    have HNO := Lib.hid hno
    clear hno
    by_cases hlt2 : k < n
    · rcases HC.out with h0 | ⟨g, off, rfl, hg, hx⟩
      · omega
      · obtain ⟨x0, x1⟩ := hx k hlt2
        have d1 : (k : Int) < (n : Int) := by omega
        by_cases he : kd k = kind
        · have hb2 : (kd k == kind) = true := by simp [he]
          have HE := Lib.hid he
          clear he hx
          go_wp2_with fail
          go_returns
          exact ⟨k, by rw [credV_yes]; rfl, .inr ⟨k, hlt2, rfl, HE.out, HNO.out⟩, .of_below (by (repeat' (first | (with_reducible exact Below.refl _ _) | (with_reducible assumption) | (with_reducible refine Below.grow ?_ ?_ _ _) | (with_reducible refine Below.alloc ?_ ?_ _) | (with_reducible refine Below.drewN ?_ _) | (with_reducible refine Below.drew ?_) | (with_reducible refine Below.setCell ?_ ?_ _) | go_size)))⟩
        · have hb2 : (kd k == kind) = false := by simp [he]
          have HE := Lib.hid he
          clear he hx
          go_wp2_with fail
          go_roundw
          case rel => exact ⟨k + 1, by omega, by go_num, HNO.out.succ HE.out, .of_below (by (repeat' (first | (with_reducible exact Below.refl _ _) | (with_reducible assumption) | (with_reducible refine Below.grow ?_ ?_ _ _) | (with_reducible refine Below.alloc ?_ ?_ _) | (with_reducible refine Below.drewN ?_ _) | (with_reducible refine Below.drew ?_) | (with_reducible refine Below.setCell ?_ ?_ _) | go_size)))⟩
          case measure => simp [intOf]; omega
    · obtain rfl : k = n := by omega
      go_wp2_with fail
      go_returns
      exact ⟨-1, by rw [credV_no]; rfl, .inl ⟨rfl, HNO.out⟩, .of_below (by (repeat' (first | (with_reducible exact Below.refl _ _) | (with_reducible assumption) | (with_reducible refine Below.grow ?_ ?_ _ _) | (with_reducible refine Below.alloc ?_ ?_ _) | (with_reducible refine Below.drewN ?_ _) | (with_reducible refine Below.drew ?_) | (with_reducible refine Below.setCell ?_ ?_ _) | go_size)))⟩
/-- A made version's credits. -/
def crK (V : VerP) (i : Nat) : Int := (V.cr.getD i (0, 0)).1
def crM (V : VerP) (i : Nat) : Int := (V.cr.getD i (0, 0)).2
theorem VerAt.credits {B : Nat} {w : World} {V : VerP} {v3 v4 v5 v6 v7 : Value} (h : VerAt B w V v3 v4 v5 v6 v7) (hl : V.cr.length ≤ 1000) : CreditsAt w v3 V.cr.length (crK V) (crM V) := by
  obtain ⟨ql, qg, qr, H1, H2, H3, H4, H5, e1, e2, e3, ord, r1, r2, r3, r4, r5⟩ := h
  obtain ⟨a, cap, hv, hc⟩ := r1.toG.cells
  have hlen : (crL V.cr).length = V.cr.length := by simp [crL]
  rw [hlen] at hv hc
  refine ⟨hl, a, cap, hv, hc.imp id ?_⟩
  rintro ⟨g, ha, hb, hlt, hx⟩
  refine ⟨g, 0, ha, hlt, fun i hi => ?_⟩
  have hget : (crL V.cr).getD i [] = [.int .i64 (crK V i), .int .i64 (crM V i)] := by
    simp only [crL, crK, crM, List.getD_eq_getElem?_getD, List.getElem?_map, List.getElem?_eq_getElem hi]; rfl
  have h3 := fun j u hj hu => hx i j u hi hj (by rw [hget]; exact hu)
  exact ⟨by rw [show 0 + i * 2 = i * 2 + 0 by omega]; exact h3 0 _ (by omega) rfl, by rw [show 0 + i * 2 + 1 = i * 2 + 1 by omega]; exact h3 1 _ (by omega) rfl⟩
theorem twistP_cr (n : Int) (V : VerP) : (twistP n V).cr.length = V.cr.length := by
  unfold twistP
  repeat' split
  all_goals first | rfl | skip
  all_goals simp_all
theorem ofP_cr (R : RawV) : (ofP R).cr.length ≤ 1000 := by
  have := (made_lens R).1
  unfold ofP
  split
  · exact this
  · split
    · rw [twistP_cr]; exact this
    · exact this
end Go.Proofs.Ytldelkkeimlfcaa
