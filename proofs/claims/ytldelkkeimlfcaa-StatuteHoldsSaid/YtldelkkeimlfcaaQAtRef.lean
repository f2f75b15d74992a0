/- At, as the document says; what it answers. -/
import Derived.Test.YtldelkkeimlfcaaQBack
set_option linter.all false
namespace Go.Proofs.Ytldelkkeimlfcaa
open Go.RowKit
/-- The versions of a statute, in memory. -/
structure VsAt (w : World) (v : Value) (L : List VerP) (x : VRow) : Prop where
  lies : x.Lies w.heap.size w v L.length
  each : ∀ i V, L[i]? = some V → x.f i = V.frm ∧ x.m i = V.mode ∧ x.u i = V.unit ∧ I64 V.frm ∧ VerSmall V ∧ LensV V ∧
    VerR w V (.slice (x.a3 i) (x.n3 i) (x.c3 i)) (.slice (x.a4 i) (x.n4 i) (x.c4 i)) (.slice (x.a5 i) (x.n5 i) (x.c5 i)) (.slice (x.a6 i) (x.n6 i) (x.c6 i)) (.slice (x.a7 i) (x.n7 i) (x.c7 i))
theorem VsAt.same {w w' : World} {v : Value} {L : List VerP} {x : VRow} (h : VsAt w v L x) (hb : Below w.heap.size w w') : VsAt w' v L x := by
  refine ⟨?_, fun i V hV => ?_⟩
  · obtain ⟨h0, a, cap, hv, h1⟩ := h.lies.below hb
    refine ⟨h0, a, cap, hv, h1.imp id ?_⟩
    rintro ⟨b, off, ha, hlt, hc⟩
    exact ⟨b, off, ha, by have := hb.size; omega, hc⟩
  · obtain ⟨h1, h2, h3, h4, h5, h6, h7⟩ := h.each i V hV
    exact ⟨h1, h2, h3, h4, h5, h6, h7.below hb⟩
def zeroP : VerP := ⟨0, 0, 0, [], [], [], [], []⟩
def DayOk (d : Int) : Prop := 0 ≤ d ∧ d ≤ 73048
/-- V is the version in force on a day; b: there is one. -/
def AtR (L : List VerP) (d : Int) (V : VerP) (b : Bool) : Prop :=
  (b = true ∧ DayOk d ∧ ∃ k, L[k]? = some V ∧ V.frm ≤ d ∧ ∀ (i : Nat) (U : VerP), k < i → L[i]? = some U → d < U.frm) ∨
  (b = false ∧ V = zeroP ∧ (¬ DayOk d ∨ ∀ (i : Nat) (U : VerP), L[i]? = some U → d < U.frm))
theorem AtR.uniq {L : List VerP} {d : Int} {V U : VerP} {b c : Bool} (h : AtR L d V b) (h' : AtR L d U c) : V = U ∧ b = c := by
  rcases h with ⟨rfl, h0, k, h1, h2, h3⟩ | ⟨rfl, rfl, h0⟩ <;> rcases h' with ⟨rfl, g0, k', g1, g2, g3⟩ | ⟨rfl, rfl, g0⟩
  · have a : ¬ k < k' := fun hk => by have := h3 k' U hk g1; omega
    have b : ¬ k' < k := fun hk => by have := g3 k V hk h1; omega
    obtain rfl : k = k' := by omega
    rw [h1] at g1
    exact ⟨Option.some.inj g1, rfl⟩
  · rcases g0 with g0 | g0
    · exact absurd h0 g0
    · have := g0 k V h1; omega
  · rcases h0 with h0 | h0
    · exact absurd g0 h0
    · have := h0 k' U g1; omega
  · exact ⟨rfl, rfl⟩
def AtPost (L : List VerP) (d : Int) (w : World) (e : Ending) (w' : World) : Prop :=
  ∃ V b v3 v4 v5 v6 v7, e = .returned (.tuple #[.agg #[.int .i64 V.frm, .int .i64 V.mode, .int .i64 V.unit, v3, v4, v5, v6, v7], .bool b]) ∧ w.Grows w' ∧ VerR w' V v3 v4 v5 v6 v7 ∧ AtR L d V b
theorem verR_zero (w : World) : VerR w zeroP (.slice none 0 0) (.slice none 0 0) (.slice none 0 0) (.slice none 0 0) (.slice none 0 0) := by
  have hs : ∀ c, SrcRow w (.slice none 0 0) c [] := fun c => ⟨by simp, fun x hx => (by cases hx), fun u hu => (by simp at hu), none, 0, rfl, .inl ⟨rfl, rfl, rfl⟩⟩
  exact ⟨[], [], [], rfl, rfl, rfl, hs _, hs _, hs _, hs _, hs _, fun x hx => (by cases hx), fun x hx => (by simp [grR] at hx), fun x hx => (by cases hx)⟩
theorem valid_yes (d : Int) (w : World) (h : DayOk d) : Calls Try.prog 36 #[.int .i64 d] w fun e w' => e = .returned (.bool true) ∧ w = w' := by
  obtain ⟨h0, h1⟩ := h
  go_enter Try.func36, Try.ntmps36
  go_wp2_with fail
  go_returns
  exact ⟨rfl, rfl⟩
theorem validDay_yes (d : Int) (w : World) (h : DayOk d) : Calls Try.prog 39 #[.int .i64 d] w fun e w' => e = .returned (.bool true) ∧ w = w' := by
  obtain ⟨h0, h1⟩ := h
  go_enter Try.func39, Try.ntmps39
  go_wp2_with fail
  go_returns
  exact ⟨rfl, rfl⟩
theorem valid_no (d : Int) (w : World) (h : ¬ DayOk d) : Calls Try.prog 36 #[.int .i64 d] w fun e w' => e = .returned (.bool false) ∧ w = w' := by
  by_cases h0 : 0 ≤ d
  · have h1 : ¬ d ≤ 73048 := fun h1 => h ⟨h0, h1⟩
    clear h
    go_enter Try.func36, Try.ntmps36
    go_wp2_with fail
    go_returns
    exact ⟨rfl, rfl⟩
  · clear h
    go_enter Try.func36, Try.ntmps36
    go_wp2_with fail
    go_returns
    exact ⟨rfl, rfl⟩
theorem validDay_no (d : Int) (w : World) (h : ¬ DayOk d) : Calls Try.prog 39 #[.int .i64 d] w fun e w' => e = .returned (.bool false) ∧ w = w' := by
  by_cases h0 : 0 ≤ d
  · have h1 : ¬ d ≤ 73048 := fun h1 => h ⟨h0, h1⟩
    clear h
    go_enter Try.func39, Try.ntmps39
    go_wp2_with fail
    go_returns
    exact ⟨rfl, rfl⟩
  · clear h
    go_enter Try.func39, Try.ntmps39
    go_wp2_with fail
    go_returns
    exact ⟨rfl, rfl⟩
set_option maxHeartbeats 4000000 in
set_option maxRecDepth 100000 in
theorem refAt_any (nm : ByteArray) (cur : Int) (v : Value) (L : List VerP) (x : VRow) (d : Int) (w : World) (h : VsAt w v L x) :
    Calls Try.prog 20 #[.agg #[.string nm, .int .i64 cur, v], .int .i64 d] w (AtPost L d w) := by
  have HV := Lib.hid h
  obtain ⟨hn, a, cap, rfl, -⟩ := h.lies
  clear h
  by_cases hd : DayOk d
  · go_enter Try.func20, Try.ntmps20
    go_wp2_with (go_at_call 39; refine (validDay_yes d _ hd).mono ?_; rintro e w' ⟨rfl, rfl⟩)
    go_loopw [6] (fun v6 wr => ∃ k : Nat, k ≤ L.length ∧ v6 = .int .i64 ((L.length : Int) - 1 - k) ∧ Hid (∀ (i : Nat) (U : VerP), L.length - k ≤ i → L[i]? = some U → d < U.frm) ∧ World.Grows ((w.alloc (.cells #[.string nm, .int .i64 cur, .slice a L.length cap] 53)).alloc (.cells #[.int .i64 0, .int .i64 0, .int .i64 0, .slice none 0 0, .slice none 0 0, .slice none 0 0, .slice none 0 0, .slice none 0 0] 34)) wr) (fun v6 _ => (intOf v6 + 1).toNat)
    case atStart => exact ⟨0, by omega, by simp, Lib.hid (fun i U hi hU => by have := (List.getElem?_eq_some_iff.1 hU).1; omega), .refl _⟩
    case round =>
      obtain ⟨k, hk, rfl, HNO, bs, dr, rfl⟩ := hrel
      by_cases hlt : k < L.length
      · obtain ⟨-, a', cap', hv, hx⟩ := HV.out.lies
        simp only [Value.slice.injEq, true_and] at hv
        obtain ⟨rfl, rfl⟩ := hv
        rcases hx with hx | ⟨b, off, rfl, hb, hx⟩
        · omega
        obtain ⟨i, hi⟩ : ∃ i : Nat, (L.length : Int) - 1 - k = i := ⟨L.length - 1 - k, by omega⟩
        have hii : i < L.length := by omega
        have hik : L.length - (k + 1) = i := by omega
        obtain ⟨q0, q1, q2, q3, q4, q5, q6, q7⟩ := hx i hii
        obtain ⟨V, hV⟩ : ∃ V, L[i]? = some V := ⟨_, List.getElem?_eq_getElem hii⟩
        obtain ⟨ef, em, eu, hfr, -, -, hver⟩ := HV.out.each i V hV
        have hh : V.frm = V.frm := rfl
        have d1 : (i : Int) < (L.length : Int) := by omega
        have d0 : (0 : Int) ≤ (i : Int) := by omega
        have hlen1 : (L.length : Int) ≤ 1000 := by omega
        rw [hi]
        have HI := Lib.hid hi
        have HIK := Lib.hid hik
        have HVV := Lib.hid hV
        have HVR := Lib.hid hver
        have HEF := Lib.hid (And.intro ef (And.intro em eu))
        rw [ef] at q0
        rw [em] at q1
        rw [eu] at q2
        obtain ⟨hf0, hf1⟩ := hfr
        generalize hfv : V.frm = fv at *
        generalize hmv : V.mode = mv at *
        generalize huv : V.unit = uv at *
        have HFV := Lib.hid (And.intro hfv (And.intro hmv huv))
        clear hx hi hik hV hver ef em eu hfv hmv huv hh
        by_cases hle : fv ≤ d
        · go_wp2_with fail
          have HS := Lib.hid hle
          go_returns
          refine ⟨V, true, .slice (x.a3 i) (x.n3 i) (x.c3 i), .slice (x.a4 i) (x.n4 i) (x.c4 i), .slice (x.a5 i) (x.n5 i) (x.c5 i), .slice (x.a6 i) (x.n6 i) (x.c6 i), .slice (x.a7 i) (x.n7 i) (x.c7 i), by rw [HFV.out.1, HFV.out.2.1, HFV.out.2.2], .of_below (by (repeat' (first | (with_reducible exact Below.refl _ _) | (with_reducible assumption) | (with_reducible refine Below.grow ?_ ?_ _ _) | (with_reducible refine Below.alloc ?_ ?_ _) | (with_reducible refine Below.drewN ?_ _) | (with_reducible refine Below.drew ?_) | (with_reducible refine Below.setCell ?_ ?_ _) | go_size))), HVR.out.below (by (repeat' (first | (with_reducible exact Below.refl _ _) | (with_reducible assumption) | (with_reducible refine Below.grow ?_ ?_ _ _) | (with_reducible refine Below.alloc ?_ ?_ _) | (with_reducible refine Below.drewN ?_ _) | (with_reducible refine Below.drew ?_) | (with_reducible refine Below.setCell ?_ ?_ _) | go_size))), ?_⟩
          exact .inl ⟨rfl, hd, i, HVV.out, by rw [HFV.out.1]; exact HS.out, fun j U hj hU => HNO.out j U (by have := HIK.out; omega) hU⟩
        · have HS := Lib.hid hle
          go_wp2_with fail
          go_roundw
          case rel => exact ⟨k + 1, by omega, by have := HI.out; first | (congr 1; omega) | (simp; omega), Lib.hid (fun j U hj hU => by
            rcases Nat.lt_or_ge j (L.length - k) with h1 | h1
            · obtain rfl : j = i := by have := HIK.out; omega
              have := HVV.out.symm.trans hU
              obtain rfl := Option.some.inj this
              have := HS.out
              rw [HFV.out.1]; omega
            · exact HNO.out j U h1 hU), .of_below (by (repeat' (first | (with_reducible exact Below.refl _ _) | (with_reducible assumption) | (with_reducible refine Below.grow ?_ ?_ _ _) | (with_reducible refine Below.alloc ?_ ?_ _) | (with_reducible refine Below.drewN ?_ _) | (with_reducible refine Below.drew ?_) | (with_reducible refine Below.setCell ?_ ?_ _) | go_size)))⟩
          case measure => first | (simp [intOf]; done) | (simp [intOf]; omega)
      · obtain rfl : k = L.length := by omega
        have hz : (L.length : Int) - 1 - L.length = -1 := by omega
        rw [hz]
        clear hz
        go_wp2_with fail
        go_returns
        exact ⟨zeroP, false, _, _, _, _, _, rfl, .of_below (by (repeat' (first | (with_reducible exact Below.refl _ _) | (with_reducible assumption) | (with_reducible refine Below.grow ?_ ?_ _ _) | (with_reducible refine Below.alloc ?_ ?_ _) | (with_reducible refine Below.drewN ?_ _) | (with_reducible refine Below.drew ?_) | (with_reducible refine Below.setCell ?_ ?_ _) | go_size))), verR_zero _, .inr ⟨rfl, rfl, .inr fun i U hU => HNO.out i U (by omega) hU⟩⟩
  · go_enter Try.func20, Try.ntmps20
    go_wp2_with (go_at_call 39; refine (validDay_no d _ hd).mono ?_; rintro e w' ⟨rfl, rfl⟩)
    go_returns
    exact ⟨zeroP, false, _, _, _, _, _, rfl, .of_below (by (repeat' (first | (with_reducible exact Below.refl _ _) | (with_reducible assumption) | (with_reducible refine Below.grow ?_ ?_ _ _) | (with_reducible refine Below.alloc ?_ ?_ _) | (with_reducible refine Below.drewN ?_ _) | (with_reducible refine Below.drew ?_) | (with_reducible refine Below.setCell ?_ ?_ _) | go_size))), verR_zero _, .inr ⟨rfl, rfl, .inl hd⟩⟩
end Go.Proofs.Ytldelkkeimlfcaa
