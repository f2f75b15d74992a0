/- pensionmade.Value; the laws' steps and bindings. -/
import Derived.Test.YtlheailebbngiaaGreatDoorStpP
import Derived.Test.YtlheailebbngiaaGreatDoorStY
import Derived.Test.YtlheailebbngiaaGreatDoorQSrc
import Derived.Test.YtlheailebbngiaaGreatDoorTakeN
import Derived.Test.YtlheailebbngiaaGreatDoorQEvN
set_option linter.all false
namespace Go.Proofs.YtlheailebbngiaaGreatDoor
open Go.RowKit
theorem tdiv_i64 {n k : Int} (hn : I64 n) (hk : 2 ≤ k) : -9223372036854775808 ≤ n.tdiv k ∧ n.tdiv k ≤ 9223372036854775807 := by
  obtain ⟨h1, h2⟩ := hn
  by_cases h : 0 ≤ n
  · rw [Int.tdiv_eq_ediv_of_nonneg h]
    have := Int.ediv_le_self k h
    have := Int.ediv_nonneg h (show 0 ≤ k by omega)
    omega
  · have e : n.tdiv k = -((-n) / k) := by
      rw [← Int.tdiv_eq_ediv_of_nonneg (show 0 ≤ -n by omega), Int.neg_tdiv, Int.neg_neg]
    have h3 : (-n) / k * k ≤ -n := Int.ediv_mul_le _ (by omega)
    have h4 : 0 ≤ (-n) / k := Int.ediv_nonneg (by omega) (by omega)
    have h5 : (-n) / k * 2 ≤ (-n) / k * k := Int.mul_le_mul_of_nonneg_left hk h4
    omega
def valA (n dim : Int) : Value := .agg #[.int .i64 dim, .bool (valP n dim).yes, .int .i64 (valP n dim).n, .int .i64 (valP n dim).d]
set_option maxHeartbeats 2000000 in
theorem value_any (n dim : Int) (w : World) (hn : I64 n) : Calls Tryz.prog 62 #[.int .i64 n, .int .i64 dim] w fun e w' => e = .returned (valA n dim) ∧ w.Grows w' := by
  obtain ⟨hn1, hn2⟩ := hn
  by_cases hd : dim = 1
  · subst hd
    by_cases hm : n.tmod 2 = 0
    · have HV : Hid (valA n 1 = .agg #[.int .i64 1, .bool true, .int .i64 0, .int .i64 0]) := Lib.hid (by unfold valA valP; simp [hm])
      rw [HV.out]
      have hb : (n.tmod 2 == 0) = true := by simpa using hm
      go_enter Tryz.func62, Tryz.ntmps62
      go_wp2_with fail
      go_returns
      exact ⟨rfl, .of_below (by (exact belB))⟩
    · have HV : Hid (valA n 1 = .agg #[.int .i64 1, .bool false, .int .i64 0, .int .i64 0]) := Lib.hid (by unfold valA valP; simp [hm])
      rw [HV.out]
      have hb : (n.tmod 2 == 0) = false := by simpa using hm
      go_enter Tryz.func62, Tryz.ntmps62
      go_wp2_with fail
      go_returns
      exact ⟨rfl, .of_below (by (exact belB))⟩
  · have hb : (dim == 1) = false := by simpa using hd
    have HV : Hid (valA n dim = .agg #[.int .i64 dim, .bool false, .int .i64 (mkN (n.tmod 100000) (1 + pick (n.tdiv 7) 12)), .int .i64 (mkD (n.tmod 100000) (1 + pick (n.tdiv 7) 12))]) := Lib.hid (by unfold valA valP; simp [hd])
    rw [HV.out]
    have hp := pick_bd (n.tdiv 7) 12 (by omega)
    have ht := tmodH_bd n
    have h7 := tdiv_i64 (n := n) ⟨hn1, hn2⟩ (show (2 : Int) ≤ 7 by omega)
    have hw : IntKind.i64.wrap (n.tdiv 7) = n.tdiv 7 := IntWalk.i64_in _ (by omega)
    clear h7
    clear hd
    go_enter Tryz.func62, Tryz.ntmps62
    go_wp2_with (first
      | (go_at_call 15; refine (Pick_any _ _ _ (by omega)).mono ?_; rintro e' w' ⟨rfl, rfl⟩)
      | (go_at_call 46; refine (MakeFraction_any _ _ _ (by omega) (by omega) (by omega) (by omega)).mono ?_; rintro e' w' ⟨rfl, bs, d, rfl⟩))
    go_returns
    exact ⟨rfl, .of_below (by (exact belB))⟩
def stpL (l : List (ByteArray × Val)) : List Value := l.flatMap fun p => [.string p.1, .int .i64 p.2.dim, .bool p.2.yes, .int .i64 p.2.n, .int .i64 p.2.d]
theorem stpL_len (l : List (ByteArray × Val)) : (stpL l).length = l.length * 5 := by
  induction l with
  | nil => rfl
  | cons p r ih => unfold stpL at *; rw [List.flatMap_cons, List.length_append, ih]; simp; omega
theorem stpL_get (l : List (ByteArray × Val)) : ∀ i, i < l.length → (stpL l)[i * 5]? = some (.string (stN l i)) ∧ (stpL l)[i * 5 + 1]? = some (.int .i64 (stV l i).dim) ∧ (stpL l)[i * 5 + 2]? = some (.bool (stV l i).yes) ∧ (stpL l)[i * 5 + 3]? = some (.int .i64 (stV l i).n) ∧ (stpL l)[i * 5 + 4]? = some (.int .i64 (stV l i).d) := by
  induction l with
  | nil => intro i hi; simp at hi
  | cons p r ih =>
    intro i hi
    cases i with
    | zero => exact ⟨rfl, rfl, rfl, rfl, rfl⟩
    | succ i =>
      have h := ih i (by simpa using hi)
      have e : ∀ j, (stpL (p :: r))[(i + 1) * 5 + j]? = (stpL r)[i * 5 + j]? := fun j => by
        rw [show (i + 1) * 5 + j = i * 5 + j + 5 by omega]
        rfl
      have e0 := e 0
      rw [Nat.add_zero, Nat.add_zero] at e0
      rw [e0, e 1, e 2, e 3, e 4]
      exact h
theorem stpL_snoc (l : List (ByteArray × Val)) (p : ByteArray × Val) : stpL (l ++ [p]) = stpL l ++ [.string p.1, .int .i64 p.2.dim, .bool p.2.yes, .int .i64 p.2.n, .int .i64 p.2.d] := by
  unfold stpL; simp
theorem StpAt.of_own {w : World} {base : Nat} {v : Value} {l : List (ByteArray × Val)} (h : w.ownsRow base 68 5 v l.length (stpL l)) (hl : l.length ≤ 1000) : StpAt w v l := by
  obtain ⟨-, ⟨rfl, h0⟩ | ⟨g, cap, cur, rfl, hb, hg, h2, h3, h4, h5⟩⟩ := id h
  · exact ⟨by omega, none, 0, by rw [h0], .inl h0⟩
  · refine ⟨by omega, _, cap, rfl, .inr ⟨g, 0, rfl, (Array.getElem?_eq_some_iff.1 hg).1, fun i hi => ?_⟩⟩
    obtain ⟨g0, g1, g2, g3, g4⟩ := stpL_get l i hi
    have hL := stpL_len l
    rw [Nat.zero_add]
    exact ⟨(h.cellAt (i * 5) (by omega)).trans g0, (h.cellAt (i * 5 + 1) (by omega)).trans g1, (h.cellAt (i * 5 + 2) (by omega)).trans g2, (h.cellAt (i * 5 + 3) (by omega)).trans g3, (h.cellAt (i * 5 + 4) (by omega)).trans g4⟩
theorem stepsP_take (zs : List Int) (k : Nat) (h1 : k < zs.length) (h4 : k < 4) : (stepsP zs).take (k + 1) = (stepsP zs).take k ++ [(nmS k, valP (zs.getD k 0) (stepD (zs.getD k 0)))] := by
  have hk : k < (stepsP zs).length := by rw [stepsP_len]; omega
  have e : (stepsP zs)[k] = stepP zs k := by simp [stepsP]
  rw [List.take_succ_eq_append_getElem hk, e]; rfl
theorem infoS : (Tryz.prog.info? 68).map (fun i => (i.zero, i.size, i.bytes)) = some (some (.agg #[.string ⟨#[]⟩, .int .i64 0, .bool false, .int .i64 0, .int .i64 0]), 5, 48) := by kernel_rfl
theorem arr_cell (w : World) (k : Nat) (hk : k < 4) : (w.alloc ((.cells #[.string ⟨#[97]⟩, .string ⟨#[98]⟩, .string ⟨#[99]⟩, .string ⟨#[100]⟩] 9))).drew.cell? ⟨w.heap.size, k, none⟩ = some (.string (nmS k)) := by
  show (w.alloc _).cell? _ = _
  rw [World.cell?_alloc_at _ _ _ _ rfl]
  rcases (show k = 0 ∨ k = 1 ∨ k = 2 ∨ k = 3 by omega) with rfl | rfl | rfl | rfl <;> rfl
def StpP (l : List (ByteArray × Val)) (w : World) (e : Ending) (w' : World) : Prop := ∃ v, e = .returned v ∧ w.Grows w' ∧ StpAt w' v l
def BndP (l : List (ByteArray × Int)) (w : World) (e : Ending) (w' : World) : Prop := ∃ v, e = .returned v ∧ w.Grows w' ∧ BindAt w' v l
set_option maxRecDepth 1000000 in
set_option maxHeartbeats 8000000 in
theorem steps8_any (zs : List Int) (v : Value) (w : World) (h : IntsAt w v zs) : Calls Tryz.prog 25 #[v] w (StpP (stepsP zs) w) := by
  obtain ⟨i0, hi, hz0, hz1, hz2⟩ := info_parts infoS
  obtain ⟨hlen, h64, a, cap, rfl, hcs⟩ := h
  have HCS := Lib.hid hcs
  have H64 := Lib.hid h64
  clear hcs h64
  go_enter Tryz.func25, Tryz.ntmps25
  go_wp2_with fail
  go_loopw [3, 4] (fun v3 v4 wr => ∃ (k : Nat) (vb : Value), vb = v3 ∧ k ≤ zs.length ∧ k ≤ 4 ∧ v4 = .int .i64 k ∧ Below w.heap.size w wr ∧ wr.ownsRow w.heap.size 68 5 vb k (stpL ((stepsP zs).take k))) (fun _ v4 _ => 4 - (intOf v4).toNat)
  case atStart => exact ⟨0, _, rfl, by omega, by omega, rfl, .refl _ _, World.ownsRow_nil _ _ _ _⟩
  case round =>
    obtain ⟨k, vb, rfl, hk, hk4, rfl, hB, hown⟩ := hrel
    have HB := Lib.hid hB
    have HO := Lib.hid hown
    have hsW := hB.size
    by_cases hlt : k < zs.length ∧ k < 4
    · rcases HCS.out with h0 | ⟨b, off, rfl, hbw, hx⟩
      · omega
      have x0 : wr.cell? ⟨b, off + k, none⟩ = some (.int .i64 (zs.getD k 0)) := (hB.cell (p := ⟨b, off + k, none⟩) hbw).trans (hx k hlt.1)
      have hbr : b < wr.heap.size := by omega
      have d1 : (k : Int) < (zs.length : Int) := by omega
      have d4 : (k : Int) < 4 := by omega
      have HNX := Lib.hid (stepsP_take zs k hlt.1 hlt.2)
      have HKL := Lib.hid hlt
      have hz64 : I64 (zs.getD k 0) := H64.out _ (by
        rw [List.getD_eq_getElem?_getD, List.getElem?_eq_getElem hlt.1]; exact List.getElem_mem _)
      clear hx hB hown
      generalize zs.getD k 0 = z at *
      have HVA := Lib.hid (fun wS => value_any z (stepD z) wS hz64)
      unfold valA at HVA
      have HVP : Hid (stpL [(nmS k, valP z (stepD z))] = [.string (nmS k), .int .i64 (stepD z), .bool (valP z (stepD z)).yes, .int .i64 (valP z (stepD z)).n, .int .i64 (valP z (stepD z)).d]) := Lib.hid (by unfold stpL; simp [valP_dim])
      have hs : 1 + pick (z.tdiv 2) 4 = stepD z := rfl
      have hsb := stepD_bd z
      have hw1 : IntKind.i64.wrap (z.tdiv 2) = z.tdiv 2 := IntWalk.i64_in _ (by have := tdiv_i64 hz64 (show (2 : Int) ≤ 2 by omega); omega)
      have hw2 : IntKind.i64.wrap (1 + pick (z.tdiv 2) 4) = 1 + pick (z.tdiv 2) 4 := IntWalk.i64_in _ (by rw [hs]; omega)
      have hw3 : IntKind.i64.wrap (stepD z) = stepD z := IntWalk.i64_in _ (by omega)
      clear hz64
      go_wp2_with fail
      refine TS.begin [19, 20] (World.Grows _) (by kernel_rfl) (by kernel_rfl) grows_drew0 (fun hS => ?_)
      refine TS.takeV (i := 0) (v := ?_) rfl (by kernel_rfl) (by kernel_rfl) (by kernel_rfl) (by decide) (fun _ _ _ h => h) rfl hS ?_ ?_
      rotate_left
      focus
        rintro wS ⟨gbS, gdS, rfl⟩
        go_simp
        rfl
      (try simp only [nS])
      refine TS.takeV (i := 2) (v := ?_) rfl (by kernel_rfl) (by kernel_rfl) (by kernel_rfl) (by decide) (fun _ _ _ h => h) rfl hS ?_ ?_
      rotate_left
      focus
        rintro wS ⟨gbS, gdS, rfl⟩
        go_simp
        rfl
      (try simp only [nS])
      refine TS.takeV (i := 5) (v := ?_) rfl (by kernel_rfl) (by kernel_rfl) (by kernel_rfl) (by decide) (fun _ _ _ h => h) rfl hS ?_ ?_
      rotate_left
      focus
        rintro wS ⟨gbS, gdS, rfl⟩
        go_simp
        rfl
      (try simp only [nS])
      refine TS.takeV (i := 6) (v := ?_) rfl (by kernel_rfl) (by kernel_rfl) (by kernel_rfl) (by decide) (fun _ _ _ h => h) rfl hS ?_ ?_
      rotate_left
      focus
        rintro wS ⟨gbS, gdS, rfl⟩
        go_simp
        rfl
      (try simp only [nS])
      refine TS.takeV (i := 7) (v := ?_) rfl (by kernel_rfl) (by kernel_rfl) (by kernel_rfl) (by decide) (fun _ _ _ h => h) rfl hS ?_ ?_
      rotate_left
      focus
        rintro wS ⟨gbS, gdS, rfl⟩
        go_simp
        rfl
      (try simp only [nS])
      refine TS.takeV (i := 8) (v := ?_) rfl (by kernel_rfl) (by kernel_rfl) (by kernel_rfl) (by decide) (fun _ _ _ h => h) rfl hS ?_ ?_
      rotate_left
      focus
        rintro wS ⟨gbS, gdS, rfl⟩
        go_simp
        rfl
      (try simp only [nS])
      refine TS.takeV (i := 9) (v := ?_) rfl (by kernel_rfl) (by kernel_rfl) (by kernel_rfl) (by decide) (fun _ _ _ h => h) rfl hS ?_ ?_
      rotate_left
      focus
        rintro wS ⟨gbS, gdS, rfl⟩
        go_simp
        rfl
      (try simp only [nS])
      refine TS.takeV (i := 10) (v := ?_) rfl (by kernel_rfl) (by kernel_rfl) (by kernel_rfl) (by decide) (fun _ _ _ h => h) rfl hS ?_ ?_
      rotate_left
      focus
        rintro wS ⟨gbS, gdS, rfl⟩
        go_simp
        rfl
      (try simp only [nS])
      refine TS.takeV (i := 11) (v := ?_) rfl (by kernel_rfl) (by kernel_rfl) (by kernel_rfl) (by decide) (fun _ _ _ h => h) rfl hS ?_ ?_
      rotate_left
      focus
        rintro wS ⟨gbS, gdS, rfl⟩
        go_simp
        rfl
      (try simp only [nS])
      refine TS.takeV (i := 12) (v := ?_) rfl (by kernel_rfl) (by kernel_rfl) (by kernel_rfl) (by decide) (fun _ _ _ h => h) rfl hS ?_ ?_
      rotate_left
      focus
        rintro wS ⟨gbS, gdS, rfl⟩
        go_simp
        rfl
      (try simp only [nS])
      refine TS.takeV (i := 13) (v := ?_) rfl (by kernel_rfl) (by kernel_rfl) (by kernel_rfl) (by decide) (fun _ _ _ h => h) rfl hS ?_ ?_
      rotate_left
      focus
        rintro wS ⟨gbS, gdS, rfl⟩
        go_simp
        rfl
      (try simp only [nS])
      (try simp only [hw1])
      refine TS.takeC (i := 14) (v := (.int .i64 (pick (z.tdiv 2) 4))) (fn := 15) (args := #[.int .i64 (z.tdiv 2), .int .i64 4]) rfl (by kernel_rfl) (by kernel_rfl) (by kernel_rfl) (by decide) (fun _ _ _ h => h) rfl hS ?_ ?_ ?_
      focus
        rintro wS ⟨gbS, gdS, rfl⟩
        go_simp
      focus exact fun wS _ => (Pick_any _ _ wS (by omega))
      (try simp only [nS])
      refine TS.takeV (i := 15) (v := ?_) rfl (by kernel_rfl) (by kernel_rfl) (by kernel_rfl) (by decide) (fun _ _ _ h => h) rfl hS ?_ ?_
      rotate_left
      focus
        rintro wS ⟨gbS, gdS, rfl⟩
        go_simp
        rfl
      (try simp only [nS])
      (try simp only [hw2])
      (try simp only [hs])
      (try simp only [hw3])
      refine TS.two (i := 1) (k := 16) (by decide +kernel) rfl rfl (fun K1 hK1 => ?_) (fun K1 hK1 => ?_)
      · have HK1 := Lib.hid hK1
        clear hK1 hS
        dsimp only [List.getElem_toArray, List.getElem_cons_succ, List.getElem_cons_zero]
        go_simp
        refine TS.go HK1.out (by first | exact grows_drew | exact .of_below (by (exact belB))) (fun hS => ?_)
        clear HK1 K1
        (try simp only [nS])
        have hA := arr_cell wr k hlt.2
        have HGX : Hid (wr.Grows (wr.alloc ((.cells #[.string ⟨#[97]⟩, .string ⟨#[98]⟩, .string ⟨#[99]⟩, .string ⟨#[100]⟩] 9))).drew) := Lib.hid growsA
        have hX1 : wr.heap.size < (wr.alloc ((.cells #[.string ⟨#[97]⟩, .string ⟨#[98]⟩, .string ⟨#[99]⟩, .string ⟨#[100]⟩] 9))).drew.heap.size := by simp
        have hX2 : b < (wr.alloc ((.cells #[.string ⟨#[97]⟩, .string ⟨#[98]⟩, .string ⟨#[99]⟩, .string ⟨#[100]⟩] 9))).drew.heap.size := by simp; omega
        generalize (wr.alloc ((.cells #[.string ⟨#[97]⟩, .string ⟨#[98]⟩, .string ⟨#[99]⟩, .string ⟨#[100]⟩] 9))).drew = X at *
        refine TS.narrow (S' := World.Grows X) (fun w h => World.Grows.trans' HGX.out h) (World.Grows.refl _) (fun hS => ?_)
        refine TS.takeV (i := 3) (v := ?_) rfl (by kernel_rfl) (by kernel_rfl) (by kernel_rfl) (by decide) (fun _ _ _ h => h) rfl hS ?_ ?_
        rotate_left
        focus
          rintro wS ⟨gbS, gdS, rfl⟩
          go_simp
          rfl
        (try simp only [nS])
        refine TS.takeV (i := 4) (v := ?_) rfl (by kernel_rfl) (by kernel_rfl) (by kernel_rfl) (by decide) (fun _ _ _ h => h) rfl hS ?_ ?_
        rotate_left
        focus
          rintro wS ⟨gbS, gdS, rfl⟩
          go_simp
          rfl
        (try simp only [nS])
        refine TS.one (i := 16) (by decide +kernel) rfl (fun K1 hK1 => ?_)
        have HK1 := Lib.hid hK1
        clear hK1 hS
        dsimp only [List.getElem_toArray, List.getElem_cons_succ, List.getElem_cons_zero]
        go_simp
        go_at_call 62
        refine (HVA.out _).mono ?_
        rintro e' wA ⟨rfl, bA, dA, rfl⟩
        refine TS.go HK1.out growsA (fun hS => ?_)
        clear HK1 K1
        (try simp only [nS])
        have HGY : Hid (wr.Grows (X.grow bA dA)) := Lib.hid (World.Grows.trans' HGX.out ⟨_, _, rfl⟩)
        have HGZ : Hid (X.Grows (X.grow bA dA)) := Lib.hid ⟨_, _, rfl⟩
        generalize X.grow bA dA = Y at *
        refine TS.narrow (S' := World.Grows Y) (fun w h => World.Grows.trans' HGZ.out h) (World.Grows.refl _) (fun hS => ?_)
        refine TS.takeV (i := 17) (v := ?_) rfl (by kernel_rfl) (by kernel_rfl) (by kernel_rfl) (by decide) (fun _ _ _ h => h) rfl hS ?_ ?_
        rotate_left
        focus
          rintro wS ⟨gbS, gdS, rfl⟩
          go_simp
          rfl
        (try simp only [nS])
        refine TS.one (i := 18) (by decide +kernel) rfl (fun K1 hK1 => ?_)
        have HK1 := Lib.hid hK1
        clear hK1 hS
        dsimp only [List.getElem_toArray, List.getElem_cons_succ, List.getElem_cons_zero]
        go_simp
        refine TS.go HK1.out (by first | exact grows_drew | exact .of_below (by (exact belB))) (fun hS => ?_)
        clear HK1 K1
        (try simp only [nS])
        refine TS.one (i := 19) (by decide +kernel) rfl (fun K1 hK1 => ?_)
        refine step_append_ownY rfl _ _ 47 rfl w.heap.size 68 i0 _ 5 48 Tryz.underlying47 hi hz0 hz1 hz2 rfl (by decide) vb k _ rfl (own_grow HO.out (World.Grows.trans' HGY.out growsA)) ⟨Y.heap.size, 0, none⟩ 1 1 [.string (nmS k), .int .i64 (stepD z), .bool (valP z (stepD z)).yes, .int .i64 (valP z (stepD z)).n, .int .i64 (valP z (stepD z)).d] rfl rfl (news_cells _ [.string (nmS k), .int .i64 (stepD z), .bool (valP z (stepD z)).yes, .int .i64 (valP z (stepD z)).n, .int .i64 (valP z (stepD z)).d] _ _ (by simp)) (by intro u hu; simp at hu; rcases hu with rfl | rfl | rfl | rfl | rfl <;> rfl) (by unfold maxLen; omega) (by omega) (by have := HGY.out.below.size; simp; omega) ?_
        intro v2 w2 hown2 hgrow2
        have hB2 : Below w.heap.size wr w2 := Below.grown (((HGY.out.below).mono hsW).trans (show Below w.heap.size Y _ from by have := HGY.out.below.size; (exact belB))) hgrow2 (by have := HGY.out.below.size; simp; omega) (fun k hk => (HO.out.lt k hk).1)
        have HB2 := Lib.hid hB2
        have HO2 := Lib.hid hown2
        refine hK1 _ _ (fun h => absurd (by decide) h) ?_
        clear hK1 K1 hown2 hgrow2 hB2
        (try simp only [nS])
        refine TS.one (i := 20) (by kernel_rfl) rfl (fun K1 hK1 => ?_)
        go_simp
        refine hK1 _ _ (fun h => absurd (by decide) h) (TS.done (by kernel_rfl) ?_)
        clear hK1 K1 hS
        (try simp only [nS])
        go_wp2_with fail
        go_roundw
        case rel => exact ⟨k + 1, _, rfl, HKL.out.1, HKL.out.2, by go_num, HB.out.trans HB2.out, by rw [HNX.out, stpL_snoc, valP_dim]; exact HO2.out⟩
        case measure => simp [intOf]; have := HKL.out; omega
      · have HK1 := Lib.hid hK1
        clear hK1 hS
        dsimp only [List.getElem_toArray, List.getElem_cons_succ, List.getElem_cons_zero]
        go_simp
        go_at_call 62
        refine (HVA.out _).mono ?_
        rintro e' wA ⟨rfl, bA, dA, rfl⟩
        refine TS.go HK1.out growsA (fun hS => ?_)
        clear HK1 K1
        (try simp only [nS])
        refine TS.one (i := 1) (by decide +kernel) rfl (fun K1 hK1 => ?_)
        have HK1 := Lib.hid hK1
        clear hK1 hS
        dsimp only [List.getElem_toArray, List.getElem_cons_succ, List.getElem_cons_zero]
        go_simp
        refine TS.go HK1.out (by first | exact grows_drew | exact .of_below (by (exact belB))) (fun hS => ?_)
        clear HK1 K1
        (try simp only [nS])
        have hA := arr_cell (wr.grow bA dA) k hlt.2
        rw [World.size_grow] at hA
        replace hA : ((wr.grow bA dA).alloc ((.cells #[.string ⟨#[97]⟩, .string ⟨#[98]⟩, .string ⟨#[99]⟩, .string ⟨#[100]⟩] 9))).cell? ⟨wr.heap.size + bA.size, k, none⟩ = some (.string (nmS k)) := hA
        have HGY : Hid (wr.Grows ((wr.grow bA dA).alloc ((.cells #[.string ⟨#[97]⟩, .string ⟨#[98]⟩, .string ⟨#[99]⟩, .string ⟨#[100]⟩] 9)))) := Lib.hid growsA
        have hX1 : wr.heap.size + bA.size < ((wr.grow bA dA).alloc ((.cells #[.string ⟨#[97]⟩, .string ⟨#[98]⟩, .string ⟨#[99]⟩, .string ⟨#[100]⟩] 9))).heap.size := by simp
        generalize ((wr.grow bA dA).alloc ((.cells #[.string ⟨#[97]⟩, .string ⟨#[98]⟩, .string ⟨#[99]⟩, .string ⟨#[100]⟩] 9))) = Y at *
        refine TS.narrow (S' := World.Grows Y) (fun w h => World.Grows.trans' HGY.out h) (World.Grows.refl _) (fun hS => ?_)
        refine TS.takeV (i := 3) (v := ?_) rfl (by kernel_rfl) (by kernel_rfl) (by kernel_rfl) (by decide) (fun _ _ _ h => h) rfl hS ?_ ?_
        rotate_left
        focus
          rintro wS ⟨gbS, gdS, rfl⟩
          go_simp
          rfl
        (try simp only [nS])
        refine TS.takeV (i := 4) (v := ?_) rfl (by kernel_rfl) (by kernel_rfl) (by kernel_rfl) (by decide) (fun _ _ _ h => h) rfl hS ?_ ?_
        rotate_left
        focus
          rintro wS ⟨gbS, gdS, rfl⟩
          go_simp
          rfl
        (try simp only [nS])
        refine TS.narrow (S' := World.Grows Y) (fun w h => h) (World.Grows.refl _) (fun hS => ?_)
        refine TS.takeV (i := 17) (v := ?_) rfl (by kernel_rfl) (by kernel_rfl) (by kernel_rfl) (by decide) (fun _ _ _ h => h) rfl hS ?_ ?_
        rotate_left
        focus
          rintro wS ⟨gbS, gdS, rfl⟩
          go_simp
          rfl
        (try simp only [nS])
        refine TS.one (i := 18) (by decide +kernel) rfl (fun K1 hK1 => ?_)
        have HK1 := Lib.hid hK1
        clear hK1 hS
        dsimp only [List.getElem_toArray, List.getElem_cons_succ, List.getElem_cons_zero]
        go_simp
        refine TS.go HK1.out (by first | exact grows_drew | exact .of_below (by (exact belB))) (fun hS => ?_)
        clear HK1 K1
        (try simp only [nS])
        refine TS.one (i := 19) (by decide +kernel) rfl (fun K1 hK1 => ?_)
        refine step_append_ownY rfl _ _ 47 rfl w.heap.size 68 i0 _ 5 48 Tryz.underlying47 hi hz0 hz1 hz2 rfl (by decide) vb k _ rfl (own_grow HO.out (World.Grows.trans' HGY.out growsA)) ⟨Y.heap.size, 0, none⟩ 1 1 [.string (nmS k), .int .i64 (stepD z), .bool (valP z (stepD z)).yes, .int .i64 (valP z (stepD z)).n, .int .i64 (valP z (stepD z)).d] rfl rfl (news_cells _ [.string (nmS k), .int .i64 (stepD z), .bool (valP z (stepD z)).yes, .int .i64 (valP z (stepD z)).n, .int .i64 (valP z (stepD z)).d] _ _ (by simp)) (by intro u hu; simp at hu; rcases hu with rfl | rfl | rfl | rfl | rfl <;> rfl) (by unfold maxLen; omega) (by omega) (by have := HGY.out.below.size; simp; omega) ?_
        intro v2 w2 hown2 hgrow2
        have hB2 : Below w.heap.size wr w2 := Below.grown (((HGY.out.below).mono hsW).trans (show Below w.heap.size Y _ from by have := HGY.out.below.size; (exact belB))) hgrow2 (by have := HGY.out.below.size; simp; omega) (fun k hk => (HO.out.lt k hk).1)
        have HB2 := Lib.hid hB2
        have HO2 := Lib.hid hown2
        refine hK1 _ _ (fun h => absurd (by decide) h) ?_
        clear hK1 K1 hown2 hgrow2 hB2
        (try simp only [nS])
        refine TS.one (i := 20) (by kernel_rfl) rfl (fun K1 hK1 => ?_)
        go_simp
        refine hK1 _ _ (fun h => absurd (by decide) h) (TS.done (by kernel_rfl) ?_)
        clear hK1 K1 hS
        (try simp only [nS])
        go_wp2_with fail
        go_roundw
        case rel => exact ⟨k + 1, _, rfl, HKL.out.1, HKL.out.2, by go_num, HB.out.trans HB2.out, by rw [HNX.out, stpL_snoc, valP_dim]; exact HO2.out⟩
        case measure => simp [intOf]; have := HKL.out; omega
    · have hend : (stepsP zs).take k = stepsP zs ∧ k = (stepsP zs).length := by
        have := stepsP_len zs
        have e : k = (stepsP zs).length := by omega
        exact ⟨by rw [e, List.take_length], e⟩
      have HE := Lib.hid hend
      by_cases d1 : (k : Int) < (zs.length : Int)
      all_goals
        have d4 : ¬ ((k : Int) < (zs.length : Int) ∧ (k : Int) < 4) := by omega
        have HKL := Lib.hid hlt
        clear hend hlt
        first
          | (have d5 : ¬ (k : Int) < 4 := by omega
             clear d4
             go_wp2_with fail
             go_returns
             exact ⟨vb, rfl, .of_below HB.out, .of_own (by have := HO.out; rwa [HE.out.1, HE.out.2] at this) (by rw [← HE.out.2]; omega)⟩)
          | (clear d4
             go_wp2_with fail
             go_returns
             exact ⟨vb, rfl, .of_below HB.out, .of_own (by have := HO.out; rwa [HE.out.1, HE.out.2] at this) (by rw [← HE.out.2]; omega)⟩)
set_option maxRecDepth 1000000 in
set_option maxHeartbeats 8000000 in
theorem bindings8_any (l : List (ByteArray × Val)) (v : Value) (w : World) (h : StpAt w v l) : Calls Tryz.prog 28 #[v] w (BndP (dimsOf l) w) := by
  obtain ⟨i0, hi, hz0, hz1, hz2⟩ := info_parts infoB
  obtain ⟨h1000, a, cap, rfl, hcs⟩ := h
  have HCS := Lib.hid hcs
  clear hcs
  go_enter Tryz.func28, Tryz.ntmps28
  go_wp2_with fail
  go_loopw [3, 4] (fun v3 v4 wr => ∃ (k : Nat) (vb : Value), vb = v3 ∧ k ≤ l.length ∧ v4 = .int .i64 k ∧ Below w.heap.size w wr ∧ wr.ownsRow w.heap.size 64 2 vb k (bindL (dimsOf (l.take k)))) (fun _ v4 _ => l.length - (intOf v4).toNat)
  case atStart => exact ⟨0, _, rfl, by omega, rfl, .refl _ _, World.ownsRow_nil _ _ _ _⟩
  case round =>
    obtain ⟨k, vb, rfl, hk, rfl, hB, hown⟩ := hrel
    have HB := Lib.hid hB
    have HO := Lib.hid hown
    have hsW := hB.size
    by_cases hlt : k < l.length
    · rcases HCS.out with h0 | ⟨b, off, rfl, hbw, hx⟩
      · omega
      obtain ⟨s0, s1, -, -, -⟩ := hx k hlt
      have x0 : wr.cell? ⟨b, off + k * 5, none⟩ = some (.string (stN l k)) := (hB.cell (p := ⟨b, off + k * 5, none⟩) hbw).trans s0
      have x1 : wr.cell? ⟨b, off + k * 5 + 1, none⟩ = some (.int .i64 (stV l k).dim) := (hB.cell (p := ⟨b, off + k * 5 + 1, none⟩) hbw).trans s1
      have hbr : b < wr.heap.size := by omega
      have d1 : (k : Int) < (l.length : Int) := by omega
      have HNX := Lib.hid (dims_take l k hlt)
      have HKL := Lib.hid hlt
      clear hx s0 s1 hB hown hlt
      generalize stN l k = nk at *
      generalize (stV l k).dim = mk at *
      go_wp2_with fail
      refine TS.begin [14, 15] (World.Grows _) (by kernel_rfl) (by kernel_rfl) grows_drew0 (fun hS => ?_)
      refine TS.takeV (i := 0) (v := ?_) rfl (by kernel_rfl) (by kernel_rfl) (by kernel_rfl) (by decide) (fun _ _ _ h => h) rfl hS ?_ ?_
      rotate_left
      focus
        rintro wS ⟨gbS, gdS, rfl⟩
        go_simp
        rfl
      (try simp only [nS])
      refine TS.takeV (i := 1) (v := ?_) rfl (by kernel_rfl) (by kernel_rfl) (by kernel_rfl) (by decide) (fun _ _ _ h => h) rfl hS ?_ ?_
      rotate_left
      focus
        rintro wS ⟨gbS, gdS, rfl⟩
        go_simp
        rfl
      (try simp only [nS])
      refine TS.takeV (i := 2) (v := ?_) rfl (by kernel_rfl) (by kernel_rfl) (by kernel_rfl) (by decide) (fun _ _ _ h => h) rfl hS ?_ ?_
      rotate_left
      focus
        rintro wS ⟨gbS, gdS, rfl⟩
        go_simp
        rfl
      (try simp only [nS])
      refine TS.takeV (i := 3) (v := ?_) rfl (by kernel_rfl) (by kernel_rfl) (by kernel_rfl) (by decide) (fun _ _ _ h => h) rfl hS ?_ ?_
      rotate_left
      focus
        rintro wS ⟨gbS, gdS, rfl⟩
        go_simp
        rfl
      (try simp only [nS])
      refine TS.takeV (i := 4) (v := ?_) rfl (by kernel_rfl) (by kernel_rfl) (by kernel_rfl) (by decide) (fun _ _ _ h => h) rfl hS ?_ ?_
      rotate_left
      focus
        rintro wS ⟨gbS, gdS, rfl⟩
        go_simp
        rfl
      (try simp only [nS])
      refine TS.takeV (i := 5) (v := ?_) rfl (by kernel_rfl) (by kernel_rfl) (by kernel_rfl) (by decide) (fun _ _ _ h => h) rfl hS ?_ ?_
      rotate_left
      focus
        rintro wS ⟨gbS, gdS, rfl⟩
        go_simp
        rfl
      (try simp only [nS])
      refine TS.takeV (i := 6) (v := ?_) rfl (by kernel_rfl) (by kernel_rfl) (by kernel_rfl) (by decide) (fun _ _ _ h => h) rfl hS ?_ ?_
      rotate_left
      focus
        rintro wS ⟨gbS, gdS, rfl⟩
        go_simp
        rfl
      (try simp only [nS])
      refine TS.takeV (i := 7) (v := ?_) rfl (by kernel_rfl) (by kernel_rfl) (by kernel_rfl) (by decide) (fun _ _ _ h => h) rfl hS ?_ ?_
      rotate_left
      focus
        rintro wS ⟨gbS, gdS, rfl⟩
        go_simp
        rfl
      (try simp only [nS])
      refine TS.takeV (i := 8) (v := ?_) rfl (by kernel_rfl) (by kernel_rfl) (by kernel_rfl) (by decide) (fun _ _ _ h => h) rfl hS ?_ ?_
      rotate_left
      focus
        rintro wS ⟨gbS, gdS, rfl⟩
        go_simp
        rfl
      (try simp only [nS])
      refine TS.takeV (i := 9) (v := ?_) rfl (by kernel_rfl) (by kernel_rfl) (by kernel_rfl) (by decide) (fun _ _ _ h => h) rfl hS ?_ ?_
      rotate_left
      focus
        rintro wS ⟨gbS, gdS, rfl⟩
        go_simp
        rfl
      (try simp only [nS])
      refine TS.takeV (i := 10) (v := ?_) rfl (by kernel_rfl) (by kernel_rfl) (by kernel_rfl) (by decide) (fun _ _ _ h => h) rfl hS ?_ ?_
      rotate_left
      focus
        rintro wS ⟨gbS, gdS, rfl⟩
        go_simp
        rfl
      (try simp only [nS])
      refine TS.takeV (i := 11) (v := ?_) rfl (by kernel_rfl) (by kernel_rfl) (by kernel_rfl) (by decide) (fun _ _ _ h => h) rfl hS ?_ ?_
      rotate_left
      focus
        rintro wS ⟨gbS, gdS, rfl⟩
        go_simp
        rfl
      (try simp only [nS])
      refine TS.takeV (i := 12) (v := ?_) rfl (by kernel_rfl) (by kernel_rfl) (by kernel_rfl) (by decide) (fun _ _ _ h => h) rfl hS ?_ ?_
      rotate_left
      focus
        rintro wS ⟨gbS, gdS, rfl⟩
        go_simp
        rfl
      (try simp only [nS])
      refine TS.one (i := 13) (by decide +kernel) rfl (fun K1 hK1 => ?_)
      have HK1 := Lib.hid hK1
      clear hK1 hS
      dsimp only [List.getElem_toArray, List.getElem_cons_succ, List.getElem_cons_zero]
      go_simp
      refine TS.go HK1.out (by first | exact grows_drew | exact .of_below (by (exact belB))) (fun hS => ?_)
      clear HK1 K1
      (try simp only [nS])
      refine TS.one (i := 14) (by decide +kernel) rfl (fun K1 hK1 => ?_)
      refine step_append_ownY rfl _ _ 54 rfl w.heap.size 64 i0 _ 2 24 Tryz.underlying54 hi hz0 hz1 hz2 rfl (by decide) vb k _ rfl (own_grow HO.out growsA) ⟨wr.heap.size, 0, none⟩ 1 1 [.string nk, .int .i64 mk] rfl rfl (news_cells _ [.string nk, .int .i64 mk] _ _ (by simp)) (by intro u hu; simp at hu; rcases hu with rfl | rfl <;> rfl) (by unfold maxLen; omega) (by omega) (by simp; omega) ?_
      intro v2 w2 hown2 hgrow2
      have hB2 : Below w.heap.size wr w2 := Below.grown (show Below w.heap.size wr _ from by (exact belB)) hgrow2 (by simp; omega) (fun k hk => (HO.out.lt k hk).1)
      have HB2 := Lib.hid hB2
      have HO2 := Lib.hid hown2
      refine hK1 _ _ (fun h => absurd (by decide) h) ?_
      clear hK1 K1 hown2 hgrow2 hB2
      (try simp only [nS])
      refine TS.one (i := 15) (by kernel_rfl) rfl (fun K1 hK1 => ?_)
      go_simp
      refine hK1 _ _ (fun h => absurd (by decide) h) (TS.done (by kernel_rfl) ?_)
      clear hK1 K1 hS
      (try simp only [nS])
      go_wp2_with fail
      go_roundw
      case rel => exact ⟨k + 1, _, rfl, HKL.out, by go_num, HB.out.trans HB2.out, by rw [HNX.out, bindL_snoc]; exact HO2.out⟩
      case measure => simp [intOf]; have := HKL.out; omega
    · obtain rfl : k = l.length := by omega
      have hlen : (dimsOf l).length = l.length := by unfold dimsOf; simp
      clear hB hown
      go_wp2_with fail
      go_returns
      exact ⟨vb, rfl, .of_below HB.out, .of_own (by have := HO.out; rw [List.take_length] at this; rw [hlen]; exact this) (by rw [hlen]; exact h1000)⟩
end Go.Proofs.YtlheailebbngiaaGreatDoor
