/- EvalUses: the walk. -/
import Derived.Test.YtlheailebbngiaaGreatDoorLUsR
import Derived.Test.YtlheailebbngiaaGreatDoorLTwistW
import Derived.Test.YtlheailebbngiaaGreatDoorLVwP
import Derived.Test.YtlheailebbngiaaGreatDoorLEvX
import Derived.Test.YtlheailebbngiaaGreatDoorLBase
set_option linter.all false
namespace Go.Proofs.YtlheailebbngiaaGreatDoor
open Go.RowKit
theorem VerAt.forms' {B : Nat} {w : World} {V : VerP} {v3 v4 v5 v6 v7 : Value} (h : VerAt B w V v3 v4 v5 v6 v7) : (∃ a n c, v3 = .slice a n c) ∧ (∃ a n c, v4 = .slice a n c) ∧ (∃ a n c, v5 = .slice a n c) ∧ (∃ a n c, v6 = .slice a n c) ∧ ∃ a n c, v7 = .slice a n c := by
  obtain ⟨ql, qg, qr, H1, H2, H3, H4, H5, e1, e2, e3, ord, r1, r2, r3, r4, r5⟩ := h
  obtain ⟨a1, c1, f1⟩ := r1.form
  obtain ⟨a2, c2, f2⟩ := r2.form
  obtain ⟨a3, c3, f3⟩ := r3.form
  obtain ⟨a4, c4, f4⟩ := r4.form
  obtain ⟨a5, c5, f5⟩ := r5.form
  exact ⟨⟨_, _, _, f1⟩, ⟨_, _, _, f2⟩, ⟨_, _, _, f3⟩, ⟨_, _, _, f4⟩, ⟨_, _, _, f5⟩⟩
/-- The names of a made version's definitions are short, and there are few. -/
theorem le_names {V : VerP} (n : Int) (h : V.le.length ≤ 10 ∧ ∀ t ∈ V.le, t.1.size ≤ 3) : (twistP n V).le.length ≤ 10 ∧ ∀ t ∈ (twistP n V).le, t.1.size ≤ 3 := by
  unfold twistP
  split
  · exact h
  split
  · exact h
  split
  · dsimp only
    rcases hl : V.le with _ | ⟨t, _ | ⟨u, r⟩⟩
    · simp
    · rw [hl] at h; exact h
    · rw [hl] at h
      refine ⟨by simpa using h.1, fun x hx => ?_⟩
      simp only [List.mem_cons] at hx
      rcases hx with rfl | rfl | hx
      · exact h.2 _ (by simp)
      · exact h.2 t (by simp)
      · exact h.2 x (by simp [hx])
  split
  · dsimp only
    rcases hl : V.le with _ | ⟨t, r⟩
    · simp
    · rw [hl] at h
      refine ⟨by simpa using h.1, fun x hx => ?_⟩
      simp only [List.mem_cons] at hx
      rcases hx with rfl | hx
      · exact h.2 t (by simp)
      · exact h.2 x (by simp [hx])
  split
  · exact h
  split
  · exact h
  · dsimp only
    rcases hl : V.le with _ | ⟨t, r⟩
    · simp
    · rw [hl] at h
      refine ⟨by simpa using h.1, fun x hx => ?_⟩
      simp only [List.mem_cons] at hx
      rcases hx with rfl | hx
      · show ageN.size ≤ 3; decide
      · exact h.2 x (by simp [hx])
theorem ofP_le (R : RawV) : (ofP R).le.length ≤ 10 ∧ ∀ t ∈ (ofP R).le, t.1.size ≤ 3 := by
  have h : (madeP R).le.length ≤ 10 ∧ ∀ t ∈ (madeP R).le, t.1.size ≤ 3 := by
    refine ⟨by simp only [madeP, List.length_map, List.length_range]; unfold nLet; omega, fun t ht => ?_⟩
    simp only [madeP, List.mem_map] at ht
    obtain ⟨i, -, rfl⟩ := ht
    exact Nat.le_of_eq (letN_size i)
  unfold ofP
  split
  · exact h
  · split
    · exact le_names _ h
    · exact h
/-- The environment that the law makes of definitions. -/
def usE (ls : List (ByteArray × Ex)) : List (ByteArray × Int) := (List.range ls.length).map fun i => ((ls.getD i default).1, 2 + ((i : Int).tmod 3))
theorem usE_take (ls : List (ByteArray × Ex)) (k : Nat) (h : k < ls.length) : (usE ls).take (k + 1) = (usE ls).take k ++ [((ls.getD k default).1, 2 + ((k : Int).tmod 3))] := by
  have hl : k < (usE ls).length := by simpa [usE] using h
  rw [List.take_succ_eq_append_getElem hl]
  simp [usE]
theorem us_long (zs : List Int) (vl : Value) (cs : Array Value) (w : World) (hl : IntsAt w vl zs) (h : 200 < zs.length) (R : RawV) (hR : RawAt w cs.toList R) :
    Calls Tryz.prog 10 #[.agg cs, vl] w fun e w' => e = .returned (.bool true) ∧ w.Grows w' := by
  obtain ⟨-, -, -, -, vc, vs, vl, vi, vp, vu, he, -⟩ := hR
  obtain ⟨l⟩ := cs
  simp only at he
  subst he
  obtain ⟨-, -, a1, c1, rfl, -⟩ := hl
  have hn : (200 : Int) < (zs.length : Int) := by omega
  clear h
  go_enter Tryz.func10, Tryz.ntmps10
  go_wp2_with fail
  go_returns
  exact ⟨rfl, .of_below (by (exact belB))⟩
set_option maxRecDepth 1000000 in
set_option maxHeartbeats 16000000 in
theorem us_core (hOf : Hid OfSaid) (zs : List Int) (vl : Value) (cs : Array Value) (R : RawV) (w : World) (hl : IntsAt w vl zs) (hR : RawAt w cs.toList R) (ht : Tab w) (h1 : zs.length ≤ 200) (V : VerP) (hV : Hid (ofP R = V)) (E : Ex) (hE : Hid (topF zs (usE V.le) 1 = E)) :
    Calls Tryz.prog 10 #[.agg cs, vl] w fun e w' => e = .returned (.bool true) ∧ w.Grows w' := by
  obtain ⟨i0, hi, hz0, hz1, hz2⟩ := info_parts infoB
  have HT := Lib.hid ht
  have HR := Lib.hid hR
  have hleN := ofP_le R
  rw [hV.out] at hleN
  have HMB := Lib.hid (fun w' (hg : w.Grows w') (ev : Value) (he : EnvAt w' w'.heap.size ev (usE V.le)) => Expr_any vl ev zs (usE V.le) 1 w' (IntsAt.list (IntsAt.growsG hl hg) (Nat.le_refl _)) he (by omega) (by omega))
  unfold MadeEx exV at HMB
  rw [hE.out] at HMB
  have hn1 : ¬ (200 : Int) < (zs.length : Int) := by omega
  obtain ⟨-, -, -, -, vc, vs, vl', vi, vp, vu, he, -⟩ := hR
  obtain ⟨l⟩ := cs
  simp only at he
  subst he
  obtain ⟨-, -, la, lc, rfl, -⟩ := hl
  clear ht
  go_enter Tryz.func10, Tryz.ntmps10
  go_wp2_with fail
  refine (hOf.out R _ _ (HR.out.below (by (exact belB)))).mono ?_
  rintro e w' ⟨v3, v4, v5, v6, v7, rfl, ⟨bs, dr, rfl⟩, hver⟩
  rw [hV.out] at hver
  have HLA := Lib.hid (hver.lets (by omega))
  obtain ⟨⟨a3, n3, k3, rfl⟩, ⟨a4, n4, k4, rfl⟩, ⟨a5, n5, k5, rfl⟩, ⟨a6, n6, k6, rfl⟩, ⟨a7, n7, k7, rfl⟩⟩ := VerAt.forms' hver
  obtain ⟨-, a5', c5', hv5, -⟩ := HLA.out
  simp only [Value.slice.injEq] at hv5
  obtain ⟨rfl, rfl, rfl⟩ := hv5
  clear hver
  go_wp2_with fail
  refine wp_abs (fun W3 hW => ?_)
  obtain ⟨X, hX⟩ : ∃ X, X = w.heap.size + 1 + bs.size := ⟨_, rfl⟩
  have HBX : Hid (W3.heap[X]? = some (.cells #[.int .i64 (ofP R).frm, .int .i64 (ofP R).mode, .int .i64 (ofP R).unit, .slice a3 n3 k3, .slice a4 n4 k4, .slice a5 V.le.length k5, .slice a6 n6 k6, .slice a7 n7 k7] 81 (0, 0))) := Lib.hid (by rw [hX, ← hW]; exact heap_new _ _ _ (by simp))
  have HG3 : Hid (w.Grows W3) := Lib.hid (by rw [← hW]; exact growsA)
  have HL3 : Hid (LetsAt W3 (.slice a5 V.le.length k5) V.le) := Lib.hid (by rw [← hW]; exact HLA.out.grows growsA)
  have hXl : X < W3.heap.size := (Array.getElem?_eq_some_iff.1 HBX.out).1
  rw [← hX]
  clear hW hX HLA
  go_loopw [6, 7] (fun v6 v7 wr => ∃ (k : Nat) (vb : Value), vb = v6 ∧ k ≤ V.le.length ∧ v7 = .int .i64 k ∧ Below W3.heap.size W3 wr ∧ wr.ownsRow W3.heap.size 64 2 vb k (bindL ((usE V.le).take k))) (fun _ v7 _ => V.le.length - (intOf v7).toNat)
  case atStart => exact ⟨0, _, rfl, by omega, rfl, .refl _ _, World.ownsRow_nil _ _ _ _⟩
  case round =>
    obtain ⟨k, vb, rfl, hk, rfl, hB, hown⟩ := hrel
    have HB := Lib.hid hB
    have HO := Lib.hid hown
    have hsW := hB.size
    have hG3 : W3.Grows wr := .of_below hB
    have xl : X < wr.heap.size := by omega
    have HBX2 : Hid (wr.heap[X]? = _) := Lib.hid ((hB.block X hXl).trans HBX.out)
    have x5 : wr.cell? ⟨X, 5, none⟩ = some (.slice a5 V.le.length k5) := by rw [cell_of_row wr X _ _ _ _ HBX2.out]; rfl
    by_cases hlt : k < V.le.length
    · obtain ⟨-, a', c', hvv, hx⟩ := HL3.out.grows hG3
      simp only [Value.slice.injEq, true_and] at hvv
      obtain ⟨rfl, rfl⟩ := hvv
      rcases hx with h0 | ⟨b, off, rfl, hbw, hx⟩
      · omega
      obtain ⟨uk, hsk⟩ := hx k hlt
      have x0 := hsk.nm
      have d1 : (k : Int) < (V.le.length : Int) := by omega
      have HNX := Lib.hid (usE_take V.le k hlt)
      have HKL := Lib.hid hlt
      have hk10 : k ≤ 10 := by omega
      have hm1 : 0 ≤ (k : Int).tmod 3 := Int.tmod_nonneg _ (by omega)
      have hm2 : (k : Int).tmod 3 < 3 := Int.tmod_lt_of_pos _ (by omega)
      have hm3 : (k : Int) % 3 = (k : Int).tmod 3 := (Int.tmod_eq_emod_of_nonneg (by omega)).symm
      clear hx hsk hlt hB hown hk
      generalize (V.le.getD k default).1 = nk at *
      generalize (k : Int).tmod 3 = mk at *
      go_wp2_with (at_builtin; refine wpList_append_own _ rfl _ _ 54 rfl W3.heap.size 64 i0 _ 2 24 Tryz.underlying54 hi hz0 hz1 hz2 rfl (by decide) _ _ _ rfl (HO.out.alloc _) ⟨wr.heap.size, 0, none⟩ 1 1 [.string nk, .int .i64 (2 + mk)] rfl rfl ?c1 ?c2 ?c3 ?c4 ?c5 ?_)
      case c1 => exact news_cells _ [.string nk, .int .i64 (2 + mk)] _ _ rfl
      case c2 => intro u hu; simp at hu; rcases hu with rfl | rfl <;> rfl
      case c3 => unfold maxLen; omega
      case c4 => omega
      case c5 => simp; omega
      intro v' w1 hown' hgrow _
      have HB1 := Lib.hid ((show Below W3.heap.size W3 _ from by have := HB.out; (exact belB)).grown hgrow (by simp; omega) (fun k hk => (HO.out.lt k hk).1))
      have HO1 := Lib.hid hown'
      clear hown' hgrow
      go_wp2_with fail
      go_roundw
      case rel => exact ⟨k + 1, _, rfl, HKL.out, by go_num, HB1.out, by rw [HNX.out, bindL_snoc]; exact HO1.out⟩
      case measure => simp [intOf]; have := HKL.out; omega
    · obtain rfl : k = V.le.length := by omega
      have hlen : (usE V.le).length = V.le.length := by simp [usE]
      have hfull : (usE V.le).take V.le.length = usE V.le := List.take_of_length_le (by omega)
      have HBD : Hid (BindAt wr vb (usE V.le)) := Lib.hid (BindAt.of_own (by have := HO.out; rw [hfull] at this; rw [hlen]; exact this) (by omega))
      have hns : ∀ x ∈ usE V.le, x.1.size ≤ 140737488355328 := by
        intro x hx
        obtain ⟨i, hi, rfl⟩ := List.mem_map.1 hx
        have hi := List.mem_range.1 hi
        have := hleN.2 (V.le.getD i default) (by rw [List.getD_eq_getElem?_getD, List.getElem?_eq_getElem hi]; exact List.getElem_mem hi)
        dsimp only
        omega
      have HMW := Lib.hid (HMB.out wr (World.Grows.trans' HG3.out hG3) vb (EnvAt.of_bind HBD.out hns))
      have HLW := Lib.hid (HL3.out.grows hG3)
      have HTW := Lib.hid (HT.out.grows (World.Grows.trans' HG3.out hG3))
      have HGW := Lib.hid (World.Grows.trans' HG3.out hG3)
      have hul := usesG_length (e := E) (ls := V.le) V.le.length
      have HUL : Hid (((usesL E V.le).map Int.ofNat).length ≤ 1000) := Lib.hid (by rw [List.length_map]; exact Nat.le_trans hul (by omega))
      obtain ⟨-, ua, uc, rfl, -⟩ := HBD.out
      simp only [hlen] at HMW ⊢
      clear hB hown hns hul hlen hfull
      go_wp2_with (go_at_call 27; refine HMW.out.mono ?_; rintro e' w' ⟨cv, rfl, ⟨bs4, d4, rfl⟩, hrep⟩; have HREP := Lib.hid (hrep.mono (S' := fun _ => True) (fun _ _ => trivial)); obtain ⟨ca, cc, rfl⟩ := hrep.form0; clear hrep)
      refine wp_abs (fun W9 hW9 => ?_)
      obtain ⟨Y, hY⟩ : ∃ Y, Y = wr.heap.size + bs4.size := ⟨_, rfl⟩
      have hG9 : wr.Grows W9 := by rw [← hW9]; exact growsA
      have HBY : Hid (W9.heap[Y]? = some (.cells #[.int .i64 E.op, .int .i64 E.num, .int .i64 E.den, .int .i64 E.dim, .string E.name, .slice ca E.args.length cc] 51 (0, 0))) := Lib.hid (by rw [hY, ← hW9]; exact heap_new _ _ _ (by simp))
      have HRE : Hid (RepE (fun _ => True) W9 E (.slice ca E.args.length cc)) := Lib.hid (by rw [← hW9]; exact HREP.out.alloc _)
      have HL9 := Lib.hid (HLW.out.grows hG9)
      have HT9 := Lib.hid (HTW.out.grows hG9)
      have HG9 := Lib.hid (World.Grows.trans' HGW.out hG9)
      have hXl9 : X < W9.heap.size := by have := hG9.below.size; omega
      have hYl9 : Y < W9.heap.size := (Array.getElem?_eq_some_iff.1 HBY.out).1
      have z5 : W9.cell? ⟨X, 5, none⟩ = some (.slice a5 V.le.length k5) := by rw [cell_of_row W9 X _ _ _ _ ((hG9.below.block X xl).trans HBX2.out)]; rfl
      have y0 : W9.cell? ⟨Y, 0, none⟩ = some (.int .i64 E.op) := by rw [cell_of_row W9 Y _ _ _ _ HBY.out]; rfl
      have y1 : W9.cell? ⟨Y, 1, none⟩ = some (.int .i64 E.num) := by rw [cell_of_row W9 Y _ _ _ _ HBY.out]; rfl
      have y2 : W9.cell? ⟨Y, 2, none⟩ = some (.int .i64 E.den) := by rw [cell_of_row W9 Y _ _ _ _ HBY.out]; rfl
      have y3 : W9.cell? ⟨Y, 3, none⟩ = some (.int .i64 E.dim) := by rw [cell_of_row W9 Y _ _ _ _ HBY.out]; rfl
      have y4 : W9.cell? ⟨Y, 4, none⟩ = some (.string E.name) := by rw [cell_of_row W9 Y _ _ _ _ HBY.out]; rfl
      have y5 : W9.cell? ⟨Y, 5, none⟩ = some (.slice ca E.args.length cc) := by rw [cell_of_row W9 Y _ _ _ _ HBY.out]; rfl
      have HU2 := Lib.hid (fun w' (hg : W9.Grows w') => Uses2_any E _ _ V.le w' (HRE.out.grows hg) (HL9.out.grows hg))
      have HU8 := Lib.hid (fun w' (hg : W9.Grows w') => Uses8_any E _ _ V.le w' (HRE.out.grows hg) (HL9.out.grows hg))
      unfold exV at HU2 HU8
      rw [← hY]
      clear hW9 hY hG9 hG3 x5 HBX HBX2 HREP HMW
      refine TS.begin [] (World.Grows _) (by kernel_rfl) (by kernel_rfl) grows_drew0 (fun hS => ?_)
      refine TS.one (i := 0) (by kernel_rfl) rfl (fun K1 hK1 => ?_)
      have HK1 := Lib.hid hK1
      clear hK1 hS
      dsimp only [List.getElem_toArray, List.getElem_cons_succ, List.getElem_cons_zero]
      go_simp
      go_at_call 19
      refine (awake8_any _ (HT9.out.grows growsA)).mono ?_
      rintro e' wA ⟨rfl, bA, dA, rfl⟩
      refine TS.go HK1.out growsA (fun hS => ?_)
      clear HK1 K1
      (try simp only [nS])
      refine TS.wkB 1 hS ?_
      refine TS.wkB 2 hS ?_
      refine TS.wkB 3 hS ?_
      refine TS.wkB 4 hS ?_
      refine TS.wkB 6 hS ?_
      refine TS.wkB 7 hS ?_
      refine TS.wkB 8 hS ?_
      refine TS.one (i := 5) (by kernel_rfl) rfl (fun K1 hK1 => ?_)
      have HK1 := Lib.hid hK1
      clear hK1 hS
      dsimp only [List.getElem_toArray, List.getElem_cons_succ, List.getElem_cons_zero]
      go_simp
      go_at_call 38
      refine (HU2.out _ growsA).mono ?_
      rintro e' wA ⟨⟨xu, rfl, hxu, -⟩, bC, dC, rfl⟩
      have HXU := Lib.hid hxu
      clear hxu
      refine TS.go HK1.out growsA (fun hS => ?_)
      clear HK1 K1
      (try simp only [nS])
      refine TS.one (i := 9) (by kernel_rfl) rfl (fun K1 hK1 => ?_)
      have HK1 := Lib.hid hK1
      clear hK1 hS
      dsimp only [List.getElem_toArray, List.getElem_cons_succ, List.getElem_cons_zero]
      go_simp
      go_at_call 39
      refine (HU8.out _ growsA).mono ?_
      rintro e' wA ⟨⟨xv, rfl, hxv, -⟩, bB, dB, rfl⟩
      have HXV := Lib.hid hxv
      clear hxv
      refine TS.go HK1.out growsA (fun hS => ?_)
      clear HK1 K1
      (try simp only [nS])
      refine TS.one (i := 10) (by kernel_rfl) rfl (fun K1 hK1 => ?_)
      have HK1 := Lib.hid hK1
      clear hK1 hS
      dsimp only [List.getElem_toArray, List.getElem_cons_succ, List.getElem_cons_zero]
      go_simp
      go_at_call 37
      have HXV2 : Hid (IntsAt (W9.grow (bA ++ (bC ++ bB)) dB) xv ((usesL E V.le).map Int.ofNat)) := Lib.hid (by have := HXV.out; simp only [World.grow_grow, Array.append_assoc] at this; exact this)
      have HXU2 : Hid (IntsAt (W9.grow (bA ++ (bC ++ bB)) dB) xu ((usesL E V.le).map Int.ofNat)) := Lib.hid (IntsAt.growsG HXU.out ⟨bB, dB, by simp only [World.grow_grow, Array.append_assoc]⟩)
      refine (sameInts2_any HXU2.out HXV2.out HUL.out).mono ?_
      rintro e' wA ⟨rfl, bA, dA, rfl⟩
      refine TS.go HK1.out growsA (fun hS => ?_)
      clear HK1 K1
      (try simp only [nS])
      refine TS.wkB 11 hS ?_
      refine TS.wkB 12 hS ?_
      refine TS.done (by kernel_rfl) ?_
      clear hS
      (try simp only [nS])
      go_wp2_with fail
      go_returns
      exact ⟨rfl, World.Grows.trans' HG9.out growsA⟩
theorem us_any (hOf : Hid OfSaid) (zs : List Int) (vl : Value) (cs : Array Value) (R : RawV) (w : World) (hl : IntsAt w vl zs) (hR : RawAt w cs.toList R) (ht : Tab w) :
    Calls Tryz.prog 10 #[.agg cs, vl] w fun e w' => e = .returned (.bool true) ∧ w.Grows w' := by
  by_cases h1 : zs.length ≤ 200
  · exact us_core hOf zs vl cs R w hl hR ht h1 _ (Lib.hid rfl) _ (Lib.hid rfl)
  · exact us_long zs vl cs w hl (by omega) R hR
end Go.Proofs.YtlheailebbngiaaGreatDoor
