/- EvalViews: the walk. -/
import Derived.Test.YtlheailebbngiaaGreatDoorVwOR
import Derived.Test.YtlheailebbngiaaGreatDoorLawK
import Derived.Test.YtlheailebbngiaaGreatDoorQIn8
import Derived.Test.YtlheailebbngiaaGreatDoorStY
import Derived.Test.YtlheailebbngiaaGreatDoorQSrc
set_option linter.all false
namespace Go
/-- As growsA, where the world behind has calls in a row, too. -/
theorem growsV {w w' : World} (h : RowKit.Below w.heap.size w w' := by (try simp only [World.grow_grow, World.grow_drew, World.drew_grow, ← Array.append_assoc]); repeat' (first | (with_reducible exact Go.RowKit.Below.fin) | (with_reducible exact Go.RowKit.Below.refl _ _) | (with_reducible assumption) | (with_reducible refine Go.RowKit.Below.peel ?_ ?_) | (with_reducible refine Go.RowKit.Below.grow ?_ ?_ _ _) | (with_reducible refine Go.RowKit.Below.alloc ?_ ?_ _) | (with_reducible refine Go.RowKit.Below.drewN ?_ _) | (with_reducible refine Go.RowKit.Below.drew ?_) | (with_reducible refine Go.RowKit.Below.setCell ?_ ?_ _) | go_size)) : w.Grows w' := .of_below h
end Go
namespace Go.Proofs.YtlheailebbngiaaGreatDoor
open Go.RowKit
theorem tdivV_i64 {n k : Int} (hn : I64 n) (hk : 2 ≤ k) : -9223372036854775808 ≤ n.tdiv k ∧ n.tdiv k ≤ 9223372036854775807 := by
  obtain ⟨h1, h2⟩ := hn
  by_cases h : 0 ≤ n
  · rw [Int.tdiv_eq_ediv_of_nonneg h]
    have := Int.ediv_le_self k h
    have := Int.ediv_nonneg h (show 0 ≤ k by omega)
    omega
  · have e : n.tdiv k = -((-n) / k) := by
      rw [← Int.tdiv_eq_ediv_of_nonneg (show 0 ≤ -n by omega), Int.neg_tdiv, Int.neg_neg]
    have h3 : (-n) / k * k ≤ -n := Int.ediv_mul_le _ (by omega)
    have h4 : 0 ≤ (-n) / k := Int.ediv_nonneg (by omega) (by omega)
    have h5 : (-n) / k * 2 ≤ (-n) / k * k := Int.mul_le_mul_of_nonneg_left hk h4
    omega
theorem input8_any (v : Vw) (y : Value) (s : ByteArray) (w : World) (hr : VwRng v) (hy : YrAt w y v.years) : Calls Tryz.prog 18 #[vwV v y, .string s] w fun r w' => r = .returned (inV (inputV v s)) ∧ w.Grows w' := by
  by_cases h : inpD s.toList = 0 ∨ v.ok = false
  · exact input8_none v y s w hr hy h
  · have h1 : inpD s.toList ≠ 0 := fun e => h (.inl e)
    have h2 : v.ok = true := by cases hv : v.ok with
      | true => rfl
      | false => exact absurd (.inr hv) h
    by_cases hb : s.toList = [98, 97, 115, 101]
    · exact input8_base v y s w hr hy h1 h2 hb
    · exact input8_far v y s w hr hy h1 h2 hb
theorem vi_long (V : Vw) (vv : Value) (a b c d e n : Int) (vd vy : Value) (s : ByteArray) (w : World) (hv : IntsAt w vv V.years) (h : 300 < V.years.length) :
    Calls Tryz.prog 3 #[vwV V vv, .agg #[.int .i64 a, .int .i64 b, .int .i64 c, .int .i64 d, .int .i64 e, vd, vy], .int .i64 n, .string s] w fun e w' => e = .returned (.bool true) ∧ w.Grows w' := by
  obtain ⟨-, -, a1, c1, rfl, -⟩ := hv
  have hn : (300 : Int) < (V.years.length : Int) := by omega
  clear h
  unfold vwV
  go_enter Tryz.func3, Tryz.ntmps3
  go_wp2_with fail
  go_returns
  exact ⟨rfl, .of_below (by (exact belB))⟩
def vwL (X : Vw) (y : Value) : Array Value := #[.int .i64 X.age, .int .i64 X.year, .int .i64 X.children, .int .i64 X.insured, .int .i64 X.worked, .int .i64 X.voluntary, .int .i64 X.service, .int .i64 X.equated, .int .i64 X.raising, .int .i64 X.resident, .int .i64 X.bn, .int .i64 X.bd, y]
/-- What stands behind the change of the view: a view in the block, its years readable. -/
def ViR (B : Nat) (P0 : World) (wx : World) : Prop := ∃ (X : Vw) (xa : Option Addr) (xc : Nat), VwRng X ∧ YrAt wx (.slice xa X.years.length xc) X.years ∧ Below B P0 wx ∧ ∃ t, wx.heap[B]? = some (.cells (vwL X (.slice xa X.years.length xc)) t (0, 0))
theorem below_swap (A : World) (o o' : Obj) : Below A.heap.size (A.alloc o) (A.alloc o') := ⟨rfl, rfl, rfl, by simp, fun k hk => by rw [Below.heap_alloc _ _ _ hk, Below.heap_alloc _ _ _ hk]⟩
theorem vw_cells {w : World} {B : Nat} {X : Vw} {y : Value} {t : TypeId} (h : w.heap[B]? = some (.cells (vwL X y) t (0, 0))) :
    w.cell? ⟨B, 0, none⟩ = some (.int .i64 X.age) ∧ w.cell? ⟨B, 1, none⟩ = some (.int .i64 X.year) ∧ w.cell? ⟨B, 2, none⟩ = some (.int .i64 X.children) ∧ w.cell? ⟨B, 3, none⟩ = some (.int .i64 X.insured) ∧ w.cell? ⟨B, 4, none⟩ = some (.int .i64 X.worked) ∧ w.cell? ⟨B, 5, none⟩ = some (.int .i64 X.voluntary) ∧ w.cell? ⟨B, 6, none⟩ = some (.int .i64 X.service) ∧
    w.cell? ⟨B, 7, none⟩ = some (.int .i64 X.equated) ∧ w.cell? ⟨B, 8, none⟩ = some (.int .i64 X.raising) ∧ w.cell? ⟨B, 9, none⟩ = some (.int .i64 X.resident) ∧ w.cell? ⟨B, 10, none⟩ = some (.int .i64 X.bn) ∧ w.cell? ⟨B, 11, none⟩ = some (.int .i64 X.bd) ∧ w.cell? ⟨B, 12, none⟩ = some y := by
  refine ⟨?_, ?_, ?_, ?_, ?_, ?_, ?_, ?_, ?_, ?_, ?_, ?_, ?_⟩
  all_goals rw [cell_of_row _ _ _ _ _ _ h]; rfl
theorem inV_form (o : Option Val) : ∃ (m : Int) (y : Bool) (a b : Int) (q : Bool), inV o = .tuple #[.agg #[.int .i64 m, .bool y, .int .i64 a, .int .i64 b], .bool q] := by
  cases o with
  | none => exact ⟨_, _, _, _, _, rfl⟩
  | some x => exact ⟨_, _, _, _, _, rfl⟩
theorem vi_met (A : World) (o : Obj) (X : Vw) (xa : Option Addr) (xc : Nat) (t : TypeId) {B : Nat} (hB : A.heap.size = B) (hr : VwRng X) (hy : YrAt A (.slice xa X.years.length xc) X.years) : ViR B (A.alloc o) (A.alloc (.cells (vwL X (.slice xa X.years.length xc)) t)) := by
  subst hB
  exact ⟨X, xa, xc, hr, hy.alloc _, below_swap A _ _, t, heap_new _ _ _ rfl⟩
theorem own_setCell {w : World} {base B i size n : Nat} {e : TypeId} {v u : Value} {xs : List Value} (hB : B < base) (h : w.ownsRow base e size v n xs) : (w.setCell ⟨B, i, none⟩ u).ownsRow base e size v n xs :=
  ownsRow_keep h fun k hk _ => Below.heap_setCell _ _ _ _ (by show k ≠ B; omega)
theorem vi_met2 {P0 w2 : World} {B : Nat} {t : TypeId} {y : Value} (X : Vw) (v2 : Value) (hb : Below B P0 w2) (hblk : w2.heap[B]? = some (.cells (vwL X y) t (0, 0))) (hr : VwRng X) (hl : X.years.length ≤ 1000) (ho : w2.ownsRow (B + 1) 3 1 v2 X.years.length (X.years.map (Value.int .i64))) : ViR B P0 (w2.setCell ⟨B, 12, none⟩ v2) := by
  obtain ⟨xa, xc, rfl⟩ : ∃ a c, v2 = .slice a X.years.length c := by
    rcases row_form ho with ⟨rfl, h0⟩ | ⟨g, cap, rfl, -⟩
    · exact ⟨none, 0, by rw [h0]⟩
    · exact ⟨_, cap, rfl⟩
  exact ⟨X, xa, xc, hr, YrAt.of_rowB (own_setCell (by omega) ho) rfl rfl hl, hb.setCell (Nat.le_refl _) _, t, Joins.block_setCell hblk _⟩
theorem yr_cells {w : World} {g n c : Nat} {l : List Int} (h : YrAt w (.slice (some ⟨g, 0, none⟩) n c) l) : ∀ j u, (l.map (Value.int .i64))[j]? = some u → w.cell? ((⟨g, 0, none⟩ : Addr).add j) = some u := by
  intro j u hu
  obtain ⟨-, a', c', hv, hx⟩ := h
  simp only [Value.slice.injEq] at hv
  obtain ⟨rfl, rfl, rfl⟩ := hv
  rw [List.getElem?_map] at hu
  cases hz : l[j]? with
  | none => rw [hz] at hu; cases hu
  | some z =>
    rw [hz] at hu
    obtain rfl : Value.int .i64 z = u := by simpa using hu
    have hj := (List.getElem?_eq_some_iff.1 hz).1
    rcases hx with hx | ⟨b', off', he, -, hx⟩
    · omega
    simp only [Option.some.injEq, Addr.mk.injEq, and_true] at he
    obtain ⟨rfl, rfl⟩ := he
    have hxj := hx j hj
    rw [Nat.zero_add] at hxj
    rw [addr_add, hxj, List.getD_eq_getElem?_getD, hz]; rfl
theorem vi_met3 (A : World) (o c1 : Obj) (X : Vw) (z : Int) (hX : X.years = [z]) (cap : Nat) (zs : Array Value) (t t' : TypeId) {B : Nat} (hB : A.heap.size = B) (hr : VwRng X) :
    ViR B (A.alloc o) ((((A.alloc (.cells (vwL X (.slice (some ⟨B + 1 + 1, 0, none⟩) 1 cap)) t)).alloc c1).alloc (.cells (#[.int .i64 z] ++ zs) t')).drew) := by
  subst hB
  have hl : X.years.length = 1 := by rw [hX]; rfl
  have e : ∀ i v, (#[Value.int .i64 z] ++ zs)[i]? = some v → ((((A.alloc (.cells (vwL X (.slice (some ⟨A.heap.size + 1 + 1, 0, none⟩) 1 cap)) t)).alloc c1).alloc (.cells (#[.int .i64 z] ++ zs) t')).drew).cell? ⟨A.heap.size + 1 + 1, i, none⟩ = some v := fun i v h => by
    show (World.alloc _ _).cell? _ = _
    rw [World.cell?_alloc_at _ _ _ _ (by simp)]; exact h
  refine ⟨X, some ⟨A.heap.size + 1 + 1, 0, none⟩, cap, hr, ⟨by omega, _, cap, rfl, .inr ⟨_, 0, rfl, by simp, fun i hi => ?_⟩⟩, ?_, t, ?_⟩
  · obtain rfl : i = 0 := by omega
    rw [hX]
    exact e 0 _ (by rw [Array.getElem?_append_left (by simp)]; rfl)
  · exact (((below_swap A _ _).alloc (by simp) _).alloc (by simp; omega) _).drew
  · rw [hl]
    show ((World.alloc _ _).alloc _).heap[_]? = _
    rw [Below.heap_alloc _ _ _ (by simp; omega), Below.heap_alloc _ _ _ (by simp), heap_new _ _ _ rfl]
set_option maxRecDepth 1000000 in
set_option maxHeartbeats 16000000 in
theorem vi_core (V : Vw) (R : VwR) (vv vd vy : Value) (n : Int) (s : ByteArray) (w : World) (hv : IntsAt w vv V.years) (hd : IntsAt w vd R.days) (hy : IntsAt w vy R.years) (ht : Tab w) (h1 : V.years.length ≤ 300) (hVr : VwRng V) (hn : I64 n)
    (v : Vw) (hvw : Hid (viewP R = v)) (hrng : VwRng v) (hlen : v.years.length ≤ 20) :
    Calls Tryz.prog 3 #[vwV V vv, .agg #[.int .i64 R.age, .int .i64 R.year, .int .i64 R.children, .int .i64 R.base, .int .i64 R.den, vd, vy], .int .i64 n, .string s] w fun e w' => e = .returned (.bool true) ∧ w.Grows w' := by
  obtain ⟨i0, hi, hz0, hz1, hz2⟩ := info_parts infoY
  have HT := Lib.hid ht
  have HV := Lib.hid (fun w' (hg : w.Grows w') => viewOf_row R vd vy w' (IntsAt.growsG hd hg) (IntsAt.growsG hy hg))
  have HVY : Hid (YrAt w vv V.years) := Lib.hid (by
    obtain ⟨-, -, a, c, rfl, hc⟩ := hv
    exact ⟨by omega, a, c, rfl, hc⟩)
  unfold VoR vwV at HV
  rw [hvw.out] at HV
  have hn1 : ¬ (300 : Int) < (V.years.length : Int) := by omega
  have h6 := tdivV_i64 hn (show (2 : Int) ≤ 6 by omega)
  have h3 := tdivV_i64 hn (show (2 : Int) ≤ 3 by omega)
  have hw6 : IntKind.i64.wrap (n.tdiv 6) = n.tdiv 6 := IntWalk.i64_in _ (by omega)
  have hw3 : IntKind.i64.wrap (n.tdiv 3) = n.tdiv 3 := IntWalk.i64_in _ (by omega)
  obtain ⟨-, -, va, vc, rfl, -⟩ := hv
  obtain ⟨-, -, da, dc, rfl, -⟩ := hd
  obtain ⟨-, -, ya, yc, rfl, -⟩ := hy
  unfold vwV
  clear ht
  have hpb := pick_bd n 6 (by omega)
  have HPK := Lib.hid (fun w => Pick_any n 6 w (by omega))
  generalize pick n 6 = pk at *
  go_enter Tryz.func3, Tryz.ntmps3
  go_wp2_with fail
  go_at_call 14
  refine (HV.out _ (.of_below (by (exact belB)))).mono ?_
  rintro e' w' ⟨yv, base, rfl, ⟨bs, d, rfl⟩, hown⟩
  have HYV := Lib.hid (YrAt.of_rowB hown rfl rfl (by omega))
  have hform := row_form hown
  obtain ⟨xa, xc, rfl⟩ : ∃ a c, yv = .slice a v.years.length c := by
    rcases hform with ⟨rfl, h0⟩ | ⟨g, cap, rfl, -⟩
    · exact ⟨none, 0, by rw [h0]⟩
    · exact ⟨_, cap, rfl⟩
  have HFM := Lib.hid hform
  clear hform hown
  go_wp2_with fail
  go_at_call 15
  refine (HPK.out _).mono ?_
  rintro e' w' ⟨rfl, rfl⟩
  go_upto_block 0 with fail
  go_cut [] from 15 (fun wx => ViR (w.heap.size + 1 + 1 + bs.size) (((((w.alloc ((.cells #[.int .i64 V.age, .int .i64 V.year, .int .i64 V.children, .int .i64 V.insured, .int .i64 V.worked, .int .i64 V.voluntary, .int .i64 V.service, .int .i64 V.equated, .int .i64 V.raising, .int .i64 V.resident, .int .i64 V.bn, .int .i64 V.bd, .slice va V.years.length vc] 26))).alloc ((.cells #[.int .i64 R.age, .int .i64 R.year, .int .i64 R.children, .int .i64 R.base, .int .i64 R.den, .slice da R.days.length dc, .slice ya R.years.length yc] 28))).grow bs d).alloc ((.cells #[.int .i64 v.age, .int .i64 v.year, .int .i64 v.children, .int .i64 v.insured, .int .i64 v.worked, .int .i64 v.voluntary, .int .i64 v.service, .int .i64 v.equated, .int .i64 v.raising, .int .i64 v.resident, .int .i64 v.bn, .int .i64 v.bd, .slice xa v.years.length xc] 26)))) wx)
  case first =>
    rcases (show pk = 0 ∨ pk = 1 ∨ pk = 2 ∨ pk = 3 ∨ 4 ≤ pk by omega) with rfl | rfl | rfl | rfl | h4
    · go_wp2_with fail
      go_meet
      exact vi_met _ _ ⟨n.tdiv 6, v.year, v.children, v.insured, v.worked, v.voluntary, v.service, v.equated, v.raising, v.resident, v.bn, v.bd, v.years⟩ xa xc _ (by simp) ⟨hrng.base⟩ HYV.out
    · go_wp2_with fail
      go_meet
      exact vi_met _ _ ⟨v.age, v.year, v.children, v.insured, v.worked, v.voluntary, v.service, v.equated, v.raising, n.tdiv 6, v.bn, v.bd, v.years⟩ xa xc _ (by simp) ⟨hrng.base⟩ HYV.out
    · go_wp2_with fail
      go_meet
      exact vi_met _ _ ⟨v.age, v.year, v.children, v.insured, v.worked, v.voluntary, v.service, v.equated, v.raising, v.resident, v.bn, n.tdiv 6, v.years⟩ xa xc _ (by simp) ⟨hrng.base.1, h6⟩ HYV.out
    · rcases HFM.out with ⟨hx, h0⟩ | ⟨g, cap, hx, hbg, hgl⟩
      · simp only [Value.slice.injEq] at hx
        obtain ⟨rfl, -, rfl⟩ := hx
        have hnil : v.years = [] := List.eq_nil_of_length_eq_zero h0
        clear h0
        go_wp2_with fail
        go_meet
        exact vi_met3 _ _ _ ⟨v.age, v.year, v.children, v.insured, v.worked, v.voluntary, v.service, v.equated, v.raising, v.resident, v.bn, v.bd, [n.tdiv 6]⟩ _ rfl _ _ _ _ (by simp) ⟨hrng.base⟩
      · simp only [Value.slice.injEq, true_and] at hx
        obtain ⟨rfl, rfl⟩ := hx
        go_wp2_with (at_builtin; refine wpList_append_own _ rfl _ _ 24 rfl (w.heap.size + 1 + 1 + bs.size + 1) 3 i0 (.int .i64 0) 1 8 Tryz.underlying24 hi hz0 hz1 hz2 rfl (by decide) (.slice none 0 0) 0 [] rfl (World.ownsRow_nil _ _ _ _) ⟨g, 0, none⟩ v.years.length xc (v.years.map (Value.int .i64)) rfl (by simp) ?c1 ?c2 ?c3 ?c4 ?c5 ?_)
        case c1 => exact yr_cells (HYV.out.alloc _)
        case c2 => intro u hu; obtain ⟨z, -, rfl⟩ := List.mem_map.1 hu; rfl
        case c3 => unfold maxLen; omega
        case c4 => omega
        case c5 => simp; try omega
        intro v1 w1 hown1 hgrow1 _
        have HB1 : Hid (Below (w.heap.size + 1 + 1 + bs.size + 1) (((((w.alloc ((.cells #[.int .i64 V.age, .int .i64 V.year, .int .i64 V.children, .int .i64 V.insured, .int .i64 V.worked, .int .i64 V.voluntary, .int .i64 V.service, .int .i64 V.equated, .int .i64 V.raising, .int .i64 V.resident, .int .i64 V.bn, .int .i64 V.bd, .slice va V.years.length vc] 26))).alloc ((.cells #[.int .i64 R.age, .int .i64 R.year, .int .i64 R.children, .int .i64 R.base, .int .i64 R.den, .slice da R.days.length dc, .slice ya R.years.length yc] 28))).grow bs d).alloc ((.cells #[.int .i64 v.age, .int .i64 v.year, .int .i64 v.children, .int .i64 v.insured, .int .i64 v.worked, .int .i64 v.voluntary, .int .i64 v.service, .int .i64 v.equated, .int .i64 v.raising, .int .i64 v.resident, .int .i64 v.bn, .int .i64 v.bd, .slice (some ⟨g, 0, none⟩) v.years.length xc] 26)))) w1) := Lib.hid ((show Below (w.heap.size + 1 + 1 + bs.size + 1) (((((w.alloc ((.cells #[.int .i64 V.age, .int .i64 V.year, .int .i64 V.children, .int .i64 V.insured, .int .i64 V.worked, .int .i64 V.voluntary, .int .i64 V.service, .int .i64 V.equated, .int .i64 V.raising, .int .i64 V.resident, .int .i64 V.bn, .int .i64 V.bd, .slice va V.years.length vc] 26))).alloc ((.cells #[.int .i64 R.age, .int .i64 R.year, .int .i64 R.children, .int .i64 R.base, .int .i64 R.den, .slice da R.days.length dc, .slice ya R.years.length yc] 28))).grow bs d).alloc ((.cells #[.int .i64 v.age, .int .i64 v.year, .int .i64 v.children, .int .i64 v.insured, .int .i64 v.worked, .int .i64 v.voluntary, .int .i64 v.service, .int .i64 v.equated, .int .i64 v.raising, .int .i64 v.resident, .int .i64 v.bn, .int .i64 v.bd, .slice (some ⟨g, 0, none⟩) v.years.length xc] 26)))) (((((w.alloc ((.cells #[.int .i64 V.age, .int .i64 V.year, .int .i64 V.children, .int .i64 V.insured, .int .i64 V.worked, .int .i64 V.voluntary, .int .i64 V.service, .int .i64 V.equated, .int .i64 V.raising, .int .i64 V.resident, .int .i64 V.bn, .int .i64 V.bd, .slice va V.years.length vc] 26))).alloc ((.cells #[.int .i64 R.age, .int .i64 R.year, .int .i64 R.children, .int .i64 R.base, .int .i64 R.den, .slice da R.days.length dc, .slice ya R.years.length yc] 28))).grow bs d).alloc ((.cells #[.int .i64 v.age, .int .i64 v.year, .int .i64 v.children, .int .i64 v.insured, .int .i64 v.worked, .int .i64 v.voluntary, .int .i64 v.service, .int .i64 v.equated, .int .i64 v.raising, .int .i64 v.resident, .int .i64 v.bn, .int .i64 v.bd, .slice (some ⟨g, 0, none⟩) v.years.length xc] 26)))) from .refl _ _).grown hgrow1 (by simp; try omega) (fun k hk => by cases hk))
        have hsz1 : w.heap.size + 1 + 1 + bs.size + 1 ≤ w1.heap.size := by have := HB1.out.size; simp at this; omega
        have HO1 : Hid (w1.ownsRow (w.heap.size + 1 + 1 + bs.size + 1) 3 1 v1 v.years.length (v.years.map (Value.int .i64))) := Lib.hid (by simpa using hown1)
        clear hown1 hgrow1
        go_wp2_with (at_builtin; refine wpList_append_own _ rfl _ _ 24 rfl (w.heap.size + 1 + 1 + bs.size + 1) 3 i0 (.int .i64 0) 1 8 Tryz.underlying24 hi hz0 hz1 hz2 rfl (by decide) v1 v.years.length (v.years.map (Value.int .i64)) rfl (HO1.out.alloc _) ⟨w1.heap.size, 0, none⟩ 1 1 [.int .i64 (n.tdiv 6)] rfl rfl ?c1 ?c2 ?c3 ?c4 ?c5 ?_)
        case c1 => exact news_cells _ [.int .i64 (n.tdiv 6)] _ _ (by simp)
        case c2 => intro u hu; simp at hu; subst hu; rfl
        case c3 => unfold maxLen; omega
        case c4 => omega
        case c5 => simp; try omega
        intro v2 w2 hown2 hgrow2 _
        have HB2 : Hid (Below (w.heap.size + 1 + 1 + bs.size + 1) (((((w.alloc ((.cells #[.int .i64 V.age, .int .i64 V.year, .int .i64 V.children, .int .i64 V.insured, .int .i64 V.worked, .int .i64 V.voluntary, .int .i64 V.service, .int .i64 V.equated, .int .i64 V.raising, .int .i64 V.resident, .int .i64 V.bn, .int .i64 V.bd, .slice va V.years.length vc] 26))).alloc ((.cells #[.int .i64 R.age, .int .i64 R.year, .int .i64 R.children, .int .i64 R.base, .int .i64 R.den, .slice da R.days.length dc, .slice ya R.years.length yc] 28))).grow bs d).alloc ((.cells #[.int .i64 v.age, .int .i64 v.year, .int .i64 v.children, .int .i64 v.insured, .int .i64 v.worked, .int .i64 v.voluntary, .int .i64 v.service, .int .i64 v.equated, .int .i64 v.raising, .int .i64 v.resident, .int .i64 v.bn, .int .i64 v.bd, .slice (some ⟨g, 0, none⟩) v.years.length xc] 26)))) w2) := Lib.hid ((show Below (w.heap.size + 1 + 1 + bs.size + 1) (((((w.alloc ((.cells #[.int .i64 V.age, .int .i64 V.year, .int .i64 V.children, .int .i64 V.insured, .int .i64 V.worked, .int .i64 V.voluntary, .int .i64 V.service, .int .i64 V.equated, .int .i64 V.raising, .int .i64 V.resident, .int .i64 V.bn, .int .i64 V.bd, .slice va V.years.length vc] 26))).alloc ((.cells #[.int .i64 R.age, .int .i64 R.year, .int .i64 R.children, .int .i64 R.base, .int .i64 R.den, .slice da R.days.length dc, .slice ya R.years.length yc] 28))).grow bs d).alloc ((.cells #[.int .i64 v.age, .int .i64 v.year, .int .i64 v.children, .int .i64 v.insured, .int .i64 v.worked, .int .i64 v.voluntary, .int .i64 v.service, .int .i64 v.equated, .int .i64 v.raising, .int .i64 v.resident, .int .i64 v.bn, .int .i64 v.bd, .slice (some ⟨g, 0, none⟩) v.years.length xc] 26)))) _ from by have := HB1.out; (exact belB)).grown hgrow2 (by simp; try omega) (fun k hk => (HO1.out.lt k hk).1))
        have blk2 : w2.heap[w.heap.size + 1 + 1 + bs.size]? = some (.cells (vwL v (.slice (some ⟨g, 0, none⟩) v.years.length xc)) 26 (0, 0)) := (HB2.out.block _ (by omega)).trans (heap_new _ _ _ (by simp))
        have q12 : w2.cell? ⟨w.heap.size + 1 + 1 + bs.size, 12, none⟩ = some (.slice (some ⟨g, 0, none⟩) v.years.length xc) := by rw [cell_of_row _ _ _ _ _ _ blk2]; rfl
        have f12 : w2.frozen? ⟨w.heap.size + 1 + 1 + bs.size, 12, none⟩ = false := (HB2.out.frozen (p := ⟨w.heap.size + 1 + 1 + bs.size, 12, none⟩) (by show w.heap.size + 1 + 1 + bs.size < _; omega)).trans (by simp [go_sem])
        have HO2 := Lib.hid hown2
        obtain ⟨xa2, xc2, rfl⟩ : ∃ a c, v2 = .slice a (v.years.length + 1) c := by
          rcases row_form hown2 with ⟨rfl, h0⟩ | ⟨g, cap, rfl, -⟩
          · omega
          · exact ⟨_, cap, by rfl⟩
        have HBK := Lib.hid blk2
        clear hown2 hgrow2 blk2
        go_wp2_with fail
        go_meet
        exact vi_met2 ⟨v.age, v.year, v.children, v.insured, v.worked, v.voluntary, v.service, v.equated, v.raising, v.resident, v.bn, v.bd, v.years ++ [n.tdiv 6]⟩ _ (HB2.out.mono (by omega)) HBK.out ⟨hrng.base⟩ (by simp; omega) (vo_row (by simp) (by simp) HO2.out)
    · go_wp2_with fail
      go_meet
      exact vi_met _ _ v xa xc _ (by simp) hrng HYV.out
  obtain ⟨X, xa2, xc2, hXr, hXY, hXB, t, hblk⟩ := hcut
  have hP0 : ((((((w.alloc ((.cells #[.int .i64 V.age, .int .i64 V.year, .int .i64 V.children, .int .i64 V.insured, .int .i64 V.worked, .int .i64 V.voluntary, .int .i64 V.service, .int .i64 V.equated, .int .i64 V.raising, .int .i64 V.resident, .int .i64 V.bn, .int .i64 V.bd, .slice va V.years.length vc] 26))).alloc ((.cells #[.int .i64 R.age, .int .i64 R.year, .int .i64 R.children, .int .i64 R.base, .int .i64 R.den, .slice da R.days.length dc, .slice ya R.years.length yc] 28))).grow bs d).alloc ((.cells #[.int .i64 v.age, .int .i64 v.year, .int .i64 v.children, .int .i64 v.insured, .int .i64 v.worked, .int .i64 v.voluntary, .int .i64 v.service, .int .i64 v.equated, .int .i64 v.raising, .int .i64 v.resident, .int .i64 v.bn, .int .i64 v.bd, .slice xa v.years.length xc] 26))))).heap[w.heap.size]? = some (.cells (vwL V (.slice va V.years.length vc)) 26 (0, 0)) := by
    rw [Below.heap_alloc _ _ _ (by simp; omega), World.heap_grow _ _ _ (by simp; omega), Below.heap_alloc _ _ _ (by simp)]
    exact heap_new _ _ _ rfl
  have hblv : wc.heap[w.heap.size]? = some (.cells (vwL V (.slice va V.years.length vc)) 26 (0, 0)) := (hXB.block _ (by omega)).trans hP0
  have HGwc : Hid (w.Grows wc) := Lib.hid (.of_below ((show Below w.heap.size w (((((w.alloc ((.cells #[.int .i64 V.age, .int .i64 V.year, .int .i64 V.children, .int .i64 V.insured, .int .i64 V.worked, .int .i64 V.voluntary, .int .i64 V.service, .int .i64 V.equated, .int .i64 V.raising, .int .i64 V.resident, .int .i64 V.bn, .int .i64 V.bd, .slice va V.years.length vc] 26))).alloc ((.cells #[.int .i64 R.age, .int .i64 R.year, .int .i64 R.children, .int .i64 R.base, .int .i64 R.den, .slice da R.days.length dc, .slice ya R.years.length yc] 28))).grow bs d).alloc ((.cells #[.int .i64 v.age, .int .i64 v.year, .int .i64 v.children, .int .i64 v.insured, .int .i64 v.worked, .int .i64 v.voluntary, .int .i64 v.service, .int .i64 v.equated, .int .i64 v.raising, .int .i64 v.resident, .int .i64 v.bn, .int .i64 v.bd, .slice xa v.years.length xc] 26)))) from by (exact belB)).trans (hXB.mono (by omega))))
  have hszc : w.heap.size + 1 + 1 + bs.size + 1 ≤ wc.heap.size := by have := hXB.size; simp at this; omega
  obtain ⟨q0, q1, q2, q3, q4, q5, q6, q7, q8, q9, q10, q11, q12⟩ := vw_cells hblk
  obtain ⟨p0, p1, p2, p3, p4, p5, p6, p7, p8, p9, p10, p11, p12⟩ := vw_cells hblv
  have z0 : w.heap.size < wc.heap.size := by omega
  have z1 : w.heap.size + 1 + 1 + bs.size < wc.heap.size := by omega
  have HXY := Lib.hid hXY
  clear hXB hblk hblv hP0 hXY HV HPK HYV HFM
  go_wp2_with fail
  go_at_call 16
  refine (Names_any _).mono ?_
  rintro e' w' ⟨rfl, rfl⟩
  by_cases hm : n.tmod 3 = 0
  · have hq : (n.tmod 3 != 0) = false := by simp [hm]
    clear hm
    have HI2 := Lib.hid (fun w' (hg : wc.Grows w') => evin_any X (.slice xa2 X.years.length xc2) (s) w' hXr (HXY.out.grows hg))
    have HI8 := Lib.hid (fun w' (hg : wc.Grows w') => input8_any X (.slice xa2 X.years.length xc2) (s) w' hXr (HXY.out.grows hg))
    have HA2 := Lib.hid (fun w' (hg : wc.Grows w') => ValidView2_any X (.slice xa2 X.years.length xc2) w' hXr (HXY.out.grows hg))
    have HA8 := Lib.hid (fun w' (hg : wc.Grows w') => ValidView8_any X (.slice xa2 X.years.length xc2) w' hXr (HXY.out.grows hg))
    have HB2 := Lib.hid (fun w' (hg : w.Grows w') => ValidView2_any V (.slice va V.years.length vc) w' hVr (HVY.out.grows hg))
    have HB8 := Lib.hid (fun w' (hg : w.Grows w') => ValidView8_any V (.slice va V.years.length vc) w' hVr (HVY.out.grows hg))
    obtain ⟨im, iy, ia, ib, iq, hiv⟩ := inV_form (inputV X (s))
    rw [hiv] at HI2 HI8
    unfold vwV at HI2 HI8 HA2 HA8 HB2 HB8
    clear hiv
    generalize X.ok = xok at HA2 HA8
    generalize V.ok = vok at HB2 HB8
    (try go_wp2_with fail)
    go_at_call 17
    refine (HI2.out _ growsA).mono ?_
    rintro e' w' ⟨rfl, bs3, d3, rfl⟩
    go_wp2_with fail
    go_at_call 18
    refine (HI8.out _ growsA).mono ?_
    rintro e' w' ⟨rfl, bs4, d4, rfl⟩
    go_wp2_with fail
    refine TS.begin [25] (World.Grows _) (by kernel_rfl) (by kernel_rfl) grows_drew0 (fun hS => ?_)
    refine TS.one (i := 0) (by decide +kernel) rfl (fun K1 hK1 => ?_)
    have HK1 := Lib.hid hK1
    clear hK1 hS
    dsimp only [List.getElem_toArray, List.getElem_cons_succ, List.getElem_cons_zero]
    go_simp
    go_at_call 19
    refine (awake8_any _ (HT.out.grows (World.Grows.trans' HGwc.out growsV))).mono ?_
    rintro e' wA ⟨rfl, bA, dA, rfl⟩
    refine TS.go HK1.out growsV (fun hS => ?_)
    clear HK1 K1
    (try simp only [nS])
    refine TS.takeV (i := 1) (v := ?_) rfl (by kernel_rfl) (by kernel_rfl) (by kernel_rfl) (by decide) (fun _ _ _ h => h) rfl hS ?_ ?_
    rotate_left
    focus
      rintro wS ⟨gbS, gdS, rfl⟩
      go_simp
      rfl
    (try simp only [nS])
    refine TS.takeV (i := 2) (v := ?_) rfl (by kernel_rfl) (by kernel_rfl) (by kernel_rfl) (by decide) (fun _ _ _ h => h) rfl hS ?_ ?_
    rotate_left
    focus
      rintro wS ⟨gbS, gdS, rfl⟩
      go_simp
      rfl
    (try simp only [nS])
    refine TS.takeV (i := 4) (v := ?_) rfl (by kernel_rfl) (by kernel_rfl) (by kernel_rfl) (by decide) (fun _ _ _ h => h) rfl hS ?_ ?_
    rotate_left
    focus
      rintro wS ⟨gbS, gdS, rfl⟩
      go_simp
      rfl
    (try simp only [nS])
    refine TS.one (i := 3) (by decide +kernel) rfl (fun K1 hK1 => ?_)
    have HK1 := Lib.hid hK1
    clear hK1 hS
    dsimp only [List.getElem_toArray, List.getElem_cons_succ, List.getElem_cons_zero]
    go_simp
    go_at_call 20
    refine (HB2.out _ (World.Grows.trans' HGwc.out growsV)).mono ?_
    rintro e' wA ⟨rfl, bA, dA, rfl⟩
    refine TS.go HK1.out growsV (fun hS => ?_)
    clear HK1 K1
    (try simp only [nS])
    refine TS.one (i := 5) (by decide +kernel) rfl (fun K1 hK1 => ?_)
    have HK1 := Lib.hid hK1
    clear hK1 hS
    dsimp only [List.getElem_toArray, List.getElem_cons_succ, List.getElem_cons_zero]
    go_simp
    go_at_call 21
    refine (HB8.out _ (World.Grows.trans' HGwc.out growsV)).mono ?_
    rintro e' wA ⟨rfl, bA, dA, rfl⟩
    refine TS.go HK1.out growsV (fun hS => ?_)
    clear HK1 K1
    (try simp only [nS])
    refine TS.takeV (i := 6) (v := ?_) rfl (by kernel_rfl) (by kernel_rfl) (by kernel_rfl) (by decide) (fun _ _ _ h => h) rfl hS ?_ ?_
    rotate_left
    focus
      rintro wS ⟨gbS, gdS, rfl⟩
      go_simp
      rfl
    (try simp only [nS])
    refine TS.takeV (i := 7) (v := ?_) rfl (by kernel_rfl) (by kernel_rfl) (by kernel_rfl) (by decide) (fun _ _ _ h => h) rfl hS ?_ ?_
    rotate_left
    focus
      rintro wS ⟨gbS, gdS, rfl⟩
      go_simp
      rfl
    (try simp only [nS])
    refine TS.takeV (i := 8) (v := ?_) rfl (by kernel_rfl) (by kernel_rfl) (by kernel_rfl) (by decide) (fun _ _ _ h => h) rfl hS ?_ ?_
    rotate_left
    focus
      rintro wS ⟨gbS, gdS, rfl⟩
      go_simp
      rfl
    (try simp only [nS])
    refine TS.takeV (i := 9) (v := ?_) rfl (by kernel_rfl) (by kernel_rfl) (by kernel_rfl) (by decide) (fun _ _ _ h => h) rfl hS ?_ ?_
    rotate_left
    focus
      rintro wS ⟨gbS, gdS, rfl⟩
      go_simp
      rfl
    (try simp only [nS])
    refine TS.takeV (i := 11) (v := ?_) rfl (by kernel_rfl) (by kernel_rfl) (by kernel_rfl) (by decide) (fun _ _ _ h => h) rfl hS ?_ ?_
    rotate_left
    focus
      rintro wS ⟨gbS, gdS, rfl⟩
      go_simp
      rfl
    (try simp only [nS])
    refine TS.one (i := 10) (by decide +kernel) rfl (fun K1 hK1 => ?_)
    have HK1 := Lib.hid hK1
    clear hK1 hS
    dsimp only [List.getElem_toArray, List.getElem_cons_succ, List.getElem_cons_zero]
    go_simp
    go_at_call 20
    refine (HA2.out _ growsV).mono ?_
    rintro e' wA ⟨rfl, bA, dA, rfl⟩
    refine TS.go HK1.out growsV (fun hS => ?_)
    clear HK1 K1
    (try simp only [nS])
    refine TS.one (i := 12) (by decide +kernel) rfl (fun K1 hK1 => ?_)
    have HK1 := Lib.hid hK1
    clear hK1 hS
    dsimp only [List.getElem_toArray, List.getElem_cons_succ, List.getElem_cons_zero]
    go_simp
    go_at_call 21
    refine (HA8.out _ growsV).mono ?_
    rintro e' wA ⟨rfl, bA, dA, rfl⟩
    refine TS.go HK1.out growsV (fun hS => ?_)
    clear HK1 K1
    (try simp only [nS])
    refine TS.takeV (i := 13) (v := ?_) rfl (by kernel_rfl) (by kernel_rfl) (by kernel_rfl) (by decide) (fun _ _ _ h => h) rfl hS ?_ ?_
    rotate_left
    focus
      rintro wS ⟨gbS, gdS, rfl⟩
      go_simp
      rfl
    (try simp only [nS])
    refine TS.takeV (i := 14) (v := ?_) rfl (by kernel_rfl) (by kernel_rfl) (by kernel_rfl) (by decide) (fun _ _ _ h => h) rfl hS ?_ ?_
    rotate_left
    focus
      rintro wS ⟨gbS, gdS, rfl⟩
      go_simp
      rfl
    (try simp only [nS])
    refine TS.takeV (i := 15) (v := ?_) rfl (by kernel_rfl) (by kernel_rfl) (by kernel_rfl) (by decide) (fun _ _ _ h => h) rfl hS ?_ ?_
    rotate_left
    focus
      rintro wS ⟨gbS, gdS, rfl⟩
      go_simp
      rfl
    (try simp only [nS])
    refine TS.takeV (i := 16) (v := ?_) rfl (by kernel_rfl) (by kernel_rfl) (by kernel_rfl) (by decide) (fun _ _ _ h => h) rfl hS ?_ ?_
    rotate_left
    focus
      rintro wS ⟨gbS, gdS, rfl⟩
      go_simp
      rfl
    (try simp only [nS])
    refine TS.takeV (i := 17) (v := ?_) rfl (by kernel_rfl) (by kernel_rfl) (by kernel_rfl) (by decide) (fun _ _ _ h => h) rfl hS ?_ ?_
    rotate_left
    focus
      rintro wS ⟨gbS, gdS, rfl⟩
      go_simp
      rfl
    (try simp only [nS])
    refine TS.takeV (i := 18) (v := ?_) rfl (by kernel_rfl) (by kernel_rfl) (by kernel_rfl) (by decide) (fun _ _ _ h => h) rfl hS ?_ ?_
    rotate_left
    focus
      rintro wS ⟨gbS, gdS, rfl⟩
      go_simp
      rfl
    (try simp only [nS])
    refine TS.takeV (i := 19) (v := ?_) rfl (by kernel_rfl) (by kernel_rfl) (by kernel_rfl) (by decide) (fun _ _ _ h => h) rfl hS ?_ ?_
    rotate_left
    focus
      rintro wS ⟨gbS, gdS, rfl⟩
      go_simp
      rfl
    (try simp only [nS])
    refine TS.takeV (i := 20) (v := ?_) rfl (by kernel_rfl) (by kernel_rfl) (by kernel_rfl) (by decide) (fun _ _ _ h => h) rfl hS ?_ ?_
    rotate_left
    focus
      rintro wS ⟨gbS, gdS, rfl⟩
      go_simp
      rfl
    (try simp only [nS])
    refine TS.takeV (i := 21) (v := ?_) rfl (by kernel_rfl) (by kernel_rfl) (by kernel_rfl) (by decide) (fun _ _ _ h => h) rfl hS ?_ ?_
    rotate_left
    focus
      rintro wS ⟨gbS, gdS, rfl⟩
      go_simp
      rfl
    (try simp only [nS])
    refine TS.takeV (i := 22) (v := ?_) rfl (by kernel_rfl) (by kernel_rfl) (by kernel_rfl) (by decide) (fun _ _ _ h => h) rfl hS ?_ ?_
    rotate_left
    focus
      rintro wS ⟨gbS, gdS, rfl⟩
      go_simp
      rfl
    (try simp only [nS])
    refine TS.takeV (i := 23) (v := ?_) rfl (by kernel_rfl) (by kernel_rfl) (by kernel_rfl) (by decide) (fun _ _ _ h => h) rfl hS ?_ ?_
    rotate_left
    focus
      rintro wS ⟨gbS, gdS, rfl⟩
      go_simp
      rfl
    (try simp only [nS])
    refine TS.takeV (i := 24) (v := ?_) rfl (by kernel_rfl) (by kernel_rfl) (by kernel_rfl) (by decide) (fun _ _ _ h => h) rfl hS ?_ ?_
    rotate_left
    focus
      rintro wS ⟨gbS, gdS, rfl⟩
      go_simp
      rfl
    (try simp only [nS])
    refine TS.one (i := 25) (by kernel_rfl) rfl (fun K1 hK1 => ?_)
    go_simp
    refine hK1 _ _ (fun h => absurd (by decide) h) (TS.done (by kernel_rfl) ?_)
    clear hK1 K1 hS
    (try simp only [nS])
    go_wp2_with fail
    go_returns
    exact ⟨rfl, World.Grows.trans' HGwc.out growsV⟩
  · have hq : (n.tmod 3 != 0) = true := by simp [hm]
    clear hm
    obtain ⟨k, hk, hkj⟩ : ∃ k : Nat, k < 11 ∧ pick (n.tdiv 3) 11 = k := by
      have := pick_bd (n.tdiv 3) 11 (by omega)
      exact ⟨(pick (n.tdiv 3) 11).toNat, by omega, by omega⟩
    have HP3 := Lib.hid (fun w => Pick_any (n.tdiv 3) 11 w (by omega))
    rw [hkj] at HP3
    have hnm := inpA_get k hk
    have hk1 : (k : Int) < 11 := by omega
    clear hkj
    go_wp2_with (go_at_call 15; refine (HP3.out _).mono ?_; rintro e' w' ⟨rfl, rfl⟩)
    have HI2 := Lib.hid (fun w' (hg : wc.Grows w') => evin_any X (.slice xa2 X.years.length xc2) (inpNm k) w' hXr (HXY.out.grows hg))
    have HI8 := Lib.hid (fun w' (hg : wc.Grows w') => input8_any X (.slice xa2 X.years.length xc2) (inpNm k) w' hXr (HXY.out.grows hg))
    have HA2 := Lib.hid (fun w' (hg : wc.Grows w') => ValidView2_any X (.slice xa2 X.years.length xc2) w' hXr (HXY.out.grows hg))
    have HA8 := Lib.hid (fun w' (hg : wc.Grows w') => ValidView8_any X (.slice xa2 X.years.length xc2) w' hXr (HXY.out.grows hg))
    have HB2 := Lib.hid (fun w' (hg : w.Grows w') => ValidView2_any V (.slice va V.years.length vc) w' hVr (HVY.out.grows hg))
    have HB8 := Lib.hid (fun w' (hg : w.Grows w') => ValidView8_any V (.slice va V.years.length vc) w' hVr (HVY.out.grows hg))
    obtain ⟨im, iy, ia, ib, iq, hiv⟩ := inV_form (inputV X (inpNm k))
    rw [hiv] at HI2 HI8
    unfold vwV at HI2 HI8 HA2 HA8 HB2 HB8
    clear hiv
    generalize X.ok = xok at HA2 HA8
    generalize V.ok = vok at HB2 HB8
    (try go_wp2_with fail)
    go_at_call 17
    refine (HI2.out _ growsA).mono ?_
    rintro e' w' ⟨rfl, bs3, d3, rfl⟩
    go_wp2_with fail
    go_at_call 18
    refine (HI8.out _ growsA).mono ?_
    rintro e' w' ⟨rfl, bs4, d4, rfl⟩
    go_wp2_with fail
    refine TS.begin [25] (World.Grows _) (by kernel_rfl) (by kernel_rfl) grows_drew0 (fun hS => ?_)
    refine TS.one (i := 0) (by decide +kernel) rfl (fun K1 hK1 => ?_)
    have HK1 := Lib.hid hK1
    clear hK1 hS
    dsimp only [List.getElem_toArray, List.getElem_cons_succ, List.getElem_cons_zero]
    go_simp
    go_at_call 19
    refine (awake8_any _ (HT.out.grows (World.Grows.trans' HGwc.out growsV))).mono ?_
    rintro e' wA ⟨rfl, bA, dA, rfl⟩
    refine TS.go HK1.out growsV (fun hS => ?_)
    clear HK1 K1
    (try simp only [nS])
    refine TS.takeV (i := 1) (v := ?_) rfl (by kernel_rfl) (by kernel_rfl) (by kernel_rfl) (by decide) (fun _ _ _ h => h) rfl hS ?_ ?_
    rotate_left
    focus
      rintro wS ⟨gbS, gdS, rfl⟩
      go_simp
      rfl
    (try simp only [nS])
    refine TS.takeV (i := 2) (v := ?_) rfl (by kernel_rfl) (by kernel_rfl) (by kernel_rfl) (by decide) (fun _ _ _ h => h) rfl hS ?_ ?_
    rotate_left
    focus
      rintro wS ⟨gbS, gdS, rfl⟩
      go_simp
      rfl
    (try simp only [nS])
    refine TS.takeV (i := 4) (v := ?_) rfl (by kernel_rfl) (by kernel_rfl) (by kernel_rfl) (by decide) (fun _ _ _ h => h) rfl hS ?_ ?_
    rotate_left
    focus
      rintro wS ⟨gbS, gdS, rfl⟩
      go_simp
      rfl
    (try simp only [nS])
    refine TS.one (i := 3) (by decide +kernel) rfl (fun K1 hK1 => ?_)
    have HK1 := Lib.hid hK1
    clear hK1 hS
    dsimp only [List.getElem_toArray, List.getElem_cons_succ, List.getElem_cons_zero]
    go_simp
    go_at_call 20
    refine (HB2.out _ (World.Grows.trans' HGwc.out growsV)).mono ?_
    rintro e' wA ⟨rfl, bA, dA, rfl⟩
    refine TS.go HK1.out growsV (fun hS => ?_)
    clear HK1 K1
    (try simp only [nS])
    refine TS.one (i := 5) (by decide +kernel) rfl (fun K1 hK1 => ?_)
    have HK1 := Lib.hid hK1
    clear hK1 hS
    dsimp only [List.getElem_toArray, List.getElem_cons_succ, List.getElem_cons_zero]
    go_simp
    go_at_call 21
    refine (HB8.out _ (World.Grows.trans' HGwc.out growsV)).mono ?_
    rintro e' wA ⟨rfl, bA, dA, rfl⟩
    refine TS.go HK1.out growsV (fun hS => ?_)
    clear HK1 K1
    (try simp only [nS])
    refine TS.takeV (i := 6) (v := ?_) rfl (by kernel_rfl) (by kernel_rfl) (by kernel_rfl) (by decide) (fun _ _ _ h => h) rfl hS ?_ ?_
    rotate_left
    focus
      rintro wS ⟨gbS, gdS, rfl⟩
      go_simp
      rfl
    (try simp only [nS])
    refine TS.takeV (i := 7) (v := ?_) rfl (by kernel_rfl) (by kernel_rfl) (by kernel_rfl) (by decide) (fun _ _ _ h => h) rfl hS ?_ ?_
    rotate_left
    focus
      rintro wS ⟨gbS, gdS, rfl⟩
      go_simp
      rfl
    (try simp only [nS])
    refine TS.takeV (i := 8) (v := ?_) rfl (by kernel_rfl) (by kernel_rfl) (by kernel_rfl) (by decide) (fun _ _ _ h => h) rfl hS ?_ ?_
    rotate_left
    focus
      rintro wS ⟨gbS, gdS, rfl⟩
      go_simp
      rfl
    (try simp only [nS])
    refine TS.takeV (i := 9) (v := ?_) rfl (by kernel_rfl) (by kernel_rfl) (by kernel_rfl) (by decide) (fun _ _ _ h => h) rfl hS ?_ ?_
    rotate_left
    focus
      rintro wS ⟨gbS, gdS, rfl⟩
      go_simp
      rfl
    (try simp only [nS])
    refine TS.takeV (i := 11) (v := ?_) rfl (by kernel_rfl) (by kernel_rfl) (by kernel_rfl) (by decide) (fun _ _ _ h => h) rfl hS ?_ ?_
    rotate_left
    focus
      rintro wS ⟨gbS, gdS, rfl⟩
      go_simp
      rfl
    (try simp only [nS])
    refine TS.one (i := 10) (by decide +kernel) rfl (fun K1 hK1 => ?_)
    have HK1 := Lib.hid hK1
    clear hK1 hS
    dsimp only [List.getElem_toArray, List.getElem_cons_succ, List.getElem_cons_zero]
    go_simp
    go_at_call 20
    refine (HA2.out _ growsV).mono ?_
    rintro e' wA ⟨rfl, bA, dA, rfl⟩
    refine TS.go HK1.out growsV (fun hS => ?_)
    clear HK1 K1
    (try simp only [nS])
    refine TS.one (i := 12) (by decide +kernel) rfl (fun K1 hK1 => ?_)
    have HK1 := Lib.hid hK1
    clear hK1 hS
    dsimp only [List.getElem_toArray, List.getElem_cons_succ, List.getElem_cons_zero]
    go_simp
    go_at_call 21
    refine (HA8.out _ growsV).mono ?_
    rintro e' wA ⟨rfl, bA, dA, rfl⟩
    refine TS.go HK1.out growsV (fun hS => ?_)
    clear HK1 K1
    (try simp only [nS])
    refine TS.takeV (i := 13) (v := ?_) rfl (by kernel_rfl) (by kernel_rfl) (by kernel_rfl) (by decide) (fun _ _ _ h => h) rfl hS ?_ ?_
    rotate_left
    focus
      rintro wS ⟨gbS, gdS, rfl⟩
      go_simp
      rfl
    (try simp only [nS])
    refine TS.takeV (i := 14) (v := ?_) rfl (by kernel_rfl) (by kernel_rfl) (by kernel_rfl) (by decide) (fun _ _ _ h => h) rfl hS ?_ ?_
    rotate_left
    focus
      rintro wS ⟨gbS, gdS, rfl⟩
      go_simp
      rfl
    (try simp only [nS])
    refine TS.takeV (i := 15) (v := ?_) rfl (by kernel_rfl) (by kernel_rfl) (by kernel_rfl) (by decide) (fun _ _ _ h => h) rfl hS ?_ ?_
    rotate_left
    focus
      rintro wS ⟨gbS, gdS, rfl⟩
      go_simp
      rfl
    (try simp only [nS])
    refine TS.takeV (i := 16) (v := ?_) rfl (by kernel_rfl) (by kernel_rfl) (by kernel_rfl) (by decide) (fun _ _ _ h => h) rfl hS ?_ ?_
    rotate_left
    focus
      rintro wS ⟨gbS, gdS, rfl⟩
      go_simp
      rfl
    (try simp only [nS])
    refine TS.takeV (i := 17) (v := ?_) rfl (by kernel_rfl) (by kernel_rfl) (by kernel_rfl) (by decide) (fun _ _ _ h => h) rfl hS ?_ ?_
    rotate_left
    focus
      rintro wS ⟨gbS, gdS, rfl⟩
      go_simp
      rfl
    (try simp only [nS])
    refine TS.takeV (i := 18) (v := ?_) rfl (by kernel_rfl) (by kernel_rfl) (by kernel_rfl) (by decide) (fun _ _ _ h => h) rfl hS ?_ ?_
    rotate_left
    focus
      rintro wS ⟨gbS, gdS, rfl⟩
      go_simp
      rfl
    (try simp only [nS])
    refine TS.takeV (i := 19) (v := ?_) rfl (by kernel_rfl) (by kernel_rfl) (by kernel_rfl) (by decide) (fun _ _ _ h => h) rfl hS ?_ ?_
    rotate_left
    focus
      rintro wS ⟨gbS, gdS, rfl⟩
      go_simp
      rfl
    (try simp only [nS])
    refine TS.takeV (i := 20) (v := ?_) rfl (by kernel_rfl) (by kernel_rfl) (by kernel_rfl) (by decide) (fun _ _ _ h => h) rfl hS ?_ ?_
    rotate_left
    focus
      rintro wS ⟨gbS, gdS, rfl⟩
      go_simp
      rfl
    (try simp only [nS])
    refine TS.takeV (i := 21) (v := ?_) rfl (by kernel_rfl) (by kernel_rfl) (by kernel_rfl) (by decide) (fun _ _ _ h => h) rfl hS ?_ ?_
    rotate_left
    focus
      rintro wS ⟨gbS, gdS, rfl⟩
      go_simp
      rfl
    (try simp only [nS])
    refine TS.takeV (i := 22) (v := ?_) rfl (by kernel_rfl) (by kernel_rfl) (by kernel_rfl) (by decide) (fun _ _ _ h => h) rfl hS ?_ ?_
    rotate_left
    focus
      rintro wS ⟨gbS, gdS, rfl⟩
      go_simp
      rfl
    (try simp only [nS])
    refine TS.takeV (i := 23) (v := ?_) rfl (by kernel_rfl) (by kernel_rfl) (by kernel_rfl) (by decide) (fun _ _ _ h => h) rfl hS ?_ ?_
    rotate_left
    focus
      rintro wS ⟨gbS, gdS, rfl⟩
      go_simp
      rfl
    (try simp only [nS])
    refine TS.takeV (i := 24) (v := ?_) rfl (by kernel_rfl) (by kernel_rfl) (by kernel_rfl) (by decide) (fun _ _ _ h => h) rfl hS ?_ ?_
    rotate_left
    focus
      rintro wS ⟨gbS, gdS, rfl⟩
      go_simp
      rfl
    (try simp only [nS])
    refine TS.one (i := 25) (by kernel_rfl) rfl (fun K1 hK1 => ?_)
    go_simp
    refine hK1 _ _ (fun h => absurd (by decide) h) (TS.done (by kernel_rfl) ?_)
    clear hK1 K1 hS
    (try simp only [nS])
    go_wp2_with fail
    go_returns
    exact ⟨rfl, World.Grows.trans' HGwc.out growsV⟩
theorem vi_any (V : Vw) (R : VwR) (vv vd vy : Value) (n : Int) (s : ByteArray) (w : World) (hv : IntsAt w vv V.years) (hd : IntsAt w vd R.days) (hy : IntsAt w vy R.years) (ht : Tab w) (hVr : VwRng V) (hn : I64 n) :
    Calls Tryz.prog 3 #[vwV V vv, .agg #[.int .i64 R.age, .int .i64 R.year, .int .i64 R.children, .int .i64 R.base, .int .i64 R.den, vd, vy], .int .i64 n, .string s] w fun e w' => e = .returned (.bool true) ∧ w.Grows w' := by
  by_cases hlen : V.years.length ≤ 300
  · exact vi_core V R vv vd vy n s w hv hd hy ht hlen hVr hn (viewP R) (Lib.hid rfl) (viewP_rng R) (viewP_len R)
  · exact vi_long V vv R.age R.year R.children R.base R.den n vd vy s w hv (by omega)
end Go.Proofs.YtlheailebbngiaaGreatDoor
