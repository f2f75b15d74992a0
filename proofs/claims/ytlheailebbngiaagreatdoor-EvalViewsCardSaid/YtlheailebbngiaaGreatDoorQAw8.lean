/- pensionlaw8's expressions and its example. -/
import Derived.Test.YtlheailebbngiaaGreatDoorQEvN
import Derived.Test.YtlheailebbngiaaGreatDoorQNames
import Derived.Test.YtlheailebbngiaaGreatDoorQLeaf
import Derived.Test.YtlheailebbngiaaGreatDoorQBestP
import Derived.Test.YtlheailebbngiaaGreatDoorQFrAll
import Derived.Laws.AppendOwnNone
set_option linter.all false
namespace Go.Proofs.YtlheailebbngiaaGreatDoor
open Go.RowKit
set_option maxHeartbeats 1000000 in
theorem lit8_any (n d m : Int) (w : World) : Calls Tryz.prog 53 #[.int .i64 n, .int .i64 d, .int .i64 m] w fun e w' => e = .returned (exV (.mk 1 n d m noN []) (.slice none 0 0)) ∧ w.Grows w' := by
  show Calls _ _ _ _ fun e w' => e = .returned (.agg #[.int .i64 1, .int .i64 n, .int .i64 d, .int .i64 m, .string ⟨#[]⟩, .slice none 0 0]) ∧ _
  go_enter Tryz.func53, Tryz.ntmps53
  go_wp2_with fail
  go_returns
  exact ⟨rfl, .of_below (by (exact belB))⟩
set_option maxHeartbeats 1000000 in
theorem name8_any (s : ByteArray) (w : World) : Calls Tryz.prog 52 #[.string s] w fun e w' => e = .returned (exV (.mk 2 0 0 0 s []) (.slice none 0 0)) ∧ w.Grows w' := by
  show Calls _ _ _ _ fun e w' => e = .returned (.agg #[.int .i64 2, .int .i64 0, .int .i64 0, .int .i64 0, .string s, .slice none 0 0]) ∧ _
  go_enter Tryz.func52, Tryz.ntmps52
  go_wp2_with fail
  go_returns
  exact ⟨rfl, .of_below (by (exact belB))⟩
def TwoP (op : Int) (o1 o2 : Ex) (w : World) (e : Ending) (w' : World) : Prop :=
  ∃ b, e = .returned (.agg #[.int .i64 op, .int .i64 0, .int .i64 0, .int .i64 0, .string ⟨#[]⟩, .slice (some ⟨b, 0, none⟩) 2 2]) ∧ w.Grows w' ∧ RepE (fun _ => True) w' (.mk op 0 0 0 noN [o1, o2]) (.slice (some ⟨b, 0, none⟩) 2 2)
set_option maxHeartbeats 2000000 in
theorem two8_any (op : Int) (ho : 0 ≤ op ∧ op ≤ 100) (o1 o2 : Ex) (v1 v2 : Value) (w : World) (h1 : RepE (fun _ => True) w o1 v1) (h2 : RepE (fun _ => True) w o2 v2) :
    Calls Tryz.prog 51 #[.int .i64 op, exV o1 v1, exV o2 v2] w (TwoP op o1 o2 w) := by
  obtain ⟨a1, c1, rfl⟩ := h1.form0
  obtain ⟨a2, c2, rfl⟩ := h2.form0
  have H1 := Lib.hid h1
  have H2 := Lib.hid h2
  clear h1 h2
  unfold exV
  go_enter Tryz.func51, Tryz.ntmps51
  go_wp2_with fail
  go_returns
  refine ⟨_, rfl, .of_below (by (exact belB)), ?_⟩
  exact RepE.pair op ho trivial (heap_new _ _ _ (by simp)) (H1.out.grows (.of_below (by (exact belB)))) (H2.out.grows (.of_below (by (exact belB))))
theorem RepE.nil8 (w : World) (op n d m : Int) (s : ByteArray) (h1 : -1000 ≤ op ∧ op ≤ 1000) (h2 : -1000 ≤ n ∧ n ≤ 1000) (h3 : -1000 ≤ d ∧ d ≤ 1000) (h4 : -1000 ≤ m ∧ m ≤ 1000) (h5 : s.size ≤ 1000) : RepE (fun _ => True) w (.mk op n d m s []) (.slice none 0 0) :=
  RepE.nil ⟨⟨by show _ ≤ op; omega, by show op ≤ _; omega⟩, ⟨by show _ ≤ n; omega, by show n ≤ _; omega⟩, ⟨by show _ ≤ d; omega, by show d ≤ _; omega⟩, ⟨by show _ ≤ m; omega, by show m ≤ _; omega⟩, by simp [Ex.args], by show s.size ≤ _; omega⟩ rfl
def nmE (s : ByteArray) : Ex := .mk 2 0 0 0 s []
def ltE (n d m : Int) : Ex := .mk 1 n d m noN []
theorem awE_is : awE = .mk 9 0 0 0 noN [.mk 9 0 0 0 noN [nmE baseN, .mk 10 0 0 0 noN [nmE insuredN, ltE 365 1 3]], ltE 1 50 2] := rfl
theorem view_aw (w : World) : YrAt w (.slice none 0 0) awV.years := ⟨by decide, none, 0, rfl, .inl rfl⟩
theorem steps_no (w : World) : StpAt w (.slice none 0 0) [] := ⟨by decide, none, 0, rfl, .inl rfl⟩
set_option maxRecDepth 100000 in
set_option maxHeartbeats 4000000 in
theorem awake8_any (w : World) (ht : Tab w) : Calls Tryz.prog 19 #[] w fun e w' => e = .returned (.bool true) ∧ w.Grows w' := by
  have HT := Lib.hid ht
  have HX := Lib.hid (fun w b (hR : RepE (fun _ => True) w awE (.slice (some ⟨b, 0, none⟩) 2 2)) (ht : Tab w) => Expr2_any (fun _ => True) awV (.slice none 0 0) (.slice none 0 0) [] awE (some ⟨b, 0, none⟩) 2 w hR (by decide +kernel) ht (view_aw w) ⟨⟨by decide, by decide⟩, ⟨by decide, by decide⟩⟩ (steps_no w) (fun p hp => by cases hp))
  unfold ExpP at HX
  rw [aw_expr] at HX
  unfold valV at HX
  dsimp only at HX
  clear ht
  go_enter Tryz.func19, Tryz.ntmps19
  go_wp2_with (first
    | (go_at_call 52; refine (name8_any _ _).mono ?_; rintro e' w' ⟨rfl, bs, d, rfl⟩)
    | (go_at_call 53; refine (lit8_any _ _ _ _).mono ?_; rintro e' w' ⟨rfl, bs, d, rfl⟩))
  go_at_call 51
  refine (two8_any 10 (by omega) (nmE insuredN) (ltE 365 1 3) _ _ _ (RepE.nil8 _ _ _ _ _ _ (by omega) (by omega) (by omega) (by omega) (by decide)) (RepE.nil8 _ _ _ _ _ _ (by omega) (by omega) (by omega) (by omega) (by decide))).mono ?_
  rintro e' Wb1 ⟨b1, rfl, hg, hr⟩
  have Gb1 : Hid (w.Grows Wb1) := Lib.hid (World.Grows.trans (.of_below (by (exact belB))) hg)
  have Rb1 := Lib.hid hr
  clear hr hg
  go_wp2_with fail
  go_at_call 51
  refine (two8_any 9 (by omega) (nmE baseN) (.mk 10 0 0 0 noN [nmE insuredN, ltE 365 1 3]) _ _ _ (RepE.nil8 _ _ _ _ _ _ (by omega) (by omega) (by omega) (by omega) (by decide)) (Rb1.out)).mono ?_
  rintro e' Wb2 ⟨b2, rfl, hg, hr⟩
  have Gb2 : Hid (w.Grows Wb2) := Lib.hid (World.Grows.trans (Gb1.out) hg)
  have Rb2 := Lib.hid hr
  clear hr hg
  go_wp2_with (go_at_call 53; refine (lit8_any _ _ _ _).mono ?_; rintro e' w' ⟨rfl, bs, d, rfl⟩)
  go_at_call 51
  refine (two8_any 9 (by omega) (.mk 9 0 0 0 noN [nmE baseN, .mk 10 0 0 0 noN [nmE insuredN, ltE 365 1 3]]) (ltE 1 50 2) _ _ _ (Rb2.out.grows (.of_below (by (exact belB)))) (RepE.nil8 _ _ _ _ _ _ (by omega) (by omega) (by omega) (by omega) (by decide))).mono ?_
  rintro e' Wb3 ⟨b3, rfl, hg, hr⟩
  have Gb3 : Hid (w.Grows Wb3) := Lib.hid (World.Grows.trans (World.Grows.trans Gb2.out (.of_below (by (exact belB)))) hg)
  have Rb3 := Lib.hid hr
  clear hr hg
  go_wp2_with (go_at_call 29; refine (HX.out _ b3 (Rb3.out.grows (.of_below (by (exact belB)))) (HT.out.grows (World.Grows.trans Gb3.out (.of_below (by (exact belB)))))).mono ?_; rintro e' w' ⟨rfl, bs7, d7, rfl⟩)
  go_returns
  exact ⟨rfl, World.Grows.trans Gb3.out (.of_below (by (exact belB)))⟩
end Go.Proofs.YtlheailebbngiaaGreatDoor
/- EvalBestOrder: the walk. -/
namespace Go.Proofs.YtlheailebbngiaaGreatDoor
open Go.RowKit
theorem YrAt.of_rowB {w : World} {base : Nat} {v : Value} {l : List Int} {k : Nat} {xs : List Value} (h : w.ownsRow base 3 1 v k xs) (hk : k = l.length) (hx : xs = l.map (Value.int .i64)) (hl : l.length ≤ 1000) : YrAt w v l := by
  subst hk hx; exact YrAt.of_row h hl
theorem row_form {w : World} {base : Nat} {v : Value} {k : Nat} {xs : List Value} (h : w.ownsRow base 3 1 v k xs) : (v = .slice none 0 0 ∧ k = 0) ∨ ∃ g cap, v = .slice (some ⟨g, 0, none⟩) k cap ∧ base ≤ g ∧ g < w.heap.size := by
  obtain ⟨-, ⟨rfl, h0⟩ | ⟨g, cap, cur, rfl, hb, hg, -⟩⟩ := h
  · exact .inl ⟨rfl, h0⟩
  · exact .inr ⟨g, cap, rfl, hb, (Array.getElem?_eq_some_iff.1 hg).1⟩
def pkV (zs : List Int) : List Value := zs.map fun z => Value.int .i64 (pick z 1000000)
theorem pkV_eq (zs : List Int) : (pkV zs).take zs.length = (pkL zs).map (Value.int .i64) := by
  unfold pkV pkL
  rw [List.map_map, List.take_of_length_le (by simp)]; rfl
theorem pk_take (zs : List Int) (k : Nat) (hk : k < zs.length) : (pkV zs).take (k + 1) = (pkV zs).take k ++ [.int .i64 (pick (zs.getD k 0) 1000000)] := by
  unfold pkV
  rw [List.take_succ_eq_append_getElem (by simpa using hk), List.getElem_map, List.getD_eq_getElem?_getD, List.getElem?_eq_getElem hk]; rfl
def rvV (L : List Int) : List Value := L.reverse.map (Value.int .i64)
theorem rvV_eq (L : List Int) : (rvV L).take L.length = L.reverse.map (Value.int .i64) := by
  unfold rvV
  rw [List.take_of_length_le (by simp)]
theorem rev_take (L : List Int) (k i : Nat) (hk : k < L.length) (hi : (L.length : Int) - 1 - k = i) : (rvV L).take (k + 1) = (rvV L).take k ++ [.int .i64 (L.getD i 0)] := by
  obtain rfl : i = L.length - 1 - k := by omega
  unfold rvV
  rw [List.take_succ_eq_append_getElem (by simpa using hk), List.getElem_map, List.getElem_reverse, List.getD_eq_getElem?_getD, List.getElem?_eq_getElem (by omega)]; rfl
theorem bo_long (zs : List Int) (v : Value) (n m : Int) (w : World) (h : IntsAt w v zs) (hl : 100 < zs.length) :
    Calls Tryz.prog 5 #[v, .int .i64 n, .int .i64 m] w fun e w' => e = .returned (.bool true) ∧ w.Grows w' := by
  obtain ⟨-, -, a, cap, rfl, -⟩ := h
  have hn : (100 : Int) < (zs.length : Int) := by omega
  go_enter Tryz.func5, Tryz.ntmps5
  go_wp2_with fail
  go_returns
  exact ⟨rfl, .of_below (by (exact belB))⟩
set_option maxRecDepth 1000000 in
set_option maxHeartbeats 8000000 in
theorem bo_short (zs : List Int) (v : Value) (n m : Int) (w : World) (h : IntsAt w v zs) (hl : zs.length ≤ 100) (ht : Tab w) :
    Calls Tryz.prog 5 #[v, .int .i64 n, .int .i64 m] w fun e w' => e = .returned (.bool true) ∧ w.Grows w' := by
  obtain ⟨i0, hi, hz0, hz1, hz2⟩ := info_parts infoY
  have HT := Lib.hid ht
  obtain ⟨a1, a2, c1, c2, cc, hA, hR, hC, hcmp, hcc, hva, hvc⟩ := bo_vals zs n m hl
  have HB1 := Lib.hid (fun v w hy => Best2_any (pkL zs) (pick n 45 + 1) v w hy)
  have HB2 := Lib.hid (fun v w hy => Best2_any (pkL zs).reverse (pick n 45 + 1) v w hy)
  have HB3 := Lib.hid (fun v w hy => Best2_any (pkL zs ++ [pick m 1000000]) (pick n 45 + 1) v w hy)
  rw [hA] at HB1
  rw [hR] at HB2
  rw [hC] at HB3
  have HCM := Lib.hid (fun w => Compare1_any a1 a2 c1 c2 w (by
    have := vfrac_bd hva
    have := vfrac_bd hvc
    unfold I64x4 I64; omega))
  rw [hcmp] at HCM
  unfold frV at HB1 HB2 HB3
  unfold frI at HCM
  dsimp only at HB1 HB2 HB3 HCM
  have HI := Lib.hid h
  obtain ⟨-, -, a, cap, rfl, hcs⟩ := h
  have HCS := Lib.hid hcs
  have hpn := pick_bd n 45 (by omega)
  clear hA hR hC hcmp hva hvc hcs ht
  go_enter Tryz.func5, Tryz.ntmps5
  go_wp2_with fail
  go_loopw [7, 9] (fun v7 v9 wr => ∃ (k : Nat) (vb : Value), vb = v7 ∧ k ≤ zs.length ∧ v9 = .int .i64 k ∧ Below w.heap.size w wr ∧ wr.ownsRow w.heap.size 3 1 vb k ((pkV zs).take k)) (fun _ v9 _ => zs.length - (intOf v9).toNat)
  case atStart => exact ⟨0, _, rfl, by omega, rfl, .refl _ _, World.ownsRow_nil _ _ _ _⟩
  case round =>
    obtain ⟨k, vb, rfl, hk, rfl, hB, hown⟩ := hrel
    have HB := Lib.hid hB
    have HO := Lib.hid hown
    have hsW := hB.size
    by_cases hlt : k < zs.length
    · rcases HCS.out with h0 | ⟨b, off, rfl, hbw, hx⟩
      · omega
      have x0 : wr.cell? ⟨b, off + k, none⟩ = some (.int .i64 (zs.getD k 0)) := (hB.cell (p := ⟨b, off + k, none⟩) hbw).trans (hx k hlt)
      have d1 : (k : Int) < (zs.length : Int) := by omega
      have HNX := Lib.hid (pk_take zs k hlt)
      have HKL := Lib.hid hlt
      clear hx hlt hB hown
      generalize zs.getD k 0 = z at *
      go_wp2_with (first
        | (go_at_call 15; refine (Pick_any _ _ _ (by omega)).mono ?_; rintro e w' ⟨rfl, rfl⟩)
        | (at_builtin; refine wpList_append_own _ rfl _ _ 24 rfl w.heap.size 3 i0 (.int .i64 0) 1 8 Tryz.underlying24 hi hz0 hz1 hz2 rfl (by decide) _ _ _ rfl (HO.out.alloc _) ⟨wr.heap.size, 0, none⟩ 1 1 [.int .i64 (pick z 1000000)] rfl rfl ?c1 ?c2 ?c3 ?c4 ?c5 ?_))
      case c1 => exact news_cells _ [.int .i64 (pick z 1000000)] _ _ (by simp)
      case c2 => intro u hu; simp at hu; subst hu; rfl
      case c3 => unfold maxLen; omega
      case c4 => omega
      case c5 => simp; omega
      intro v' w1 hown' hgrow _
      have HB1 := Lib.hid ((show Below w.heap.size w _ from by have := HB.out; (exact belB)).grown hgrow (by simp; omega) (fun k hk => (HO.out.lt k hk).1))
      have HO1 := Lib.hid hown'
      clear hown' hgrow
      go_wp2_with fail
      go_roundw
      case rel => exact ⟨k + 1, _, rfl, HKL.out, by go_num, HB1.out, by rw [HNX.out]; exact HO1.out⟩
      case measure => simp [intOf]; have := HKL.out; omega
    · obtain rfl : k = zs.length := by omega
      have hYL : YrAt wr vb (pkL zs) := YrAt.of_rowB hown (by simp) (pkV_eq zs) (by simp; omega)
      have HYL := Lib.hid hYL
      have hform := row_form hown
      have hlL : (pkL zs).length = zs.length := by simp
      have hL100 : (pkL zs).length ≤ 100 := by omega
      have hbdL : ∀ x ∈ pkL zs, 0 ≤ x ∧ x < 1000000 := fun x hx => pkL_mem hx
      have HBD := Lib.hid hbdL
      generalize hLL : pkL zs = L at *
      clear hown hYL hLL hbdL
      have hw1 : wrap64 ((L.length : Int) - 1) = (L.length : Int) - 1 := IntWalk.wrap64_in _ (by omega)
      have HG0 : Hid (w.Grows wr) := Lib.hid (.of_below HB.out)
      obtain ⟨W1, rfl⟩ : ∃ W1, W1 = wr := ⟨_, rfl⟩
      rcases hform with ⟨rfl, hz⟩ | ⟨g, gc, rfl, hg1, hg2⟩
      · obtain rfl : L = [] := List.eq_nil_of_length_eq_zero (by omega)
        have hzz : zs = [] := List.eq_nil_of_length_eq_zero hz
        subst hzz
        have HN0 : Hid (∀ X, YrAt X (.slice none 0 0) []) := Lib.hid (fun X => ⟨by decide, none, 0, rfl, .inl rfl⟩)
        simp only [List.length_nil, List.reverse_nil, List.nil_append] at *
        clear HYL HBD HCS HI
        go_wp2_with fail
        go_loopw [8, 10] (fun v8 v10 wr => v8 = .slice none 0 0 ∧ v10 = .int .i64 (-1) ∧ W1 = wr) (fun _ _ _ => 0)
        case atStart => exact ⟨rfl, by simp, rfl⟩
        case round =>
          obtain ⟨rfl, rfl, rfl⟩ := hrel
          go_wp2_with (first
            | (go_at_call 15; refine (Pick_any _ _ _ (by omega)).mono ?_; rintro e' w' ⟨rfl, rfl⟩)
            | (go_at_call 22; first
              | ((with_reducible refine (HB1.out _ _ (HN0.out _)).mono ?_); clear HB1; rintro e' w' ⟨rfl, bs, d, rfl⟩)
              | ((with_reducible refine (HB2.out _ _ (HN0.out _)).mono ?_); clear HB2; rintro e' w' ⟨rfl, bs2, d2, rfl⟩))
            | (at_builtin; refine wpList_append_own _ rfl _ _ 24 rfl (W1.heap.size + bs.size + 1 + bs2.size + 1) 3 i0 (.int .i64 0) 1 8 Tryz.underlying24 hi hz0 hz1 hz2 rfl (by decide) (.slice none 0 0) 0 [] rfl (World.ownsRow_nil _ _ _ _) ⟨W1.heap.size + bs.size + 1 + bs2.size + 1, 0, none⟩ 1 1 [.int .i64 (pick m 1000000)] rfl rfl ?c1 ?c2 ?c3 ?c4 ?c5 ?_))
          case c1 =>
            refine news_cells _ [.int .i64 (pick m 1000000)] _ _ ?_
            simp
          case c2 => intro u hu; simp at hu; subst hu; rfl
          case c3 => unfold maxLen; omega
          case c4 => omega
          case c5 => simp; try omega
          intro v2 w2 hown2 hgrow2 _
          have hB5 : Below W1.heap.size W1 w2 := (show Below W1.heap.size W1 _ from by (exact belB)).grown hgrow2 (by simp; omega) (fun k hk => by cases hk)
          have hc5 : ∀ b o, b ≤ W1.heap.size + bs.size + 1 + bs2.size → w2.cell? ⟨b, o, none⟩ = ((((W1.grow bs d).alloc (.cells #[.int .i64 a1, .int .i64 a2] 23)).grow bs2 d2).alloc (.cells #[.int .i64 a1, .int .i64 a2] 23)).cell? ⟨b, o, none⟩ := fun b o hb => by
            rw [hgrow2.cell_far ⟨b, o, none⟩ (by simp; omega) (by simp [Value.ownBlock])]
            exact World.cell?_alloc_lt _ _ ⟨b, o, none⟩ (by simp; omega)
          have f0 : w2.cell? ⟨W1.heap.size + bs.size, 0, none⟩ = some (.int .i64 a1) := by rw [hc5 _ _ (by omega)]; simp [go_sem]
          have f1 : w2.cell? ⟨W1.heap.size + bs.size, 1, none⟩ = some (.int .i64 a2) := by rw [hc5 _ _ (by omega)]; simp [go_sem]
          have f2 : w2.cell? ⟨W1.heap.size + bs.size + 1 + bs2.size, 0, none⟩ = some (.int .i64 a1) := by rw [hc5 _ _ (by omega)]; simp [go_sem]
          have f3 : w2.cell? ⟨W1.heap.size + bs.size + 1 + bs2.size, 1, none⟩ = some (.int .i64 a2) := by rw [hc5 _ _ (by omega)]; simp [go_sem]
          have hs2 : W1.heap.size + bs.size + 1 + bs2.size + 1 + 1 ≤ w2.heap.size := by have := hgrow2.size; simpa using this
          have hb7 : W1.heap.size + bs.size < w2.heap.size := by omega
          have hb8 : W1.heap.size + bs.size + 1 + bs2.size < w2.heap.size := by omega
          have hY2 : YrAt w2 v2 [pick m 1000000] := YrAt.of_rowB hown2 (by simp) (by simp) (by simp)
          have HY2 := Lib.hid hY2
          obtain ⟨xa, xc, rfl⟩ : ∃ a c, v2 = .slice a 1 c := by obtain ⟨-, a, c, h, -⟩ := hY2; exact ⟨a, c, by simpa using h⟩
          have HG2 : Hid (w.Grows w2) := Lib.hid (World.Grows.trans HG0.out (.of_below hB5))
          clear hown2 hgrow2 hc5 hY2 hB5 hs2
          generalize W1.heap.size + bs.size + 1 + bs2.size = B6 at *
          generalize W1.heap.size + bs.size = B5 at *
          go_wp2_with (first
            | (go_at_call 22; refine (HB3.out _ _ (HY2.out.grows (.of_below (by (exact belB))))).mono ?_; rintro e' w' ⟨rfl, bs5, d5, rfl⟩)
            | (go_at_call 24; refine (HCM.out _).mono ?_; rintro e' w' ⟨rfl, bs6, d6, rfl⟩)
            | (go_at_call 19; refine (awake8_any _ (HT.out.grows (World.Grows.trans HG2.out (.of_below (by (exact belB)))))).mono ?_; rintro e' w' ⟨rfl, bs7, d7, rfl⟩))
          go_returns
          exact ⟨rfl, World.Grows.trans HG2.out (.of_below (by (exact belB)))⟩
      · rw [← hlL] at *
        go_wp2_with fail
        go_loopw [8, 10] (fun v8 v10 wr => ∃ (j : Nat) (vr : Value), vr = v8 ∧ j ≤ L.length ∧ v10 = .int .i64 ((L.length : Int) - 1 - j) ∧ Below W1.heap.size W1 wr ∧ wr.ownsRow W1.heap.size 3 1 vr j ((rvV L).take j)) (fun _ v10 _ => (intOf v10 + 1).toNat)
        case atStart => exact ⟨0, _, rfl, by omega, by simp, .refl _ _, World.ownsRow_nil _ _ _ _⟩
        case round =>
          obtain ⟨j, vr, rfl, hj, rfl, hBx, hownx⟩ := hrel
          have HBX := Lib.hid hBx
          have HOX := Lib.hid hownx
          have hsX := hBx.size
          have HYX := Lib.hid (HYL.out.below (Nat.le_refl _) hBx)
          by_cases hlt2 : j < L.length
          · obtain ⟨i, hii⟩ : ∃ i : Nat, (L.length : Int) - 1 - j = i := ⟨L.length - 1 - j, by omega⟩
            have HNX := Lib.hid (rev_take L j i hlt2 hii)
            obtain ⟨-, a', c', hv, hx⟩ := HYX.out
            simp only [Value.slice.injEq, true_and] at hv
            obtain ⟨rfl, rfl⟩ := hv
            rcases hx with hx | ⟨b', off', he, -, hx⟩
            · omega
            simp only [Option.some.injEq, Addr.mk.injEq, and_true] at he
            obtain ⟨rfl, rfl⟩ := he
            have x0 := hx i (by omega)
            rw [Nat.zero_add] at x0
            have HKL := Lib.hid hlt2
            have d0 : (0 : Int) ≤ (i : Int) := by omega
            have d1 : (i : Int) < (L.length : Int) := by omega
            have HII := Lib.hid hii
            rw [hii]
            clear hx hlt2 hBx hownx hii
            generalize L.getD i 0 = z at *
            go_wp2_with (at_builtin; refine wpList_append_own _ rfl _ _ 24 rfl W1.heap.size 3 i0 (.int .i64 0) 1 8 Tryz.underlying24 hi hz0 hz1 hz2 rfl (by decide) _ _ _ rfl (HOX.out.alloc _) ⟨wr.heap.size, 0, none⟩ 1 1 [.int .i64 z] rfl rfl ?c1 ?c2 ?c3 ?c4 ?c5 ?_)
            case c1 => exact news_cells _ [.int .i64 z] _ _ (by simp)
            case c2 => intro u hu; simp at hu; subst hu; rfl
            case c3 => unfold maxLen; omega
            case c4 => omega
            case c5 => simp; omega
            intro v' w1 hown' hgrow _
            have HB1 := Lib.hid ((show Below W1.heap.size W1 _ from by have := HBX.out; (exact belB)).grown hgrow (by simp; omega) (fun k hk => (HOX.out.lt k hk).1))
            have HO1 := Lib.hid hown'
            clear hown' hgrow
            go_wp2_with fail
            go_roundw
            case rel => exact ⟨j + 1, _, rfl, HKL.out, by have := HII.out; first | (congr 1; omega) | (simp; omega), HB1.out, by rw [HNX.out]; exact HO1.out⟩
            case measure => have := HII.out; simp [intOf]; try omega
          · obtain rfl : j = L.length := by omega
            have hYR : YrAt wr vr L.reverse := YrAt.of_rowB hownx (by simp) (rvV_eq L) (by simp; omega)
            have HYR := Lib.hid hYR
            obtain ⟨ra, rc, rfl⟩ : ∃ a c, vr = .slice a L.length c := by obtain ⟨-, a, c, h, -⟩ := hYR; exact ⟨a, c, by simpa using h⟩
            have HGX : Hid (w.Grows wr) := Lib.hid (World.Grows.trans HG0.out (.of_below hBx))
            have hm1 : ((L.length : Int) - 1 - (L.length : Int)) = -1 := by omega
            rw [hm1]
            clear hYR hBx hownx
            go_wp2_with (first
              | (go_at_call 15; refine (Pick_any _ _ _ (by omega)).mono ?_; rintro e' w' ⟨rfl, rfl⟩)
              | (go_at_call 22; first
                | ((with_reducible refine (HB1.out _ _ (HYX.out.grows (.of_below (by (exact belB))))).mono ?_); rintro e' w' ⟨rfl, bs, d, rfl⟩)
                | ((with_reducible refine (HB2.out _ _ (HYR.out.grows (.of_below (by (exact belB))))).mono ?_); rintro e' w' ⟨rfl, bs2, d2, rfl⟩))
              | (at_builtin; refine wpList_append_own _ rfl _ _ 24 rfl (wr.heap.size + bs.size + 1 + bs2.size + 1) 3 i0 (.int .i64 0) 1 8 Tryz.underlying24 hi hz0 hz1 hz2 rfl (by decide) (.slice none 0 0) 0 [] rfl (World.ownsRow_nil _ _ _ _) ⟨g, 0, none⟩ L.length gc (L.map (Value.int .i64)) rfl (by simp) ?c1 ?c2 ?c3 ?c4 ?c5 ?_))
            case c1 =>
              have hh : ∀ X, wr.Grows X → ∀ j u, (L.map (Value.int .i64))[j]? = some u → X.cell? ((⟨g, 0, none⟩ : Addr).add j) = some u := fun X hX j u hu => by
                obtain ⟨-, a', c', hv, hx⟩ := HYX.out.grows hX
                simp only [Value.slice.injEq, true_and] at hv
                obtain ⟨rfl, rfl⟩ := hv
                rw [List.getElem?_map] at hu
                cases hz : L[j]? with
                | none => rw [hz] at hu; cases hu
                | some z =>
                  rw [hz] at hu
                  obtain rfl : Value.int .i64 z = u := by simpa using hu
                  have hj := (List.getElem?_eq_some_iff.1 hz).1
                  rcases hx with hx | ⟨b', off', he, -, hx⟩
                  · omega
                  simp only [Option.some.injEq, Addr.mk.injEq, and_true] at he
                  obtain ⟨rfl, rfl⟩ := he
                  have hxj := hx j hj
                  rw [Nat.zero_add] at hxj
                  rw [addr_add, hxj, List.getD_eq_getElem?_getD, hz]; rfl
              exact hh _ (.of_below (by (exact belB)))
            case c2 => intro u hu; obtain ⟨z, -, rfl⟩ := List.mem_map.1 hu; rfl
            case c3 => unfold maxLen; omega
            case c4 => omega
            case c5 => simp; try omega
            intro v1 w1 hown1 hgrow1 _
            have HB4 := Lib.hid ((show Below wr.heap.size wr _ from by (exact belB)).grown hgrow1 (by simp; omega) (fun k hk => by cases hk))
            have HO4 := Lib.hid hown1
            have hsz4 : wr.heap.size + bs.size + 1 + bs2.size + 1 ≤ w1.heap.size := by have := hgrow1.size; simp at this; omega
            have hc4 : ∀ b o, b < wr.heap.size + bs.size + 1 + bs2.size + 1 → w1.cell? ⟨b, o, none⟩ = ((((wr.grow bs d).alloc (.cells #[.int .i64 a1, .int .i64 a2] 23)).grow bs2 d2).alloc (.cells #[.int .i64 a1, .int .i64 a2] 23)).cell? ⟨b, o, none⟩ := fun b o hb => hgrow1.cell_far ⟨b, o, none⟩ (by simp; omega) (by simp [Value.ownBlock])
            have e0 : w1.cell? ⟨wr.heap.size + bs.size, 0, none⟩ = some (.int .i64 a1) := by rw [hc4 _ _ (by omega)]; simp [go_sem]
            have e1 : w1.cell? ⟨wr.heap.size + bs.size, 1, none⟩ = some (.int .i64 a2) := by rw [hc4 _ _ (by omega)]; simp [go_sem]
            have e2 : w1.cell? ⟨wr.heap.size + bs.size + 1 + bs2.size, 0, none⟩ = some (.int .i64 a1) := by rw [hc4 _ _ (by omega)]; simp [go_sem]
            have e3 : w1.cell? ⟨wr.heap.size + bs.size + 1 + bs2.size, 1, none⟩ = some (.int .i64 a2) := by rw [hc4 _ _ (by omega)]; simp [go_sem]
            have hb5 : wr.heap.size + bs.size < w1.heap.size := by omega
            have hb6 : wr.heap.size + bs.size + 1 + bs2.size < w1.heap.size := by omega
            have hb56 : wr.heap.size + bs.size < wr.heap.size + bs.size + 1 + bs2.size := by omega
            have hbw5 : wr.heap.size ≤ wr.heap.size + bs.size := by omega
            have hr1 : ∀ k, v1.ownBlock = some k → wr.heap.size + bs.size + 1 + bs2.size < k := fun k hk => by
              have h1 := (hown1.lt k hk).1
              omega
            generalize wr.heap.size + bs.size + 1 + bs2.size = B6 at *
            generalize wr.heap.size + bs.size = B5 at *
            clear hown1 hgrow1 hc4 hsz4
            go_wp2_with (first
              | (go_at_call 15; refine (Pick_any _ _ _ (by omega)).mono ?_; rintro e' w' ⟨rfl, rfl⟩)
              | (at_builtin; refine wpList_append_own _ rfl _ _ 24 rfl (B6 + 1) 3 i0 (.int .i64 0) 1 8 Tryz.underlying24 hi hz0 hz1 hz2 rfl (by decide) _ _ _ rfl (HO4.out.alloc _) ⟨w1.heap.size, 0, none⟩ 1 1 [.int .i64 (pick m 1000000)] rfl rfl ?c1 ?c2 ?c3 ?c4 ?c5 ?_))
            case c1 => exact news_cells _ [.int .i64 (pick m 1000000)] _ _ (by simp)
            case c2 => intro u hu; simp at hu; subst hu; rfl
            case c3 => unfold maxLen; omega
            case c4 => omega
            case c5 => simp; omega
            intro v2 w2 hown2 hgrow2 _
            have hB5 : Below wr.heap.size wr w2 := (show Below wr.heap.size wr _ from by have := HB4.out; (exact belB)).grown hgrow2 (by have := HB4.out.size; simp; omega) (fun k hk => by have := hr1 k hk; omega)
            have hc5 : ∀ b o, b ≤ B6 → w2.cell? ⟨b, o, none⟩ = w1.cell? ⟨b, o, none⟩ := fun b o hb => by
              rw [hgrow2.cell_far ⟨b, o, none⟩ (by simp; omega) (by
                intro he
                have := hr1 b he.symm
                omega)]
              exact World.cell?_alloc_lt _ _ ⟨b, o, none⟩ (by show b < w1.heap.size; omega)
            have f0 : w2.cell? ⟨B5, 0, none⟩ = some (.int .i64 a1) := by rw [hc5 _ _ (by omega)]; exact e0
            have f1 : w2.cell? ⟨B5, 1, none⟩ = some (.int .i64 a2) := by rw [hc5 _ _ (by omega)]; exact e1
            have f2 : w2.cell? ⟨B6, 0, none⟩ = some (.int .i64 a1) := by rw [hc5 _ _ (by omega)]; exact e2
            have f3 : w2.cell? ⟨B6, 1, none⟩ = some (.int .i64 a2) := by rw [hc5 _ _ (by omega)]; exact e3
            have hs2 : w1.heap.size + 1 ≤ w2.heap.size := by have := hgrow2.size; simpa using this
            have hb7 : B5 < w2.heap.size := by omega
            have hb8 : B6 < w2.heap.size := by omega
            have hY2 : YrAt w2 v2 (L ++ [pick m 1000000]) := YrAt.of_rowB hown2 (by simp) (by simp) (by simp; omega)
            have HY2 := Lib.hid hY2
            obtain ⟨xa, xc, rfl⟩ : ∃ a c, v2 = .slice a (L.length + 1) c := by obtain ⟨-, a, c, h, -⟩ := hY2; exact ⟨a, c, by simpa using h⟩
            have HG2 : Hid (w.Grows w2) := Lib.hid (World.Grows.trans HGX.out (.of_below hB5))
            clear hown2 hgrow2 hc5 e0 e1 e2 e3 hY2 hB5 hr1 hs2 hb5 hb6
            go_wp2_with (first
              | (go_at_call 22; refine (HB3.out _ _ (HY2.out.grows (.of_below (by (exact belB))))).mono ?_; rintro e' w' ⟨rfl, bs5, d5, rfl⟩)
              | (go_at_call 24; refine (HCM.out _).mono ?_; rintro e' w' ⟨rfl, bs6, d6, rfl⟩)
              | (go_at_call 19; refine (awake8_any _ (HT.out.grows (World.Grows.trans HG2.out (.of_below (by (exact belB)))))).mono ?_; rintro e' w' ⟨rfl, bs7, d7, rfl⟩))
            go_returns
            exact ⟨rfl, World.Grows.trans HG2.out (.of_below (by (exact belB)))⟩
theorem bo_any (zs : List Int) (v : Value) (n m : Int) (w : World) (h : IntsAt w v zs) (ht : Tab w) :
    Calls Tryz.prog 5 #[v, .int .i64 n, .int .i64 m] w fun e w' => e = .returned (.bool true) ∧ w.Grows w' := by
  by_cases hl : zs.length ≤ 100
  · exact bo_short zs v n m w h hl ht
  · exact bo_long zs v n m w h (by omega)
end Go.Proofs.YtlheailebbngiaaGreatDoor
