/- EvalViews: for every input the law returns true, and its arguments read as they did; its tied card. No condition. -/
import Derived.Test.YtlheailebbngiaaGreatDoorLawVi
import Derived.Test.YtlheailebbngiaaGreatDoorArgW
import Derived.Test.YtlheailebbngiaaGreatDoorQDc2
import Derived.Test.YtlheailebbngiaaGreatDoorCards
import Derived.Test.YtlheailebbngiaaGreatDoorTie
import Derived.SevenTiedAt
import Derived.ChangeMaps5
set_option linter.all false
namespace Go.Proofs.YtlheailebbngiaaGreatDoor
open Go.ChangeShapes Go.WideShapes Go.ChangeAt Go.RowKit Go.Deep
theorem array13 {α : Type} {cs : Array α} (h : cs.size = 13) : ∃ c0 c1 c2 c3 c4 c5 c6 c7 c8 c9 c10 c11 c12, cs = #[c0, c1, c2, c3, c4, c5, c6, c7, c8, c9, c10, c11, c12] := by
  obtain ⟨l⟩ := cs
  match l, h with
  | [c0, c1, c2, c3, c4, c5, c6, c7, c8, c9, c10, c11, c12], _ => exact ⟨c0, c1, c2, c3, c4, c5, c6, c7, c8, c9, c10, c11, c12, rfl⟩
theorem c13w : (Tryz.prog).cellsOf 26 = 13 := by kernel_rfl
theorem c2f : (Tryz.prog).cellsOf 23 = 2 := by kernel_rfl
set_option maxRecDepth 1000000 in
theorem frac_of_trod {H : Type} {enc : TypeId × Value → H} {w : World} {fuel : Nat} {a b : Value} {x : DataW H × List MemPlace} (h : DataW.trod enc Tryz.prog w 0 (fun _ => true) true fuel 23 [a, b] = some x) : ∃ n d, a = .int .i64 n ∧ b = .int .i64 d ∧ I64 n ∧ I64 d := by
  obtain ⟨y0, y1, n, -, -, k0, k1⟩ := trod_struct2 Tryz.underlying23 h
  obtain ⟨n0, rfl, w0⟩ := int_of_trod (v := a) k0
  obtain ⟨n1, rfl, w1⟩ := int_of_trod (v := b) k1
  exact ⟨n0, n1, rfl, rfl, w0, w1⟩
set_option maxRecDepth 1000000 in
theorem vw_of_trod {H : Type} {enc : TypeId × Value → H} {w : World} {r : Reach} {b0 : Nat} {v : Value} {d : DataW H} {p : List MemPlace} (hv : Value.okWide Tryz.prog w r b0 26 v)
    (h : DataW.Trod enc Tryz.prog w 0 (fun _ => true) true 26 v d p) (hf : fits Tryz.prog 26 d) :
    ∃ (V : Vw) (vv : Value), v = vwV V vv ∧ IntsAt w vv V.years ∧ VwRng V := by
  have ht := Tryz.underlying26
  obtain ⟨cs, rfl, hsz⟩ := okWide_struct ht hv
  obtain ⟨c0, c1, c2, c3', c4, c5, c6, c7, c8, c9, c10, c11, c12, rfl⟩ := array13 (hsz.trans c13w)
  obtain ⟨fuel, h⟩ := h
  obtain ⟨xs, n, _, hx, _, hlen, hF⟩ := DataW.trod_struct ht h
  simp only [Prod.mk.injEq] at hx
  obtain ⟨rfl, -⟩ := hx
  have k0 := hF 0 _ rfl
  have k1 := hF 1 _ rfl
  have k2 := hF 2 _ rfl
  have k3 := hF 3 _ rfl
  have k4 := hF 4 _ rfl
  have k5 := hF 5 _ rfl
  have k6 := hF 6 _ rfl
  have k7 := hF 7 _ rfl
  have k8 := hF 8 _ rfl
  have k9 := hF 9 _ rfl
  have k10 := hF 10 _ rfl
  have k11 := hF 11 _ rfl
  simp only [Value.cells, List.drop_zero, List.drop_succ_cons, List.take_succ_cons, List.take_zero] at k0 k1 k2 k3 k4 k5 k6 k7 k8 k9 k10 k11
  match xs, hlen with
  | [y0, y1, y2, y3, y4, y5, y6, y7, y8, y9, y10, y11], _ =>
    obtain ⟨n0, rfl, w0⟩ := int_of_trod k0
    obtain ⟨n1, rfl, w1⟩ := int_of_trod k1
    obtain ⟨n2, rfl, w2⟩ := int_of_trod k2
    obtain ⟨n3, rfl, w3⟩ := int_of_trod k3
    obtain ⟨n4, rfl, w4⟩ := int_of_trod k4
    obtain ⟨n5, rfl, w5⟩ := int_of_trod k5
    obtain ⟨n6, rfl, w6⟩ := int_of_trod k6
    obtain ⟨n7, rfl, w7⟩ := int_of_trod k7
    obtain ⟨n8, rfl, w8⟩ := int_of_trod k8
    obtain ⟨n9, rfl, w9⟩ := int_of_trod k9
    obtain ⟨na, nb, rfl, rfl, wa, wb⟩ := frac_of_trod (a := c10) (b := c11) k10
    obtain ⟨z, wz⟩ := IntsAt.of_trod Tryz.underlying24 Tryz.underlying3 c3 b3 k11 (fits_part ht hf (i := 11) rfl rfl)
    exact ⟨⟨n0, n1, n2, n3, n4, n5, n6, n7, n8, n9, na, nb, z⟩, _, rfl, wz, ⟨wa, wb⟩⟩
set_option maxRecDepth 1000000 in
theorem vi_law {H : Type} (enc : TypeId × Value → H) : LawWalk enc Tryz.prog 3 [26, 28, 3, 9] := by
  intro W base args ds p hL hval hA hfit
  obtain ⟨v0, vs0, d0, ds0, p0, q0, hargs, rfl, rfl, h0, r0⟩ := trodAll_cons hA
  obtain ⟨v1, vs1, d1, ds1, p1, q1, rfl, rfl, rfl, h1, r1⟩ := trodAll_cons r0
  obtain ⟨v2, vs2, d2, ds2, p2, q2, rfl, rfl, rfl, h2, r2⟩ := trodAll_cons r1
  obtain ⟨v3, vs3, d3, ds3, p3, q3, rfl, rfl, rfl, h3, r3⟩ := trodAll_cons r2
  obtain ⟨rfl, rfl, rfl⟩ := trodAll_nil r3
  obtain rfl : args = #[v0, v1, v2, v3] := by cases args; simp_all
  obtain ⟨V, vv, rfl, hI, hVr⟩ := vw_of_trod (hval 0 _ v0 rfl rfl) h0 (hfit 0 _ _ rfl rfl)
  obtain ⟨R, vd, vy, rfl, hd, hy⟩ := VwR.of_trod (hval 1 _ v1 rfl rfl) h1 (hfit 1 _ _ rfl rfl)
  obtain ⟨n, rfl, -, -, hw⟩ := open_int Tryz.underlying3 (hval 2 _ v2 rfl rfl) h2
  obtain ⟨s, rfl, -⟩ := Go.ChangeMaps.open_string Tryz.underlying9 (hval 3 _ v3 rfl rfl) h3
  exact (vi_any V R vv _ _ n s W hI hd hy (tab_of_laid hL) hVr (i64_of_wf hw)).mono fun e w' h => ⟨h.1, h.2.below⟩
set_option maxRecDepth 1000000 in
theorem vi_lifted (os : Os) (started : os.Started) (H : Type) (enc : TypeId × Value → H) :
    ReturnsInHanded {} Tryz.checked os 3 .any (fun w args => (Rows.evalViewsSpec.pre enc Tryz.prog Tryz.f3 [] false w args ∧ laidMetH Tryz.prog laidsX w) ∧ sizedMet enc Tryz.prog Tryz.f3 (OpenSpec.ofChange Rows.evalViewsSpec) false w args) (Rows.evalViewsSpec.post enc Tryz.prog Tryz.f3 false true false false) :=
  law_lift (C := Tryz.checked) (s := Rows.evalViewsSpec) own started (by kernel_rfl) Tryz.func3
    (ChangeSpec.witness_at (enc := enc) (C := Tryz.checked) (os := os) (X := fun w _ => laidMetH Tryz.prog laidsX w) false (World.laidAll Tryz.prog os laidsX) #[.agg #[.int .i64 0, .int .i64 0, .int .i64 0, .int .i64 0, .int .i64 0, .int .i64 0, .int .i64 0, .int .i64 0, .int .i64 0, .int .i64 0, .int .i64 0, .int .i64 0, .slice none 0 0], .agg #[.int .i64 0, .int .i64 0, .int .i64 0, .int .i64 0, .int .i64 0, .slice none 0 0, .slice none 0 0], .int .i64 0, .string ⟨#[]⟩] 8 (World.laidAll_os _ _ _) (by kernel_rfl) (by kernel_rfl) (by kernel_rfl) (by kernel_rfl) (by kernel_rfl) (laidsMet os _))
    laidOut (by kernel_rfl) rfl Tryz.underlying4 rfl (fun ds hds => by
      match ds, hds with
      | [d0, d1, d2, d3], _ => rfl) (vi_law enc)
set_option maxRecDepth 1000000 in
theorem vi_row : Rows.EvalViewsSaid :=
  OpenClaim.holds_of_wide 3 Tryz.f3 rfl rfl rfl rfl rfl rfl rfl ⟨rfl, rfl, rfl, rfl, rfl⟩ rfl rfl rfl rfl rfl (by kernel_rfl) Tryz.func3 (by kernel_rfl)
    (of_decide_eq_true (by kernel_rfl)) (by unfold Func.isWrapper; first | (rw [if_pos (by decide +kernel)]; kernel_rfl) | (rw [if_neg (by decide +kernel)]; exact ⟨rfl, rfl⟩))
    (fun os started H enc _ => vi_lifted os started H enc)
theorem vi_stand : (Tryz.f3.params.toList.all fun t => !Tryz.prog.wantsStandIn t) = true := by kernel_rfl
set_option maxRecDepth 1000000 in
theorem vi_proved : Rows.EvalViewsCardSaid :=
  Claim7.holds_tied_plain_at .later [] [.data, .data, .data] true Rows.evalViewsCard.stood.harness false
    vi_row (fun _ h => by cases h) (by kernel_rfl) (fun _ h => by cases h) evalViews_row_tie rfl ⟨rfl, rfl⟩ (by kernel_rfl) rfl
    (fun f fn hf hfn => by
      obtain rfl : f = 3 := Option.some.inj ((show Tryz.prog.funcNamed "pension/pensionlaw8.EvalViews" = some 3 by kernel_rfl).symm.trans hf) |>.symm
      obtain rfl : fn = Tryz.f3 := (Option.some.inj (Tryz.func3.symm.trans hfn)).symm
      exact ⟨by kernel_rfl, fun j t ht => by
        have hw := List.all_eq_true.1 vi_stand t (List.mem_of_getElem? (by simpa using ht))
        have hw2 : Tryz.prog.wantsStandIn t = false := by simpa using hw
        exact hw2⟩)
    (by kernel_rfl)
#print axioms vi_proved
end Go.Proofs.YtlheailebbngiaaGreatDoor
