/- EvalLazy: the walk. -/
import Derived.Test.YtlheailebbngiaaGreatDoorVwOf
import Derived.Test.YtlheailebbngiaaGreatDoorGenT
import Derived.Test.YtlheailebbngiaaGreatDoorQNames
import Derived.Test.YtlheailebbngiaaGreatDoorQAw8
import Derived.Test.YtlheailebbngiaaGreatDoorLawK
set_option linter.all false
namespace Go.Proofs.YtlheailebbngiaaGreatDoor
open Go.RowKit
theorem RepE.triple {S : Nat → Prop} {w : World} {o1 o2 o3 : Ex} {v1 v2 v3 : Value} {b : Nat} (op : Int) (ho : 0 ≤ op ∧ op ≤ 100) (hS : S b) (hb : w.heap[b]? = some (.cells (cells1 o1 v1 ++ cells1 o2 v2 ++ cells1 o3 v3).toArray 51 (0, 0))) (h1 : RepE S w o1 v1) (h2 : RepE S w o2 v2) (h3 : RepE S w o3 v3) :
    RepE S w (.mk op 0 0 0 ByteArray.empty [o1, o2, o3]) (.slice (some ⟨b, 0, none⟩) 3 3) := by
  have hlt : b < w.heap.size := (Array.getElem?_eq_some_iff.1 hb).1
  have hc : ∀ j u, (cells1 o1 v1 ++ cells1 o2 v2 ++ cells1 o3 v3)[j]? = some u → w.cell? ⟨b, j, none⟩ = some u := fun j u hu => by
    rw [cell_of_row w b j _ _ _ hb]; simpa using hu
  refine .mk (.mk op 0 0 0 ByteArray.empty [o1, o2, o3]) (some ⟨b, 0, none⟩) 3 (fun i => if i = 0 then v1 else if i = 1 then v2 else v3) (.lit _ _ _ (by omega) (by omega) (by omega) _ ho _ (Nat.zero_le _) _ (by simp)) (.inr ⟨b, 0, rfl, hS, hlt, ?_⟩) ?_
  · intro i hi
    obtain rfl | rfl | rfl : i = 0 ∨ i = 1 ∨ i = 2 := by have : i < 3 := hi; omega
    · exact ⟨hc 0 _ rfl, hc 1 _ rfl, hc 2 _ rfl, hc 3 _ rfl, hc 4 _ rfl, hc 5 _ rfl⟩
    · exact ⟨hc 6 _ rfl, hc 7 _ rfl, hc 8 _ rfl, hc 9 _ rfl, hc 10 _ rfl, hc 11 _ rfl⟩
    · exact ⟨hc 12 _ rfl, hc 13 _ rfl, hc 14 _ rfl, hc 15 _ rfl, hc 16 _ rfl, hc 17 _ rfl⟩
  · intro i hi
    obtain rfl | rfl | rfl : i = 0 ∨ i = 1 ∨ i = 2 := by have : i < 3 := hi; omega
    · exact h1
    · exact h2
    · exact h3
theorem rep_lit (w : World) (n : Int) (hn : 0 ≤ n ∧ n ≤ 1) : RepE (fun _ => True) w (.mk 1 n 1 2 noN []) (.slice none 0 0) :=
  RepE.nil8 w 1 n 1 2 noN (by omega) (by omega) (by omega) (by omega) (by decide)
/-- The expression that always divides by zero. -/
theorem burst_rep (W : World) (k : Nat) (hk : W.heap.size = k) :
    RepE (fun _ => True) ((W.alloc (.cells #[.int .i64 1, .int .i64 1, .int .i64 1, .int .i64 2, .string ⟨#[]⟩, .slice none 0 0, .int .i64 1, .int .i64 0, .int .i64 1, .int .i64 2, .string ⟨#[]⟩, .slice none 0 0] 51)).alloc (.cells #[.int .i64 10, .int .i64 0, .int .i64 0, .int .i64 0, .string ⟨#[]⟩, .slice (some ⟨k, 0, none⟩) 2 2, .int .i64 1, .int .i64 1, .int .i64 1, .int .i64 2, .string ⟨#[]⟩, .slice none 0 0] 51)) burstE (.slice (some ⟨k + 1, 0, none⟩) 2 2) := by
  have h1 : RepE (fun _ => True) (W.alloc (.cells #[.int .i64 1, .int .i64 1, .int .i64 1, .int .i64 2, .string ⟨#[]⟩, .slice none 0 0, .int .i64 1, .int .i64 0, .int .i64 1, .int .i64 2, .string ⟨#[]⟩, .slice none 0 0] 51)) (.mk 10 0 0 0 noN [oneE, zeroE]) (.slice (some ⟨k, 0, none⟩) 2 2) :=
    RepE.pair 10 (by omega) trivial (heap_new _ _ _ hk) (rep_lit _ 1 (by omega)) (rep_lit _ 0 (by omega))
  exact RepE.pair 11 (by omega) trivial (heap_new _ _ _ (by simp; omega)) (h1.grows (.of_below (by (exact belB)))) (rep_lit _ 1 (by omega))
theorem lz_long (zs ms : List Int) (vl vm : Value) (a b c d e : Int) (vd vy : Value) (w : World) (hl : IntsAt w vl zs) (hm : IntsAt w vm ms) (h : 100 < zs.length ∨ 100 < ms.length) :
    Calls Tryz.prog 8 #[vl, vm, .agg #[.int .i64 a, .int .i64 b, .int .i64 c, .int .i64 d, .int .i64 e, vd, vy]] w fun e w' => e = .returned (.bool true) ∧ w.Grows w' := by
  obtain ⟨-, -, a1, c1, rfl, -⟩ := hl
  obtain ⟨-, -, a2, c2, rfl, -⟩ := hm
  by_cases h1 : 100 < zs.length
  · have hn : (100 : Int) < (zs.length : Int) := by omega
    clear h
    go_enter Tryz.func8, Tryz.ntmps8
    go_wp2_with fail
    go_returns
    exact ⟨rfl, .of_below (by (exact belB))⟩
  · have hn : ¬ (100 : Int) < (zs.length : Int) := by omega
    have hn2 : (100 : Int) < (ms.length : Int) := by omega
    clear h
    go_enter Tryz.func8, Tryz.ntmps8
    go_wp2_with fail
    go_returns
    exact ⟨rfl, .of_below (by (exact belB))⟩
def LzC (c ca co cp : Int) (x xa xo xp : Val) : Prop :=
  (c ≠ 0 ∧ ca = c ∧ co = c ∧ cp = c) ∨
  (c = 0 ∧ x.yes = true ∧ ca = 3 ∧ xa = .zero ∧ co = 0 ∧ xo = x ∧ cp = 3 ∧ xp = .zero) ∨
  (c = 0 ∧ x.yes = false ∧ ca = 0 ∧ xa = x ∧ co = 3 ∧ xo = .zero ∧ cp = 0 ∧ xp = x)
theorem lz_plain {v : Vw} {C : Ex} (hv : v.ok = true) (hC : TypedE [] 1 C) (hV : validB C = true) (hd : C.depth < 8) (hs : C.size ≤ 25) :
    LzC (exprF' v [] C).2 (exprF' v [] (andX C)).2 (exprF' v [] (orX C)).2 (exprF' v [] (ifX C)).2 (exprF' v [] C).1 (exprF' v [] (andX C)).1 (exprF' v [] (orX C)).1 (exprF' v [] (ifX C)).1 := by
  obtain ⟨i1, i2, i3⟩ := lazy_infer hC.2
  obtain ⟨g1, g2, g3⟩ := lazy_valid hC.1 hd hs
  have hE : ∀ p ∈ ([] : List (ByteArray × Val)), p.2.ok = true := fun p hp => by cases hp
  have hd0 : dimsOf [] = [] := rfl
  obtain ⟨e0, k0⟩ := expr_typed (env := []) hv hE hV (by rw [hd0, hC.2])
  obtain ⟨e1, -⟩ := expr_typed (env := []) hv hE g1 (by rw [hd0, i1])
  obtain ⟨e2, -⟩ := expr_typed (env := []) hv hE g2 (by rw [hd0, i2])
  obtain ⟨e3, -⟩ := expr_typed (env := []) hv hE g3 (by rw [hd0, i3])
  obtain ⟨l1, l2, l3⟩ := lazy_value (v := v) (c := C)
  rw [e0, e1, e2, e3, l1, l2, l3]
  unfold LzC
  by_cases hc : (valueF v [] C).2 = 0
  · by_cases hy : (valueF v [] C).1.yes = true
    · right; left
      simp [hc, hy]
    · right; right
      simp [hc, hy]
  · left
    simp [hc]
def LzE (v : Vw) (op : Int) (n : Nat) (E : Ex) (r : Val × Int) : Prop := ∀ (ya : Option Addr) (yc : Nat) (w' : World) (a : Option Addr) (cap : Nat), RepE (fun _ => True) w' E (.slice a n cap) → Tab w' → YrAt w' (.slice ya v.years.length yc) v.years →
  Calls Tryz.prog 29 #[.agg #[.int .i64 op, .int .i64 0, .int .i64 0, .int .i64 0, .string ⟨#[]⟩, .slice a n cap], vwV v (.slice ya v.years.length yc), .slice none 0 0] w' fun e w'' => e = .returned (.tuple #[.agg #[.int .i64 r.1.dim, .bool r.1.yes, .int .i64 r.1.n, .int .i64 r.1.d], .int .i64 r.2]) ∧ w'.Grows w''
theorem lzE {v : Vw} (hrng : VwRng v) {op : Int} {l : List Ex} {r : Val × Int} (hr : exprF' v [] (.mk op 0 0 0 noN l) = r) (hb : (Ex.mk op 0 0 0 noN l).size ≤ 2305843009213693952) : LzE v op l.length (.mk op 0 0 0 noN l) r := by
  subst hr
  intro ya yc w' a cap hR ht hy
  exact Expr2_any (fun _ => True) v _ (.slice none 0 0) [] (.mk op 0 0 0 noN l) a cap w' hR hb ht hy hrng (steps_no w') (fun p hp => by cases hp)
set_option maxRecDepth 1000000 in
set_option maxHeartbeats 16000000 in
theorem lz_core (zs ms : List Int) (R : VwR) (vl vm vd vy : Value) (w : World) (hl : IntsAt w vl zs) (hm : IntsAt w vm ms) (hd : IntsAt w vd R.days) (hy : IntsAt w vy R.years) (ht : Tab w) (h1 : zs.length ≤ 100) (h2 : ms.length ≤ 100)
    (C : Ex) (v : Vw) (hC : Hid (topF zs [] 1 = C)) (hv : Hid (viewP R = v)) (c ca co cp : Int) (x xa xo xp : Val)
    (hX : Hid (C.depth < 8 → C.size ≤ 25 → exprF' v [] C = (x, c) ∧ exprF' v [] (andX C) = (xa, ca) ∧ exprF' v [] (orX C) = (xo, co) ∧ exprF' v [] (ifX C) = (xp, cp) ∧ LzC c ca co cp x xa xo xp))
    (hrng : Hid (VwRng v)) (hbig : Hid (C.size ≤ 1000000)) :
    Calls Tryz.prog 8 #[vl, vm, .agg #[.int .i64 R.age, .int .i64 R.year, .int .i64 R.children, .int .i64 R.base, .int .i64 R.den, vd, vy]] w fun e w' => e = .returned (.bool true) ∧ w.Grows w' := by
  have HT := Lib.hid ht
  have HV := Lib.hid (fun w' (hg : w.Grows w') => viewOf_any R vd vy w' (IntsAt.growsG hd hg) (IntsAt.growsG hy hg))
  have HMK := Lib.hid (fun w' (hg : w.Grows w') => Expr_any vl (.slice none 0 0) zs [] 1 w' (IntsAt.list (IntsAt.growsG hl hg) (Nat.le_refl _)) (env_no _ _) (by omega) (by omega))
  unfold VoP vwV at HV
  unfold MadeEx exV at HMK
  rw [hv.out] at HV
  rw [hC.out] at HMK
  have HSZ : Hid (C.size ≤ 2305843009213693952) := Lib.hid (by have := hbig.out; omega)
  have hn1 : ¬ (100 : Int) < (zs.length : Int) := by omega
  have hn2 : ¬ (100 : Int) < (ms.length : Int) := by omega
  obtain ⟨-, -, la, lc, rfl, -⟩ := hl
  obtain ⟨-, -, ma, mc, rfl, -⟩ := hm
  obtain ⟨-, -, da, dc, rfl, -⟩ := hd
  obtain ⟨-, -, ya, yc, rfl, -⟩ := hy
  clear ht
  by_cases hbg : C.depth < 8 ∧ C.size ≤ 25
  · obtain ⟨e0, e1, e2, e3, hL⟩ := hX.out hbg.1 hbg.2
    have HE0 := Lib.hid (exC hrng.out (se := .slice none 0 0) (env := []) (fun p hp => by cases hp) e0 HSZ.out)
    have HE1 := Lib.hid (show LzE v 17 2 (andX C) (xa, ca) from lzE hrng.out e1 (by have := hbig.out; simp only [burstE, oneE, zeroE, Ex.size, Ex.sizes]; omega))
    have HE2 := Lib.hid (show LzE v 18 2 (orX C) (xo, co) from lzE hrng.out e2 (by have := hbig.out; simp only [burstE, oneE, zeroE, Ex.size, Ex.sizes]; omega))
    have HE3 := Lib.hid (show LzE v 21 3 (ifX C) (xp, cp) from lzE hrng.out e3 (by have := hbig.out; simp only [burstE, oneE, zeroE, Ex.size, Ex.sizes]; omega))
    obtain ⟨xm, xy, xn, xd⟩ := x
    obtain ⟨am, ay, an, ad⟩ := xa
    obtain ⟨om, oy, on, od⟩ := xo
    obtain ⟨pm, py, pn, pd⟩ := xp
    unfold ExC vwV at HE0
    unfold LzE vwV at HE1 HE2 HE3
    dsimp only at HE0 HE1 HE2 HE3
    have HL := Lib.hid hL
    have hd8 : (C.depth : Int) < 8 := by omega
    have hs25 : (C.size : Int) ≤ 25 := by omega
    clear hbg e0 e1 e2 e3 hL
    go_enter Tryz.func8, Tryz.ntmps8
    go_wp2_with ((go_at_call 14; refine (HV.out _ growsA).mono ?_; rintro e' w' ⟨yv, rfl, ⟨bs, d, rfl⟩, hyv⟩; have HYV := Lib.hid hyv; obtain ⟨-, ya1, yc1, rfl, -⟩ := hyv))
    have HBU := Lib.hid (burst_rep ((((((w.alloc (.cells #[.int .i64 R.age, .int .i64 R.year, .int .i64 R.children, .int .i64 R.base, .int .i64 R.den, .slice da R.days.length dc, .slice ya R.years.length yc] 28)).grow bs d).alloc (.cells #[.int .i64 v.age, .int .i64 v.year, .int .i64 v.children, .int .i64 v.insured, .int .i64 v.worked, .int .i64 v.voluntary, .int .i64 v.service, .int .i64 v.equated, .int .i64 v.raising, .int .i64 v.resident, .int .i64 v.bn, .int .i64 v.bd, .slice ya1 v.years.length yc1] 26)).alloc (.cells #[.int .i64 1, .int .i64 0, .int .i64 1, .int .i64 2, .string ⟨#[]⟩, .slice none 0 0] 51)).alloc (.cells #[.int .i64 1, .int .i64 1, .int .i64 1, .int .i64 2, .string ⟨#[]⟩, .slice none 0 0] 51))) (w.heap.size + 1 + bs.size + 1 + 1 + 1) (by simp; try omega))
    go_at_call 27
    refine (HMK.out _ growsA).mono ?_
    rintro e' w' ⟨cv, rfl, ⟨bs2, d2, rfl⟩, hrep⟩
    have HREP := Lib.hid (hrep.mono (S' := fun _ => True) (fun _ _ => trivial))
    obtain ⟨ca1, cc1, rfl⟩ := hrep.form0
    clear hrep
    go_wp2_with (first
      | ((go_at_call 32; refine (Depth_walk (fun _ => True) C.size C (Nat.le_refl _) _ _ (HREP.out.grows growsA) HSZ).mono ?_; rintro e' w' ⟨rfl, bs3, d3, rfl⟩))
      | ((go_at_call 33; refine (Size_walk (fun _ => True) C.size C (Nat.le_refl _) _ _ (HREP.out.grows growsA) HSZ).mono ?_; rintro e' w' ⟨rfl, bs4, d4, rfl⟩)))
    go_at_call 29
    refine (HE0.out ya1 yc1 _ ca1 cc1 (HREP.out.grows growsA) (HT.out.grows growsA) (HYV.out.grows growsA) (steps_no _)).mono ?_
    rintro e' w' ⟨rfl, bs5, d5, rfl⟩
    go_wp2_with fail
    go_at_call 29
    refine (HE1.out ya1 yc1 _ _ 2 (RepE.pair 17 (by omega) trivial (heap_new _ _ _ (by simp; try omega)) (HREP.out.grows growsA) (HBU.out.grows growsA)) (HT.out.grows growsA) (HYV.out.grows growsA)).mono ?_
    rintro e' w' ⟨rfl, bs6, d6, rfl⟩
    go_wp2_with fail
    go_at_call 29
    refine (HE2.out ya1 yc1 _ _ 2 (RepE.pair 18 (by omega) trivial (heap_new _ _ _ (by simp; try omega)) (HREP.out.grows growsA) (HBU.out.grows growsA)) (HT.out.grows growsA) (HYV.out.grows growsA)).mono ?_
    rintro e' w' ⟨rfl, bs7, d7, rfl⟩
    go_wp2_with fail
    go_at_call 29
    refine (HE3.out ya1 yc1 _ _ 3 (RepE.triple 21 (by omega) trivial (heap_new _ _ _ (by simp; try omega)) (HREP.out.grows growsA) (HBU.out.grows growsA) (HREP.out.grows growsA)) (HT.out.grows growsA) (HYV.out.grows growsA)).mono ?_
    rintro e' w' ⟨rfl, bs8, d8, rfl⟩
    go_wp2_with fail
    go_at_call 19
    refine (awake8_any _ (HT.out.grows growsA)).mono ?_
    rintro e' w' ⟨rfl, bs9, d9, rfl⟩
    have hL := HL.out
    clear HE0 HE1 HE2 HE3 HL
    unfold LzC at hL
    simp only [Val.zero, Val.mk.injEq] at hL
    rcases hL with ⟨hc, rfl, rfl, rfl⟩ | ⟨rfl, rfl, rfl, ⟨rfl, rfl, rfl, rfl⟩, rfl, ⟨rfl, rfl, rfl, rfl⟩, rfl, ⟨rfl, rfl, rfl, rfl⟩⟩ | ⟨rfl, rfl, rfl, ⟨rfl, rfl, rfl, rfl⟩, rfl, ⟨rfl, rfl, rfl, rfl⟩, rfl, ⟨rfl, rfl, rfl, rfl⟩⟩
    · have hq : (cp != 0) = true := by simpa using hc
      clear hc
      go_wp2_with fail
      go_returns
      exact ⟨rfl, growsA⟩
    · go_wp2_with fail
      go_returns
      exact ⟨rfl, growsA⟩
    · go_wp2_with fail
      go_returns
      exact ⟨rfl, growsA⟩
  · by_cases hd8 : (C.depth : Int) < 8
    · have hs25 : ¬ (C.size : Int) ≤ 25 := by omega
      clear hbg
      go_enter Tryz.func8, Tryz.ntmps8
      go_wp2_with ((go_at_call 14; refine (HV.out _ growsA).mono ?_; rintro e' w' ⟨yv, rfl, ⟨bs, d, rfl⟩, hyv⟩; have HYV := Lib.hid hyv; obtain ⟨-, ya1, yc1, rfl, -⟩ := hyv))
      have HBU := Lib.hid (burst_rep ((((((w.alloc (.cells #[.int .i64 R.age, .int .i64 R.year, .int .i64 R.children, .int .i64 R.base, .int .i64 R.den, .slice da R.days.length dc, .slice ya R.years.length yc] 28)).grow bs d).alloc (.cells #[.int .i64 v.age, .int .i64 v.year, .int .i64 v.children, .int .i64 v.insured, .int .i64 v.worked, .int .i64 v.voluntary, .int .i64 v.service, .int .i64 v.equated, .int .i64 v.raising, .int .i64 v.resident, .int .i64 v.bn, .int .i64 v.bd, .slice ya1 v.years.length yc1] 26)).alloc (.cells #[.int .i64 1, .int .i64 0, .int .i64 1, .int .i64 2, .string ⟨#[]⟩, .slice none 0 0] 51)).alloc (.cells #[.int .i64 1, .int .i64 1, .int .i64 1, .int .i64 2, .string ⟨#[]⟩, .slice none 0 0] 51))) (w.heap.size + 1 + bs.size + 1 + 1 + 1) (by simp; try omega))
      go_at_call 27
      refine (HMK.out _ growsA).mono ?_
      rintro e' w' ⟨cv, rfl, ⟨bs2, d2, rfl⟩, hrep⟩
      have HREP := Lib.hid (hrep.mono (S' := fun _ => True) (fun _ _ => trivial))
      obtain ⟨ca1, cc1, rfl⟩ := hrep.form0
      clear hrep
      go_wp2_with (first
        | ((go_at_call 32; refine (Depth_walk (fun _ => True) C.size C (Nat.le_refl _) _ _ (HREP.out.grows growsA) HSZ).mono ?_; rintro e' w' ⟨rfl, bs3, d3, rfl⟩))
        | ((go_at_call 33; refine (Size_walk (fun _ => True) C.size C (Nat.le_refl _) _ _ (HREP.out.grows growsA) HSZ).mono ?_; rintro e' w' ⟨rfl, bs4, d4, rfl⟩)))
      go_returns
      exact ⟨rfl, growsA⟩
    · clear hbg
      go_enter Tryz.func8, Tryz.ntmps8
      go_wp2_with ((go_at_call 14; refine (HV.out _ growsA).mono ?_; rintro e' w' ⟨yv, rfl, ⟨bs, d, rfl⟩, hyv⟩; have HYV := Lib.hid hyv; obtain ⟨-, ya1, yc1, rfl, -⟩ := hyv))
      have HBU := Lib.hid (burst_rep ((((((w.alloc (.cells #[.int .i64 R.age, .int .i64 R.year, .int .i64 R.children, .int .i64 R.base, .int .i64 R.den, .slice da R.days.length dc, .slice ya R.years.length yc] 28)).grow bs d).alloc (.cells #[.int .i64 v.age, .int .i64 v.year, .int .i64 v.children, .int .i64 v.insured, .int .i64 v.worked, .int .i64 v.voluntary, .int .i64 v.service, .int .i64 v.equated, .int .i64 v.raising, .int .i64 v.resident, .int .i64 v.bn, .int .i64 v.bd, .slice ya1 v.years.length yc1] 26)).alloc (.cells #[.int .i64 1, .int .i64 0, .int .i64 1, .int .i64 2, .string ⟨#[]⟩, .slice none 0 0] 51)).alloc (.cells #[.int .i64 1, .int .i64 1, .int .i64 1, .int .i64 2, .string ⟨#[]⟩, .slice none 0 0] 51))) (w.heap.size + 1 + bs.size + 1 + 1 + 1) (by simp; try omega))
      go_at_call 27
      refine (HMK.out _ growsA).mono ?_
      rintro e' w' ⟨cv, rfl, ⟨bs2, d2, rfl⟩, hrep⟩
      have HREP := Lib.hid (hrep.mono (S' := fun _ => True) (fun _ _ => trivial))
      obtain ⟨ca1, cc1, rfl⟩ := hrep.form0
      clear hrep
      go_wp2_with (first
        | ((go_at_call 32; refine (Depth_walk (fun _ => True) C.size C (Nat.le_refl _) _ _ (HREP.out.grows growsA) HSZ).mono ?_; rintro e' w' ⟨rfl, bs3, d3, rfl⟩))
        | ((go_at_call 33; refine (Size_walk (fun _ => True) C.size C (Nat.le_refl _) _ _ (HREP.out.grows growsA) HSZ).mono ?_; rintro e' w' ⟨rfl, bs4, d4, rfl⟩)))
      go_returns
      exact ⟨rfl, growsA⟩
theorem lz_any (zs ms : List Int) (R : VwR) (vl vm vd vy : Value) (w : World) (hl : IntsAt w vl zs) (hm : IntsAt w vm ms) (hd : IntsAt w vd R.days) (hy : IntsAt w vy R.years) (ht : Tab w) :
    Calls Tryz.prog 8 #[vl, vm, .agg #[.int .i64 R.age, .int .i64 R.year, .int .i64 R.children, .int .i64 R.base, .int .i64 R.den, vd, vy]] w fun e w' => e = .returned (.bool true) ∧ w.Grows w' := by
  by_cases hlen : zs.length ≤ 100 ∧ ms.length ≤ 100
  · obtain ⟨hT, hV⟩ := topF_typed zs EnvG.nil (dim := 1) (by omega) (by omega)
    exact lz_core zs ms R vl vm vd vy w hl hm hd hy ht hlen.1 hlen.2 (topF zs [] 1) (viewP R) (Lib.hid rfl) (Lib.hid rfl) _ _ _ _ _ _ _ _ (Lib.hid (fun a b => ⟨rfl, rfl, rfl, rfl, lz_plain (viewP_ok R) hT hV a b⟩)) (Lib.hid (viewP_rng R)) (Lib.hid (topF_size _ _ _))
  · exact lz_long zs ms vl vm R.age R.year R.children R.base R.den vd vy w hl hm (by omega)
end Go.Proofs.YtlheailebbngiaaGreatDoor
