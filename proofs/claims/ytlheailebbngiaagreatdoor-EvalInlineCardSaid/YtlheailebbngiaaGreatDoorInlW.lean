/- pensionlaw8.inline: the walk. -/
import Derived.Test.YtlheailebbngiaaGreatDoorQNames
import Derived.Test.YtlheailebbngiaaGreatDoorQLeaf
import Derived.Test.YtlheailebbngiaaGreatDoorStY
import Derived.Test.YtlheailebbngiaaGreatDoorTakeN
import Derived.Test.YtlheailebbngiaaGreatDoorQAw8
set_option linter.all false
namespace Go.Proofs.YtlheailebbngiaaGreatDoor
open Go.RowKit
theorem aN_list : aN.toList = [97] := by decide +kernel
theorem inlinesF_len (b : Ex) : ∀ l : List Ex, (inlinesF b l).length = l.length
  | [] => by rw [inlinesF]
  | e :: r => by rw [inlinesF, List.length_cons, List.length_cons, inlinesF_len b r]
theorem inlinesF_app (b : Ex) (l : List Ex) (e : Ex) : inlinesF b (l ++ [e]) = inlinesF b l ++ [inlineF b e] := by
  induction l with
  | nil => rw [List.nil_append, inlinesF, inlinesF, inlinesF, List.nil_append]
  | cons x r ih => rw [List.cons_append, inlinesF, inlinesF, ih, List.cons_append]
theorem inlineF_eq (b e : Ex) : inlineF b e = if e.op = 2 ∧ e.name = aN then b else .mk e.op e.num e.den e.dim e.name (inlinesF b e.args) := by cases e; rw [inlineF]; rfl
mutual
theorem inlineF_size (b : Ex) : ∀ e : Ex, (inlineF b e).size ≤ e.size * b.size
  | .mk op n d m s l => by
    have hb := b.size_pos
    have h := inlinesF_size b l
    rw [inlineF]
    split
    · simp only [Ex.size]
      rw [Nat.add_mul, Nat.one_mul]; omega
    · simp only [Ex.size]
      rw [Nat.add_mul, Nat.one_mul]; omega
theorem inlinesF_size (b : Ex) : ∀ l : List Ex, Ex.sizes (inlinesF b l) ≤ Ex.sizes l * b.size
  | [] => by rw [inlinesF]; simp [Ex.sizes]
  | e :: r => by
    rw [inlinesF]
    simp only [Ex.sizes]
    have h1 := inlineF_size b e
    have h2 := inlinesF_size b r
    rw [Nat.add_mul]; omega
end
/-- As RowE; operands may lie in memory below B, too. -/
structure RowI (B base : Nat) (w : World) (v : Value) (l : List (Ex × Value)) : Prop where
  own : w.ownsRow base 51 6 v l.length (cellsL l)
  rep : ∀ x ∈ l, RepE (fun b => (b < B ∨ base ≤ b) ∧ v.ownBlock ≠ some b) w x.1 x.2
theorem RowI.nil (B base : Nat) (w : World) : RowI B base w (.slice none 0 0) [] := ⟨World.ownsRow_nil _ _ _ _, fun _ h => by cases h⟩
theorem RowI.keep {B base : Nat} {w w' : World} {v : Value} {l : List (Ex × Value)} (h : RowI B base w v l) (hsz : w.heap.size ≤ w'.heap.size) (hw : ∀ k, (k < B ∨ base ≤ k) → k < w.heap.size → w'.heap[k]? = w.heap[k]?) : RowI B base w' v l :=
  ⟨ownsRow_keep h.own fun k hk => hw k (.inr hk), fun x hx => (h.rep x hx).keep hsz fun b o hb hlt => World.cell?_of_block (hw b hb.1 hlt)⟩
theorem RowI.grows {B base : Nat} {w w' : World} {v : Value} {l : List (Ex × Value)} (h : RowI B base w v l) (hg : w.Grows w') : RowI B base w' v l := h.keep hg.below.size fun k _ hlt => hg.below.block k hlt
theorem RowI.alloc {B base : Nat} {w : World} {v : Value} {l : List (Ex × Value)} (h : RowI B base w v l) (o : Obj) : RowI B base (w.alloc o) v l := h.grows (.of_below (by (exact belB)))
theorem RowI.lift0 {B m : Nat} {A A' : World} {bs : Array Obj} {d : Nat} {v : Value} {l : List (Ex × Value)} (h : RowI B m (A.grow bs d) v l) (hB : B + 1 ≤ A.heap.size) (hm : A.heap.size ≤ m) (hsz : A'.heap.size = A.heap.size) (hA : ∀ k, k < B → A'.heap[k]? = A.heap[k]?) (d2 : Nat) : RowI B m (A'.grow bs d2) v l :=
  h.keep (by simp; omega) fun k hk hlt => by
    rcases hk with hk | hk
    · rw [World.heap_grow _ _ _ (by omega), World.heap_grow _ _ _ (by omega)]; exact hA k hk
    · exact World.heap_grow_same hsz.symm bs d d2 (Nat.le_trans hm hk)
theorem RowI.lt {B base : Nat} {w : World} {v : Value} {l : List (Ex × Value)} (h : RowI B base w v l) : ∀ k, v.ownBlock = some k → base ≤ k ∧ k < w.heap.size := h.own.lt
theorem RowI.push {B base m : Nat} {w w' : World} {v : Value} {l : List (Ex × Value)} {e : Ex} {ve : Value} {g cap H n : Nat} {xs : List Value} (h : RowI B base w v l) (he : RepE (fun b => b < B ∨ m ≤ b) w e ve) (hB : B ≤ base) (hm : base ≤ m) (hv : ∀ k, v.ownBlock = some k → k < m)
    (hn : n = l.length + 1) (hxs : xs = cellsL l ++ cells1 e ve)
    (ho : w'.ownsRow base 51 6 (.slice (some ⟨g, 0, none⟩) n cap) n xs) (hg : w.grownBy w' v.ownBlock) (hat : v.ownBlock = some g ∨ g = H) (hH : w.heap.size = H) :
    RowI B base w' (.slice (some ⟨g, 0, none⟩) n cap) (l ++ [(e, ve)]) := by
  subst hH hn hxs
  refine ⟨by rw [List.length_append, cellsL_append]; simpa [cellsL] using ho, ?_⟩
  have key : ∀ (e' : Ex) (u : Value), RepE (fun b => (b < B ∨ base ≤ b) ∧ v.ownBlock ≠ some b) w e' u → RepE (fun b => (b < B ∨ base ≤ b) ∧ (Value.slice (some ⟨g, 0, none⟩) (l.length + 1) cap).ownBlock ≠ some b) w' e' u := by
    intro e' u hu
    refine (hu.mono' (S' := fun b => ((b < B ∨ base ≤ b) ∧ v.ownBlock ≠ some b) ∧ g ≠ b) ?_ |>.keep hg.size ?_).mono ?_
    · rintro b ⟨h1, h2⟩ hlt
      refine ⟨⟨h1, h2⟩, ?_⟩
      rcases hat with hat | hat
      · intro e; exact h2 (by rw [hat, e])
      · omega
    · rintro b o ⟨⟨_, h2⟩, _⟩ hlt
      exact World.cell?_of_block (hg.block b hlt (Ne.symm h2))
    · rintro b ⟨⟨h1, _⟩, h3⟩
      exact ⟨h1, by simpa [Value.ownBlock] using h3⟩
  intro x hx
  rw [List.mem_append] at hx
  rcases hx with hx | hx
  · exact key _ _ (h.rep x hx)
  · obtain rfl : x = (e, ve) := by simpa using hx
    exact key _ _ (he.mono fun b hb => ⟨by omega, fun e => by have := hv b e; have := (h.lt b e).1; omega⟩)
theorem RowI.repE {B base : Nat} {w : World} {v : Value} {l : List (Ex × Value)} {e : Ex} (h : RowI B base w v l) (hr : ExRng e) (he : e.args = l.map (·.1)) : RepE (fun b => b < B ∨ base ≤ b) w e v := by
  have hlen : e.args.length = l.length := by rw [he, List.length_map]
  have hget : ∀ i, i < l.length → l[i]? = some (e.arg i, (l.getD i default).2) := by
    intro i hi
    have h1 : e.arg i = (l.getD i default).1 := by
      unfold Ex.arg
      rw [he, List.getD_eq_getElem?_getD, List.getElem?_map, List.getD_eq_getElem?_getD, List.getElem?_eq_getElem hi]; rfl
    rw [h1, List.getElem?_eq_getElem hi, List.getD_eq_getElem?_getD, List.getElem?_eq_getElem hi]; rfl
  have hrep : ∀ i, i < l.length → RepE (fun b => b < B ∨ base ≤ b) w (e.arg i) (l.getD i default).2 := fun i hi =>
    (h.rep _ (List.mem_of_getElem? (hget i hi))).mono fun b hb => hb.1
  rcases h.own.2 with ⟨rfl, h0⟩ | ⟨g, cap, cur, rfl, hb, hg, _⟩
  · have := RepE.mk (S := fun b => b < B ∨ base ≤ b) (w := w) e none 0 (fun i => (l.getD i default).2) hr (.inl (by omega)) (fun i hi => hrep i (by omega))
    rw [hlen, h0] at this; exact this
  · have hlt : g < w.heap.size := (Array.getElem?_eq_some_iff.1 hg).1
    have hcell : ∀ i, i < l.length → ∀ j u, j < 6 → (cells1 (e.arg i) (l.getD i default).2)[j]? = some u → w.cell? ⟨g, i * 6 + j, none⟩ = some u := by
      intro i hi j u hj hu
      have := World.ownsRow.cells (g := g) h.own rfl (i * 6 + j) u (by rw [cellsL_get l i j _ (hget i hi) hj]; exact hu)
      rw [addr_add] at this; exact this
    have := RepE.mk (S := fun b => b < B ∨ base ≤ b) (w := w) e (some ⟨g, 0, none⟩) cap (fun i => (l.getD i default).2) hr (.inr ⟨g, 0, rfl, .inr hb, hlt, fun i hi => by
      have hi' : i < l.length := by omega
      have e0 : ∀ j, 0 + i * 6 + j = i * 6 + j := fun j => by omega
      exact ⟨by rw [show 0 + i * 6 = i * 6 + 0 by omega]; exact hcell i hi' 0 _ (by omega) rfl, by rw [e0]; exact hcell i hi' 1 _ (by omega) rfl, by rw [e0]; exact hcell i hi' 2 _ (by omega) rfl,
        by rw [e0]; exact hcell i hi' 3 _ (by omega) rfl, by rw [e0]; exact hcell i hi' 4 _ (by omega) rfl, by rw [e0]; exact hcell i hi' 5 _ (by omega) rfl⟩⟩) (fun i hi => hrep i (by omega))
    rw [hlen] at this; exact this
theorem RowI.one {B m : Nat} {w : World} {v : Value} {l : List (Ex × Value)} (h : RowI B m w v l) : v.oneCell' = true := by
  rcases h.own.2 with ⟨rfl, h0⟩ | ⟨g, cap, cur, rfl, _⟩ <;> rfl
theorem RowI.form {B m : Nat} {w : World} {v : Value} {l : List (Ex × Value)} (h : RowI B m w v l) : ∃ a cap, v = .slice a l.length cap := by
  rcases h.own.2 with ⟨rfl, h0⟩ | ⟨g, cap, cur, rfl, _⟩
  · exact ⟨none, 0, by rw [h0]⟩
  · exact ⟨_, cap, rfl⟩
theorem ha_take (b e : Ex) (k : Nat) (hk : k < e.args.length) {l : List (Ex × Value)} (h : inlinesF b (e.args.take k) = l.map (·.1)) (ve : Value) : inlinesF b (e.args.take (k + 1)) = (l ++ [(inlineF b (e.arg k), ve)]).map (·.1) := by
  rw [Ex.take_succ _ _ hk, inlinesF_app, h, List.map_append]; rfl
theorem heap4 (w : World) (a b c d : Obj) {k : Nat} (hk : k < w.heap.size) : ((((w.alloc a).alloc b).alloc c).alloc d).heap[k]? = w.heap[k]? := by
  rw [Below.heap_alloc _ _ _ (by simp; omega), Below.heap_alloc _ _ _ (by simp; omega), Below.heap_alloc _ _ _ (by simp; omega), Below.heap_alloc _ _ _ hk]
theorem rng_inl {e : Ex} (h : ExRng e) {l : List Ex} (hl : l.length = e.args.length) : ExRng (.mk e.op e.num e.den e.dim e.name l) := ⟨h.op, h.num, h.den, h.dim, by show l.length ≤ _; rw [hl]; exact h.len, h.name⟩
theorem args_le (e : Ex) : e.args.length ≤ e.size := by
  rw [e.size_eq]
  have : ∀ l : List Ex, l.length ≤ Ex.sizes l := by
    intro l
    induction l with
    | nil => simp
    | cons x r ih => have := x.size_pos; simp only [List.length_cons, Ex.sizes]; omega
  have := this e.args
  omega
/-- What 'inline' answers. -/
def InlR (B : Nat) (E : Ex) (w : World) (e : Ending) (w' : World) : Prop := ∃ v, e = .returned (exV E v) ∧ w.Grows w' ∧ RepE (fun b => b < B ∨ w.heap.size ≤ b) w' E v
set_option maxHeartbeats 4000000 in
set_option maxRecDepth 100000 in
theorem inl_walk (B : Nat) (b0 : Ex) (vb : Value) (n : Nat) : ∀ (e : Ex), e.size ≤ n → e.size ≤ 1000000 → ∀ (v : Value) (w : World), B ≤ w.heap.size → RepE (fun b => b < B) w e v → RepE (fun b => b < B) w b0 vb →
    Calls Tryz.prog 34 #[exV e v, exV b0 vb] w (InlR B (inlineF b0 e) w) := by
  obtain ⟨i0, hi, hz0, hz1, hz2⟩ := info_parts infoExpr
  induction n with
  | zero => intro e he; have := e.size_pos; omega
  | succ n ih =>
    intro e he hbig v w hBw h hb
    have hal : e.args.length ≤ 1000000 := by have := args_le e; omega
    have HBG := Lib.hid hbig
    clear hbig
    have IH := Lib.hid ih
    have HE := Lib.hid h
    have HB := Lib.hid hb
    clear ih
    have hrng := h.rng
    obtain ⟨ba, bcap, rfl⟩ := hb.form0
    cases h with
    | mk _ a cap vs hr hc hs =>
      have hlen := hr.len
      have Hs := Lib.hid hs
      have He := Lib.hid he
      have Hc := Lib.hid hc
      have HR := Lib.hid hrng
      clear hr hs he hc hb hrng
      by_cases hA : e.op = 2 ∧ e.name = aN
      · have HF : Hid (inlineF b0 e = b0) := Lib.hid (by rw [inlineF_eq, if_pos hA])
        have o2 : (e.op == 2) = true := by simp [hA.1]
        have nm : (e.name.toList == [97]) = true := by rw [hA.2, aN_list]; rfl
        clear hA
        go_enter Tryz.func34, Tryz.ntmps34
        go_wp2_with fail
        go_returns
        refine ⟨_, by rw [HF.out], .of_below (by (exact belB)), ?_⟩
        rw [HF.out]
        exact (HB.out.grows (.of_below (by (exact belB)))).mono fun b hb => Or.inl hb
      · have HF : Hid (inlineF b0 e = .mk e.op e.num e.den e.dim e.name (inlinesF b0 e.args)) := Lib.hid (by rw [inlineF_eq, if_neg hA])
        have hcase : ((e.op == 2) = false) ∨ ((e.op == 2) = true ∧ (e.name.toList == [97]) = false) := by
          by_cases h2 : e.op = 2
          · refine .inr ⟨by simp [h2], ?_⟩
            have hne : e.name ≠ aN := fun h => hA ⟨h2, h⟩
            by_cases h3 : e.name.toList = [97]
            · exact absurd (toList_inj (h3.trans aN_list.symm)) hne
            · simpa using h3
          · exact .inl (by simpa using h2)
        clear hA
        have main : Calls Tryz.prog 34 #[exV e (.slice a e.args.length cap), exV b0 (.slice ba b0.args.length bcap)] w (InlR B (inlineF b0 e) w) := by
          rcases hcase with o2 | ⟨o2, nm⟩
          all_goals
            go_enter Tryz.func34, Tryz.ntmps34
            go_wp2_with fail
            go_loopw [6, 7] (fun v6 _ wr => ∃ (k : Nat) (l : List (Ex × Value)) (va : Value) (bs : Array Obj) (d : Nat), k ≤ e.args.length ∧ v6 = .int .i64 k ∧ Hid (inlinesF b0 (e.args.take k) = l.map (·.1)) ∧ Hid (l.length = k) ∧ wr = ((((w.alloc ((.cells #[.int .i64 e.op, .int .i64 e.num, .int .i64 e.den, .int .i64 e.dim, .string e.name, .slice a e.args.length cap] 51))).alloc ((.cells #[.int .i64 b0.op, .int .i64 b0.num, .int .i64 b0.den, .int .i64 b0.dim, .string b0.name, .slice ba b0.args.length bcap] 51))).alloc ((.cells #[.int .i64 0, .int .i64 0, .int .i64 0, .int .i64 0, .string ⟨#[]⟩, .slice none 0 0] 51))).alloc ((.cells #[.int .i64 e.op, .int .i64 e.num, .int .i64 e.den, .int .i64 e.dim, .string e.name, va] 51))).grow bs d ∧ RowI B (w.heap.size + 4) wr va l) (fun v6 _ _ => e.args.length - (intOf v6).toNat)
            case atStart => exact ⟨0, [], .slice none 0 0, #[], _, by omega, rfl, Lib.hid (by rw [List.take_zero, inlinesF]; rfl), Lib.hid rfl, World.grow_self _, .nil _ _ _⟩
            case round =>
              obtain ⟨k, l, va, bs, d, hk, rfl, HN, HLL, rfl, hrow⟩ := hrel
              have HROW := Lib.hid hrow
              by_cases hlt : k < e.args.length
              · rcases Hc.out with h0 | ⟨b, off, rfl, hS, hbw, hx⟩
                · omega
                obtain ⟨x0, x1, x2, x3, x4, x5⟩ := hx k hlt
                have hlt1 : (k : Int) < (e.args.length : Int) := by omega
                have hvo := hrow.one
                obtain ⟨aa, acap, rfl⟩ : ∃ a c, va = .slice a k c := by
                  obtain ⟨a, c, h⟩ := hrow.form
                  exact ⟨a, c, by rw [h, HLL.out]⟩
                have HX := Lib.hid (ha_take b0 e k hlt HN.out)
                have HSZ2 := Lib.hid (e.size_arg k hlt)
                have HVB := Lib.hid hrow.lt
                have HVO := Lib.hid hvo
                clear hx hrow hvo
                go_wp2_with fail
                refine TS.begin [11] (World.Grows _) (by kernel_rfl) (by kernel_rfl) grows_drew (fun hS => ?_)
                refine TS.takeV (i := 0) (v := ?_) rfl (by kernel_rfl) (by kernel_rfl) (by kernel_rfl) (by decide) (fun _ _ _ h => h) rfl hS ?_ ?_
                rotate_left
                focus
                  rintro wS ⟨gbS, gdS, rfl⟩
                  go_simp
                  rfl
                (try simp only [nS])
                refine TS.takeV (i := 1) (v := ?_) rfl (by kernel_rfl) (by kernel_rfl) (by kernel_rfl) (by decide) (fun _ _ _ h => h) rfl hS ?_ ?_
                rotate_left
                focus
                  rintro wS ⟨gbS, gdS, rfl⟩
                  go_simp
                  rfl
                (try simp only [nS])
                refine TS.takeV (i := 2) (v := ?_) rfl (by kernel_rfl) (by kernel_rfl) (by kernel_rfl) (by decide) (fun _ _ _ h => h) rfl hS ?_ ?_
                rotate_left
                focus
                  rintro wS ⟨gbS, gdS, rfl⟩
                  go_simp
                  rfl
                (try simp only [nS])
                refine TS.takeV (i := 3) (v := ?_) rfl (by kernel_rfl) (by kernel_rfl) (by kernel_rfl) (by decide) (fun _ _ _ h => h) rfl hS ?_ ?_
                rotate_left
                focus
                  rintro wS ⟨gbS, gdS, rfl⟩
                  go_simp
                  rfl
                (try simp only [nS])
                refine TS.takeV (i := 4) (v := ?_) rfl (by kernel_rfl) (by kernel_rfl) (by kernel_rfl) (by decide) (fun _ _ _ h => h) rfl hS ?_ ?_
                rotate_left
                focus
                  rintro wS ⟨gbS, gdS, rfl⟩
                  go_simp
                  rfl
                (try simp only [nS])
                refine TS.takeV (i := 5) (v := ?_) rfl (by kernel_rfl) (by kernel_rfl) (by kernel_rfl) (by decide) (fun _ _ _ h => h) rfl hS ?_ ?_
                rotate_left
                focus
                  rintro wS ⟨gbS, gdS, rfl⟩
                  go_simp
                  rfl
                (try simp only [nS])
                refine TS.takeV (i := 6) (v := ?_) rfl (by kernel_rfl) (by kernel_rfl) (by kernel_rfl) (by decide) (fun _ _ _ h => h) rfl hS ?_ ?_
                rotate_left
                focus
                  rintro wS ⟨gbS, gdS, rfl⟩
                  go_simp
                  rfl
                (try simp only [nS])
                refine TS.one (i := 7) (by decide +kernel) rfl (fun K1 hK1 => ?_)
                have HK1 := Lib.hid hK1
                clear hK1 hS
                dsimp only [List.getElem_toArray, List.getElem_cons_succ, List.getElem_cons_zero]
                go_simp
                go_at_call 34
                refine (IH.out (e.arg k) (by have := He.out; have := HSZ2.out; omega) (by have := HBG.out; have := HSZ2.out; omega) (vs k) _ (by simp; omega) ((Hs.out k hlt).grows growsA) (HB.out.grows growsA)).mono ?_
                rintro e' wA ⟨ve, rfl, ⟨bA, dA, rfl⟩, hrep⟩
                have HREP := Lib.hid ((hrep.eqw (w' := (((((w.alloc (.cells #[.int .i64 e.op, .int .i64 e.num, .int .i64 e.den, .int .i64 e.dim, .string e.name, .slice (some ⟨b, off, none⟩) e.args.length cap] 51)).alloc ((.cells #[.int .i64 b0.op, .int .i64 b0.num, .int .i64 b0.den, .int .i64 b0.dim, .string b0.name, .slice ba b0.args.length bcap] 51))).alloc ((.cells #[.int .i64 0, .int .i64 0, .int .i64 0, .int .i64 0, .string ⟨#[]⟩, .slice none 0 0] 51))).alloc (.cells #[.int .i64 e.op, .int .i64 e.num, .int .i64 e.den, .int .i64 e.dim, .string e.name, .slice aa k acap] 51))).grow (bs ++ bA) dA) (by simp)).mono (S' := fun b => b < B ∨ w.heap.size + 4 + bs.size ≤ b) (fun b hb => by simpa using hb))
                have HVE := Lib.hid hrep.one
                obtain ⟨ea, ec, rfl⟩ := hrep.form0
                clear hrep
                refine TS.go HK1.out growsA (fun hS => ?_)
                clear HK1 K1
                (try simp only [nS])
                refine TS.one (i := 8) (by decide +kernel) rfl (fun K1 hK1 => ?_)
                have HK1 := Lib.hid hK1
                clear hK1 hS
                dsimp only [List.getElem_toArray, List.getElem_cons_succ, List.getElem_cons_zero]
                go_simp
                refine TS.go HK1.out growsA (fun hS => ?_)
                clear HK1 K1
                (try simp only [nS])
                refine TS.one (i := 9) (by decide +kernel) rfl (fun K1 hK1 => ?_)
                refine step_append_lies _ rfl _ _ 49 rfl (w.heap.size + 4) 51 i0 _ 6 72 Tryz.underlying49 hi hz0 hz1 hz2 rfl (by decide) _ _ _ rfl (((HROW.out.grows (w' := (((((w.alloc (.cells #[.int .i64 e.op, .int .i64 e.num, .int .i64 e.den, .int .i64 e.dim, .string e.name, .slice (some ⟨b, off, none⟩) e.args.length cap] 51)).alloc ((.cells #[.int .i64 b0.op, .int .i64 b0.num, .int .i64 b0.den, .int .i64 b0.dim, .string b0.name, .slice ba b0.args.length bcap] 51))).alloc ((.cells #[.int .i64 0, .int .i64 0, .int .i64 0, .int .i64 0, .string ⟨#[]⟩, .slice none 0 0] 51))).alloc (.cells #[.int .i64 e.op, .int .i64 e.num, .int .i64 e.den, .int .i64 e.dim, .string e.name, .slice aa k acap] 51))).grow (bs ++ bA) dA) growsA).alloc (.cells (cells1 (inlineF b0 (e.arg k)) (.slice ea (inlineF b0 (e.arg k)).args.length ec)).toArray 51)).own) ⟨w.heap.size + 4 + (bs.size + bA.size), 0, none⟩ 1 1 (cells1 (inlineF b0 (e.arg k)) (.slice ea (inlineF b0 (e.arg k)).args.length ec)) rfl rfl ?_ ?_ (by decide) ?_ ?_ ?_ (w.heap.size + 4 + (bs.size + bA.size) + 1) (by simp) ?_
                focus exact fun j u hu => news_cells _ (cells1 (inlineF b0 (e.arg k)) (.slice ea (inlineF b0 (e.arg k)).args.length ec)) 51 _ (by simp) j u hu
                focus exact cells1_one _ _ rfl
                focus (have := HLL.out; unfold maxLen; omega)
                focus (have := HLL.out; omega)
                focus (simp; omega)
                intro g' cap' w1 hown' hgrow hat hlt'
                have R1 := RowI.push (m := w.heap.size + 4 + bs.size) ((HROW.out.grows (w' := (((((w.alloc (.cells #[.int .i64 e.op, .int .i64 e.num, .int .i64 e.den, .int .i64 e.dim, .string e.name, .slice (some ⟨b, off, none⟩) e.args.length cap] 51)).alloc ((.cells #[.int .i64 b0.op, .int .i64 b0.num, .int .i64 b0.den, .int .i64 b0.dim, .string b0.name, .slice ba b0.args.length bcap] 51))).alloc ((.cells #[.int .i64 0, .int .i64 0, .int .i64 0, .int .i64 0, .string ⟨#[]⟩, .slice none 0 0] 51))).alloc (.cells #[.int .i64 e.op, .int .i64 e.num, .int .i64 e.den, .int .i64 e.dim, .string e.name, .slice aa k acap] 51))).grow (bs ++ bA) dA) growsA).alloc (.cells (cells1 (inlineF b0 (e.arg k)) (.slice ea (inlineF b0 (e.arg k)).args.length ec)).toArray 51)) (HREP.out.alloc _) (by omega) (by omega) (fun j hj => by have := (HVB.out j hj).2; simpa using this) (by rw [HLL.out]) rfl hown' hgrow hat (by simp)
                have G1 := World.Grows.of_below (w := (((((w.alloc (.cells #[.int .i64 e.op, .int .i64 e.num, .int .i64 e.den, .int .i64 e.dim, .string e.name, .slice (some ⟨b, off, none⟩) e.args.length cap] 51)).alloc ((.cells #[.int .i64 b0.op, .int .i64 b0.num, .int .i64 b0.den, .int .i64 b0.dim, .string b0.name, .slice ba b0.args.length bcap] 51))).alloc ((.cells #[.int .i64 0, .int .i64 0, .int .i64 0, .int .i64 0, .string ⟨#[]⟩, .slice none 0 0] 51))).alloc (.cells #[.int .i64 e.op, .int .i64 e.num, .int .i64 e.den, .int .i64 e.dim, .string e.name, .slice aa k acap] 51)))) ((((Below.refl _ _).grow (Nat.le_refl _) (bs ++ bA) dA).alloc (by simp; try omega) (.cells (cells1 (inlineF b0 (e.arg k)) (.slice ea (inlineF b0 (e.arg k)).args.length ec)).toArray 51)) |>.grown hgrow (by simp; try omega) (fun j hj => by have := (HVB.out j hj).1; simpa using this))
                clear hown' hgrow hat hlt'
                obtain ⟨bs3, d3, rfl⟩ := G1
                have HR9 := Lib.hid R1
                clear R1
                (try simp only [nS])
                refine TS.go hK1 growsA (fun hS => ?_)
                clear hK1 K1
                (try simp only [nS])
                refine TS.takeV (i := 10) (v := ?_) rfl (by kernel_rfl) (by kernel_rfl) (by kernel_rfl) (by decide) (fun _ _ _ h => h) rfl hS ?_ ?_
                rotate_left
                focus
                  rintro wS ⟨gbS, gdS, rfl⟩
                  go_simp
                  rfl
                (try simp only [nS])
                refine TS.one (i := 11) (by kernel_rfl) rfl (fun K1 hK1 => ?_)
                go_simp
                refine hK1 _ _ (fun h => absurd (by decide) h) (TS.done (by kernel_rfl) ?_)
                clear hK1 K1 hS
                (try simp only [nS])
                go_wp2_with fail
                go_roundw
                case rel => exact ⟨k + 1, l ++ [(inlineF b0 (e.arg k), .slice ea (inlineF b0 (e.arg k)).args.length ec)], _, bs3, d3, by omega, by go_num, Lib.hid (HX.out _), Lib.hid (by have := HLL.out; simp; omega), rfl, HR9.out.lift0 (by simp; omega) (by simp) (by simp) (fun k hk => (heap4 w _ _ _ _ (by omega)).trans (heap4 w _ _ _ _ (by omega)).symm) d3⟩
                case measure => simp [intOf]; omega
              · obtain rfl : k = e.args.length := by omega
                have HN2 := Lib.hid HN.out
                obtain ⟨aa, acap, rfl⟩ : ∃ a c, va = .slice a e.args.length c := by
                  obtain ⟨a, c, h⟩ := hrow.form
                  exact ⟨a, c, by rw [h, HLL.out]⟩
                clear hrow HN
                go_wp2_with fail
                go_returns
                refine ⟨.slice aa e.args.length acap, by rw [HF.out]; rfl, growsA, ?_⟩
                rw [HF.out]
                have R3 := (HROW.out.lift0 (A' := (((w.alloc ((.cells #[.int .i64 e.op, .int .i64 e.num, .int .i64 e.den, .int .i64 e.dim, .string e.name, .slice a e.args.length cap] 51))).alloc ((.cells #[.int .i64 b0.op, .int .i64 b0.num, .int .i64 b0.den, .int .i64 b0.dim, .string b0.name, .slice ba b0.args.length bcap] 51))).alloc (.cells #[.int .i64 e.op, .int .i64 e.num, .int .i64 e.den, .int .i64 e.dim, .string e.name, .slice aa e.args.length acap] 51)).alloc (.cells #[.int .i64 e.op, .int .i64 e.num, .int .i64 e.den, .int .i64 e.dim, .string e.name, .slice aa e.args.length acap] 51)) (by simp; omega) (by simp) (by simp) (fun k hk => (heap4 w _ _ _ _ (by omega)).trans (heap4 w _ _ _ _ (by omega)).symm) d).repE (e := .mk e.op e.num e.den e.dim e.name (inlinesF b0 e.args)) (rng_inl HR.out (inlinesF_len _ _)) (by rw [← HN2.out, List.take_length]; rfl)
                exact R3.mono fun b hb => by omega
        exact main
end Go.Proofs.YtlheailebbngiaaGreatDoor
