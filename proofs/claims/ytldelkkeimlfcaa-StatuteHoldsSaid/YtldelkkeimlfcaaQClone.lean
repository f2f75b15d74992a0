/- cloneExpr: the same expression in memory of its own. -/
import Derived.Test.YtldelkkeimlfcaaQTop
import Derived.Test.YtldelkkeimlfcaaQTake
set_option linter.all false
namespace Go.Proofs.Ytldelkkeimlfcaa
open Go.RowKit
theorem RepE.drew {S : Nat → Prop} {w : World} {e : Ex} {v : Value} (h : RepE S w e v) : RepE S w.drew e v := h.keep (Nat.le_refl _) fun _ _ _ _ => rfl
theorem RowE.grow {m : Nat} {w : World} {v : Value} {l : List (Ex × Value)} (h : RowE m w v l) (bs : Array Obj) (d : Nat) : RowE m (w.grow bs d) v l := h.keep (by simp) fun k _ hlt => World.heap_grow w bs d hlt
theorem add_at (b off i : Nat) : (⟨b, off, none⟩ : Addr).add i = ⟨b, off + i, none⟩ := by unfold Addr.add; split <;> simp_all
theorem cell_blk {w w' : World} {b : Nat} (h : w'.heap[b]? = w.heap[b]?) (o : Nat) : w'.cell? ⟨b, o, none⟩ = w.cell? ⟨b, o, none⟩ := World.cell?_of_block h
theorem Ex.arg_take (e : Ex) (k : Nat) (hk : k < e.args.length) : e.args.take (k + 1) = e.args.take k ++ [e.arg k] := Ex.take_succ e.args k hk
set_option maxHeartbeats 4000000 in
set_option maxRecDepth 100000 in
theorem clone_walk (n : Nat) : ∀ (e : Ex), e.size ≤ n → ∀ (S : Nat → Prop) (v : Value) (w : World), RepE S w e v → Hid (e.size ≤ 1000000) → Calls Try.prog 61 #[exV e v] w (MadeEx w e) := by
  induction n with
  | zero => intro e he; have := e.size_pos; omega
  | succ n ih =>
    intro e he S v w h hbig
    have IH := Lib.hid ih
    clear ih
    obtain ⟨i0, hi, hz0, hz1, hz2⟩ := info_parts infoExpr
    cases h with
    | mk _ a cap vs hr hc hs =>
      have hlen : e.args.length ≤ 1000000 := by have := hbig.out; have := e.size_eq; have := Ex.length_sizes e.args; omega
      have Hr := Lib.hid hr
      have Hs := Lib.hid hs
      have He := Lib.hid he
      have Hc := Lib.hid hc
      clear hr hs he hc
      go_enter Try.func61, Try.ntmps61
      go_wp2_with fail
      go_loopw [11] (fun v11 wr => ∃ k : Nat, ∃ l : List (Ex × Value), ∃ va : Value, ∃ bs d, k ≤ e.args.length ∧ v11 = .int .i64 k ∧ Hid (l.map (·.1) = e.args.take k) ∧ l.length = k ∧
        wr = ((w.alloc (.cells #[.int .i64 e.op, .int .i64 e.num, .int .i64 e.den, .int .i64 e.dim, .string e.name, va] 72)).alloc ((.cells #[.int .i64 0, .int .i64 0, .int .i64 0, .int .i64 0, .string ⟨#[]⟩, .slice none 0 0] 72))).grow bs d ∧ RowE (w.heap.size + 2) wr va l) (fun v11 _ => e.args.length - (intOf v11).toNat)
      case atStart => exact ⟨0, [], .slice none 0 0, #[], _, by omega, rfl, Lib.hid rfl, rfl, World.grow_self _, .nil _ _⟩
      case round =>
        obtain ⟨k, l, va, bs, d, hk, rfl, HN, hll, rfl, hrow⟩ := hrel
        by_cases hlt : k < e.args.length
        · rcases Hc.out with h0 | ⟨b, off, rfl, hS, hbw, hx⟩
          · omega
          · obtain ⟨x0, x1, x2, x3, x4, x5⟩ := hx k hlt
            clear hx
            have hlt1 : (k : Int) < (e.args.length : Int) := by omega
            have hr1 := Hs.out k hlt
            obtain ⟨ka, kc, hvk⟩ := hr1.form0
            rw [hvk] at hr1 x5
            have HR1 := Lib.hid hr1
            clear hvk hr1
            have HA := Lib.hid (e.size_arg k hlt)
            have HZ := Lib.hid (show (e.arg k).size ≤ n by have := He.out; have := HA.out; omega)
            have HB := Lib.hid (show (e.arg k).size ≤ 1000000 by have := hbig.out; have := HA.out; omega)
            have HT := Lib.hid (e.arg_take k hlt)
            generalize e.arg k = y at *
            have HROW := Lib.hid hrow
            have hvb := hrow.lt
            have HVB := Lib.hid hvb
            obtain ⟨aa, acap, hva⟩ := hrow.form
            rw [hll] at hva
            subst hva
            have HLL := Lib.hid hll
            clear hrow hvb hll
            go_wp2_with fail
            refine TG.begin 7 (fun w' => w'.cell? ⟨w.heap.size, 5, none⟩ = some (.slice aa k acap) ∧ w'.cell? ⟨w.heap.size + 1 + 1 + bs.size, 0, none⟩ = some (.int .i64 y.op) ∧ w'.cell? ⟨w.heap.size + 1 + 1 + bs.size, 1, none⟩ = some (.int .i64 y.num) ∧ w'.cell? ⟨w.heap.size + 1 + 1 + bs.size, 2, none⟩ = some (.int .i64 y.den) ∧ w'.cell? ⟨w.heap.size + 1 + 1 + bs.size, 3, none⟩ = some (.int .i64 y.dim) ∧ w'.cell? ⟨w.heap.size + 1 + 1 + bs.size, 4, none⟩ = some (.string y.name) ∧ w'.cell? ⟨w.heap.size + 1 + 1 + bs.size, 5, none⟩ = some (.slice ka y.args.length kc)) (by kernel_rfl) (by kernel_rfl) ?_ (fun hS => ?_)
            focus (refine ⟨?_, ?_, ?_, ?_, ?_, ?_, ?_⟩ <;> simp [go_sem])
            refine TG.takeV (i := 0) (v := ?_) rfl (by kernel_rfl) (by kernel_rfl) (by kernel_rfl) (by decide) (fun _ _ _ h => h) rfl hS ?_ ?_
            rotate_left
            focus
              intro wS hSw
              (try dsimp only at hSw)
              go_simp
              rfl
            (try simp only [Act.put, List.getElem_toArray, List.getElem_cons_zero, List.getElem_cons_succ, List.setIfInBounds_toArray, List.set_cons_zero, List.set_cons_succ])
            refine TG.takeV (i := 1) (v := ?_) rfl (by kernel_rfl) (by kernel_rfl) (by kernel_rfl) (by decide) (fun _ _ _ h => h) rfl hS ?_ ?_
            rotate_left
            focus
              intro wS hSw
              (try dsimp only at hSw)
              go_simp
              rfl
            (try simp only [Act.put, List.getElem_toArray, List.getElem_cons_zero, List.getElem_cons_succ, List.setIfInBounds_toArray, List.set_cons_zero, List.set_cons_succ])
            refine TG.takeV (i := 2) (v := ?_) rfl (by kernel_rfl) (by kernel_rfl) (by kernel_rfl) (by decide) (fun _ _ _ h => h) rfl hS ?_ ?_
            rotate_left
            focus
              intro wS hSw
              (try dsimp only at hSw)
              go_simp
              rfl
            (try simp only [Act.put, List.getElem_toArray, List.getElem_cons_zero, List.getElem_cons_succ, List.setIfInBounds_toArray, List.set_cons_zero, List.set_cons_succ])
            refine TG.one (i := 3) (by kernel_rfl) rfl (fun K1 hK1 => ?_)
            go_simp
            go_at_call 61
            refine (IH.out y HZ.out S (.slice ka y.args.length kc) _ (by (repeat' (first | (with_reducible exact HR1.out) | (with_reducible refine RepE.alloc ?_ _) | (with_reducible refine RepE.grow ?_ _ _) | (with_reducible refine RepE.drewN ?_ _) | (with_reducible refine RepE.drew ?_)))) HB).mono ?_
            rintro e' w' ⟨ve, rfl, ⟨bs2, d2, rfl⟩, hrep⟩
            obtain ⟨v1a, v1c, hv1⟩ := hrep.form
            subst hv1
            have H1 := Lib.hid ((hrep.eqw (w' := (((((w.alloc (.cells #[.int .i64 e.op, .int .i64 e.num, .int .i64 e.den, .int .i64 e.dim, .string e.name, .slice aa k acap] 72)).alloc (.cells #[.int .i64 0, .int .i64 0, .int .i64 0, .int .i64 0, .string ⟨#[]⟩, .slice none 0 0] 72)).grow bs d).alloc (.cells #[.int .i64 y.op, .int .i64 y.num, .int .i64 y.den, .int .i64 y.dim, .string y.name, .slice ka y.args.length kc] 72))).grow bs2 d2) (by simp)).mono (S' := fun b => w.heap.size + 1 + 1 + bs.size + 1 ≤ b) (fun b hb => by simpa using hb))
            clear hrep
            (try simp only [World.drew_grow])
            refine TG.go hK1 ?_ (fun hS => ?_)
            focus
              (try dsimp only)
              (refine ⟨?_, ?_, ?_, ?_, ?_, ?_, ?_⟩ <;> simp [go_sem])
            clear hK1 K1
            (try simp only [Act.put, List.getElem_toArray, List.getElem_cons_zero, List.getElem_cons_succ, List.setIfInBounds_toArray, List.set_cons_zero, List.set_cons_succ])
            refine TG.one (i := 4) (by kernel_rfl) rfl (fun K1 hK1 => ?_)
            go_simp
            refine TG.go hK1 ?_ (fun hS => ?_)
            focus
              (try dsimp only)
              (refine ⟨?_, ?_, ?_, ?_, ?_, ?_, ?_⟩ <;> simp [go_sem])
            clear hK1 K1
            (try simp only [Act.put, List.getElem_toArray, List.getElem_cons_zero, List.getElem_cons_succ, List.setIfInBounds_toArray, List.set_cons_zero, List.set_cons_succ])
            refine TG.one (i := 5) (by kernel_rfl) rfl (fun K1 hK1 => ?_)
            refine step_append_lies _ rfl _ _ 70 rfl (w.heap.size + 2) 72 i0 _ 6 72 Try.underlying70 hi hz0 hz1 hz2 rfl (by decide) _ _ _ rfl (((HROW.out.alloc ((.cells #[.int .i64 y.op, .int .i64 y.num, .int .i64 y.den, .int .i64 y.dim, .string y.name, .slice ka y.args.length kc] 72))).grow bs2 d2).alloc ((.cells #[.int .i64 y.op, .int .i64 y.num, .int .i64 y.den, .int .i64 y.dim, .string y.name, .slice v1a y.args.length v1c] 72))).own ⟨w.heap.size + 1 + 1 + bs.size + 1 + bs2.size, 0, none⟩ 1 1 [.int .i64 y.op, .int .i64 y.num, .int .i64 y.den, .int .i64 y.dim, .string y.name, .slice v1a y.args.length v1c] rfl rfl ?_ ?_ (by decide) ?_ ?_ ?_ (w.heap.size + 1 + 1 + bs.size + 1 + bs2.size + 1) (by simp) ?_
            focus exact fun j u hu => news_cells _ [.int .i64 y.op, .int .i64 y.num, .int .i64 y.den, .int .i64 y.dim, .string y.name, .slice v1a y.args.length v1c] 72 _ (by simp) j u hu
            focus exact cells1_one y _ rfl
            focus (have := HLL.out; unfold maxLen; omega)
            focus (have := HLL.out; omega)
            focus (simp; omega)
            intro g' cap w1 hown' hgrow hat hlt'
            have R1 := RowE.push (m := w.heap.size + 1 + 1 + bs.size + 1) (((HROW.out.alloc ((.cells #[.int .i64 y.op, .int .i64 y.num, .int .i64 y.den, .int .i64 y.dim, .string y.name, .slice ka y.args.length kc] 72))).grow bs2 d2).alloc ((.cells #[.int .i64 y.op, .int .i64 y.num, .int .i64 y.den, .int .i64 y.dim, .string y.name, .slice v1a y.args.length v1c] 72))) (H1.out.alloc ((.cells #[.int .i64 y.op, .int .i64 y.num, .int .i64 y.den, .int .i64 y.dim, .string y.name, .slice v1a y.args.length v1c] 72))) (by omega) (fun j hj => by have := (HVB.out j hj).2; simp at this; omega) (by rw [HLL.out]) rfl hown' hgrow hat (by simp)
            have G1 := World.Grows.of_below (w := ((w.alloc (.cells #[.int .i64 e.op, .int .i64 e.num, .int .i64 e.den, .int .i64 e.dim, .string e.name, .slice aa k acap] 72)).alloc (.cells #[.int .i64 0, .int .i64 0, .int .i64 0, .int .i64 0, .string ⟨#[]⟩, .slice none 0 0] 72))) (((((Below.refl _ _).grow (Nat.le_refl _) bs d).alloc (by simp) ((.cells #[.int .i64 y.op, .int .i64 y.num, .int .i64 y.den, .int .i64 y.dim, .string y.name, .slice ka y.args.length kc] 72))).grow (by simp; omega) bs2 d2).alloc (by simp; omega) ((.cells #[.int .i64 y.op, .int .i64 y.num, .int .i64 y.den, .int .i64 y.dim, .string y.name, .slice v1a y.args.length v1c] 72)) |>.grown hgrow (by simp; omega) (fun j hj => by have := (HVB.out j hj).1; simpa using this))
            have hne := fun (b : Nat) (hb : b < w.heap.size + 2 ∨ b = w.heap.size + 1 + 1 + bs.size) (hbl : b < w.heap.size + 1 + 1 + bs.size + 1) (o : Nat) => cell_blk (hgrow.block b (by simp; omega) (fun e => by have := HVB.out _ e.symm; simp at this; omega)) o
            have s0 : w1.cell? ⟨w.heap.size, 5, none⟩ = some (.slice aa k acap) := (hne _ (.inl (by omega)) (by omega) 5).trans (by simp [go_sem])
            have s1 : w1.cell? ⟨w.heap.size + 1 + 1 + bs.size, 0, none⟩ = some (.int .i64 y.op) := (hne _ (.inr rfl) (by omega) 0).trans (by simp [go_sem])
            have s2 : w1.cell? ⟨w.heap.size + 1 + 1 + bs.size, 1, none⟩ = some (.int .i64 y.num) := (hne _ (.inr rfl) (by omega) 1).trans (by simp [go_sem])
            have s3 : w1.cell? ⟨w.heap.size + 1 + 1 + bs.size, 2, none⟩ = some (.int .i64 y.den) := (hne _ (.inr rfl) (by omega) 2).trans (by simp [go_sem])
            have s4 : w1.cell? ⟨w.heap.size + 1 + 1 + bs.size, 3, none⟩ = some (.int .i64 y.dim) := (hne _ (.inr rfl) (by omega) 3).trans (by simp [go_sem])
            have s5 : w1.cell? ⟨w.heap.size + 1 + 1 + bs.size, 4, none⟩ = some (.string y.name) := (hne _ (.inr rfl) (by omega) 4).trans (by simp [go_sem])
            have s6 : w1.cell? ⟨w.heap.size + 1 + 1 + bs.size, 5, none⟩ = some (.slice ka y.args.length kc) := (hne _ (.inr rfl) (by omega) 5).trans (by simp [go_sem])
            clear hown' hgrow hat hlt' hne
            obtain ⟨bs3, d3, rfl⟩ := G1
            have HR9 := Lib.hid R1
            clear R1
            (try simp only [Act.put, List.getElem_toArray, List.getElem_cons_zero, List.getElem_cons_succ, List.setIfInBounds_toArray, List.set_cons_zero, List.set_cons_succ])
            refine TG.go hK1 ?_ (fun hS => ?_)
            focus exact ⟨s0, s1, s2, s3, s4, s5, s6⟩
            clear hK1 K1 s0 s1 s2 s3 s4 s5 s6
            (try simp only [Act.put, List.getElem_toArray, List.getElem_cons_zero, List.getElem_cons_succ, List.setIfInBounds_toArray, List.set_cons_zero, List.set_cons_succ])
            refine TG.takeV (i := 6) (v := ?_) rfl (by kernel_rfl) (by kernel_rfl) (by kernel_rfl) (by decide) (fun _ _ _ h => h) rfl hS ?_ ?_
            rotate_left
            focus
              intro wS hSw
              (try dsimp only at hSw)
              go_simp
              rfl
            (try simp only [Act.put, List.getElem_toArray, List.getElem_cons_zero, List.getElem_cons_succ, List.setIfInBounds_toArray, List.set_cons_zero, List.set_cons_succ])
            refine TG.one (i := 7) (by kernel_rfl) rfl (fun K1 hK1 => ?_)
            go_simp
            refine hK1 _ _ (fun h => absurd rfl h) (TG.done (by kernel_rfl) ?_)
            clear hK1 K1 hS
            (try simp only [Act.put, List.getElem_toArray, List.getElem_cons_zero, List.getElem_cons_succ, List.setIfInBounds_toArray, List.set_cons_zero, List.set_cons_succ])
            go_wp2_with fail
            go_roundw
            case rel => exact ⟨k + 1, l ++ [(y, .slice v1a y.args.length v1c)], _, bs3, d3, by omega, by go_num, Lib.hid (by rw [List.map_append, HN.out, HT.out]; rfl), by simp; exact HLL.out, rfl, HR9.out.lift0 (by simp) (by simp) d3⟩
            case measure => simp [intOf]; omega
        · obtain rfl : k = e.args.length := by omega
          have HROW := Lib.hid hrow
          have HN2 := Lib.hid (HN.out.trans (List.take_length))
          obtain ⟨aa, acap, rfl⟩ := hrow.form
          clear hrow HN
          go_wp2_with fail
          go_returns
          have R3 := (HROW.out.lift0 (A' := (w.alloc (.cells #[.int .i64 e.op, .int .i64 e.num, .int .i64 e.den, .int .i64 e.dim, .string e.name, .slice aa l.length acap] 72)).alloc (.cells #[.int .i64 e.op, .int .i64 e.num, .int .i64 e.den, .int .i64 e.dim, .string e.name, .slice aa l.length acap] 72)) (by simp) (by simp) d).repE (e := e) Hr.out HN2.out.symm
          rw [hll] at R3
          exact ⟨_, rfl, .of_below (by (repeat' (first | (with_reducible exact Below.refl _ _) | (with_reducible assumption) | (with_reducible refine Below.grow ?_ ?_ _ _) | (with_reducible refine Below.alloc ?_ ?_ _) | (with_reducible refine Below.drewN ?_ _) | (with_reducible refine Below.drew ?_) | (with_reducible refine Below.setCell ?_ ?_ _) | go_size))), R3.mono fun b hb => by show w.heap.size ≤ b; omega⟩
theorem clone_any {S : Nat → Prop} {e : Ex} {v : Value} {w : World} (h : RepE S w e v) (hb : Hid (e.size ≤ 1000000)) : Calls Try.prog 61 #[exV e v] w (MadeEx w e) := clone_walk e.size e (Nat.le_refl _) S v w h hb
end Go.Proofs.Ytldelkkeimlfcaa
