/- Operations of made operands. -/
import Derived.Test.YtldelkkeimlfcaaQLeaf
set_option linter.all false
namespace Go.Proofs.Ytldelkkeimlfcaa
open Go.RowKit

/-- What 'expr' with n levels below it answers. -/
def ExprOK (s : Nat) (lv ev : Value) (zs : List Int) (env : List (ByteArray × Int)) (n : Nat) : Prop :=
  ∀ (dim : Int) (p : Nat) (P left deep : Int) (r : Ex × Nat × Int) (X : World), Hid (exprF zs env n dim p left = r) → P = p → deep = 6 - n → 1 ≤ dim → dim ≤ 4 → s < X.heap.size → X.src s lv P left = X → Hid (ListAt X s lv zs) → Hid (EnvAt X s ev env) → p + costN n ≤ 900000 → -900000 ≤ left - costN n → left ≤ 900000 →
    Calls Try.prog 46 #[.pointer (some ⟨s, 0, none⟩), .int .i64 dim, .int .i64 deep, ev] X (ExPost s lv X r)
theorem ExprOK.call {s : Nat} {lv ev : Value} {zs : List Int} {env : List (ByteArray × Int)} {n : Nat} (h : ExprOK s lv ev zs env n) (dim : Int) (p : Nat) (P left deep : Int) (r : Ex × Nat × Int) (X : World) (hr : Hid (exprF zs env n dim p left = r)) (hP : P = p) (hd : deep = 6 - n) (h1 : 1 ≤ dim) (h4 : dim ≤ 4) (hs : s < X.heap.size) (hX : X.src s lv P left = X)
    (hl : Hid (ListAt X s lv zs)) (he : Hid (EnvAt X s ev env)) (b1 : p + costN n ≤ 900000) (b2 : -900000 ≤ left - costN n) (b3 : left ≤ 900000) :
    Calls Try.prog 46 #[.pointer (some ⟨s, 0, none⟩), .int .i64 dim, .int .i64 deep, ev] X (ExPost s lv X r) := h dim p P left deep r X hr hP hd h1 h4 hs hX hl he b1 b2 b3
theorem infoExpr : (Try.prog.info? 72).map (fun i => (i.zero, i.size, i.bytes)) = some (some (.agg #[.int .i64 0, .int .i64 0, .int .i64 0, .int .i64 0, .string ⟨#[]⟩, .slice none 0 0]), 6, 72) := by kernel_rfl
theorem news_cells (w : World) (cs : List Value) (t : TypeId) (H : Nat) (hH : w.heap.size = H) : ∀ (j : Nat) (v : Value), cs[j]? = some v → (w.alloc (.cells cs.toArray t)).cell? ((⟨H, 0, none⟩ : Addr).add j) = some v := by
  subst hH
  intro j v hj
  rw [addr_add, World.cell?_alloc_at _ _ _ _ rfl]; simpa using hj
theorem cells1_one (e : Ex) (v : Value) (hv : v.oneCell' = true) : ∀ u ∈ cells1 e v, u.oneCell' = true := by
  intro u hu
  simp only [cells1, List.mem_cons, List.not_mem_nil, or_false] at hu
  rcases hu with rfl | rfl | rfl | rfl | rfl | rfl
  all_goals first | rfl | exact hv
theorem RepE.one {S : Nat → Prop} {w : World} {e : Ex} {v : Value} (h : RepE S w e v) : v.oneCell' = true := by cases h; rfl

theorem World.grow_self (w : World) : w = w.grow #[] w.drawn := by simp [World.grow]
theorem RowE.lift {m : Nat} {A A' : World} {bs : Array Obj} {d : Nat} {v : Value} {l : List (Ex × Value)} (h : RowE m (A.grow bs d) v l) (hm : A.heap.size ≤ m) (hsz : A'.heap.size = A.heap.size) (bs2 : Array Obj) (d2 : Nat) : RowE m (A'.grow (bs ++ bs2) d2) v l :=
  h.keep (by simp; omega) fun k hk hlt => heap_lift hsz bs bs2 d d2 (Nat.le_trans hm hk) (by simpa using hlt)
theorem RowE.lift0 {m : Nat} {A A' : World} {bs : Array Obj} {d : Nat} {v : Value} {l : List (Ex × Value)} (h : RowE m (A.grow bs d) v l) (hm : A.heap.size ≤ m) (hsz : A'.heap.size = A.heap.size) (d2 : Nat) : RowE m (A'.grow bs d2) v l := by
  have := h.lift (A' := A') hm hsz #[] d2
  simpa using this
theorem RowE.alloc {m : Nat} {w : World} {v : Value} {l : List (Ex × Value)} (h : RowE m w v l) (o : Obj) : RowE m (w.alloc o) v l :=
  h.keep (by simp) fun k _ hlt => Below.heap_alloc w o k hlt
theorem RowE.form {m : Nat} {w : World} {v : Value} {l : List (Ex × Value)} (h : RowE m w v l) : ∃ a cap, v = .slice a l.length cap := by
  rcases h.own.2 with ⟨rfl, h0⟩ | ⟨g, cap, cur, rfl, _⟩
  · exact ⟨none, 0, by rw [h0]⟩
  · exact ⟨_, cap, rfl⟩
theorem nodeF_take (E : Int → Nat → Int → Ex × Nat × Int) (ds : List Int) (k : Nat) (h : k < ds.length) (p : Nat) (left : Int) {l : List Ex} {pk : Nat} {lk : Int} {e : Ex} {pk' : Nat} {lk' : Int} (hn : nodeF E (ds.take k) p left = (l, pk, lk)) (he : E (ds.getD k 0) pk lk = (e, pk', lk')) :
    nodeF E (ds.take (k + 1)) p left = (l ++ [e], pk', lk') := by
  have hg : ds[k] = ds.getD k 0 := by rw [List.getD_eq_getElem?_getD, List.getElem?_eq_getElem h]; rfl
  rw [List.take_succ_eq_append_getElem h, nodeF_snoc, hn, hg]
  simp only [he]
theorem nodeF_take_bd (zs : List Int) (env : List (ByteArray × Int)) (n : Nat) (ds : List Int) (k : Nat) (hk : k ≤ 3) (p : Nat) (left : Int) {l : List Ex} {pk : Nat} {lk : Int} (hn : nodeF (exprF zs env n) (ds.take k) p left = (l, pk, lk)) :
    pk ≤ p + k * costN n ∧ left - (k * costN n : Nat) ≤ lk ∧ lk ≤ left := by
  have := nodeF_bd (exprF zs env n) (costN n) (exprF_bd zs env n) (ds.take k) p left
  rw [hn] at this
  have h2 : (ds.take k).length * costN n ≤ k * costN n := Nat.mul_le_mul_right _ (List.length_take_le k ds)
  simp only at this
  omega

set_option maxHeartbeats 2000000 in
set_option maxRecDepth 100000 in
theorem node_any (s : Nat) (lv ev : Value) (zs : List Int) (env : List (ByteArray × Int)) (n : Nat) (IH : Hid (ExprOK s lv ev zs env n)) (op deep : Int) (ds : List Int) (db : Nat) (p : Nat) (P left : Int) (X : World) (hP : P = p) (hn : n ≤ 5) (hdeep : deep + 1 = 6 - n) (hop : 0 ≤ op ∧ op ≤ 100)
    (hs : s < X.heap.size) (hX : X.src s lv P left = X) (hl : Hid (ListAt X s lv zs)) (he : Hid (EnvAt X s ev env)) (hp : p + 3 * costN n ≤ 900000) (hleft : -900000 ≤ left - 3 * costN n) (hleft2 : left ≤ 900000)
    (hdl : ds.length ≤ 3) (hdb : db < X.heap.size) (hdbs : db ≠ s) (hdr : Hid (∀ i, i < ds.length → 1 ≤ ds.getD i 0 ∧ ds.getD i 0 ≤ 4)) (hdc : Hid (∀ i, i < ds.length → X.cell? ⟨db, i, none⟩ = some (.int .i64 (ds.getD i 0)))) :
    Calls Try.prog 67 #[.pointer (some ⟨s, 0, none⟩), .int .i64 op, .int .i64 deep, ev, .slice (some ⟨db, 0, none⟩) ds.length ds.length] X
      (ExPost s lv X (.mk op 0 0 0 ByteArray.empty (nodeF (exprF zs env n) ds p left).1, (nodeF (exprF zs env n) ds p left).2)) := by
  subst hP
  obtain ⟨i0, hi, hz0, hz1, hz2⟩ := info_parts infoExpr
  suffices h : Calls Try.prog 67 #[.pointer (some ⟨s, 0, none⟩), .int .i64 op, .int .i64 deep, ev, .slice (some ⟨db, 0, none⟩) ds.length ds.length] (X.src s lv p left) (ExPost s lv X (.mk op 0 0 0 ByteArray.empty (nodeF (exprF zs env n) ds p left).1, (nodeF (exprF zs env n) ds p left).2)) by rw [hX] at h; exact h
  clear hX
  go_enter Try.func67, Try.ntmps67
  go_wp2_with fail
  go_loopw [12] (fun v12 wr => ∃ k : Nat, ∃ l : List (Ex × Value), ∃ pk : Nat, ∃ lk : Int, ∃ va : Value, ∃ bs d, k ≤ ds.length ∧ v12 = .int .i64 k ∧ Hid (nodeF (exprF zs env n) (ds.take k) p left = (l.map (·.1), pk, lk)) ∧ l.length = k ∧
      wr = (((X.src s lv pk lk).alloc ((.cells #[.int .i64 0, .int .i64 0, .int .i64 0, .int .i64 0, .string ⟨#[]⟩, .slice none 0 0] 72))).alloc ((.cells #[.int .i64 op, .int .i64 0, .int .i64 0, .int .i64 0, .string ⟨#[]⟩, va] 72))).grow bs d ∧ RowE (X.heap.size + 2) wr va l) (fun v12 _ => ds.length - (intOf v12).toNat)
  case atStart => exact ⟨0, [], p, left, .slice none 0 0, #[], _, by omega, rfl, Lib.hid rfl, rfl, World.grow_self _, .nil _ _⟩
  case round =>
    obtain ⟨k, l, pk, lk, va, bs, d, hk, rfl, HN, hll, rfl, hrow⟩ := hrel
    have hb := nodeF_take_bd zs env n ds k (by omega) p left HN.out
    have hk3 : k * costN n ≤ 3 * costN n := Nat.mul_le_mul_right _ (by omega)
    have hc8 := costN_8 n
    by_cases hlt : k < ds.length
    · have hk2 : k * costN n + costN n ≤ 3 * costN n := by have := Nat.mul_le_mul_right (costN n) (show k + 1 ≤ 3 by omega); rw [Nat.add_mul, Nat.one_mul] at this; exact this
      have hd := hdr.out k hlt
      have hcell := hdc.out k hlt
      have hlt1 : (k : Int) < (ds.length : Int) := by omega
      generalize hdk : ds.getD k 0 = dk at hd hcell
      have HDK := Lib.hid hdk
      clear hdk
      have hrb := exprF_bd zs env n dk pk lk
      generalize hR : exprF zs env n dk pk lk = r at hrb
      have HR := Lib.hid hR
      clear hR
      obtain ⟨e, pk', lk'⟩ := r
      have HN2 := Lib.hid (nodeF_take (exprF zs env n) ds k hlt p left HN.out (by rw [HDK.out, HR.out]))
      have b1 : pk + costN n ≤ 900000 := by omega
      have b2 : -900000 ≤ lk - costN n := by omega
      have b3 : lk ≤ 900000 := by omega
      clear hb hk3 hc8 hk2 hrb
      have HROW := Lib.hid hrow
      have hvb := hrow.lt
      have HVB := Lib.hid hvb
      clear hrow hvb
      go_wp2_with fail
      refine (ExprOK.call IH.out dk pk pk lk (6 - (n : Int)) _ _ HR rfl rfl hd.1 hd.2 (by simp; omega) (by simp [go_sem, hs]) (Lib.hid (by (repeat' (first | (with_reducible exact hl.out) | (with_reducible refine ListAt.alloc ?_ _) | (with_reducible refine ListAt.grow ?_ _ _) | (with_reducible refine ListAt.drewN ?_ _) | (with_reducible refine ListAt.src ?_ _ _ _))))) (Lib.hid (by (repeat' (first | (with_reducible exact he.out) | (with_reducible refine EnvAt.alloc ?_ _) | (with_reducible refine EnvAt.grow ?_ _ _) | (with_reducible refine EnvAt.drewN ?_ _) | (with_reducible refine EnvAt.src ?_ _ _ _))))) b1 b2 b3).mono ?_
      rintro e' w' ⟨ve, bs2, d2, rfl, rfl, hrep⟩
      have H1 := Lib.hid (hrep.eqw (w' := (((X.src s lv (pk' : Int) lk').alloc ((.cells #[.int .i64 0, .int .i64 0, .int .i64 0, .int .i64 0, .string ⟨#[]⟩, .slice none 0 0] 72))).alloc ((.cells #[.int .i64 op, .int .i64 0, .int .i64 0, .int .i64 0, .string ⟨#[]⟩, va] 72))).grow (bs ++ bs2) d2) (by simp [go_sem, hs]))
      have HO := Lib.hid (hrep.one)
      clear hrep
      have HROW1 := Lib.hid (HROW.out.lift (A' := ((X.src s lv (pk' : Int) lk').alloc ((.cells #[.int .i64 0, .int .i64 0, .int .i64 0, .int .i64 0, .string ⟨#[]⟩, .slice none 0 0] 72))).alloc ((.cells #[.int .i64 op, .int .i64 0, .int .i64 0, .int .i64 0, .string ⟨#[]⟩, va] 72))) (by simp) (by simp) bs2 d2)
      clear HROW
      go_wp2_with (at_builtin; refine wpList_append_lies _ rfl _ _ 70 rfl (X.heap.size + 2) 72 i0 _ 6 72 Try.underlying70 hi hz0 hz1 hz2 rfl (by decide) _ _ _ rfl (HROW1.out.alloc _).own ⟨X.heap.size + 2 + (bs.size + bs2.size), 0, none⟩ 1 1 (cells1 e ve) rfl rfl ?c1 ?c2 (by decide) ?c3 ?c4 ?c5 (X.heap.size + 2 + (bs.size + bs2.size) + 1) (by simp) ?_)
      case c1 => exact news_cells _ (cells1 e ve) _ _ (by simp)
      case c2 => exact cells1_one _ _ HO.out
      case c3 => unfold maxLen; omega
      case c4 => omega
      case c5 => simp; omega
      intro g cap w1 hown' hgrow hat hlt'
      have R1 := RowE.push (HROW1.out.alloc _) (((H1.out.mono (S' := fun b => X.heap.size + 2 + bs.size ≤ b) (fun b hb => by simpa [Nat.add_assoc] using hb)).alloc _)) (by omega) (fun j hj => by have := (HVB.out j hj).2; simpa using this) (by omega) rfl hown' hgrow hat (by simp)
      have G1 := World.Grows.of_below (w := ((X.src s lv (pk' : Int) lk').alloc ((.cells #[.int .i64 0, .int .i64 0, .int .i64 0, .int .i64 0, .string ⟨#[]⟩, .slice none 0 0] 72))).alloc ((.cells #[.int .i64 op, .int .i64 0, .int .i64 0, .int .i64 0, .string ⟨#[]⟩, va] 72))) ((((Below.refl _ _).grow (Nat.le_refl _) _ _).alloc (by simp) _).grown hgrow (by simp; omega) (fun j hj => by have := (HROW1.out.lt j hj).1; simpa using this))
      clear hown' hgrow hat hlt' HVB HROW1 H1 HO
      obtain ⟨bs3, d3, rfl⟩ := G1
      have R2 := Lib.hid R1
      clear R1
      go_wp2_with fail
      go_roundw
      case rel => exact ⟨k + 1, l ++ [(e, ve)], pk', lk', _, bs3, d3, by omega, by go_num, Lib.hid (by rw [HN2.out, List.map_append]; rfl), by simp; omega, rfl, R2.out.lift0 (by simp) (by simp) d3⟩
      case measure => simp [intOf]; omega
    · obtain rfl : k = ds.length := by omega
      have HN2 := HN.out
      rw [List.take_length] at HN2
      have HROW := Lib.hid hrow
      have HN3 := Lib.hid HN2
      obtain ⟨aa, acap, rfl⟩ := hrow.form
      clear hrow HN2 HN hb hk3 hc8
      go_wp2_with fail
      go_returns
      refine ExPost.of_eq (P' := (pk : Int)) (by rw [HN3.out]) rfl rfl (.of_below (by (repeat' (first | (with_reducible exact Below.refl _ _) | (with_reducible assumption) | (with_reducible refine Below.grow ?_ ?_ _ _) | (with_reducible refine Below.alloc ?_ ?_ _) | (with_reducible refine Below.drewN ?_ _) | (with_reducible refine Below.drew ?_) | (with_reducible refine Below.setCell ?_ ?_ _) | go_size)))) ?_
      have R3 := (HROW.out.lift0 (A' := ((X.src s lv (pk : Int) lk).alloc (.cells #[.int .i64 op, .int .i64 0, .int .i64 0, .int .i64 0, .string ⟨#[]⟩, .slice aa l.length acap] 72)).alloc (.cells #[.int .i64 op, .int .i64 0, .int .i64 0, .int .i64 0, .string ⟨#[]⟩, .slice aa l.length acap] 72)) (by simp) (by simp) d).repE (e := .mk op 0 0 0 ByteArray.empty (l.map (·.1))) (.lit _ _ _ (by omega) (by omega) (by omega) _ hop _ (Nat.zero_le _) _ (by rw [List.length_map]; omega)) rfl
      rw [hll] at R3
      exact R3.mono fun b hb => by show X.heap.size ≤ b; omega
end Go.Proofs.Ytldelkkeimlfcaa
