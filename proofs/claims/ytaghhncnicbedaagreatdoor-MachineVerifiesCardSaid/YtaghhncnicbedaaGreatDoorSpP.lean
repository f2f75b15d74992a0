/- Code that is spoilt: its rows in memory; pokes. -/
import Derived.Test.YtaghhncnicbedaaGreatDoorFGenT
set_option linter.all false
namespace Go.Proofs.YtaghhncnicbedaaGreatDoor
open Go.RowKit
theorem insV_set0 (l : List Ins) (i : Nat) (z : Int) (hi : i < l.length) : (insV l).set (i * 4 + 0) (.int .i64 z) = insV (l.set i { l.getD i default with op := z }) := by
  induction l generalizing i with
  | nil => simp at hi
  | cons x r ih =>
    cases i with
    | zero => rfl
    | succ i =>
      have h1 : insV (x :: r) = [.int .i64 x.op, .int .i64 x.a, .int .i64 x.n, .int .i64 x.d] ++ insV r := rfl
      have h2 : (x :: r).set (i + 1) { (x :: r).getD (i + 1) default with op := z } = x :: r.set i { r.getD i default with op := z } := rfl
      have h3 : insV (x :: r.set i { r.getD i default with op := z }) = [.int .i64 x.op, .int .i64 x.a, .int .i64 x.n, .int .i64 x.d] ++ insV (r.set i { r.getD i default with op := z }) := rfl
      rw [h1, h2, h3, show (i + 1) * 4 + 0 = 4 + (i * 4 + 0) by omega, List.set_append_right _ _ (by simp)]
      show _ ++ (insV r).set (4 + (i * 4 + 0) - 4) _ = _
      rw [Nat.add_sub_cancel_left, ih i (by simpa using hi)]
theorem insV_set1 (l : List Ins) (i : Nat) (z : Int) (hi : i < l.length) : (insV l).set (i * 4 + 1) (.int .i64 z) = insV (l.set i { l.getD i default with a := z }) := by
  induction l generalizing i with
  | nil => simp at hi
  | cons x r ih =>
    cases i with
    | zero => rfl
    | succ i =>
      have h1 : insV (x :: r) = [.int .i64 x.op, .int .i64 x.a, .int .i64 x.n, .int .i64 x.d] ++ insV r := rfl
      have h2 : (x :: r).set (i + 1) { (x :: r).getD (i + 1) default with a := z } = x :: r.set i { r.getD i default with a := z } := rfl
      have h3 : insV (x :: r.set i { r.getD i default with a := z }) = [.int .i64 x.op, .int .i64 x.a, .int .i64 x.n, .int .i64 x.d] ++ insV (r.set i { r.getD i default with a := z }) := rfl
      rw [h1, h2, h3, show (i + 1) * 4 + 1 = 4 + (i * 4 + 1) by omega, List.set_append_right _ _ (by simp)]
      show _ ++ (insV r).set (4 + (i * 4 + 1) - 4) _ = _
      rw [Nat.add_sub_cancel_left, ih i (by simpa using hi)]
theorem insV_set2 (l : List Ins) (i : Nat) (z : Int) (hi : i < l.length) : (insV l).set (i * 4 + 2) (.int .i64 z) = insV (l.set i { l.getD i default with n := z }) := by
  induction l generalizing i with
  | nil => simp at hi
  | cons x r ih =>
    cases i with
    | zero => rfl
    | succ i =>
      have h1 : insV (x :: r) = [.int .i64 x.op, .int .i64 x.a, .int .i64 x.n, .int .i64 x.d] ++ insV r := rfl
      have h2 : (x :: r).set (i + 1) { (x :: r).getD (i + 1) default with n := z } = x :: r.set i { r.getD i default with n := z } := rfl
      have h3 : insV (x :: r.set i { r.getD i default with n := z }) = [.int .i64 x.op, .int .i64 x.a, .int .i64 x.n, .int .i64 x.d] ++ insV (r.set i { r.getD i default with n := z }) := rfl
      rw [h1, h2, h3, show (i + 1) * 4 + 2 = 4 + (i * 4 + 2) by omega, List.set_append_right _ _ (by simp)]
      show _ ++ (insV r).set (4 + (i * 4 + 2) - 4) _ = _
      rw [Nat.add_sub_cancel_left, ih i (by simpa using hi)]
theorem insV_set3 (l : List Ins) (i : Nat) (z : Int) (hi : i < l.length) : (insV l).set (i * 4 + 3) (.int .i64 z) = insV (l.set i { l.getD i default with d := z }) := by
  induction l generalizing i with
  | nil => simp at hi
  | cons x r ih =>
    cases i with
    | zero => rfl
    | succ i =>
      have h1 : insV (x :: r) = [.int .i64 x.op, .int .i64 x.a, .int .i64 x.n, .int .i64 x.d] ++ insV r := rfl
      have h2 : (x :: r).set (i + 1) { (x :: r).getD (i + 1) default with d := z } = x :: r.set i { r.getD i default with d := z } := rfl
      have h3 : insV (x :: r.set i { r.getD i default with d := z }) = [.int .i64 x.op, .int .i64 x.a, .int .i64 x.n, .int .i64 x.d] ++ insV (r.set i { r.getD i default with d := z }) := rfl
      rw [h1, h2, h3, show (i + 1) * 4 + 3 = 4 + (i * 4 + 3) by omega, List.set_append_right _ _ (by simp)]
      show _ ++ (insV r).set (4 + (i * 4 + 3) - 4) _ = _
      rw [Nat.add_sub_cancel_left, ih i (by simpa using hi)]
theorem insV_take (l : List Ins) (k : Nat) : insV (l.take k) = (insV l).take (k * 4) := by
  induction l generalizing k with
  | nil => simp [insV]
  | cons x r ih =>
    cases k with
    | zero => simp [insV]
    | succ k =>
      have h1 : insV (x :: r) = .int .i64 x.op :: .int .i64 x.a :: .int .i64 x.n :: .int .i64 x.d :: insV r := rfl
      have h2 : insV (x :: r.take k) = .int .i64 x.op :: .int .i64 x.a :: .int .i64 x.n :: .int .i64 x.d :: insV (r.take k) := rfl
      rw [List.take_succ_cons, h2, h1, ih, show (k + 1) * 4 = k * 4 + 1 + 1 + 1 + 1 by omega]; rfl
theorem insV_drop (l : List Ins) (k : Nat) : insV (l.drop k) = (insV l).drop (k * 4) := by
  have h := congrArg insV (List.take_append_drop k l)
  have h2 := List.take_append_drop (k * 4) (insV l)
  rw [insV_app, insV_take] at h
  exact List.append_cancel_left (h.trans h2.symm)
theorem insV_one (l : List Ins) : ∀ u ∈ insV l, u.oneCell' = true := by
  intro u hu
  obtain ⟨x, -, hx⟩ := List.mem_flatMap.1 hu
  simp at hx
  rcases hx with rfl | rfl | rfl | rfl <;> rfl
theorem slV_one (l : List ByteArray) : ∀ u ∈ slV l, u.oneCell' = true := by
  intro u hu
  obtain ⟨x, -, rfl⟩ := List.mem_map.1 hu
  rfl
theorem InsOk.set {l : List Ins} (h : InsOk l) (k : Nat) {x : Ins} (hx : I64 x.n ∧ I64 x.d) : InsOk (l.set k x) := fun y hy => by
  rcases List.mem_or_eq_of_mem_set hy with hy | rfl
  · exact h y hy
  · exact hx
theorem InsOk.at {l : List Ins} (h : InsOk l) (k : Nat) : I64 (l.getD k default).n ∧ I64 (l.getD k default).d := by
  rw [List.getD_eq_getElem?_getD]
  cases e : l[k]? with
  | none => exact ⟨⟨by decide, by decide⟩, ⟨by decide, by decide⟩⟩
  | some x => exact h x (List.mem_of_getElem? e)
/-- Code that is being changed: its two rows, each its own, and the block that holds them. -/
structure Spo (w : World) (base g : Nat) (cI cS vI vS : Value) (l : List Ins) (sl : List ByteArray) (W : World) : Prop where
  gr : w.Grows W
  wg : w.heap.size ≤ g
  wb : w.heap.size ≤ base
  gW : g < W.heap.size
  bW : base ≤ W.heap.size
  blk : ∃ ty, W.heap[g]? = some (.cells #[cI, cS] ty (0, 0))
  row : LRow base W vI l
  slr : W.ownsRow base 9 1 vS sl.length (slV sl)
  dIS : ∀ b, vI.ownBlock = some b → vS.ownBlock ≠ some b
  dI : vI.ownBlock ≠ some g
  dS : vS.ownBlock ≠ some g
section
variable {w W W' W1 : World} {base g : Nat} {cI cS vI vS v1 : Value} {l l1 : List Ins} {sl sl1 : List ByteArray}
theorem own_down {b b' size n : Nat} {e : TypeId} {v : Value} {xs : List Value} (h : W.ownsRow b e size v n xs) (hb : b' ≤ b) : W.ownsRow b' e size v n xs := by
  obtain ⟨h0, h1 | ⟨g, cap, cur, hv, hbg, hr⟩⟩ := h
  · exact ⟨h0, .inl h1⟩
  · exact ⟨h0, .inr ⟨g, cap, cur, hv, Nat.le_trans hb hbg, hr⟩⟩
theorem Spo.grows (h : Spo w base g cI cS vI vS l sl W) (hg : W.Grows W') : Spo w base g cI cS vI vS l sl W' := by
  obtain ⟨ty, hb⟩ := h.blk
  exact ⟨h.gr.trans' hg, h.wg, h.wb, Nat.lt_of_lt_of_le h.gW hg.below.size, Nat.le_trans h.bW hg.below.size, ⟨ty, (hg.below.block g h.gW).trans hb⟩, h.row.grows hg, keptNe h.slr (grownOf hg none) (fun _ e => by cases e), h.dIS, h.dI, h.dS⟩
/-- A store into the block. -/
theorem Spo.setc (h : Spo w base g cI cS vI vS l sl W) (j : Nat) (u : Value) {dI dS : Value} (hd : ((#[cI, cS] : Array Value).setIfInBounds j u) = #[dI, dS]) : Spo w base g dI dS vI vS l sl (W.setCell ⟨g, j, none⟩ u) := by
  obtain ⟨ty, hb⟩ := h.blk
  have hg := grownSet W g j u
  refine ⟨.of_below (h.gr.below.setCell h.wg u), h.wg, h.wb, Nat.lt_of_lt_of_le h.gW hg.size, Nat.le_trans h.bW hg.size, ⟨ty, ?_⟩, keptNe h.row hg ?_, keptNe h.slr hg ?_, h.dIS, h.dI, h.dS⟩
  · rw [← hd]; exact Go.Joins.block_setCell hb u
  · rintro b ⟨⟩ e; exact h.dI e
  · rintro b ⟨⟩ e; exact h.dS e
theorem Spo.setI (h : Spo w base g cI cS vI vS l sl W) (u : Value) : Spo w base g u cS vI vS l sl (W.setCell ⟨g, 0, none⟩ u) := h.setc 0 u rfl
theorem Spo.c0 (h : Spo w base g cI cS vI vS l sl W) : W.cell? ⟨g, 0, none⟩ = some cI := by obtain ⟨ty, hb⟩ := h.blk; exact cell_of_row W g 0 _ _ _ hb
theorem Spo.c1 (h : Spo w base g cI cS vI vS l sl W) : W.cell? ⟨g, 1, none⟩ = some cS := by obtain ⟨ty, hb⟩ := h.blk; exact cell_of_row W g 1 _ _ _ hb
theorem Spo.f (h : Spo w base g cI cS vI vS l sl W) (j : Nat) : W.frozen? ⟨g, j, none⟩ = false := by obtain ⟨ty, hb⟩ := h.blk; exact Go.Joins.unfrozen_of_block hb j
/-- One cell of an instruction, set. -/
theorem Spo.poke {gg n c : Nat} (h : Spo w base g cI cS (.slice (some ⟨gg, 0, none⟩) n c) vS l sl W) (hn : n = l.length) (o : Nat) (u : Value) (hs : (insV l).set o u = insV l1) (hl : l1.length = l.length) : Spo w base g cI cS (.slice (some ⟨gg, 0, none⟩) n c) vS l1 sl (W.setCell ⟨gg, o, none⟩ u) := by
  subst hn
  have hr := h.row
  unfold LRow at hr
  obtain ⟨h1, h2⟩ := hr.stored o u
  have hb := (hr.lt gg rfl).1
  obtain ⟨ty, hbk⟩ := h.blk
  refine ⟨World.Grows.grown h.gr h2 (fun k e => by cases e; have := h.wb; omega), h.wg, h.wb, Nat.lt_of_lt_of_le h.gW h2.size, Nat.le_trans h.bW h2.size, ⟨ty, (h2.block g h.gW (fun e => h.dI e.symm)).trans hbk⟩, ?_, keptNe h.slr h2 h.dIS, h.dIS, h.dI, h.dS⟩
  unfold LRow
  rw [← hs, hl]
  exact h1
theorem Spo.cellI {gg n c : Nat} (h : Spo w base g cI cS (.slice (some ⟨gg, 0, none⟩) n c) vS l sl W) (hn : n = l.length) (o : Nat) (ho : o < l.length * 4) : (∃ u, W.cell? ⟨gg, o, none⟩ = some u) ∧ W.frozen? ⟨gg, o, none⟩ = false := by
  subst hn
  have hr := h.row
  unfold LRow at hr
  refine ⟨?_, hr.frozenAt _⟩
  have := hr.cellAt o (by omega)
  rw [this, List.getElem?_eq_getElem (by rw [insV_len]; omega)]
  exact ⟨_, rfl⟩
theorem Spo.cellA {gg n c : Nat} (h : Spo w base g cI cS (.slice (some ⟨gg, 0, none⟩) n c) vS l sl W) (hn : n = l.length) (k : Nat) (hk : k < l.length) : W.cell? ⟨gg, k * 4 + 1, none⟩ = some (.int .i64 (l.getD k default).a) := by
  subst hn
  have hr := h.row
  unfold LRow at hr
  exact (hr.cellAt (k * 4 + 1) (by omega)).trans (insV_get l k hk).2.1
theorem Spo.cells {gg n c : Nat} (h : Spo w base g cI cS (.slice (some ⟨gg, 0, none⟩) n c) vS l sl W) (hn : n = l.length) (j : Nat) (u : Value) (hj : (insV l)[j]? = some u) : W.cell? ⟨gg, j, none⟩ = some u := by
  subst hn
  have hr := h.row
  unfold LRow at hr
  have := (List.getElem?_eq_some_iff.1 hj).1
  rw [insV_len] at this
  exact (hr.cellAt j this).trans hj
/-- A name, set. -/
theorem Spo.name {gg n c : Nat} (h : Spo w base g cI cS vI (.slice (some ⟨gg, 0, none⟩) n c) l sl W) (hn : n = sl.length) (i : Nat) (s : ByteArray) : Spo w base g cI cS vI (.slice (some ⟨gg, 0, none⟩) n c) l (sl.set i s) (W.setCell ⟨gg, i, none⟩ (.string s)) := by
  subst hn
  obtain ⟨h1, h2⟩ := h.slr.stored i (.string s)
  have hb := (h.slr.lt gg rfl).1
  obtain ⟨ty, hbk⟩ := h.blk
  refine ⟨World.Grows.grown h.gr h2 (fun k e => by cases e; have := h.wb; omega), h.wg, h.wb, Nat.lt_of_lt_of_le h.gW h2.size, Nat.le_trans h.bW h2.size, ⟨ty, (h2.block g h.gW (fun e => h.dS e.symm)).trans hbk⟩, keptNe h.row h2 (apSym h.dIS), ?_, h.dIS, h.dI, h.dS⟩
  rw [List.length_set, slV, List.map_set]
  exact h1
theorem Spo.cellS {gg n c : Nat} (h : Spo w base g cI cS vI (.slice (some ⟨gg, 0, none⟩) n c) l sl W) (hn : n = sl.length) (i : Nat) (hi : i < sl.length) : (∃ u, W.cell? ⟨gg, i, none⟩ = some u) ∧ W.frozen? ⟨gg, i, none⟩ = false := by
  subst hn
  refine ⟨?_, h.slr.frozenAt _⟩
  have := h.slr.cellAt i (by omega)
  rw [this, slV_get sl i hi]
  exact ⟨_, rfl⟩
/-- Instructions in a new row. -/
theorem Spo.newI (h : Spo w base g cI cS vI vS l sl W) (hg : W.Grows W1) (hr : LRow W.heap.size W1 v1 l1) : Spo w base g cI cS v1 vS l1 sl W1 := by
  have h1 := h.grows hg
  refine ⟨h1.gr, h1.wg, h1.wb, h1.gW, h1.bW, h1.blk, own_down hr h.bW, h1.slr, fun b e e2 => ?_, fun e => ?_, h1.dS⟩
  · have := (hr.lt b e).1; have := (h.slr.lt b e2).2; omega
  · have := (hr.lt g e).1; have := h.gW; omega
end
/-- A row of one's own behind a row of one's own. -/
theorem wpList_app_rows {ops : Array Oper} {rest : List Oper} {o : Oper} {a : Act} {w : World} {Q : Exit → Act → World → Prop} (hgd : o.guard = none) (s x : Operand) (t : TypeId)
    (ho : o.op = .call { callee := .builtin .append, args := #[s, x], argTypes := #[t, t] })
    (base base' : Nat) (e : TypeId) (i : TypeInfo) (z : Value) (size bytes : Nat) (ht : Tryz.prog.underlying t = some (.slice e)) (hi : Tryz.prog.info? e = some i) (hz : i.zero = some z)
    (hsize : i.size = size) (hby : i.bytes = bytes) (hzs : z.cells.size = size) (hsz : 0 < size)
    (v u : Value) (n m : Nat) (A B : List Value) (hs : a.eval s = v) (hx : a.eval x = u) (hA : w.ownsRow base e size v n A) (hB : w.ownsRow base' e size u m B) (h1 : ∀ y ∈ B, y.oneCell' = true)
    (h63 : n + m ≤ maxLen) (hbytes : (n + m) * bytes ≤ 140737488355328) (hbase : base ≤ w.heap.size)
    (h : ∀ v' w', w'.ownsRow base e size v' (n + m) (A ++ B) → w.grownBy w' v.ownBlock → wpList Tryz.prog ops Q rest (a.put o.dst v') w') : wpList Tryz.prog ops Q (o :: rest) a w := by
  obtain ⟨hlB, ⟨rfl, h0⟩ | ⟨g, cap, cur, rfl, hbg, hgl, -⟩⟩ := id hB
  · refine wpList_append_own_none hgd s x t ho base e i size ht hi v _ _ hs hA hx (h v w ?_ (grownBy_refl' _ _))
    subst h0
    have : B = [] := List.eq_nil_of_length_eq_zero (by omega)
    subst this
    simpa using hA
  · refine wpList_append_own _ hgd s x t ho base e i z size bytes ht hi hz hsize hby hzs hsz v n _ hs hA ⟨g, 0, none⟩ m cap _ hx hlB (fun j y hy => ?_) h1 h63 hbytes hbase (fun v' w' h1 h2 _ => h v' w' h1 h2)
    have hj := (List.getElem?_eq_some_iff.1 hy).1
    rw [show (⟨g, 0, none⟩ : Addr).add j = ⟨g, j, none⟩ by unfold Addr.add; split <;> simp_all, hB.cellAt j (by omega)]; exact hy
/-- append to a row of one's own, at a step of a region that draws its order. -/
theorem step_app_own9 {P : Program} {ops : Array Oper} {o : Oper} {a : Act} {w : World} {K : Act → World → Prop} {Q : Exit → Act → World → Prop} {E : Prop} (hgd : o.guard = none) (s x : Operand) (t : TypeId)
    (ho : o.op = .call { callee := .builtin .append, args := #[s, x], argTypes := #[t, t] })
    (base : Nat) (e : TypeId) (i : TypeInfo) (z : Value) (size bytes : Nat) (ht : P.underlying t = some (.slice e)) (hi : P.info? e = some i) (hz : i.zero = some z)
    (hsize : i.size = size) (hby : i.bytes = bytes) (hzs : z.cells.size = size) (hsz : 0 < size)
    (v : Value) (n : Nat) (xs : List Value) (hs : a.eval s = v) (hown : w.ownsRow base e size v n xs)
    (ad : Addr) (m c : Nat) (news : List Value) (hx : a.eval x = .slice (some ad) m c) (hl : news.length = m * size) (hnews : ∀ j u, news[j]? = some u → w.cell? (ad.add j) = some u) (h1 : ∀ u ∈ news, u.oneCell' = true)
    (h63 : n + m ≤ maxLen) (hbytes : (n + m) * bytes ≤ 140737488355328) (hbase : base ≤ w.heap.size)
    (h : ∀ v' w', w'.ownsRow base e size v' (n + m) (xs ++ news) → w.grownBy w' v.ownBlock → K (a.put o.dst v') w') :
    if Region.wanted o (yielded ops a.tmps) = true then Oper.wp P o a w K Q else E := by
  have hw : Region.wanted o (yielded ops a.tmps) = true := by simp [Region.wanted, hgd]
  rw [if_pos hw]
  exact wp_append_own w s x t ho base e i z size bytes ht hi hz hsize hby hzs hsz v n xs hs hown ad m c news hx hl hnews h1 h63 hbytes hbase fun v' w' h2 h3 _ => h v' w' h2 h3
theorem step_app_none9 {P : Program} {ops : Array Oper} {o : Oper} {a : Act} {w : World} {K : Act → World → Prop} {Q : Exit → Act → World → Prop} {E : Prop} (hgd : o.guard = none) (s x : Operand) (t : TypeId)
    (ho : o.op = .call { callee := .builtin .append, args := #[s, x], argTypes := #[t, t] })
    (base : Nat) (e : TypeId) (i : TypeInfo) (size : Nat) (ht : P.underlying t = some (.slice e)) (hi : P.info? e = some i)
    (v : Value) (n : Nat) (xs : List Value) (hs : a.eval s = v) (hown : w.ownsRow base e size v n xs) (hx : a.eval x = .slice none 0 0)
    (h : K (a.put o.dst v) w) : if Region.wanted o (yielded ops a.tmps) = true then Oper.wp P o a w K Q else E := by
  have hw : Region.wanted o (yielded ops a.tmps) = true := by simp [Region.wanted, hgd]
  rw [if_pos hw]
  have hrun := run_append_owned_none (P := P) (w := w) base t o.type e i size ht hi v n xs hown
  unfold Oper.wp
  simp [execOp, ho, resolve, invoke, builtin, hs, hx, hrun, Result.andThen]
  exact h
/-- The same at a step of a region that draws its order. -/
theorem step_app_rows {ops : Array Oper} {o : Oper} {a : Act} {w : World} {K : Act → World → Prop} {Q : Exit → Act → World → Prop} {E : Prop} (hgd : o.guard = none) (s x : Operand) (t : TypeId)
    (ho : o.op = .call { callee := .builtin .append, args := #[s, x], argTypes := #[t, t] })
    (base base' : Nat) (e : TypeId) (i : TypeInfo) (z : Value) (size bytes : Nat) (ht : Tryz.prog.underlying t = some (.slice e)) (hi : Tryz.prog.info? e = some i) (hz : i.zero = some z)
    (hsize : i.size = size) (hby : i.bytes = bytes) (hzs : z.cells.size = size) (hsz : 0 < size)
    (v u : Value) (n m : Nat) (A B : List Value) (hs : a.eval s = v) (hx : a.eval x = u) (hA : w.ownsRow base e size v n A) (hB : w.ownsRow base' e size u m B) (h1 : ∀ y ∈ B, y.oneCell' = true)
    (h63 : n + m ≤ maxLen) (hbytes : (n + m) * bytes ≤ 140737488355328) (hbase : base ≤ w.heap.size)
    (h : ∀ v' w', w'.ownsRow base e size v' (n + m) (A ++ B) → w.grownBy w' v.ownBlock → K (a.put o.dst v') w') :
    if Region.wanted o (yielded ops a.tmps) = true then Oper.wp Tryz.prog o a w K Q else E := by
  obtain ⟨hlB, ⟨rfl, h0⟩ | ⟨g, cap, cur, rfl, hbg, hgl, -⟩⟩ := id hB
  · refine step_app_none9 hgd s x t ho base e i size ht hi v _ _ hs hA hx (h v w ?_ (grownBy_refl' _ _))
    subst h0
    have : B = [] := List.eq_nil_of_length_eq_zero (by omega)
    subst this
    simpa using hA
  · refine step_app_own9 hgd s x t ho base e i z size bytes ht hi hz hsize hby hzs hsz v n _ hs hA ⟨g, 0, none⟩ m cap _ hx hlB (fun j y hy => ?_) h1 h63 hbytes hbase (fun v' w' h1 h2 => h v' w' h1 h2)
    have hj := (List.getElem?_eq_some_iff.1 hy).1
    rw [show (⟨g, 0, none⟩ : Addr).add j = ⟨g, j, none⟩ by unfold Addr.add; split <;> simp_all, hB.cellAt j (by omega)]; exact hy
/-- Pokes in memory. -/
def PkAt (w : World) (v : Value) (l : List (Int × Int × Int)) : Prop :=
  ∃ a cap, v = .slice a l.length cap ∧ (l.length = 0 ∨ ∃ b off, a = some ⟨b, off, none⟩ ∧ b < w.heap.size ∧ ∀ i, i < l.length → w.cell? ⟨b, off + i * 3, none⟩ = some (.int .i64 (l.getD i default).1) ∧ w.cell? ⟨b, off + i * 3 + 1, none⟩ = some (.int .i64 (l.getD i default).2.1) ∧ w.cell? ⟨b, off + i * 3 + 2, none⟩ = some (.int .i64 (l.getD i default).2.2))
theorem PkAt.grows {w w' : World} {v : Value} {l : List (Int × Int × Int)} (h : PkAt w v l) (hg : w.Grows w') : PkAt w' v l := by
  obtain ⟨a, cap, hv, h1⟩ := h
  refine ⟨a, cap, hv, h1.imp id ?_⟩
  rintro ⟨b, off, ha, hb, hc⟩
  have hs := hg.below.size
  have e : ∀ o, w'.cell? ⟨b, o, none⟩ = w.cell? ⟨b, o, none⟩ := fun o => World.cell?_of_block (hg.below.block b hb)
  refine ⟨b, off, ha, by omega, fun i hi => ?_⟩
  obtain ⟨k1, k2, k3⟩ := hc i hi
  exact ⟨(e _).trans k1, (e _).trans k2, (e _).trans k3⟩
end Go.Proofs.YtaghhncnicbedaaGreatDoor
