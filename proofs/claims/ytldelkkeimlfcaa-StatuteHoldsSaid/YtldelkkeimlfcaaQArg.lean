/- A raw version that came in, as data. -/
import Derived.Test.YtldelkkeimlfcaaQVer
import Derived.ProofKit
import Derived.SizedLaws
import Derived.Deep.Matrix
import Derived.Deep.Fields
import Derived.OpenShut
import Derived.Test.YtldelkkeimlfcaaRows
import Derived.Below
set_option linter.all false
namespace Go.Proofs.Ytldelkkeimlfcaa
open Go.RowKit Go.ChangeShapes Go.WideShapes Go.Deep
section
variable {H : Type} {enc : TypeId × Value → H} {P : Program} {w : World}
def fits (P : Program) (t : TypeId) (d : DataW H) : Prop := ∀ n ∈ d.weights P t, n ≤ 140737488351232

theorem add_at' (b off i : Nat) : (⟨b, off, none⟩ : Addr).add i = ⟨b, off + i, none⟩ := by unfold Addr.add; split <;> simp_all
theorem cell_lt {w : World} {b o : Nat} {v : Value} (h : w.cell? ⟨b, o, none⟩ = some v) : b < w.heap.size := by
  rcases Nat.lt_or_ge b w.heap.size with h1 | h1
  · exact h1
  · simp [World.cell?, Array.getElem?_eq_none h1] at h
theorem i64_of_wf {n : Int} (h : (Lit.int .i64 n).wf = true) : I64 n := bounds_i64 h
/-- A slice of integers that came in. -/
theorem IntsAt.of_cells {a : Option Addr} {len cap : Nat} {zs : List Int} (hl : len ≤ cap) (hz : zs.length = cap) (hw : ∀ n ∈ zs, (Lit.int .i64 n).wf = true) (hb : len ≤ 140737488355328) (ha : a = none → len = 0)
    (hc : ∀ x, a = some x → ∀ i, i < cap → w.cell? (x.add i) = some (.int .i64 (zs.getD i 0))) : IntsAt w (.slice a len cap) (zs.take len) := by
  have hlen : (zs.take len).length = len := by rw [List.length_take]; omega
  refine ⟨by omega, fun z hz2 => i64_of_wf (hw z (List.mem_of_mem_take hz2)), a, cap, by rw [hlen], ?_⟩
  rw [hlen]
  by_cases h0 : len = 0
  · exact .inl h0
  · cases a with
    | none => exact .inl (ha rfl)
    | some x =>
      obtain ⟨b, off, spot⟩ := x
      have h1 := hc _ rfl 0 (by omega)
      have hspot : spot = none := by simpa [Addr.add] using World.cell?_spot h1
      subst hspot
      have h2 : ∀ i, i < cap → w.cell? ⟨b, off + i, none⟩ = some (.int .i64 (zs.getD i 0)) := fun i hi => by
        rw [← add_at']; exact hc _ rfl i hi
      refine .inr ⟨b, off, rfl, cell_lt (h2 0 (by omega)), fun i hi => ?_⟩
      rw [h2 i (by omega)]
      simp [List.getD_eq_getElem?_getD, hi]
theorem IntsAt.of_trod {t e : TypeId} {fuel : Nat} {v : Value} {x : DataW H × List MemPlace} (ht : P.underlying t = some (.slice e)) (he : P.underlying e = some (.int .i64)) (hc : P.cellsOf e = 1) (hb : P.bytesOf e = 8)
    (h : DataW.trod enc P w 0 (fun _ => true) true fuel t [v] = some x) (hf : fits P t x.1) : ∃ zs, IntsAt w v zs := by
  rcases open_ints ht he hc h with ⟨hcs, _⟩ | ⟨a, l, c, zs, hcs, _, hl, hm, hz, hx, hcell, hwz⟩
  · simp at hcs
    subst hcs
    exact ⟨[], by simp, by simp, none, 0, rfl, .inl rfl⟩
  · simp at hcs
    subst hcs
    simp only [if_true] at hz
    have h8 : l ≤ 140737488355328 := by
      have h9 := hf ((l + (c - l)) * 8) (by rw [hx]; simp [DataW.weights, ht, lits, hb, hz, Nat.min_eq_left hl])
      omega
    exact ⟨zs.take l, IntsAt.of_cells hl hz hwz h8 (fun e => by cases e) fun x' hx' i hi => by cases hx'; exact hcell i (by omega)⟩
theorem RowsAt.of_trod {t e q : TypeId} {fuel : Nat} {v : Value} {x : DataW H × List MemPlace} (ht : P.underlying t = some (.slice e)) (he : P.underlying e = some (.slice q)) (hq : P.underlying q = some (.int .i64)) (ce : P.cellsOf e = 1) (cq : P.cellsOf q = 1) (be : P.bytesOf e = 24) (bq : P.bytesOf q = 8)
    (h : DataW.trod enc P w 0 (fun _ => true) true fuel t [v] = some x) (hf : fits P t x.1) : ∃ zss, RowsAt w v zss := by
  rcases open_int_rows ht he hq ce cq h with ⟨hcs, _⟩ | ⟨a, len, cap, A, L, C, Z, hcs, _, hl, hm, hx, hr⟩
  · simp at hcs
    subst hcs
    exact ⟨[], by simp, none, 0, rfl, .inl rfl⟩
  · simp at hcs
    subst hcs
    have h8 : len ≤ 140737488355328 := by
      have h9 := hf ((len + (cap - len)) * 24) (by rw [hx]; simp [DataW.weights, ht, be])
      omega
    have hrow : ∀ r, r < len → IntsAt w (.slice (A r) (L r) (C r)) ((Z r).take (L r)) := by
      intro r hrl
      obtain ⟨h1, h2, h3, h4, h5, h6, h7⟩ := hr r (by omega)
      refine IntsAt.of_cells h2 h4 h5 ?_ (fun e => by have := h6 e; omega) (fun x' hx' i hi => (h7 x' hx').2 i hi)
      cases hA : A r with
      | none => have := h6 hA; omega
      | some y =>
        have h9 := hf ((L r + (C r - L r)) * 8) (by
          rw [hx]
          simp only [DataW.weights, ht, List.mem_cons, List.mem_append]
          right; left
          have key : ∀ (l : List Nat), r ∈ l → (L r + (C r - L r)) * 8 ∈ DataW.weightsAll P e (l.map fun r => (intRow (H := H) .i64 (A r) (L r) (Z r))) := by
            intro l
            induction l with
            | nil => intro h; cases h
            | cons y' l ih =>
              intro h
              simp only [List.map_cons, DataW.weightsAll, List.mem_append]
              rcases List.mem_cons.1 h with rfl | h
              · left; simp [intRow, hA, DataW.weights, he, lits, bq, h4, Nat.min_eq_left h2]
              · exact .inr (ih h)
          exact key _ (List.mem_range.2 hrl))
        omega
    refine ⟨(List.range len).map fun r => (Z r).take (L r), by simpa using h8, some a, cap, by simp, ?_⟩
    by_cases h0 : len = 0
    · left; simp [h0]
    · right
      obtain ⟨b, off, spot⟩ := a
      have h1 := (hr 0 (by omega)).1
      have hspot : spot = none := by simpa [Addr.add] using World.cell?_spot h1
      subst hspot
      have h2 : ∀ i, i < cap → w.cell? ⟨b, off + i, none⟩ = some (.slice (A i) (L i) (C i)) := fun i hi => by
        rw [← add_at']; exact (hr i hi).1
      refine ⟨b, off, rfl, cell_lt (h2 0 (by omega)), fun i hi => ?_⟩
      have hi' : i < len := by simpa using hi
      refine ⟨_, h2 i (by omega), ?_⟩
      have : ((List.range len).map fun r => (Z r).take (L r)).getD i [] = (Z i).take (L i) := by simp [List.getD_eq_getElem?_getD, hi']
      rw [this]
      exact hrow i hi'
end
theorem array10 {α : Type} {cs : Array α} (h : cs.size = 10) : ∃ c0 c1 c2 c3 c4 c5 c6 c7 c8 c9, cs = #[c0, c1, c2, c3, c4, c5, c6, c7, c8, c9] := by
  obtain ⟨l⟩ := cs
  match l, h with
  | [c0, c1, c2, c3, c4, c5, c6, c7, c8, c9], _ => exact ⟨c0, c1, c2, c3, c4, c5, c6, c7, c8, c9, rfl⟩
theorem c25 : (Try.prog).cellsOf 25 = 10 := by kernel_rfl
theorem c3 : (Try.prog).cellsOf 3 = 1 := by kernel_rfl
theorem c22 : (Try.prog).cellsOf 22 = 1 := by kernel_rfl
theorem c23 : (Try.prog).cellsOf 23 = 1 := by kernel_rfl
theorem b3 : (Try.prog).bytesOf 3 = 8 := by kernel_rfl
theorem b22 : (Try.prog).bytesOf 22 = 24 := by kernel_rfl
theorem fits_part {H : Type} {P : Program} {t : TypeId} {fs : Array Field} {l : List (DataW H)} {i : Nat} {f : Field} {d : DataW H} (ht : P.underlying t = some (.struct fs)) (h : fits P t (.agg l)) (hf : fs[i]? = some f) (hd : l[i]? = some d) : fits P f.type d := by
  intro n hn
  refine h n ?_
  simp only [DataW.weights, ht]
  exact DataW.weights_mem_each (j := i) (by simp [hf]) hd n hn
theorem int_of_trod {H : Type} {enc : TypeId × Value → H} {w : World} {fuel : Nat} {v : Value} {x : DataW H × List MemPlace} (h : DataW.trod enc Try.prog w 0 (fun _ => true) true fuel 3 [v] = some x) : ∃ n, v = .int .i64 n ∧ I64 n := by
  obtain ⟨n, hcs, _, hw⟩ := DataW.trod_int Try.underlying3 h
  exact ⟨n, by simpa using hcs, i64_of_wf hw⟩
set_option maxRecDepth 1000000 in
/-- The raw version that came in: its ten cells. -/
theorem RawAt.of_trod {H : Type} {enc : TypeId × Value → H} {w : World} {r : Reach} {b0 : Nat} {v : Value} {d : DataW H} {p : List MemPlace} (hv : Value.okWide Try.prog w r b0 25 v)
    (h : DataW.Trod enc Try.prog w 0 (fun _ => true) true 25 v d p) (hf : fits Try.prog 25 d) :
    ∃ R cs, v = .agg cs ∧ RawAt w cs.toList R := by
  have ht := Try.underlying25
  obtain ⟨cs, rfl, hsz⟩ := okWide_struct ht hv
  obtain ⟨c0, c1, c2, c3', c4, c5, c6, c7, c8, c9, rfl⟩ := array10 (hsz.trans c25)
  obtain ⟨fuel, h⟩ := h
  obtain ⟨xs, n, _, hx, _, hlen, hF⟩ := DataW.trod_struct ht h
  simp only [Prod.mk.injEq] at hx
  obtain ⟨rfl, -⟩ := hx
  have k0 := hF 0 _ rfl
  have k1 := hF 1 _ rfl
  have k2 := hF 2 _ rfl
  have k3 := hF 3 _ rfl
  have k4 := hF 4 _ rfl
  have k5 := hF 5 _ rfl
  have k6 := hF 6 _ rfl
  have k7 := hF 7 _ rfl
  have k8 := hF 8 _ rfl
  have k9 := hF 9 _ rfl
  simp only [Value.cells, List.drop_zero, List.drop_succ_cons, List.take_succ_cons, List.take_zero] at k0 k1 k2 k3 k4 k5 k6 k7 k8 k9
  match xs, hlen with
  | [y0, y1, y2, y3, y4, y5, y6, y7, y8, y9], _ =>
    obtain ⟨n0, rfl, w0⟩ := int_of_trod k0
    obtain ⟨n1, rfl, w1⟩ := int_of_trod k1
    obtain ⟨n2, rfl, w2⟩ := int_of_trod k2
    obtain ⟨n9, rfl, w9⟩ := int_of_trod k9
    obtain ⟨z3, w3⟩ := IntsAt.of_trod Try.underlying22 Try.underlying3 c3 b3 k3 (fits_part ht hf (i := 3) rfl rfl)
    obtain ⟨z4, w4⟩ := IntsAt.of_trod Try.underlying22 Try.underlying3 c3 b3 k4 (fits_part ht hf (i := 4) rfl rfl)
    obtain ⟨z5, w5⟩ := RowsAt.of_trod Try.underlying23 Try.underlying22 Try.underlying3 c22 c3 b22 b3 k5 (fits_part ht hf (i := 5) rfl rfl)
    obtain ⟨z6, w6⟩ := RowsAt.of_trod Try.underlying23 Try.underlying22 Try.underlying3 c22 c3 b22 b3 k6 (fits_part ht hf (i := 6) rfl rfl)
    obtain ⟨z7, w7⟩ := RowsAt.of_trod Try.underlying23 Try.underlying22 Try.underlying3 c22 c3 b22 b3 k7 (fits_part ht hf (i := 7) rfl rfl)
    obtain ⟨z8, w8⟩ := RowsAt.of_trod Try.underlying23 Try.underlying22 Try.underlying3 c22 c3 b22 b3 k8 (fits_part ht hf (i := 8) rfl rfl)
    exact ⟨⟨n0, n1, n2, z3, z4, z5, z6, z7, z8, n9⟩, _, rfl, w0, w1, w2, w9, c3', c4, c5, c6, c7, c8, rfl, w3, w4, w5, w6, w7, w8⟩
end Go.Proofs.Ytldelkkeimlfcaa
/- A law's row: from the walk to the statement, whatever its parameters. -/
namespace Go.Proofs.Ytldelkkeimlfcaa
open Go.ChangeShapes Go.WideShapes Go.ChangeAt Go.RowKit
theorem below_trodAll {H : Type} {enc : TypeId × Value → H} {P : Program} {W W' : World} (hl : laidOutB P = true) (hb : Below W.heap.size W W') : ∀ (ts : List TypeId) (vs : List Value) (ds : List (DataW H)) (ps : List MemPlace), (∀ t ∈ ts, P.readableRec t = true ∧ t < P.types.size) →
    DataW.TrodAll enc P W 0 (fun _ => true) true ts vs ds ps → (∀ x ∈ ps, x.block < W.heap.size) → DataW.TrodAll enc P W' 0 (fun b => decide (b < W.heap.size)) true ts vs ds ps
  | [], [], [], _, _, h, _ => h
  | t :: ts, v :: vs, d :: ds, ps, hr, h, hlt => by
    obtain ⟨p, q, h1, h2, rfl⟩ := h
    exact ⟨p, q, Below.trod hl (hr t List.mem_cons_self).1 (hr t List.mem_cons_self).2 h1 hb fun x hx => hlt x (List.mem_append_left _ hx),
      below_trodAll hl hb ts vs ds q (fun t ht => hr t (List.mem_cons_of_mem _ ht)) h2 fun x hx => hlt x (List.mem_append_right _ hx), rfl⟩
  | [], _ :: _, _, _, _, h, _ => h.elim
  | [], [], _ :: _, _, _, h, _ => h.elim
  | _ :: _, [], _, _, _, h, _ => h.elim
  | _ :: _, _ :: _, [], _, _, h, _ => h.elim
/-- A law's call, told of what came in: it returns true and writes nothing that was there. -/
def LawWalk {H : Type} (enc : TypeId × Value → H) (P : Program) (f : FuncId) (ts : List TypeId) : Prop :=
  ∀ (W : World) (base : Nat) (args : Array Value) (ds : List (DataW H)) (p : List MemPlace), (∀ (j : Nat) t v, ts[j]? = some t → args[j]? = some v → Value.okWide P W .any base t v) →
    DataW.TrodAll enc P W 0 (fun _ => true) true ts args.toList ds p → (∀ (j : Nat) t d, ts[j]? = some t → ds[j]? = some d → fits P t d) →
    Calls P f args W fun e W' => e = .returned (.bool true) ∧ Below W.heap.size W W'
theorem law_post {H : Type} {enc : TypeId × Value → H} {P : Program} {fn : Func} {s : ChangeSpec} {W W' : World} {args : Array Value} {ds gs : List (DataW H)} {before : List MemPlace} (hl : laidOutB P = true)
    (hr : fn.params.toList.all (fun t => P.readableRec t && decide (t < P.types.size)) = true) (hres : fn.resultTypes = #[4]) (hu : P.underlying 4 = some .bool) (hvars : s.vars = [])
    (hspec : ∀ ds : List (DataW H), ds.length = fn.params.size → s.fn H (ds ++ []) = { results := [.lit (.bool true)], args := ds })
    (hW : DataW.Whole enc P fn.params.toList s.vars false W args.toList ds gs before) (hb : Below W.heap.size W W') : s.post enc P fn false true false false W args (.bool true) W' := by
  have hW' := hW
  obtain ⟨p, q, hA, hV, rfl, hfz, hnd⟩ := hW
  rw [hvars] at hV
  obtain ⟨rfl, rfl⟩ := trodVars_none hV
  have hlen : ∀ (ts : List TypeId) (vs : List Value) (ds : List (DataW H)) (ps : List MemPlace), DataW.TrodAll enc P W 0 (fun _ => true) true ts vs ds ps → ds.length = ts.length := by
    intro ts
    induction ts with
    | nil => intro vs ds ps h; cases vs <;> cases ds <;> simp_all [DataW.TrodAll]
    | cons t ts ih =>
      intro vs ds ps h
      cases vs with
      | nil => exact h.elim
      | cons v vs =>
        cases ds with
        | nil => exact h.elim
        | cons d ds =>
          obtain ⟨_, _, _, h2, _⟩ := h
          simp [ih _ _ _ h2]
  have hds : ds.length = fn.params.size := by rw [hlen _ _ _ _ hA]; simp
  have hs := hspec ds hds
  have hlt : ∀ x ∈ p, x.block < W.heap.size := fun x hx => by have := hW'.lt x (by simpa using hx); simpa using this
  refine ⟨ds, [], p ++ [], [], p, [], hW', ?_, ?_, ?_, hb.frame _, fun h => by cases h⟩
  · rw [hs, hres]
    exact trodAll_mk1 (shut_bool hu _)
  · rw [hs]
    refine below_trodAll hl hb _ _ _ _ (fun t ht => ?_) hA hlt
    have := List.all_eq_true.1 hr t ht
    simpa using this
  · rw [hs, hvars]; rfl
theorem law_lift {H : Type} {enc : TypeId × Value → H} {C : Checked} {os : Os} {f : FuncId} {fn : Func} {s : ChangeSpec} {conds : List PathCond} (own : ownKnob C.prog.godebug = none) (started : os.Started) (noInit : C.prog.inits.idxOf? f = none) (hfn : C.prog.funcs[f]? = some fn)
    (witness : ∃ (w : World) (tape : Tape) (i : Input), w.os = os ∧ (w.forCall tape i).Shaped C.prog ∧ i.vars = [] ∧ Input.okWide C.prog (w.forCall tape i) .any w.heap.size f i ∧
      s.pre6 enc C.prog fn conds false (w.forCall tape i).memory i.args ∧ ({} : Assume).holds C.prog (lone (Frame.enter C.prog f i.args .normal) [] (w.forCall tape i)))
    (hl : laidOutB C.prog = true) (hr : fn.params.toList.all (fun t => C.prog.readableRec t && decide (t < C.prog.types.size)) = true) (hres : fn.resultTypes = #[4]) (hu : C.prog.underlying 4 = some .bool) (hvars : s.vars = [])
    (hspec : ∀ ds : List (DataW H), ds.length = fn.params.size → s.fn H (ds ++ []) = { results := [.lit (.bool true)], args := ds }) (walk : LawWalk enc C.prog f fn.params.toList) :
    ReturnsInHanded {} C os f .any (s.pre6 enc C.prog fn conds false) (s.post enc C.prog fn false true false false) := by
  refine returnsInHanded_of_change_sized own started noInit hfn witness ?_
  intro W base args ds gs before hval hW _ hsz _
  have hW' := hW
  obtain ⟨p, q, hA, hV, rfl, hfz, hnd⟩ := hW
  have e : s.vars = [] := hvars
  rw [e] at hV
  obtain ⟨rfl, rfl⟩ := trodVars_none hV
  refine (walk W base args ds p (fun j t v ht ha => hval j t v (by simpa using ht) ha) hA (fun j t d ht hd n hn => ?_)).mono fun e W' ⟨he, hb⟩ => ⟨_, he, law_post hl hr hres hu hvars hspec hW' hb⟩
  have := List.all_eq_true.1 hsz n (DataW.weights_mem_each (j := j) (by rw [List.getElem?_append_left (List.getElem?_eq_some_iff.1 ht).1]; exact ht) (by rw [List.append_nil]; exact hd) n hn)
  exact of_decide_eq_true this
theorem own : ownKnob Try.prog.godebug = none := by kernel_rfl
theorem laidOut : laidOutB Try.prog = true := by kernel_rfl
end Go.Proofs.Ytldelkkeimlfcaa
