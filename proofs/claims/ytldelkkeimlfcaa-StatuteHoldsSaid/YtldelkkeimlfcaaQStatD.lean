/- A statute of raw versions: as data, and in memory. -/
import Derived.Test.YtldelkkeimlfcaaQAtRef
import Derived.Test.YtldelkkeimlfcaaQOfSaid
import Derived.Test.YtldelkkeimlfcaaQShelf
import Derived.Deep.CutBlock
import Derived.Deep.CutRange
import Derived.Deep.DeepCutAuto
set_option linter.all false
namespace Go.Proofs.Ytldelkkeimlfcaa
open Go.RowKit
theorem VerT.mono' {S S' : Nat → Prop} {w : World} {V : VerP} {v3 v4 v5 v6 v7 : Value} (h : VerT S w V v3 v4 v5 v6 v7) (hS : ∀ b, S b → b < w.heap.size → S' b) : VerT S' w V v3 v4 v5 v6 v7 := by
  obtain ⟨ql, qg, qr, e1, e2, e3, r1, r2, r3, r4, r5, s3, s4, s5⟩ := h
  have key : ∀ {v : Value} {c : Nat} {l : List (List Value)}, SrcIn S w v c l → SrcIn S' w v c l := fun h => ⟨h.1, fun b hb => hS b (h.2 b hb) (h.1.inn.2 b hb)⟩
  exact ⟨ql, qg, qr, e1, e2, e3, key r1, key r2, key r3, key r4, key r5, fun x hx => (s3 x hx).mono' hS, fun x hx => (s4 x hx).mono' hS, fun x hx => (s5 x hx).mono' hS⟩
theorem VerAt.readsT {B : Nat} {w : World} {V : VerP} {v3 v4 v5 v6 v7 : Value} (h : VerAt B w V v3 v4 v5 v6 v7) (hl : LensV V) : VerT (fun b => B ≤ b) w V v3 v4 v5 v6 v7 := by
  obtain ⟨ql, qg, qr, H1, H2, H3, H4, H5, e1, e2, e3, ord, r1, r2, r3, r4, r5⟩ := h
  have hl' := hl
  obtain ⟨l1, l2, l3', l4', l5'⟩ := hl
  have l3 : (letL ql).length ≤ 1000 := by rw [← e1] at l3'; simpa [letL] using l3'
  have l4 : (grL qg).length ≤ 1000 := by rw [← e2] at l4'; simpa [grL] using l4'
  have l5 : (reL qr).length ≤ 1000 := by rw [← e3] at l5'; simpa [reL] using l5'
  have s3 : ∀ x ∈ ql.map (·.2), RepE (fun b => B ≤ b) w x.1 x.2 := fun x hx => (r3.rep x hx).mono fun b hb => by have := hb.1.1; omega
  have s4 : ∀ x ∈ grR qg, RepE (fun b => B ≤ b) w x.1 x.2 := fun x hx => (r4.rep x hx).mono fun b hb => by have := hb.1.1; omega
  have s5 : ∀ x ∈ qr.map (·.2), RepE (fun b => B ≤ b) w x.1 x.2 := fun x hx => (r5.rep x hx).mono fun b hb => by have := hb.1; omega
  exact ⟨ql, qg, qr, e1, e2, e3, ⟨.of_rowG r1.toG (by simpa [crL] using l1) (cr_one _), fun b hb => by have := (r1.lt b hb).1; omega⟩, ⟨.of_rowG r2.toG (by simpa [seL] using l2) (se_one _), fun b hb => by have := (r2.lt b hb).1; omega⟩,
    ⟨.of_rowG r3.toG l3 (le_one _ s3), fun b hb => by have := (r3.lt b hb).1; omega⟩, ⟨.of_rowG r4.toG l4 (gr_ones _ s4), fun b hb => by have := (r4.lt b hb).1; omega⟩, ⟨.of_rowG r5 l5 (re_ones _ s5), fun b hb => by have := (r5.lt b hb).1; omega⟩, s3, s4, s5⟩
theorem twistP_lens (n : Int) (V : VerP) : (twistP n V).cr.length = V.cr.length ∧ (twistP n V).se.length = V.se.length ∧ (twistP n V).le.length = V.le.length ∧ (twistP n V).gr.length = V.gr.length ∧ (twistP n V).re.length = V.re.length := by
  unfold twistP
  repeat' split
  all_goals simp_all
theorem ofP_lens (R : RawV) : LensV (ofP R) := by
  have h : LensV (madeP R) := by
    simp only [LensV, madeP, List.length_map, List.length_range]
    unfold nCred nSer nLet nPay nCut
    omega
  unfold ofP
  split
  · exact h
  · split
    · obtain ⟨a, b, c, d, e⟩ := twistP_lens (pick (R.twist.tdiv 8) 7) (madeP R)
      unfold LensV; rw [a, b, c, d, e]; exact h
    · exact h
theorem topF_small (zs : List Int) (env : List (ByteArray × Int)) (dim : Int) : (topF zs env dim).size ≤ 1000000 := by
  unfold topF
  split
  · exact Nat.le_trans (exprF_size zs env 5 dim 0 24) (by decide)
  · exact Nat.le_trans (leafF_size zs env dim _ _) (by decide)
theorem madeP_small (R : RawV) : VerSmall (madeP R) := by
  refine ⟨fun t ht => ?_, fun t ht => ?_, fun t ht => ?_⟩
  · obtain ⟨i, _, rfl⟩ := List.mem_map.1 ht; exact topF_small _ _ _
  · obtain ⟨i, _, rfl⟩ := List.mem_map.1 ht; exact ⟨topF_small _ _ _, topF_small _ _ _⟩
  · obtain ⟨i, _, rfl⟩ := List.mem_map.1 ht; exact topF_small _ _ _
theorem twistP_small (n : Int) {V : VerP} (h : VerSmall V) : VerSmall (twistP n V) := by
  obtain ⟨h1, h2, h3⟩ := h
  unfold twistP
  split
  · refine ⟨h1, fun t ht => ?_, h3⟩
    simp only at ht
    split at ht
    · rename_i a r he
      rcases List.mem_cons.1 ht with rfl | ht
      · have := h2 a (by rw [he]; exact List.mem_cons_self); exact ⟨this.1, this.1⟩
      · exact h2 t (by rw [he]; exact List.mem_cons_of_mem _ ht)
    · cases ht
  · split
    · refine ⟨h1, fun t ht => ?_, h3⟩
      simp only at ht
      split at ht
      · rename_i a b r he
        rcases List.mem_cons.1 ht with rfl | ht
        · exact h2 t (by rw [he]; exact List.mem_cons_self)
        · rcases List.mem_cons.1 ht with rfl | ht
          · exact h2 b (by rw [he]; simp)
          · exact h2 t (by rw [he]; simp [ht])
      · exact h2 t ht
    · split
      · refine ⟨fun t ht => ?_, h2, h3⟩
        simp only at ht
        split at ht
        · rename_i a b r he
          rcases List.mem_cons.1 ht with rfl | ht
          · exact h1 t (by rw [he]; exact List.mem_cons_self)
          · rcases List.mem_cons.1 ht with rfl | ht
            · exact h1 b (by rw [he]; simp)
            · exact h1 t (by rw [he]; simp [ht])
        · exact h1 t ht
      · split
        · refine ⟨fun t ht => ?_, h2, h3⟩
          simp only at ht
          split at ht
          · rename_i a r he
            rcases List.mem_cons.1 ht with rfl | ht
            · show laterE.size ≤ 1000000
              simp [laterE, Ex.size, Ex.sizes]
            · exact h1 t (by rw [he]; exact List.mem_cons_of_mem _ ht)
          · cases ht
        · split
          · exact ⟨h1, h2, h3⟩
          · split
            · exact ⟨h1, h2, h3⟩
            · refine ⟨fun t ht => ?_, h2, h3⟩
              simp only at ht
              split at ht
              · rename_i a r he
                rcases List.mem_cons.1 ht with rfl | ht
                · exact h1 a (by rw [he]; exact List.mem_cons_self)
                · exact h1 t (by rw [he]; exact List.mem_cons_of_mem _ ht)
              · cases ht
theorem ofP_small (R : RawV) : VerSmall (ofP R) := by
  unfold ofP
  split
  · exact madeP_small R
  · split
    · exact twistP_small _ (madeP_small R)
    · exact madeP_small R
theorem ofP_frm (R : RawV) : (ofP R).frm = pick R.frm 73049 := by
  unfold ofP
  split
  · rfl
  · split
    · exact (twistP_frm _ _).1
    · rfl
/-- A statute's versions. -/
def statV1 (order : Int) (V : VerP) (i : Nat) : VerP := if order.tmod 5 = 0 then V else { V with frm := V.frm / 3 + i * 24349 }
def zeroR : RawV := ⟨0, 0, 0, [], [], [], [], [], [], 0⟩
def statV (Rs : List RawV) (order : Int) (k : Nat) : List VerP := (List.range k).map fun i => statV1 order (ofP (Rs.getD i zeroR)) i
def statL (Rs : List RawV) (order : Int) : List VerP := if Rs.length = 0 then [ofP zeroR] else statV Rs order (min Rs.length 3)
theorem statV_succ (Rs : List RawV) (order : Int) (k : Nat) : statV Rs order (k + 1) = statV Rs order k ++ [statV1 order (ofP (Rs.getD k zeroR)) k] := by simp [statV, List.range_succ]
theorem statV1_small (order : Int) (R : RawV) (i : Nat) (hi : i < 3) : I64 (statV1 order (ofP R) i).frm ∧ VerSmall (statV1 order (ofP R) i) ∧ LensV (statV1 order (ofP R) i) := by
  have hb := pick_bd R.frm 73049 (by omega)
  have hf := ofP_frm R
  unfold statV1
  split
  · exact ⟨by unfold I64; omega, ofP_small R, ofP_lens R⟩
  · exact ⟨by unfold I64; simp only; omega, ofP_small R, ofP_lens R⟩
theorem VerT.frm {S : Nat → Prop} {w : World} {V : VerP} {v3 v4 v5 v6 v7 : Value} (h : VerT S w V v3 v4 v5 v6 v7) (f : Int) : VerT S w { V with frm := f } v3 v4 v5 v6 v7 := by
  obtain ⟨ql, qg, qr, e1, e2, e3, r1, r2, r3, r4, r5, s3, s4, s5⟩ := h
  exact ⟨ql, qg, qr, e1, e2, e3, r1, r2, r3, r4, r5, s3, s4, s5⟩
/-- A version with its five slices. -/
structure VE where
  V : VerP
  v3 : Value
  v4 : Value
  v5 : Value
  v6 : Value
  v7 : Value
def veC (t : VE) : List Value := [.int .i64 t.V.frm, .int .i64 t.V.mode, .int .i64 t.V.unit, t.v3, t.v4, t.v5, t.v6, t.v7]
/-- A row of versions of one's own. -/
structure VRowG (base : Nat) (w : World) (v : Value) (q : List VE) : Prop where
  row : RowG 34 8 base w v (q.map veC) []
  rep : ∀ t ∈ q, VerT (fun b => base ≤ b ∧ v.ownBlock ≠ some b) w t.V t.v3 t.v4 t.v5 t.v6 t.v7
theorem VRowG.nil (base : Nat) (w : World) : VRowG base w (.slice none 0 0) [] := ⟨.nil _ _ _ _, fun _ h => by cases h⟩
section
variable {base : Nat} {w w' : World} {v : Value} {q : List VE}
theorem VRowG.keep (h : VRowG base w v q) (hsz : w.heap.size ≤ w'.heap.size) (hw : ∀ k, base ≤ k → k < w.heap.size → w'.heap[k]? = w.heap[k]?) : VRowG base w' v q :=
  ⟨h.row.keep hsz hw, fun t ht => (h.rep t ht).same hsz fun b o hb hlt => World.cell?_of_block (hw b hb.1 hlt)⟩
theorem VRowG.form (h : VRowG base w v q) : ∃ a cap, v = .slice a q.length cap := by
  obtain ⟨a, cap, hv⟩ := h.row.form
  exact ⟨a, cap, by rw [hv, List.length_map]⟩
theorem VRowG.own (h : VRowG base w v q) : w.ownsRow base 34 8 v q.length (q.map veC).flatten := by
  have := h.row.own
  rwa [List.length_map] at this
theorem VRowG.alloc (h : VRowG base w v q) (o : Obj) : VRowG base (w.alloc o) v q := h.keep (by simp) fun k _ hlt => Below.heap_alloc w o k hlt
theorem VRowG.grows (h : VRowG base w v q) (hg : w.Grows w') : VRowG base w' v q := h.keep hg.below.size fun k _ hlt => hg.below.block k hlt
theorem VRowG.store (h : VRowG base w v q) {b i : Nat} (hb : b < base) (u : Value) : VRowG base (w.setCell ⟨b, i, none⟩ u) v q := h.keep (by simp) fun k hk _ => Below.heap_setCell _ _ _ _ (by show k ≠ b; omega)
theorem VRowG.push {t : VE} {m g cap H n : Nat} {xs : List Value} (h : VRowG base w v q) (hr : VerT (fun b => m ≤ b) w t.V t.v3 t.v4 t.v5 t.v6 t.v7) (hm : base ≤ m) (hv : ∀ k, v.ownBlock = some k → k < m)
    (hn : n = q.length + 1) (hxs : xs = (q.map veC).flatten ++ veC t) (ho : w'.ownsRow base 34 8 (.slice (some ⟨g, 0, none⟩) n cap) n xs) (hg : w.grownBy w' v.ownBlock) (hat : v.ownBlock = some g ∨ g = H) (hH : w.heap.size = H) (hmH : m ≤ H) :
    VRowG base w' (.slice (some ⟨g, 0, none⟩) n cap) (q ++ [t]) := by
  have hrow := RowG.push (news := veC t) (rs2 := []) (m := m) h.row (fun x hx => by cases hx) hm hv rfl (by simpa using hn) hxs (by simpa using ho) hg hat hH
  refine ⟨by simpa using hrow, fun x hx => ?_⟩
  have key : ∀ (y : VE), VerT (fun b => base ≤ b ∧ v.ownBlock ≠ some b) w y.V y.v3 y.v4 y.v5 y.v6 y.v7 → VerT (fun b => base ≤ b ∧ (Value.slice (some ⟨g, 0, none⟩) n cap).ownBlock ≠ some b) w' y.V y.v3 y.v4 y.v5 y.v6 y.v7 := by
    intro y hy
    refine ((hy.mono' (S' := fun b => (base ≤ b ∧ v.ownBlock ≠ some b) ∧ g ≠ b) ?_).same hg.size ?_).mono ?_
    · rintro b ⟨h1, h2⟩ hlt
      refine ⟨⟨h1, h2⟩, ?_⟩
      rcases hat with hat | hat
      · intro e; exact h2 (by rw [hat, e])
      · omega
    · rintro b o ⟨⟨_, h2⟩, _⟩ hlt
      exact World.cell?_of_block (hg.block b hlt (Ne.symm h2))
    · rintro b ⟨⟨h1, _⟩, h3⟩
      exact ⟨h1, by simpa [Value.ownBlock] using h3⟩
  rcases List.mem_append.1 hx with hx | hx
  · exact key x (h.rep x hx)
  · obtain rfl : x = t := by simpa using hx
    exact key x (hr.mono fun b hb => ⟨by omega, fun e => by have := hv b e; omega⟩)
end
def slA : Value → Option Addr | .slice a _ _ => a | _ => none
def slN : Value → Nat | .slice _ n _ => n | _ => 0
def slC : Value → Nat | .slice _ _ c => c | _ => 0
instance : Inhabited VE := ⟨⟨zeroP, .slice none 0 0, .slice none 0 0, .slice none 0 0, .slice none 0 0, .slice none 0 0⟩⟩
def vrowOf (q : List VE) : VRow where
  f i := (q.getD i default).V.frm
  m i := (q.getD i default).V.mode
  u i := (q.getD i default).V.unit
  a3 i := slA (q.getD i default).v3
  n3 i := slN (q.getD i default).v3
  c3 i := slC (q.getD i default).v3
  a4 i := slA (q.getD i default).v4
  n4 i := slN (q.getD i default).v4
  c4 i := slC (q.getD i default).v4
  a5 i := slA (q.getD i default).v5
  n5 i := slN (q.getD i default).v5
  c5 i := slC (q.getD i default).v5
  a6 i := slA (q.getD i default).v6
  n6 i := slN (q.getD i default).v6
  c6 i := slC (q.getD i default).v6
  a7 i := slA (q.getD i default).v7
  n7 i := slN (q.getD i default).v7
  c7 i := slC (q.getD i default).v7
theorem VRowG.versions {base : Nat} {w : World} {v : Value} {q : List VE} {L : List VerP} (h : VRowG base w v q) (hL : q.map (·.V) = L) (hl : q.length ≤ 1000) (hok : ∀ V ∈ L, I64 V.frm ∧ VerSmall V ∧ LensV V) : VsAt w v L (vrowOf q) := by
  subst hL
  have hform : ∀ i, i < q.length → ∃ t, q[i]? = some t ∧ q.getD i default = t ∧ t ∈ q := fun i hi => ⟨q[i], List.getElem?_eq_getElem hi, by rw [List.getD_eq_getElem?_getD, List.getElem?_eq_getElem hi]; rfl, List.getElem_mem hi⟩
  constructor
  · obtain ⟨a, cap, hv, hc⟩ := h.row.cells
    simp only [List.length_map] at hv hc ⊢
    refine ⟨hl, a, cap, hv, hc.imp id ?_⟩
    rintro ⟨g, ha, hb, hlt, hx⟩
    refine ⟨g, 0, ha, hlt, fun i hi => ?_⟩
    obtain ⟨t, ht, hd, hm⟩ := hform i hi
    have hget : (q.map veC).getD i [] = veC t := by rw [List.getD_eq_getElem?_getD, List.getElem?_map, ht]; rfl
    have h3 := fun j u hj hu => hx i j u hi hj (by rw [hget]; exact hu)
    obtain ⟨⟨b3, m3, k3, f3⟩, ⟨b4, m4, k4, f4⟩, ⟨b5, m5, k5, f5⟩, ⟨b6, m6, k6, f6⟩, ⟨b7, m7, k7, f7⟩⟩ := (h.rep t hm).toR.form2
    have z : ∀ j, 0 + i * 8 + j = i * 8 + j := fun j => by omega
    refine ⟨?_, ?_, ?_, ?_, ?_, ?_, ?_, ?_⟩ <;> simp only [vrowOf, hd]
    · rw [show 0 + i * 8 = i * 8 + 0 by omega]; exact h3 0 _ (by omega) rfl
    · rw [z]; exact h3 1 _ (by omega) rfl
    · rw [z]; exact h3 2 _ (by omega) rfl
    · rw [z, f3]; exact (h3 3 _ (by omega) rfl).trans (by rw [f3]; rfl)
    · rw [z, f4]; exact (h3 4 _ (by omega) rfl).trans (by rw [f4]; rfl)
    · rw [z, f5]; exact (h3 5 _ (by omega) rfl).trans (by rw [f5]; rfl)
    · rw [z, f6]; exact (h3 6 _ (by omega) rfl).trans (by rw [f6]; rfl)
    · rw [z, f7]; exact (h3 7 _ (by omega) rfl).trans (by rw [f7]; rfl)
  · intro i V hV
    rw [List.getElem?_map] at hV
    cases hq : q[i]? with
    | none => rw [hq] at hV; cases hV
    | some t =>
      rw [hq] at hV
      obtain rfl : t.V = V := by simpa using hV
      have hi := (List.getElem?_eq_some_iff.1 hq).1
      obtain ⟨t', ht', hd, hm⟩ := hform i hi
      rw [hq] at ht'
      obtain rfl : t = t' := by simpa using ht'
      obtain ⟨o1, o2, o3⟩ := hok t.V (List.mem_map_of_mem hm)
      have hr := (h.rep t hm).toR
      obtain ⟨⟨b3, m3, k3, f3⟩, ⟨b4, m4, k4, f4⟩, ⟨b5, m5, k5, f5⟩, ⟨b6, m6, k6, f6⟩, ⟨b7, m7, k7, f7⟩⟩ := hr.form2
      refine ⟨by simp only [vrowOf, hd], by simp only [vrowOf, hd], by simp only [vrowOf, hd], o1, o2, o3, ?_⟩
      simp only [vrowOf, hd]
      rw [f3, f4, f5, f6, f7] at hr ⊢
      exact hr
end Go.Proofs.Ytldelkkeimlfcaa
/- pensionmade.Statute: the statute that statL tells. -/
namespace Go.Proofs.Ytldelkkeimlfcaa
open Go.RowKit
/-- A slice of raw versions that came in. -/
def RawsAt (w : World) (v : Value) (Rs : List RawV) : Prop :=
  Rs.length ≤ 140737488355328 ∧ ∃ a cap, v = .slice a Rs.length cap ∧ (Rs.length = 0 ∨ ∃ b off, a = some ⟨b, off, none⟩ ∧ b < w.heap.size ∧
    ∀ i, i < Rs.length → ∃ cs : List Value, RawAt w cs (Rs.getD i zeroR) ∧ ∀ (j : Nat) (u : Value), cs[j]? = some u → w.cell? ⟨b, off + i * 10 + j, none⟩ = some u)
abbrev lawN : ByteArray := ⟨#[108, 97, 119]⟩
def StatPost (Rs : List RawV) (order : Int) (w : World) (e : Ending) (w' : World) : Prop :=
  ∃ v x, e = .returned (.agg #[.string lawN, .int .i64 (1 + pick order 3), v]) ∧ w.Grows w' ∧ VsAt w' v (statL Rs order) x
/-- Statute's memory: its result's box, its variable's. -/
structure StatAt (w : World) (cur : Int) (v : Value) (wr : World) : Prop where
  bel : Below w.heap.size w wr
  res : wr.heap[w.heap.size]? = some (.cells #[.string ⟨#[]⟩, .int .i64 0, .slice none 0 0] 53 (0, 0))
  box : wr.heap[w.heap.size + 1]? = some (.cells #[.string lawN, .int .i64 cur, v] 53 (0, 0))
section
variable {w wr w1 : World} {cur : Int} {v : Value}
theorem StatAt.lt (h : StatAt w cur v wr) : w.heap.size + 1 < wr.heap.size := (Array.getElem?_eq_some_iff.1 h.box).1
theorem StatAt.grows (h : StatAt w cur v wr) (hg : wr.Grows w1) : StatAt w cur v w1 := by
  have hl := h.lt
  have hb := hg.below
  exact ⟨h.bel.trans (hb.mono h.bel.size), by rw [hb.block _ (by omega)]; exact h.res, by rw [hb.block _ (by omega)]; exact h.box⟩
theorem StatAt.alloc (h : StatAt w cur v wr) (o : Obj) : StatAt w cur v (wr.alloc o) := h.grows (.of_below ((Below.refl _ _).alloc (Nat.le_refl _) o))
theorem StatAt.grown {row : Option Nat} (h : StatAt w cur v wr) (hg : wr.grownBy w1 row) (hr : ∀ k, row = some k → w.heap.size + 2 ≤ k) : StatAt w cur v w1 := by
  have hl := h.lt
  exact ⟨h.bel.grown hg h.bel.size (fun k hk => by have := hr k hk; omega), (hg.block _ (by omega) (fun e => by have := hr _ e.symm; omega)).trans h.res, (hg.block _ (by omega) (fun e => by have := hr _ e.symm; omega)).trans h.box⟩
theorem StatAt.store (h : StatAt w cur v wr) (u : Value) : StatAt w cur u (wr.setCell ⟨w.heap.size + 1, 2, none⟩ u) :=
  ⟨h.bel.setCell (by show w.heap.size ≤ w.heap.size + 1; omega) u, by rw [Below.heap_setCell _ _ _ _ (by show w.heap.size ≠ w.heap.size + 1; omega)]; exact h.res, Joins.block_setCell h.box u⟩
end
theorem infoVer : (Try.prog.info? 34).map (fun i => (i.zero, i.size, i.bytes)) = some (some (.agg #[.int .i64 0, .int .i64 0, .int .i64 0, .slice none 0 0, .slice none 0 0, .slice none 0 0, .slice none 0 0, .slice none 0 0]), 8, 144) := by kernel_rfl
theorem RowsAt.form {w : World} {u : Value} {zs : List (List Int)} (h : RowsAt w u zs) : ∃ a cap, u = .slice a zs.length cap := by
  obtain ⟨_, a, cap, hv, _⟩ := h
  exact ⟨a, cap, hv⟩
theorem veC_one {S : Nat → Prop} {w : World} {V : VerP} {v3 v4 v5 v6 v7 : Value} {f m u : Int} (h : VerT S w V v3 v4 v5 v6 v7) : ∀ x ∈ ([.int .i64 f, .int .i64 m, .int .i64 u, v3, v4, v5, v6, v7] : List Value), x.oneCell' = true := by
  obtain ⟨⟨b3, m3, k3, rfl⟩, ⟨b4, m4, k4, rfl⟩, ⟨b5, m5, k5, rfl⟩, ⟨b6, m6, k6, rfl⟩, ⟨b7, m7, k7, rfl⟩⟩ := h.toR.form2
  intro x hx
  simp only [List.mem_cons, List.not_mem_nil, or_false] at hx
  rcases hx with rfl | rfl | rfl | rfl | rfl | rfl | rfl | rfl <;> rfl
theorem zero_raw (w : World) : RawAt w [.int .i64 0, .int .i64 0, .int .i64 0, .slice none 0 0, .slice none 0 0, .slice none 0 0, .slice none 0 0, .slice none 0 0, .slice none 0 0, .int .i64 0] zeroR := by
  have hz : I64 0 := ⟨by decide, by decide⟩
  have hi : IntsAt w (.slice none 0 0) [] := ⟨by simp, by simp, none, 0, rfl, .inl rfl⟩
  have hr : RowsAt w (.slice none 0 0) [] := ⟨by simp, none, 0, rfl, .inl rfl⟩
  exact ⟨hz, hz, hz, hz, _, _, _, _, _, _, rfl, hi, hi, hr, hr, hr, hr⟩
theorem info53 : (Try.prog.info? 53).map (·.size) = some 3 := by kernel_rfl
set_option maxHeartbeats 8000000 in
set_option maxRecDepth 100000 in
theorem stat_any (hOf : Hid OfSaid) (Rs : List RawV) (v : Value) (order : Int) (w : World) (h : RawsAt w v Rs) (ho : I64 order) :
    Calls Try.prog 18 #[v, .int .i64 order] w (StatPost Rs order w) := by
  obtain ⟨hlen, a, cap, rfl, hc⟩ := h
  have HC := Lib.hid hc
  clear hc
  obtain ⟨ho1, ho2⟩ := ho
  obtain ⟨i0, hi, hz0, hz1, hz2⟩ := info_parts infoVer
  have hpo := pick_bd order 3 (by omega)
  obtain ⟨hp0, hp1⟩ := hpo
  have HST : Hid (statL Rs order = if Rs.length = 0 then [ofP zeroR] else statV Rs order (min Rs.length 3)) := Lib.hid rfl
  go_enter Try.func18, Try.ntmps18
  go_upto_block 0 with (go_at_call 10; refine (Pick_any _ _ _ (by omega)).mono ?_; rintro e w' ⟨rfl, rfl⟩)
  go_cut [] from 7 (fun wx => ∃ v' q, StatAt w (1 + pick order 3) v' wx ∧ VRowG (w.heap.size + 2) wx v' q ∧ q.map (·.V) = statV Rs order (min Rs.length 3))
  case first =>
    go_wp2_with fail
    go_loopw [6] (fun v6 wr => ∃ k : Nat, ∃ q v', k ≤ Rs.length ∧ k ≤ 3 ∧ v6 = .int .i64 k ∧ StatAt w (1 + pick order 3) v' wr ∧ VRowG (w.heap.size + 2) wr v' q ∧ q.map (·.V) = statV Rs order k) (fun v6 _ => 3 - (intOf v6).toNat)
    case atStart => exact ⟨0, [], .slice none 0 0, by omega, by omega, rfl, ⟨by (repeat' (first | (with_reducible exact Below.refl _ _) | (with_reducible assumption) | (with_reducible refine Below.grow ?_ ?_ _ _) | (with_reducible refine Below.alloc ?_ ?_ _) | (with_reducible refine Below.drewN ?_ _) | (with_reducible refine Below.drew ?_) | (with_reducible refine Below.setCell ?_ ?_ _) | go_size)), by (repeat (first | (rw [heap_alloc_if, if_pos (by simp; done)]; done) | (rw [heap_alloc_if, if_neg (by simp; omega)]) | (rw [heap_alloc_if, if_neg (by simp; done)]))), by (repeat (first | (rw [heap_alloc_if, if_pos (by simp; done)]; done) | (rw [heap_alloc_if, if_neg (by simp; omega)]) | (rw [heap_alloc_if, if_neg (by simp; done)])))⟩, .nil _ _, rfl⟩
    case round =>
      obtain ⟨k, q, v', hk, hk3, rfl, hm, hv, hq⟩ := hrel
      have HM0 := Lib.hid hm
      have HV0 := Lib.hid hv
      have HQ := Lib.hid hq
      have hql : q.length = k := by have := congrArg List.length hq; simpa [statV] using this
      have HQL := Lib.hid hql
      by_cases hlt : k < Rs.length
      · have d1 : (k : Int) < (Rs.length : Int) := by omega
        by_cases hlt3 : k < 3
        · rcases HC.out with h0 | ⟨b, off, rfl, hb, hx⟩
          · omega
          obtain ⟨cs, hraw, hcell⟩ := hx k hlt
          obtain ⟨R, hR⟩ : ∃ R, Rs.getD k zeroR = R := ⟨_, rfl⟩
          rw [hR] at hraw
          have HRR := Lib.hid hR
          have hraw1 := hraw.below hm.bel
          obtain ⟨r1, r2, r3, r4, vc, vs, vl, vi, vp, vu, rfl, hC, hS, hL, hI, hP, hU⟩ := id hraw1
          obtain ⟨ca, cc, rfl⟩ := IntsAt.form hC
          obtain ⟨sa, sc, rfl⟩ := IntsAt.form hS
          obtain ⟨la, lc, rfl⟩ := RowsAt.form hL
          obtain ⟨ia, ic, rfl⟩ := RowsAt.form hI
          obtain ⟨pa, pc, rfl⟩ := RowsAt.form hP
          obtain ⟨ua, uc, rfl⟩ := RowsAt.form hU
          have hcw := fun j u hj => (hm.bel.cell (p := ⟨b, off + k * 10 + j, none⟩) hb).trans (hcell j u hj)
          have x0 := hcw 0 _ rfl
          have x1 := hcw 1 _ rfl
          have x2 := hcw 2 _ rfl
          have x3 := hcw 3 _ rfl
          have x4 := hcw 4 _ rfl
          have x5 := hcw 5 _ rfl
          have x6 := hcw 6 _ rfl
          have x7 := hcw 7 _ rfl
          have x8 := hcw 8 _ rfl
          have x9 := hcw 9 _ rfl
          rw [Nat.add_zero] at x0
          have HRAW := Lib.hid hraw1
          obtain ⟨aa, acap, hvf⟩ := hv.form
          subst hvf
          have hwl := hm.lt
          have hbx : wr.cell? ⟨w.heap.size + 1, 2, none⟩ = some (.slice aa q.length acap) := cell_of_row _ _ _ _ _ _ hm.box
          have d3 : (k : Int) < 3 := by omega
          have d0 : (0 : Int) ≤ (k : Int) := by omega
          clear hx hraw hraw1 hcell hcw hC hS hL hI hP hU hR hm hv hq hql r1 r2 r3 r4
          go_wp2_with fail
          go_at_call 9
          refine (hOf.out R _ wr HRAW.out).mono ?_
          rintro e w1 ⟨v3, v4, v5, v6, v7, rfl, hg, hver⟩
          have hT := hver.readsT (ofP_lens R)
          obtain ⟨⟨b3, m3, k3, rfl⟩, ⟨b4, m4, k4, rfl⟩, ⟨b5, m5, k5, rfl⟩, ⟨b6, m6, k6, rfl⟩, ⟨b7, m7, k7, rfl⟩⟩ := hT.toR.form2
          have HM1 := Lib.hid (HM0.out.grows hg)
          have HV1 := Lib.hid (HV0.out.grows hg)
          have HS1 := Lib.hid hg.below.size
          have hbx1 : w1.cell? ⟨w.heap.size + 1, 2, none⟩ = some (.slice aa q.length acap) := cell_of_row _ _ _ _ _ _ HM1.out.box
          have hwl1 := HM1.out.lt
          have hfb := pick_bd R.frm 73049 (by omega)
          rw [← ofP_frm R] at hfb
          obtain ⟨hf0, hf1⟩ := hfb
          obtain ⟨fr, hfr⟩ : ∃ fr, (ofP R).frm = fr := ⟨_, rfl⟩
          obtain ⟨mo, hmo⟩ : ∃ mo, (ofP R).mode = mo := ⟨_, rfl⟩
          obtain ⟨un, hun⟩ : ∃ un, (ofP R).unit = un := ⟨_, rfl⟩
          rw [hfr] at hf0 hf1 ⊢
          rw [hmo, hun]
          clear x0 x1 x2 x3 x4 x5 x6 x7 x8 x9 hg hver hbx
          by_cases h5 : order.tmod 5 = 0
          · have hb5 : (order.tmod 5 == 0) = true := by simp [h5]
            have hb6 : (order.tmod 5 != 0) = false := by simp [h5]
            have hst : statV1 order (ofP R) k = ofP R := by unfold statV1; rw [if_pos h5]
            have HF : Hid ((statV1 order (ofP R) k).frm = fr ∧ (statV1 order (ofP R) k).mode = mo ∧ (statV1 order (ofP R) k).unit = un) := Lib.hid (by rw [hst]; exact ⟨hfr, hmo, hun⟩)
            have HT : Hid (VerT (fun b => wr.heap.size ≤ b) w1 (statV1 order (ofP R) k) (.slice b3 m3 k3) (.slice b4 m4 k4) (.slice b5 m5 k5) (.slice b6 m6 k6) (.slice b7 m7 k7)) := Lib.hid (by rw [hst]; exact hT)
            clear hst hT h5 hfr hmo hun
            have HCE : Hid (veC ⟨statV1 order (ofP R) k, .slice b3 m3 k3, .slice b4 m4 k4, .slice b5 m5 k5, .slice b6 m6 k6, .slice b7 m7 k7⟩ = [.int .i64 (fr), .int .i64 mo, .int .i64 un, .slice b3 m3 k3, .slice b4 m4 k4, .slice b5 m5 k5, .slice b6 m6 k6, .slice b7 m7 k7]) := Lib.hid (by simp only [veC]; rw [HF.out.1, HF.out.2.1, HF.out.2.2])
            go_wp2_with (at_builtin; refine wpList_append_lies _ rfl _ _ 51 rfl (w.heap.size + 2) 34 i0 _ 8 144 Try.underlying51 hi hz0 hz1 hz2 rfl (by decide) _ _ _ rfl ((HV1.out.alloc (.cells #[.int .i64 (fr), .int .i64 mo, .int .i64 un, .slice b3 m3 k3, .slice b4 m4 k4, .slice b5 m5 k5, .slice b6 m6 k6, .slice b7 m7 k7] 34)).alloc (.cells #[.int .i64 (fr), .int .i64 mo, .int .i64 un, .slice b3 m3 k3, .slice b4 m4 k4, .slice b5 m5 k5, .slice b6 m6 k6, .slice b7 m7 k7] 34)).own ⟨w1.heap.size + 1, 0, none⟩ 1 1 [.int .i64 (fr), .int .i64 mo, .int .i64 un, .slice b3 m3 k3, .slice b4 m4 k4, .slice b5 m5 k5, .slice b6 m6 k6, .slice b7 m7 k7] rfl rfl ?c1 ?c2 (by decide) ?c3 ?c4 ?c5 (w1.heap.size + 2) (by simp) ?_)
            case c1 => exact news_cells _ [.int .i64 (fr), .int .i64 mo, .int .i64 un, .slice b3 m3 k3, .slice b4 m4 k4, .slice b5 m5 k5, .slice b6 m6 k6, .slice b7 m7 k7] _ _ (by simp)
            case c2 => exact veC_one HT.out
            case c3 => have := HQL.out; unfold maxLen; omega
            case c4 => have := HQL.out; omega
            case c5 => have := HM1.out.lt; simp; omega
            intro g' cap' w2 hown' hgrow hat hlt'
            have hlt2 := HV1.out.row.lt
            have V2 := VRowG.push (t := ⟨statV1 order (ofP R) k, .slice b3 m3 k3, .slice b4 m4 k4, .slice b5 m5 k5, .slice b6 m6 k6, .slice b7 m7 k7⟩) (m := wr.heap.size) ((HV1.out.alloc (.cells #[.int .i64 (fr), .int .i64 mo, .int .i64 un, .slice b3 m3 k3, .slice b4 m4 k4, .slice b5 m5 k5, .slice b6 m6 k6, .slice b7 m7 k7] 34)).alloc (.cells #[.int .i64 (fr), .int .i64 mo, .int .i64 un, .slice b3 m3 k3, .slice b4 m4 k4, .slice b5 m5 k5, .slice b6 m6 k6, .slice b7 m7 k7] 34))
              (HT.out.same (w' := (w1.alloc (.cells #[.int .i64 (fr), .int .i64 mo, .int .i64 un, .slice b3 m3 k3, .slice b4 m4 k4, .slice b5 m5 k5, .slice b6 m6 k6, .slice b7 m7 k7] 34)).alloc (.cells #[.int .i64 (fr), .int .i64 mo, .int .i64 un, .slice b3 m3 k3, .slice b4 m4 k4, .slice b5 m5 k5, .slice b6 m6 k6, .slice b7 m7 k7] 34)) (by simp; omega) (fun b o _ hb => World.cell?_of_block ((Below.heap_alloc _ _ _ (by simp; omega)).trans (Below.heap_alloc _ _ _ hb)))) (by have := HM0.out.lt; omega) (fun j hj => (HV0.out.row.lt j hj).2) rfl (by rw [HCE.out]) hown' hgrow hat (by simp) (by have := HS1.out; omega)
            have M2 := ((HM1.out.alloc (.cells #[.int .i64 (fr), .int .i64 mo, .int .i64 un, .slice b3 m3 k3, .slice b4 m4 k4, .slice b5 m5 k5, .slice b6 m6 k6, .slice b7 m7 k7] 34)).alloc (.cells #[.int .i64 (fr), .int .i64 mo, .int .i64 un, .slice b3 m3 k3, .slice b4 m4 k4, .slice b5 m5 k5, .slice b6 m6 k6, .slice b7 m7 k7] 34)).grown hgrow (fun j hj => (hlt2 j hj).1)
            have hc2 : w2.cell? ⟨w.heap.size + 1, 2, none⟩ = some (.slice aa q.length acap) := cell_of_row _ _ _ _ _ _ M2.box
            have hf2 : w2.frozen? ⟨w.heap.size + 1, 2, none⟩ = false := Joins.unfrozen_of_block M2.box 2
            have HV3 := Lib.hid (V2.store (b := w.heap.size + 1) (i := 2) (by omega) (.slice (some ⟨g', 0, none⟩) (q.length + 1) cap'))
            have HM3 := Lib.hid (M2.store (.slice (some ⟨g', 0, none⟩) (q.length + 1) cap'))
            clear hown' hgrow hat hlt' hlt2 V2 M2
            go_wp2_with fail
            go_roundw
            case rel => exact ⟨k + 1, q ++ [⟨statV1 order (ofP R) k, .slice b3 m3 k3, .slice b4 m4 k4, .slice b5 m5 k5, .slice b6 m6 k6, .slice b7 m7 k7⟩], _, by omega, by omega, by go_num, HM3.out, HV3.out, by rw [List.map_append, HQ.out, statV_succ, HRR.out]; rfl⟩
            case measure => simp [intOf]; omega
          · have hb5 : (order.tmod 5 == 0) = false := by simp [h5]
            have hb6 : (order.tmod 5 != 0) = true := by simp [h5]
            have hst : statV1 order (ofP R) k = { ofP R with frm := (ofP R).frm / 3 + k * 24349 } := by unfold statV1; rw [if_neg h5]
            have HF : Hid ((statV1 order (ofP R) k).frm = fr / 3 + k * 24349 ∧ (statV1 order (ofP R) k).mode = mo ∧ (statV1 order (ofP R) k).unit = un) := Lib.hid (by rw [hst, hfr]; exact ⟨rfl, hmo, hun⟩)
            have HT : Hid (VerT (fun b => wr.heap.size ≤ b) w1 (statV1 order (ofP R) k) (.slice b3 m3 k3) (.slice b4 m4 k4) (.slice b5 m5 k5) (.slice b6 m6 k6) (.slice b7 m7 k7)) := Lib.hid (by rw [hst]; exact hT.frm _)
            clear hst hT h5 hfr hmo hun
            have HCE : Hid (veC ⟨statV1 order (ofP R) k, .slice b3 m3 k3, .slice b4 m4 k4, .slice b5 m5 k5, .slice b6 m6 k6, .slice b7 m7 k7⟩ = [.int .i64 (fr / 3 + k * 24349), .int .i64 mo, .int .i64 un, .slice b3 m3 k3, .slice b4 m4 k4, .slice b5 m5 k5, .slice b6 m6 k6, .slice b7 m7 k7]) := Lib.hid (by simp only [veC]; rw [HF.out.1, HF.out.2.1, HF.out.2.2])
            go_wp2_with (at_builtin; refine wpList_append_lies _ rfl _ _ 51 rfl (w.heap.size + 2) 34 i0 _ 8 144 Try.underlying51 hi hz0 hz1 hz2 rfl (by decide) _ _ _ rfl ((HV1.out.alloc (.cells #[.int .i64 (fr / 3 + k * 24349), .int .i64 mo, .int .i64 un, .slice b3 m3 k3, .slice b4 m4 k4, .slice b5 m5 k5, .slice b6 m6 k6, .slice b7 m7 k7] 34)).alloc (.cells #[.int .i64 (fr / 3 + k * 24349), .int .i64 mo, .int .i64 un, .slice b3 m3 k3, .slice b4 m4 k4, .slice b5 m5 k5, .slice b6 m6 k6, .slice b7 m7 k7] 34)).own ⟨w1.heap.size + 1, 0, none⟩ 1 1 [.int .i64 (fr / 3 + k * 24349), .int .i64 mo, .int .i64 un, .slice b3 m3 k3, .slice b4 m4 k4, .slice b5 m5 k5, .slice b6 m6 k6, .slice b7 m7 k7] rfl rfl ?c1 ?c2 (by decide) ?c3 ?c4 ?c5 (w1.heap.size + 2) (by simp) ?_)
            case c1 => exact news_cells _ [.int .i64 (fr / 3 + k * 24349), .int .i64 mo, .int .i64 un, .slice b3 m3 k3, .slice b4 m4 k4, .slice b5 m5 k5, .slice b6 m6 k6, .slice b7 m7 k7] _ _ (by simp)
            case c2 => exact veC_one HT.out
            case c3 => have := HQL.out; unfold maxLen; omega
            case c4 => have := HQL.out; omega
            case c5 => have := HM1.out.lt; simp; omega
            intro g' cap' w2 hown' hgrow hat hlt'
            have hlt2 := HV1.out.row.lt
            have V2 := VRowG.push (t := ⟨statV1 order (ofP R) k, .slice b3 m3 k3, .slice b4 m4 k4, .slice b5 m5 k5, .slice b6 m6 k6, .slice b7 m7 k7⟩) (m := wr.heap.size) ((HV1.out.alloc (.cells #[.int .i64 (fr / 3 + k * 24349), .int .i64 mo, .int .i64 un, .slice b3 m3 k3, .slice b4 m4 k4, .slice b5 m5 k5, .slice b6 m6 k6, .slice b7 m7 k7] 34)).alloc (.cells #[.int .i64 (fr / 3 + k * 24349), .int .i64 mo, .int .i64 un, .slice b3 m3 k3, .slice b4 m4 k4, .slice b5 m5 k5, .slice b6 m6 k6, .slice b7 m7 k7] 34))
              (HT.out.same (w' := (w1.alloc (.cells #[.int .i64 (fr / 3 + k * 24349), .int .i64 mo, .int .i64 un, .slice b3 m3 k3, .slice b4 m4 k4, .slice b5 m5 k5, .slice b6 m6 k6, .slice b7 m7 k7] 34)).alloc (.cells #[.int .i64 (fr / 3 + k * 24349), .int .i64 mo, .int .i64 un, .slice b3 m3 k3, .slice b4 m4 k4, .slice b5 m5 k5, .slice b6 m6 k6, .slice b7 m7 k7] 34)) (by simp; omega) (fun b o _ hb => World.cell?_of_block ((Below.heap_alloc _ _ _ (by simp; omega)).trans (Below.heap_alloc _ _ _ hb)))) (by have := HM0.out.lt; omega) (fun j hj => (HV0.out.row.lt j hj).2) rfl (by rw [HCE.out]) hown' hgrow hat (by simp) (by have := HS1.out; omega)
            have M2 := ((HM1.out.alloc (.cells #[.int .i64 (fr / 3 + k * 24349), .int .i64 mo, .int .i64 un, .slice b3 m3 k3, .slice b4 m4 k4, .slice b5 m5 k5, .slice b6 m6 k6, .slice b7 m7 k7] 34)).alloc (.cells #[.int .i64 (fr / 3 + k * 24349), .int .i64 mo, .int .i64 un, .slice b3 m3 k3, .slice b4 m4 k4, .slice b5 m5 k5, .slice b6 m6 k6, .slice b7 m7 k7] 34)).grown hgrow (fun j hj => (hlt2 j hj).1)
            have hc2 : w2.cell? ⟨w.heap.size + 1, 2, none⟩ = some (.slice aa q.length acap) := cell_of_row _ _ _ _ _ _ M2.box
            have hf2 : w2.frozen? ⟨w.heap.size + 1, 2, none⟩ = false := Joins.unfrozen_of_block M2.box 2
            have HV3 := Lib.hid (V2.store (b := w.heap.size + 1) (i := 2) (by omega) (.slice (some ⟨g', 0, none⟩) (q.length + 1) cap'))
            have HM3 := Lib.hid (M2.store (.slice (some ⟨g', 0, none⟩) (q.length + 1) cap'))
            clear hown' hgrow hat hlt' hlt2 V2 M2
            go_wp2_with fail
            go_roundw
            case rel => exact ⟨k + 1, q ++ [⟨statV1 order (ofP R) k, .slice b3 m3 k3, .slice b4 m4 k4, .slice b5 m5 k5, .slice b6 m6 k6, .slice b7 m7 k7⟩], _, by omega, by omega, by go_num, HM3.out, HV3.out, by rw [List.map_append, HQ.out, statV_succ, HRR.out]; rfl⟩
            case measure => simp [intOf]; omega
        · clear hm hv hq hql
          go_wp2_with fail
          go_meet
          exact ⟨v', q, HM0.out, HV0.out, by rw [show min Rs.length 3 = k by omega]; exact HQ.out⟩
      · clear hm hv hq hql
        go_wp2_with fail
        go_meet
        exact ⟨v', q, HM0.out, HV0.out, by rw [show min Rs.length 3 = k by omega]; exact HQ.out⟩
  obtain ⟨v', q, hm, hv, hq⟩ := hcut
  have HM0 := Lib.hid hm
  have HV0 := Lib.hid hv
  have hql : q.length = min Rs.length 3 := by have := congrArg List.length hq; simpa [statV] using this
  have HQ := Lib.hid hq
  obtain ⟨aa, acap, hvf⟩ := hv.form
  subst hvf
  have hbx : wc.cell? ⟨w.heap.size + 1, 2, none⟩ = some (.slice aa q.length acap) := cell_of_row _ _ _ _ _ _ hm.box
  have hwl := hm.lt
  clear hm hv hq
  rcases Nat.eq_zero_or_pos Rs.length with h0 | h0
  · have hq0 : q = [] := List.eq_nil_of_length_eq_zero (by omega)
    subst hq0
    have HSL : Hid (statL Rs order = [ofP zeroR]) := Lib.hid (by unfold statL; rw [if_pos h0])
    have HRZ := Lib.hid (zero_raw wc)
    clear h0 hql HST
    go_wp2_with fail
    go_at_call 9
    refine (hOf.out zeroR _ wc HRZ.out).mono ?_
    rintro e w1 ⟨v3, v4, v5, v6, v7, rfl, hg, hver⟩
    have hT := hver.readsT (ofP_lens zeroR)
    obtain ⟨⟨b3, m3, k3, rfl⟩, ⟨b4, m4, k4, rfl⟩, ⟨b5, m5, k5, rfl⟩, ⟨b6, m6, k6, rfl⟩, ⟨b7, m7, k7, rfl⟩⟩ := hT.toR.form2
    have HM1 := Lib.hid (HM0.out.grows hg)
    have hs1 := hg.below.size
    have hc2 : w1.cell? ⟨w.heap.size + 1, 2, none⟩ = some (.slice aa 0 acap) := cell_of_row _ _ _ _ _ _ HM1.out.box
    have hf2 : w1.frozen? ⟨w.heap.size + 1, 2, none⟩ = false := Joins.unfrozen_of_block HM1.out.box 2
    have hwl1 := HM1.out.lt
    obtain ⟨fr, hfr⟩ : ∃ fr, (ofP zeroR).frm = fr := ⟨_, rfl⟩
    obtain ⟨mo, hmo⟩ : ∃ mo, (ofP zeroR).mode = mo := ⟨_, rfl⟩
    obtain ⟨un, hun⟩ : ∃ un, (ofP zeroR).unit = un := ⟨_, rfl⟩
    rw [hfr, hmo, hun]
    have hce : veC ⟨ofP zeroR, .slice b3 m3 k3, .slice b4 m4 k4, .slice b5 m5 k5, .slice b6 m6 k6, .slice b7 m7 k7⟩ = [.int .i64 fr, .int .i64 mo, .int .i64 un, .slice b3 m3 k3, .slice b4 m4 k4, .slice b5 m5 k5, .slice b6 m6 k6, .slice b7 m7 k7] := by simp only [veC]; rw [hfr, hmo, hun]
    have HT := Lib.hid hT
    have HO : Hid (VRowG (w.heap.size + 2) (w1.alloc (.cells #[.int .i64 fr, .int .i64 mo, .int .i64 un, .slice b3 m3 k3, .slice b4 m4 k4, .slice b5 m5 k5, .slice b6 m6 k6, .slice b7 m7 k7] 34)) (.slice (some ⟨w1.heap.size, 0, none⟩) 1 1) [⟨ofP zeroR, .slice b3 m3 k3, .slice b4 m4 k4, .slice b5 m5 k5, .slice b6 m6 k6, .slice b7 m7 k7⟩]) := Lib.hid (by
      refine ⟨⟨?_, fun x hx => by obtain rfl : x = _ := (by simpa using hx); rfl, fun x hx => by cases hx⟩, fun t ht => ?_⟩
      · refine ⟨by simp [veC], .inr ⟨w1.heap.size, 1, #[.int .i64 fr, .int .i64 mo, .int .i64 un, .slice b3 m3 k3, .slice b4 m4 k4, .slice b5 m5 k5, .slice b6 m6 k6, .slice b7 m7 k7], rfl, by omega, heap_alloc_new _ _, by simp, by unfold maxLen; decide, rfl, ?_⟩⟩
        simp only [List.map_cons, List.map_nil, hce]; rfl
      · obtain rfl : t = _ := by simpa using ht
        refine ((hT.mono' (S' := fun b => wc.heap.size ≤ b ∧ b < w1.heap.size) fun b h1 h2 => ⟨h1, h2⟩).same (by simp) fun b o h1 _ => World.cell?_alloc_lt _ _ ⟨b, o, none⟩ h1.2).mono fun b h1 => ⟨by omega, by simp [Value.ownBlock]; omega⟩)
    clear hg hver hT hce hfr hmo hun
    go_upto_region 12 with fail
    have HV2 := Lib.hid (HO.out.store (b := w.heap.size + 1) (i := 2) (by omega) (.slice (some ⟨w1.heap.size, 0, none⟩) 1 1))
    have HM2 := Lib.hid ((HM1.out.alloc (.cells #[.int .i64 fr, .int .i64 mo, .int .i64 un, .slice b3 m3 k3, .slice b4 m4 k4, .slice b5 m5 k5, .slice b6 m6 k6, .slice b7 m7 k7] 34)).store (.slice (some ⟨w1.heap.size, 0, none⟩) 1 1))
    have he : (w1.alloc (.cells #[.int .i64 fr, .int .i64 mo, .int .i64 un, .slice b3 m3 k3, .slice b4 m4 k4, .slice b5 m5 k5, .slice b6 m6 k6, .slice b7 m7 k7] 34)).setCell ⟨w.heap.size + 1, 2, none⟩ (.slice (some ⟨w1.heap.size, 0, none⟩) 1 1) = (w1.setCell ⟨w.heap.size + 1, 2, none⟩ (.slice (some ⟨w1.heap.size, 0, none⟩) 1 1)).alloc (.cells #[.int .i64 fr, .int .i64 mo, .int .i64 un, .slice b3 m3 k3, .slice b4 m4 k4, .slice b5 m5 k5, .slice b6 m6 k6, .slice b7 m7 k7] 34) := by simp [go_sem, hwl1]
    rw [he] at HV2 HM2
    clear he HO HT HM1 hc2 hf2
    generalize (w1.setCell ⟨w.heap.size + 1, 2, none⟩ (.slice (some ⟨w1.heap.size, 0, none⟩) 1 1)).alloc (.cells #[.int .i64 fr, .int .i64 mo, .int .i64 un, .slice b3 m3 k3, .slice b4 m4 k4, .slice b5 m5 k5, .slice b6 m6 k6, .slice b7 m7 k7] 34) = W at HV2 HM2 ⊢
    have y0 : W.cell? ⟨w.heap.size + 1, 0, none⟩ = some (.string lawN) := cell_of_row _ _ _ _ _ _ HM2.out.box
    have y1 : W.cell? ⟨w.heap.size + 1, 1, none⟩ = some (.int .i64 (1 + pick order 3)) := cell_of_row _ _ _ _ _ _ HM2.out.box
    have y2 : W.cell? ⟨w.heap.size + 1, 2, none⟩ = some (.slice (some ⟨w1.heap.size, 0, none⟩) 1 1) := cell_of_row _ _ _ _ _ _ HM2.out.box
    have z0 : W.cell? ⟨w.heap.size, 0, none⟩ = some (.string ⟨#[]⟩) := cell_of_row _ _ _ _ _ _ HM2.out.res
    have z1 : W.cell? ⟨w.heap.size, 1, none⟩ = some (.int .i64 0) := cell_of_row _ _ _ _ _ _ HM2.out.res
    have z2 : W.cell? ⟨w.heap.size, 2, none⟩ = some (.slice none 0 0) := cell_of_row _ _ _ _ _ _ HM2.out.res
    have zf : ∀ i, W.frozen? ⟨w.heap.size, i, none⟩ = false := fun i => Joins.unfrozen_of_block HM2.out.res i
    go_wp2_with fail
    have hs : Next w.heap.size W (W.setCells w.heap.size 0 [.string lawN, .int .i64 (1 + pick order 3), .slice (some ⟨w1.heap.size, 0, none⟩) 1 1]) := next_setCells _ _ _ (.refl _ _)
    have hbl : Below w.heap.size w (W.setCells w.heap.size 0 [.string lawN, .int .i64 (1 + pick order 3), .slice (some ⟨w1.heap.size, 0, none⟩) 1 1]) := below_setCells (Nat.le_refl _) _ _ _ HM2.out.bel
    have hzb := block_setCells [.string lawN, .int .i64 (1 + pick order 3), .slice (some ⟨w1.heap.size, 0, none⟩) 1 1] 0 W _ HM2.out.res
    refine bodyPost_ret (results_cell_row Try.results18 _ _ w.heap.size 53 #[.string lawN, .int .i64 (1 + pick order 3), .slice (some ⟨w1.heap.size, 0, none⟩) 1 1] (0, 0) _ rfl hzb Try.underlying53 rfl info53) rfl ?_
    exact ⟨_, _, rfl, .of_below hbl, (HV2.out.keep hs.size fun k hk hlt => hs.blk k hlt (by omega)).versions (by rw [HSL.out]; rfl) (by simp) (fun V hV => by rw [HSL.out] at hV; obtain rfl : V = ofP zeroR := (by simpa using hV); have := statV1_small 0 zeroR 0 (by omega); simpa [statV1] using this)⟩
  · have hqp : 0 < q.length := by omega
    have HSL : Hid (statL Rs order = statV Rs order (min Rs.length 3)) := Lib.hid (by unfold statL; rw [if_neg (by omega)])
    have HQL := Lib.hid (show q.length ≤ 1000 by omega)
    clear h0 hql HST
    have hz : ((q.length : Int) == 0) = false := by simp; intro h; subst h; simp at hqp
    go_upto_region 12 with fail
    have HV2 := HV0
    have HM2 := HM0
    obtain ⟨W, hW⟩ : ∃ W, wc = W := ⟨_, rfl⟩
    rw [hW] at HV2 HM2 ⊢
    clear hW hbx
    have y0 : W.cell? ⟨w.heap.size + 1, 0, none⟩ = some (.string lawN) := cell_of_row _ _ _ _ _ _ HM2.out.box
    have y1 : W.cell? ⟨w.heap.size + 1, 1, none⟩ = some (.int .i64 (1 + pick order 3)) := cell_of_row _ _ _ _ _ _ HM2.out.box
    have y2 : W.cell? ⟨w.heap.size + 1, 2, none⟩ = some (.slice aa q.length acap) := cell_of_row _ _ _ _ _ _ HM2.out.box
    have z0 : W.cell? ⟨w.heap.size, 0, none⟩ = some (.string ⟨#[]⟩) := cell_of_row _ _ _ _ _ _ HM2.out.res
    have z1 : W.cell? ⟨w.heap.size, 1, none⟩ = some (.int .i64 0) := cell_of_row _ _ _ _ _ _ HM2.out.res
    have z2 : W.cell? ⟨w.heap.size, 2, none⟩ = some (.slice none 0 0) := cell_of_row _ _ _ _ _ _ HM2.out.res
    have zf : ∀ i, W.frozen? ⟨w.heap.size, i, none⟩ = false := fun i => Joins.unfrozen_of_block HM2.out.res i
    go_wp2_with fail
    have hs : Next w.heap.size W (W.setCells w.heap.size 0 [.string lawN, .int .i64 (1 + pick order 3), .slice aa q.length acap]) := next_setCells _ _ _ (.refl _ _)
    have hbl : Below w.heap.size w (W.setCells w.heap.size 0 [.string lawN, .int .i64 (1 + pick order 3), .slice aa q.length acap]) := below_setCells (Nat.le_refl _) _ _ _ HM2.out.bel
    have hzb := block_setCells [.string lawN, .int .i64 (1 + pick order 3), .slice aa q.length acap] 0 W _ HM2.out.res
    refine bodyPost_ret (results_cell_row Try.results18 _ _ w.heap.size 53 #[.string lawN, .int .i64 (1 + pick order 3), .slice aa q.length acap] (0, 0) _ rfl hzb Try.underlying53 rfl info53) rfl ?_
    exact ⟨_, _, rfl, .of_below hbl, (HV2.out.keep hs.size fun k hk hlt => hs.blk k hlt (by omega)).versions (by rw [HSL.out]; exact HQ.out) (HQL.out) (fun V hV => by rw [HSL.out] at hV; obtain ⟨i, hi, rfl⟩ := List.mem_map.1 hV; exact statV1_small order _ i (by have := List.mem_range.1 hi; omega))⟩
end Go.Proofs.Ytldelkkeimlfcaa
