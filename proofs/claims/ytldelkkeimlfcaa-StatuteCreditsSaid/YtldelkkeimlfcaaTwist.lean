/- Versions as they are made, with their twist. -/
import Derived.Test.YtldelkkeimlfcaaOfDef
import Derived.Laws.OwnMore
import Derived.Deep.MidRow
set_option linter.all false
namespace Go.Proofs.Ytldelkkeimlfcaa
open Go.RowKit

/-- A version as data. -/
structure VerP where
  frm : Int
  mode : Int
  unit : Int
  cr : List (Int × Int)
  se : List (Int × Int × Int)
  le : List (ByteArray × Ex)
  gr : List (Int × Ex × Ex)
  re : List (Int × Ex)
def crL (l : List (Int × Int)) : List (List Value) := l.map fun t => [.int .i64 t.1, .int .i64 t.2]
def seL (l : List (Int × Int × Int)) : List (List Value) := l.map fun t => [.int .i64 t.1, .int .i64 t.2.1, .int .i64 t.2.2]
def madeP (R : RawV) : VerP :=
  ⟨pick R.frm 73049, pick R.mode 4 + 1, unitOf (pick R.unit 5), (List.range (nCred R)).map fun i => (credK R i, credL R i), (List.range (nSer R)).map fun i => (serY R i, serN R i, serD R i),
    (List.range (nLet R)).map fun i => (letN i, letE R i), (List.range (nPay R)).map fun (i : Nat) => ((i : Int) + 1, ifE R i, payE R i), (List.range (nCut R)).map fun (i : Nat) => ((i : Int) + 1, cutE R i)⟩
def laterE : Ex := .mk 2 0 0 0 ⟨#[108, 97, 116, 101, 114]⟩ []
def ageN : ByteArray := ⟨#[97, 103, 101]⟩
/-- What the twist n does. -/
def twistP (n : Int) (V : VerP) : VerP :=
  if n = 0 then { V with gr := match V.gr with | t :: r => (t.1, t.2.1, t.2.1) :: r | [] => [] }
  else if n = 1 then { V with gr := match V.gr with | t :: u :: r => t :: (t.1, u.2) :: r | l => l }
  else if n = 2 then { V with le := match V.le with | t :: u :: r => t :: (t.1, u.2) :: r | l => l }
  else if n = 3 then { V with le := match V.le with | t :: r => (t.1, laterE) :: r | [] => [] }
  else if n = 4 then { V with se := match V.se with | t :: u :: r => t :: (t.1, u.2) :: r | l => l }
  else if n = 5 then { V with cr := match V.cr with | t :: u :: r => t :: (t.1, u.2) :: r | l => l }
  else { V with le := match V.le with | t :: r => (ageN, t.2) :: r | [] => [] }
def ofP (R : RawV) : VerP := if R.twist = 0 then madeP R else if R.twist.tmod 8 = 0 then twistP (pick (R.twist.tdiv 8) 7) (madeP R) else madeP R

/-- A version's five slices in memory, all of it in blocks from B on. -/
structure VerQ (B : Nat) (w : World) (cr : List (Int × Int)) (se : List (Int × Int × Int)) (ql : List (ByteArray × (Ex × Value))) (qg : List GrT) (qr : List (Int × (Ex × Value))) (v3 v4 v5 v6 v7 : Value) (H1 H2 H3 H4 H5 : Nat) : Prop where
  ord : B ≤ H1 ∧ H1 ≤ H2 ∧ H2 ≤ H3 ∧ H3 ≤ H4 ∧ H4 ≤ H5
  r1 : RowX 63 2 H1 (· < H2) w v3 (crL cr) []
  r2 : RowX 67 3 H2 (· < H3) w v4 (seL se) []
  r3 : RowX 75 7 H3 (· < H4) w v5 (letL ql) (ql.map (·.2))
  r4 : RowX 79 13 H4 (· < H5) w v6 (grL qg) (grR qg)
  r5 : RowG 81 7 H5 w v7 (reL qr) (qr.map (·.2))
def VerAt (B : Nat) (w : World) (V : VerP) (v3 v4 v5 v6 v7 : Value) : Prop :=
  ∃ ql qg qr H1 H2 H3 H4 H5, ql.map (fun t => (t.1, t.2.1)) = V.le ∧ qg.map (fun t => (t.1, t.2.1.1, t.2.2.1)) = V.gr ∧ qr.map (fun t => (t.1, t.2.1)) = V.re ∧ VerQ B w V.cr V.se ql qg qr v3 v4 v5 v6 v7 H1 H2 H3 H4 H5
def OfPost (R : RawV) (w : World) (e : Ending) (w' : World) : Prop :=
  ∃ v3 v4 v5 v6 v7, e = .returned (.agg #[.int .i64 (ofP R).frm, .int .i64 (ofP R).mode, .int .i64 (ofP R).unit, v3, v4, v5, v6, v7]) ∧ w.Grows w' ∧ VerAt w.heap.size w' (ofP R) v3 v4 v5 v6 v7

theorem crL_made (R : RawV) : crL (madeP R).cr = credCells R (nCred R) := by simp [crL, madeP, credCells]
theorem seL_made (R : RawV) : seL (madeP R).se = serCells R (nSer R) := by simp [seL, madeP, serCells]
theorem twistP_frm (n : Int) (V : VerP) : (twistP n V).frm = V.frm ∧ (twistP n V).mode = V.mode ∧ (twistP n V).unit = V.unit := by
  unfold twistP
  repeat' split
  all_goals exact ⟨rfl, rfl, rfl⟩
theorem made_lens (R : RawV) : (madeP R).cr.length ≤ 1000 ∧ (madeP R).se.length ≤ 1000 ∧ (madeP R).le.length ≤ 1000 ∧ (madeP R).gr.length ≤ 1000 := by
  simp only [madeP, List.length_map, List.length_range]
  unfold nCred nSer nLet nPay
  omega
theorem ofP_0 {R : RawV} (h : R.twist = 0) : ofP R = madeP R := by unfold ofP; rw [if_pos h]
theorem ofP_1 {R : RawV} (h : ¬ R.twist = 0) (h2 : ¬ R.twist.tmod 8 = 0) : ofP R = madeP R := by unfold ofP; rw [if_neg h, if_neg h2]
theorem ofP_2 {R : RawV} (h : ¬ R.twist = 0) (h2 : R.twist.tmod 8 = 0) : ofP R = twistP (pick (R.twist.tdiv 8) 7) (madeP R) := by unfold ofP; rw [if_neg h, if_pos h2]
theorem range_of_block {w : World} {b : Nat} {cs : List Value} {t : TypeId} (hb : w.heap[b]? = some (.cells cs.toArray t (0, 0))) : w.rangeAt b 0 cs := fun j v hv => by
  rw [Nat.zero_add, cell_of_row _ _ _ _ _ _ hb]; simpa using hv
theorem there_of_block {w : World} {b : Nat} {cs : Array Value} {t : TypeId} (hb : w.heap[b]? = some (.cells cs t (0, 0))) (n : Nat) (hn : cs.size = n) : w.there b 0 n := fun j hj => by
  rw [Nat.zero_add, cell_of_row _ _ _ _ _ _ hb, Array.getElem?_eq_getElem (by omega)]
  exact ⟨rfl, Joins.unfrozen_of_block hb j⟩
def setAll (cs : Array Value) (o : Nat) : List Value → Array Value
  | [] => cs
  | v :: vs => setAll (cs.setIfInBounds o v) (o + 1) vs
theorem block_setCells {b : Nat} {t : TypeId} : ∀ (vs : List Value) (o : Nat) (w : World) (cs : Array Value), w.heap[b]? = some (.cells cs t (0, 0)) → (w.setCells b o vs).heap[b]? = some (.cells (setAll cs o vs) t (0, 0))
  | [], _, _, _, h => h
  | v :: vs, o, _, _, h => block_setCells vs (o + 1) _ _ (Joins.block_setCell h v)
theorem below_setCells {b B : Nat} {w0 : World} (hb : B ≤ b) : ∀ (vs : List Value) (o : Nat) (w : World), Below B w0 w → Below B w0 (w.setCells b o vs)
  | [], _, _, h => h
  | v :: vs, o, _, h => below_setCells hb vs (o + 1) _ (h.setCell hb v)
theorem next_setCells {b : Nat} {w0 : World} : ∀ (vs : List Value) (o : Nat) (w : World), Next b w0 w → Next b w0 (w.setCells b o vs)
  | [], _, _, h => h
  | v :: vs, o, _, h => next_setCells vs (o + 1) _ (h.store o v)
theorem info34 : (Try.prog.info? 34).map (·.size) = some 8 := by kernel_rfl
theorem tdiv8_in {z : Int} (h : I64 z) : IntKind.i64.wrap (z.tdiv 8) = z.tdiv 8 := IntWalk.i64_in _ (by
  obtain ⟨a, b⟩ := h
  rcases Int.le_total 0 z with hz | hz
  · rw [Int.tdiv_eq_ediv_of_nonneg hz]; omega
  · have e : z.tdiv 8 = -((-z).tdiv 8) := by rw [Int.neg_tdiv, Int.neg_neg]
    rw [e, Int.tdiv_eq_ediv_of_nonneg (by omega)]; omega)
theorem flatten_set (l : List (List Value)) (c i j : Nat) (u : Value) (h : ∀ x ∈ l, x.length = c) (hj : j < c) (hi : i < l.length) : l.flatten.set (i * c + j) u = (l.set i ((l.getD i []).set j u)).flatten := by
  induction l generalizing i with
  | nil => simp at hi
  | cons x r ih =>
    have hx := h x (List.mem_cons_self)
    cases i with
    | zero =>
      simp only [List.flatten_cons, List.set_cons_zero, List.getD_cons_zero, Nat.zero_mul, Nat.zero_add]
      rw [List.set_append_left _ _ (by omega)]
    | succ i =>
      simp only [List.flatten_cons, List.set_cons_succ, List.getD_cons_succ]
      rw [List.set_append_right _ _ (by rw [hx, Nat.add_mul]; omega), ← ih i (fun y hy => h y (List.mem_cons_of_mem _ hy)) (by simpa using hi)]
      congr 2; rw [hx, Nat.add_mul]; omega
section
variable {T : TypeId} {c base g n cap : Nat} {X : Nat → Prop} {w : World} {l : List (List Value)} {rs rs' : List (Ex × Value)}
theorem RowX.stored (h : RowX T c base X w (.slice (some ⟨g, 0, none⟩) n cap) l rs) (hn : n = l.length) (i j k : Nat) (hk : k = i * c + j) (hj : j < c) (hi : i < l.length) (u : Value) (hr : ∀ x ∈ rs', x ∈ rs ∨ RepE (fun b => (base ≤ b ∧ X b) ∧ g ≠ b) w x.1 x.2) :
    RowX T c base X (w.setCell ⟨g, k, none⟩ u) (.slice (some ⟨g, 0, none⟩) n cap) (l.set i ((l.getD i []).set j u)) rs' := by
  subst hn hk
  refine ⟨?_, fun x hx => ?_, h.ownX, fun x hx => ?_⟩
  · have := (h.own.stored (i * c + j) u).1
    rw [flatten_set l c i j u h.len hj hi] at this
    rw [List.length_set]; exact this
  · rcases List.mem_or_eq_of_mem_set hx with hx | rfl
    · exact h.len x hx
    · rw [List.length_set, List.getD_eq_getElem?_getD, List.getElem?_eq_getElem hi]; exact h.len _ (List.getElem_mem hi)
  · have hrep : RepE (fun b => (base ≤ b ∧ X b) ∧ g ≠ b) w x.1 x.2 := by
      rcases hr x hx with h2 | h2
      · exact (h.rep x h2).mono fun b hb => ⟨hb.1, fun e => hb.2 (by rw [e]; rfl)⟩
      · exact h2
    refine (hrep.keep (by simp) fun b o hb hlt => World.cell?_of_block (Below.heap_setCell _ _ _ _ (Ne.symm hb.2))).mono fun b hb => ⟨hb.1, fun e => hb.2 (by simpa [Value.ownBlock] using e)⟩
theorem RowX.apart (h : RowX T c base X w (.slice (some ⟨g, 0, none⟩) n cap) l rs) : base ≤ g ∧ X g ∧ g < w.heap.size := ⟨(h.own.lt g rfl).1, h.ownX g rfl, (h.own.lt g rfl).2⟩
theorem RowX.kept {b o : Nat} {v : Value} (h : RowX T c base X w v l rs) (hb : ¬ (base ≤ b ∧ X b)) (u : Value) : RowX T c base X (w.setCell ⟨b, o, none⟩ u) v l rs :=
  h.keep (by simp) fun k hk hX _ => Below.heap_setCell _ _ _ _ (fun e => hb ⟨(show k = b from e) ▸ hk, (show k = b from e) ▸ hX⟩)
theorem RowG.kept {b o : Nat} {v : Value} (h : RowG T c base w v l rs) (hb : b < base) (u : Value) : RowG T c base (w.setCell ⟨b, o, none⟩ u) v l rs := h.setCell hb u
/-- A row of at least one element lies in a block of its own. -/
theorem RowX.block {v : Value} (h : RowX T c base X w v l rs) (h0 : 0 < l.length) : ∃ g cap, v = .slice (some ⟨g, 0, none⟩) l.length cap := by
  rcases h.own.2 with ⟨_, h1⟩ | ⟨g, cap, cur, rfl, _⟩
  · omega
  · exact ⟨g, cap, rfl⟩
theorem RowX.cellAt (h : RowX T c base X w (.slice (some ⟨g, 0, none⟩) n cap) l rs) (hn : n = l.length) (i j : Nat) (hj : j < c) (hi : i < l.length) : w.cell? ⟨g, i * c + j, none⟩ = (l.getD i [])[j]? := by
  subst hn
  rw [h.own.cellAt (i * c + j) (by have := Nat.mul_le_mul_right c (show i + 1 ≤ l.length from hi); rw [Nat.add_mul] at this; omega), flatten_get l c h.len i j hj hi]
end
end Go.Proofs.Ytldelkkeimlfcaa
