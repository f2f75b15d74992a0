/- Versions as they are made, with their twist. -/
import Derived.Test.YtldelkkeimlfcaaQVer
import Derived.Laws.OwnMore
import Derived.Deep.MidRow
import Derived.Test.YtldelkkeimlfcaaQTwistR
import Derived.Test.YtldelkkeimlfcaaQCloneS
import Derived.Test.YtldelkkeimlfcaaQTake
import Derived.Test.YtldelkkeimlfcaaQSame
set_option linter.all false
namespace Go.Proofs.Ytldelkkeimlfcaa
open Go.RowKit

/-- A version as data. -/
structure VerP where
  frm : Int
  mode : Int
  unit : Int
  cr : List (Int × Int)
  se : List (Int × Int × Int)
  le : List (ByteArray × Ex)
  gr : List (Int × Ex × Ex)
  re : List (Int × Ex)
def crL (l : List (Int × Int)) : List (List Value) := l.map fun t => [.int .i64 t.1, .int .i64 t.2]
def seL (l : List (Int × Int × Int)) : List (List Value) := l.map fun t => [.int .i64 t.1, .int .i64 t.2.1, .int .i64 t.2.2]
def madeP (R : RawV) : VerP :=
  ⟨pick R.frm 73049, pick R.mode 4 + 1, unitOf (pick R.unit 5), (List.range (nCred R)).map fun i => (credK R i, credL R i), (List.range (nSer R)).map fun i => (serY R i, serN R i, serD R i),
    (List.range (nLet R)).map fun i => (letN i, letE R i), (List.range (nPay R)).map fun (i : Nat) => ((i : Int) + 1, ifE R i, payE R i), (List.range (nCut R)).map fun (i : Nat) => ((i : Int) + 1, cutE R i)⟩
def laterE : Ex := .mk 2 0 0 0 ⟨#[108, 97, 116, 101, 114]⟩ []
def ageN : ByteArray := ⟨#[97, 103, 101]⟩
/-- What the twist n does. -/
def twistP (n : Int) (V : VerP) : VerP :=
  if n = 0 then { V with gr := match V.gr with | t :: r => (t.1, t.2.1, t.2.1) :: r | [] => [] }
  else if n = 1 then { V with gr := match V.gr with | t :: u :: r => t :: (t.1, u.2) :: r | l => l }
  else if n = 2 then { V with le := match V.le with | t :: u :: r => t :: (t.1, u.2) :: r | l => l }
  else if n = 3 then { V with le := match V.le with | t :: r => (t.1, laterE) :: r | [] => [] }
  else if n = 4 then { V with se := match V.se with | t :: u :: r => t :: (t.1, u.2) :: r | l => l }
  else if n = 5 then { V with cr := match V.cr with | t :: u :: r => t :: (t.1, u.2) :: r | l => l }
  else { V with le := match V.le with | t :: r => (ageN, t.2) :: r | [] => [] }
def ofP (R : RawV) : VerP := if R.twist = 0 then madeP R else if R.twist.tmod 8 = 0 then twistP (pick (R.twist.tdiv 8) 7) (madeP R) else madeP R

/-- A version's five slices in memory, all of it in blocks from B on. -/
structure VerQ (B : Nat) (w : World) (cr : List (Int × Int)) (se : List (Int × Int × Int)) (ql : List (ByteArray × (Ex × Value))) (qg : List GrT) (qr : List (Int × (Ex × Value))) (v3 v4 v5 v6 v7 : Value) (H1 H2 H3 H4 H5 : Nat) : Prop where
  ord : B ≤ H1 ∧ H1 ≤ H2 ∧ H2 ≤ H3 ∧ H3 ≤ H4 ∧ H4 ≤ H5
  r1 : RowX 63 2 H1 (· < H2) w v3 (crL cr) []
  r2 : RowX 67 3 H2 (· < H3) w v4 (seL se) []
  r3 : RowX 75 7 H3 (· < H4) w v5 (letL ql) (ql.map (·.2))
  r4 : RowX 79 13 H4 (· < H5) w v6 (grL qg) (grR qg)
  r5 : RowG 81 7 H5 w v7 (reL qr) (qr.map (·.2))
def VerAt (B : Nat) (w : World) (V : VerP) (v3 v4 v5 v6 v7 : Value) : Prop :=
  ∃ ql qg qr H1 H2 H3 H4 H5, ql.map (fun t => (t.1, t.2.1)) = V.le ∧ qg.map (fun t => (t.1, t.2.1.1, t.2.2.1)) = V.gr ∧ qr.map (fun t => (t.1, t.2.1)) = V.re ∧ VerQ B w V.cr V.se ql qg qr v3 v4 v5 v6 v7 H1 H2 H3 H4 H5
def OfPost (R : RawV) (w : World) (e : Ending) (w' : World) : Prop :=
  ∃ v3 v4 v5 v6 v7, e = .returned (.agg #[.int .i64 (ofP R).frm, .int .i64 (ofP R).mode, .int .i64 (ofP R).unit, v3, v4, v5, v6, v7]) ∧ w.Grows w' ∧ VerAt w.heap.size w' (ofP R) v3 v4 v5 v6 v7

theorem crL_made (R : RawV) : crL (madeP R).cr = credCells R (nCred R) := by simp [crL, madeP, credCells]
theorem seL_made (R : RawV) : seL (madeP R).se = serCells R (nSer R) := by simp [seL, madeP, serCells]
theorem twistP_frm (n : Int) (V : VerP) : (twistP n V).frm = V.frm ∧ (twistP n V).mode = V.mode ∧ (twistP n V).unit = V.unit := by
  unfold twistP
  repeat' split
  all_goals exact ⟨rfl, rfl, rfl⟩
theorem made_lens (R : RawV) : (madeP R).cr.length ≤ 1000 ∧ (madeP R).se.length ≤ 1000 ∧ (madeP R).le.length ≤ 1000 ∧ (madeP R).gr.length ≤ 1000 := by
  simp only [madeP, List.length_map, List.length_range]
  unfold nCred nSer nLet nPay
  omega
theorem ofP_0 {R : RawV} (h : R.twist = 0) : ofP R = madeP R := by unfold ofP; rw [if_pos h]
theorem ofP_1 {R : RawV} (h : ¬ R.twist = 0) (h2 : ¬ R.twist.tmod 8 = 0) : ofP R = madeP R := by unfold ofP; rw [if_neg h, if_neg h2]
theorem ofP_2 {R : RawV} (h : ¬ R.twist = 0) (h2 : R.twist.tmod 8 = 0) : ofP R = twistP (pick (R.twist.tdiv 8) 7) (madeP R) := by unfold ofP; rw [if_neg h, if_pos h2]
theorem range_of_block {w : World} {b : Nat} {cs : List Value} {t : TypeId} (hb : w.heap[b]? = some (.cells cs.toArray t (0, 0))) : w.rangeAt b 0 cs := fun j v hv => by
  rw [Nat.zero_add, cell_of_row _ _ _ _ _ _ hb]; simpa using hv
theorem there_of_block {w : World} {b : Nat} {cs : Array Value} {t : TypeId} (hb : w.heap[b]? = some (.cells cs t (0, 0))) (n : Nat) (hn : cs.size = n) : w.there b 0 n := fun j hj => by
  rw [Nat.zero_add, cell_of_row _ _ _ _ _ _ hb, Array.getElem?_eq_getElem (by omega)]
  exact ⟨rfl, Joins.unfrozen_of_block hb j⟩
def setAll (cs : Array Value) (o : Nat) : List Value → Array Value
  | [] => cs
  | v :: vs => setAll (cs.setIfInBounds o v) (o + 1) vs
theorem block_setCells {b : Nat} {t : TypeId} : ∀ (vs : List Value) (o : Nat) (w : World) (cs : Array Value), w.heap[b]? = some (.cells cs t (0, 0)) → (w.setCells b o vs).heap[b]? = some (.cells (setAll cs o vs) t (0, 0))
  | [], _, _, _, h => h
  | v :: vs, o, _, _, h => block_setCells vs (o + 1) _ _ (Joins.block_setCell h v)
theorem below_setCells {b B : Nat} {w0 : World} (hb : B ≤ b) : ∀ (vs : List Value) (o : Nat) (w : World), Below B w0 w → Below B w0 (w.setCells b o vs)
  | [], _, _, h => h
  | v :: vs, o, _, h => below_setCells hb vs (o + 1) _ (h.setCell hb v)
theorem next_setCells {b : Nat} {w0 : World} : ∀ (vs : List Value) (o : Nat) (w : World), Next b w0 w → Next b w0 (w.setCells b o vs)
  | [], _, _, h => h
  | v :: vs, o, _, h => next_setCells vs (o + 1) _ (h.store o v)
theorem info34 : (Try.prog.info? 34).map (·.size) = some 8 := by kernel_rfl
theorem tdiv8_in {z : Int} (h : I64 z) : IntKind.i64.wrap (z.tdiv 8) = z.tdiv 8 := IntWalk.i64_in _ (by
  obtain ⟨a, b⟩ := h
  rcases Int.le_total 0 z with hz | hz
  · rw [Int.tdiv_eq_ediv_of_nonneg hz]; omega
  · have e : z.tdiv 8 = -((-z).tdiv 8) := by rw [Int.neg_tdiv, Int.neg_neg]
    rw [e, Int.tdiv_eq_ediv_of_nonneg (by omega)]; omega)
theorem flatten_set (l : List (List Value)) (c i j : Nat) (u : Value) (h : ∀ x ∈ l, x.length = c) (hj : j < c) (hi : i < l.length) : l.flatten.set (i * c + j) u = (l.set i ((l.getD i []).set j u)).flatten := by
  induction l generalizing i with
  | nil => simp at hi
  | cons x r ih =>
    have hx := h x (List.mem_cons_self)
    cases i with
    | zero =>
      simp only [List.flatten_cons, List.set_cons_zero, List.getD_cons_zero, Nat.zero_mul, Nat.zero_add]
      rw [List.set_append_left _ _ (by omega)]
    | succ i =>
      simp only [List.flatten_cons, List.set_cons_succ, List.getD_cons_succ]
      rw [List.set_append_right _ _ (by rw [hx, Nat.add_mul]; omega), ← ih i (fun y hy => h y (List.mem_cons_of_mem _ hy)) (by simpa using hi)]
      congr 2; rw [hx, Nat.add_mul]; omega
section
variable {T : TypeId} {c base g n cap : Nat} {X : Nat → Prop} {w : World} {l : List (List Value)} {rs rs' : List (Ex × Value)}
theorem RowX.stored (h : RowX T c base X w (.slice (some ⟨g, 0, none⟩) n cap) l rs) (hn : n = l.length) (i j k : Nat) (hk : k = i * c + j) (hj : j < c) (hi : i < l.length) (u : Value) (hr : ∀ x ∈ rs', x ∈ rs ∨ RepE (fun b => (base ≤ b ∧ X b) ∧ g ≠ b) w x.1 x.2) :
    RowX T c base X (w.setCell ⟨g, k, none⟩ u) (.slice (some ⟨g, 0, none⟩) n cap) (l.set i ((l.getD i []).set j u)) rs' := by
  subst hn hk
  refine ⟨?_, fun x hx => ?_, h.ownX, fun x hx => ?_⟩
  · have := (h.own.stored (i * c + j) u).1
    rw [flatten_set l c i j u h.len hj hi] at this
    rw [List.length_set]; exact this
  · rcases List.mem_or_eq_of_mem_set hx with hx | rfl
    · exact h.len x hx
    · rw [List.length_set, List.getD_eq_getElem?_getD, List.getElem?_eq_getElem hi]; exact h.len _ (List.getElem_mem hi)
  · have hrep : RepE (fun b => (base ≤ b ∧ X b) ∧ g ≠ b) w x.1 x.2 := by
      rcases hr x hx with h2 | h2
      · exact (h.rep x h2).mono fun b hb => ⟨hb.1, fun e => hb.2 (by rw [e]; rfl)⟩
      · exact h2
    refine (hrep.keep (by simp) fun b o hb hlt => World.cell?_of_block (Below.heap_setCell _ _ _ _ (Ne.symm hb.2))).mono fun b hb => ⟨hb.1, fun e => hb.2 (by simpa [Value.ownBlock] using e)⟩
theorem RowX.apart (h : RowX T c base X w (.slice (some ⟨g, 0, none⟩) n cap) l rs) : base ≤ g ∧ X g ∧ g < w.heap.size := ⟨(h.own.lt g rfl).1, h.ownX g rfl, (h.own.lt g rfl).2⟩
theorem RowX.kept {b o : Nat} {v : Value} (h : RowX T c base X w v l rs) (hb : ¬ (base ≤ b ∧ X b)) (u : Value) : RowX T c base X (w.setCell ⟨b, o, none⟩ u) v l rs :=
  h.keep (by simp) fun k hk hX _ => Below.heap_setCell _ _ _ _ (fun e => hb ⟨(show k = b from e) ▸ hk, (show k = b from e) ▸ hX⟩)
theorem RowG.kept {b o : Nat} {v : Value} (h : RowG T c base w v l rs) (hb : b < base) (u : Value) : RowG T c base (w.setCell ⟨b, o, none⟩ u) v l rs := h.setCell hb u
/-- A row of at least one element lies in a block of its own. -/
theorem RowX.block {v : Value} (h : RowX T c base X w v l rs) (h0 : 0 < l.length) : ∃ g cap, v = .slice (some ⟨g, 0, none⟩) l.length cap := by
  rcases h.own.2 with ⟨_, h1⟩ | ⟨g, cap, cur, rfl, _⟩
  · omega
  · exact ⟨g, cap, rfl⟩
theorem RowX.cellAt (h : RowX T c base X w (.slice (some ⟨g, 0, none⟩) n cap) l rs) (hn : n = l.length) (i j : Nat) (hj : j < c) (hi : i < l.length) : w.cell? ⟨g, i * c + j, none⟩ = (l.getD i [])[j]? := by
  subst hn
  rw [h.own.cellAt (i * c + j) (by have := Nat.mul_le_mul_right c (show i + 1 ≤ l.length from hi); rw [Nat.add_mul] at this; omega), flatten_get l c h.len i j hj hi]
end
end Go.Proofs.Ytldelkkeimlfcaa
/- twist: what it does to a version in memory. -/
namespace Go.Proofs.Ytldelkkeimlfcaa
open Go.RowKit

def TwPost (B : Nat) (V : VerP) (w : World) (v3 v4 v5 v6 v7 : Value) (n : Int) (e : Ending) (w' : World) : Prop := e = .returned (.tuple #[]) ∧ Below B w w' ∧ VerAt B w' (twistP n V) v3 v4 v5 v6 v7
theorem VerAt.same {B : Nat} {w w' : World} {V : VerP} {v3 v4 v5 v6 v7 : Value} (h : VerAt B w V v3 v4 v5 v6 v7) (hb : w.heap.size ≤ w'.heap.size) (hw : ∀ k, B ≤ k → k < w.heap.size → w'.heap[k]? = w.heap[k]?) : VerAt B w' V v3 v4 v5 v6 v7 := by
  obtain ⟨ql, qg, qr, H1, H2, H3, H4, H5, e1, e2, e3, ord, r1, r2, r3, r4, r5⟩ := h
  exact ⟨ql, qg, qr, H1, H2, H3, H4, H5, e1, e2, e3, ord, r1.keep hb fun k h1 _ h2 => hw k (by omega) h2, r2.keep hb fun k h1 _ h2 => hw k (by omega) h2, r3.keep hb fun k h1 _ h2 => hw k (by omega) h2, r4.keep hb fun k h1 _ h2 => hw k (by omega) h2, r5.keep hb fun k h1 h2 => hw k (by omega) h2⟩
theorem VerAt.grow {B : Nat} {w : World} {V : VerP} {v3 v4 v5 v6 v7 : Value} (h : VerAt B w V v3 v4 v5 v6 v7) (bs : Array Obj) (d : Nat) : VerAt B (w.grow bs d) V v3 v4 v5 v6 v7 := h.same (by simp) fun k _ hk => World.heap_grow _ _ _ hk
theorem VerAt.alloc {B : Nat} {w : World} {V : VerP} {v3 v4 v5 v6 v7 : Value} (h : VerAt B w V v3 v4 v5 v6 v7) (o : Obj) : VerAt B (w.alloc o) V v3 v4 v5 v6 v7 := h.same (by simp) fun k _ hk => Below.heap_alloc w o k hk
theorem VerAt.drew {B : Nat} {w : World} {V : VerP} {v3 v4 v5 v6 v7 : Value} (h : VerAt B w V v3 v4 v5 v6 v7) : VerAt B w.drew V v3 v4 v5 v6 v7 := h.same (Nat.le_refl _) fun k _ _ => rfl
theorem VerAt.setCell {B : Nat} {w : World} {V : VerP} {v3 v4 v5 v6 v7 : Value} (h : VerAt B w V v3 v4 v5 v6 v7) {a : Addr} (ha : a.block < B) (u : Value) : VerAt B (w.setCell a u) V v3 v4 v5 v6 v7 := h.same (by simp) fun k hk _ => Below.heap_setCell _ _ _ _ (by omega)
theorem VerAt.le {B B' : Nat} {w : World} {V : VerP} {v3 v4 v5 v6 v7 : Value} (h : VerAt B w V v3 v4 v5 v6 v7) (hb : B' ≤ B) : VerAt B' w V v3 v4 v5 v6 v7 := by
  obtain ⟨ql, qg, qr, H1, H2, H3, H4, H5, e1, e2, e3, ord, r1, r2, r3, r4, r5⟩ := h
  exact ⟨ql, qg, qr, H1, H2, H3, H4, H5, e1, e2, e3, ⟨by omega, ord.2⟩, r1, r2, r3, r4, r5⟩
theorem RowX.drew' {T : TypeId} {c base : Nat} {X : Nat → Prop} {w : World} {v : Value} {l : List (List Value)} {rs : List (Ex × Value)} (h : RowX T c base X w v l rs) : RowX T c base X w.drew v l rs := h.drew
theorem RowX.apart' {T : TypeId} {c base g : Nat} {X : Nat → Prop} {w w' : World} {v : Value} {l : List (List Value)} {rs : List (Ex × Value)} (h : RowX T c base X w v l rs) (hn : Next g w w') (hg : ¬ (base ≤ g ∧ X g)) : RowX T c base X w' v l rs :=
  h.keep hn.size fun k h1 h2 h3 => hn.blk k h3 fun e => hg (by subst e; exact ⟨h1, h2⟩)
section
variable {B g : Nat} {w w' : World} {cr cr' : List (Int × Int)} {se se' : List (Int × Int × Int)} {ql ql' : List (ByteArray × (Ex × Value))} {qg qg' : List GrT} {qr : List (Int × (Ex × Value))} {v3 v4 v5 v6 v7 : Value} {H1 H2 H3 H4 H5 : Nat}
theorem VerQ.put1 (h : VerQ B w cr se ql qg qr v3 v4 v5 v6 v7 H1 H2 H3 H4 H5) (hg : H1 ≤ g ∧ g < H2) (hn : Next g w w') (r : RowX 63 2 H1 (· < H2) w' v3 (crL cr') []) : VerQ B w' cr' se ql qg qr v3 v4 v5 v6 v7 H1 H2 H3 H4 H5 := by
  have o := h.ord
  exact ⟨o, r, h.r2.apart' hn (fun e => by have := e.1; omega), h.r3.apart' hn (fun e => by have := e.1; omega), h.r4.apart' hn (fun e => by have := e.1; omega), h.r5.keep hn.size fun k h1 h2 => hn.blk k h2 (by omega)⟩
theorem VerQ.put2 (h : VerQ B w cr se ql qg qr v3 v4 v5 v6 v7 H1 H2 H3 H4 H5) (hg : H2 ≤ g ∧ g < H3) (hn : Next g w w') (r : RowX 67 3 H2 (· < H3) w' v4 (seL se') []) : VerQ B w' cr se' ql qg qr v3 v4 v5 v6 v7 H1 H2 H3 H4 H5 := by
  have o := h.ord
  exact ⟨o, h.r1.apart' hn (fun e => by have : g < H2 := e.2; omega), r, h.r3.apart' hn (fun e => by have := e.1; omega), h.r4.apart' hn (fun e => by have := e.1; omega), h.r5.keep hn.size fun k h1 h2 => hn.blk k h2 (by omega)⟩
theorem VerQ.put3 (h : VerQ B w cr se ql qg qr v3 v4 v5 v6 v7 H1 H2 H3 H4 H5) (hg : H3 ≤ g ∧ g < H4) (hn : Next g w w') (r : RowX 75 7 H3 (· < H4) w' v5 (letL ql') (ql'.map (·.2))) : VerQ B w' cr se ql' qg qr v3 v4 v5 v6 v7 H1 H2 H3 H4 H5 := by
  have o := h.ord
  exact ⟨o, h.r1.apart' hn (fun e => by have : g < H2 := e.2; omega), h.r2.apart' hn (fun e => by have : g < H3 := e.2; omega), r, h.r4.apart' hn (fun e => by have := e.1; omega), h.r5.keep hn.size fun k h1 h2 => hn.blk k h2 (by omega)⟩
theorem VerQ.put4 (h : VerQ B w cr se ql qg qr v3 v4 v5 v6 v7 H1 H2 H3 H4 H5) (hg : H4 ≤ g ∧ g < H5) (hn : Next g w w') (r : RowX 79 13 H4 (· < H5) w' v6 (grL qg') (grR qg')) : VerQ B w' cr se ql qg' qr v3 v4 v5 v6 v7 H1 H2 H3 H4 H5 := by
  have o := h.ord
  exact ⟨o, h.r1.apart' hn (fun e => by have : g < H2 := e.2; omega), h.r2.apart' hn (fun e => by have : g < H3 := e.2; omega), h.r3.apart' hn (fun e => by have : g < H4 := e.2; omega), r, h.r5.keep hn.size fun k h1 h2 => hn.blk k h2 (by omega)⟩
end
/-- Twists 1 and 2: the second element's first cell becomes the first's. -/
theorem twist_1
    (B g : Nat) (frm mode unit : Int) (V : VerP) (v3 v4 v5 v6 v7 : Value) (w : World) (hg : w.heap[g]? = some (.cells #[.int .i64 frm, .int .i64 mode, .int .i64 unit, v3, v4, v5, v6, v7] 34 (0, 0)))
    (hlen : V.cr.length ≤ 1000 ∧ V.se.length ≤ 1000 ∧ V.le.length ≤ 1000 ∧ V.gr.length ≤ 1000) (h : VerAt B w V v3 v4 v5 v6 v7)
    : Calls Try.prog 28 #[.pointer (some ⟨g, 0, none⟩), .int .i64 1] w (TwPost B V w v3 v4 v5 v6 v7 1) := by
  obtain ⟨ql, qg, qr, H1, H2, H3, H4, H5, e1, e2, e3, hQ⟩ := h
  have ho := hQ.ord
  have hc : w.cell? ⟨g, 6, none⟩ = some v6 := cell_of_row w g 6 _ _ _ hg
  match qg, e2, hQ with
  | [], e2, hQ =>
    obtain ⟨a, cap, hv⟩ := hQ.r4.form
    refine (tw1_no g _ cap a w (hc.trans (congrArg some hv)) (by simp [grL])).mono ?_
    rintro e w' ⟨rfl, rfl⟩
    exact ⟨rfl, .refl _ _, ql, [], qr, H1, H2, H3, H4, H5, e1, by simp [twistP, ← e2], e3, hQ⟩
  | [t], e2, hQ =>
    obtain ⟨a, cap, hv⟩ := hQ.r4.form
    refine (tw1_no g _ cap a w (hc.trans (congrArg some hv)) (by simp [grL])).mono ?_
    rintro e w' ⟨rfl, rfl⟩
    exact ⟨rfl, .refl _ _, ql, [t], qr, H1, H2, H3, H4, H5, e1, by simp [twistP, ← e2], e3, hQ⟩
  | t :: u :: r, e2, hQ =>
    have hl : (grL (t :: u :: r)).length = V.gr.length := by rw [← e2]; simp [grL]
    obtain ⟨gg, cap, rfl⟩ := hQ.r4.block (by simp [grL])
    obtain ⟨b1, b2, b3⟩ := hQ.r4.apart
    have c0 : w.cell? ⟨gg, 0, none⟩ = some (.int .i64 t.1) := hQ.r4.cellAt rfl 0 0 (by omega) (by simp [grL])
    have c1 : w.cell? ⟨gg, 13, none⟩ = some (.int .i64 u.1) := hQ.r4.cellAt rfl 1 0 (by omega) (by simp [grL])
    refine (tw1_yes g gg _ cap t.1 w hc (by simp [grL]) (by omega) c0 _ c1 (hQ.r4.own.frozenAt _)).mono ?_
    rintro e w' ⟨rfl, rfl⟩
    refine ⟨rfl, ((Below.refl _ _).setCell (by show B ≤ gg; omega) _).drew, ql, t :: (t.1, u.2) :: r, qr, H1, H2, H3, H4, H5, e1, by simp [twistP, ← e2], e3, ?_⟩
    exact hQ.put4 ⟨b1, b2⟩ (((Next.refl _ _).store _ _).drew) (hQ.r4.stored (rs' := grR (t :: (t.1, u.2) :: r)) rfl 1 0 13 rfl (by omega) (by simp [grL]) (.int .i64 t.1) (fun x hx => .inl hx)).drew
theorem twist_2
    (B g : Nat) (frm mode unit : Int) (V : VerP) (v3 v4 v5 v6 v7 : Value) (w : World) (hg : w.heap[g]? = some (.cells #[.int .i64 frm, .int .i64 mode, .int .i64 unit, v3, v4, v5, v6, v7] 34 (0, 0)))
    (hlen : V.cr.length ≤ 1000 ∧ V.se.length ≤ 1000 ∧ V.le.length ≤ 1000 ∧ V.gr.length ≤ 1000) (h : VerAt B w V v3 v4 v5 v6 v7)
    : Calls Try.prog 28 #[.pointer (some ⟨g, 0, none⟩), .int .i64 2] w (TwPost B V w v3 v4 v5 v6 v7 2) := by
  obtain ⟨ql, qg, qr, H1, H2, H3, H4, H5, e1, e2, e3, hQ⟩ := h
  have ho := hQ.ord
  have hc : w.cell? ⟨g, 5, none⟩ = some v5 := cell_of_row w g 5 _ _ _ hg
  match ql, e1, hQ with
  | [], e1, hQ =>
    obtain ⟨a, cap, hv⟩ := hQ.r3.form
    refine (tw2_no g _ cap a w (hc.trans (congrArg some hv)) (by simp [letL])).mono ?_
    rintro e w' ⟨rfl, rfl⟩
    exact ⟨rfl, .refl _ _, [], qg, qr, H1, H2, H3, H4, H5, by simp [twistP, ← e1], e2, e3, hQ⟩
  | [t], e1, hQ =>
    obtain ⟨a, cap, hv⟩ := hQ.r3.form
    refine (tw2_no g _ cap a w (hc.trans (congrArg some hv)) (by simp [letL])).mono ?_
    rintro e w' ⟨rfl, rfl⟩
    exact ⟨rfl, .refl _ _, [t], qg, qr, H1, H2, H3, H4, H5, by simp [twistP, ← e1], e2, e3, hQ⟩
  | t :: u :: r, e1, hQ =>
    have hl : (letL (t :: u :: r)).length = V.le.length := by rw [← e1]; simp [letL]
    obtain ⟨gg, cap, rfl⟩ := hQ.r3.block (by simp [letL])
    obtain ⟨b1, b2, b3⟩ := hQ.r3.apart
    have c0 : w.cell? ⟨gg, 0, none⟩ = some (.string t.1) := hQ.r3.cellAt rfl 0 0 (by omega) (by simp [letL])
    have c1 : w.cell? ⟨gg, 7, none⟩ = some (.string u.1) := hQ.r3.cellAt rfl 1 0 (by omega) (by simp [letL])
    refine (tw2_yes g gg _ cap t.1 w hc (by simp [letL]) (by omega) c0 _ c1 (hQ.r3.own.frozenAt _)).mono ?_
    rintro e w' ⟨rfl, rfl⟩
    refine ⟨rfl, ((Below.refl _ _).setCell (by show B ≤ gg; omega) _).drew, t :: (t.1, u.2) :: r, qg, qr, H1, H2, H3, H4, H5, by simp [twistP, ← e1], e2, e3, ?_⟩
    exact hQ.put3 ⟨b1, b2⟩ (((Next.refl _ _).store _ _).drew) (hQ.r3.stored (rs' := List.map (fun x : ByteArray × (Ex × Value) => x.2) (t :: (t.1, u.2) :: r)) rfl 1 0 7 rfl (by omega) (by simp [letL]) (.string t.1) (fun x hx => .inl hx)).drew
theorem twist_4
    (B g : Nat) (frm mode unit : Int) (V : VerP) (v3 v4 v5 v6 v7 : Value) (w : World) (hg : w.heap[g]? = some (.cells #[.int .i64 frm, .int .i64 mode, .int .i64 unit, v3, v4, v5, v6, v7] 34 (0, 0)))
    (hlen : V.cr.length ≤ 1000 ∧ V.se.length ≤ 1000 ∧ V.le.length ≤ 1000 ∧ V.gr.length ≤ 1000) (h : VerAt B w V v3 v4 v5 v6 v7)
    : Calls Try.prog 28 #[.pointer (some ⟨g, 0, none⟩), .int .i64 4] w (TwPost B V w v3 v4 v5 v6 v7 4) := by
  obtain ⟨ql, qg, qr, H1, H2, H3, H4, H5, e1, e2, e3, hQ⟩ := h
  have ho := hQ.ord
  have hc : w.cell? ⟨g, 4, none⟩ = some v4 := cell_of_row w g 4 _ _ _ hg
  generalize hse : V.se = se at hQ
  match se, hse, hQ with
  | [], hse, hQ =>
    obtain ⟨a, cap, hv⟩ := hQ.r2.form
    refine (tw4_no g _ cap a w (hc.trans (congrArg some hv)) (by simp [seL])).mono ?_
    rintro e w' ⟨rfl, rfl⟩
    exact ⟨rfl, .refl _ _, ql, qg, qr, H1, H2, H3, H4, H5, e1, e2, e3, by have hs : (twistP 4 V).se = [] := (by simp [twistP, hse]); rw [hs]; exact hQ⟩
  | [t], hse, hQ =>
    obtain ⟨a, cap, hv⟩ := hQ.r2.form
    refine (tw4_no g _ cap a w (hc.trans (congrArg some hv)) (by simp [seL])).mono ?_
    rintro e w' ⟨rfl, rfl⟩
    exact ⟨rfl, .refl _ _, ql, qg, qr, H1, H2, H3, H4, H5, e1, e2, e3, by have hs : (twistP 4 V).se = [t] := (by simp [twistP, hse]); rw [hs]; exact hQ⟩
  | t :: u :: r, hse, hQ =>
    have hl : (seL (t :: u :: r)).length = V.se.length := by rw [hse]; simp [seL]
    obtain ⟨gg, cap, rfl⟩ := hQ.r2.block (by simp [seL])
    obtain ⟨b1, b2, b3⟩ := hQ.r2.apart
    have c0 : w.cell? ⟨gg, 0, none⟩ = some (.int .i64 t.1) := hQ.r2.cellAt rfl 0 0 (by omega) (by simp [seL])
    have c1 : w.cell? ⟨gg, 3, none⟩ = some (.int .i64 u.1) := hQ.r2.cellAt rfl 1 0 (by omega) (by simp [seL])
    refine (tw4_yes g gg _ cap t.1 w hc (by simp [seL]) (by omega) c0 _ c1 (hQ.r2.own.frozenAt _)).mono ?_
    rintro e w' ⟨rfl, rfl⟩
    refine ⟨rfl, ((Below.refl _ _).setCell (by show B ≤ gg; omega) _).drew, ql, qg, qr, H1, H2, H3, H4, H5, e1, e2, e3, ?_⟩
    have hs : (twistP 4 V).se = t :: (t.1, u.2) :: r := by simp [twistP, hse]
    rw [hs]
    exact hQ.put2 ⟨b1, b2⟩ (((Next.refl _ _).store _ _).drew) (hQ.r2.stored (rs' := []) rfl 1 0 3 rfl (by omega) (by simp [seL]) (.int .i64 t.1) (fun x hx => .inl hx)).drew
theorem twist_5
    (B g : Nat) (frm mode unit : Int) (V : VerP) (v3 v4 v5 v6 v7 : Value) (w : World) (hg : w.heap[g]? = some (.cells #[.int .i64 frm, .int .i64 mode, .int .i64 unit, v3, v4, v5, v6, v7] 34 (0, 0)))
    (hlen : V.cr.length ≤ 1000 ∧ V.se.length ≤ 1000 ∧ V.le.length ≤ 1000 ∧ V.gr.length ≤ 1000) (h : VerAt B w V v3 v4 v5 v6 v7)
    : Calls Try.prog 28 #[.pointer (some ⟨g, 0, none⟩), .int .i64 5] w (TwPost B V w v3 v4 v5 v6 v7 5) := by
  obtain ⟨ql, qg, qr, H1, H2, H3, H4, H5, e1, e2, e3, hQ⟩ := h
  have ho := hQ.ord
  have hc : w.cell? ⟨g, 3, none⟩ = some v3 := cell_of_row w g 3 _ _ _ hg
  generalize hcr : V.cr = cr at hQ
  match cr, hcr, hQ with
  | [], hcr, hQ =>
    obtain ⟨a, cap, hv⟩ := hQ.r1.form
    refine (tw5_no g _ cap a w (hc.trans (congrArg some hv)) (by simp [crL])).mono ?_
    rintro e w' ⟨rfl, rfl⟩
    exact ⟨rfl, .refl _ _, ql, qg, qr, H1, H2, H3, H4, H5, e1, e2, e3, by have hs : (twistP 5 V).cr = [] := (by simp [twistP, hcr]); rw [hs]; exact hQ⟩
  | [t], hcr, hQ =>
    obtain ⟨a, cap, hv⟩ := hQ.r1.form
    refine (tw5_no g _ cap a w (hc.trans (congrArg some hv)) (by simp [crL])).mono ?_
    rintro e w' ⟨rfl, rfl⟩
    exact ⟨rfl, .refl _ _, ql, qg, qr, H1, H2, H3, H4, H5, e1, e2, e3, by have hs : (twistP 5 V).cr = [t] := (by simp [twistP, hcr]); rw [hs]; exact hQ⟩
  | t :: u :: r, hcr, hQ =>
    have hl : (crL (t :: u :: r)).length = V.cr.length := by rw [hcr]; simp [crL]
    obtain ⟨gg, cap, rfl⟩ := hQ.r1.block (by simp [crL])
    obtain ⟨b1, b2, b3⟩ := hQ.r1.apart
    have c0 : w.cell? ⟨gg, 0, none⟩ = some (.int .i64 t.1) := hQ.r1.cellAt rfl 0 0 (by omega) (by simp [crL])
    have c1 : w.cell? ⟨gg, 2, none⟩ = some (.int .i64 u.1) := hQ.r1.cellAt rfl 1 0 (by omega) (by simp [crL])
    refine (tw5_yes g gg _ cap t.1 w hc (by simp [crL]) (by omega) c0 _ c1 (hQ.r1.own.frozenAt _)).mono ?_
    rintro e w' ⟨rfl, rfl⟩
    refine ⟨rfl, ((Below.refl _ _).setCell (by show B ≤ gg; omega) _).drew, ql, qg, qr, H1, H2, H3, H4, H5, e1, e2, e3, ?_⟩
    have hs : (twistP 5 V).cr = t :: (t.1, u.2) :: r := by simp [twistP, hcr]
    rw [hs]
    exact hQ.put1 ⟨b1, b2⟩ (((Next.refl _ _).store _ _).drew) (hQ.r1.stored (rs' := []) rfl 1 0 2 rfl (by omega) (by simp [crL]) (.int .i64 t.1) (fun x hx => .inl hx)).drew
theorem twist_6
    (B g : Nat) (frm mode unit : Int) (V : VerP) (v3 v4 v5 v6 v7 : Value) (w : World) (hg : w.heap[g]? = some (.cells #[.int .i64 frm, .int .i64 mode, .int .i64 unit, v3, v4, v5, v6, v7] 34 (0, 0)))
    (hlen : V.cr.length ≤ 1000 ∧ V.se.length ≤ 1000 ∧ V.le.length ≤ 1000 ∧ V.gr.length ≤ 1000) (h : VerAt B w V v3 v4 v5 v6 v7)
    : Calls Try.prog 28 #[.pointer (some ⟨g, 0, none⟩), .int .i64 6] w (TwPost B V w v3 v4 v5 v6 v7 6) := by
  obtain ⟨ql, qg, qr, H1, H2, H3, H4, H5, e1, e2, e3, hQ⟩ := h
  have ho := hQ.ord
  have hc : w.cell? ⟨g, 5, none⟩ = some v5 := cell_of_row w g 5 _ _ _ hg
  match ql, e1, hQ with
  | [], e1, hQ =>
    obtain ⟨a, cap, hv⟩ := hQ.r3.form
    refine (tw6_no g _ cap a w (hc.trans (congrArg some hv)) (by simp [letL])).mono ?_
    rintro e w' ⟨rfl, rfl⟩
    exact ⟨rfl, .refl _ _, [], qg, qr, H1, H2, H3, H4, H5, by simp [twistP, ← e1], e2, e3, hQ⟩
  | t :: r, e1, hQ =>
    have hl : (letL (t :: r)).length = V.le.length := by rw [← e1]; simp [letL]
    obtain ⟨gg, cap, rfl⟩ := hQ.r3.block (by simp [letL])
    obtain ⟨b1, b2, b3⟩ := hQ.r3.apart
    have c0 : w.cell? ⟨gg, 0, none⟩ = some (.string t.1) := hQ.r3.cellAt rfl 0 0 (by omega) (by simp [letL])
    refine (tw6_yes g gg _ cap w hc (by simp [letL]) (by omega) _ c0 (hQ.r3.own.frozenAt _)).mono ?_
    rintro e w' ⟨rfl, rfl⟩
    refine ⟨rfl, (Below.refl _ _).setCell (by show B ≤ gg; omega) _, (ageN, t.2) :: r, qg, qr, H1, H2, H3, H4, H5, by simp [twistP, ← e1], e2, e3, ?_⟩
    exact hQ.put3 ⟨b1, b2⟩ ((Next.refl _ _).store _ _) (hQ.r3.stored (rs' := List.map (fun x : ByteArray × (Ex × Value) => x.2) ((ageN, t.2) :: r)) rfl 0 0 0 rfl (by omega) (by simp [letL]) (.string ageN) (fun x hx => .inl hx))
theorem laterRng : ExRng laterE := ⟨⟨by decide, by decide⟩, ⟨by decide, by decide⟩, ⟨by decide, by decide⟩, ⟨by decide, by decide⟩, by decide, by decide⟩
theorem twist_3
    (B g : Nat) (frm mode unit : Int) (V : VerP) (v3 v4 v5 v6 v7 : Value) (w : World) (hg : w.heap[g]? = some (.cells #[.int .i64 frm, .int .i64 mode, .int .i64 unit, v3, v4, v5, v6, v7] 34 (0, 0)))
    (hlen : V.cr.length ≤ 1000 ∧ V.se.length ≤ 1000 ∧ V.le.length ≤ 1000 ∧ V.gr.length ≤ 1000) (h : VerAt B w V v3 v4 v5 v6 v7)
    : Calls Try.prog 28 #[.pointer (some ⟨g, 0, none⟩), .int .i64 3] w (TwPost B V w v3 v4 v5 v6 v7 3) := by
  obtain ⟨ql, qg, qr, H1, H2, H3, H4, H5, e1, e2, e3, hQ⟩ := h
  have ho := hQ.ord
  have hc : w.cell? ⟨g, 5, none⟩ = some v5 := cell_of_row w g 5 _ _ _ hg
  match ql, e1, hQ with
  | [], e1, hQ =>
    obtain ⟨a, cap, hv⟩ := hQ.r3.form
    refine (tw3_no g _ cap a w (hc.trans (congrArg some hv)) (by simp [letL])).mono ?_
    rintro e w' ⟨rfl, rfl⟩
    exact ⟨rfl, .refl _ _, [], qg, qr, H1, H2, H3, H4, H5, by simp [twistP, ← e1], e2, e3, hQ⟩
  | t :: r, e1, hQ =>
    have hl : (letL (t :: r)).length = V.le.length := by rw [← e1]; simp [letL]
    obtain ⟨gg, cap, rfl⟩ := hQ.r3.block (by simp [letL])
    obtain ⟨b1, b2, b3⟩ := hQ.r3.apart
    have cc := fun j hj => hQ.r3.cellAt rfl 0 j hj (by simp [letL])
    refine (tw3_yes g gg _ cap w hc (by simp [letL]) (by omega) _ _ _ _ _ _ (cc 1 (by omega)) (cc 2 (by omega)) (cc 3 (by omega)) (cc 4 (by omega)) (cc 5 (by omega)) (cc 6 (by omega)) (fun i => hQ.r3.own.frozenAt i)).mono ?_
    rintro e w' ⟨rfl, rfl⟩
    have hb : B ≤ gg := by omega
    refine ⟨rfl, ((((((Below.refl _ _).setCell hb _).setCell hb _).setCell hb _).setCell hb _).setCell hb _).setCell hb _, (t.1, (laterE, .slice none 0 0)) :: r, qg, qr, H1, H2, H3, H4, H5, by simp [twistP, ← e1], e2, e3, ?_⟩
    have s1 := hQ.r3.stored rfl 0 1 1 rfl (by omega) (by simp [letL]) (.int .i64 2) (fun x hx => .inl hx)
    have s2 := s1.stored rfl 0 2 2 rfl (by omega) (by simp [letL]) (.int .i64 0) (fun x hx => .inl hx)
    have s3 := s2.stored rfl 0 3 3 rfl (by omega) (by simp [letL]) (.int .i64 0) (fun x hx => .inl hx)
    have s4 := s3.stored rfl 0 4 4 rfl (by omega) (by simp [letL]) (.int .i64 0) (fun x hx => .inl hx)
    have s5 := s4.stored rfl 0 5 5 rfl (by omega) (by simp [letL]) (.string ⟨#[108, 97, 116, 101, 114]⟩) (fun x hx => .inl hx)
    have s6 := s5.stored (rs' := List.map (fun x : ByteArray × (Ex × Value) => x.2) ((t.1, (laterE, .slice none 0 0)) :: r)) rfl 0 6 6 rfl (by omega) (by simp [letL]) (.slice none 0 0) (fun x hx => by
      rw [List.map_cons, List.mem_cons] at hx
      rcases hx with rfl | hx
      · exact .inr (.nil laterRng rfl)
      · exact .inl (by rw [List.map_cons]; exact List.mem_cons_of_mem _ hx))
    exact hQ.put3 ⟨b1, b2⟩ ((((((((Next.refl _ _).store _ _).store _ _).store _ _).store _ _).store _ _).store _ _)) s6
theorem twist_0
    (B g : Nat) (frm mode unit : Int) (V : VerP) (v3 v4 v5 v6 v7 : Value) (w : World) (hg : w.heap[g]? = some (.cells #[.int .i64 frm, .int .i64 mode, .int .i64 unit, v3, v4, v5, v6, v7] 34 (0, 0)))
    (hlen : V.cr.length ≤ 1000 ∧ V.se.length ≤ 1000 ∧ V.le.length ≤ 1000 ∧ V.gr.length ≤ 1000) (h : VerAt B w V v3 v4 v5 v6 v7)
    : Calls Try.prog 28 #[.pointer (some ⟨g, 0, none⟩), .int .i64 0] w (TwPost B V w v3 v4 v5 v6 v7 0) := by
  obtain ⟨ql, qg, qr, H1, H2, H3, H4, H5, e1, e2, e3, hQ⟩ := h
  have ho := hQ.ord
  have hc : w.cell? ⟨g, 6, none⟩ = some v6 := cell_of_row w g 6 _ _ _ hg
  match qg, e2, hQ with
  | [], e2, hQ =>
    obtain ⟨a, cap, hv⟩ := hQ.r4.form
    refine (tw0_no g _ cap a w (hc.trans (congrArg some hv)) (by simp [grL])).mono ?_
    rintro e w' ⟨rfl, rfl⟩
    exact ⟨rfl, .refl _ _, ql, [], qr, H1, H2, H3, H4, H5, e1, by simp [twistP, ← e2], e3, hQ⟩
  | (b, (f, vf), u) :: r, e2, hQ =>
    obtain ⟨va, vc, hvv⟩ := (hQ.r4.rep (f, vf) (by simp [grR])).form0
    simp only at hvv
    subst hvv
    have hl : (grL ((b, (f, .slice va f.args.length vc), u) :: r)).length = V.gr.length := by rw [← e2]; simp [grL]
    obtain ⟨gg, cap, rfl⟩ := hQ.r4.block (by simp [grL])
    obtain ⟨b1, b2, b3⟩ := hQ.r4.apart
    have cc := fun j hj => hQ.r4.cellAt rfl 0 j hj (by simp [grL])
    refine (tw0_yes g gg _ cap f.op f.num f.den f.dim f.name va f.args.length vc w hc (by simp [grL]) (by omega) (cc 1 (by omega)) (cc 2 (by omega)) (cc 3 (by omega)) (cc 4 (by omega)) (cc 5 (by omega)) (cc 6 (by omega)) _ _ _ _ _ _ (cc 7 (by omega)) (cc 8 (by omega)) (cc 9 (by omega)) (cc 10 (by omega)) (cc 11 (by omega)) (cc 12 (by omega)) (fun i => hQ.r4.own.frozenAt i)).mono ?_
    rintro e w' ⟨rfl, rfl⟩
    have hb : B ≤ gg := by omega
    refine ⟨rfl, (((((((Below.refl _ _).setCell hb _).setCell hb _).setCell hb _).setCell hb _).setCell hb _).setCell hb _).drew, ql, (b, (f, .slice va f.args.length vc), (f, .slice va f.args.length vc)) :: r, qr, H1, H2, H3, H4, H5, e1, by simp [twistP, ← e2], e3, ?_⟩
    have s1 := hQ.r4.stored rfl 0 7 7 rfl (by omega) (by simp [grL]) (.int .i64 f.op) (fun x hx => .inl hx)
    have s2 := s1.stored rfl 0 8 8 rfl (by omega) (by simp [grL]) (.int .i64 f.num) (fun x hx => .inl hx)
    have s3 := s2.stored rfl 0 9 9 rfl (by omega) (by simp [grL]) (.int .i64 f.den) (fun x hx => .inl hx)
    have s4 := s3.stored rfl 0 10 10 rfl (by omega) (by simp [grL]) (.int .i64 f.dim) (fun x hx => .inl hx)
    have s5 := s4.stored rfl 0 11 11 rfl (by omega) (by simp [grL]) (.string f.name) (fun x hx => .inl hx)
    have s6 := s5.stored (rs' := grR ((b, (f, .slice va f.args.length vc), (f, .slice va f.args.length vc)) :: r)) rfl 0 12 12 rfl (by omega) (by simp [grL]) (.slice va f.args.length vc) (fun x hx => by
      left
      simp only [grR, List.flatMap_cons, List.cons_append, List.nil_append, List.mem_cons] at hx ⊢
      rcases hx with rfl | rfl | hx
      · exact .inl rfl
      · exact .inl rfl
      · exact .inr (.inr hx))
    exact hQ.put4 ⟨b1, b2⟩ (((((((((Next.refl _ _).store _ _).store _ _).store _ _).store _ _).store _ _).store _ _)).drew) s6.drew
theorem twist_any (n : Int) (h0 : 0 ≤ n) (h7 : n < 7)
    (B g : Nat) (frm mode unit : Int) (V : VerP) (v3 v4 v5 v6 v7 : Value) (w : World) (hg : w.heap[g]? = some (.cells #[.int .i64 frm, .int .i64 mode, .int .i64 unit, v3, v4, v5, v6, v7] 34 (0, 0)))
    (hlen : V.cr.length ≤ 1000 ∧ V.se.length ≤ 1000 ∧ V.le.length ≤ 1000 ∧ V.gr.length ≤ 1000) (h : VerAt B w V v3 v4 v5 v6 v7)
    : Calls Try.prog 28 #[.pointer (some ⟨g, 0, none⟩), .int .i64 n] w (TwPost B V w v3 v4 v5 v6 v7 n) := by
  obtain rfl | rfl | rfl | rfl | rfl | rfl | rfl : n = 0 ∨ n = 1 ∨ n = 2 ∨ n = 3 ∨ n = 4 ∨ n = 5 ∨ n = 6 := by omega
  · exact twist_0 B g frm mode unit V v3 v4 v5 v6 v7 w hg hlen h
  · exact twist_1 B g frm mode unit V v3 v4 v5 v6 v7 w hg hlen h
  · exact twist_2 B g frm mode unit V v3 v4 v5 v6 v7 w hg hlen h
  · exact twist_3 B g frm mode unit V v3 v4 v5 v6 v7 w hg hlen h
  · exact twist_4 B g frm mode unit V v3 v4 v5 v6 v7 w hg hlen h
  · exact twist_5 B g frm mode unit V v3 v4 v5 v6 v7 w hg hlen h
  · exact twist_6 B g frm mode unit V v3 v4 v5 v6 v7 w hg hlen h
theorem OfPost.mk {R : RawV} {V : VerP} {w w1 wz : World} {B : Nat} {v3 v4 v5 v6 v7 : Value} (hT : ofP R = V) (hV : V.frm = pick R.frm 73049 ∧ V.mode = pick R.mode 4 + 1 ∧ V.unit = unitOf (pick R.unit 5)) (hb : Below w.heap.size w wz)
    (hn : Next (w.heap.size + 1) w1 wz) (hv : VerAt B w1 V v3 v4 v5 v6 v7) (hB : w.heap.size + 2 ≤ B) :
    OfPost R w (.returned (.agg #[.int .i64 (pick R.frm 73049), .int .i64 (pick R.mode 4 + 1), .int .i64 (unitOf (pick R.unit 5)), v3, v4, v5, v6, v7])) wz := by
  subst hT
  obtain ⟨a, b, c⟩ := hV
  exact ⟨v3, v4, v5, v6, v7, by rw [a, b, c], .of_below hb, (hv.same hn.size fun k hk hlt => hn.blk k hlt (by omega)).le (by omega)⟩
end Go.Proofs.Ytldelkkeimlfcaa
/- Versions that can be read; stores into a row. -/
namespace Go.Proofs.Ytldelkkeimlfcaa
open Go.RowKit
/-- A version's five slices, wherever they lie. -/
structure VerS (w : World) (V : VerP) (v3 v4 v5 v6 v7 : Value) (ql : List (ByteArray × (Ex × Value))) (qg : List GrT) (qr : List (Int × (Ex × Value))) : Prop where
  e1 : ql.map (fun t => (t.1, t.2.1)) = V.le
  e2 : qg.map (fun t => (t.1, t.2.1.1, t.2.2.1)) = V.gr
  e3 : qr.map (fun t => (t.1, t.2.1)) = V.re
  r1 : SrcRow w v3 2 (crL V.cr)
  r2 : SrcRow w v4 3 (seL V.se)
  r3 : SrcRow w v5 7 (letL ql)
  r4 : SrcRow w v6 13 (grL qg)
  r5 : SrcRow w v7 7 (reL qr)
  s3 : ∀ x ∈ ql.map (·.2), RepE (fun _ => True) w x.1 x.2
  s4 : ∀ x ∈ grR qg, RepE (fun _ => True) w x.1 x.2
  s5 : ∀ x ∈ qr.map (·.2), RepE (fun _ => True) w x.1 x.2
def VerR (w : World) (V : VerP) (v3 v4 v5 v6 v7 : Value) : Prop := ∃ ql qg qr, VerS w V v3 v4 v5 v6 v7 ql qg qr
/-- Its expressions are of bounded size. -/
def VerSmall (V : VerP) : Prop := (∀ t ∈ V.le, t.2.size ≤ 1000000) ∧ (∀ t ∈ V.gr, t.2.1.size ≤ 1000000 ∧ t.2.2.size ≤ 1000000) ∧ ∀ t ∈ V.re, t.2.size ≤ 1000000
theorem VerR.same {w w' : World} {V : VerP} {v3 v4 v5 v6 v7 : Value} (h : VerR w V v3 v4 v5 v6 v7) (hsz : w.heap.size ≤ w'.heap.size) (hw : ∀ k, k < w.heap.size → w'.heap[k]? = w.heap[k]?) : VerR w' V v3 v4 v5 v6 v7 := by
  obtain ⟨ql, qg, qr, e1, e2, e3, r1, r2, r3, r4, r5, s3, s4, s5⟩ := h
  have hr : ∀ (e : Ex) (v : Value), RepE (fun _ => True) w e v → RepE (fun _ => True) w' e v := fun e v h => h.keep hsz fun b o _ hlt => World.cell?_of_block (hw b hlt)
  exact ⟨ql, qg, qr, e1, e2, e3, r1.same hsz hw, r2.same hsz hw, r3.same hsz hw, r4.same hsz hw, r5.same hsz hw, fun x hx => hr _ _ (s3 x hx), fun x hx => hr _ _ (s4 x hx), fun x hx => hr _ _ (s5 x hx)⟩
theorem VerR.below {w w' : World} {V : VerP} {v3 v4 v5 v6 v7 : Value} (h : VerR w V v3 v4 v5 v6 v7) (hb : Below w.heap.size w w') : VerR w' V v3 v4 v5 v6 v7 := h.same hb.size hb.block
theorem VerR.alloc {w : World} {V : VerP} {v3 v4 v5 v6 v7 : Value} (h : VerR w V v3 v4 v5 v6 v7) (o : Obj) : VerR (w.alloc o) V v3 v4 v5 v6 v7 := h.same (by simp) fun k hk => Below.heap_alloc w o k hk
theorem VerR.grow {w : World} {V : VerP} {v3 v4 v5 v6 v7 : Value} (h : VerR w V v3 v4 v5 v6 v7) (bs : Array Obj) (d : Nat) : VerR (w.grow bs d) V v3 v4 v5 v6 v7 := h.same (by simp) fun k hk => World.heap_grow w bs d hk
theorem cr_one (l : List (Int × Int)) : ∀ u ∈ (crL l).flatten, u.oneCell' = true := by
  intro u hu
  obtain ⟨x, hx, hux⟩ := List.mem_flatten.1 hu
  obtain ⟨t, _, rfl⟩ := List.mem_map.1 hx
  simp only [List.mem_cons, List.not_mem_nil, or_false] at hux
  rcases hux with rfl | rfl <;> rfl
theorem se_one (l : List (Int × Int × Int)) : ∀ u ∈ (seL l).flatten, u.oneCell' = true := by
  intro u hu
  obtain ⟨x, hx, hux⟩ := List.mem_flatten.1 hu
  obtain ⟨t, _, rfl⟩ := List.mem_map.1 hx
  simp only [List.mem_cons, List.not_mem_nil, or_false] at hux
  rcases hux with rfl | rfl | rfl <;> rfl
theorem le_one {w : World} {S : Nat → Prop} (ql : List (ByteArray × (Ex × Value))) (h : ∀ x ∈ ql.map (·.2), RepE S w x.1 x.2) : ∀ u ∈ (letL ql).flatten, u.oneCell' = true := by
  intro u hu
  obtain ⟨x, hx, hux⟩ := List.mem_flatten.1 hu
  obtain ⟨t, ht, rfl⟩ := List.mem_map.1 hx
  exact let_one _ _ _ (h t.2 (List.mem_map_of_mem ht)).one u hux
theorem mem_grR {q : List GrT} {t : GrT} (h : t ∈ q) : t.2.1 ∈ grR q ∧ t.2.2 ∈ grR q := by
  unfold grR
  exact ⟨List.mem_flatMap.2 ⟨t, h, by simp⟩, List.mem_flatMap.2 ⟨t, h, by simp⟩⟩
theorem gr_ones {w : World} {S : Nat → Prop} (qg : List GrT) (h : ∀ x ∈ grR qg, RepE S w x.1 x.2) : ∀ u ∈ (grL qg).flatten, u.oneCell' = true := by
  intro u hu
  obtain ⟨x, hx, hux⟩ := List.mem_flatten.1 hu
  obtain ⟨t, ht, rfl⟩ := List.mem_map.1 hx
  exact gr_one _ _ _ _ _ (h _ (mem_grR ht).1).one (h _ (mem_grR ht).2).one u hux
theorem re_ones {w : World} {S : Nat → Prop} (qr : List (Int × (Ex × Value))) (h : ∀ x ∈ qr.map (·.2), RepE S w x.1 x.2) : ∀ u ∈ (reL qr).flatten, u.oneCell' = true := by
  intro u hu
  obtain ⟨x, hx, hux⟩ := List.mem_flatten.1 hu
  obtain ⟨t, ht, rfl⟩ := List.mem_map.1 hx
  exact re_one _ _ _ (h t.2 (List.mem_map_of_mem ht)).one u hux
theorem VerAt.reads {B : Nat} {w : World} {V : VerP} {v3 v4 v5 v6 v7 : Value} (h : VerAt B w V v3 v4 v5 v6 v7) (hl : V.cr.length ≤ 1000 ∧ V.se.length ≤ 1000 ∧ V.le.length ≤ 1000 ∧ V.gr.length ≤ 1000 ∧ V.re.length ≤ 1000) : VerR w V v3 v4 v5 v6 v7 := by
  obtain ⟨ql, qg, qr, H1, H2, H3, H4, H5, e1, e2, e3, ord, r1, r2, r3, r4, r5⟩ := h
  have l3 : (letL ql).length ≤ 1000 := by rw [← e1] at hl; simp [letL] at hl ⊢; omega
  have l4 : (grL qg).length ≤ 1000 := by rw [← e2] at hl; simp [grL] at hl ⊢; omega
  have l5 : (reL qr).length ≤ 1000 := by rw [← e3] at hl; simp [reL] at hl ⊢; omega
  have s3 : ∀ x ∈ ql.map (·.2), RepE (fun _ => True) w x.1 x.2 := fun x hx => (r3.rep x hx).mono fun _ _ => trivial
  have s4 : ∀ x ∈ grR qg, RepE (fun _ => True) w x.1 x.2 := fun x hx => (r4.rep x hx).mono fun _ _ => trivial
  have s5 : ∀ x ∈ qr.map (·.2), RepE (fun _ => True) w x.1 x.2 := fun x hx => (r5.rep x hx).mono fun _ _ => trivial
  exact ⟨ql, qg, qr, e1, e2, e3, .of_rowG r1.toG (by simp [crL]; omega) (cr_one _), .of_rowG r2.toG (by simp [seL]; omega) (se_one _), .of_rowG r3.toG l3 (le_one _ s3), .of_rowG r4.toG l4 (gr_ones _ s4), .of_rowG r5 l5 (re_ones _ s5), s3, s4, s5⟩
def setRun (x : List Value) (j : Nat) : List Value → List Value
  | [] => x
  | u :: us => setRun (x.set j u) (j + 1) us
theorem setRun_length (us : List Value) : ∀ (x : List Value) (j : Nat), (setRun x j us).length = x.length := by
  induction us with
  | nil => intro x j; rfl
  | cons u us ih => intro x j; rw [setRun, ih, List.length_set]
/-- A run of cells of one element is stored. -/
theorem RowX.stores {T : TypeId} {c base g n cap i : Nat} {X : Nat → Prop} (us : List Value) : ∀ (j : Nat) (w : World) (l : List (List Value)), RowX T c base X w (.slice (some ⟨g, 0, none⟩) n cap) l [] → n = l.length → j + us.length ≤ c → i < l.length →
    RowX T c base X (w.setCells g (i * c + j) us) (.slice (some ⟨g, 0, none⟩) n cap) (l.set i (setRun (l.getD i []) j us)) [] := by
  induction us with
  | nil =>
    intro j w l h hn hj hi
    have : l.set i (l.getD i []) = l := by rw [List.getD_eq_getElem?_getD, List.getElem?_eq_getElem hi]; exact List.set_getElem_self hi
    rw [setRun, this]; exact h
  | cons u us ih =>
    intro j w l h hn hj hi
    simp only [List.length_cons] at hj
    have h1 := h.stored (rs' := []) hn i j (i * c + j) rfl (by omega) hi u (fun x hx => by cases hx)
    have h2 := ih (j + 1) _ _ h1 (by rw [List.length_set]; exact hn) (by omega) (by rw [List.length_set]; exact hi)
    have e : (l.set i ((l.getD i []).set j u)).getD i [] = (l.getD i []).set j u := by rw [List.getD_eq_getElem?_getD, List.getElem?_set_self hi]; rfl
    rw [e, List.set_set] at h2
    exact h2
end Go.Proofs.Ytldelkkeimlfcaa
/- cloneVersion's memory: five rows of its own, in ascending blocks; what a round of its loops does to them. -/
namespace Go.Proofs.Ytldelkkeimlfcaa
open Go.RowKit
/-- A slice of a row, in a block of S. -/
def SrcIn (S : Nat → Prop) (w : World) (v : Value) (c : Nat) (l : List (List Value)) : Prop := SrcRow w v c l ∧ ∀ b, v.ownBlock = some b → S b
/-- A version that can be read, all of it in blocks of S. -/
structure VerT0 (S : Nat → Prop) (w : World) (V : VerP) (v3 v4 v5 v6 v7 : Value) (ql : List (ByteArray × (Ex × Value))) (qg : List GrT) (qr : List (Int × (Ex × Value))) : Prop where
  e1 : ql.map (fun t => (t.1, t.2.1)) = V.le
  e2 : qg.map (fun t => (t.1, t.2.1.1, t.2.2.1)) = V.gr
  e3 : qr.map (fun t => (t.1, t.2.1)) = V.re
  r1 : SrcIn S w v3 2 (crL V.cr)
  r2 : SrcIn S w v4 3 (seL V.se)
  r3 : SrcIn S w v5 7 (letL ql)
  r4 : SrcIn S w v6 13 (grL qg)
  r5 : SrcIn S w v7 7 (reL qr)
  s3 : ∀ x ∈ ql.map (·.2), RepE S w x.1 x.2
  s4 : ∀ x ∈ grR qg, RepE S w x.1 x.2
  s5 : ∀ x ∈ qr.map (·.2), RepE S w x.1 x.2
def VerT (S : Nat → Prop) (w : World) (V : VerP) (v3 v4 v5 v6 v7 : Value) : Prop := ∃ ql qg qr, VerT0 S w V v3 v4 v5 v6 v7 ql qg qr
theorem VerT.toR {S : Nat → Prop} {w : World} {V : VerP} {v3 v4 v5 v6 v7 : Value} (h : VerT S w V v3 v4 v5 v6 v7) : VerR w V v3 v4 v5 v6 v7 := by
  obtain ⟨ql, qg, qr, e1, e2, e3, r1, r2, r3, r4, r5, s3, s4, s5⟩ := h
  exact ⟨ql, qg, qr, e1, e2, e3, r1.1, r2.1, r3.1, r4.1, r5.1, fun x hx => (s3 x hx).mono fun _ _ => trivial, fun x hx => (s4 x hx).mono fun _ _ => trivial, fun x hx => (s5 x hx).mono fun _ _ => trivial⟩
theorem VerR.form2 {w : World} {V : VerP} {v3 v4 v5 v6 v7 : Value} (h : VerR w V v3 v4 v5 v6 v7) : (∃ a n c, v3 = .slice a n c) ∧ (∃ a n c, v4 = .slice a n c) ∧ (∃ a n c, v5 = .slice a n c) ∧ (∃ a n c, v6 = .slice a n c) ∧ ∃ a n c, v7 = .slice a n c := by
  obtain ⟨ql, qg, qr, e1, e2, e3, r1, r2, r3, r4, r5, -⟩ := h
  obtain ⟨-, -, -, a3, c3, f3, -⟩ := r1
  obtain ⟨-, -, -, a4, c4, f4, -⟩ := r2
  obtain ⟨-, -, -, a5, c5, f5, -⟩ := r3
  obtain ⟨-, -, -, a6, c6, f6, -⟩ := r4
  obtain ⟨-, -, -, a7, c7, f7, -⟩ := r5
  exact ⟨⟨_, _, _, f3⟩, ⟨_, _, _, f4⟩, ⟨_, _, _, f5⟩, ⟨_, _, _, f6⟩, ⟨_, _, _, f7⟩⟩
def LensV (V : VerP) : Prop := V.cr.length ≤ 1000 ∧ V.se.length ≤ 1000 ∧ V.le.length ≤ 1000 ∧ V.gr.length ≤ 1000 ∧ V.re.length ≤ 1000
theorem SrcRow.inn {w : World} {v : Value} {c : Nat} {l : List (List Value)} (h : SrcRow w v c l) : SrcIn (· < w.heap.size) w v c l := by
  refine ⟨h, fun b hb => ?_⟩
  obtain ⟨-, -, -, a, cap, rfl, h4⟩ := h
  rcases h4 with ⟨rfl, _, _⟩ | ⟨b', off, rfl, hlt, _⟩
  · simp [Value.ownBlock] at hb
  · simp [Value.ownBlock] at hb
    omega
theorem VerR.toT {w : World} {V : VerP} {v3 v4 v5 v6 v7 : Value} (h : VerR w V v3 v4 v5 v6 v7) : VerT (· < w.heap.size) w V v3 v4 v5 v6 v7 := by
  obtain ⟨ql, qg, qr, e1, e2, e3, r1, r2, r3, r4, r5, s3, s4, s5⟩ := h
  exact ⟨ql, qg, qr, e1, e2, e3, r1.inn, r2.inn, r3.inn, r4.inn, r5.inn, fun x hx => (s3 x hx).mono' fun _ _ h => h, fun x hx => (s4 x hx).mono' fun _ _ h => h, fun x hx => (s5 x hx).mono' fun _ _ h => h⟩
theorem SrcIn.same {S : Nat → Prop} {w w' : World} {v : Value} {c : Nat} {l : List (List Value)} (h : SrcIn S w v c l) (hsz : w.heap.size ≤ w'.heap.size) (hw : ∀ b o, S b → b < w.heap.size → w'.cell? ⟨b, o, none⟩ = w.cell? ⟨b, o, none⟩) : SrcIn S w' v c l := by
  obtain ⟨⟨h1, h2, h3, a, cap, hv, h4⟩, h5⟩ := h
  refine ⟨⟨h1, h2, h3, a, cap, hv, h4.imp id ?_⟩, h5⟩
  rintro ⟨b, off, ha, hb, hc⟩
  have hS : S b := h5 b (by rw [hv, ha]; rfl)
  exact ⟨b, off, ha, by omega, fun j u hu => by rw [hw b _ hS hb]; exact hc j u hu⟩
theorem VerT.same {S : Nat → Prop} {w w' : World} {V : VerP} {v3 v4 v5 v6 v7 : Value} (h : VerT S w V v3 v4 v5 v6 v7) (hsz : w.heap.size ≤ w'.heap.size) (hw : ∀ b o, S b → b < w.heap.size → w'.cell? ⟨b, o, none⟩ = w.cell? ⟨b, o, none⟩) : VerT S w' V v3 v4 v5 v6 v7 := by
  obtain ⟨ql, qg, qr, e1, e2, e3, r1, r2, r3, r4, r5, s3, s4, s5⟩ := h
  exact ⟨ql, qg, qr, e1, e2, e3, r1.same hsz hw, r2.same hsz hw, r3.same hsz hw, r4.same hsz hw, r5.same hsz hw, fun x hx => (s3 x hx).keep hsz hw, fun x hx => (s4 x hx).keep hsz hw, fun x hx => (s5 x hx).keep hsz hw⟩
theorem SrcIn.mono {S S' : Nat → Prop} {w : World} {v : Value} {c : Nat} {l : List (List Value)} (h : SrcIn S w v c l) (hS : ∀ b, S b → S' b) : SrcIn S' w v c l := ⟨h.1, fun b hb => hS b (h.2 b hb)⟩
theorem VerT.mono {S S' : Nat → Prop} {w : World} {V : VerP} {v3 v4 v5 v6 v7 : Value} (h : VerT S w V v3 v4 v5 v6 v7) (hS : ∀ b, S b → S' b) : VerT S' w V v3 v4 v5 v6 v7 := by
  obtain ⟨ql, qg, qr, e1, e2, e3, r1, r2, r3, r4, r5, s3, s4, s5⟩ := h
  exact ⟨ql, qg, qr, e1, e2, e3, r1.mono hS, r2.mono hS, r3.mono hS, r4.mono hS, r5.mono hS, fun x hx => (s3 x hx).mono hS, fun x hx => (s4 x hx).mono hS, fun x hx => (s5 x hx).mono hS⟩
def ClonedV (S : Nat → Prop) (V : VerP) (frm mode unit : Int) (w : World) (e : Ending) (w' : World) : Prop := ∃ v3 v4 v5 v6 v7, e = .returned (.agg #[.int .i64 frm, .int .i64 mode, .int .i64 unit, v3, v4, v5, v6, v7]) ∧ w.Grows w' ∧ VerT (fun b => S b ∨ w.heap.size ≤ b) w' V v3 v4 v5 v6 v7
/-- cloneVersion's memory: its variable's block and its result's. -/
structure CVAt (w : World) (os : Array Value) (wr : World) : Prop where
  bel : Below w.heap.size w wr
  box : wr.heap[w.heap.size]? = some (.cells os 34 (0, 0))
  res : wr.heap[w.heap.size + 1]? = some (.cells #[.int .i64 0, .int .i64 0, .int .i64 0, .slice none 0 0, .slice none 0 0, .slice none 0 0, .slice none 0 0, .slice none 0 0] 34 (0, 0))
section
variable {w wr w1 : World} {os : Array Value} {g : Nat}
theorem CVAt.lt (h : CVAt w os wr) : w.heap.size + 1 < wr.heap.size := (Array.getElem?_eq_some_iff.1 h.res).1
theorem CVAt.next (h : CVAt w os wr) (hn : Next g wr w1) (hb : Below w.heap.size w w1) (hg : w.heap.size + 2 ≤ g) : CVAt w os w1 := by
  have hl := h.lt
  exact ⟨hb, by rw [hn.blk _ (by omega) (by omega)]; exact h.box, by rw [hn.blk _ (by omega) (by omega)]; exact h.res⟩
theorem CVAt.store (h : CVAt w os wr) (i : Nat) (v : Value) : CVAt w (os.setIfInBounds i v) (wr.setCell ⟨w.heap.size, i, none⟩ v) :=
  ⟨h.bel.setCell (Nat.le_refl _) v, Joins.block_setCell h.box v, by rw [Below.heap_setCell _ _ _ _ (by show w.heap.size + 1 ≠ w.heap.size; omega)]; exact h.res⟩
theorem CVAt.grows (h : CVAt w os wr) (hg : wr.Grows w1) : CVAt w os w1 := by
  have hl := h.lt
  have hb := hg.below
  exact ⟨h.bel.trans (hb.mono h.bel.size), by rw [hb.block _ (by omega)]; exact h.box, by rw [hb.block _ (by omega)]; exact h.res⟩
end
theorem Next.grows {g : Nat} {a b c : World} (h : Next g a b) (hg : b.Grows c) : Next g a c := by
  obtain ⟨bs, d, rfl⟩ := hg
  exact h.grow bs d
structure CVQ (S : Nat → Prop) (w : World) (frm mode unit : Int) (V : VerP) (v3 v4 v5 v6 v7 : Value) (ql : List (ByteArray × (Ex × Value))) (qg : List GrT) (qr : List (Int × (Ex × Value))) (H1 H2 H3 H4 H5 h : Nat) (wr : World) : Prop where
  mem : CVAt w #[.int .i64 frm, .int .i64 mode, .int .i64 unit, v3, v4, v5, v6, v7] wr
  ord : w.heap.size + 2 ≤ H1 ∧ H1 ≤ H2 ∧ H2 ≤ H3 ∧ H3 ≤ H4 ∧ H4 ≤ H5 ∧ H5 ≤ h ∧ h ≤ wr.heap.size
  e1 : ql.map (fun t => (t.1, t.2.1)) = V.le
  e2 : qg.map (fun t => (t.1, t.2.1.1, t.2.2.1)) = V.gr
  e3 : qr.map (fun t => (t.1, t.2.1)) = V.re
  r1 : RowX 63 2 H1 (· < H2) wr v3 (crL V.cr) []
  r2 : RowX 67 3 H2 (· < H3) wr v4 (seL V.se) []
  r3 : RowX 75 7 H3 (· < H4) wr v5 (letL ql) []
  r4 : RowX 79 13 H4 (· < H5) wr v6 (grL qg) []
  r5 : RowX 81 7 H5 (· < h) wr v7 (reL qr) []
  s3 : ∀ x ∈ ql.map (·.2), RepE (fun b => (S b ∧ b < w.heap.size) ∨ h ≤ b) wr x.1 x.2
  s4 : ∀ x ∈ grR qg, RepE (fun b => (S b ∧ b < w.heap.size) ∨ h ≤ b) wr x.1 x.2
  s5 : ∀ x ∈ qr.map (·.2), RepE (fun b => (S b ∧ b < w.heap.size) ∨ h ≤ b) wr x.1 x.2
def CVS (S : Nat → Prop) (w : World) (frm mode unit : Int) (V : VerP) (v3 v4 v5 v6 v7 : Value) (wr : World) : Prop :=
  ∃ ql qg qr H1 H2 H3 H4 H5 h, CVQ S w frm mode unit V v3 v4 v5 v6 v7 ql qg qr H1 H2 H3 H4 H5 h wr
section
variable {S : Nat → Prop} {w wr w' W : World} {frm mode unit : Int} {V : VerP} {v3 v4 v5 v6 v7 : Value} {ql ql' : List (ByteArray × (Ex × Value))} {qg qg' : List GrT} {qr qr' : List (Int × (Ex × Value))} {H1 H2 H3 H4 H5 h g : Nat}
/-- What changes block g alone keeps the expressions' operands. -/
theorem repS_next {e : Ex} {v : Value} (hr : RepE (fun b => (S b ∧ b < w.heap.size) ∨ h ≤ b) wr e v) (hn : Next g wr W) (hg : ¬ (g < w.heap.size ∨ h ≤ g)) : RepE (fun b => (S b ∧ b < w.heap.size) ∨ h ≤ b) W e v :=
  hr.keep hn.size fun b o hb hlt => World.cell?_of_block (hn.blk b hlt fun e => hg (by subst e; exact hb.imp (·.2) id))
theorem repS_new {e : Ex} {v : Value} (hr : RepE (fun b => wr.heap.size ≤ b) w' e v) (hh : h ≤ wr.heap.size) (hn : Next g w' W) (hg : g < wr.heap.size) : RepE (fun b => (S b ∧ b < w.heap.size) ∨ h ≤ b) W e v :=
  (hr.keep hn.size fun b o hb hlt => World.cell?_of_block (hn.blk b hlt (by omega))).mono fun b hb => .inr (by omega)
theorem CVQ.put3 (q : CVQ S w frm mode unit V v3 v4 v5 v6 v7 ql qg qr H1 H2 H3 H4 H5 h wr) (hb : Below w.heap.size w W) (hn : Next g wr W) (hg : H3 ≤ g ∧ g < H4) (e1 : ql'.map (fun t => (t.1, t.2.1)) = V.le)
    (r : RowX 75 7 H3 (· < H4) W v5 (letL ql') []) (s : ∀ x ∈ ql'.map (·.2), RepE (fun b => (S b ∧ b < w.heap.size) ∨ h ≤ b) W x.1 x.2) : CVQ S w frm mode unit V v3 v4 v5 v6 v7 ql' qg qr H1 H2 H3 H4 H5 h W := by
  have o := q.ord
  have hs := hn.size
  exact ⟨q.mem.next hn hb (by omega), ⟨o.1, o.2.1, o.2.2.1, o.2.2.2.1, o.2.2.2.2.1, o.2.2.2.2.2.1, by omega⟩, e1, q.e2, q.e3, q.r1.apart' hn (fun e => by have : g < H2 := e.2; omega), q.r2.apart' hn (fun e => by have : g < H3 := e.2; omega), r,
    q.r4.apart' hn (fun e => by have := e.1; omega), q.r5.apart' hn (fun e => by have := e.1; omega), s, fun x hx => repS_next (q.s4 x hx) hn (by omega), fun x hx => repS_next (q.s5 x hx) hn (by omega)⟩
theorem CVQ.put4 (q : CVQ S w frm mode unit V v3 v4 v5 v6 v7 ql qg qr H1 H2 H3 H4 H5 h wr) (hb : Below w.heap.size w W) (hn : Next g wr W) (hg : H4 ≤ g ∧ g < H5) (e2 : qg'.map (fun t => (t.1, t.2.1.1, t.2.2.1)) = V.gr)
    (r : RowX 79 13 H4 (· < H5) W v6 (grL qg') []) (s : ∀ x ∈ grR qg', RepE (fun b => (S b ∧ b < w.heap.size) ∨ h ≤ b) W x.1 x.2) : CVQ S w frm mode unit V v3 v4 v5 v6 v7 ql qg' qr H1 H2 H3 H4 H5 h W := by
  have o := q.ord
  have hs := hn.size
  exact ⟨q.mem.next hn hb (by omega), ⟨o.1, o.2.1, o.2.2.1, o.2.2.2.1, o.2.2.2.2.1, o.2.2.2.2.2.1, by omega⟩, q.e1, e2, q.e3, q.r1.apart' hn (fun e => by have : g < H2 := e.2; omega), q.r2.apart' hn (fun e => by have : g < H3 := e.2; omega),
    q.r3.apart' hn (fun e => by have : g < H4 := e.2; omega), r, q.r5.apart' hn (fun e => by have := e.1; omega), fun x hx => repS_next (q.s3 x hx) hn (by omega), s, fun x hx => repS_next (q.s5 x hx) hn (by omega)⟩
theorem CVQ.put5 (q : CVQ S w frm mode unit V v3 v4 v5 v6 v7 ql qg qr H1 H2 H3 H4 H5 h wr) (hb : Below w.heap.size w W) (hn : Next g wr W) (hg : H5 ≤ g ∧ g < h) (e3 : qr'.map (fun t => (t.1, t.2.1)) = V.re)
    (r : RowX 81 7 H5 (· < h) W v7 (reL qr') []) (s : ∀ x ∈ qr'.map (·.2), RepE (fun b => (S b ∧ b < w.heap.size) ∨ h ≤ b) W x.1 x.2) : CVQ S w frm mode unit V v3 v4 v5 v6 v7 ql qg qr' H1 H2 H3 H4 H5 h W := by
  have o := q.ord
  have hs := hn.size
  exact ⟨q.mem.next hn hb (by omega), ⟨o.1, o.2.1, o.2.2.1, o.2.2.2.1, o.2.2.2.2.1, o.2.2.2.2.2.1, by omega⟩, q.e1, q.e2, e3, q.r1.apart' hn (fun e => by have : g < H2 := e.2; omega), q.r2.apart' hn (fun e => by have : g < H3 := e.2; omega),
    q.r3.apart' hn (fun e => by have : g < H4 := e.2; omega), q.r4.apart' hn (fun e => by have : g < H5 := e.2; omega), r, fun x hx => repS_next (q.s3 x hx) hn (by omega), fun x hx => repS_next (q.s4 x hx) hn (by omega), s⟩
theorem CVQ.drew (q : CVQ S w frm mode unit V v3 v4 v5 v6 v7 ql qg qr H1 H2 H3 H4 H5 h wr) : CVQ S w frm mode unit V v3 v4 v5 v6 v7 ql qg qr H1 H2 H3 H4 H5 h wr.drew :=
  ⟨⟨q.mem.bel.drew, q.mem.box, q.mem.res⟩, q.ord, q.e1, q.e2, q.e3, q.r1.drew, q.r2.drew, q.r3.drew, q.r4.drew, q.r5.drew, fun x hx => (q.s3 x hx).drew, fun x hx => (q.s4 x hx).drew, fun x hx => (q.s5 x hx).drew⟩
theorem CVQ.reads (hn : Next g wr W) (hg : w.heap.size ≤ g ∧ g < w.heap.size + 2) (q : CVQ S w frm mode unit V v3 v4 v5 v6 v7 ql qg qr H1 H2 H3 H4 H5 h wr) (hl : V.cr.length ≤ 1000 ∧ V.se.length ≤ 1000 ∧ V.le.length ≤ 1000 ∧ V.gr.length ≤ 1000 ∧ V.re.length ≤ 1000) : VerT (fun b => S b ∨ w.heap.size ≤ b) W V v3 v4 v5 v6 v7 := by
  have o := q.ord
  have l3 : (letL ql).length ≤ 1000 := by rw [← q.e1] at hl; simp [letL] at hl ⊢; omega
  have l4 : (grL qg).length ≤ 1000 := by rw [← q.e2] at hl; simp [grL] at hl ⊢; omega
  have l5 : (reL qr).length ≤ 1000 := by rw [← q.e3] at hl; simp [reL] at hl ⊢; omega
  have s3 : ∀ x ∈ ql.map (·.2), RepE (fun b => S b ∨ w.heap.size ≤ b) W x.1 x.2 := fun x hx => (repS_next (q.s3 x hx) hn (by omega)).mono fun b hb => hb.elim (fun hb => .inl hb.1) (fun hb => .inr (by omega))
  have s4 : ∀ x ∈ grR qg, RepE (fun b => S b ∨ w.heap.size ≤ b) W x.1 x.2 := fun x hx => (repS_next (q.s4 x hx) hn (by omega)).mono fun b hb => hb.elim (fun hb => .inl hb.1) (fun hb => .inr (by omega))
  have s5 : ∀ x ∈ qr.map (·.2), RepE (fun b => S b ∨ w.heap.size ≤ b) W x.1 x.2 := fun x hx => (repS_next (q.s5 x hx) hn (by omega)).mono fun b hb => hb.elim (fun hb => .inl hb.1) (fun hb => .inr (by omega))
  have inn : ∀ {T : TypeId} {c base : Nat} {X : Nat → Prop} {v : Value} {l : List (List Value)} {rs : List (Ex × Value)}, RowX T c base X W v l rs → w.heap.size ≤ base → l.length ≤ 1000 → (∀ u ∈ l.flatten, u.oneCell' = true) → SrcIn (fun b => S b ∨ w.heap.size ≤ b) W v c l :=
    fun h hb hl h1 => ⟨.of_rowG h.toG hl h1, fun b hb2 => .inr (by have := (h.lt b hb2).1; omega)⟩
  exact ⟨ql, qg, qr, q.e1, q.e2, q.e3, inn (q.r1.next hn (by omega)) (by omega) (by simp [crL]; omega) (cr_one _), inn (q.r2.next hn (by omega)) (by omega) (by simp [seL]; omega) (se_one _), inn (q.r3.next hn (by omega)) (by omega) l3 (le_one _ s3), inn (q.r4.next hn (by omega)) (by omega) l4 (gr_ones _ s4), inn (q.r5.next hn (by omega)) (by omega) l5 (re_ones _ s5), s3, s4, s5⟩
end
/-- A row's element, and where it lies. -/
theorem RowX.slot {T : TypeId} {c base n k : Nat} {X : Nat → Prop} {w : World} {a : Option Addr} {cap : Nat} {l : List (List Value)} {rs : List (Ex × Value)} (h : RowX T c base X w (.slice a n cap) l rs) (hk : k < l.length) :
    ∃ g, a = some ⟨g, 0, none⟩ ∧ n = l.length ∧ base ≤ g ∧ X g ∧ g < w.heap.size ∧ (∀ j, j < c → w.cell? ⟨g, k * c + j, none⟩ = (l.getD k [])[j]?) ∧ ∀ i, w.frozen? ⟨g, i, none⟩ = false := by
  obtain ⟨g, cap', hv⟩ := h.block (by omega)
  simp only [Value.slice.injEq] at hv
  obtain ⟨rfl, rfl, rfl⟩ := hv
  obtain ⟨b1, b2, b3⟩ := h.apart
  exact ⟨g, rfl, rfl, b1, b2, b3, fun j hj => h.cellAt rfl k j hj hk, fun i => h.own.frozenAt i⟩
theorem cell_ltv {w : World} {b o : Nat} {v : Value} (h : w.cell? ⟨b, o, none⟩ = some v) : b < w.heap.size := by
  rcases Nat.lt_or_ge b w.heap.size with h1 | h1
  · exact h1
  · simp [World.cell?, Array.getElem?_eq_none h1] at h
theorem World.Grows.after {a b c : World} (h : b.Grows c) (h0 : a.Grows b) : a.Grows c := by
  obtain ⟨bs, d, rfl⟩ := h0
  obtain ⟨bs2, d2, rfl⟩ := h
  exact ⟨_, _, World.grow_grow _ _ _ _ _⟩
theorem letL_put (ql : List (ByteArray × (Ex × Value))) (k : Nat) (s : ByteArray) (e : Ex) (v v' : Value) (h : ql[k]? = some (s, (e, v))) : (letL ql).set k (setRun ((letL ql).getD k []) 1 (cells1 e v')) = letL (ql.set k (s, (e, v'))) := by
  have : (letL ql).getD k [] = .string s :: cells1 e v := by simp [letL, List.getD_eq_getElem?_getD, List.getElem?_map, h]
  rw [this]
  simp only [letL, List.map_set, cells1, setRun, List.set_cons_succ, List.set_cons_zero]
theorem reL_put (qr : List (Int × (Ex × Value))) (k : Nat) (s : Int) (e : Ex) (v v' : Value) (h : qr[k]? = some (s, (e, v))) : (reL qr).set k (setRun ((reL qr).getD k []) 1 (cells1 e v')) = reL (qr.set k (s, (e, v'))) := by
  have : (reL qr).getD k [] = .int .i64 s :: cells1 e v := by simp [reL, List.getD_eq_getElem?_getD, List.getElem?_map, h]
  rw [this]
  simp only [reL, List.map_set, cells1, setRun, List.set_cons_succ, List.set_cons_zero]
theorem grL_get (qg : List GrT) (k : Nat) (t : GrT) (h : qg[k]? = some t) : (grL qg).getD k [] = .int .i64 t.1 :: (cells1 t.2.1.1 t.2.1.2 ++ cells1 t.2.2.1 t.2.2.2) := by
  simp [grL, List.getD_eq_getElem?_getD, List.getElem?_map, h]
theorem grL_put1 (qg : List GrT) (k : Nat) (b : Int) (e f : Ex) (v u v' : Value) (h : qg[k]? = some (b, (e, v), (f, u))) : (grL qg).set k (setRun ((grL qg).getD k []) 1 (cells1 e v')) = grL (qg.set k (b, (e, v'), (f, u))) := by
  rw [grL_get _ _ _ h]
  simp only [grL, List.map_set, cells1, setRun, List.cons_append, List.nil_append, List.set_cons_succ, List.set_cons_zero]
theorem grL_put2 (qg : List GrT) (k : Nat) (b : Int) (e f : Ex) (v u u' : Value) (h : qg[k]? = some (b, (e, v), (f, u))) : (grL qg).set k (setRun ((grL qg).getD k []) 7 (cells1 f u')) = grL (qg.set k (b, (e, v), (f, u'))) := by
  rw [grL_get _ _ _ h]
  simp only [grL, List.map_set, cells1, setRun, List.cons_append, List.nil_append, List.set_cons_succ, List.set_cons_zero]
section
variable {S : Nat → Prop} {w wr w' : World} {frm mode unit : Int} {V : VerP} {v3 v4 v5 v6 v7 : Value} {ql : List (ByteArray × (Ex × Value))} {qg : List GrT} {qr : List (Int × (Ex × Value))} {H1 H2 H3 H4 H5 h g k n cap : Nat} {e f : Ex} {v u v' u' : Value}
theorem map_put {α : Type} {β : Type} {l : List α} {k : Nat} {x y : α} {F : α → β} (h : l[k]? = some x) (hF : F y = F x) : (l.set k y).map F = l.map F := by
  rw [List.map_set, hF]
  apply List.ext_getElem?
  intro i
  rw [List.getElem?_set]
  split
  · rename_i hi
    subst hi
    have hlt : k < l.length := (List.getElem?_eq_some_iff.1 h).1
    rw [List.getElem?_map, h, if_pos (by simpa using hlt)]; rfl
  · rfl
theorem CVQ.round3 {s : ByteArray} (q : CVQ S w frm mode unit V v3 v4 (.slice (some ⟨g, 0, none⟩) n cap) v6 v7 ql qg qr H1 H2 H3 H4 H5 h wr) (hk : ql[k]? = some (s, (e, v))) (hg : wr.Grows w') (hr : RepE (fun b => wr.heap.size ≤ b) w' e v') :
    CVQ S w frm mode unit V v3 v4 (.slice (some ⟨g, 0, none⟩) n cap) v6 v7 (ql.set k (s, (e, v'))) qg qr H1 H2 H3 H4 H5 h (w'.setCells g (k * 7 + 1) (cells1 e v')) := by
  have o := q.ord
  have hlt : k < ql.length := (List.getElem?_eq_some_iff.1 hk).1
  obtain ⟨g', ha, hn, b1, b2, b3, -, -⟩ := q.r3.slot (k := k) (by simpa [letL] using hlt)
  obtain rfl : g = g' := by simpa using ha
  have hN1 : Next g w' (w'.setCells g (k * 7 + 1) (cells1 e v')) := next_setCells _ _ _ (.refl _ _)
  have hN : Next g wr (w'.setCells g (k * 7 + 1) (cells1 e v')) := next_setCells _ _ _ ((Next.refl g wr).grows hg)
  refine q.put3 (below_setCells (by omega) _ _ _ (q.mem.grows hg).bel) hN ⟨b1, b2⟩ ((map_put (y := (s, (e, v'))) hk rfl).trans q.e1) ?_ ?_
  · have := RowX.stores (cells1 e v') 1 w' (letL ql) (q.r3.keep hg.below.size (fun j _ _ hl => hg.below.block j hl)) hn (by simp [cells1]) (by simpa [letL] using hlt)
    rw [letL_put _ _ _ _ _ _ hk] at this
    exact this
  · intro x hx
    obtain ⟨t, ht, rfl⟩ := List.mem_map.1 hx
    rcases List.mem_or_eq_of_mem_set ht with h1 | rfl
    · exact repS_next (q.s3 _ (List.mem_map_of_mem h1)) hN (by have : g < H4 := b2; omega)
    · exact repS_new hr o.2.2.2.2.2.2 hN1 b3
theorem CVQ.round5 {s : Int} (q : CVQ S w frm mode unit V v3 v4 v5 v6 (.slice (some ⟨g, 0, none⟩) n cap) ql qg qr H1 H2 H3 H4 H5 h wr) (hk : qr[k]? = some (s, (e, v))) (hg : wr.Grows w') (hr : RepE (fun b => wr.heap.size ≤ b) w' e v') :
    CVQ S w frm mode unit V v3 v4 v5 v6 (.slice (some ⟨g, 0, none⟩) n cap) ql qg (qr.set k (s, (e, v'))) H1 H2 H3 H4 H5 h (w'.setCells g (k * 7 + 1) (cells1 e v')) := by
  have o := q.ord
  have hlt : k < qr.length := (List.getElem?_eq_some_iff.1 hk).1
  obtain ⟨g', ha, hn, b1, b2, b3, -, -⟩ := q.r5.slot (k := k) (by simpa [reL] using hlt)
  obtain rfl : g = g' := by simpa using ha
  have hN1 : Next g w' (w'.setCells g (k * 7 + 1) (cells1 e v')) := next_setCells _ _ _ (.refl _ _)
  have hN : Next g wr (w'.setCells g (k * 7 + 1) (cells1 e v')) := next_setCells _ _ _ ((Next.refl g wr).grows hg)
  refine q.put5 (below_setCells (by omega) _ _ _ (q.mem.grows hg).bel) hN ⟨b1, b2⟩ ((map_put (y := (s, (e, v'))) hk rfl).trans q.e3) ?_ ?_
  · have := RowX.stores (cells1 e v') 1 w' (reL qr) (q.r5.keep hg.below.size (fun j _ _ hl => hg.below.block j hl)) hn (by simp [cells1]) (by simpa [reL] using hlt)
    rw [reL_put _ _ _ _ _ _ hk] at this
    exact this
  · intro x hx
    obtain ⟨t, ht, rfl⟩ := List.mem_map.1 hx
    rcases List.mem_or_eq_of_mem_set ht with h1 | rfl
    · exact repS_next (q.s5 _ (List.mem_map_of_mem h1)) hN (by have : g < h := b2; omega)
    · exact repS_new hr o.2.2.2.2.2.2 hN1 b3
theorem CVQ.round4 {s : Int} (q : CVQ S w frm mode unit V v3 v4 v5 (.slice (some ⟨g, 0, none⟩) n cap) v7 ql qg qr H1 H2 H3 H4 H5 h wr) (hk : qg[k]? = some (s, (e, v), (f, u))) (hg : wr.Grows w') (hr : RepE (fun b => wr.heap.size ≤ b) w' e v') (hr2 : RepE (fun b => wr.heap.size ≤ b) w' f u') :
    CVQ S w frm mode unit V v3 v4 v5 (.slice (some ⟨g, 0, none⟩) n cap) v7 ql (qg.set k (s, (e, v'), (f, u'))) qr H1 H2 H3 H4 H5 h ((w'.setCells g (k * 13 + 1) (cells1 e v')).setCells g (k * 13 + 7) (cells1 f u')) := by
  have o := q.ord
  have hlt : k < qg.length := (List.getElem?_eq_some_iff.1 hk).1
  obtain ⟨g', ha, hn, b1, b2, b3, -, -⟩ := q.r4.slot (k := k) (by simpa [grL] using hlt)
  obtain rfl : g = g' := by simpa using ha
  have hN1 : Next g w' ((w'.setCells g (k * 13 + 1) (cells1 e v')).setCells g (k * 13 + 7) (cells1 f u')) := next_setCells _ _ _ (next_setCells _ _ _ (.refl _ _))
  have hN : Next g wr ((w'.setCells g (k * 13 + 1) (cells1 e v')).setCells g (k * 13 + 7) (cells1 f u')) := next_setCells _ _ _ (next_setCells _ _ _ ((Next.refl g wr).grows hg))
  refine q.put4 (below_setCells (by omega) _ _ _ (below_setCells (by omega) _ _ _ (q.mem.grows hg).bel)) hN ⟨b1, b2⟩ ((map_put (y := (s, (e, v'), (f, u'))) hk rfl).trans q.e2) ?_ ?_
  · have h1 := RowX.stores (cells1 e v') 1 w' (grL qg) (q.r4.keep hg.below.size (fun j _ _ hl => hg.below.block j hl)) hn (by simp [cells1]) (by simpa [grL] using hlt)
    rw [grL_put1 _ _ _ _ _ _ _ _ hk] at h1
    have hk2 : (qg.set k (s, (e, v'), (f, u)))[k]? = some (s, (e, v'), (f, u)) := by rw [List.getElem?_set_self hlt]
    have h2 := RowX.stores (cells1 f u') 7 _ (grL (qg.set k (s, (e, v'), (f, u)))) h1 (by simp [grL]; simpa [grL] using hn) (by simp [cells1]) (by simpa [grL] using hlt)
    rw [grL_put2 _ _ _ _ _ _ _ _ hk2, List.set_set] at h2
    exact h2
  · intro x hx
    obtain ⟨t, ht, hxt⟩ := List.mem_flatMap.1 hx
    rcases List.mem_or_eq_of_mem_set ht with h1 | rfl
    · exact repS_next (q.s4 _ (List.mem_flatMap.2 ⟨t, h1, hxt⟩)) hN (by have : g < H5 := b2; omega)
    · simp only [List.mem_cons, List.not_mem_nil, or_false] at hxt
      rcases hxt with rfl | rfl
      · exact repS_new hr o.2.2.2.2.2.2 hN1 b3
      · exact repS_new hr2 o.2.2.2.2.2.2 hN1 b3
end
end Go.Proofs.Ytldelkkeimlfcaa
