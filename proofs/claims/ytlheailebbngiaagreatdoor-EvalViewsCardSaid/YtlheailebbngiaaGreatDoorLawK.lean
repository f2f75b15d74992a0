/- What the laws of chapter 8 share: lists and environments handed to pensionmade.Expr, and eval.Expr's contract with the view and the steps written out. -/
import Derived.Test.YtlheailebbngiaaGreatDoorQAw8
import Derived.Test.YtlheailebbngiaaGreatDoorQTop
import Derived.Test.YtlheailebbngiaaGreatDoorVwP
import Derived.Test.YtlheailebbngiaaGreatDoorTakeN
set_option linter.all false
namespace Go.Proofs.YtlheailebbngiaaGreatDoor
open Go.RowKit
theorem IntsAt.growsG {w w' : World} {v : Value} {zs : List Int} (h : IntsAt w v zs) (hg : w.Grows w') : IntsAt w' v zs := by
  obtain ⟨bs, d, rfl⟩ := hg
  exact h.grow bs d
theorem IntsAt.list {w : World} {v : Value} {zs : List Int} {s : Nat} (h : IntsAt w v zs) (hs : w.heap.size ≤ s) : ListAt w s v zs := by
  obtain ⟨h0, -, a, cap, hv, h1⟩ := h
  refine ⟨h0, a, cap, hv, h1.imp id ?_⟩
  rintro ⟨b, off, ha, hb, hc⟩
  exact ⟨b, off, ha, hb, by omega, hc⟩
theorem env_no (w : World) (s : Nat) : EnvAt w s (.slice none 0 0) [] := ⟨by decide, fun _ h => by (cases h), none, 0, rfl, .inl rfl⟩
theorem EnvAt.of_bind {w : World} {v : Value} {l : List (ByteArray × Int)} (h : BindAt w v l) (hn : ∀ x ∈ l, x.1.size ≤ 140737488355328) : EnvAt w w.heap.size v l := by
  obtain ⟨h0, a, cap, hv, h1⟩ := h
  refine ⟨h0, hn, a, cap, hv, h1.imp id ?_⟩
  rintro ⟨b, off, ha, hb, hc⟩
  exact ⟨b, off, ha, hb, by omega, hc⟩
/-- eval.Expr at an expression E with steps env gives r. -/
def ExC (v : Vw) (se : Value) (env : List (ByteArray × Val)) (E : Ex) (r : Val × Int) : Prop := ∀ (ya : Option Addr) (yc : Nat) (w' : World) (a : Option Addr) (cap : Nat), RepE (fun _ => True) w' E (.slice a E.args.length cap) → Tab w' → YrAt w' (.slice ya v.years.length yc) v.years → StpAt w' se env →
  Calls Tryz.prog 29 #[.agg #[.int .i64 E.op, .int .i64 E.num, .int .i64 E.den, .int .i64 E.dim, .string E.name, .slice a E.args.length cap], vwV v (.slice ya v.years.length yc), se] w' fun e w'' => e = .returned (.tuple #[.agg #[.int .i64 r.1.dim, .bool r.1.yes, .int .i64 r.1.n, .int .i64 r.1.d], .int .i64 r.2]) ∧ w'.Grows w''
theorem exC {v : Vw} (hrng : VwRng v) {se : Value} {env : List (ByteArray × Val)} (hE : ∀ p ∈ env, p.2.ok = true) {E : Ex} {r : Val × Int} (hr : exprF' v env E = r) (hb : E.size ≤ 2305843009213693952) : ExC v se env E r := by
  subst hr
  intro ya yc w' a cap hR ht hy hs
  exact Expr2_any (fun _ => True) v _ se env E a cap w' hR hb ht hy hrng hs (fun p hp => Val.ok_rng (hE p hp))
theorem topF_size (zs : List Int) (env : List (ByteArray × Int)) (dim : Int) : (topF zs env dim).size ≤ 1000000 := by
  have h1 := exprF_size zs env 5 dim 0 24
  have h2 := leafF_size zs env dim (exprF zs env 5 dim 0 24).2.1 0
  have hc5 : costN 5 = 2307 := rfl
  unfold topF
  split <;> omega
theorem viewP_rng (R : VwR) : VwRng (viewP R) := by
  have h := viewP_ok R
  unfold Vw.ok at h
  simp only [Bool.and_eq_true] at h
  have := vfrac_bd h.1.2.1
  exact ⟨⟨by omega, by omega⟩, ⟨by omega, by omega⟩⟩
end Go.Proofs.YtlheailebbngiaaGreatDoor
