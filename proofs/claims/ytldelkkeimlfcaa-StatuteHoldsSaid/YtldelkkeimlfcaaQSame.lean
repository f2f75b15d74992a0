/- SameExpr: an expression is the same as itself, wherever it lies. -/
import Derived.Test.YtldelkkeimlfcaaQTree
import Derived.Test.YtldelkkeimlfcaaQBase
set_option linter.all false
namespace Go.Proofs.Ytldelkkeimlfcaa
open Go.RowKit
set_option maxHeartbeats 2000000 in
theorem Same_walk (n : Nat) : ∀ (e : Ex), e.size ≤ n → ∀ (S S' : Nat → Prop) (v v' : Value) (w : World), RepE S w e v → RepE S' w e v' →
    Calls Try.prog 40 #[exV e v, exV e v'] w fun r w' => r = .returned (.bool true) ∧ w.Grows w' := by
  induction n with
  | zero => intro e he; have := e.size_pos; omega
  | succ n ih =>
    intro e he S S' v v' w h h'
    have IH := Lib.hid ih
    clear ih
    cases h with
    | mk _ a cap vs hr hc hs =>
      cases h' with
      | mk _ a2 cap2 vs2 hr2 hc2 hs2 =>
        have hlen := hr.len
        have Hs := Lib.hid hs
        have He := Lib.hid he
        have Hc := Lib.hid hc
        have Hs2 := Lib.hid hs2
        have Hc2 := Lib.hid hc2
        clear hr hs he hc hr2 hs2 hc2
        go_enter Try.func40, Try.ntmps40
        go_wp2_with fail
        go_loopw [5] (fun v5 wr => ∃ k : Nat, k ≤ e.args.length ∧ v5 = .int .i64 k ∧ World.Grows ((w.alloc ((.cells #[.int .i64 e.op, .int .i64 e.num, .int .i64 e.den, .int .i64 e.dim, .string e.name, .slice a e.args.length cap] 72))).alloc ((.cells #[.int .i64 e.op, .int .i64 e.num, .int .i64 e.den, .int .i64 e.dim, .string e.name, .slice a2 e.args.length cap2] 72))) wr) (fun v5 _ => e.args.length - (intOf v5).toNat)
        case atStart => exact ⟨0, by omega, rfl, .refl _⟩
        case round =>
          obtain ⟨k, hk, rfl, bs, d, rfl⟩ := hrel
          by_cases hlt : k < e.args.length
          · rcases Hc.out with h0 | ⟨b, off, rfl, hS, hbw, hx⟩
            · omega
            · rcases Hc2.out with h0 | ⟨b2, off2, rfl, hS2, hbw2, hy⟩
              · omega
              · obtain ⟨x0, x1, x2, x3, x4, x5⟩ := hx k hlt
                obtain ⟨y0, y1, y2, y3, y4, y5⟩ := hy k hlt
                clear hx hy
                have hlt1 : (k : Int) < (e.args.length : Int) := by omega
                have HA := Lib.hid (e.size_arg k hlt)
                have hq0 : (0 : Int) ≤ (k : Int) := by omega
                have HR1 := Lib.hid (Hs.out k hlt)
                have HR2 := Lib.hid (Hs2.out k hlt)
                have HZ := Lib.hid (show (e.arg k).size ≤ n by have := He.out; have := HA.out; omega)
                go_wp2_with fail
                refine wp_region_quietG (by kernel_rfl) (by kernel_rfl) ?_
                repeat (go_big_quiet_step ((go_at_call 40; exact Calls.quietG' (IH.out (e.arg k) HZ.out S S' (vs k) (vs2 k) _ (by (repeat' (first | (with_reducible exact HR1.out) | (with_reducible exact HR2.out) | (with_reducible refine RepE.alloc ?_ _) | (with_reducible refine RepE.grow ?_ _ _)))) (by (repeat' (first | (with_reducible exact HR1.out) | (with_reducible exact HR2.out) | (with_reducible refine RepE.alloc ?_ _) | (with_reducible refine RepE.grow ?_ _ _))))))))
                refine wpQuiet_nil ?_
                intro _ hw'
                obtain ⟨⟨gb, gd⟩, hw''⟩ := hw'
                subst hw''
                go_wp2_with fail
                go_roundw
                case rel => exact ⟨k + 1, by omega, by go_num, .of_below (by (repeat' (first | (with_reducible exact Below.refl _ _) | (with_reducible assumption) | (with_reducible refine Below.grow ?_ ?_ _ _) | (with_reducible refine Below.alloc ?_ ?_ _) | (with_reducible refine Below.drewN ?_ _) | (with_reducible refine Below.drew ?_) | (with_reducible refine Below.setCell ?_ ?_ _) | go_size)))⟩
                case measure => simp [intOf]; omega
          · obtain rfl : k = e.args.length := by omega
            go_wp2_with fail
            go_returns
            exact ⟨rfl, .of_below (by (repeat' (first | (with_reducible exact Below.refl _ _) | (with_reducible assumption) | (with_reducible refine Below.grow ?_ ?_ _ _) | (with_reducible refine Below.alloc ?_ ?_ _) | (with_reducible refine Below.drewN ?_ _) | (with_reducible refine Below.drew ?_) | (with_reducible refine Below.setCell ?_ ?_ _) | go_size)))⟩
theorem Same_any {S S' : Nat → Prop} {e : Ex} {v v' : Value} {w : World} (h : RepE S w e v) (h' : RepE S' w e v') : Calls Try.prog 40 #[exV e v, exV e v'] w fun r w' => r = .returned (.bool true) ∧ w.Grows w' :=
  Same_walk e.size e (Nat.le_refl _) S S' v v' w h h'
end Go.Proofs.Ytldelkkeimlfcaa
