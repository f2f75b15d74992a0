/- Decimal behind the form's checks. -/
import Derived.Test.YtlheailebbngiaaGreatDoorQFrP
import Derived.Deep.CutBlock
import Derived.Deep.CutRange
import Derived.Deep.DeepCutAuto
import Derived.Shelf.Small.Bits
import Derived.Shelf.Small.Wraps
import Derived.Shelf.Strconv.Itoa0
import Derived.Shelf.Strconv.Itoa1
import Derived.Shelf.LaysM
import Derived.Shelf.Strconv.Itoa2
import Derived.Shelf.Strconv.Itoa3
import Derived.Shelf.Strings.Search1
import Derived.Shelf.Strings.Search2
import Derived.Shelf.Strings.Cut
import Derived.Shelf.Strings.Shaped
import Derived.Shelf.Sort.Plain
import Derived.Shelf.Bits.Mul64
import Derived.Shelf.Slices.Reverse
import Derived.Shelf.Slices.Cells
import Derived.Shelf.Slices.In.SortNone
import Derived.Test.YtlheailebbngiaaGreatDoorProg
import Derived.Lib.IndexMore
import Derived.Lib.IndexLaws
import Derived.Deep.QuietTactic
import Derived.Test.YtlheailebbngiaaGreatDoorQBase
import Derived.Test.YtlheailebbngiaaGreatDoorQSrc
import Derived.ProofKit
import Derived.SizedLaws
import Derived.Deep.Matrix
import Derived.Deep.Fields
import Derived.OpenShut
import Derived.Test.YtlheailebbngiaaGreatDoorRows
import Derived.Below
import Derived.Handed
import Derived.LaidLaws
import Derived.LaidSub
import Derived.Lay
import Derived.Stop.LaidErr
import Derived.MakeChecks
import Derived.Lib.LaidTab
set_option linter.all false
namespace Go.Proofs.YtlheailebbngiaaGreatDoor
open Go.RowKit

theorem natG_ascii : ∀ (l : List UInt8) (x y : Int), natG x l = some y → ∀ c ∈ l, c.toNat < 128
  | [], _, _, _, c, hc => by cases hc
  | e :: r, x, y, h, c, hc => by
    simp only [natG] at h
    split at h
    · rename_i hd
      rcases List.mem_cons.1 hc with rfl | hc
      · simp only [digc, Bool.and_eq_true, decide_eq_true_eq] at hd; omega
      · exact natG_ascii r _ y h c hc
    · cases h
def decN (a b : ByteArray) (m : Int) : Option (Int × Int × Int) := (natG 0 a.data.toList).bind fun x => (natG 0 b.data.toList).map fun p => ((redD (x * 10 ^ b.size + p) (10 ^ b.size)).1, (redD (x * 10 ^ b.size + p) (10 ^ b.size)).2, m)
set_option maxHeartbeats 40000000 in
set_option maxRecDepth 1000000 in
theorem dec_T2 (a b : ByteArray) (m : Int) (w : World) (bs : Array Obj) (d : Nat) (ha : a.size ≤ 9) (hb : b.size ≤ 4)
    (u0 u1 u4 u5 u8 u9 u10 u11 u12 u13 u14 u15 u16 u17 u18 u19 u20 u21 u22 u23 u24 u25 u26 u27 u28 u29 u30 u31 u32 u33 u34 u35 u36 u37 u38 u39 u40 u41 u42 u43 u44 u45 u46 u47 u48 u49 u50 u51 u52 u53 u54 u55 u56 u57 u58 u59 u60 u61 u62 u63 u64 u65 u66 u67 u68 u69 u70 u71 u72 u73 u74 u75 u76 u77 u78 u79 u80 u81 u82 u83 u84 u85 u86 u87 u88 u89 u90 u91 u92 u93 u94 u95 u96 u97 u98 u99 u100 u101 u102 u103 u104 u105 u106 u107 u108 u109 u110 u111 u112 u113 u114 u115 u116 u117 u118 u119 u120 u121 u122 u123 u124 u125 u126 u127 u128 u129 u130 u131 u132 u133 u134 u135 u136 u137 u138 u139 u140 u141 : Value) :
    Code.wp Tryz.prog (tlD (tlD (tlD (tlD (tlD (Tryz.f212.body.getD .skip)))))) (bodyPost Tryz.prog Tryz.f212 (fun e w' => e = .returned (decFV (decN a b m)) ∧ w.Grows w')) { tmps := #[u0, u1, .pointer (some ⟨w.heap.size, 0, none⟩), .int .i64 m, u4, u5, .string a, .string b, u8, u9, u10, u11, u12, u13, u14, u15, u16, u17, u18, u19, u20, u21, u22, u23, u24, u25, u26, u27, u28, u29, u30, u31, u32, u33, u34, u35, u36, u37, u38, u39, u40, u41, u42, u43, u44, u45, u46, u47, u48, u49, u50, u51, u52, u53, u54, u55, u56, u57, u58, u59, u60, u61, u62, u63, u64, u65, u66, u67, u68, u69, u70, u71, u72, u73, u74, u75, u76, u77, u78, u79, u80, u81, u82, u83, u84, u85, u86, u87, u88, u89, u90, u91, u92, u93, u94, u95, u96, u97, u98, u99, u100, u101, u102, u103, u104, u105, u106, u107, u108, u109, u110, u111, u112, u113, u114, u115, u116, u117, u118, u119, u120, u121, u122, u123, u124, u125, u126, u127, u128, u129, u130, u131, u132, u133, u134, u135, u136, u137, u138, u139, u140, u141], defers := [] } ((w.alloc (.cells #[.int .i64 0, .int .i64 0] 23)).grow bs d) := by
  have HA : Hid _ := Lib.hid (fun w => natural2_any a w (by omega))
  have HB : Hid _ := Lib.hid (fun w => natural2_any b w (by omega))
  unfold decN
  cases hna : natG 0 a.data.toList with
  | none =>
    rw [hna] at HA
    simp only [natV, Option.bind_none] at HA ⊢
    clear hna
    cases hnb : natG 0 b.data.toList with
    | none =>
      rw [hnb] at HB
      simp only [natV] at HB
      clear hnb
      conv => arg 2; whnf
      go_wp2_with ((go_at_call 217; first | (with_reducible refine (HA.out _).mono ?_) | (with_reducible refine (HB.out _).mono ?_)); rintro e w' ⟨rfl, rfl⟩)
      go_returns
      exact ⟨rfl, .of_below (by (exact belB))⟩
    | some p =>
      rw [hnb] at HB
      simp only [natV] at HB
      clear hnb
      conv => arg 2; whnf
      go_wp2_with ((go_at_call 217; first | (with_reducible refine (HA.out _).mono ?_) | (with_reducible refine (HB.out _).mono ?_)); rintro e w' ⟨rfl, rfl⟩)
      go_returns
      exact ⟨rfl, .of_below (by (exact belB))⟩
  | some x =>
    have bx := natG_bd _ 0 x (by omega) hna
    rw [hna] at HA
    simp only [natV, Option.bind_some] at HA ⊢
    clear hna
    cases hnb : natG 0 b.data.toList with
    | none =>
      rw [hnb] at HB
      simp only [natV, Option.map_none] at HB ⊢
      clear hnb
      conv => arg 2; whnf
      go_wp2_with ((go_at_call 217; first | (with_reducible refine (HA.out _).mono ?_) | (with_reducible refine (HB.out _).mono ?_)); rintro e w' ⟨rfl, rfl⟩)
      go_returns
      exact ⟨rfl, .of_below (by (exact belB))⟩
    | some p =>
      have bp := natG_bd _ 0 p (by omega) hnb
      have hasc := natG_ascii _ _ _ hnb
      have hx : x ≤ 1000000000 := by
        have h1 : a.data.toList.length = a.size := by simp
        rw [h1] at bx
        have h2 := Nat.pow_le_pow_right (show 1 ≤ 10 by omega) ha
        have h3 : ((10 ^ a.size : Nat) : Int) ≤ ((10 ^ 9 : Nat) : Int) := by exact_mod_cast h2
        simp at h3
        omega
      have hp : p ≤ 10000 := by
        have h1 : b.data.toList.length = b.size := by simp
        rw [h1] at bp
        have h2 := Nat.pow_le_pow_right (show 1 ≤ 10 by omega) hb
        have h3 : ((10 ^ b.size : Nat) : Int) ≤ ((10 ^ 4 : Nat) : Int) := by exact_mod_cast h2
        simp at h3
        omega
      have hx0 := bx.1
      have hp0 := bp.1
      rw [hnb] at HB
      simp only [natV, Option.map_some] at HB ⊢
      clear hnb bx bp
      have hasc2 : ∀ i (h : i < b.size), (b[i]'h).toNat < 128 := fun i h => hasc _ (by
        have : b[i]'h = b.data.toList[i]'(by simpa using h) := by simp; rfl
        rw [this]; exact List.getElem_mem _)
      have HH := Lib.hid (And.intro hasc2 (And.intro hx (And.intro hp (And.intro hx0 hp0))))
      clear hasc hasc2 hx hp hx0 hp0
      conv => arg 2; whnf
      apply wp_seq_k
      intro K1 hK1
      have HK1 := Lib.hid hK1
      clear hK1
      go_wp2_with ((go_at_call 217; first | (with_reducible refine (HA.out _).mono ?_) | (with_reducible refine (HB.out _).mono ?_)); rintro e w' ⟨rfl, rfl⟩)
      refine HK1.out _ _ ?_
      clear HK1 K1
      apply wp_seq_k
      intro K2 hK2
      have HK2 := Lib.hid hK2
      clear hK2
      go_wp2_with ((go_at_call 217; first | (with_reducible refine (HA.out _).mono ?_) | (with_reducible refine (HB.out _).mono ?_)); rintro e w' ⟨rfl, rfl⟩)
      refine HK2.out _ _ ?_
      clear HK2 K2
      apply wp_seq_k
      intro K3 hK3
      have HK3 := Lib.hid hK3
      clear hK3
      go_wp2_with ((go_at_call 217; first | (with_reducible refine (HA.out _).mono ?_) | (with_reducible refine (HB.out _).mono ?_)); rintro e w' ⟨rfl, rfl⟩)
      refine HK3.out _ _ ?_
      exact dec_T3 b x p m w bs _ hb HH.out.1 HH.out.2.2.2.1 HH.out.2.1 HH.out.2.2.2.2 HH.out.2.2.1 _ _ _ _ _ _ _ _ _ _ _ _ _ _ _ _ _ _ _ _ _ _ _ _ _ _ _ _ _ _ _ _ _ _ _ _ _ _ _ _ _ _ _ _ _ _ _ _ _ _ _ _ _ _ _ _ _ _ _ _ _ _ _ _ _ _ _ _ _ _ _ _ _ _ _ _ _ _ _ _ _ _ _ _ _ _ _ _ _ _ _ _ _ _ _ _ _ _ _ _ _ _ _ _ _ _ _ _ _ _ _ _ _ _ _ _ _ _ _ _ _ _ _ _ _ _ _ _ _ _ _ _ _ _ _ _ _
end Go.Proofs.YtlheailebbngiaaGreatDoor
/- Contracts of the library at this dump, out of its shelf. -/
namespace Go.Proofs
open Go.Shelf
def Tryz.laysM171_ren : Go.Shelf.Ren := ⟨fun | 171 => 211 | 243 => 215 | 246 => 220 | 283 => 223 | 284 => 224 | 285 => 225 | 286 => 226 | 129 => 178 | 317 => 228 | 318 => 229 | 319 => 230 | 320 => 231 | 337 => 236 | 338 => 237 | n => n, fun | 3 => 3 | 9 => 9 | 2 => 2 | 4 => 4 | 171 => 255 | 0 => 0 | 53 => 155 | 37 => 184 | 5 => 5 | 173 => 257 | 212 => 261 | 51 => 222 | 20 => 20 | 213 => 262 | 46 => 193 | 232 => 266 | 233 => 267 | n => n, fun | 17 => 2 | 18 => 4 | 19 => 5 | n => n⟩
theorem Tryz.laysM171 : Go.Proofs.LaysM.n171 Tryz.prog Tryz.laysM171_ren := {
  mixed := by kernel_rfl
  f129 := Tryz.func178.trans (congrArg some (by kernel_rfl))
  f171 := Tryz.func211.trans (congrArg some (by kernel_rfl))
  f243 := Tryz.func215.trans (congrArg some (by kernel_rfl))
  f246 := Tryz.func220.trans (congrArg some (by kernel_rfl))
  f283 := Tryz.func223.trans (congrArg some (by kernel_rfl))
  f284 := Tryz.func224.trans (congrArg some (by kernel_rfl))
  f285 := Tryz.func225.trans (congrArg some (by kernel_rfl))
  f286 := Tryz.func226.trans (congrArg some (by kernel_rfl))
  f317 := Tryz.func228.trans (congrArg some (by kernel_rfl))
  f318 := Tryz.func229.trans (congrArg some (by kernel_rfl))
  f319 := Tryz.func230.trans (congrArg some (by kernel_rfl))
  f320 := Tryz.func231.trans (congrArg some (by kernel_rfl))
  f337 := Tryz.func236.trans (congrArg some (by kernel_rfl))
  f338 := Tryz.func237.trans (congrArg some (by kernel_rfl))
  t0 := Tryz.underlying0
  a0 := Tryz.isAgg0
  z0 := Tryz.sizeOf0
  v0 := Tryz.zeroValue0
  t2 := Tryz.underlying2
  a2 := Tryz.isAgg2
  z2 := Tryz.sizeOf2
  v2 := Tryz.zeroValue2
  t3 := Tryz.underlying3
  a3 := Tryz.isAgg3
  z3 := Tryz.sizeOf3
  v3 := Tryz.zeroValue3
  t4 := Tryz.underlying4
  a4 := Tryz.isAgg4
  z4 := Tryz.sizeOf4
  v4 := Tryz.zeroValue4
  t5 := Tryz.underlying5
  a5 := Tryz.isAgg5
  z5 := Tryz.sizeOf5
  v5 := Tryz.zeroValue5
  t9 := Tryz.underlying9
  a9 := Tryz.isAgg9
  z9 := Tryz.sizeOf9
  v9 := Tryz.zeroValue9
  t20 := Tryz.underlying20
  a20 := Tryz.isAgg20
  z20 := Tryz.sizeOf20
  v20 := Tryz.zeroValue20
  t37 := Tryz.underlying184
  a37 := Tryz.isAgg184
  z37 := Tryz.sizeOf184
  v37 := Tryz.zeroValue184
  t46 := Tryz.underlying193
  a46 := Tryz.isAgg193
  z46 := Tryz.sizeOf193
  v46 := Tryz.zeroValue193
  t51 := Tryz.underlying222
  a51 := Tryz.isAgg222
  z51 := Tryz.sizeOf222
  v51 := Tryz.zeroValue222
  t53 := Tryz.underlying155
  a53 := Tryz.isAgg155
  z53 := Tryz.sizeOf155
  v53 := Tryz.zeroValue155
  t171 := Tryz.underlying255
  a171 := Tryz.isAgg255
  z171 := Tryz.sizeOf255
  v171 := Tryz.zeroValue255
  t173 := Tryz.underlying257
  a173 := Tryz.isAgg257
  z173 := Tryz.sizeOf257
  v173 := Tryz.zeroValue257
  t212 := Tryz.underlying261
  a212 := Tryz.isAgg261
  z212 := Tryz.sizeOf261
  v212 := Tryz.zeroValue261
  t213 := Tryz.underlying262
  a213 := Tryz.isAgg262
  z213 := Tryz.sizeOf262
  t232 := Tryz.underlying266
  a232 := Tryz.isAgg266
  z232 := Tryz.sizeOf266
  v232 := Tryz.zeroValue266
  t233 := Tryz.underlying267
  a233 := Tryz.isAgg267
  z233 := Tryz.sizeOf267
  v233 := Tryz.zeroValue267
  g17 := by kernel_rfl
  g18 := by kernel_rfl
  g19 := by kernel_rfl
  i0 := by kernel_rfl
  i2 := by kernel_rfl
  i3 := by kernel_rfl
  i4 := by kernel_rfl
  i5 := by kernel_rfl
  i9 := by kernel_rfl
  i20 := by kernel_rfl
  i37 := by kernel_rfl
  i46 := by kernel_rfl
  i51 := by kernel_rfl
  i53 := by kernel_rfl
  i171 := by kernel_rfl
  i173 := by kernel_rfl
  i212 := by kernel_rfl
  i232 := by kernel_rfl
  i233 := by kernel_rfl
  m17 := by kernel_rfl
  m18 := by kernel_rfl
  m19 := by kernel_rfl }
open Go.RowKit Go.Sort Go.Lib in
theorem Tryz.strconv_Itoa (n : Int) (h0 : -9223372036854775808 ≤ n) (h1 : n ≤ 9223372036854775807) (w : World) (htab : Lib.TabIs Tryz.prog w "internal/strconv.uint64pow10" .u64 Lib.pow10Tab) :
    Calls Tryz.prog 211 #[.int .i64 n] w fun e w' => e = .returned (.string ⟨(Lib.itoa n).toArray⟩) ∧ ∃ k os, w' = grow (w.drewN k) os := Any.strconv_Itoa Tryz.laysM171 n h0 h1 w htab
def Tryz.lays171_ren : Go.Shelf.Ren := ⟨fun | 171 => 211 | 243 => 215 | 246 => 220 | 283 => 223 | 284 => 224 | 285 => 225 | 286 => 226 | 129 => 178 | 317 => 228 | 318 => 229 | 319 => 230 | 320 => 231 | 337 => 236 | 338 => 237 | n => n, fun | 3 => 3 | 9 => 9 | 2 => 2 | 4 => 4 | 171 => 255 | 0 => 0 | 53 => 155 | 37 => 184 | 5 => 5 | 173 => 257 | 212 => 261 | 51 => 222 | 20 => 20 | 213 => 262 | 46 => 193 | 232 => 266 | 233 => 267 | n => n, fun | 17 => 2 | 18 => 4 | 19 => 5 | n => n⟩
theorem Tryz.lays171 : Go.Proofs.Lays.n171 Tryz.prog Tryz.lays171_ren := {
  mixed := by kernel_rfl
  f129 := Tryz.func178.trans (congrArg some (by kernel_rfl))
  f171 := Tryz.func211.trans (congrArg some (by kernel_rfl))
  f243 := Tryz.func215.trans (congrArg some (by kernel_rfl))
  f246 := Tryz.func220.trans (congrArg some (by kernel_rfl))
  f283 := Tryz.func223.trans (congrArg some (by kernel_rfl))
  f284 := Tryz.func224.trans (congrArg some (by kernel_rfl))
  f285 := Tryz.func225.trans (congrArg some (by kernel_rfl))
  f286 := Tryz.func226.trans (congrArg some (by kernel_rfl))
  f317 := Tryz.func228.trans (congrArg some (by kernel_rfl))
  f318 := Tryz.func229.trans (congrArg some (by kernel_rfl))
  f319 := Tryz.func230.trans (congrArg some (by kernel_rfl))
  f320 := Tryz.func231.trans (congrArg some (by kernel_rfl))
  f337 := Tryz.func236.trans (congrArg some (by kernel_rfl))
  f338 := Tryz.func237.trans (congrArg some (by kernel_rfl))
  t0 := Tryz.underlying0
  a0 := Tryz.isAgg0
  z0 := Tryz.sizeOf0
  v0 := Tryz.zeroValue0
  t2 := Tryz.underlying2
  a2 := Tryz.isAgg2
  z2 := Tryz.sizeOf2
  v2 := Tryz.zeroValue2
  t3 := Tryz.underlying3
  a3 := Tryz.isAgg3
  z3 := Tryz.sizeOf3
  v3 := Tryz.zeroValue3
  t4 := Tryz.underlying4
  a4 := Tryz.isAgg4
  z4 := Tryz.sizeOf4
  v4 := Tryz.zeroValue4
  t5 := Tryz.underlying5
  a5 := Tryz.isAgg5
  z5 := Tryz.sizeOf5
  v5 := Tryz.zeroValue5
  t9 := Tryz.underlying9
  a9 := Tryz.isAgg9
  z9 := Tryz.sizeOf9
  v9 := Tryz.zeroValue9
  t20 := Tryz.underlying20
  a20 := Tryz.isAgg20
  z20 := Tryz.sizeOf20
  v20 := Tryz.zeroValue20
  t37 := Tryz.underlying184
  a37 := Tryz.isAgg184
  z37 := Tryz.sizeOf184
  v37 := Tryz.zeroValue184
  t46 := Tryz.underlying193
  a46 := Tryz.isAgg193
  z46 := Tryz.sizeOf193
  v46 := Tryz.zeroValue193
  t51 := Tryz.underlying222
  a51 := Tryz.isAgg222
  z51 := Tryz.sizeOf222
  v51 := Tryz.zeroValue222
  t53 := Tryz.underlying155
  a53 := Tryz.isAgg155
  z53 := Tryz.sizeOf155
  v53 := Tryz.zeroValue155
  t171 := Tryz.underlying255
  a171 := Tryz.isAgg255
  z171 := Tryz.sizeOf255
  v171 := Tryz.zeroValue255
  t173 := Tryz.underlying257
  a173 := Tryz.isAgg257
  z173 := Tryz.sizeOf257
  v173 := Tryz.zeroValue257
  t212 := Tryz.underlying261
  a212 := Tryz.isAgg261
  z212 := Tryz.sizeOf261
  v212 := Tryz.zeroValue261
  t213 := Tryz.underlying262
  a213 := Tryz.isAgg262
  z213 := Tryz.sizeOf262
  t232 := Tryz.underlying266
  a232 := Tryz.isAgg266
  z232 := Tryz.sizeOf266
  v232 := Tryz.zeroValue266
  t233 := Tryz.underlying267
  a233 := Tryz.isAgg267
  z233 := Tryz.sizeOf267
  v233 := Tryz.zeroValue267
  g17 := by kernel_rfl
  g18 := by kernel_rfl
  g19 := by kernel_rfl }
open Go.RowKit Go.Sort Go.Lib in
theorem Tryz.strconv_Itoa_small (i : Nat) (hi : i < 100) (w : World) :
    Calls Tryz.prog 211 #[.int .i64 i] w fun e w' => e = .returned (.string ⟨(Lib.decDigits i).toArray⟩) ∧ w' = w := Any.strconv_Itoa_small Tryz.lays171 i hi w
def Tryz.lays219_ren : Go.Shelf.Ren := ⟨fun | 219 => 227 | 217 => 232 | 225 => 233 | 224 => 234 | 267 => 235 | 266 => 238 | 314 => 239 | n => n, fun | 9 => 9 | 3 => 3 | 4 => 4 | 5 => 5 | 46 => 193 | 146 => 264 | 51 => 222 | n => n, fun | 1 => 3 | n => n⟩
theorem Tryz.lays219 : Go.Proofs.Lays.n219 Tryz.prog Tryz.lays219_ren := {
  mixed := by kernel_rfl
  f217 := Tryz.func232.trans (congrArg some (by kernel_rfl))
  f219 := Tryz.func227.trans (congrArg some (by kernel_rfl))
  f224 := Tryz.func234.trans (congrArg some (by kernel_rfl))
  f225 := Tryz.func233.trans (congrArg some (by kernel_rfl))
  f266 := Tryz.func238.trans (congrArg some (by kernel_rfl))
  f267 := Tryz.func235.trans (congrArg some (by kernel_rfl))
  f314 := Tryz.func239.trans (congrArg some (by kernel_rfl))
  t3 := Tryz.underlying3
  a3 := Tryz.isAgg3
  z3 := Tryz.sizeOf3
  v3 := Tryz.zeroValue3
  t4 := Tryz.underlying4
  a4 := Tryz.isAgg4
  z4 := Tryz.sizeOf4
  v4 := Tryz.zeroValue4
  t5 := Tryz.underlying5
  a5 := Tryz.isAgg5
  z5 := Tryz.sizeOf5
  v5 := Tryz.zeroValue5
  t9 := Tryz.underlying9
  a9 := Tryz.isAgg9
  z9 := Tryz.sizeOf9
  v9 := Tryz.zeroValue9
  t46 := Tryz.underlying193
  a46 := Tryz.isAgg193
  z46 := Tryz.sizeOf193
  v46 := Tryz.zeroValue193
  t51 := Tryz.underlying222
  a51 := Tryz.isAgg222
  z51 := Tryz.sizeOf222
  v51 := Tryz.zeroValue222
  t146 := Tryz.underlying264
  a146 := Tryz.isAgg264
  z146 := Tryz.sizeOf264
  v146 := Tryz.zeroValue264
  g1 := by kernel_rfl }
open Go.RowKit Go.Lib in
theorem Tryz.stringslite_Index_one (s : ByteArray) (c : UInt8) (w : World) :
    Calls Tryz.prog 227 #[.string s, .string ⟨#[c]⟩] w fun e w' => e = .returned (.int .i64 (Lib.indexByte s.data.toList c)) ∧ w' = w := Any.stringslite_Index_one Tryz.lays219 s c w
open Go.RowKit Go.Lib in
theorem Tryz.stringslite_Index (s sub : ByteArray) (m : Int) (w : World) (hs : s.size < 4294967281) (hm : w.cell? ⟨3, 0, none⟩ = some (.int .i64 m)) :
    Calls Tryz.prog 227 #[.string s, .string sub] w fun e w' => e = .returned (.int .i64 (Lib.index s.data.toList sub.data.toList)) ∧ w' = w := Any.stringslite_Index Tryz.lays219 s sub m w hs hm
end Go.Proofs
/- Decimal behind the dimension's letter. -/
namespace Go.Proofs.YtlheailebbngiaaGreatDoor
open Go.RowKit

theorem index_byte : ∀ (l : List UInt8) (c : UInt8), Lib.index l [c] = Lib.indexByte l c
  | [], c => by simp [Lib.index, Lib.indexByte]
  | b :: l, c => by
    have ih := index_byte l c
    have hp : ([c] : List UInt8).isPrefixOf (b :: l) = (b == c) := by
      simp only [List.isPrefixOf, Bool.and_true]
      exact BEq.comm
    unfold Lib.index Lib.indexByte
    rw [hp, ih]
def cutA (t : ByteArray) : ByteArray := ⟨(Lib.cut t.data.toList [46]).1.toArray⟩
def cutB (t : ByteArray) : ByteArray := ⟨(Lib.cut t.data.toList [46]).2.1.toArray⟩
def cutP (t : ByteArray) : Bool := (Lib.cut t.data.toList [46]).2.2
theorem cut_some {t : ByteArray} {o : Nat} (h : Lib.indexByte t.data.toList 46 = o) (ho : o < t.size) : cutA t = t.extract 0 o ∧ cutB t = t.extract (o + 1) t.size ∧ cutP t = true := by
  have e : Lib.cut t.data.toList [46] = (t.data.toList.take o, t.data.toList.drop (o + 1), true) := by
    unfold Lib.cut
    rw [index_byte, h, if_pos (by omega)]
    simp
  unfold cutA cutB cutP
  rw [e]
  refine ⟨?_, ?_, rfl⟩
  · apply ByteArray.ext
    rw [ByteArray.data_extract]
    apply Array.ext'
    rw [Array.toList_extract]
    simp [List.extract]
  · apply ByteArray.ext
    rw [ByteArray.data_extract]
    apply Array.ext'
    rw [Array.toList_extract]
    simp only [List.extract]
    rw [List.take_of_length_le]
    rw [List.length_drop, Array.length_toList]
    exact Nat.le_refl _
theorem cut_none {t : ByteArray} (h : Lib.indexByte t.data.toList 46 = -1) : cutA t = t ∧ cutB t = ⟨#[]⟩ ∧ cutP t = false := by
  have e : Lib.cut t.data.toList [46] = (t.data.toList, [], false) := by
    unfold Lib.cut
    rw [index_byte, h, if_neg (by omega)]
  unfold cutA cutB cutP
  rw [e]
  exact ⟨by apply ByteArray.ext; simp, rfl, rfl⟩
set_option maxHeartbeats 2000000 in
theorem scut_any (t : ByteArray) (w : World) (ht : t.size ≤ maxLen) : Calls Tryz.prog 221 #[.string t, .string ⟨#[46]⟩] w fun e w' => e = .returned (.tuple #[.string (cutA t), .string (cutB t), .bool (cutP t)]) ∧ w.Grows w' := by
  unfold maxLen at ht
  have HI : Hid _ := Lib.hid (fun w => Tryz.stringslite_Index_one t 46 w)
  have hge := Lib.indexByte_ge t.data.toList 46
  by_cases h : Lib.indexByte t.data.toList 46 = -1
  · have HC := Lib.hid (cut_none h)
    rw [h] at HI
    clear h hge
    go_enter Tryz.func221, Tryz.ntmps221
    go_wp2_with ((go_at_call 227; (with_reducible refine (HI.out _).mono ?_); rintro e w' ⟨rfl, rfl⟩))
    go_returns
    exact ⟨by rw [HC.out.1, HC.out.2.1, HC.out.2.2]; rfl, .of_below (by (exact belB))⟩
  · obtain ⟨o, ho⟩ : ∃ o : Nat, Lib.indexByte t.data.toList 46 = o := ⟨(Lib.indexByte t.data.toList 46).toNat, by omega⟩
    have hlt : o < t.size := by
      have := (Lib.indexByte_some ho).1
      have h2 := (List.getElem?_eq_some_iff.1 this).1
      simpa using h2
    have HC := Lib.hid (cut_some ho hlt)
    rw [ho] at HI
    have h1 : (o : Int) + 1 ≤ t.size := by omega
    have h2 : ¬ (o : Int) < 0 := by omega
    have h3 : (o : Int) ≤ t.size := by omega
    have e1 : (t.extract 0 (o : Int).toNat) = t.extract 0 o := by rw [Int.toNat_natCast]
    have e2 : t.extract ((o : Int) + 1).toNat t.size = t.extract (o + 1) t.size := by congr 1
    have E := Lib.hid (And.intro e1 e2)
    clear e1 e2 h hge ho
    go_enter Tryz.func221, Tryz.ntmps221
    go_wp2_with ((go_at_call 227; (with_reducible refine (HI.out _).mono ?_); rintro e w' ⟨rfl, rfl⟩))
    go_quiet (fail)
    go_wp2_with fail
    go_returns
    exact ⟨by rw [HC.out.1, HC.out.2.1, HC.out.2.2]; first | rfl | (simp; done), .of_below (by (exact belB))⟩
set_option maxHeartbeats 2000000 in
theorem Cut_dot (t : ByteArray) (w : World) (ht : t.size ≤ maxLen) : Calls Tryz.prog 216 #[.string t, .string ⟨#[46]⟩] w fun e w' => e = .returned (.tuple #[.string (cutA t), .string (cutB t), .bool (cutP t)]) ∧ w.Grows w' := by
  have HI : Hid _ := Lib.hid (fun w => scut_any t w ht)
  generalize cutA t = a at *
  generalize cutB t = b at *
  generalize cutP t = c at *
  go_enter Tryz.func216, Tryz.ntmps216
  go_wp2_with ((go_at_call 221; (with_reducible refine (HI.out _).mono ?_); rintro e w' ⟨rfl, bs, dr, rfl⟩))
  go_returns
  exact ⟨rfl, .of_below (by (exact belB))⟩
end Go.Proofs.YtlheailebbngiaaGreatDoor
/- The table of powers of ten that strconv.Itoa reads: it lies where it lay in every world that has only grown. -/
namespace Go.Proofs.YtlheailebbngiaaGreatDoor
open Go.RowKit
def Tab (w : World) : Prop := Lib.TabIs Tryz.prog w "internal/strconv.uint64pow10" .u64 Lib.pow10Tab
theorem Tab.below {w w' : World} (h : Tab w) (hb : Below w.heap.size w w') : Tab w' := by
  unfold Tab Lib.TabIs World.var? at *
  cases hg : Program.globalNamed Tryz.prog "internal/strconv.uint64pow10" with
  | none => simp [hg] at h
  | some g =>
    simp only [hg, Option.bind_some] at h ⊢
    have hlt : g < w.heap.size := by
      rcases Nat.lt_or_ge g w.heap.size with h' | h'
      · exact h'
      · rw [Array.getElem?_eq_none h'] at h; simp at h
    rw [hb.block g hlt]
    exact h
theorem Tab.grow {w : World} (h : Tab w) (bs : Array Obj) (d : Nat) : Tab (w.grow bs d) := h.below ((Below.refl _ _).grow (Nat.le_refl _) _ _)
theorem Tab.alloc {w : World} (h : Tab w) (o : Obj) : Tab (w.alloc o) := h.below ((Below.refl _ _).alloc (Nat.le_refl _) _)
theorem Tab.drewN {w : World} (h : Tab w) (n : Nat) : Tab (w.drewN n) := h.below ⟨rfl, rfl, rfl, Nat.le_refl _, fun _ _ => rfl⟩
theorem Tab.grows {w w' : World} (h : Tab w) (hg : w.Grows w') : Tab w' := h.below hg.below
theorem Itoa_any (n : Int) (h0 : -9223372036854775808 ≤ n) (h1 : n ≤ 9223372036854775807) (w : World) (ht : Tab w) : Calls Tryz.prog 211 #[.int .i64 n] w fun e w' => e = .returned (.string ⟨(Lib.itoa n).toArray⟩) ∧ w.Grows w' :=
  (Tryz.strconv_Itoa n h0 h1 w ht).mono fun e w' ⟨he, k, os, hw⟩ => ⟨he, by
    subst hw
    refine .of_below ⟨rfl, rfl, rfl, by simp [Sort.grow, World.drewN], fun j hj => ?_⟩
    simp only [Sort.grow, World.drewN]
    rw [Array.getElem?_append_left hj]⟩
theorem Itoa_digit (x : Int) (h0 : 0 ≤ x) (h1 : x ≤ 9) (w : World) : Calls Tryz.prog 211 #[.int .i64 x] w fun e w' => e = .returned (.string ⟨(Lib.decDigits x.toNat).toArray⟩) ∧ w = w' := by
  obtain ⟨i, rfl⟩ := Int.eq_ofNat_of_zero_le h0
  exact (Tryz.strconv_Itoa_small i (by omega) w).mono fun e w' ⟨he, hw⟩ => ⟨he, hw.symm⟩
end Go.Proofs.YtlheailebbngiaaGreatDoor
/- Integers and slices of integers that came in, as data. -/
namespace Go.Proofs.YtlheailebbngiaaGreatDoor
open Go.RowKit Go.ChangeShapes Go.WideShapes Go.Deep
section
variable {H : Type} {enc : TypeId × Value → H} {P : Program} {w : World}
def fits (P : Program) (t : TypeId) (d : DataW H) : Prop := ∀ n ∈ d.weights P t, n ≤ 140737488351232

theorem add_at' (b off i : Nat) : (⟨b, off, none⟩ : Addr).add i = ⟨b, off + i, none⟩ := by unfold Addr.add; split <;> simp_all
theorem cell_lt {w : World} {b o : Nat} {v : Value} (h : w.cell? ⟨b, o, none⟩ = some v) : b < w.heap.size := by
  rcases Nat.lt_or_ge b w.heap.size with h1 | h1
  · exact h1
  · simp [World.cell?, Array.getElem?_eq_none h1] at h
theorem i64_of_wf {n : Int} (h : (Lit.int .i64 n).wf = true) : I64 n := bounds_i64 h
/-- A slice of integers that came in. -/
theorem IntsAt.of_cells {a : Option Addr} {len cap : Nat} {zs : List Int} (hl : len ≤ cap) (hz : zs.length = cap) (hw : ∀ n ∈ zs, (Lit.int .i64 n).wf = true) (hb : len ≤ 140737488355328) (ha : a = none → len = 0)
    (hc : ∀ x, a = some x → ∀ i, i < cap → w.cell? (x.add i) = some (.int .i64 (zs.getD i 0))) : IntsAt w (.slice a len cap) (zs.take len) := by
  have hlen : (zs.take len).length = len := by rw [List.length_take]; omega
  refine ⟨by omega, fun z hz2 => i64_of_wf (hw z (List.mem_of_mem_take hz2)), a, cap, by rw [hlen], ?_⟩
  rw [hlen]
  by_cases h0 : len = 0
  · exact .inl h0
  · cases a with
    | none => exact .inl (ha rfl)
    | some x =>
      obtain ⟨b, off, spot⟩ := x
      have h1 := hc _ rfl 0 (by omega)
      have hspot : spot = none := by simpa [Addr.add] using World.cell?_spot h1
      subst hspot
      have h2 : ∀ i, i < cap → w.cell? ⟨b, off + i, none⟩ = some (.int .i64 (zs.getD i 0)) := fun i hi => by
        rw [← add_at']; exact hc _ rfl i hi
      refine .inr ⟨b, off, rfl, cell_lt (h2 0 (by omega)), fun i hi => ?_⟩
      rw [h2 i (by omega)]
      simp [List.getD_eq_getElem?_getD, hi]
theorem IntsAt.of_trod {t e : TypeId} {fuel : Nat} {v : Value} {x : DataW H × List MemPlace} (ht : P.underlying t = some (.slice e)) (he : P.underlying e = some (.int .i64)) (hc : P.cellsOf e = 1) (hb : P.bytesOf e = 8)
    (h : DataW.trod enc P w 0 (fun _ => true) true fuel t [v] = some x) (hf : fits P t x.1) : ∃ zs, IntsAt w v zs := by
  rcases open_ints ht he hc h with ⟨hcs, _⟩ | ⟨a, l, c, zs, hcs, _, hl, hm, hz, hx, hcell, hwz⟩
  · simp at hcs
    subst hcs
    exact ⟨[], by simp, by simp, none, 0, rfl, .inl rfl⟩
  · simp at hcs
    subst hcs
    simp only [if_true] at hz
    have h8 : l ≤ 140737488355328 := by
      have h9 := hf ((l + (c - l)) * 8) (by rw [hx]; simp [DataW.weights, ht, lits, hb, hz, Nat.min_eq_left hl])
      omega
    exact ⟨zs.take l, IntsAt.of_cells hl hz hwz h8 (fun e => by cases e) fun x' hx' i hi => by cases hx'; exact hcell i (by omega)⟩
end
theorem c3 : (Tryz.prog).cellsOf 3 = 1 := by kernel_rfl
theorem c22 : (Tryz.prog).cellsOf 24 = 1 := by kernel_rfl
theorem b3 : (Tryz.prog).bytesOf 3 = 8 := by kernel_rfl
theorem b22 : (Tryz.prog).bytesOf 24 = 24 := by kernel_rfl
theorem fits_part {H : Type} {P : Program} {t : TypeId} {fs : Array Field} {l : List (DataW H)} {i : Nat} {f : Field} {d : DataW H} (ht : P.underlying t = some (.struct fs)) (h : fits P t (.agg l)) (hf : fs[i]? = some f) (hd : l[i]? = some d) : fits P f.type d := by
  intro n hn
  refine h n ?_
  simp only [DataW.weights, ht]
  exact DataW.weights_mem_each (j := i) (by simp [hf]) hd n hn
theorem int_of_trod {H : Type} {enc : TypeId × Value → H} {w : World} {fuel : Nat} {v : Value} {x : DataW H × List MemPlace} (h : DataW.trod enc Tryz.prog w 0 (fun _ => true) true fuel 3 [v] = some x) : ∃ n, v = .int .i64 n ∧ I64 n := by
  obtain ⟨n, hcs, _, hw⟩ := DataW.trod_int Tryz.underlying3 h
  exact ⟨n, by simpa using hcs, i64_of_wf hw⟩
end Go.Proofs.YtlheailebbngiaaGreatDoor
/- A law's row that lists the library's tables: from the walk to the statement, whatever its parameters. -/
namespace Go.Proofs.YtlheailebbngiaaGreatDoor
open Go.ChangeShapes Go.WideShapes Go.ChangeAt Go.RowKit
/-- What the rows list. -/
abbrev laidsX : List (String × DataW Unit) := [("math/bits.deBruijn32tab", Rows.laid_math_bits_deBruijn32tab), ("math/bits.deBruijn64tab", Rows.laid_math_bits_deBruijn64tab), ("internal/strconv.uint64pow10", Rows.laid_internal_strconv_uint64pow10)]
theorem pow10_data : (Rows.laid_internal_strconv_uint64pow10 : DataW Unit) = Lib.tabData .u64 Lib.pow10Tab := by kernel_rfl
theorem laids_plain {W : World} (h : laidMetH Tryz.prog laidsX W) : laidMet Tryz.prog laidsX W := by
  rwa [MakeChecks.laidMetH_plain _ _ _ (by kernel_rfl)] at h
theorem below_trodAll {H : Type} {enc : TypeId × Value → H} {P : Program} {W W' : World} (hl : laidOutB P = true) (hb : Below W.heap.size W W') : ∀ (ts : List TypeId) (vs : List Value) (ds : List (DataW H)) (ps : List MemPlace), (∀ t ∈ ts, P.readableRec t = true ∧ t < P.types.size) →
    DataW.TrodAll enc P W 0 (fun _ => true) true ts vs ds ps → (∀ x ∈ ps, x.block < W.heap.size) → DataW.TrodAll enc P W' 0 (fun b => decide (b < W.heap.size)) true ts vs ds ps
  | [], [], [], _, _, h, _ => h
  | t :: ts, v :: vs, d :: ds, ps, hr, h, hlt => by
    obtain ⟨p, q, h1, h2, rfl⟩ := h
    exact ⟨p, q, Below.trod hl (hr t List.mem_cons_self).1 (hr t List.mem_cons_self).2 h1 hb fun x hx => hlt x (List.mem_append_left _ hx),
      below_trodAll hl hb ts vs ds q (fun t ht => hr t (List.mem_cons_of_mem _ ht)) h2 fun x hx => hlt x (List.mem_append_right _ hx), rfl⟩
  | [], _ :: _, _, _, _, h, _ => h.elim
  | [], [], _ :: _, _, _, h, _ => h.elim
  | _ :: _, [], _, _, _, h, _ => h.elim
  | _ :: _, _ :: _, [], _, _, h, _ => h.elim
/-- A law's call, told of what came in and of the tables: it returns true and writes nothing that was there. -/
def LawWalk {H : Type} (enc : TypeId × Value → H) (P : Program) (f : FuncId) (ts : List TypeId) : Prop :=
  ∀ (W : World) (base : Nat) (args : Array Value) (ds : List (DataW H)) (p : List MemPlace), laidMetH P laidsX W → (∀ (j : Nat) t v, ts[j]? = some t → args[j]? = some v → Value.okWide P W .any base t v) →
    DataW.TrodAll enc P W 0 (fun _ => true) true ts args.toList ds p → (∀ (j : Nat) t d, ts[j]? = some t → ds[j]? = some d → fits P t d) →
    Calls P f args W fun e W' => e = .returned (.bool true) ∧ Below W.heap.size W W'
theorem law_post {H : Type} {enc : TypeId × Value → H} {P : Program} {fn : Func} {s : ChangeSpec} {W W' : World} {args : Array Value} {ds gs : List (DataW H)} {before : List MemPlace} (hl : laidOutB P = true)
    (hr : fn.params.toList.all (fun t => P.readableRec t && decide (t < P.types.size)) = true) (hres : fn.resultTypes = #[4]) (hu : P.underlying 4 = some .bool) (hvars : s.vars = [])
    (hspec : ∀ ds : List (DataW H), ds.length = fn.params.size → s.fn H (ds ++ []) = { results := [.lit (.bool true)], args := ds })
    (hW : DataW.Whole enc P fn.params.toList s.vars false W args.toList ds gs before) (hb : Below W.heap.size W W') : s.post enc P fn false true false false W args (.bool true) W' := by
  have hW' := hW
  obtain ⟨p, q, hA, hV, rfl, hfz, hnd⟩ := hW
  rw [hvars] at hV
  obtain ⟨rfl, rfl⟩ := trodVars_none hV
  have hlen : ∀ (ts : List TypeId) (vs : List Value) (ds : List (DataW H)) (ps : List MemPlace), DataW.TrodAll enc P W 0 (fun _ => true) true ts vs ds ps → ds.length = ts.length := by
    intro ts
    induction ts with
    | nil => intro vs ds ps h; cases vs <;> cases ds <;> simp_all [DataW.TrodAll]
    | cons t ts ih =>
      intro vs ds ps h
      cases vs with
      | nil => exact h.elim
      | cons v vs =>
        cases ds with
        | nil => exact h.elim
        | cons d ds =>
          obtain ⟨_, _, _, h2, _⟩ := h
          simp [ih _ _ _ h2]
  have hds : ds.length = fn.params.size := by rw [hlen _ _ _ _ hA]; simp
  have hs := hspec ds hds
  have hlt : ∀ x ∈ p, x.block < W.heap.size := fun x hx => by have := hW'.lt x (by simpa using hx); simpa using this
  refine ⟨ds, [], p ++ [], [], p, [], hW', ?_, ?_, ?_, hb.frame _, fun h => by cases h⟩
  · rw [hs, hres]
    exact trodAll_mk1 (shut_bool hu _)
  · rw [hs]
    refine below_trodAll hl hb _ _ _ _ (fun t ht => ?_) hA hlt
    have := List.all_eq_true.1 hr t ht
    simpa using this
  · rw [hs, hvars]; rfl
theorem law_lift {H : Type} {enc : TypeId × Value → H} {C : Checked} {os : Os} {f : FuncId} {fn : Func} {s : ChangeSpec} {conds : List PathCond} (own : ownKnob C.prog.godebug = none) (started : os.Started) (noInit : C.prog.inits.idxOf? f = none) (hfn : C.prog.funcs[f]? = some fn)
    (witness : ∃ (w : World) (tape : Tape) (i : Input), w.os = os ∧ (w.forCall tape i).Shaped C.prog ∧ i.vars = [] ∧ Input.okWide C.prog (w.forCall tape i) .any w.heap.size f i ∧
      ((s.pre enc C.prog fn conds false (w.forCall tape i).memory i.args ∧ laidMetH C.prog laidsX (w.forCall tape i).memory) ∧ sizedMet enc C.prog fn (OpenSpec.ofChange s) false (w.forCall tape i).memory i.args) ∧ ({} : Assume).holds C.prog (lone (Frame.enter C.prog f i.args .normal) [] (w.forCall tape i)))
    (hl : laidOutB C.prog = true) (hr : fn.params.toList.all (fun t => C.prog.readableRec t && decide (t < C.prog.types.size)) = true) (hres : fn.resultTypes = #[4]) (hu : C.prog.underlying 4 = some .bool) (hvars : s.vars = [])
    (hspec : ∀ ds : List (DataW H), ds.length = fn.params.size → s.fn H (ds ++ []) = { results := [.lit (.bool true)], args := ds }) (walk : LawWalk enc C.prog f fn.params.toList) :
    ReturnsInHanded {} C os f .any (fun w args => (s.pre enc C.prog fn conds false w args ∧ laidMetH C.prog laidsX w) ∧ sizedMet enc C.prog fn (OpenSpec.ofChange s) false w args) (s.post enc C.prog fn false true false false) := by
  refine returnsInHanded_of_change_and (C := C) (X := fun w _ => laidMetH C.prog laidsX w) (fun _ _ _ hh h => h.of_heap hh) own started noInit hfn witness ?_
  intro W base args ds gs before hval hW _ hsz hL _
  have hW' := hW
  obtain ⟨p, q, hA, hV, rfl, hfz, hnd⟩ := hW
  have e : s.vars = [] := hvars
  rw [e] at hV
  obtain ⟨rfl, rfl⟩ := trodVars_none hV
  refine (walk W base args ds p hL (fun j t v ht ha => hval j t v (by simpa using ht) ha) hA (fun j t d ht hd n hn => ?_)).mono fun e W' ⟨he, hb⟩ => ⟨_, he, law_post hl hr hres hu hvars hspec hW' hb⟩
  have := List.all_eq_true.1 hsz n (DataW.weights_mem_each (j := j) (by rw [List.getElem?_append_left (List.getElem?_eq_some_iff.1 ht).1]; exact ht) (by rw [List.append_nil]; exact hd) n hn)
  exact of_decide_eq_true this
theorem own : ownKnob Tryz.prog.godebug = none := by kernel_rfl
set_option maxRecDepth 100000 in
theorem laidOut : laidOutB Tryz.prog = true := by kernel_rfl
set_option maxRecDepth 100000 in
theorem laidsMet (os : Os) (args : Array Value) : laidMetH Tryz.prog laidsX ((World.laidAll Tryz.prog os laidsX).forCall (fun _ _ => 0) ⟨#[], args, []⟩).memory := by
  rw [MakeChecks.laidMetH_plain _ _ _ (by kernel_rfl)]
  exact laidMet_laidAll args (by kernel_rfl) (by kernel_rfl)
theorem tab_of_laid {W : World} (h : laidMetH Tryz.prog laidsX W) : Tab W := by
  have h2 := (laids_plain h).tail.tail
  rw [pow10_data] at h2
  exact Lib.tabIs_of_head (P := Tryz.prog) (g := 2) (t := 261) (n := 20) (e := 155) (by kernel_rfl) (by kernel_rfl) (by kernel_rfl) (by kernel_rfl) (by kernel_rfl) (by kernel_rfl) h2
end Go.Proofs.YtlheailebbngiaaGreatDoor
