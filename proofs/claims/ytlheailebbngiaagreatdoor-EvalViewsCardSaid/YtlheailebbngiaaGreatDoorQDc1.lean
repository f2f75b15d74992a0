/- Decimal behind the dimension's letter, and whole. -/
import Derived.Test.YtlheailebbngiaaGreatDoorQDc2
set_option linter.all false
namespace Go.Proofs.YtlheailebbngiaaGreatDoor
open Go.RowKit

def formB (a b : ByteArray) (pt : Bool) : Bool := decForm a.data.toList b.data.toList pt
def decM (t : ByteArray) (m : Int) : Option (Int × Int × Int) := if formB (cutA t) (cutB t) (cutP t) = true then decN (cutA t) (cutB t) m else none
theorem form_eq (a b : ByteArray) (pt : Bool) : formB a b pt = (decide (1 ≤ a.size) && decide (a.size ≤ 9) && !(decide (1 < a.size) && decide (a.data.toList.head? = some 48)) && !(pt && (decide (b.size < 1) || decide (4 < b.size)))) := by
  unfold formB decForm
  have h1 : a.data.toList.length = a.size := by simp
  have h2 : b.data.toList.length = b.size := by simp
  rw [h1, h2]
theorem head_eq {a : ByteArray} (h : 0 < a.size) : (a.data.toList.head? = some 48) ↔ ((a[0]'h).toNat : Int) = 48 := by
  have h2 : 0 < a.data.toList.length := by simpa using h
  rw [List.head?_eq_getElem?, List.getElem?_eq_getElem h2]
  have e : a.data.toList[0] = a[0]'h := by simp; rfl
  rw [e]
  constructor
  · intro k; simp only [Option.some.injEq] at k; rw [k]; rfl
  · intro k
    congr 1
    apply UInt8.toNat_inj.1
    have : (48 : UInt8).toNat = 48 := rfl
    omega
def decK (a b : ByteArray) (pt : Bool) (m : Int) : Option (Int × Int × Int) := if formB a b pt = true then decN a b m else none
theorem cutB_nil {t : ByteArray} (h : cutP t = false) : (cutB t).size = 0 := by
  unfold cutP Lib.cut at h
  unfold cutB Lib.cut
  split at h
  · simp at h
  · rename_i hc; rw [if_neg hc]; rfl
set_option maxHeartbeats 40000000 in
set_option maxRecDepth 1000000 in
theorem dec_T1k (t a b : ByteArray) (pt : Bool) (m : Int) (w : World) (hpt : pt = false → b.size = 0)
    (HC : Hid (∀ w, Calls Tryz.prog 216 #[.string t, .string ⟨#[46]⟩] w fun e w' => e = .returned (.tuple #[.string a, .string b, .bool pt]) ∧ w.Grows w'))
    (u1 u4 u5 u6 u7 u8 u9 u10 u11 u12 u13 u14 u15 u16 u17 u18 u19 u20 u21 u22 u23 u24 u25 u26 u27 u28 u29 u30 u31 u32 u33 u34 u35 u36 u37 u38 u39 u40 u41 u42 u43 u44 u45 u46 u47 u48 u49 u50 u51 u52 u53 u54 u55 u56 u57 u58 u59 u60 u61 u62 u63 u64 u65 u66 u67 u68 u69 u70 u71 u72 u73 u74 u75 u76 u77 u78 u79 u80 u81 u82 u83 u84 u85 u86 u87 u88 u89 u90 u91 u92 u93 u94 u95 u96 u97 u98 u99 u100 u101 u102 u103 u104 u105 u106 u107 u108 u109 u110 u111 u112 u113 u114 u115 u116 u117 u118 u119 u120 u121 u122 u123 u124 u125 u126 u127 u128 u129 u130 u131 u132 u133 u134 u135 u136 u137 u138 u139 u140 u141 : Value) :
    Code.wp Tryz.prog (tlD (tlD (tlD (Tryz.f212.body.getD .skip)))) (bodyPost Tryz.prog Tryz.f212 (fun e w' => e = .returned (decFV (decK a b pt m)) ∧ w.Grows w')) { tmps := #[.string t, u1, .pointer (some ⟨w.heap.size, 0, none⟩), .int .i64 m, u4, u5, u6, u7, u8, u9, u10, u11, u12, u13, u14, u15, u16, u17, u18, u19, u20, u21, u22, u23, u24, u25, u26, u27, u28, u29, u30, u31, u32, u33, u34, u35, u36, u37, u38, u39, u40, u41, u42, u43, u44, u45, u46, u47, u48, u49, u50, u51, u52, u53, u54, u55, u56, u57, u58, u59, u60, u61, u62, u63, u64, u65, u66, u67, u68, u69, u70, u71, u72, u73, u74, u75, u76, u77, u78, u79, u80, u81, u82, u83, u84, u85, u86, u87, u88, u89, u90, u91, u92, u93, u94, u95, u96, u97, u98, u99, u100, u101, u102, u103, u104, u105, u106, u107, u108, u109, u110, u111, u112, u113, u114, u115, u116, u117, u118, u119, u120, u121, u122, u123, u124, u125, u126, u127, u128, u129, u130, u131, u132, u133, u134, u135, u136, u137, u138, u139, u140, u141], defers := [] } (w.alloc (.cells #[.int .i64 0, .int .i64 0] 23)) := by
  have hf := form_eq a b pt
  have hbad (h : formB a b pt = false) : decK a b pt m = none := by unfold decK; rw [h]; rfl
  have hgood (h : formB a b pt = true) : decK a b pt m = decN a b m := by unfold decK; rw [h]; rfl
  conv => arg 2; whnf
  apply wp_seq_k
  intro K1 hK1
  have HK1 := Lib.hid hK1
  clear hK1
  go_wp2_with ((go_at_call 216; (with_reducible refine (HC.out _).mono ?_); rintro e w' ⟨rfl, bs, dr, rfl⟩))
  clear HC
  by_cases s1 : 1 ≤ a.size
  case neg =>
    have HX := Lib.hid (hbad (by rw [hf, decide_eq_false s1]; rfl))
    have z1 : (a.size : Int) < 1 := by omega
    clear hf hbad hgood
    refine HK1.out _ _ ?_
    apply wp_seq_k
    intro K2 hK2
    have HK2 := Lib.hid hK2
    clear hK2
    go_wp2_with fail
    go_returns
    exact ⟨by rw [HX.out]; rfl, .of_below (by (exact belB))⟩
  by_cases s2 : a.size ≤ 9
  case neg =>
    have HX := Lib.hid (hbad (by rw [hf, decide_eq_false s2, Bool.and_false]; rfl))
    have z1 : (9 : Int) < (a.size : Int) := by omega
    clear hf hbad hgood
    refine HK1.out _ _ ?_
    apply wp_seq_k
    intro K2 hK2
    have HK2 := Lib.hid hK2
    clear hK2
    go_wp2_with fail
    go_returns
    exact ⟨by rw [HX.out]; rfl, .of_below (by (exact belB))⟩
  have h0 : 0 < a.size := by omega
  have hh := head_eq h0
  have key (hz : (decide (1 < a.size) && decide (a.data.toList.head? = some 48)) = false) : formB a b pt = !(pt && (decide (b.size < 1) || decide (4 < b.size))) := by
    rw [hf, decide_eq_true s1, decide_eq_true s2, hz]; rfl
  by_cases s3 : 1 < a.size
  · by_cases s4 : ((a[0]'h0).toNat : Int) = 48
    · have HX := Lib.hid (hbad (by rw [hf, decide_eq_true s3, decide_eq_true (hh.2 s4)]; simp))
      have z1 : (1 : Int) < (a.size : Int) := by omega
      have z2 : (a.size : Int) ≤ 9 := by omega
      clear hf hbad hgood key hh
      refine HK1.out _ _ ?_
      apply wp_seq_k
      intro K2 hK2
      have HK2 := Lib.hid hK2
      clear hK2
      go_wp2_with fail
      go_returns
      exact ⟨by rw [HX.out]; rfl, .of_below (by (exact belB))⟩
    · have hz : (decide (1 < a.size) && decide (a.data.toList.head? = some 48)) = false := by rw [decide_eq_false (fun h => s4 (hh.1 h)), Bool.and_false]
      have hk := key hz
      have s7 : (((a[0]'h0).toNat : Int) == 48) = false := by simpa using s4
      have z1 : (1 : Int) < (a.size : Int) := by omega
      have z2 : (a.size : Int) ≤ 9 := by omega
      clear hf key hh hz
      cases pt
      · have HX := Lib.hid (hgood (by rw [hk]; rfl))
        have hb0 := hpt rfl
        clear hk hbad hgood hpt
        refine HK1.out _ _ ?_
        apply wp_seq_k
        intro K2 hK2
        have HK2 := Lib.hid hK2
        clear hK2
        go_wp2_with fail
        refine HK2.out _ _ ?_
        rw [HX.out]
        exact dec_T2 a b m w bs _ (by omega) (by omega) _ _ _ _ _ _ _ _ _ _ _ _ _ _ _ _ _ _ _ _ _ _ _ _ _ _ _ _ _ _ _ _ _ _ _ _ _ _ _ _ _ _ _ _ _ _ _ _ _ _ _ _ _ _ _ _ _ _ _ _ _ _ _ _ _ _ _ _ _ _ _ _ _ _ _ _ _ _ _ _ _ _ _ _ _ _ _ _ _ _ _ _ _ _ _ _ _ _ _ _ _ _ _ _ _ _ _ _ _ _ _ _ _ _ _ _ _ _ _ _ _ _ _ _ _ _ _ _ _ _ _ _ _ _ _ _ _ _
      · clear hpt
        by_cases s5 : b.size < 1
        · have HX := Lib.hid (hbad (by rw [hk, decide_eq_true s5]; rfl))
          have z3 : (b.size : Int) < 1 := by omega
          clear hk hbad hgood
          refine HK1.out _ _ ?_
          apply wp_seq_k
          intro K2 hK2
          have HK2 := Lib.hid hK2
          clear hK2
          go_wp2_with fail
          go_returns
          exact ⟨by rw [HX.out]; rfl, .of_below (by (exact belB))⟩
        · by_cases s6 : 4 < b.size
          · have HX := Lib.hid (hbad (by rw [hk, decide_eq_true s6]; simp))
            have z3 : (4 : Int) < (b.size : Int) := by omega
            clear hk hbad hgood
            refine HK1.out _ _ ?_
            apply wp_seq_k
            intro K2 hK2
            have HK2 := Lib.hid hK2
            clear hK2
            go_wp2_with fail
            go_returns
            exact ⟨by rw [HX.out]; rfl, .of_below (by (exact belB))⟩
          · have HX := Lib.hid (hgood (by rw [hk, decide_eq_false s5, decide_eq_false s6]; rfl))
            have z3 : (b.size : Int) ≤ 4 := by omega
            have z4 : (1 : Int) ≤ (b.size : Int) := by omega
            clear hk hbad hgood
            refine HK1.out _ _ ?_
            apply wp_seq_k
            intro K2 hK2
            have HK2 := Lib.hid hK2
            clear hK2
            go_wp2_with fail
            refine HK2.out _ _ ?_
            rw [HX.out]
            exact dec_T2 a b m w bs _ (by omega) (by omega) _ _ _ _ _ _ _ _ _ _ _ _ _ _ _ _ _ _ _ _ _ _ _ _ _ _ _ _ _ _ _ _ _ _ _ _ _ _ _ _ _ _ _ _ _ _ _ _ _ _ _ _ _ _ _ _ _ _ _ _ _ _ _ _ _ _ _ _ _ _ _ _ _ _ _ _ _ _ _ _ _ _ _ _ _ _ _ _ _ _ _ _ _ _ _ _ _ _ _ _ _ _ _ _ _ _ _ _ _ _ _ _ _ _ _ _ _ _ _ _ _ _ _ _ _ _ _ _ _ _ _ _ _ _ _ _ _ _
  · have hz : (decide (1 < a.size) && decide (a.data.toList.head? = some 48)) = false := by rw [decide_eq_false s3, Bool.false_and]
    have hk := key hz
    have z1 : (a.size : Int) ≤ 1 := by omega
    have z2 : (1 : Int) ≤ (a.size : Int) := by omega
    clear hf key hh hz
    cases pt
    · have HX := Lib.hid (hgood (by rw [hk]; rfl))
      have hb0 := hpt rfl
      clear hk hbad hgood hpt
      refine HK1.out _ _ ?_
      apply wp_seq_k
      intro K2 hK2
      have HK2 := Lib.hid hK2
      clear hK2
      go_wp2_with fail
      refine HK2.out _ _ ?_
      rw [HX.out]
      exact dec_T2 a b m w bs _ (by omega) (by omega) _ _ _ _ _ _ _ _ _ _ _ _ _ _ _ _ _ _ _ _ _ _ _ _ _ _ _ _ _ _ _ _ _ _ _ _ _ _ _ _ _ _ _ _ _ _ _ _ _ _ _ _ _ _ _ _ _ _ _ _ _ _ _ _ _ _ _ _ _ _ _ _ _ _ _ _ _ _ _ _ _ _ _ _ _ _ _ _ _ _ _ _ _ _ _ _ _ _ _ _ _ _ _ _ _ _ _ _ _ _ _ _ _ _ _ _ _ _ _ _ _ _ _ _ _ _ _ _ _ _ _ _ _ _ _ _ _ _
    · clear hpt
      by_cases s5 : b.size < 1
      · have HX := Lib.hid (hbad (by rw [hk, decide_eq_true s5]; rfl))
        have z3 : (b.size : Int) < 1 := by omega
        clear hk hbad hgood
        refine HK1.out _ _ ?_
        apply wp_seq_k
        intro K2 hK2
        have HK2 := Lib.hid hK2
        clear hK2
        go_wp2_with fail
        go_returns
        exact ⟨by rw [HX.out]; rfl, .of_below (by (exact belB))⟩
      · by_cases s6 : 4 < b.size
        · have HX := Lib.hid (hbad (by rw [hk, decide_eq_true s6]; simp))
          have z3 : (4 : Int) < (b.size : Int) := by omega
          clear hk hbad hgood
          refine HK1.out _ _ ?_
          apply wp_seq_k
          intro K2 hK2
          have HK2 := Lib.hid hK2
          clear hK2
          go_wp2_with fail
          go_returns
          exact ⟨by rw [HX.out]; rfl, .of_below (by (exact belB))⟩
        · have HX := Lib.hid (hgood (by rw [hk, decide_eq_false s5, decide_eq_false s6]; rfl))
          have z3 : (b.size : Int) ≤ 4 := by omega
          have z4 : (1 : Int) ≤ (b.size : Int) := by omega
          clear hk hbad hgood
          refine HK1.out _ _ ?_
          apply wp_seq_k
          intro K2 hK2
          have HK2 := Lib.hid hK2
          clear hK2
          go_wp2_with fail
          refine HK2.out _ _ ?_
          rw [HX.out]
          exact dec_T2 a b m w bs _ (by omega) (by omega) _ _ _ _ _ _ _ _ _ _ _ _ _ _ _ _ _ _ _ _ _ _ _ _ _ _ _ _ _ _ _ _ _ _ _ _ _ _ _ _ _ _ _ _ _ _ _ _ _ _ _ _ _ _ _ _ _ _ _ _ _ _ _ _ _ _ _ _ _ _ _ _ _ _ _ _ _ _ _ _ _ _ _ _ _ _ _ _ _ _ _ _ _ _ _ _ _ _ _ _ _ _ _ _ _ _ _ _ _ _ _ _ _ _ _ _ _ _ _ _ _ _ _ _ _ _ _ _ _ _ _ _ _ _ _ _ _ _
theorem decM_eq (t : ByteArray) (m : Int) : decM t m = decP (Lib.cut t.data.toList [46]).1 (Lib.cut t.data.toList [46]).2.1 (Lib.cut t.data.toList [46]).2.2 m := by
  unfold decM formB decN decP cutA cutB cutP
  simp [ByteArray.size]
theorem strip_eq {s t : ByteArray} {m : Int} (h : stripM s.data.toList = (t.data.toList, m)) : decF s.data.toList = decM t m := by
  unfold decF
  rw [h, decM_eq]
theorem last_eq {s : ByteArray} {n : Nat} (h : s.size = n + 1) : s.data.toList.getLast? = some (s[n]'(by omega)) := by
  have h3 : s.data.toList.length = s.size := by simp
  have h2 : s.data.toList ≠ [] := by
    intro e
    rw [e] at h3; simp at h3; omega
  rw [List.getLast?_eq_some_getLast h2, List.getLast_eq_getElem]
  congr 1
  have e : s.data.toList.length - 1 = n := by omega
  simp only [e]
  rfl
theorem drop_last {s : ByteArray} {n : Nat} (h : s.size = n + 1) : (s.extract 0 n).data.toList = s.data.toList.dropLast := by
  rw [ByteArray.data_extract, Array.toList_extract]
  have h3 : s.data.toList.length = s.size := by simp
  simp only [List.extract, List.drop_zero, Nat.sub_zero, List.dropLast_eq_take]
  congr 1
  omega
set_option maxHeartbeats 40000000 in
set_option maxRecDepth 1000000 in
theorem Decimal2_any (s : ByteArray) (w : World) (hs : s.size ≤ maxLen) : Calls Tryz.prog 212 #[.string s] w fun e w' => e = .returned (decFV (decF s.data.toList)) ∧ w.Grows w' := by
  by_cases h0 : 0 < s.size
  · obtain ⟨n, hn⟩ : ∃ n, s.size = n + 1 := ⟨s.size - 1, by omega⟩
    have hl := last_eq hn
    have hd := drop_last hn
    have hm : s.size ≤ 9223372036854775807 := by unfold maxLen at hs; omega
    have he : (s.extract 0 n).size ≤ maxLen := by rw [ByteArray.size_extract]; omega
    have hlt : n < s.size := by omega
    obtain ⟨c, hc⟩ : ∃ c, s[n]'hlt = c := ⟨_, rfl⟩
    rw [hc] at hl
    have hN : (s.size : Int) = (n : Int) + 1 := by omega
    by_cases c3 : c = 100
    · have HF : Hid (decF s.data.toList = decK (cutA (s.extract 0 n)) (cutB (s.extract 0 n)) (cutP (s.extract 0 n)) 3) := Lib.hid (strip_eq (by unfold stripM; rw [hl, c3, if_pos rfl, hd]))
      have HE := Lib.hid he
      have q1 : ((c.toNat : Int) == 100) = true := by rw [c3]; rfl
      clear he hl hd c3 hs
      go_enter Tryz.func212, Tryz.ntmps212
      apply wp_seq_k
      intro K1 hK1
      have HK1 := Lib.hid hK1
      clear hK1
      go_wp2_with fail
      refine HK1.out _ _ ?_
      clear HK1 K1
      apply wp_seq_k
      intro K2 hK2
      have HK2 := Lib.hid hK2
      clear hK2
      go_wp2_with fail
      refine HK2.out _ _ ?_
      clear HK2 K2
      apply wp_seq_k
      intro K3 hK3
      have HK3 := Lib.hid hK3
      clear hK3
      go_wp2_with fail
      refine HK3.out _ _ ?_
      rw [HF.out]
      exact dec_T1k _ _ _ _ _ w cutB_nil (Lib.hid (fun w => Cut_dot _ w HE.out)) _ _ _ _ _ _ _ _ _ _ _ _ _ _ _ _ _ _ _ _ _ _ _ _ _ _ _ _ _ _ _ _ _ _ _ _ _ _ _ _ _ _ _ _ _ _ _ _ _ _ _ _ _ _ _ _ _ _ _ _ _ _ _ _ _ _ _ _ _ _ _ _ _ _ _ _ _ _ _ _ _ _ _ _ _ _ _ _ _ _ _ _ _ _ _ _ _ _ _ _ _ _ _ _ _ _ _ _ _ _ _ _ _ _ _ _ _ _ _ _ _ _ _ _ _ _ _ _ _ _ _ _ _ _ _ _ _ _ _
    · by_cases c4 : c = 109
      · have HF : Hid (decF s.data.toList = decK (cutA (s.extract 0 n)) (cutB (s.extract 0 n)) (cutP (s.extract 0 n)) 4) := Lib.hid (strip_eq (by unfold stripM; rw [hl, c4, if_neg (by decide), if_pos rfl, hd]))
        have HE := Lib.hid he
        have q1 : ((c.toNat : Int) == 100) = false := by rw [c4]; rfl
        have q2 : ((c.toNat : Int) == 109) = true := by rw [c4]; rfl
        clear he hl hd c3 c4 hs
        go_enter Tryz.func212, Tryz.ntmps212
        apply wp_seq_k
        intro K1 hK1
        have HK1 := Lib.hid hK1
        clear hK1
        go_wp2_with fail
        refine HK1.out _ _ ?_
        clear HK1 K1
        apply wp_seq_k
        intro K2 hK2
        have HK2 := Lib.hid hK2
        clear hK2
        go_wp2_with fail
        refine HK2.out _ _ ?_
        clear HK2 K2
        apply wp_seq_k
        intro K3 hK3
        have HK3 := Lib.hid hK3
        clear hK3
        go_wp2_with fail
        refine HK3.out _ _ ?_
        rw [HF.out]
        exact dec_T1k _ _ _ _ _ w cutB_nil (Lib.hid (fun w => Cut_dot _ w HE.out)) _ _ _ _ _ _ _ _ _ _ _ _ _ _ _ _ _ _ _ _ _ _ _ _ _ _ _ _ _ _ _ _ _ _ _ _ _ _ _ _ _ _ _ _ _ _ _ _ _ _ _ _ _ _ _ _ _ _ _ _ _ _ _ _ _ _ _ _ _ _ _ _ _ _ _ _ _ _ _ _ _ _ _ _ _ _ _ _ _ _ _ _ _ _ _ _ _ _ _ _ _ _ _ _ _ _ _ _ _ _ _ _ _ _ _ _ _ _ _ _ _ _ _ _ _ _ _ _ _ _ _ _ _ _ _ _ _ _ _
      · have HF : Hid (decF s.data.toList = decK (cutA s) (cutB s) (cutP s) 2) := Lib.hid (strip_eq (by unfold stripM; rw [hl, if_neg (by simpa using c3), if_neg (by simpa using c4)]))
        have HE := Lib.hid hs
        have q1 : ((c.toNat : Int) == 100) = false := by
          rw [beq_eq_false_iff_ne]; intro k; exact c3 (UInt8.toNat_inj.1 (by have : (100 : UInt8).toNat = 100 := rfl; omega))
        have q2 : ((c.toNat : Int) == 109) = false := by
          rw [beq_eq_false_iff_ne]; intro k; exact c4 (UInt8.toNat_inj.1 (by have : (109 : UInt8).toNat = 109 := rfl; omega))
        clear he hl hd c3 c4 hs
        go_enter Tryz.func212, Tryz.ntmps212
        apply wp_seq_k
        intro K1 hK1
        have HK1 := Lib.hid hK1
        clear hK1
        go_wp2_with fail
        refine HK1.out _ _ ?_
        clear HK1 K1
        apply wp_seq_k
        intro K2 hK2
        have HK2 := Lib.hid hK2
        clear hK2
        go_wp2_with fail
        refine HK2.out _ _ ?_
        clear HK2 K2
        apply wp_seq_k
        intro K3 hK3
        have HK3 := Lib.hid hK3
        clear hK3
        go_wp2_with fail
        refine HK3.out _ _ ?_
        rw [HF.out]
        exact dec_T1k _ _ _ _ _ w cutB_nil (Lib.hid (fun w => Cut_dot _ w HE.out)) _ _ _ _ _ _ _ _ _ _ _ _ _ _ _ _ _ _ _ _ _ _ _ _ _ _ _ _ _ _ _ _ _ _ _ _ _ _ _ _ _ _ _ _ _ _ _ _ _ _ _ _ _ _ _ _ _ _ _ _ _ _ _ _ _ _ _ _ _ _ _ _ _ _ _ _ _ _ _ _ _ _ _ _ _ _ _ _ _ _ _ _ _ _ _ _ _ _ _ _ _ _ _ _ _ _ _ _ _ _ _ _ _ _ _ _ _ _ _ _ _ _ _ _ _ _ _ _ _ _ _ _ _ _ _ _ _ _ _
  · have h1 : s.data.toList = [] := by
      have h3 : s.data.toList.length = s.size := by simp
      exact List.eq_nil_of_length_eq_zero (by omega)
    have HF : Hid (decF s.data.toList = decK (cutA s) (cutB s) (cutP s) 2) := Lib.hid (strip_eq (by rw [h1]; rfl))
    have HE := Lib.hid hs
    have hN : (s.size : Int) = 0 := by omega
    clear h1 hs
    go_enter Tryz.func212, Tryz.ntmps212
    apply wp_seq_k
    intro K1 hK1
    have HK1 := Lib.hid hK1
    clear hK1
    go_wp2_with fail
    refine HK1.out _ _ ?_
    clear HK1 K1
    apply wp_seq_k
    intro K2 hK2
    have HK2 := Lib.hid hK2
    clear hK2
    go_wp2_with fail
    refine HK2.out _ _ ?_
    clear HK2 K2
    apply wp_seq_k
    intro K3 hK3
    have HK3 := Lib.hid hK3
    clear hK3
    go_wp2_with fail
    refine HK3.out _ _ ?_
    rw [HF.out]
    exact dec_T1k _ _ _ _ _ w cutB_nil (Lib.hid (fun w => Cut_dot _ w HE.out)) _ _ _ _ _ _ _ _ _ _ _ _ _ _ _ _ _ _ _ _ _ _ _ _ _ _ _ _ _ _ _ _ _ _ _ _ _ _ _ _ _ _ _ _ _ _ _ _ _ _ _ _ _ _ _ _ _ _ _ _ _ _ _ _ _ _ _ _ _ _ _ _ _ _ _ _ _ _ _ _ _ _ _ _ _ _ _ _ _ _ _ _ _ _ _ _ _ _ _ _ _ _ _ _ _ _ _ _ _ _ _ _ _ _ _ _ _ _ _ _ _ _ _ _ _ _ _ _ _ _ _ _ _ _ _ _ _ _ _
end Go.Proofs.YtlheailebbngiaaGreatDoor
