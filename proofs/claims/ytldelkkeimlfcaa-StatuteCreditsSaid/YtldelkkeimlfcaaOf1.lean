/- Of behind its loop 1. -/
import Derived.Test.YtldelkkeimlfcaaOf2
set_option linter.all false
namespace Go.Proofs.Ytldelkkeimlfcaa
open Go.RowKit
set_option maxHeartbeats 40000000 in
set_option maxRecDepth 1000000 in
theorem Of_from1 (R : RawV) (w : World) (h1 : I64 R.frm) (h2 : I64 R.mode) (h3 : I64 R.unit) (h4 : I64 R.twist) (ca : Option Addr) (sa : Option Addr) (la : Option Addr) (ia : Option Addr) (pa : Option Addr) (ua : Option Addr) (ccap : Nat) (scap : Nat) (lcap : Nat) (icap : Nat) (pcap : Nat) (ucap : Nat) (hcl : R.credits.length ≤ 140737488355328) (hsl : R.series.length ≤ 140737488355328) (hll : R.lets.length ≤ 140737488355328) (hil : R.ifs.length ≤ 140737488355328) (hpl : R.pays.length ≤ 140737488355328) (hul : R.cuts.length ≤ 140737488355328) (HCC : Hid (R.credits.length = 0 ∨ ∃ b off, ca = some ⟨b, off, none⟩ ∧ b < w.heap.size ∧ ∀ (i : Nat), i < R.credits.length → w.cell? ⟨b, off + i, none⟩ = some (.int .i64 (R.credits.getD i 0)))) (HSC : Hid (R.series.length = 0 ∨ ∃ b off, sa = some ⟨b, off, none⟩ ∧ b < w.heap.size ∧ ∀ (i : Nat), i < R.series.length → w.cell? ⟨b, off + i, none⟩ = some (.int .i64 (R.series.getD i 0)))) (HLC : Hid (R.lets.length = 0 ∨ ∃ b off, la = some ⟨b, off, none⟩ ∧ b < w.heap.size ∧ ∀ (i : Nat), i < R.lets.length → ∃ u, w.cell? ⟨b, off + i, none⟩ = some u ∧ IntsAt w u (R.lets.getD i []))) (HIC : Hid (R.ifs.length = 0 ∨ ∃ b off, ia = some ⟨b, off, none⟩ ∧ b < w.heap.size ∧ ∀ (i : Nat), i < R.ifs.length → ∃ u, w.cell? ⟨b, off + i, none⟩ = some u ∧ IntsAt w u (R.ifs.getD i []))) (HPC : Hid (R.pays.length = 0 ∨ ∃ b off, pa = some ⟨b, off, none⟩ ∧ b < w.heap.size ∧ ∀ (i : Nat), i < R.pays.length → ∃ u, w.cell? ⟨b, off + i, none⟩ = some u ∧ IntsAt w u (R.pays.getD i []))) (HUC : Hid (R.cuts.length = 0 ∨ ∃ b off, ua = some ⟨b, off, none⟩ ∧ b < w.heap.size ∧ ∀ (i : Nat), i < R.cuts.length → ∃ u, w.cell? ⟨b, off + i, none⟩ = some u ∧ IntsAt w u (R.cuts.getD i []))) (g : Nat) (wk : Nat) (wc : World) (vcr : Value) (H1 : Nat) (hgH1 : g < H1) (hH1 : H1 ≤ wc.heap.size) (HROW1 : Hid (RowX 63 2 H1 (· < wc.heap.size) wc vcr (credCells R (nCred R)) [])) (HOF1 : Hid (OfAt w (raw10 R (.slice ca R.credits.length ccap) (.slice sa R.series.length scap) (.slice la R.lets.length lcap) (.slice ia R.ifs.length icap) (.slice pa R.pays.length pcap) (.slice ua R.cuts.length ucap)) g #[.int .i64 (pick R.frm 73049), .int .i64 (pick R.mode 4 + 1), .int .i64 (unitOf (pick R.unit 5)), vcr, .slice none 0 0, .slice none 0 0, .slice none 0 0, .slice none 0 0] wc)) (hgl1 : g < wc.heap.size) (u5 u6 u17 u18 u19 u20 u21 u22 u23 u24 u25 u26 u27 u28 u29 u30 u31 u32 u33 u34 u35 u36 u37 u38 u39 u40 u41 u42 u43 u44 u45 u46 u47 u48 u49 u50 u51 u52 u53 u54 u55 u56 u57 u58 u59 u60 u61 u62 u63 u64 u65 u66 u67 u68 u69 u70 u71 u72 u73 u74 u75 u76 u77 u78 u79 u80 u81 u82 u83 u84 u85 u86 u87 u88 u89 u90 u91 u92 u93 u94 u95 u96 u97 u98 u99 u100 u101 u102 u103 u104 u105 u106 u107 u108 u109 u110 u111 u112 u113 u114 u115 u116 u117 u118 u119 u120 u121 u122 u123 u124 u125 u126 u127 u128 u129 u130 u131 u132 u133 u134 u135 u136 u137 u138 u139 u140 u141 u142 u143 u144 u145 u146 u147 u148 u149 u150 u151 u152 u153 u154 u155 u156 u157 u158 u159 u160 u161 u162 u163 u164 u165 u166 u167 u168 u169 u170 u171 u172 u173 u174 u175 u176 u177 u178 u179 u180 u181 u182 u183 u184 u185 u186 u187 u188 u189 u190 u191 u192 u193 u194 u195 u196 u197 u198 u199 u200 u201 u202 u203 u204 u205 u206 u207 u208 u209 u210 u211 u212 u213 u214 u215 u216 u217 u218 u219 u220 u221 u222 u223 u224 u225 u226 u227 u228 u229 u230 u231 u232 u233 u234 u235 u236 u237 u238 u239 : Value) :
    Code.wp Try.prog (tlC (tlC (tlC (tlC (Try.f9.body.getD .skip))))) (bodyPost Try.prog Try.f9 (OfPost R w)) { tmps := #[(.agg (raw10 R (.slice ca R.credits.length ccap) (.slice sa R.series.length scap) (.slice la R.lets.length lcap) (.slice ia R.ifs.length icap) (.slice pa R.pays.length pcap) (.slice ua R.cuts.length ucap))), .pointer (some ⟨w.heap.size, 0, none⟩), .pointer (some ⟨w.heap.size + 1, 0, none⟩), .pointer (some ⟨g, 0, none⟩), .slice (some ⟨wk, 0, none⟩) 6 6, u5, u6, undef, undef, undef, undef, undef, undef, undef, undef, undef, undef, u17, u18, u19, u20, u21, u22, u23, u24, u25, u26, u27, u28, u29, u30, u31, u32, u33, u34, u35, u36, u37, u38, u39, u40, u41, u42, u43, u44, u45, u46, u47, u48, u49, u50, u51, u52, u53, u54, u55, u56, u57, u58, u59, u60, u61, u62, u63, u64, u65, u66, u67, u68, u69, u70, u71, u72, u73, u74, u75, u76, u77, u78, u79, u80, u81, u82, u83, u84, u85, u86, u87, u88, u89, u90, u91, u92, u93, u94, u95, u96, u97, u98, u99, u100, u101, u102, u103, u104, u105, u106, u107, u108, u109, u110, u111, u112, u113, u114, u115, u116, u117, u118, u119, u120, u121, u122, u123, u124, u125, u126, u127, u128, u129, u130, u131, u132, u133, u134, u135, u136, u137, u138, u139, u140, u141, u142, u143, u144, u145, u146, u147, u148, u149, u150, u151, u152, u153, u154, u155, u156, u157, u158, u159, u160, u161, u162, u163, u164, u165, u166, u167, u168, u169, u170, u171, u172, u173, u174, u175, u176, u177, u178, u179, u180, u181, u182, u183, u184, u185, u186, u187, u188, u189, u190, u191, u192, u193, u194, u195, u196, u197, u198, u199, u200, u201, u202, u203, u204, u205, u206, u207, u208, u209, u210, u211, u212, u213, u214, u215, u216, u217, u218, u219, u220, u221, u222, u223, u224, u225, u226, u227, u228, u229, u230, u231, u232, u233, u234, u235, u236, u237, u238, u239], defers := [] } wc := by
  obtain ⟨i0, hi, hz0, hz1, hz2⟩ := info_parts infoCred
  obtain ⟨i1, hj, hj0, hj1, hj2⟩ := info_parts infoIdx
  obtain ⟨i2, hq, hq0, hq1, hq2⟩ := info_parts infoLet
  obtain ⟨i3, hr, hr0, hr1, hr2⟩ := info_parts infoBind
  obtain ⟨i4, ht, ht0, ht1, ht2⟩ := info_parts infoGrant
  obtain ⟨i5, hv, hv0, hv1, hv2⟩ := info_parts infoReduce
  conv => arg 2; whnf
  unfold raw10
  go_upto_block 2 with fail
  go_cut [] from 17 (fun wx => ∃ vse H2, OfAt w (raw10 R (.slice ca R.credits.length ccap) (.slice sa R.series.length scap) (.slice la R.lets.length lcap) (.slice ia R.ifs.length icap) (.slice pa R.pays.length pcap) (.slice ua R.cuts.length ucap)) g #[.int .i64 (pick R.frm 73049), .int .i64 (pick R.mode 4 + 1), .int .i64 (unitOf (pick R.unit 5)), vcr, vse, .slice none 0 0, .slice none 0 0, .slice none 0 0] wx ∧ RowX 63 2 H1 (· < H2) wx vcr (credCells R (nCred R)) [] ∧ (g < H2 ∧ H1 ≤ H2 ∧ H2 ≤ wx.heap.size) ∧ RowG 67 3 H2 wx vse (serCells R (nSer R)) [])
  case first =>
    go_wp2_with fail
    go_loopw [7] (fun v7 wr => ∃ k : Nat, ∃ vse : Value, k ≤ R.series.length ∧ k ≤ 6 ∧ v7 = .int .i64 k ∧ OfAt w (raw10 R (.slice ca R.credits.length ccap) (.slice sa R.series.length scap) (.slice la R.lets.length lcap) (.slice ia R.ifs.length icap) (.slice pa R.pays.length pcap) (.slice ua R.cuts.length ucap)) g #[.int .i64 (pick R.frm 73049), .int .i64 (pick R.mode 4 + 1), .int .i64 (unitOf (pick R.unit 5)), vcr, vse, .slice none 0 0, .slice none 0 0, .slice none 0 0] wr ∧ Next g wc wr ∧ RowG 67 3 wc.heap.size wr vse (serCells R k) []) (fun v7 _ => 6 - (intOf v7).toNat)
    case atStart => exact ⟨0, _, by omega, by omega, rfl, HOF1.out, .refl _ _, .nil _ _ _ _⟩
    case round =>
      obtain ⟨k, vse, hk, hk6, rfl, hof, hnx, hrow⟩ := hrel
      have hbx : wr.cell? ⟨w.heap.size, 4, none⟩ = some (.slice sa R.series.length scap) := cell_of_row _ _ _ _ _ _ hof.box
      have hoc : wr.cell? ⟨g, 4, none⟩ = some vse := cell_of_row _ _ _ _ _ _ hof.out
      have hl0 := hof.lt0
      have hl1 : w.heap.size < wr.heap.size := by omega
      have hl2 := hof.lt
      have hl3 := hnx.size
      have HNX := Lib.hid hnx
      have HOFR := Lib.hid hof
      have HROW := Lib.hid hrow
      have HCL := Lib.hid (serCells_length R k)
      obtain ⟨aa, acap, rfl⟩ := hrow.form
      clear hof hnx hrow hl0
      by_cases hlt : k < R.series.length
      · by_cases hlt6 : k < 6
        · rcases HSC.out with h0 | ⟨b, off, rfl, hb, hx⟩
          · omega
          · have hxk := hx k hlt
            have hkb : b < wr.heap.size := by omega
            have hyk : wr.cell? ⟨b, off + k, none⟩ = some (.int .i64 (R.series.getD k 0)) := by rw [HOFR.out.bel.cell (by exact hb)]; exact hxk
            have HXK := Lib.hid hxk
            clear hxk hx
            have d1 : (k : Int) < (R.series.length : Int) := by omega
            have d2 : (k : Int) < 6 := by omega
            have HSU := Lib.hid (serCells_succ R k)
            have HSY : Hid (serY R k = 1930 + 25 * k + pick (R.series.getD k 0) 20) := Lib.hid rfl
            have HSN : Hid (serN R k = mkN (pick (R.series.getD k 0) 4000 + 1) 1000) := Lib.hid rfl
            have HSD : Hid (serD R k = mkD (pick (R.series.getD k 0) 4000 + 1) 1000) := Lib.hid rfl
            generalize hzk : R.series.getD k 0 = zk at *
            clear hzk
            have hp4 := pick_bd zk 4000 (by omega)
            have hp2 := pick_bd zk 20 (by omega)
            go_upto_region 14 with (first
              | (go_at_call 10; refine (Pick_any _ _ _ (by omega)).mono ?_; rintro e w' ⟨rfl, rfl⟩)
              | (go_at_call 25; refine (MakeFraction_any _ _ _ (by omega) (by omega) (by omega) (by omega)).mono ?_; rintro e w' ⟨rfl, bs, d, rfl⟩))
            have hm1 : IntKind.i64.wrap (25 * (k : Int)) = 25 * k := IntWalk.i64_in _ (by omega)
            have hm2 : IntKind.i64.wrap (1930 + 25 * (k : Int)) = 1930 + 25 * k := IntWalk.i64_in _ (by omega)
            have hm3 : IntKind.i64.wrap (1930 + 25 * (k : Int) + pick zk 20) = 1930 + 25 * k + pick zk 20 := IntWalk.i64_in _ (by omega)
            generalize hN : mkN (pick zk 4000 + 1) 1000 = fn at HSN ⊢
            generalize hD : mkD (pick zk 4000 + 1) 1000 = fd at HSD ⊢
            clear hN hD hp4 hp2
            refine TG.begin 17 (fun w' => w'.cell? ⟨g, 4, none⟩ = some (.slice aa (serCells R k).length acap) ∧ w'.cell? ⟨w.heap.size, 4, none⟩ = some (.slice (some ⟨b, off, none⟩) R.series.length scap) ∧ w'.cell? ⟨b, off + k, none⟩ = some (.int .i64 zk) ∧ w'.cell? ⟨wr.heap.size + bs.size, 0, none⟩ = some (.int .i64 fn) ∧ w'.cell? ⟨wr.heap.size + bs.size, 1, none⟩ = some (.int .i64 fd)) (by kernel_rfl) (by kernel_rfl) ?_ (fun hS => ?_)
            focus
              refine ⟨?_, ?_, ?_, ?_, ?_⟩ <;> simp [go_sem, hoc, hbx, hyk, hl1, hl2, hkb]
            refine TG.takeV (i := 0) (v := ?_) rfl (by kernel_rfl) (by kernel_rfl) (by kernel_rfl) (by decide) (fun _ _ _ h => h) rfl hS ?_ ?_
            rotate_left
            focus
              intro wS hSw
              (try dsimp only at hSw)
              go_simp
              rfl
            (try simp only [Act.put, List.setIfInBounds_toArray, List.set_cons_zero, List.set_cons_succ])
            refine TG.takeV (i := 1) (v := ?_) rfl (by kernel_rfl) (by kernel_rfl) (by kernel_rfl) (by decide) (fun _ _ _ h => h) rfl hS ?_ ?_
            rotate_left
            focus
              intro wS hSw
              (try dsimp only at hSw)
              go_simp
              rfl
            (try simp only [Act.put, List.setIfInBounds_toArray, List.set_cons_zero, List.set_cons_succ])
            refine TG.takeV (i := 2) (v := ?_) rfl (by kernel_rfl) (by kernel_rfl) (by kernel_rfl) (by decide) (fun _ _ _ h => h) rfl hS ?_ ?_
            rotate_left
            focus
              intro wS hSw
              (try dsimp only at hSw)
              go_simp
              rfl
            (try simp only [Act.put, List.setIfInBounds_toArray, List.set_cons_zero, List.set_cons_succ])
            refine TG.takeV (i := 3) (v := ?_) rfl (by kernel_rfl) (by kernel_rfl) (by kernel_rfl) (by decide) (fun _ _ _ h => h) rfl hS ?_ ?_
            rotate_left
            focus
              intro wS hSw
              (try dsimp only at hSw)
              go_simp
              rfl
            (try simp only [Act.put, List.setIfInBounds_toArray, List.set_cons_zero, List.set_cons_succ])
            refine TG.takeV (i := 4) (v := ?_) rfl (by kernel_rfl) (by kernel_rfl) (by kernel_rfl) (by decide) (fun _ _ _ h => h) rfl hS ?_ ?_
            rotate_left
            focus
              intro wS hSw
              (try dsimp only at hSw)
              go_simp
              rfl
            (try simp only [Act.put, List.setIfInBounds_toArray, List.set_cons_zero, List.set_cons_succ])
            refine TG.takeV (i := 5) (v := ?_) rfl (by kernel_rfl) (by kernel_rfl) (by kernel_rfl) (by decide) (fun _ _ _ h => h) rfl hS ?_ ?_
            rotate_left
            focus
              intro wS hSw
              (try dsimp only at hSw)
              go_simp
              rfl
            (try simp only [Act.put, List.setIfInBounds_toArray, List.set_cons_zero, List.set_cons_succ])
            refine TG.takeV (i := 6) (v := ?_) rfl (by kernel_rfl) (by kernel_rfl) (by kernel_rfl) (by decide) (fun _ _ _ h => h) rfl hS ?_ ?_
            rotate_left
            focus
              intro wS hSw
              (try dsimp only at hSw)
              go_simp
              rfl
            (try simp only [Act.put, List.setIfInBounds_toArray, List.set_cons_zero, List.set_cons_succ])
            refine TG.takeV (i := 7) (v := ?_) rfl (by kernel_rfl) (by kernel_rfl) (by kernel_rfl) (by decide) (fun _ _ _ h => h) rfl hS ?_ ?_
            rotate_left
            focus
              intro wS hSw
              (try dsimp only at hSw)
              go_simp
              rfl
            (try simp only [Act.put, List.setIfInBounds_toArray, List.set_cons_zero, List.set_cons_succ])
            refine TG.takeV (i := 8) (v := ?_) rfl (by kernel_rfl) (by kernel_rfl) (by kernel_rfl) (by decide) (fun _ _ _ h => h) rfl hS ?_ ?_
            rotate_left
            focus
              intro wS hSw
              (try dsimp only at hSw)
              go_simp
              rfl
            (try simp only [Act.put, List.setIfInBounds_toArray, List.set_cons_zero, List.set_cons_succ])
            refine TG.takeV (i := 9) (v := ?_) rfl (by kernel_rfl) (by kernel_rfl) (by kernel_rfl) (by decide) (fun _ _ _ h => h) rfl hS ?_ ?_
            rotate_left
            focus
              intro wS hSw
              (try dsimp only at hSw)
              go_simp
              rfl
            (try simp only [Act.put, List.setIfInBounds_toArray, List.set_cons_zero, List.set_cons_succ])
            refine TG.takeC (i := 10) (v := (.int .i64 (pick zk 20))) (fn := 10) (args := #[.int .i64 zk, .int .i64 20]) rfl (by kernel_rfl) (by kernel_rfl) (by kernel_rfl) (by decide) (fun _ _ _ h => h) rfl hS ?_ ?_ ?_
            focus
              intro wS hSw
              (try dsimp only at hSw)
              go_simp
            focus exact fun wS _ => (Pick_any _ _ _ (by omega))
            (try simp only [Act.put, List.setIfInBounds_toArray, List.set_cons_zero, List.set_cons_succ])
            refine TG.takeV (i := 11) (v := ?_) rfl (by kernel_rfl) (by kernel_rfl) (by kernel_rfl) (by decide) (fun _ _ _ h => h) rfl hS ?_ ?_
            rotate_left
            focus
              intro wS hSw
              (try dsimp only at hSw)
              go_simp
              rfl
            (try simp only [Act.put, List.setIfInBounds_toArray, List.set_cons_zero, List.set_cons_succ])
            refine TG.takeV (i := 12) (v := ?_) rfl (by kernel_rfl) (by kernel_rfl) (by kernel_rfl) (by decide) (fun _ _ _ h => h) rfl hS ?_ ?_
            rotate_left
            focus
              intro wS hSw
              (try dsimp only at hSw)
              go_simp
              rfl
            (try simp only [Act.put, List.setIfInBounds_toArray, List.set_cons_zero, List.set_cons_succ])
            refine TG.takeV (i := 13) (v := ?_) rfl (by kernel_rfl) (by kernel_rfl) (by kernel_rfl) (by decide) (fun _ _ _ h => h) rfl hS ?_ ?_
            rotate_left
            focus
              intro wS hSw
              (try dsimp only at hSw)
              go_simp
              rfl
            (try simp only [Act.put, List.setIfInBounds_toArray, List.set_cons_zero, List.set_cons_succ])
            refine TG.one (i := 14) (by kernel_rfl) rfl (fun K1 hK1 => ?_)
            go_simp
            refine TG.go hK1 ?_ (fun hS => ?_)
            focus
              (try dsimp only)
              (refine ⟨?_, ?_, ?_, ?_, ?_⟩ <;> simp [go_sem, hoc, hbx, hyk, hl1, hl2, hkb])
            clear hK1 K1
            (try simp only [Act.put, List.setIfInBounds_toArray, List.set_cons_zero, List.set_cons_succ])
            have HSW := Lib.hid hS
            refine TG.one (i := 15) (by kernel_rfl) rfl (fun K1 hK1 => ?_)
            refine step_append_lies _ rfl _ _ 26 rfl wc.heap.size 67 i1 _ 3 24 Try.underlying26 hj hj0 hj1 hj2 rfl (by decide) _ _ _ rfl (((HROW.out.grow bs d).alloc (.cells #[.int .i64 fn, .int .i64 fd] 39)).alloc (.cells #[.int .i64 (1930 + 25 * k + pick zk 20), .int .i64 fn, .int .i64 fd] 67)).own ⟨wr.heap.size + bs.size + 1, 0, none⟩ 1 1 [.int .i64 (1930 + 25 * k + pick zk 20), .int .i64 fn, .int .i64 fd] rfl rfl ?_ ?_ (by decide) ?_ ?_ ?_ (wr.heap.size + bs.size + 2) (by simp) ?_
            focus exact fun j u hu => news_cells _ [.int .i64 (1930 + 25 * k + pick zk 20), .int .i64 fn, .int .i64 fd] 67 _ (by simp) j u hu
            focus (intro u hu; simp at hu; rcases hu with rfl | rfl | rfl <;> rfl)
            focus (have := HCL.out; unfold maxLen; omega)
            focus (have := HCL.out; omega)
            focus (simp; omega)
            intro g' cap w1 hown' hgrow hat hlt'
            have hrowb := HROW.out.lt
            have R1 := RowG.push (rs2 := []) (m := wr.heap.size) (((HROW.out.grow bs d).alloc (.cells #[.int .i64 fn, .int .i64 fd] 39)).alloc (.cells #[.int .i64 (1930 + 25 * k + pick zk 20), .int .i64 fn, .int .i64 fd] 67)).drew (fun x hx => by cases hx) hl3 (fun j hj => (hrowb j hj).2) rfl rfl rfl hown' hgrow hat (by simp)
            have O1 := (((HOFR.out.grow bs d).alloc (.cells #[.int .i64 fn, .int .i64 fd] 39)).alloc (.cells #[.int .i64 (1930 + 25 * k + pick zk 20), .int .i64 fn, .int .i64 fd] 67)).drew.grown hgrow (fun j hj => by have := (hrowb j hj).1; have := HOFR.out.gge; omega)
            have N1 := (((HNX.out.grow bs d).alloc (.cells #[.int .i64 fn, .int .i64 fd] 39)).alloc (.cells #[.int .i64 (1930 + 25 * k + pick zk 20), .int .i64 fn, .int .i64 fd] 67)).drew.grown hgrow (fun j hj => (hrowb j hj).1)
            have hoc2 : w1.cell? ⟨g, 4, none⟩ = some (.slice aa (serCells R k).length acap) := cell_of_row _ _ _ _ _ _ O1.out
            have hof2 : w1.frozen? ⟨g, 4, none⟩ = false := Joins.unfrozen_of_block O1.out 4
            have hf0 := (hgrow.cell_far ⟨wr.heap.size + bs.size, 0, none⟩ (by simp; omega) (fun e => absurd (hrowb (wr.heap.size + bs.size) e.symm).2 (by omega))).trans HSW.out.2.2.2.1
            have hf1 := (hgrow.cell_far ⟨wr.heap.size + bs.size, 1, none⟩ (by simp; omega) (fun e => absurd (hrowb (wr.heap.size + bs.size) e.symm).2 (by omega))).trans HSW.out.2.2.2.2
            have hyk2 := (O1.bel.cell (p := ⟨b, off + k, none⟩) hb).trans HXK.out
            (try simp only [Act.put, List.setIfInBounds_toArray, List.set_cons_zero, List.set_cons_succ])
            refine TG.go hK1 ?_ (fun hS => ?_)
            focus exact ⟨hoc2, cell_of_row _ _ _ _ _ _ O1.box, hyk2, hf0, hf1⟩
            clear hK1 K1 HSW hf0 hf1 hyk2
            have R2 := Lib.hid (R1.setCell (a := ⟨g, 4, none⟩) hgl1 (.slice (some ⟨g', 0, none⟩) ((serCells R k).length + 1) cap))
            have O2 := Lib.hid (O1.store 4 (.slice (some ⟨g', 0, none⟩) ((serCells R k).length + 1) cap))
            have N2 := Lib.hid (N1.store 4 (.slice (some ⟨g', 0, none⟩) ((serCells R k).length + 1) cap))
            clear hown' hgrow hat hlt' R1 O1 N1 hrowb
            (try simp only [Act.put, List.setIfInBounds_toArray, List.set_cons_zero, List.set_cons_succ])
            refine TG.takeV (i := 16) (v := ?_) rfl (by kernel_rfl) (by kernel_rfl) (by kernel_rfl) (by decide) (fun _ _ _ h => h) rfl hS ?_ ?_
            rotate_left
            focus
              intro wS hSw
              (try dsimp only at hSw)
              go_simp
              rfl
            (try simp only [Act.put, List.setIfInBounds_toArray, List.set_cons_zero, List.set_cons_succ])
            refine TG.one (i := 17) (by kernel_rfl) rfl (fun K1 hK1 => ?_)
            go_simp
            refine hK1 _ _ (fun h => absurd rfl h) (TG.done (by kernel_rfl) ?_)
            clear hK1 K1 hS
            (try simp only [Act.put, List.setIfInBounds_toArray, List.set_cons_zero, List.set_cons_succ])
            go_wp2_with fail
            go_roundw
            case rel => exact ⟨k + 1, _, by omega, by omega, by go_num, O2.out, N2.out, by rw [HSU.out, HSY.out, HSN.out, HSD.out]; exact R2.out⟩
            case measure => simp [intOf]; omega
        · go_wp2_with fail
          go_meet
          exact ⟨_, wc.heap.size, HOFR.out, HROW1.out.next HNX.out hgH1, ⟨hgl1, hH1, HNX.out.size⟩, by rw [show nSer R = k by unfold nSer; omega]; exact HROW.out⟩
      · go_wp2_with fail
        go_meet
        exact ⟨_, wc.heap.size, HOFR.out, HROW1.out.next HNX.out hgH1, ⟨hgl1, hH1, HNX.out.size⟩, by rw [show nSer R = k by unfold nSer; omega]; exact HROW.out⟩
  obtain ⟨vse, H2, hof, hrow1, ⟨hgH2, hH12, hH2⟩, hrow2⟩ := hcut
  clear HROW1 HOF1 hgl1 hH1
  have HROW1 := Lib.hid hrow1
  have HROW2 := Lib.hid hrow2.upto
  have HOF1 := Lib.hid hof
  have hgl1 := hof.lt
  clear hof hrow1 hrow2
  go_step
  exact Of_from2 R w h1 h2 h3 h4 ca sa la ia pa ua ccap scap lcap icap pcap ucap hcl hsl hll hil hpl hul HCC HSC HLC HIC HPC HUC g _ wc vcr H1 hgH1 vse H2 hgH2 hH12 hH2 HROW1 HROW2 HOF1 hgl1 _ _ _ _ _ _ _ _ _ _ _ _ _ _ _ _ _ _ _ _ _ _ _ _ _ _ _ _ _ _ _ _ _ _ _ _ _ _ _ _ _ _ _ _ _ _ _ _ _ _ _ _ _ _ _ _ _ _ _ _ _ _ _ _ _ _ _ _ _ _ _ _ _ _ _ _ _ _ _ _ _ _ _ _ _ _ _ _ _ _ _ _ _ _ _ _ _ _ _ _ _ _ _ _ _ _ _ _ _ _ _ _ _ _ _ _ _ _ _ _ _ _ _ _ _ _ _ _ _ _ _ _ _ _ _ _ _ _ _ _ _ _ _ _ _ _ _ _ _ _ _ _ _ _ _ _ _ _ _ _ _ _ _ _ _ _ _ _ _ _ _ _ _ _ _ _ _ _ _ _ _ _ _ _ _ _ _ _ _ _ _ _ _ _ _ _ _ _ _ _ _ _ _ _ _ _ _ _ _ _ _ _ _ _ _ _ _ _ _ _ _ _ _ _ _ _ _ _
end Go.Proofs.Ytldelkkeimlfcaa
