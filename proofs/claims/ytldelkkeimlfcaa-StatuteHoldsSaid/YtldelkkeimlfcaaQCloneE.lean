/- cloneVersion's end. -/
import Derived.Test.YtldelkkeimlfcaaQTwist
import Derived.Deep.CutBlock
import Derived.Deep.CutRange
import Derived.Deep.DeepCutAuto
set_option linter.all false
namespace Go.Proofs.Ytldelkkeimlfcaa
open Go.RowKit
set_option maxHeartbeats 8000000 in
set_option maxRecDepth 1000000 in
theorem cv_E (S : Nat → Prop) (w : World) (frm mode unit : Int) (V : VerP) (v3 v4 v5 v6 v7 : Value) (hsm : Hid (VerSmall V)) (hlen : Hid (LensV V)) (wc : World) (HQ : Hid (CVS S w frm mode unit V v3 v4 v5 v6 v7 wc)) (ag u3 u4 u5 u6 u7 u8 u9 u10 u11 u12 u13 u14 u15 u16 u17 u18 u19 u20 u21 u22 u23 u24 u25 u26 u27 u28 u29 u30 u31 u32 u33 u34 u35 u36 u37 u38 u39 u40 u41 u42 u43 u44 u45 u46 u47 u48 u49 u50 u51 u52 u53 u54 u55 u56 u57 u58 u59 u60 u61 u62 u63 u64 u65 u66 u67 u68 u69 u70 u71 u72 u73 u74 u75 u76 u77 u78 u79 u80 u81 u82 u83 u84 u85 u86 u87 u88 u89 u90 u91 u92 u93 u94 u95 : Value) :
    Code.wp Try.prog (tlC (tlC (tlC (tlC (tlC (tlC (Try.f38.body.getD .skip))))))) (bodyPost Try.prog Try.f38 (ClonedV S V frm mode unit w)) { tmps := #[ag, .pointer (some ⟨w.heap.size, 0, none⟩), .pointer (some ⟨w.heap.size + 1, 0, none⟩), u3, u4, u5, u6, u7, u8, u9, u10, u11, u12, u13, u14, u15, u16, u17, u18, u19, u20, u21, u22, u23, u24, u25, u26, u27, u28, u29, u30, u31, u32, u33, u34, u35, u36, u37, u38, u39, u40, u41, u42, u43, u44, u45, u46, u47, u48, u49, u50, u51, u52, u53, u54, u55, u56, u57, u58, u59, u60, u61, u62, u63, u64, u65, u66, u67, u68, u69, u70, u71, u72, u73, u74, u75, u76, u77, u78, u79, u80, u81, u82, u83, u84, u85, u86, u87, u88, u89, u90, u91, u92, u93, u94, u95], defers := [] } wc := by
  conv => arg 2; whnf
  obtain ⟨ql, qg, qr, H1, H2, H3, H4, H5, h, q⟩ := HQ.out
  have HV := Lib.hid q
  have HM := Lib.hid q.mem
  have hl0 := q.mem.lt
  have b0 : wc.cell? ⟨w.heap.size, 0, none⟩ = some (.int .i64 frm) := cell_of_row _ _ _ _ _ _ q.mem.box
  have b1 : wc.cell? ⟨w.heap.size, 1, none⟩ = some (.int .i64 mode) := cell_of_row _ _ _ _ _ _ q.mem.box
  have b2 : wc.cell? ⟨w.heap.size, 2, none⟩ = some (.int .i64 unit) := cell_of_row _ _ _ _ _ _ q.mem.box
  have b3 : wc.cell? ⟨w.heap.size, 3, none⟩ = some (v3) := cell_of_row _ _ _ _ _ _ q.mem.box
  have b4 : wc.cell? ⟨w.heap.size, 4, none⟩ = some (v4) := cell_of_row _ _ _ _ _ _ q.mem.box
  have b5 : wc.cell? ⟨w.heap.size, 5, none⟩ = some (v5) := cell_of_row _ _ _ _ _ _ q.mem.box
  have b6 : wc.cell? ⟨w.heap.size, 6, none⟩ = some (v6) := cell_of_row _ _ _ _ _ _ q.mem.box
  have b7 : wc.cell? ⟨w.heap.size, 7, none⟩ = some (v7) := cell_of_row _ _ _ _ _ _ q.mem.box
  have r0 : wc.cell? ⟨w.heap.size + 1, 0, none⟩ = some (.int .i64 0) := cell_of_row _ _ _ _ _ _ q.mem.res
  have r1 : wc.cell? ⟨w.heap.size + 1, 1, none⟩ = some (.int .i64 0) := cell_of_row _ _ _ _ _ _ q.mem.res
  have r2 : wc.cell? ⟨w.heap.size + 1, 2, none⟩ = some (.int .i64 0) := cell_of_row _ _ _ _ _ _ q.mem.res
  have r3 : wc.cell? ⟨w.heap.size + 1, 3, none⟩ = some (.slice none 0 0) := cell_of_row _ _ _ _ _ _ q.mem.res
  have r4 : wc.cell? ⟨w.heap.size + 1, 4, none⟩ = some (.slice none 0 0) := cell_of_row _ _ _ _ _ _ q.mem.res
  have r5 : wc.cell? ⟨w.heap.size + 1, 5, none⟩ = some (.slice none 0 0) := cell_of_row _ _ _ _ _ _ q.mem.res
  have r6 : wc.cell? ⟨w.heap.size + 1, 6, none⟩ = some (.slice none 0 0) := cell_of_row _ _ _ _ _ _ q.mem.res
  have r7 : wc.cell? ⟨w.heap.size + 1, 7, none⟩ = some (.slice none 0 0) := cell_of_row _ _ _ _ _ _ q.mem.res
  have rf : ∀ i, wc.frozen? ⟨w.heap.size + 1, i, none⟩ = false := fun i => Joins.unfrozen_of_block q.mem.res i
  obtain ⟨a3, c3, hv3⟩ := q.r1.form
  obtain ⟨a4, c4, hv4⟩ := q.r2.form
  obtain ⟨a5, c5, hv5⟩ := q.r3.form
  obtain ⟨a6, c6, hv6⟩ := q.r4.form
  obtain ⟨a7, c7, hv7⟩ := q.r5.form
  subst hv3 hv4 hv5 hv6 hv7
  clear q HQ
  generalize (crL V.cr).length = n3 at *
  generalize (seL V.se).length = n4 at *
  generalize (letL ql).length = n5 at *
  generalize (grL qg).length = n6 at *
  generalize (reL qr).length = n7 at *
  go_wp2_with fail
  have hs : Next (w.heap.size + 1) wc (wc.setCells (w.heap.size + 1) 0 [.int .i64 frm, .int .i64 mode, .int .i64 unit, .slice a3 n3 c3, .slice a4 n4 c4, .slice a5 n5 c5, .slice a6 n6 c6, .slice a7 n7 c7]) := next_setCells _ _ _ (.refl _ _)
  have hbl : Below w.heap.size w (wc.setCells (w.heap.size + 1) 0 [.int .i64 frm, .int .i64 mode, .int .i64 unit, .slice a3 n3 c3, .slice a4 n4 c4, .slice a5 n5 c5, .slice a6 n6 c6, .slice a7 n7 c7]) := below_setCells (by omega) _ _ _ HM.out.bel
  have hzb := block_setCells [.int .i64 frm, .int .i64 mode, .int .i64 unit, .slice a3 n3 c3, .slice a4 n4 c4, .slice a5 n5 c5, .slice a6 n6 c6, .slice a7 n7 c7] 0 wc _ HM.out.res
  refine bodyPost_ret (results_cell_row Try.results38 _ _ (w.heap.size + 1) 34 #[.int .i64 frm, .int .i64 mode, .int .i64 unit, .slice a3 n3 c3, .slice a4 n4 c4, .slice a5 n5 c5, .slice a6 n6 c6, .slice a7 n7 c7] (0, 0) _ rfl hzb Try.underlying34 rfl info34) rfl ?_
  exact ⟨_, _, _, _, _, rfl, .of_below hbl, HV.out.reads hs (by omega) hlen.out⟩
end Go.Proofs.Ytldelkkeimlfcaa
/- cloneVersion from its third loop on. -/
namespace Go.Proofs.Ytldelkkeimlfcaa
open Go.RowKit
set_option maxHeartbeats 8000000 in
set_option maxRecDepth 1000000 in
theorem cv_D (S : Nat → Prop) (w : World) (frm mode unit : Int) (V : VerP) (v3 v4 v5 v6 v7 : Value) (hsm : Hid (VerSmall V)) (hlen : Hid (LensV V)) (wc : World) (HQ : Hid (CVS S w frm mode unit V v3 v4 v5 v6 v7 wc)) (ag u3 u4 u5 u6 u7 u8 u9 u10 u11 u12 u13 u14 u15 u16 u17 u18 u19 u20 u21 u22 u23 u24 u25 u26 u27 u28 u29 u30 u31 u32 u33 u34 u35 u36 u37 u38 u39 u40 u41 u42 u43 u44 u45 u46 u47 u48 u49 u50 u51 u52 u53 u54 u55 u56 u57 u58 u59 u60 u61 u62 u63 u64 u65 u66 u67 u68 u69 u70 u71 u72 u73 u74 u75 u76 u77 u78 u79 u80 u81 u82 u83 u84 u85 u86 u87 u88 u89 u90 u91 u92 u93 u94 u95 : Value) :
    Code.wp Try.prog (tlC (tlC (tlC (tlC (tlC (Try.f38.body.getD .skip)))))) (bodyPost Try.prog Try.f38 (ClonedV S V frm mode unit w)) { tmps := #[ag, .pointer (some ⟨w.heap.size, 0, none⟩), .pointer (some ⟨w.heap.size + 1, 0, none⟩), u3, u4, u5, u6, u7, u8, u9, u10, u11, u12, u13, u14, u15, u16, u17, u18, u19, u20, u21, u22, u23, u24, u25, u26, u27, u28, u29, u30, u31, u32, u33, u34, u35, u36, u37, u38, u39, u40, u41, u42, u43, u44, u45, u46, u47, u48, u49, u50, u51, u52, u53, u54, u55, u56, u57, u58, u59, u60, u61, u62, u63, u64, u65, u66, u67, u68, u69, u70, u71, u72, u73, u74, u75, u76, u77, u78, u79, u80, u81, u82, u83, u84, u85, u86, u87, u88, u89, u90, u91, u92, u93, u94, u95], defers := [] } wc := by
  conv => arg 2; whnf
  obtain ⟨av, cv, hvi, hci⟩ : ∃ av cv, v7 = .slice av V.re.length cv ∧ wc.cell? ⟨w.heap.size, 7, none⟩ = some v7 := by
    obtain ⟨ql, qg, qr, H1, H2, H3, H4, H5, h, q⟩ := HQ.out
    obtain ⟨av, cv, hvi⟩ := q.r5.form
    exact ⟨av, cv, by rw [hvi, ← q.e3]; simp [reL], cell_of_row _ _ _ _ _ _ q.mem.box⟩
  have hwl : w.heap.size < wc.heap.size := cell_ltv hci
  have hN : V.re.length ≤ 1000 := by obtain ⟨l1, l2, l3, l4, l5⟩ := hlen.out; omega
  subst hvi
  generalize hNN : V.re.length = N at *
  have HNN := Lib.hid hNN
  clear hNN
  go_upto_block 4 with fail
  go_cut [] from 3 (fun wx => CVS S w frm mode unit V v3 v4 v5 v6 (.slice av N cv) wx)
  case first =>
    go_wp2_with fail
    go_loopw [79] (fun vk wr => ∃ k : Nat, k ≤ N ∧ vk = .int .i64 k ∧ CVS S w frm mode unit V v3 v4 v5 v6 (.slice av N cv) wr) (fun vk _ => N - (intOf vk).toNat)
    case atStart => exact ⟨0, by omega, rfl, HQ.out⟩
    case round =>
      obtain ⟨k, hk, rfl, hq⟩ := hrel
      have HQR := Lib.hid hq
      clear hq
      by_cases hlt : k < N
      · obtain ⟨ql, qg, qr, H1, H2, H3, H4, H5, h, q⟩ := HQR.out
        have hlq : k < qr.length := by have := congrArg List.length q.e3; rw [List.length_map, HNN.out] at this; omega
        obtain ⟨g, rfl, hn, b1, b2, b3, hcs, hfz⟩ := q.r5.slot (k := k) (by simpa [reL] using hlq)
        have xb : wr.cell? ⟨w.heap.size, 7, none⟩ = some (.slice (some ⟨g, 0, none⟩) N cv) := cell_of_row _ _ _ _ _ _ q.mem.box
        have hwr : w.heap.size < wr.heap.size := cell_ltv xb
        have d1 : (k : Int) < (N : Int) := by omega
        have HFZ := Lib.hid hfz
        obtain ⟨s, ⟨e, v⟩, hqk⟩ : ∃ s ev, qr[k]? = some (s, ev) := ⟨_, _, List.getElem?_eq_getElem hlq⟩
        have hg0 : (reL qr).getD k [] = .int .i64 s :: cells1 e v := by simp [reL, List.getD_eq_getElem?_getD, List.getElem?_map, hqk]
        rw [hg0] at hcs
        have hrep := q.s5 (e, v) (List.mem_map.2 ⟨_, List.mem_of_getElem? hqk, rfl⟩)
        obtain ⟨va, vc, hv⟩ := hrep.form0
        simp only at hv
        subst hv
        have x0 : wr.cell? ⟨g, k * 7 + 1, none⟩ = some (.int .i64 e.op) := hcs 1 (by omega)
        have x1 : wr.cell? ⟨g, k * 7 + 2, none⟩ = some (.int .i64 e.num) := hcs 2 (by omega)
        have x2 : wr.cell? ⟨g, k * 7 + 3, none⟩ = some (.int .i64 e.den) := hcs 3 (by omega)
        have x3 : wr.cell? ⟨g, k * 7 + 4, none⟩ = some (.int .i64 e.dim) := hcs 4 (by omega)
        have x4 : wr.cell? ⟨g, k * 7 + 5, none⟩ = some (.string e.name) := hcs 5 (by omega)
        have x5 : wr.cell? ⟨g, k * 7 + 6, none⟩ = some (.slice va e.args.length vc) := hcs 6 (by omega)
        have HSZ : Hid (e.size ≤ 1000000) := Lib.hid (hsm.out.2.2 (s, e) (by rw [← q.e3]; exact List.mem_map.2 ⟨_, List.mem_of_getElem? hqk, rfl⟩))
        have HREP := Lib.hid hrep
        have HQK := Lib.hid hqk
        have HQD := Lib.hid q.drew
        clear hcs hrep hqk hg0 q hn HQR
        go_upto_region 16 with fail
        refine TG.begin 12 (fun w' => w'.cell? ⟨w.heap.size, 7, none⟩ = some (.slice (some ⟨g, 0, none⟩) N cv) ∧ w'.cell? ⟨g, k * 7 + 1, none⟩ = some (.int .i64 e.op) ∧ w'.cell? ⟨g, k * 7 + 2, none⟩ = some (.int .i64 e.num) ∧ w'.cell? ⟨g, k * 7 + 3, none⟩ = some (.int .i64 e.den) ∧ w'.cell? ⟨g, k * 7 + 4, none⟩ = some (.int .i64 e.dim) ∧ w'.cell? ⟨g, k * 7 + 5, none⟩ = some (.string e.name) ∧ w'.cell? ⟨g, k * 7 + 6, none⟩ = some (.slice va e.args.length vc)) (by kernel_rfl) (by kernel_rfl) ?_ (fun hS => ?_)
        focus exact ⟨xb, x0, x1, x2, x3, x4, x5⟩
        refine TG.takeV (i := 0) (v := ?_) rfl (by kernel_rfl) (by kernel_rfl) (by kernel_rfl) (by decide) (fun _ _ _ h => h) rfl hS ?_ ?_
        rotate_left
        focus
          intro wS hSw
          (try dsimp only at hSw)
          go_simp
          rfl
        (try simp only [Act.put, List.getElem_toArray, List.getElem_cons_zero, List.getElem_cons_succ, List.setIfInBounds_toArray, List.set_cons_zero, List.set_cons_succ])
        refine TG.takeV (i := 1) (v := ?_) rfl (by kernel_rfl) (by kernel_rfl) (by kernel_rfl) (by decide) (fun _ _ _ h => h) rfl hS ?_ ?_
        rotate_left
        focus
          intro wS hSw
          (try dsimp only at hSw)
          go_simp
          rfl
        (try simp only [Act.put, List.getElem_toArray, List.getElem_cons_zero, List.getElem_cons_succ, List.setIfInBounds_toArray, List.set_cons_zero, List.set_cons_succ])
        refine TG.takeV (i := 2) (v := ?_) rfl (by kernel_rfl) (by kernel_rfl) (by kernel_rfl) (by decide) (fun _ _ _ h => h) rfl hS ?_ ?_
        rotate_left
        focus
          intro wS hSw
          (try dsimp only at hSw)
          go_simp
          rfl
        (try simp only [Act.put, List.getElem_toArray, List.getElem_cons_zero, List.getElem_cons_succ, List.setIfInBounds_toArray, List.set_cons_zero, List.set_cons_succ])
        refine TG.takeV (i := 3) (v := ?_) rfl (by kernel_rfl) (by kernel_rfl) (by kernel_rfl) (by decide) (fun _ _ _ h => h) rfl hS ?_ ?_
        rotate_left
        focus
          intro wS hSw
          (try dsimp only at hSw)
          go_simp
          rfl
        (try simp only [Act.put, List.getElem_toArray, List.getElem_cons_zero, List.getElem_cons_succ, List.setIfInBounds_toArray, List.set_cons_zero, List.set_cons_succ])
        refine TG.takeV (i := 4) (v := ?_) rfl (by kernel_rfl) (by kernel_rfl) (by kernel_rfl) (by decide) (fun _ _ _ h => h) rfl hS ?_ ?_
        rotate_left
        focus
          intro wS hSw
          (try dsimp only at hSw)
          go_simp
          rfl
        (try simp only [Act.put, List.getElem_toArray, List.getElem_cons_zero, List.getElem_cons_succ, List.setIfInBounds_toArray, List.set_cons_zero, List.set_cons_succ])
        refine TG.takeV (i := 5) (v := ?_) rfl (by kernel_rfl) (by kernel_rfl) (by kernel_rfl) (by decide) (fun _ _ _ h => h) rfl hS ?_ ?_
        rotate_left
        focus
          intro wS hSw
          (try dsimp only at hSw)
          go_simp
          rfl
        (try simp only [Act.put, List.getElem_toArray, List.getElem_cons_zero, List.getElem_cons_succ, List.setIfInBounds_toArray, List.set_cons_zero, List.set_cons_succ])
        refine TG.takeV (i := 6) (v := ?_) rfl (by kernel_rfl) (by kernel_rfl) (by kernel_rfl) (by decide) (fun _ _ _ h => h) rfl hS ?_ ?_
        rotate_left
        focus
          intro wS hSw
          (try dsimp only at hSw)
          go_simp
          rfl
        (try simp only [Act.put, List.getElem_toArray, List.getElem_cons_zero, List.getElem_cons_succ, List.setIfInBounds_toArray, List.set_cons_zero, List.set_cons_succ])
        refine TG.takeV (i := 7) (v := ?_) rfl (by kernel_rfl) (by kernel_rfl) (by kernel_rfl) (by decide) (fun _ _ _ h => h) rfl hS ?_ ?_
        rotate_left
        focus
          intro wS hSw
          (try dsimp only at hSw)
          go_simp
          rfl
        (try simp only [Act.put, List.getElem_toArray, List.getElem_cons_zero, List.getElem_cons_succ, List.setIfInBounds_toArray, List.set_cons_zero, List.set_cons_succ])
        refine TG.takeV (i := 8) (v := ?_) rfl (by kernel_rfl) (by kernel_rfl) (by kernel_rfl) (by decide) (fun _ _ _ h => h) rfl hS ?_ ?_
        rotate_left
        focus
          intro wS hSw
          (try dsimp only at hSw)
          go_simp
          rfl
        (try simp only [Act.put, List.getElem_toArray, List.getElem_cons_zero, List.getElem_cons_succ, List.setIfInBounds_toArray, List.set_cons_zero, List.set_cons_succ])
        refine TG.one (i := 9) (by kernel_rfl) rfl (fun K1 hK1 => ?_)
        go_simp
        go_at_call 61
        refine (clone_any HREP.out.drew HSZ).mono ?_
        rintro e' w' ⟨ve, rfl, hgr, hrep2⟩
        obtain ⟨v1a, v1c, hv1⟩ := hrep2.form
        subst hv1
        have HNQ := Lib.hid (CVQ.round5 HQD.out HQK.out hgr hrep2)
        have hbw := hgr.below
        have yb : w'.cell? ⟨w.heap.size, 7, none⟩ = some (.slice (some ⟨g, 0, none⟩) N cv) := (hbw.cell (p := ⟨w.heap.size, 7, none⟩) (by exact hwr)).trans xb
        have y0 : w'.cell? ⟨g, k * 7 + 1, none⟩ = some (.int .i64 e.op) := (hbw.cell (p := ⟨g, k * 7 + 1, none⟩) (by exact b3)).trans x0
        have y1 : w'.cell? ⟨g, k * 7 + 2, none⟩ = some (.int .i64 e.num) := (hbw.cell (p := ⟨g, k * 7 + 2, none⟩) (by exact b3)).trans x1
        have y2 : w'.cell? ⟨g, k * 7 + 3, none⟩ = some (.int .i64 e.den) := (hbw.cell (p := ⟨g, k * 7 + 3, none⟩) (by exact b3)).trans x2
        have y3 : w'.cell? ⟨g, k * 7 + 4, none⟩ = some (.int .i64 e.dim) := (hbw.cell (p := ⟨g, k * 7 + 4, none⟩) (by exact b3)).trans x3
        have y4 : w'.cell? ⟨g, k * 7 + 5, none⟩ = some (.string e.name) := (hbw.cell (p := ⟨g, k * 7 + 5, none⟩) (by exact b3)).trans x4
        have y5 : w'.cell? ⟨g, k * 7 + 6, none⟩ = some (.slice va e.args.length vc) := (hbw.cell (p := ⟨g, k * 7 + 6, none⟩) (by exact b3)).trans x5
        have yf : ∀ i, w'.frozen? ⟨g, i, none⟩ = false := fun i => (hbw.frozen (p := ⟨g, i, none⟩) (by exact b3)).trans (HFZ.out i)
        clear hbw hgr hrep2 xb x0 x1 x2 x3 x4 x5 hfz
        refine TG.go hK1 ?_ (fun hS => ?_)
        focus
          (try dsimp only)
          exact ⟨yb, y0, y1, y2, y3, y4, y5⟩
        clear hK1 K1
        (try simp only [Act.put, List.getElem_toArray, List.getElem_cons_zero, List.getElem_cons_succ, List.setIfInBounds_toArray, List.set_cons_zero, List.set_cons_succ])
        refine TG.takeV (i := 10) (v := ?_) rfl (by kernel_rfl) (by kernel_rfl) (by kernel_rfl) (by decide) (fun _ _ _ h => h) rfl hS ?_ ?_
        rotate_left
        focus
          intro wS hSw
          (try dsimp only at hSw)
          go_simp
          rfl
        (try simp only [Act.put, List.getElem_toArray, List.getElem_cons_zero, List.getElem_cons_succ, List.setIfInBounds_toArray, List.set_cons_zero, List.set_cons_succ])
        refine TG.takeV (i := 11) (v := ?_) rfl (by kernel_rfl) (by kernel_rfl) (by kernel_rfl) (by decide) (fun _ _ _ h => h) rfl hS ?_ ?_
        rotate_left
        focus
          intro wS hSw
          (try dsimp only at hSw)
          go_simp
          rfl
        (try simp only [Act.put, List.getElem_toArray, List.getElem_cons_zero, List.getElem_cons_succ, List.setIfInBounds_toArray, List.set_cons_zero, List.set_cons_succ])
        refine TG.one (i := 12) (by kernel_rfl) rfl (fun K1 hK1 => ?_)
        go_simp
        refine hK1 _ _ (fun h => absurd rfl h) (TG.done (by kernel_rfl) ?_)
        clear hK1 K1 hS
        (try simp only [Act.put, List.getElem_toArray, List.getElem_cons_zero, List.getElem_cons_succ, List.setIfInBounds_toArray, List.set_cons_zero, List.set_cons_succ])
        go_wp2_with fail
        go_roundw
        case rel => exact ⟨k + 1, by omega, by go_num, _, _, _, _, _, _, _, _, _, HNQ.out⟩
        case measure => simp [intOf]; omega
      · obtain rfl : k = N := by omega
        go_wp2_with fail
        go_meet
        exact HQR.out
  have HQ1 := Lib.hid hcut
  clear hcut HQ
  go_step
  exact cv_E S w frm mode unit V v3 v4 v5 v6 (.slice av N cv) hsm hlen _ HQ1 _ _ _ _ _ _ _ _ _ _ _ _ _ _ _ _ _ _ _ _ _ _ _ _ _ _ _ _ _ _ _ _ _ _ _ _ _ _ _ _ _ _ _ _ _ _ _ _ _ _ _ _ _ _ _ _ _ _ _ _ _ _ _ _ _ _ _ _ _ _ _ _ _ _ _ _ _ _ _ _ _ _ _ _ _ _ _ _ _ _ _ _ _ _
end Go.Proofs.Ytldelkkeimlfcaa
/- cloneVersion from its second loop on. -/
namespace Go.Proofs.Ytldelkkeimlfcaa
open Go.RowKit
set_option maxHeartbeats 8000000 in
set_option maxRecDepth 1000000 in
theorem cv_C (S : Nat → Prop) (w : World) (frm mode unit : Int) (V : VerP) (v3 v4 v5 v6 v7 : Value) (hsm : Hid (VerSmall V)) (hlen : Hid (LensV V)) (wc : World) (HQ : Hid (CVS S w frm mode unit V v3 v4 v5 v6 v7 wc)) (ag u3 u4 u5 u6 u7 u8 u9 u10 u11 u12 u13 u14 u15 u16 u17 u18 u19 u20 u21 u22 u23 u24 u25 u26 u27 u28 u29 u30 u31 u32 u33 u34 u35 u36 u37 u38 u39 u40 u41 u42 u43 u44 u45 u46 u47 u48 u49 u50 u51 u52 u53 u54 u55 u56 u57 u58 u59 u60 u61 u62 u63 u64 u65 u66 u67 u68 u69 u70 u71 u72 u73 u74 u75 u76 u77 u78 u79 u80 u81 u82 u83 u84 u85 u86 u87 u88 u89 u90 u91 u92 u93 u94 u95 : Value) :
    Code.wp Try.prog (tlC (tlC (tlC (tlC (Try.f38.body.getD .skip))))) (bodyPost Try.prog Try.f38 (ClonedV S V frm mode unit w)) { tmps := #[ag, .pointer (some ⟨w.heap.size, 0, none⟩), .pointer (some ⟨w.heap.size + 1, 0, none⟩), u3, u4, u5, u6, u7, u8, u9, u10, u11, u12, u13, u14, u15, u16, u17, u18, u19, u20, u21, u22, u23, u24, u25, u26, u27, u28, u29, u30, u31, u32, u33, u34, u35, u36, u37, u38, u39, u40, u41, u42, u43, u44, u45, u46, u47, u48, u49, u50, u51, u52, u53, u54, u55, u56, u57, u58, u59, u60, u61, u62, u63, u64, u65, u66, u67, u68, u69, u70, u71, u72, u73, u74, u75, u76, u77, u78, u79, u80, u81, u82, u83, u84, u85, u86, u87, u88, u89, u90, u91, u92, u93, u94, u95], defers := [] } wc := by
  conv => arg 2; whnf
  obtain ⟨av, cv, hvi, hci⟩ : ∃ av cv, v6 = .slice av V.gr.length cv ∧ wc.cell? ⟨w.heap.size, 6, none⟩ = some v6 := by
    obtain ⟨ql, qg, qr, H1, H2, H3, H4, H5, h, q⟩ := HQ.out
    obtain ⟨av, cv, hvi⟩ := q.r4.form
    exact ⟨av, cv, by rw [hvi, ← q.e2]; simp [grL], cell_of_row _ _ _ _ _ _ q.mem.box⟩
  have hwl : w.heap.size < wc.heap.size := cell_ltv hci
  have hN : V.gr.length ≤ 1000 := by obtain ⟨l1, l2, l3, l4, l5⟩ := hlen.out; omega
  subst hvi
  generalize hNN : V.gr.length = N at *
  have HNN := Lib.hid hNN
  clear hNN
  go_upto_block 2 with fail
  go_cut [] from 3 (fun wx => CVS S w frm mode unit V v3 v4 v5 (.slice av N cv) v7 wx)
  case first =>
    go_wp2_with fail
    go_loopw [48] (fun vk wr => ∃ k : Nat, k ≤ N ∧ vk = .int .i64 k ∧ CVS S w frm mode unit V v3 v4 v5 (.slice av N cv) v7 wr) (fun vk _ => N - (intOf vk).toNat)
    case atStart => exact ⟨0, by omega, rfl, HQ.out⟩
    case round =>
      obtain ⟨k, hk, rfl, hq⟩ := hrel
      have HQR := Lib.hid hq
      clear hq
      by_cases hlt : k < N
      · obtain ⟨ql, qg, qr, H1, H2, H3, H4, H5, h, q⟩ := HQR.out
        have hlq : k < qg.length := by have := congrArg List.length q.e2; rw [List.length_map, HNN.out] at this; omega
        obtain ⟨g, rfl, hn, b1, b2, b3, hcs, hfz⟩ := q.r4.slot (k := k) (by simpa [grL] using hlq)
        have xb : wr.cell? ⟨w.heap.size, 6, none⟩ = some (.slice (some ⟨g, 0, none⟩) N cv) := cell_of_row _ _ _ _ _ _ q.mem.box
        have hwr : w.heap.size < wr.heap.size := cell_ltv xb
        have d1 : (k : Int) < (N : Int) := by omega
        have HFZ := Lib.hid hfz
        obtain ⟨s, ⟨e, v⟩, ⟨f, u⟩, hqk⟩ : ∃ s ev fu, qg[k]? = some (s, ev, fu) := ⟨_, _, _, List.getElem?_eq_getElem hlq⟩
        rw [grL_get _ _ _ hqk] at hcs
        have hmem := mem_grR (List.mem_of_getElem? hqk)
        have hrep := q.s4 (e, v) hmem.1
        have hrepf := q.s4 (f, u) hmem.2
        obtain ⟨va, vc, hv⟩ := hrep.form0
        obtain ⟨ua, uc, hu⟩ := hrepf.form0
        simp only at hv hu
        subst hv hu
        have x0 : wr.cell? ⟨g, k * 13 + 1, none⟩ = some (.int .i64 e.op) := hcs 1 (by omega)
        have x1 : wr.cell? ⟨g, k * 13 + 2, none⟩ = some (.int .i64 e.num) := hcs 2 (by omega)
        have x2 : wr.cell? ⟨g, k * 13 + 3, none⟩ = some (.int .i64 e.den) := hcs 3 (by omega)
        have x3 : wr.cell? ⟨g, k * 13 + 4, none⟩ = some (.int .i64 e.dim) := hcs 4 (by omega)
        have x4 : wr.cell? ⟨g, k * 13 + 5, none⟩ = some (.string e.name) := hcs 5 (by omega)
        have x5 : wr.cell? ⟨g, k * 13 + 6, none⟩ = some (.slice va e.args.length vc) := hcs 6 (by omega)
        have x6 : wr.cell? ⟨g, k * 13 + 7, none⟩ = some (.int .i64 f.op) := hcs 7 (by omega)
        have x7 : wr.cell? ⟨g, k * 13 + 8, none⟩ = some (.int .i64 f.num) := hcs 8 (by omega)
        have x8 : wr.cell? ⟨g, k * 13 + 9, none⟩ = some (.int .i64 f.den) := hcs 9 (by omega)
        have x9 : wr.cell? ⟨g, k * 13 + 10, none⟩ = some (.int .i64 f.dim) := hcs 10 (by omega)
        have x10 : wr.cell? ⟨g, k * 13 + 11, none⟩ = some (.string f.name) := hcs 11 (by omega)
        have x11 : wr.cell? ⟨g, k * 13 + 12, none⟩ = some (.slice ua f.args.length uc) := hcs 12 (by omega)
        have hsz2 := hsm.out.2.1 (s, e, f) (by rw [← q.e2]; exact List.mem_map.2 ⟨_, List.mem_of_getElem? hqk, rfl⟩)
        have HSZ : Hid (e.size ≤ 1000000) := Lib.hid hsz2.1
        have HSF : Hid (f.size ≤ 1000000) := Lib.hid hsz2.2
        have HREP := Lib.hid hrep
        have HREF := Lib.hid hrepf
        have hgw : w.heap.size ≠ g := by have := q.ord; omega
        have HQK := Lib.hid hqk
        have HQD := Lib.hid q.drew
        clear hcs hrep hrepf hmem hsz2 hqk q hn HQR
        go_upto_region 11 with fail
        refine TG.begin 25 (fun w' => w'.cell? ⟨w.heap.size, 6, none⟩ = some (.slice (some ⟨g, 0, none⟩) N cv) ∧ w'.cell? ⟨g, k * 13 + 7, none⟩ = some (.int .i64 f.op) ∧ w'.cell? ⟨g, k * 13 + 8, none⟩ = some (.int .i64 f.num) ∧ w'.cell? ⟨g, k * 13 + 9, none⟩ = some (.int .i64 f.den) ∧ w'.cell? ⟨g, k * 13 + 10, none⟩ = some (.int .i64 f.dim) ∧ w'.cell? ⟨g, k * 13 + 11, none⟩ = some (.string f.name) ∧ w'.cell? ⟨g, k * 13 + 12, none⟩ = some (.slice ua f.args.length uc)) (by kernel_rfl) (by kernel_rfl) ?_ (fun hS => ?_)
        focus exact ⟨xb, x6, x7, x8, x9, x10, x11⟩
        refine TG.takeV (i := 0) (v := ?_) rfl (by kernel_rfl) (by kernel_rfl) (by kernel_rfl) (by decide) (fun _ _ _ h => h) rfl hS ?_ ?_
        rotate_left
        focus
          intro wS hSw
          (try dsimp only at hSw)
          go_simp
          rfl
        (try simp only [Act.put, List.getElem_toArray, List.getElem_cons_zero, List.getElem_cons_succ, List.setIfInBounds_toArray, List.set_cons_zero, List.set_cons_succ])
        refine TG.takeV (i := 1) (v := ?_) rfl (by kernel_rfl) (by kernel_rfl) (by kernel_rfl) (by decide) (fun _ _ _ h => h) rfl hS ?_ ?_
        rotate_left
        focus
          intro wS hSw
          (try dsimp only at hSw)
          go_simp
          rfl
        (try simp only [Act.put, List.getElem_toArray, List.getElem_cons_zero, List.getElem_cons_succ, List.setIfInBounds_toArray, List.set_cons_zero, List.set_cons_succ])
        refine TG.takeV (i := 2) (v := ?_) rfl (by kernel_rfl) (by kernel_rfl) (by kernel_rfl) (by decide) (fun _ _ _ h => h) rfl hS ?_ ?_
        rotate_left
        focus
          intro wS hSw
          (try dsimp only at hSw)
          go_simp
          rfl
        (try simp only [Act.put, List.getElem_toArray, List.getElem_cons_zero, List.getElem_cons_succ, List.setIfInBounds_toArray, List.set_cons_zero, List.set_cons_succ])
        refine TG.takeV (i := 3) (v := ?_) rfl (by kernel_rfl) (by kernel_rfl) (by kernel_rfl) (by decide) (fun _ _ _ h => h) rfl hS ?_ ?_
        rotate_left
        focus
          intro wS hSw
          (try dsimp only at hSw)
          go_simp
          rfl
        (try simp only [Act.put, List.getElem_toArray, List.getElem_cons_zero, List.getElem_cons_succ, List.setIfInBounds_toArray, List.set_cons_zero, List.set_cons_succ])
        refine TG.takeV (i := 4) (v := ?_) rfl (by kernel_rfl) (by kernel_rfl) (by kernel_rfl) (by decide) (fun _ _ _ h => h) rfl hS ?_ ?_
        rotate_left
        focus
          intro wS hSw
          (try dsimp only at hSw)
          go_simp
          rfl
        (try simp only [Act.put, List.getElem_toArray, List.getElem_cons_zero, List.getElem_cons_succ, List.setIfInBounds_toArray, List.set_cons_zero, List.set_cons_succ])
        refine TG.takeV (i := 5) (v := ?_) rfl (by kernel_rfl) (by kernel_rfl) (by kernel_rfl) (by decide) (fun _ _ _ h => h) rfl hS ?_ ?_
        rotate_left
        focus
          intro wS hSw
          (try dsimp only at hSw)
          go_simp
          rfl
        (try simp only [Act.put, List.getElem_toArray, List.getElem_cons_zero, List.getElem_cons_succ, List.setIfInBounds_toArray, List.set_cons_zero, List.set_cons_succ])
        refine TG.takeV (i := 6) (v := ?_) rfl (by kernel_rfl) (by kernel_rfl) (by kernel_rfl) (by decide) (fun _ _ _ h => h) rfl hS ?_ ?_
        rotate_left
        focus
          intro wS hSw
          (try dsimp only at hSw)
          go_simp
          rfl
        (try simp only [Act.put, List.getElem_toArray, List.getElem_cons_zero, List.getElem_cons_succ, List.setIfInBounds_toArray, List.set_cons_zero, List.set_cons_succ])
        refine TG.takeV (i := 7) (v := ?_) rfl (by kernel_rfl) (by kernel_rfl) (by kernel_rfl) (by decide) (fun _ _ _ h => h) rfl hS ?_ ?_
        rotate_left
        focus
          intro wS hSw
          (try dsimp only at hSw)
          go_simp
          rfl
        (try simp only [Act.put, List.getElem_toArray, List.getElem_cons_zero, List.getElem_cons_succ, List.setIfInBounds_toArray, List.set_cons_zero, List.set_cons_succ])
        refine TG.takeV (i := 8) (v := ?_) rfl (by kernel_rfl) (by kernel_rfl) (by kernel_rfl) (by decide) (fun _ _ _ h => h) rfl hS ?_ ?_
        rotate_left
        focus
          intro wS hSw
          (try dsimp only at hSw)
          go_simp
          rfl
        (try simp only [Act.put, List.getElem_toArray, List.getElem_cons_zero, List.getElem_cons_succ, List.setIfInBounds_toArray, List.set_cons_zero, List.set_cons_succ])
        refine TG.takeV (i := 9) (v := ?_) rfl (by kernel_rfl) (by kernel_rfl) (by kernel_rfl) (by decide) (fun _ _ _ h => h) rfl hS ?_ ?_
        rotate_left
        focus
          intro wS hSw
          (try dsimp only at hSw)
          go_simp
          rfl
        (try simp only [Act.put, List.getElem_toArray, List.getElem_cons_zero, List.getElem_cons_succ, List.setIfInBounds_toArray, List.set_cons_zero, List.set_cons_succ])
        refine TG.takeV (i := 10) (v := ?_) rfl (by kernel_rfl) (by kernel_rfl) (by kernel_rfl) (by decide) (fun _ _ _ h => h) rfl hS ?_ ?_
        rotate_left
        focus
          intro wS hSw
          (try dsimp only at hSw)
          go_simp
          rfl
        (try simp only [Act.put, List.getElem_toArray, List.getElem_cons_zero, List.getElem_cons_succ, List.setIfInBounds_toArray, List.set_cons_zero, List.set_cons_succ])
        refine TG.takeV (i := 13) (v := ?_) rfl (by kernel_rfl) (by kernel_rfl) (by kernel_rfl) (by decide) (fun _ _ _ h => h) rfl hS ?_ ?_
        rotate_left
        focus
          intro wS hSw
          (try dsimp only at hSw)
          go_simp
          rfl
        (try simp only [Act.put, List.getElem_toArray, List.getElem_cons_zero, List.getElem_cons_succ, List.setIfInBounds_toArray, List.set_cons_zero, List.set_cons_succ])
        refine TG.takeV (i := 14) (v := ?_) rfl (by kernel_rfl) (by kernel_rfl) (by kernel_rfl) (by decide) (fun _ _ _ h => h) rfl hS ?_ ?_
        rotate_left
        focus
          intro wS hSw
          (try dsimp only at hSw)
          go_simp
          rfl
        (try simp only [Act.put, List.getElem_toArray, List.getElem_cons_zero, List.getElem_cons_succ, List.setIfInBounds_toArray, List.set_cons_zero, List.set_cons_succ])
        refine TG.takeV (i := 15) (v := ?_) rfl (by kernel_rfl) (by kernel_rfl) (by kernel_rfl) (by decide) (fun _ _ _ h => h) rfl hS ?_ ?_
        rotate_left
        focus
          intro wS hSw
          (try dsimp only at hSw)
          go_simp
          rfl
        (try simp only [Act.put, List.getElem_toArray, List.getElem_cons_zero, List.getElem_cons_succ, List.setIfInBounds_toArray, List.set_cons_zero, List.set_cons_succ])
        refine TG.takeV (i := 16) (v := ?_) rfl (by kernel_rfl) (by kernel_rfl) (by kernel_rfl) (by decide) (fun _ _ _ h => h) rfl hS ?_ ?_
        rotate_left
        focus
          intro wS hSw
          (try dsimp only at hSw)
          go_simp
          rfl
        (try simp only [Act.put, List.getElem_toArray, List.getElem_cons_zero, List.getElem_cons_succ, List.setIfInBounds_toArray, List.set_cons_zero, List.set_cons_succ])
        refine TG.takeV (i := 17) (v := ?_) rfl (by kernel_rfl) (by kernel_rfl) (by kernel_rfl) (by decide) (fun _ _ _ h => h) rfl hS ?_ ?_
        rotate_left
        focus
          intro wS hSw
          (try dsimp only at hSw)
          go_simp
          rfl
        (try simp only [Act.put, List.getElem_toArray, List.getElem_cons_zero, List.getElem_cons_succ, List.setIfInBounds_toArray, List.set_cons_zero, List.set_cons_succ])
        refine TG.takeV (i := 18) (v := ?_) rfl (by kernel_rfl) (by kernel_rfl) (by kernel_rfl) (by decide) (fun _ _ _ h => h) rfl hS ?_ ?_
        rotate_left
        focus
          intro wS hSw
          (try dsimp only at hSw)
          go_simp
          rfl
        (try simp only [Act.put, List.getElem_toArray, List.getElem_cons_zero, List.getElem_cons_succ, List.setIfInBounds_toArray, List.set_cons_zero, List.set_cons_succ])
        refine TG.one (i := 11) (by kernel_rfl) rfl (fun K1 hK1 => ?_)
        go_simp
        refine TG.go hK1 ?_ (fun hS => ?_)
        focus
          (try dsimp only)
          exact ⟨xb, x6, x7, x8, x9, x10, x11⟩
        clear hK1 K1
        (try simp only [Act.put, List.getElem_toArray, List.getElem_cons_zero, List.getElem_cons_succ, List.setIfInBounds_toArray, List.set_cons_zero, List.set_cons_succ])
        refine TG.one (i := 12) (by kernel_rfl) rfl (fun K1 hK1 => ?_)
        go_simp
        go_at_call 61
        refine (clone_any (HREP.out.drew) HSZ).mono ?_
        rintro e' w1 ⟨ve, rfl, hgr, hrep2⟩
        obtain ⟨v1a, v1c, hv1⟩ := hrep2.form
        subst hv1
        have hbww1 := hgr.below
        have yb : w1.cell? ⟨w.heap.size, 6, none⟩ = some (.slice (some ⟨g, 0, none⟩) N cv) := (hbww1.cell (p := ⟨w.heap.size, 6, none⟩) (by exact hwr)).trans xb
        have y0 : w1.cell? ⟨g, k * 13 + 1, none⟩ = some (.int .i64 e.op) := (hbww1.cell (p := ⟨g, k * 13 + 1, none⟩) (by exact b3)).trans x0
        have y1 : w1.cell? ⟨g, k * 13 + 2, none⟩ = some (.int .i64 e.num) := (hbww1.cell (p := ⟨g, k * 13 + 2, none⟩) (by exact b3)).trans x1
        have y2 : w1.cell? ⟨g, k * 13 + 3, none⟩ = some (.int .i64 e.den) := (hbww1.cell (p := ⟨g, k * 13 + 3, none⟩) (by exact b3)).trans x2
        have y3 : w1.cell? ⟨g, k * 13 + 4, none⟩ = some (.int .i64 e.dim) := (hbww1.cell (p := ⟨g, k * 13 + 4, none⟩) (by exact b3)).trans x3
        have y4 : w1.cell? ⟨g, k * 13 + 5, none⟩ = some (.string e.name) := (hbww1.cell (p := ⟨g, k * 13 + 5, none⟩) (by exact b3)).trans x4
        have y5 : w1.cell? ⟨g, k * 13 + 6, none⟩ = some (.slice va e.args.length vc) := (hbww1.cell (p := ⟨g, k * 13 + 6, none⟩) (by exact b3)).trans x5
        have y6 : w1.cell? ⟨g, k * 13 + 7, none⟩ = some (.int .i64 f.op) := (hbww1.cell (p := ⟨g, k * 13 + 7, none⟩) (by exact b3)).trans x6
        have y7 : w1.cell? ⟨g, k * 13 + 8, none⟩ = some (.int .i64 f.num) := (hbww1.cell (p := ⟨g, k * 13 + 8, none⟩) (by exact b3)).trans x7
        have y8 : w1.cell? ⟨g, k * 13 + 9, none⟩ = some (.int .i64 f.den) := (hbww1.cell (p := ⟨g, k * 13 + 9, none⟩) (by exact b3)).trans x8
        have y9 : w1.cell? ⟨g, k * 13 + 10, none⟩ = some (.int .i64 f.dim) := (hbww1.cell (p := ⟨g, k * 13 + 10, none⟩) (by exact b3)).trans x9
        have y10 : w1.cell? ⟨g, k * 13 + 11, none⟩ = some (.string f.name) := (hbww1.cell (p := ⟨g, k * 13 + 11, none⟩) (by exact b3)).trans x10
        have y11 : w1.cell? ⟨g, k * 13 + 12, none⟩ = some (.slice ua f.args.length uc) := (hbww1.cell (p := ⟨g, k * 13 + 12, none⟩) (by exact b3)).trans x11
        have hs1 : wr.heap.size ≤ w1.heap.size := hbww1.size
        have HREF1 := Lib.hid (HREF.out.drew.keep (w' := w1) hbww1.size fun b o hb hl => hbww1.cell (p := ⟨b, o, none⟩) hl)
        have HG1 := Lib.hid hgr
        have HR1 := Lib.hid hrep2
        have HB1 := Lib.hid hbww1
        clear hgr hrep2 hbww1 xb x0 x1 x2 x3 x4 x5 x6 x7 x8 x9 x10 x11 hfz
        refine TG.go hK1 ?_ (fun hS => ?_)
        focus
          (try dsimp only)
          exact ⟨yb, y6, y7, y8, y9, y10, y11⟩
        clear hK1 K1
        (try simp only [Act.put, List.getElem_toArray, List.getElem_cons_zero, List.getElem_cons_succ, List.setIfInBounds_toArray, List.set_cons_zero, List.set_cons_succ])
        refine TG.one (i := 19) (by kernel_rfl) rfl (fun K1 hK1 => ?_)
        go_simp
        go_at_call 61
        refine (clone_any (HREF1.out) HSF).mono ?_
        rintro e' w2 ⟨ve, rfl, hgr, hrep3⟩
        obtain ⟨v2a, v2c, hv1⟩ := hrep3.form
        subst hv1
        have hbww2 := hgr.below
        have zb : w2.cell? ⟨w.heap.size, 6, none⟩ = some (.slice (some ⟨g, 0, none⟩) N cv) := (hbww2.cell (p := ⟨w.heap.size, 6, none⟩) (by exact Nat.lt_of_lt_of_le hwr hs1)).trans yb
        have z0 : w2.cell? ⟨g, k * 13 + 1, none⟩ = some (.int .i64 e.op) := (hbww2.cell (p := ⟨g, k * 13 + 1, none⟩) (by exact Nat.lt_of_lt_of_le b3 hs1)).trans y0
        have z1 : w2.cell? ⟨g, k * 13 + 2, none⟩ = some (.int .i64 e.num) := (hbww2.cell (p := ⟨g, k * 13 + 2, none⟩) (by exact Nat.lt_of_lt_of_le b3 hs1)).trans y1
        have z2 : w2.cell? ⟨g, k * 13 + 3, none⟩ = some (.int .i64 e.den) := (hbww2.cell (p := ⟨g, k * 13 + 3, none⟩) (by exact Nat.lt_of_lt_of_le b3 hs1)).trans y2
        have z3 : w2.cell? ⟨g, k * 13 + 4, none⟩ = some (.int .i64 e.dim) := (hbww2.cell (p := ⟨g, k * 13 + 4, none⟩) (by exact Nat.lt_of_lt_of_le b3 hs1)).trans y3
        have z4 : w2.cell? ⟨g, k * 13 + 5, none⟩ = some (.string e.name) := (hbww2.cell (p := ⟨g, k * 13 + 5, none⟩) (by exact Nat.lt_of_lt_of_le b3 hs1)).trans y4
        have z5 : w2.cell? ⟨g, k * 13 + 6, none⟩ = some (.slice va e.args.length vc) := (hbww2.cell (p := ⟨g, k * 13 + 6, none⟩) (by exact Nat.lt_of_lt_of_le b3 hs1)).trans y5
        have z6 : w2.cell? ⟨g, k * 13 + 7, none⟩ = some (.int .i64 f.op) := (hbww2.cell (p := ⟨g, k * 13 + 7, none⟩) (by exact Nat.lt_of_lt_of_le b3 hs1)).trans y6
        have z7 : w2.cell? ⟨g, k * 13 + 8, none⟩ = some (.int .i64 f.num) := (hbww2.cell (p := ⟨g, k * 13 + 8, none⟩) (by exact Nat.lt_of_lt_of_le b3 hs1)).trans y7
        have z8 : w2.cell? ⟨g, k * 13 + 9, none⟩ = some (.int .i64 f.den) := (hbww2.cell (p := ⟨g, k * 13 + 9, none⟩) (by exact Nat.lt_of_lt_of_le b3 hs1)).trans y8
        have z9 : w2.cell? ⟨g, k * 13 + 10, none⟩ = some (.int .i64 f.dim) := (hbww2.cell (p := ⟨g, k * 13 + 10, none⟩) (by exact Nat.lt_of_lt_of_le b3 hs1)).trans y9
        have z10 : w2.cell? ⟨g, k * 13 + 11, none⟩ = some (.string f.name) := (hbww2.cell (p := ⟨g, k * 13 + 11, none⟩) (by exact Nat.lt_of_lt_of_le b3 hs1)).trans y10
        have z11 : w2.cell? ⟨g, k * 13 + 12, none⟩ = some (.slice ua f.args.length uc) := (hbww2.cell (p := ⟨g, k * 13 + 12, none⟩) (by exact Nat.lt_of_lt_of_le b3 hs1)).trans y11
        have HG2 := Lib.hid (World.Grows.after hgr HG1.out)
        have HR2 := Lib.hid (HR1.out.keep (w' := w2) hbww2.size fun b o hb hl => hbww2.cell (p := ⟨b, o, none⟩) hl)
        have HR3 := Lib.hid (hrep3.mono (S' := fun b => wr.heap.size ≤ b) fun b hb => by omega)
        have HNQ := Lib.hid (CVQ.round4 HQD.out HQK.out HG2.out HR2.out HR3.out)
        have zf : ∀ i, w2.frozen? ⟨g, i, none⟩ = false := fun i => (hbww2.frozen (p := ⟨g, i, none⟩) (by exact Nat.lt_of_lt_of_le b3 hs1)).trans ((HB1.out.frozen (p := ⟨g, i, none⟩) (by exact b3)).trans (HFZ.out i))
        clear hgr hrep3 hbww2 yb y0 y1 y2 y3 y4 y5 y6 y7 y8 y9 y10 y11
        refine TG.go hK1 ?_ (fun hS => ?_)
        focus
          (try dsimp only)
          exact ⟨zb, z6, z7, z8, z9, z10, z11⟩
        clear hK1 K1
        (try simp only [Act.put, List.getElem_toArray, List.getElem_cons_zero, List.getElem_cons_succ, List.setIfInBounds_toArray, List.set_cons_zero, List.set_cons_succ])
        refine TG.takeV (i := 20) (v := ?_) rfl (by kernel_rfl) (by kernel_rfl) (by kernel_rfl) (by decide) (fun _ _ _ h => h) rfl hS ?_ ?_
        rotate_left
        focus
          intro wS hSw
          (try dsimp only at hSw)
          go_simp
          rfl
        (try simp only [Act.put, List.getElem_toArray, List.getElem_cons_zero, List.getElem_cons_succ, List.setIfInBounds_toArray, List.set_cons_zero, List.set_cons_succ])
        refine TG.takeV (i := 21) (v := ?_) rfl (by kernel_rfl) (by kernel_rfl) (by kernel_rfl) (by decide) (fun _ _ _ h => h) rfl hS ?_ ?_
        rotate_left
        focus
          intro wS hSw
          (try dsimp only at hSw)
          go_simp
          rfl
        (try simp only [Act.put, List.getElem_toArray, List.getElem_cons_zero, List.getElem_cons_succ, List.setIfInBounds_toArray, List.set_cons_zero, List.set_cons_succ])
        refine TG.one (i := 22) (by kernel_rfl) rfl (fun K1 hK1 => ?_)
        go_simp
        refine TG.go hK1 ?_ (fun hS => ?_)
        focus
          (try dsimp only)
          (refine ⟨?_, ?_, ?_, ?_, ?_, ?_, ?_⟩ <;> simp [go_sem, hgw, zb, z6, z7, z8, z9, z10, z11])
        clear hK1 K1
        (try simp only [Act.put, List.getElem_toArray, List.getElem_cons_zero, List.getElem_cons_succ, List.setIfInBounds_toArray, List.set_cons_zero, List.set_cons_succ])
        refine TG.takeV (i := 23) (v := ?_) rfl (by kernel_rfl) (by kernel_rfl) (by kernel_rfl) (by decide) (fun _ _ _ h => h) rfl hS ?_ ?_
        rotate_left
        focus
          intro wS hSw
          (try dsimp only at hSw)
          go_simp
          rfl
        (try simp only [Act.put, List.getElem_toArray, List.getElem_cons_zero, List.getElem_cons_succ, List.setIfInBounds_toArray, List.set_cons_zero, List.set_cons_succ])
        refine TG.takeV (i := 24) (v := ?_) rfl (by kernel_rfl) (by kernel_rfl) (by kernel_rfl) (by decide) (fun _ _ _ h => h) rfl hS ?_ ?_
        rotate_left
        focus
          intro wS hSw
          (try dsimp only at hSw)
          go_simp
          rfl
        (try simp only [Act.put, List.getElem_toArray, List.getElem_cons_zero, List.getElem_cons_succ, List.setIfInBounds_toArray, List.set_cons_zero, List.set_cons_succ])
        refine TG.one (i := 25) (by kernel_rfl) rfl (fun K1 hK1 => ?_)
        go_simp
        refine hK1 _ _ (fun h => absurd rfl h) (TG.done (by kernel_rfl) ?_)
        clear hK1 K1 hS
        (try simp only [Act.put, List.getElem_toArray, List.getElem_cons_zero, List.getElem_cons_succ, List.setIfInBounds_toArray, List.set_cons_zero, List.set_cons_succ])
        go_wp2_with fail
        go_roundw
        case rel => exact ⟨k + 1, by omega, by go_num, _, _, _, _, _, _, _, _, _, HNQ.out⟩
        case measure => simp [intOf]; omega
      · obtain rfl : k = N := by omega
        go_wp2_with fail
        go_meet
        exact HQR.out
  have HQ1 := Lib.hid hcut
  clear hcut HQ
  go_step
  exact cv_D S w frm mode unit V v3 v4 v5 (.slice av N cv) v7 hsm hlen _ HQ1 _ _ _ _ _ _ _ _ _ _ _ _ _ _ _ _ _ _ _ _ _ _ _ _ _ _ _ _ _ _ _ _ _ _ _ _ _ _ _ _ _ _ _ _ _ _ _ _ _ _ _ _ _ _ _ _ _ _ _ _ _ _ _ _ _ _ _ _ _ _ _ _ _ _ _ _ _ _ _ _ _ _ _ _ _ _ _ _ _ _ _ _ _ _
end Go.Proofs.Ytldelkkeimlfcaa
/- cloneVersion from its first loop on. -/
namespace Go.Proofs.Ytldelkkeimlfcaa
open Go.RowKit
set_option maxHeartbeats 8000000 in
set_option maxRecDepth 1000000 in
theorem cv_B (S : Nat → Prop) (w : World) (frm mode unit : Int) (V : VerP) (v3 v4 v5 v6 v7 : Value) (hsm : Hid (VerSmall V)) (hlen : Hid (LensV V)) (wc : World) (HQ : Hid (CVS S w frm mode unit V v3 v4 v5 v6 v7 wc)) (ag u3 u4 u5 u6 u7 u8 u9 u10 u11 u12 u13 u14 u15 u16 u17 u18 u19 u20 u21 u22 u23 u24 u25 u26 u27 u28 u29 u30 u31 u32 u33 u34 u35 u36 u37 u38 u39 u40 u41 u42 u43 u44 u45 u46 u47 u48 u49 u50 u51 u52 u53 u54 u55 u56 u57 u58 u59 u60 u61 u62 u63 u64 u65 u66 u67 u68 u69 u70 u71 u72 u73 u74 u75 u76 u77 u78 u79 u80 u81 u82 u83 u84 u85 u86 u87 u88 u89 u90 u91 u92 u93 u94 u95 : Value) :
    Code.wp Try.prog (tlC (tlC (tlC (Try.f38.body.getD .skip)))) (bodyPost Try.prog Try.f38 (ClonedV S V frm mode unit w)) { tmps := #[ag, .pointer (some ⟨w.heap.size, 0, none⟩), .pointer (some ⟨w.heap.size + 1, 0, none⟩), u3, u4, u5, u6, u7, u8, u9, u10, u11, u12, u13, u14, u15, u16, u17, u18, u19, u20, u21, u22, u23, u24, u25, u26, u27, u28, u29, u30, u31, u32, u33, u34, u35, u36, u37, u38, u39, u40, u41, u42, u43, u44, u45, u46, u47, u48, u49, u50, u51, u52, u53, u54, u55, u56, u57, u58, u59, u60, u61, u62, u63, u64, u65, u66, u67, u68, u69, u70, u71, u72, u73, u74, u75, u76, u77, u78, u79, u80, u81, u82, u83, u84, u85, u86, u87, u88, u89, u90, u91, u92, u93, u94, u95], defers := [] } wc := by
  conv => arg 2; whnf
  obtain ⟨av, cv, hvi, hci⟩ : ∃ av cv, v5 = .slice av V.le.length cv ∧ wc.cell? ⟨w.heap.size, 5, none⟩ = some v5 := by
    obtain ⟨ql, qg, qr, H1, H2, H3, H4, H5, h, q⟩ := HQ.out
    obtain ⟨av, cv, hvi⟩ := q.r3.form
    exact ⟨av, cv, by rw [hvi, ← q.e1]; simp [letL], cell_of_row _ _ _ _ _ _ q.mem.box⟩
  have hwl : w.heap.size < wc.heap.size := cell_ltv hci
  have hN : V.le.length ≤ 1000 := by obtain ⟨l1, l2, l3, l4, l5⟩ := hlen.out; omega
  subst hvi
  generalize hNN : V.le.length = N at *
  have HNN := Lib.hid hNN
  clear hNN
  go_upto_block 0 with fail
  go_cut [] from 3 (fun wx => CVS S w frm mode unit V v3 v4 (.slice av N cv) v6 v7 wx)
  case first =>
    go_wp2_with fail
    go_loopw [29] (fun vk wr => ∃ k : Nat, k ≤ N ∧ vk = .int .i64 k ∧ CVS S w frm mode unit V v3 v4 (.slice av N cv) v6 v7 wr) (fun vk _ => N - (intOf vk).toNat)
    case atStart => exact ⟨0, by omega, rfl, HQ.out⟩
    case round =>
      obtain ⟨k, hk, rfl, hq⟩ := hrel
      have HQR := Lib.hid hq
      clear hq
      by_cases hlt : k < N
      · obtain ⟨ql, qg, qr, H1, H2, H3, H4, H5, h, q⟩ := HQR.out
        have hlq : k < ql.length := by have := congrArg List.length q.e1; rw [List.length_map, HNN.out] at this; omega
        obtain ⟨g, rfl, hn, b1, b2, b3, hcs, hfz⟩ := q.r3.slot (k := k) (by simpa [letL] using hlq)
        have xb : wr.cell? ⟨w.heap.size, 5, none⟩ = some (.slice (some ⟨g, 0, none⟩) N cv) := cell_of_row _ _ _ _ _ _ q.mem.box
        have hwr : w.heap.size < wr.heap.size := cell_ltv xb
        have d1 : (k : Int) < (N : Int) := by omega
        have HFZ := Lib.hid hfz
        obtain ⟨s, ⟨e, v⟩, hqk⟩ : ∃ s ev, ql[k]? = some (s, ev) := ⟨_, _, List.getElem?_eq_getElem hlq⟩
        have hg0 : (letL ql).getD k [] = .string s :: cells1 e v := by simp [letL, List.getD_eq_getElem?_getD, List.getElem?_map, hqk]
        rw [hg0] at hcs
        have hrep := q.s3 (e, v) (List.mem_map.2 ⟨_, List.mem_of_getElem? hqk, rfl⟩)
        obtain ⟨va, vc, hv⟩ := hrep.form0
        simp only at hv
        subst hv
        have x0 : wr.cell? ⟨g, k * 7 + 1, none⟩ = some (.int .i64 e.op) := hcs 1 (by omega)
        have x1 : wr.cell? ⟨g, k * 7 + 2, none⟩ = some (.int .i64 e.num) := hcs 2 (by omega)
        have x2 : wr.cell? ⟨g, k * 7 + 3, none⟩ = some (.int .i64 e.den) := hcs 3 (by omega)
        have x3 : wr.cell? ⟨g, k * 7 + 4, none⟩ = some (.int .i64 e.dim) := hcs 4 (by omega)
        have x4 : wr.cell? ⟨g, k * 7 + 5, none⟩ = some (.string e.name) := hcs 5 (by omega)
        have x5 : wr.cell? ⟨g, k * 7 + 6, none⟩ = some (.slice va e.args.length vc) := hcs 6 (by omega)
        have HSZ : Hid (e.size ≤ 1000000) := Lib.hid (hsm.out.1 (s, e) (by rw [← q.e1]; exact List.mem_map.2 ⟨_, List.mem_of_getElem? hqk, rfl⟩))
        have HREP := Lib.hid hrep
        have HQK := Lib.hid hqk
        have HQD := Lib.hid q.drew
        clear hcs hrep hqk hg0 q hn HQR
        go_upto_region 6 with fail
        refine TG.begin 12 (fun w' => w'.cell? ⟨w.heap.size, 5, none⟩ = some (.slice (some ⟨g, 0, none⟩) N cv) ∧ w'.cell? ⟨g, k * 7 + 1, none⟩ = some (.int .i64 e.op) ∧ w'.cell? ⟨g, k * 7 + 2, none⟩ = some (.int .i64 e.num) ∧ w'.cell? ⟨g, k * 7 + 3, none⟩ = some (.int .i64 e.den) ∧ w'.cell? ⟨g, k * 7 + 4, none⟩ = some (.int .i64 e.dim) ∧ w'.cell? ⟨g, k * 7 + 5, none⟩ = some (.string e.name) ∧ w'.cell? ⟨g, k * 7 + 6, none⟩ = some (.slice va e.args.length vc)) (by kernel_rfl) (by kernel_rfl) ?_ (fun hS => ?_)
        focus exact ⟨xb, x0, x1, x2, x3, x4, x5⟩
        refine TG.takeV (i := 0) (v := ?_) rfl (by kernel_rfl) (by kernel_rfl) (by kernel_rfl) (by decide) (fun _ _ _ h => h) rfl hS ?_ ?_
        rotate_left
        focus
          intro wS hSw
          (try dsimp only at hSw)
          go_simp
          rfl
        (try simp only [Act.put, List.getElem_toArray, List.getElem_cons_zero, List.getElem_cons_succ, List.setIfInBounds_toArray, List.set_cons_zero, List.set_cons_succ])
        refine TG.takeV (i := 1) (v := ?_) rfl (by kernel_rfl) (by kernel_rfl) (by kernel_rfl) (by decide) (fun _ _ _ h => h) rfl hS ?_ ?_
        rotate_left
        focus
          intro wS hSw
          (try dsimp only at hSw)
          go_simp
          rfl
        (try simp only [Act.put, List.getElem_toArray, List.getElem_cons_zero, List.getElem_cons_succ, List.setIfInBounds_toArray, List.set_cons_zero, List.set_cons_succ])
        refine TG.takeV (i := 2) (v := ?_) rfl (by kernel_rfl) (by kernel_rfl) (by kernel_rfl) (by decide) (fun _ _ _ h => h) rfl hS ?_ ?_
        rotate_left
        focus
          intro wS hSw
          (try dsimp only at hSw)
          go_simp
          rfl
        (try simp only [Act.put, List.getElem_toArray, List.getElem_cons_zero, List.getElem_cons_succ, List.setIfInBounds_toArray, List.set_cons_zero, List.set_cons_succ])
        refine TG.takeV (i := 3) (v := ?_) rfl (by kernel_rfl) (by kernel_rfl) (by kernel_rfl) (by decide) (fun _ _ _ h => h) rfl hS ?_ ?_
        rotate_left
        focus
          intro wS hSw
          (try dsimp only at hSw)
          go_simp
          rfl
        (try simp only [Act.put, List.getElem_toArray, List.getElem_cons_zero, List.getElem_cons_succ, List.setIfInBounds_toArray, List.set_cons_zero, List.set_cons_succ])
        refine TG.takeV (i := 4) (v := ?_) rfl (by kernel_rfl) (by kernel_rfl) (by kernel_rfl) (by decide) (fun _ _ _ h => h) rfl hS ?_ ?_
        rotate_left
        focus
          intro wS hSw
          (try dsimp only at hSw)
          go_simp
          rfl
        (try simp only [Act.put, List.getElem_toArray, List.getElem_cons_zero, List.getElem_cons_succ, List.setIfInBounds_toArray, List.set_cons_zero, List.set_cons_succ])
        refine TG.takeV (i := 5) (v := ?_) rfl (by kernel_rfl) (by kernel_rfl) (by kernel_rfl) (by decide) (fun _ _ _ h => h) rfl hS ?_ ?_
        rotate_left
        focus
          intro wS hSw
          (try dsimp only at hSw)
          go_simp
          rfl
        (try simp only [Act.put, List.getElem_toArray, List.getElem_cons_zero, List.getElem_cons_succ, List.setIfInBounds_toArray, List.set_cons_zero, List.set_cons_succ])
        refine TG.takeV (i := 6) (v := ?_) rfl (by kernel_rfl) (by kernel_rfl) (by kernel_rfl) (by decide) (fun _ _ _ h => h) rfl hS ?_ ?_
        rotate_left
        focus
          intro wS hSw
          (try dsimp only at hSw)
          go_simp
          rfl
        (try simp only [Act.put, List.getElem_toArray, List.getElem_cons_zero, List.getElem_cons_succ, List.setIfInBounds_toArray, List.set_cons_zero, List.set_cons_succ])
        refine TG.takeV (i := 7) (v := ?_) rfl (by kernel_rfl) (by kernel_rfl) (by kernel_rfl) (by decide) (fun _ _ _ h => h) rfl hS ?_ ?_
        rotate_left
        focus
          intro wS hSw
          (try dsimp only at hSw)
          go_simp
          rfl
        (try simp only [Act.put, List.getElem_toArray, List.getElem_cons_zero, List.getElem_cons_succ, List.setIfInBounds_toArray, List.set_cons_zero, List.set_cons_succ])
        refine TG.takeV (i := 8) (v := ?_) rfl (by kernel_rfl) (by kernel_rfl) (by kernel_rfl) (by decide) (fun _ _ _ h => h) rfl hS ?_ ?_
        rotate_left
        focus
          intro wS hSw
          (try dsimp only at hSw)
          go_simp
          rfl
        (try simp only [Act.put, List.getElem_toArray, List.getElem_cons_zero, List.getElem_cons_succ, List.setIfInBounds_toArray, List.set_cons_zero, List.set_cons_succ])
        refine TG.one (i := 9) (by kernel_rfl) rfl (fun K1 hK1 => ?_)
        go_simp
        go_at_call 61
        refine (clone_any HREP.out.drew HSZ).mono ?_
        rintro e' w' ⟨ve, rfl, hgr, hrep2⟩
        obtain ⟨v1a, v1c, hv1⟩ := hrep2.form
        subst hv1
        have HNQ := Lib.hid (CVQ.round3 HQD.out HQK.out hgr hrep2)
        have hbw := hgr.below
        have yb : w'.cell? ⟨w.heap.size, 5, none⟩ = some (.slice (some ⟨g, 0, none⟩) N cv) := (hbw.cell (p := ⟨w.heap.size, 5, none⟩) (by exact hwr)).trans xb
        have y0 : w'.cell? ⟨g, k * 7 + 1, none⟩ = some (.int .i64 e.op) := (hbw.cell (p := ⟨g, k * 7 + 1, none⟩) (by exact b3)).trans x0
        have y1 : w'.cell? ⟨g, k * 7 + 2, none⟩ = some (.int .i64 e.num) := (hbw.cell (p := ⟨g, k * 7 + 2, none⟩) (by exact b3)).trans x1
        have y2 : w'.cell? ⟨g, k * 7 + 3, none⟩ = some (.int .i64 e.den) := (hbw.cell (p := ⟨g, k * 7 + 3, none⟩) (by exact b3)).trans x2
        have y3 : w'.cell? ⟨g, k * 7 + 4, none⟩ = some (.int .i64 e.dim) := (hbw.cell (p := ⟨g, k * 7 + 4, none⟩) (by exact b3)).trans x3
        have y4 : w'.cell? ⟨g, k * 7 + 5, none⟩ = some (.string e.name) := (hbw.cell (p := ⟨g, k * 7 + 5, none⟩) (by exact b3)).trans x4
        have y5 : w'.cell? ⟨g, k * 7 + 6, none⟩ = some (.slice va e.args.length vc) := (hbw.cell (p := ⟨g, k * 7 + 6, none⟩) (by exact b3)).trans x5
        have yf : ∀ i, w'.frozen? ⟨g, i, none⟩ = false := fun i => (hbw.frozen (p := ⟨g, i, none⟩) (by exact b3)).trans (HFZ.out i)
        clear hbw hgr hrep2 xb x0 x1 x2 x3 x4 x5 hfz
        refine TG.go hK1 ?_ (fun hS => ?_)
        focus
          (try dsimp only)
          exact ⟨yb, y0, y1, y2, y3, y4, y5⟩
        clear hK1 K1
        (try simp only [Act.put, List.getElem_toArray, List.getElem_cons_zero, List.getElem_cons_succ, List.setIfInBounds_toArray, List.set_cons_zero, List.set_cons_succ])
        refine TG.takeV (i := 10) (v := ?_) rfl (by kernel_rfl) (by kernel_rfl) (by kernel_rfl) (by decide) (fun _ _ _ h => h) rfl hS ?_ ?_
        rotate_left
        focus
          intro wS hSw
          (try dsimp only at hSw)
          go_simp
          rfl
        (try simp only [Act.put, List.getElem_toArray, List.getElem_cons_zero, List.getElem_cons_succ, List.setIfInBounds_toArray, List.set_cons_zero, List.set_cons_succ])
        refine TG.takeV (i := 11) (v := ?_) rfl (by kernel_rfl) (by kernel_rfl) (by kernel_rfl) (by decide) (fun _ _ _ h => h) rfl hS ?_ ?_
        rotate_left
        focus
          intro wS hSw
          (try dsimp only at hSw)
          go_simp
          rfl
        (try simp only [Act.put, List.getElem_toArray, List.getElem_cons_zero, List.getElem_cons_succ, List.setIfInBounds_toArray, List.set_cons_zero, List.set_cons_succ])
        refine TG.one (i := 12) (by kernel_rfl) rfl (fun K1 hK1 => ?_)
        go_simp
        refine hK1 _ _ (fun h => absurd rfl h) (TG.done (by kernel_rfl) ?_)
        clear hK1 K1 hS
        (try simp only [Act.put, List.getElem_toArray, List.getElem_cons_zero, List.getElem_cons_succ, List.setIfInBounds_toArray, List.set_cons_zero, List.set_cons_succ])
        go_wp2_with fail
        go_roundw
        case rel => exact ⟨k + 1, by omega, by go_num, _, _, _, _, _, _, _, _, _, HNQ.out⟩
        case measure => simp [intOf]; omega
      · obtain rfl : k = N := by omega
        go_wp2_with fail
        go_meet
        exact HQR.out
  have HQ1 := Lib.hid hcut
  clear hcut HQ
  go_step
  exact cv_C S w frm mode unit V v3 v4 (.slice av N cv) v6 v7 hsm hlen _ HQ1 _ _ _ _ _ _ _ _ _ _ _ _ _ _ _ _ _ _ _ _ _ _ _ _ _ _ _ _ _ _ _ _ _ _ _ _ _ _ _ _ _ _ _ _ _ _ _ _ _ _ _ _ _ _ _ _ _ _ _ _ _ _ _ _ _ _ _ _ _ _ _ _ _ _ _ _ _ _ _ _ _ _ _ _ _ _ _ _ _ _ _ _ _ _
end Go.Proofs.Ytldelkkeimlfcaa
/- cloneVersion: the same version in memory of its own. -/
namespace Go.Proofs.Ytldelkkeimlfcaa
open Go.RowKit
/-- Behind block B + 2 nothing has changed. -/
def Far (B : Nat) (a b : World) : Prop := a.heap.size ≤ b.heap.size ∧ ∀ k, B + 2 ≤ k → k < a.heap.size → b.heap[k]? = a.heap[k]?
theorem Far.refl (B : Nat) (a : World) : Far B a a := ⟨Nat.le_refl _, fun _ _ _ => rfl⟩
theorem Far.trans {B : Nat} {a b c : World} (h : Far B a b) (h2 : Far B b c) : Far B a c := ⟨Nat.le_trans h.1 h2.1, fun k hk hl => (h2.2 k hk (Nat.lt_of_lt_of_le hl h.1)).trans (h.2 k hk hl)⟩
theorem Far.grows {B : Nat} {a b : World} (h : a.Grows b) : Far B a b := ⟨h.below.size, fun k _ hl => h.below.block k hl⟩
theorem Far.store (B i : Nat) (a : World) (v : Value) : Far B a (a.setCell ⟨B, i, none⟩ v) := ⟨by simp, fun k hk _ => Below.heap_setCell _ _ _ _ (by show k ≠ B; omega)⟩
theorem Far.drew {B : Nat} {a b : World} (h : Far B a.drew b) : Far B a b := h
theorem RowX.far {T : TypeId} {c base B : Nat} {X : Nat → Prop} {a b : World} {v : Value} {l : List (List Value)} {rs : List (Ex × Value)} (h : RowX T c base X a v l rs) (hf : Far B a b) (hB : B + 2 ≤ base) : RowX T c base X b v l rs :=
  h.keep hf.1 fun k hk _ hl => hf.2 k (by omega) hl
theorem CVAt.start (w : World) (os : Array Value) : CVAt w os ((w.alloc (.cells os 34)).alloc (.cells #[.int .i64 0, .int .i64 0, .int .i64 0, .slice none 0 0, .slice none 0 0, .slice none 0 0, .slice none 0 0, .slice none 0 0] 34)).drew :=
  ⟨by (repeat' (first | (with_reducible exact Below.refl _ _) | (with_reducible assumption) | (with_reducible refine Below.grow ?_ ?_ _ _) | (with_reducible refine Below.alloc ?_ ?_ _) | (with_reducible refine Below.drewN ?_ _) | (with_reducible refine Below.drew ?_) | (with_reducible refine Below.setCell ?_ ?_ _) | go_size)), by rw [heap_drew']; (repeat (first | (rw [heap_alloc_if, if_pos (by simp; done)]; done) | (rw [heap_alloc_if, if_neg (by simp; omega)]) | (rw [heap_alloc_if, if_neg (by simp; done)]))), by rw [heap_drew']; (repeat (first | (rw [heap_alloc_if, if_pos (by simp; done)]; done) | (rw [heap_alloc_if, if_neg (by simp; omega)]) | (rw [heap_alloc_if, if_neg (by simp; done)])))⟩
theorem CVAt.drew {w wr : World} {os : Array Value} (h : CVAt w os wr) : CVAt w os wr.drew := ⟨h.bel.drew, h.box, h.res⟩
theorem repS_old {S : Nat → Prop} {h : Nat} {w W : World} {e : Ex} {v : Value} (hr : RepE S w e v) (hb : Below w.heap.size w W) : RepE (fun b => (S b ∧ b < w.heap.size) ∨ h ≤ b) W e v :=
  (hr.mono' (S' := fun b => (S b ∧ b < w.heap.size) ∨ h ≤ b) fun b hS hl => .inl ⟨hS, hl⟩).keep hb.size fun b o _ hl => hb.cell (p := ⟨b, o, none⟩) hl
set_option maxHeartbeats 8000000 in
set_option maxRecDepth 1000000 in
theorem cloneV_any (S : Nat → Prop) (frm mode unit : Int) (V : VerP) (v3 v4 v5 v6 v7 : Value) (w : World) (hver : VerT S w V v3 v4 v5 v6 v7) (hsm : Hid (VerSmall V)) (hlen : Hid (LensV V)) :
    Calls Try.prog 38 #[.agg #[.int .i64 frm, .int .i64 mode, .int .i64 unit, v3, v4, v5, v6, v7]] w (ClonedV S V frm mode unit w) := by
  obtain ⟨ql, qg, qr, e1, e2, e3, ⟨r1, -⟩, ⟨r2, -⟩, ⟨r3, -⟩, ⟨r4, -⟩, ⟨r5, -⟩, s3, s4, s5⟩ := hver
  obtain ⟨-, -, -, a3, c3, rfl, -⟩ := id r1
  obtain ⟨-, -, -, a4, c4, rfl, -⟩ := id r2
  obtain ⟨-, -, -, a5, c5, rfl, -⟩ := id r3
  obtain ⟨-, -, -, a6, c6, rfl, -⟩ := id r4
  obtain ⟨-, -, -, a7, c7, rfl, -⟩ := id r5
  have HE := Lib.hid (And.intro e1 (And.intro e2 e3))
  have HS := Lib.hid (And.intro s3 (And.intro s4 s5))
  have HR := Lib.hid (And.intro r1 (And.intro r2 (And.intro r3 (And.intro r4 r5))))
  clear e1 e2 e3 s3 s4 s5 r1 r2 r3 r4 r5
  generalize hn3 : (crL V.cr).length = n3 at *
  generalize hn4 : (seL V.se).length = n4 at *
  generalize hn5 : (letL ql).length = n5 at *
  generalize hn6 : (grL qg).length = n6 at *
  generalize hn7 : (reL qr).length = n7 at *
  clear hn3 hn4 hn5 hn6 hn7
  go_enter Try.func38, Try.ntmps38
  go_upto_region 1 with fail
  have HM0 := Lib.hid (CVAt.start w #[.int .i64 frm, .int .i64 mode, .int .i64 unit, .slice a3 n3 c3, .slice a4 n4 c4, .slice a5 n5 c5, .slice a6 n6 c6, .slice a7 n7 c7])
  refine TS.begin [7, 8, 9] (fun w' => w'.cell? ⟨w.heap.size, 3, none⟩ = some (.slice a3 n3 c3) ∧ w'.cell? ⟨w.heap.size, 4, none⟩ = some (.slice a4 n4 c4)) (by kernel_rfl) (by kernel_rfl) ?_ (fun hS => ?_)
  focus (refine ⟨?_, ?_⟩ <;> simp [go_sem])
  refine TS.takeV (i := 0) (v := ?_) rfl (by kernel_rfl) (by kernel_rfl) (by kernel_rfl) (by decide) (fun _ _ _ h => h) rfl hS ?_ ?_
  rotate_left
  focus
    intro wS hSw
    (try dsimp only at hSw)
    go_simp
    rfl
  (try simp only [Act.put, List.getElem_toArray, List.getElem_cons_zero, List.getElem_cons_succ, List.setIfInBounds_toArray, List.set_cons_zero, List.set_cons_succ])
  refine TS.takeV (i := 1) (v := ?_) rfl (by kernel_rfl) (by kernel_rfl) (by kernel_rfl) (by decide) (fun _ _ _ h => h) rfl hS ?_ ?_
  rotate_left
  focus
    intro wS hSw
    (try dsimp only at hSw)
    go_simp
    rfl
  (try simp only [Act.put, List.getElem_toArray, List.getElem_cons_zero, List.getElem_cons_succ, List.setIfInBounds_toArray, List.set_cons_zero, List.set_cons_succ])
  refine TS.takeV (i := 3) (v := ?_) rfl (by kernel_rfl) (by kernel_rfl) (by kernel_rfl) (by decide) (fun _ _ _ h => h) rfl hS ?_ ?_
  rotate_left
  focus
    intro wS hSw
    (try dsimp only at hSw)
    go_simp
    rfl
  (try simp only [Act.put, List.getElem_toArray, List.getElem_cons_zero, List.getElem_cons_succ, List.setIfInBounds_toArray, List.set_cons_zero, List.set_cons_succ])
  refine TS.takeV (i := 4) (v := ?_) rfl (by kernel_rfl) (by kernel_rfl) (by kernel_rfl) (by decide) (fun _ _ _ h => h) rfl hS ?_ ?_
  rotate_left
  focus
    intro wS hSw
    (try dsimp only at hSw)
    go_simp
    rfl
  (try simp only [Act.put, List.getElem_toArray, List.getElem_cons_zero, List.getElem_cons_succ, List.setIfInBounds_toArray, List.set_cons_zero, List.set_cons_succ])
  generalize hW0 : ((w.alloc (.cells #[.int .i64 frm, .int .i64 mode, .int .i64 unit, .slice a3 n3 c3, .slice a4 n4 c4, .slice a5 n5 c5, .slice a6 n6 c6, .slice a7 n7 c7] 34)).alloc (.cells #[.int .i64 0, .int .i64 0, .int .i64 0, .slice none 0 0, .slice none 0 0, .slice none 0 0, .slice none 0 0, .slice none 0 0] 34)).drew = W0 at *
  have hsz0 : W0.heap.size = w.heap.size + 2 := by rw [← hW0]; simp
  clear hW0
  refine TS.one (i := 2) (by kernel_rfl) rfl (fun K1 hK1 => ?_)
  go_simp
  go_at_call 56
  refine (clone_cr _ (crL V.cr) W0 (HR.out.1.same HM0.out.bel.size HM0.out.bel.block)).mono ?_
  rintro e' w1 ⟨u3, rfl, hg1, row1⟩
  have HM1 := Lib.hid (CVAt.grows HM0.out hg1)
  have HG1 := Lib.hid hg1
  have HW1 := Lib.hid row1
  obtain ⟨k3, j3, hu3⟩ := row1.form
  subst hu3
  clear hg1 row1
  have y3 : w1.cell? ⟨w.heap.size, 3, none⟩ = some (.slice a3 n3 c3) := cell_of_row _ _ _ _ _ _ HM1.out.box
  have y4 : w1.cell? ⟨w.heap.size, 4, none⟩ = some (.slice a4 n4 c4) := cell_of_row _ _ _ _ _ _ HM1.out.box
  refine TS.go hK1 ?_ (fun hS => ?_)
  focus
    (try dsimp only)
    exact ⟨y3, y4⟩
  clear hK1 K1
  (try simp only [Act.put, List.getElem_toArray, List.getElem_cons_zero, List.getElem_cons_succ, List.setIfInBounds_toArray, List.set_cons_zero, List.set_cons_succ])
  refine TS.takeV (i := 6) (v := ?_) rfl (by kernel_rfl) (by kernel_rfl) (by kernel_rfl) (by decide) (fun _ _ _ h => h) rfl hS ?_ ?_
  rotate_left
  focus
    intro wS hSw
    (try dsimp only at hSw)
    go_simp
    rfl
  (try simp only [Act.put, List.getElem_toArray, List.getElem_cons_zero, List.getElem_cons_succ, List.setIfInBounds_toArray, List.set_cons_zero, List.set_cons_succ])
  clear y3 y4
  refine TS.one (i := 5) (by kernel_rfl) rfl (fun K1 hK1 => ?_)
  go_simp
  go_at_call 57
  refine (clone_se _ (seL V.se) w1 (HR.out.2.1.same HM1.out.bel.size HM1.out.bel.block)).mono ?_
  rintro e' w2 ⟨u4, rfl, hg2, row2⟩
  have HM2 := Lib.hid (CVAt.grows HM1.out hg2)
  have HG2 := Lib.hid hg2
  have HW2 := Lib.hid row2
  obtain ⟨k4, j4, hu4⟩ := row2.form
  subst hu4
  clear hg2 row2
  have y3 : w2.cell? ⟨w.heap.size, 3, none⟩ = some (.slice a3 n3 c3) := cell_of_row _ _ _ _ _ _ HM2.out.box
  have y4 : w2.cell? ⟨w.heap.size, 4, none⟩ = some (.slice a4 n4 c4) := cell_of_row _ _ _ _ _ _ HM2.out.box
  have yf : ∀ i, w2.frozen? ⟨w.heap.size, i, none⟩ = false := fun i => Joins.unfrozen_of_block HM2.out.box i
  generalize (crL V.cr).length = m3 at *
  generalize (seL V.se).length = m4 at *
  refine TS.go hK1 ?_ (fun hS => ?_)
  focus
    (try dsimp only)
    exact ⟨y3, y4⟩
  clear hK1 K1
  (try simp only [Act.put, List.getElem_toArray, List.getElem_cons_zero, List.getElem_cons_succ, List.setIfInBounds_toArray, List.set_cons_zero, List.set_cons_succ])
  refine TS.one (i := 7) (by kernel_rfl) rfl (fun K1 hK1 => ?_)
  go_simp
  refine hK1 _ _ (fun h => absurd (by decide) h) ?_
  clear hK1 K1
  (try simp only [Act.put, List.getElem_toArray, List.getElem_cons_zero, List.getElem_cons_succ, List.setIfInBounds_toArray, List.set_cons_zero, List.set_cons_succ])
  refine TS.one (i := 8) (by kernel_rfl) rfl (fun K1 hK1 => ?_)
  go_simp
  refine hK1 _ _ (fun h => absurd (by decide) h) ?_
  clear hK1 K1
  (try simp only [Act.put, List.getElem_toArray, List.getElem_cons_zero, List.getElem_cons_succ, List.setIfInBounds_toArray, List.set_cons_zero, List.set_cons_succ])
  refine TS.one (i := 9) (by kernel_rfl) rfl (fun K1 hK1 => ?_)
  go_simp
  refine hK1 _ _ (fun h => absurd (by decide) h) (TS.done (by kernel_rfl) ?_)
  clear hK1 K1
  (try simp only [Act.put, List.getElem_toArray, List.getElem_cons_zero, List.getElem_cons_succ, List.setIfInBounds_toArray, List.set_cons_zero, List.set_cons_succ])
  have HM3 : Hid (CVAt w #[.int .i64 frm, .int .i64 mode, .int .i64 unit, .slice k3 m3 j3, .slice k4 m4 j4, .slice a5 n5 c5, .slice a6 n6 c6, .slice a7 n7 c7] ((w2.setCell ⟨w.heap.size, 3, none⟩ (.slice k3 m3 j3)).setCell ⟨w.heap.size, 4, none⟩ (.slice k4 m4 j4))) := Lib.hid ((HM2.out.store 3 _).store 4 _)
  have HF3 := Lib.hid ((Far.store w.heap.size 3 w2 (.slice k3 m3 j3)).trans (Far.store w.heap.size 4 _ (.slice k4 m4 j4)))
  generalize (w2.setCell ⟨w.heap.size, 3, none⟩ (.slice k3 m3 j3)).setCell ⟨w.heap.size, 4, none⟩ (.slice k4 m4 j4) = W3 at *
  clear y3 y4 yf hS
  have y5 : W3.cell? ⟨w.heap.size, 5, none⟩ = some (.slice a5 n5 c5) := cell_of_row _ _ _ _ _ _ HM3.out.box
  have y6 : W3.cell? ⟨w.heap.size, 6, none⟩ = some (.slice a6 n6 c6) := cell_of_row _ _ _ _ _ _ HM3.out.box
  have y7 : W3.cell? ⟨w.heap.size, 7, none⟩ = some (.slice a7 n7 c7) := cell_of_row _ _ _ _ _ _ HM3.out.box
  go_upto_region 2 with fail
  rename_i Kz hKz
  refine TS.begin [10, 11, 12, 13, 14] (fun w' => w'.cell? ⟨w.heap.size, 5, none⟩ = some (.slice a5 n5 c5) ∧ w'.cell? ⟨w.heap.size, 6, none⟩ = some (.slice a6 n6 c6) ∧ w'.cell? ⟨w.heap.size, 7, none⟩ = some (.slice a7 n7 c7)) (by kernel_rfl) (by kernel_rfl) ?_ (fun hS => ?_)
  focus exact ⟨y5, y6, y7⟩
  refine TS.takeV (i := 0) (v := ?_) rfl (by kernel_rfl) (by kernel_rfl) (by kernel_rfl) (by decide) (fun _ _ _ h => h) rfl hS ?_ ?_
  rotate_left
  focus
    intro wS hSw
    (try dsimp only at hSw)
    go_simp
    rfl
  (try simp only [Act.put, List.getElem_toArray, List.getElem_cons_zero, List.getElem_cons_succ, List.setIfInBounds_toArray, List.set_cons_zero, List.set_cons_succ])
  refine TS.takeV (i := 1) (v := ?_) rfl (by kernel_rfl) (by kernel_rfl) (by kernel_rfl) (by decide) (fun _ _ _ h => h) rfl hS ?_ ?_
  rotate_left
  focus
    intro wS hSw
    (try dsimp only at hSw)
    go_simp
    rfl
  (try simp only [Act.put, List.getElem_toArray, List.getElem_cons_zero, List.getElem_cons_succ, List.setIfInBounds_toArray, List.set_cons_zero, List.set_cons_succ])
  refine TS.takeV (i := 3) (v := ?_) rfl (by kernel_rfl) (by kernel_rfl) (by kernel_rfl) (by decide) (fun _ _ _ h => h) rfl hS ?_ ?_
  rotate_left
  focus
    intro wS hSw
    (try dsimp only at hSw)
    go_simp
    rfl
  (try simp only [Act.put, List.getElem_toArray, List.getElem_cons_zero, List.getElem_cons_succ, List.setIfInBounds_toArray, List.set_cons_zero, List.set_cons_succ])
  refine TS.takeV (i := 4) (v := ?_) rfl (by kernel_rfl) (by kernel_rfl) (by kernel_rfl) (by decide) (fun _ _ _ h => h) rfl hS ?_ ?_
  rotate_left
  focus
    intro wS hSw
    (try dsimp only at hSw)
    go_simp
    rfl
  (try simp only [Act.put, List.getElem_toArray, List.getElem_cons_zero, List.getElem_cons_succ, List.setIfInBounds_toArray, List.set_cons_zero, List.set_cons_succ])
  refine TS.takeV (i := 6) (v := ?_) rfl (by kernel_rfl) (by kernel_rfl) (by kernel_rfl) (by decide) (fun _ _ _ h => h) rfl hS ?_ ?_
  rotate_left
  focus
    intro wS hSw
    (try dsimp only at hSw)
    go_simp
    rfl
  (try simp only [Act.put, List.getElem_toArray, List.getElem_cons_zero, List.getElem_cons_succ, List.setIfInBounds_toArray, List.set_cons_zero, List.set_cons_succ])
  refine TS.takeV (i := 7) (v := ?_) rfl (by kernel_rfl) (by kernel_rfl) (by kernel_rfl) (by decide) (fun _ _ _ h => h) rfl hS ?_ ?_
  rotate_left
  focus
    intro wS hSw
    (try dsimp only at hSw)
    go_simp
    rfl
  (try simp only [Act.put, List.getElem_toArray, List.getElem_cons_zero, List.getElem_cons_succ, List.setIfInBounds_toArray, List.set_cons_zero, List.set_cons_succ])
  have HM4 := Lib.hid HM3.out.drew
  have HF4 : Hid (Far w.heap.size w2 W3.drew) := HF3
  generalize W3.drew = W4 at *
  clear y5 y6 y7 HF3 HM3
  refine TS.one (i := 2) (by kernel_rfl) rfl (fun K1 hK1 => ?_)
  go_simp
  go_at_call 58
  refine (clone_le _ (letL ql) W4 (HR.out.2.2.1.same HM4.out.bel.size HM4.out.bel.block)).mono ?_
  rintro e' w5 ⟨u5, rfl, hg5, row5⟩
  have HM5 := Lib.hid (CVAt.grows HM4.out hg5)
  have HG5 := Lib.hid hg5
  have HW5 := Lib.hid row5
  obtain ⟨k5, j5, hu⟩ := row5.form
  subst hu
  clear hg5 row5
  have y5 : w5.cell? ⟨w.heap.size, 5, none⟩ = some (.slice a5 n5 c5) := cell_of_row _ _ _ _ _ _ HM5.out.box
  have y6 : w5.cell? ⟨w.heap.size, 6, none⟩ = some (.slice a6 n6 c6) := cell_of_row _ _ _ _ _ _ HM5.out.box
  have y7 : w5.cell? ⟨w.heap.size, 7, none⟩ = some (.slice a7 n7 c7) := cell_of_row _ _ _ _ _ _ HM5.out.box
  refine TS.go hK1 ?_ (fun hS => ?_)
  focus
    (try dsimp only)
    exact ⟨y5, y6, y7⟩
  clear hK1 K1
  (try simp only [Act.put, List.getElem_toArray, List.getElem_cons_zero, List.getElem_cons_succ, List.setIfInBounds_toArray, List.set_cons_zero, List.set_cons_succ])
  refine TS.takeV (i := 9) (v := ?_) rfl (by kernel_rfl) (by kernel_rfl) (by kernel_rfl) (by decide) (fun _ _ _ h => h) rfl hS ?_ ?_
  rotate_left
  focus
    intro wS hSw
    (try dsimp only at hSw)
    go_simp
    rfl
  (try simp only [Act.put, List.getElem_toArray, List.getElem_cons_zero, List.getElem_cons_succ, List.setIfInBounds_toArray, List.set_cons_zero, List.set_cons_succ])
  clear y5 y6 y7
  refine TS.one (i := 5) (by kernel_rfl) rfl (fun K1 hK1 => ?_)
  go_simp
  go_at_call 59
  refine (clone_gr _ (grL qg) w5 (HR.out.2.2.2.1.same HM5.out.bel.size HM5.out.bel.block)).mono ?_
  rintro e' w6 ⟨u6, rfl, hg6, row6⟩
  have HM6 := Lib.hid (CVAt.grows HM5.out hg6)
  have HG6 := Lib.hid hg6
  have HW6 := Lib.hid row6
  obtain ⟨k6, j6, hu⟩ := row6.form
  subst hu
  clear hg6 row6
  have y5 : w6.cell? ⟨w.heap.size, 5, none⟩ = some (.slice a5 n5 c5) := cell_of_row _ _ _ _ _ _ HM6.out.box
  have y6 : w6.cell? ⟨w.heap.size, 6, none⟩ = some (.slice a6 n6 c6) := cell_of_row _ _ _ _ _ _ HM6.out.box
  have y7 : w6.cell? ⟨w.heap.size, 7, none⟩ = some (.slice a7 n7 c7) := cell_of_row _ _ _ _ _ _ HM6.out.box
  refine TS.go hK1 ?_ (fun hS => ?_)
  focus
    (try dsimp only)
    exact ⟨y5, y6, y7⟩
  clear hK1 K1
  (try simp only [Act.put, List.getElem_toArray, List.getElem_cons_zero, List.getElem_cons_succ, List.setIfInBounds_toArray, List.set_cons_zero, List.set_cons_succ])
  clear y5 y6 y7
  refine TS.one (i := 8) (by kernel_rfl) rfl (fun K1 hK1 => ?_)
  go_simp
  go_at_call 60
  refine (clone_re _ (reL qr) w6 (HR.out.2.2.2.2.same HM6.out.bel.size HM6.out.bel.block)).mono ?_
  rintro e' w7 ⟨u7, rfl, hg7, row7⟩
  have HM7 := Lib.hid (CVAt.grows HM6.out hg7)
  have HG7 := Lib.hid hg7
  have HW7 := Lib.hid row7
  obtain ⟨k7, j7, hu⟩ := row7.form
  subst hu
  clear hg7 row7
  have y5 : w7.cell? ⟨w.heap.size, 5, none⟩ = some (.slice a5 n5 c5) := cell_of_row _ _ _ _ _ _ HM7.out.box
  have y6 : w7.cell? ⟨w.heap.size, 6, none⟩ = some (.slice a6 n6 c6) := cell_of_row _ _ _ _ _ _ HM7.out.box
  have y7 : w7.cell? ⟨w.heap.size, 7, none⟩ = some (.slice a7 n7 c7) := cell_of_row _ _ _ _ _ _ HM7.out.box
  have yf : ∀ i, w7.frozen? ⟨w.heap.size, i, none⟩ = false := fun i => Joins.unfrozen_of_block HM7.out.box i
  generalize hm5 : (letL ql).length = m5 at *
  generalize hm6 : (grL qg).length = m6 at *
  generalize hm7 : (reL qr).length = m7 at *
  refine TS.go hK1 ?_ (fun hS => ?_)
  focus
    (try dsimp only)
    exact ⟨y5, y6, y7⟩
  clear hK1 K1
  (try simp only [Act.put, List.getElem_toArray, List.getElem_cons_zero, List.getElem_cons_succ, List.setIfInBounds_toArray, List.set_cons_zero, List.set_cons_succ])
  refine TS.one (i := 10) (by kernel_rfl) rfl (fun K1 hK1 => ?_)
  go_simp
  refine hK1 _ _ (fun h => absurd (by decide) h) ?_
  clear hK1 K1
  (try simp only [Act.put, List.getElem_toArray, List.getElem_cons_zero, List.getElem_cons_succ, List.setIfInBounds_toArray, List.set_cons_zero, List.set_cons_succ])
  refine TS.one (i := 11) (by kernel_rfl) rfl (fun K1 hK1 => ?_)
  go_simp
  refine hK1 _ _ (fun h => absurd (by decide) h) ?_
  clear hK1 K1
  (try simp only [Act.put, List.getElem_toArray, List.getElem_cons_zero, List.getElem_cons_succ, List.setIfInBounds_toArray, List.set_cons_zero, List.set_cons_succ])
  refine TS.one (i := 12) (by kernel_rfl) rfl (fun K1 hK1 => ?_)
  go_simp
  refine hK1 _ _ (fun h => absurd (by decide) h) ?_
  clear hK1 K1
  (try simp only [Act.put, List.getElem_toArray, List.getElem_cons_zero, List.getElem_cons_succ, List.setIfInBounds_toArray, List.set_cons_zero, List.set_cons_succ])
  refine TS.one (i := 13) (by kernel_rfl) rfl (fun K1 hK1 => ?_)
  go_simp
  refine hK1 _ _ (fun h => absurd (by decide) h) ?_
  clear hK1 K1
  (try simp only [Act.put, List.getElem_toArray, List.getElem_cons_zero, List.getElem_cons_succ, List.setIfInBounds_toArray, List.set_cons_zero, List.set_cons_succ])
  refine TS.one (i := 14) (by kernel_rfl) rfl (fun K1 hK1 => ?_)
  go_simp
  refine hK1 _ _ (fun h => absurd (by decide) h) (TS.done (by kernel_rfl) ?_)
  clear hK1 K1
  (try simp only [Act.put, List.getElem_toArray, List.getElem_cons_zero, List.getElem_cons_succ, List.setIfInBounds_toArray, List.set_cons_zero, List.set_cons_succ])
  have HM8 : Hid (CVAt w #[.int .i64 frm, .int .i64 mode, .int .i64 unit, .slice k3 m3 j3, .slice k4 m4 j4, .slice k5 m5 j5, .slice k6 m6 j6, .slice k7 m7 j7] (((w7.setCell ⟨w.heap.size, 5, none⟩ (.slice k5 m5 j5)).setCell ⟨w.heap.size, 6, none⟩ (.slice k6 m6 j6)).setCell ⟨w.heap.size, 7, none⟩ (.slice k7 m7 j7))) := Lib.hid (((HM7.out.store 5 _).store 6 _).store 7 _)
  have HF8 := Lib.hid (((Far.store w.heap.size 5 w7 (.slice k5 m5 j5)).trans (Far.store w.heap.size 6 _ (.slice k6 m6 j6))).trans (Far.store w.heap.size 7 _ (.slice k7 m7 j7)))
  generalize ((w7.setCell ⟨w.heap.size, 5, none⟩ (.slice k5 m5 j5)).setCell ⟨w.heap.size, 6, none⟩ (.slice k6 m6 j6)).setCell ⟨w.heap.size, 7, none⟩ (.slice k7 m7 j7) = W8 at *
  have HQ : Hid (CVS S w frm mode unit V (.slice k3 m3 j3) (.slice k4 m4 j4) (.slice k5 m5 j5) (.slice k6 m6 j6) (.slice k7 m7 j7) W8) := by
    have f7 := HF8.out
    have f6 := (Far.grows (B := w.heap.size) HG7.out).trans f7
    have f5 := (Far.grows (B := w.heap.size) HG6.out).trans f6
    have f4 := (Far.grows (B := w.heap.size) HG5.out).trans f5
    have f2 := HF4.out.trans f4
    have f1 := (Far.grows (B := w.heap.size) HG2.out).trans f2
    have z1 := HG1.out.below.size
    have z2 := HG2.out.below.size
    have z4 := HF4.out.1
    have z5 := HG5.out.below.size
    have z6 := HG6.out.below.size
    have z7 := HG7.out.below.size
    have z8 := HF8.out.1
    have hb := HM8.out.bel
    obtain ⟨s3, s4, s5⟩ := HS.out
    exact Lib.hid ⟨ql, qg, qr, W0.heap.size, w1.heap.size, W4.heap.size, w5.heap.size, w6.heap.size, w7.heap.size, HM8.out, ⟨by omega, by omega, by omega, by omega, by omega, by omega, by omega⟩, HE.out.1, HE.out.2.1, HE.out.2.2,
      HW1.out.upto.far f1 (by omega), (HW2.out.upto.far f2 (by omega)).mono (fun b hb hl => by show b < W4.heap.size; have : b < w2.heap.size := hb; omega), HW5.out.upto.far f5 (by omega), HW6.out.upto.far f6 (by omega), HW7.out.upto.far f7 (by omega),
      fun x hx => repS_old (s3 x hx) hb, fun x hx => repS_old (s4 x hx) hb, fun x hx => repS_old (s5 x hx) hb⟩
  clear y5 y6 y7 yf hS
  go_step
  refine hKz _ _ ?_
  exact cv_B S w frm mode unit V _ _ _ _ _ hsm hlen W8 HQ _ _ _ _ _ _ _ _ _ _ _ _ _ _ _ _ _ _ _ _ _ _ _ _ _ _ _ _ _ _ _ _ _ _ _ _ _ _ _ _ _ _ _ _ _ _ _ _ _ _ _ _ _ _ _ _ _ _ _ _ _ _ _ _ _ _ _ _ _ _ _ _ _ _ _ _ _ _ _ _ _ _ _ _ _ _ _ _ _ _ _ _ _ _
end Go.Proofs.Ytldelkkeimlfcaa
