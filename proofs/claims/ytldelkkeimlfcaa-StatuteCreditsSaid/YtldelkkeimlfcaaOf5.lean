/- Of behind its loop 5. -/
import Derived.Test.YtldelkkeimlfcaaTwistW
set_option linter.all false
namespace Go.Proofs.Ytldelkkeimlfcaa
open Go.RowKit
set_option maxHeartbeats 40000000 in
set_option maxRecDepth 1000000 in
theorem Of_from5 (R : RawV) (w : World) (h1 : I64 R.frm) (h2 : I64 R.mode) (h3 : I64 R.unit) (h4 : I64 R.twist) (ca : Option Addr) (sa : Option Addr) (la : Option Addr) (ia : Option Addr) (pa : Option Addr) (ua : Option Addr) (ccap : Nat) (scap : Nat) (lcap : Nat) (icap : Nat) (pcap : Nat) (ucap : Nat) (hcl : R.credits.length ≤ 140737488355328) (hsl : R.series.length ≤ 140737488355328) (hll : R.lets.length ≤ 140737488355328) (hil : R.ifs.length ≤ 140737488355328) (hpl : R.pays.length ≤ 140737488355328) (hul : R.cuts.length ≤ 140737488355328) (HCC : Hid (R.credits.length = 0 ∨ ∃ b off, ca = some ⟨b, off, none⟩ ∧ b < w.heap.size ∧ ∀ (i : Nat), i < R.credits.length → w.cell? ⟨b, off + i, none⟩ = some (.int .i64 (R.credits.getD i 0)))) (HSC : Hid (R.series.length = 0 ∨ ∃ b off, sa = some ⟨b, off, none⟩ ∧ b < w.heap.size ∧ ∀ (i : Nat), i < R.series.length → w.cell? ⟨b, off + i, none⟩ = some (.int .i64 (R.series.getD i 0)))) (HLC : Hid (R.lets.length = 0 ∨ ∃ b off, la = some ⟨b, off, none⟩ ∧ b < w.heap.size ∧ ∀ (i : Nat), i < R.lets.length → ∃ u, w.cell? ⟨b, off + i, none⟩ = some u ∧ IntsAt w u (R.lets.getD i []))) (HIC : Hid (R.ifs.length = 0 ∨ ∃ b off, ia = some ⟨b, off, none⟩ ∧ b < w.heap.size ∧ ∀ (i : Nat), i < R.ifs.length → ∃ u, w.cell? ⟨b, off + i, none⟩ = some u ∧ IntsAt w u (R.ifs.getD i []))) (HPC : Hid (R.pays.length = 0 ∨ ∃ b off, pa = some ⟨b, off, none⟩ ∧ b < w.heap.size ∧ ∀ (i : Nat), i < R.pays.length → ∃ u, w.cell? ⟨b, off + i, none⟩ = some u ∧ IntsAt w u (R.pays.getD i []))) (HUC : Hid (R.cuts.length = 0 ∨ ∃ b off, ua = some ⟨b, off, none⟩ ∧ b < w.heap.size ∧ ∀ (i : Nat), i < R.cuts.length → ∃ u, w.cell? ⟨b, off + i, none⟩ = some u ∧ IntsAt w u (R.cuts.getD i []))) (g : Nat) (wk : Nat) (wc : World) (vcr : Value) (H1 : Nat) (hgH1 : g < H1) (vse : Value) (H2 : Nat) (hgH2 : g < H2) (hH12 : H1 ≤ H2) (vle : Value) (H3 : Nat) (ql : List (ByteArray × (Ex × Value))) (hgH3 : g < H3) (hH23 : H2 ≤ H3) (eva : Option Addr) (evc : Nat) (vgr : Value) (H4 : Nat) (qg : List GrT) (hgH4 : g < H4) (hH34 : H3 ≤ H4) (vre : Value) (H5 : Nat) (qr : List (Int × (Ex × Value))) (hcut : OfAt w (raw10 R (.slice ca R.credits.length ccap) (.slice sa R.series.length scap) (.slice la R.lets.length lcap) (.slice ia R.ifs.length icap) (.slice pa R.pays.length pcap) (.slice ua R.cuts.length ucap)) g #[.int .i64 (pick R.frm 73049), .int .i64 (pick R.mode 4 + 1), .int .i64 (unitOf (pick R.unit 5)), vcr, vse, vle, vgr, vre] wc ∧ RowX 63 2 H1 (· < H2) wc vcr (credCells R (nCred R)) [] ∧ RowX 67 3 H2 (· < H3) wc vse (serCells R (nSer R)) [] ∧ RowX 75 7 H3 (· < H4) wc vle (letL ql) (ql.map (·.2)) ∧ RowX 79 13 H4 (· < H5) wc vgr (grL qg) (grR qg) ∧ (g < H5 ∧ H4 ≤ H5 ∧ H5 ≤ wc.heap.size) ∧ RowG 81 7 H5 wc vre (reL qr) (qr.map (·.2)) ∧ ReQ R (nCut R) qr) (HQL : Hid (LetQ R (nLet R) ql)) (HQG : Hid (GrQ R (nPay R) qg)) (u5 u6 u7 u8 u9 u11 u12 u13 u14 u15 u16 u17 u18 u19 u20 u21 u22 u23 u24 u25 u26 u27 u28 u29 u30 u31 u32 u33 u34 u35 u36 u37 u38 u39 u40 u41 u42 u43 u44 u45 u46 u47 u48 u49 u50 u51 u52 u53 u54 u55 u56 u57 u58 u59 u60 u61 u62 u63 u64 u65 u66 u67 u68 u69 u70 u71 u72 u73 u74 u75 u76 u77 u78 u79 u80 u81 u82 u83 u84 u85 u86 u87 u88 u89 u90 u91 u92 u93 u94 u95 u96 u97 u98 u99 u100 u101 u102 u103 u104 u105 u106 u107 u108 u109 u110 u111 u112 u113 u114 u115 u116 u117 u118 u119 u120 u121 u122 u123 u124 u125 u126 u127 u128 u129 u130 u131 u132 u133 u134 u135 u136 u137 u138 u139 u140 u141 u142 u143 u144 u145 u146 u147 u148 u149 u150 u151 u152 u153 u154 u155 u156 u157 u158 u159 u160 u161 u162 u163 u164 u165 u166 u167 u168 u169 u170 u171 u172 u173 u174 u175 u176 u177 u178 u179 u180 u181 u182 u183 u184 u185 u186 u187 u188 u189 u190 u191 u192 u193 u194 u195 u196 u197 u198 u199 u200 u201 u202 u203 u204 u205 u206 u207 u208 u209 u210 u211 u212 u213 u214 u215 u216 u217 u218 u219 u220 u221 u222 u223 u224 u225 u226 u227 u228 u229 u230 u231 u232 u233 u234 u235 u236 u237 u238 u239 : Value) :
    Code.wp Try.prog (tlC (tlC (tlC (tlC (tlC (tlC (tlC (tlC (tlC (Try.f9.body.getD .skip)))))))))) (bodyPost Try.prog Try.f9 (OfPost R w)) { tmps := #[(.agg (raw10 R (.slice ca R.credits.length ccap) (.slice sa R.series.length scap) (.slice la R.lets.length lcap) (.slice ia R.ifs.length icap) (.slice pa R.pays.length pcap) (.slice ua R.cuts.length ucap))), .pointer (some ⟨w.heap.size, 0, none⟩), .pointer (some ⟨w.heap.size + 1, 0, none⟩), .pointer (some ⟨g, 0, none⟩), .slice (some ⟨wk, 0, none⟩) 6 6, u5, u6, u7, u8, u9, .slice eva (envL (envF R (nLet R))).length evc, u11, u12, u13, u14, u15, u16, u17, u18, u19, u20, u21, u22, u23, u24, u25, u26, u27, u28, u29, u30, u31, u32, u33, u34, u35, u36, u37, u38, u39, u40, u41, u42, u43, u44, u45, u46, u47, u48, u49, u50, u51, u52, u53, u54, u55, u56, u57, u58, u59, u60, u61, u62, u63, u64, u65, u66, u67, u68, u69, u70, u71, u72, u73, u74, u75, u76, u77, u78, u79, u80, u81, u82, u83, u84, u85, u86, u87, u88, u89, u90, u91, u92, u93, u94, u95, u96, u97, u98, u99, u100, u101, u102, u103, u104, u105, u106, u107, u108, u109, u110, u111, u112, u113, u114, u115, u116, u117, u118, u119, u120, u121, u122, u123, u124, u125, u126, u127, u128, u129, u130, u131, u132, u133, u134, u135, u136, u137, u138, u139, u140, u141, u142, u143, u144, u145, u146, u147, u148, u149, u150, u151, u152, u153, u154, u155, u156, u157, u158, u159, u160, u161, u162, u163, u164, u165, u166, u167, u168, u169, u170, u171, u172, u173, u174, u175, u176, u177, u178, u179, u180, u181, u182, u183, u184, u185, u186, u187, u188, u189, u190, u191, u192, u193, u194, u195, u196, u197, u198, u199, u200, u201, u202, u203, u204, u205, u206, u207, u208, u209, u210, u211, u212, u213, u214, u215, u216, u217, u218, u219, u220, u221, u222, u223, u224, u225, u226, u227, u228, u229, u230, u231, u232, u233, u234, u235, u236, u237, u238, u239], defers := [] } wc := by
  conv => arg 2; whnf
  unfold raw10
  clear h1 h2 h3 hcl hsl hll hil hpl hul HCC HSC HLC HIC HPC HUC
  obtain ⟨hof, hrow1, hrow2, hrow3, hrow4, ⟨hgH5, hH45, hH5⟩, hrow5, hqr⟩ := hcut
  obtain ⟨ca3, cc3, rfl⟩ := hrow1.form
  obtain ⟨ca4, cc4, rfl⟩ := hrow2.form
  obtain ⟨ca5, cc5, rfl⟩ := hrow3.form
  obtain ⟨ca6, cc6, rfl⟩ := hrow4.form
  obtain ⟨ca7, cc7, rfl⟩ := hrow5.form
  generalize hn3 : (credCells R (nCred R)).length = n3 at *
  generalize hn4 : (serCells R (nSer R)).length = n4 at *
  generalize hn5 : (letL ql).length = n5 at *
  generalize hn6 : (grL qg).length = n6 at *
  generalize hn7 : (reL qr).length = n7 at *
  have HV : Hid (VerAt H1 wc (madeP R) (.slice ca3 n3 cc3) (.slice ca4 n4 cc4) (.slice ca5 n5 cc5) (.slice ca6 n6 cc6) (.slice ca7 n7 cc7)) :=
    Lib.hid ⟨ql, qg, qr, H1, H2, H3, H4, H5, HQL.out, HQG.out, hqr, ⟨⟨by omega, by omega, by omega, by omega, by omega⟩, by rw [crL_made]; exact hrow1, by rw [seL_made]; exact hrow2, hrow3, hrow4, hrow5⟩⟩
  clear hrow1 hrow2 hrow3 hrow4 hrow5 hqr hn3 hn4 hn5 hn6 hn7 HQL HQG
  have HOFR := Lib.hid hof
  have hge := hof.gge
  have hl2 := hof.lt
  have hbx : wc.cell? ⟨w.heap.size, 9, none⟩ = some (.int .i64 R.twist) := cell_of_row _ _ _ _ _ _ hof.box
  clear hof
  by_cases ht0 : R.twist = 0
  · have hb0 : (R.twist != 0) = false := by simp [ht0]
    have HT := Lib.hid (ofP_0 ht0)
    clear ht0
    have H1C : Hid ((#[.int .i64 (pick R.frm 73049), .int .i64 (pick R.mode 4 + 1), .int .i64 (unitOf (pick R.unit 5)), .slice ca3 n3 cc3, .slice ca4 n4 cc4, .slice ca5 n5 cc5, .slice ca6 n6 cc6, .slice ca7 n7 cc7] : Array Value).all (·.oneCell') = true) := Lib.hid (all_oneCell_toArray (cs := [.int .i64 (pick R.frm 73049), .int .i64 (pick R.mode 4 + 1), .int .i64 (unitOf (pick R.unit 5)), .slice ca3 n3 cc3, .slice ca4 n4 cc4, .slice ca5 n5 cc5, .slice ca6 n6 cc6, .slice ca7 n7 cc7]) (by intro u hu; simp only [List.mem_cons, List.not_mem_nil, or_false] at hu; rcases hu with rfl | rfl | rfl | rfl | rfl | rfl | rfl | rfl <;> rfl))
    have HTH := Lib.hid (there_of_block HOFR.out.res 8 rfl)
    have HZB := Lib.hid (block_setCells (#[.int .i64 (pick R.frm 73049), .int .i64 (pick R.mode 4 + 1), .int .i64 (unitOf (pick R.unit 5)), .slice ca3 n3 cc3, .slice ca4 n4 cc4, .slice ca5 n5 cc5, .slice ca6 n6 cc6, .slice ca7 n7 cc7] : Array Value).toList 0 wc _ HOFR.out.res)
    have HZL := Lib.hid (below_setCells (Nat.le_succ w.heap.size) (#[.int .i64 (pick R.frm 73049), .int .i64 (pick R.mode 4 + 1), .int .i64 (unitOf (pick R.unit 5)), .slice ca3 n3 cc3, .slice ca4 n4 cc4, .slice ca5 n5 cc5, .slice ca6 n6 cc6, .slice ca7 n7 cc7] : Array Value).toList 0 wc HOFR.out.bel)
    have HZN := Lib.hid (next_setCells (b := w.heap.size + 1) (#[.int .i64 (pick R.frm 73049), .int .i64 (pick R.mode 4 + 1), .int .i64 (unitOf (pick R.unit 5)), .slice ca3 n3 cc3, .slice ca4 n4 cc4, .slice ca5 n5 cc5, .slice ca6 n6 cc6, .slice ca7 n7 cc7] : Array Value).toList 0 wc (Next.refl _ _))
    generalize hwz : wc.setCells (w.heap.size + 1) 0 (#[.int .i64 (pick R.frm 73049), .int .i64 (pick R.mode 4 + 1), .int .i64 (unitOf (pick R.unit 5)), .slice ca3 n3 cc3, .slice ca4 n4 cc4, .slice ca5 n5 cc5, .slice ca6 n6 cc6, .slice ca7 n7 cc7] : Array Value).toList = wz at HZB HZL HZN
    have HZ := Lib.hid hwz
    clear hwz
    repeat (first
      | ((with_reducible (show wpList _ _ _ (_ :: _) _ _)); refine wpList_load_row rfl 34 _ rfl g rfl 34 _ _ _ HOFR.out.out Try.underlying34 rfl info34 ?_)
      | ((with_reducible (show wpList _ _ _ (_ :: _) _ _)); refine wpList_store_mid rfl 34 (.tmp 2) (.tmp 239) rfl (w.heap.size + 1) 0 #[.int .i64 (pick R.frm 73049), .int .i64 (pick R.mode 4 + 1), .int .i64 (unitOf (pick R.unit 5)), .slice ca3 n3 cc3, .slice ca4 n4 cc4, .slice ca5 n5 cc5, .slice ca6 n6 cc6, .slice ca7 n7 cc7] rfl rfl HTH.out info34 H1C.out ?_; rw [HZ.out])
      | go_values | go_skip | go_guarded | go_step | go_upon)
    refine bodyPost_ret (results_cell_row Try.results9 _ _ (w.heap.size + 1) 34 #[.int .i64 (pick R.frm 73049), .int .i64 (pick R.mode 4 + 1), .int .i64 (unitOf (pick R.unit 5)), .slice ca3 n3 cc3, .slice ca4 n4 cc4, .slice ca5 n5 cc5, .slice ca6 n6 cc6, .slice ca7 n7 cc7] (0, 0) _ rfl HZB.out Try.underlying34 rfl info34) rfl ?_
    exact OfPost.mk HT.out ⟨rfl, rfl, rfl⟩ HZL.out HZN.out HV.out (by omega)
  · have hb0 : (R.twist != 0) = true := by simp [ht0]
    by_cases ht8 : R.twist.tmod 8 = 0
    · have hb8 : (R.twist.tmod 8 == 0) = true := by simp [ht8]
      have HT := Lib.hid (ofP_2 ht0 ht8)
      have hq : IntKind.i64.wrap (R.twist.tdiv 8) = R.twist.tdiv 8 := tdiv8_in h4
      have hp7 := pick_bd (R.twist.tdiv 8) 7 (by omega)
      obtain ⟨hp8, hp9⟩ := hp7
      clear ht0 ht8
      repeat (first | go_values | go_skip | go_guarded | go_step | go_upon)
      refine (Pick_any _ _ _ (by omega)).mono ?_
      rintro e w' ⟨rfl, rfl⟩
      dsimp only
      repeat (first | go_values | go_skip | go_guarded | go_step | go_upon)
      refine (twist_any (pick (R.twist.tdiv 8) 7) hp8 hp9 H1 g _ _ _ (madeP R) (.slice ca3 n3 cc3) (.slice ca4 n4 cc4) (.slice ca5 n5 cc5) (.slice ca6 n6 cc6) (.slice ca7 n7 cc7) wc HOFR.out.out (made_lens R) HV.out).mono ?_
      rintro e w2 ⟨rfl, hb2, hv2⟩
      dsimp only
      have HO2 := Lib.hid (HOFR.out.kept (HOFR.out.bel.trans (Joins.below_le hb2 (by omega))) (fun k hk hk2 => hb2.block k (by omega)))
      have HV2 := Lib.hid hv2
      clear hb2 hv2
      have H1C : Hid ((#[.int .i64 (pick R.frm 73049), .int .i64 (pick R.mode 4 + 1), .int .i64 (unitOf (pick R.unit 5)), .slice ca3 n3 cc3, .slice ca4 n4 cc4, .slice ca5 n5 cc5, .slice ca6 n6 cc6, .slice ca7 n7 cc7] : Array Value).all (·.oneCell') = true) := Lib.hid (all_oneCell_toArray (cs := [.int .i64 (pick R.frm 73049), .int .i64 (pick R.mode 4 + 1), .int .i64 (unitOf (pick R.unit 5)), .slice ca3 n3 cc3, .slice ca4 n4 cc4, .slice ca5 n5 cc5, .slice ca6 n6 cc6, .slice ca7 n7 cc7]) (by intro u hu; simp only [List.mem_cons, List.not_mem_nil, or_false] at hu; rcases hu with rfl | rfl | rfl | rfl | rfl | rfl | rfl | rfl <;> rfl))
      have HTH := Lib.hid (there_of_block HO2.out.res 8 rfl)
      have HZB := Lib.hid (block_setCells (#[.int .i64 (pick R.frm 73049), .int .i64 (pick R.mode 4 + 1), .int .i64 (unitOf (pick R.unit 5)), .slice ca3 n3 cc3, .slice ca4 n4 cc4, .slice ca5 n5 cc5, .slice ca6 n6 cc6, .slice ca7 n7 cc7] : Array Value).toList 0 w2 _ HO2.out.res)
      have HZL := Lib.hid (below_setCells (Nat.le_succ w.heap.size) (#[.int .i64 (pick R.frm 73049), .int .i64 (pick R.mode 4 + 1), .int .i64 (unitOf (pick R.unit 5)), .slice ca3 n3 cc3, .slice ca4 n4 cc4, .slice ca5 n5 cc5, .slice ca6 n6 cc6, .slice ca7 n7 cc7] : Array Value).toList 0 w2 HO2.out.bel)
      have HZN := Lib.hid (next_setCells (b := w.heap.size + 1) (#[.int .i64 (pick R.frm 73049), .int .i64 (pick R.mode 4 + 1), .int .i64 (unitOf (pick R.unit 5)), .slice ca3 n3 cc3, .slice ca4 n4 cc4, .slice ca5 n5 cc5, .slice ca6 n6 cc6, .slice ca7 n7 cc7] : Array Value).toList 0 w2 (Next.refl _ _))
      generalize hwz : w2.setCells (w.heap.size + 1) 0 (#[.int .i64 (pick R.frm 73049), .int .i64 (pick R.mode 4 + 1), .int .i64 (unitOf (pick R.unit 5)), .slice ca3 n3 cc3, .slice ca4 n4 cc4, .slice ca5 n5 cc5, .slice ca6 n6 cc6, .slice ca7 n7 cc7] : Array Value).toList = wz at HZB HZL HZN
      have HZ := Lib.hid hwz
      clear hwz
      repeat (first
        | ((with_reducible (show wpList _ _ _ (_ :: _) _ _)); refine wpList_load_row rfl 34 _ rfl g rfl 34 _ _ _ HO2.out.out Try.underlying34 rfl info34 ?_)
        | ((with_reducible (show wpList _ _ _ (_ :: _) _ _)); refine wpList_store_mid rfl 34 (.tmp 2) (.tmp 239) rfl (w.heap.size + 1) 0 #[.int .i64 (pick R.frm 73049), .int .i64 (pick R.mode 4 + 1), .int .i64 (unitOf (pick R.unit 5)), .slice ca3 n3 cc3, .slice ca4 n4 cc4, .slice ca5 n5 cc5, .slice ca6 n6 cc6, .slice ca7 n7 cc7] rfl rfl HTH.out info34 H1C.out ?_; rw [HZ.out])
        | go_values | go_skip | go_guarded | go_step | go_upon)
      refine bodyPost_ret (results_cell_row Try.results9 _ _ (w.heap.size + 1) 34 #[.int .i64 (pick R.frm 73049), .int .i64 (pick R.mode 4 + 1), .int .i64 (unitOf (pick R.unit 5)), .slice ca3 n3 cc3, .slice ca4 n4 cc4, .slice ca5 n5 cc5, .slice ca6 n6 cc6, .slice ca7 n7 cc7] (0, 0) _ rfl HZB.out Try.underlying34 rfl info34) rfl ?_
      exact OfPost.mk HT.out (twistP_frm _ _) HZL.out HZN.out HV2.out (by omega)
    · have hb8 : (R.twist.tmod 8 == 0) = false := by simp [ht8]
      have HT := Lib.hid (ofP_1 ht0 ht8)
      clear ht0 ht8
      have H1C : Hid ((#[.int .i64 (pick R.frm 73049), .int .i64 (pick R.mode 4 + 1), .int .i64 (unitOf (pick R.unit 5)), .slice ca3 n3 cc3, .slice ca4 n4 cc4, .slice ca5 n5 cc5, .slice ca6 n6 cc6, .slice ca7 n7 cc7] : Array Value).all (·.oneCell') = true) := Lib.hid (all_oneCell_toArray (cs := [.int .i64 (pick R.frm 73049), .int .i64 (pick R.mode 4 + 1), .int .i64 (unitOf (pick R.unit 5)), .slice ca3 n3 cc3, .slice ca4 n4 cc4, .slice ca5 n5 cc5, .slice ca6 n6 cc6, .slice ca7 n7 cc7]) (by intro u hu; simp only [List.mem_cons, List.not_mem_nil, or_false] at hu; rcases hu with rfl | rfl | rfl | rfl | rfl | rfl | rfl | rfl <;> rfl))
      have HTH := Lib.hid (there_of_block HOFR.out.res 8 rfl)
      have HZB := Lib.hid (block_setCells (#[.int .i64 (pick R.frm 73049), .int .i64 (pick R.mode 4 + 1), .int .i64 (unitOf (pick R.unit 5)), .slice ca3 n3 cc3, .slice ca4 n4 cc4, .slice ca5 n5 cc5, .slice ca6 n6 cc6, .slice ca7 n7 cc7] : Array Value).toList 0 wc _ HOFR.out.res)
      have HZL := Lib.hid (below_setCells (Nat.le_succ w.heap.size) (#[.int .i64 (pick R.frm 73049), .int .i64 (pick R.mode 4 + 1), .int .i64 (unitOf (pick R.unit 5)), .slice ca3 n3 cc3, .slice ca4 n4 cc4, .slice ca5 n5 cc5, .slice ca6 n6 cc6, .slice ca7 n7 cc7] : Array Value).toList 0 wc HOFR.out.bel)
      have HZN := Lib.hid (next_setCells (b := w.heap.size + 1) (#[.int .i64 (pick R.frm 73049), .int .i64 (pick R.mode 4 + 1), .int .i64 (unitOf (pick R.unit 5)), .slice ca3 n3 cc3, .slice ca4 n4 cc4, .slice ca5 n5 cc5, .slice ca6 n6 cc6, .slice ca7 n7 cc7] : Array Value).toList 0 wc (Next.refl _ _))
      generalize hwz : wc.setCells (w.heap.size + 1) 0 (#[.int .i64 (pick R.frm 73049), .int .i64 (pick R.mode 4 + 1), .int .i64 (unitOf (pick R.unit 5)), .slice ca3 n3 cc3, .slice ca4 n4 cc4, .slice ca5 n5 cc5, .slice ca6 n6 cc6, .slice ca7 n7 cc7] : Array Value).toList = wz at HZB HZL HZN
      have HZ := Lib.hid hwz
      clear hwz
      repeat (first
        | ((with_reducible (show wpList _ _ _ (_ :: _) _ _)); refine wpList_load_row rfl 34 _ rfl g rfl 34 _ _ _ HOFR.out.out Try.underlying34 rfl info34 ?_)
        | ((with_reducible (show wpList _ _ _ (_ :: _) _ _)); refine wpList_store_mid rfl 34 (.tmp 2) (.tmp 239) rfl (w.heap.size + 1) 0 #[.int .i64 (pick R.frm 73049), .int .i64 (pick R.mode 4 + 1), .int .i64 (unitOf (pick R.unit 5)), .slice ca3 n3 cc3, .slice ca4 n4 cc4, .slice ca5 n5 cc5, .slice ca6 n6 cc6, .slice ca7 n7 cc7] rfl rfl HTH.out info34 H1C.out ?_; rw [HZ.out])
        | go_values | go_skip | go_guarded | go_step | go_upon)
      refine bodyPost_ret (results_cell_row Try.results9 _ _ (w.heap.size + 1) 34 #[.int .i64 (pick R.frm 73049), .int .i64 (pick R.mode 4 + 1), .int .i64 (unitOf (pick R.unit 5)), .slice ca3 n3 cc3, .slice ca4 n4 cc4, .slice ca5 n5 cc5, .slice ca6 n6 cc6, .slice ca7 n7 cc7] (0, 0) _ rfl HZB.out Try.underlying34 rfl info34) rfl ?_
      exact OfPost.mk HT.out ⟨rfl, rfl, rfl⟩ HZL.out HZN.out HV.out (by omega)
end Go.Proofs.Ytldelkkeimlfcaa
