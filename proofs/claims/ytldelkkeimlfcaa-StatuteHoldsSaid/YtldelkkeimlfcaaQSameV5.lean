/- SameVersion from its loop 5 on. -/
import Derived.Test.YtldelkkeimlfcaaQTwist
import Derived.Deep.CutBlock
import Derived.Deep.CutRange
import Derived.Deep.DeepCutAuto
set_option linter.all false
namespace Go.Proofs.Ytldelkkeimlfcaa
open Go.RowKit
def TrueG (w : World) (e : Ending) (w' : World) : Prop := e = .returned (.bool true) ∧ w.Grows w'
/-- A row's element, in memory. -/
theorem SrcRow.slot {w : World} {a : Option Addr} {n cap c k : Nat} {l : List (List Value)} (h : SrcRow w (.slice a n cap) c l) (hk : k < l.length) :
    ∃ b off, a = some ⟨b, off, none⟩ ∧ b < w.heap.size ∧ ∀ x, l.getD k [] = x → ∀ j u, j < c → x[j]? = some u → w.cell? ⟨b, off + k * c + j, none⟩ = some u := by
  obtain ⟨h1, h2, h3, a', cap', hv, h4⟩ := h
  simp only [Value.slice.injEq] at hv
  obtain ⟨rfl, rfl, rfl⟩ := hv
  rcases h4 with ⟨_, h0, _⟩ | ⟨b, off, rfl, hb, hc⟩
  · rw [h0] at hk; simp at hk
  · refine ⟨b, off, rfl, hb, ?_⟩
    rintro x rfl j u hj hu
    rw [Nat.add_assoc]
    exact hc _ u (by rw [flatten_get l c h2 k j hj hk]; exact hu)
theorem map_at {α β : Type} {f : α → β} {l : List α} {L : List β} (h : l.map f = L) {k : Nat} (hk : k < L.length) : ∃ x, l[k]? = some x ∧ L[k]? = some (f x) := by
  subst h
  have hk' : k < l.length := by simpa using hk
  exact ⟨l[k], List.getElem?_eq_getElem hk', by rw [List.getElem?_map, List.getElem?_eq_getElem hk']; rfl⟩
set_option maxHeartbeats 8000000 in
set_option maxRecDepth 1000000 in
theorem sv_5 (w : World) (frm mode unit : Int) (V : VerP) (a3 a4 a5 a6 a7 b3 b4 b5 b6 b7 : Option Addr) (ca3 ca4 ca5 ca6 ca7 cb3 cb4 cb5 cb6 cb7 : Nat) (ql ql' : List (ByteArray × (Ex × Value))) (qg qg' : List GrT) (qr qr' : List (Int × (Ex × Value))) (HA : Hid (VerS w V (.slice a3 V.cr.length ca3) (.slice a4 V.se.length ca4) (.slice a5 V.le.length ca5) (.slice a6 V.gr.length ca6) (.slice a7 V.re.length ca7) ql qg qr)) (HB : Hid (VerS w V (.slice b3 V.cr.length cb3) (.slice b4 V.se.length cb4) (.slice b5 V.le.length cb5) (.slice b6 V.gr.length cb6) (.slice b7 V.re.length cb7) ql' qg' qr')) (wc : World) (HG : Hid (World.Grows ((w.alloc (.cells #[.int .i64 frm, .int .i64 mode, .int .i64 unit, .slice a3 V.cr.length ca3, .slice a4 V.se.length ca4, .slice a5 V.le.length ca5, .slice a6 V.gr.length ca6, .slice a7 V.re.length ca7] 34)).alloc (.cells #[.int .i64 frm, .int .i64 mode, .int .i64 unit, .slice b3 V.cr.length cb3, .slice b4 V.se.length cb4, .slice b5 V.le.length cb5, .slice b6 V.gr.length cb6, .slice b7 V.re.length cb7] 34)) wc)) (u4 u5 u6 u7 u8 u9 u10 u11 u12 u13 u14 u15 u16 u17 u18 u19 u20 u21 u22 u23 u24 u25 u26 u27 u28 u29 u30 u31 u32 u33 u34 u35 u36 u37 u38 u39 u40 u41 u42 u43 u44 u45 u46 u47 u48 u49 u50 u51 u52 u53 u54 u55 u56 u57 u58 u59 u60 u61 u62 u63 u64 u65 u66 u67 u68 u69 u70 u71 u72 u73 u74 u75 u76 u77 u78 u79 u80 u81 u82 u83 u84 u85 u86 u87 u88 u89 u90 u91 u92 u93 u94 u95 u96 u97 u98 u99 u100 u101 u102 u103 u104 u105 u106 u107 u108 u109 u110 u111 u112 u113 u114 u115 u116 u117 u118 u119 u120 u121 u122 u123 u124 u125 u126 u127 u128 u129 u130 u131 u132 u133 u134 u135 u136 u137 u138 u139 u140 u141 u142 u143 u144 u145 u146 u147 u148 u149 u150 u151 u152 u153 u154 u155 u156 u157 u158 u159 u160 u161 u162 u163 u164 u165 u166 u167 u168 u169 u170 u171 u172 u173 u174 u175 u176 u177 u178 u179 u180 u181 u182 u183 u184 u185 u186 u187 u188 u189 u190 u191 u192 u193 u194 u195 u196 u197 u198 u199 u200 u201 u202 u203 u204 u205 u206 u207 u208 u209 u210 u211 u212 u213 u214 u215 u216 u217 u218 u219 u220 u221 u222 u223 u224 u225 u226 : Value) :
    Code.wp Try.prog (tlC (tlC (tlC (tlC (tlC (tlC (Try.f21.body.getD .skip))))))) (bodyPost Try.prog Try.f21 (TrueG w)) { tmps := #[.agg #[.int .i64 frm, .int .i64 mode, .int .i64 unit, .slice a3 V.cr.length ca3, .slice a4 V.se.length ca4, .slice a5 V.le.length ca5, .slice a6 V.gr.length ca6, .slice a7 V.re.length ca7], .agg #[.int .i64 frm, .int .i64 mode, .int .i64 unit, .slice b3 V.cr.length cb3, .slice b4 V.se.length cb4, .slice b5 V.le.length cb5, .slice b6 V.gr.length cb6, .slice b7 V.re.length cb7], .pointer (some ⟨w.heap.size, 0, none⟩), .pointer (some ⟨w.heap.size + 1, 0, none⟩), u4, u5, u6, u7, u8, u9, u10, u11, u12, u13, u14, u15, u16, u17, u18, u19, u20, u21, u22, u23, u24, u25, u26, u27, u28, u29, u30, u31, u32, u33, u34, u35, u36, u37, u38, u39, u40, u41, u42, u43, u44, u45, u46, u47, u48, u49, u50, u51, u52, u53, u54, u55, u56, u57, u58, u59, u60, u61, u62, u63, u64, u65, u66, u67, u68, u69, u70, u71, u72, u73, u74, u75, u76, u77, u78, u79, u80, u81, u82, u83, u84, u85, u86, u87, u88, u89, u90, u91, u92, u93, u94, u95, u96, u97, u98, u99, u100, u101, u102, u103, u104, u105, u106, u107, u108, u109, u110, u111, u112, u113, u114, u115, u116, u117, u118, u119, u120, u121, u122, u123, u124, u125, u126, u127, u128, u129, u130, u131, u132, u133, u134, u135, u136, u137, u138, u139, u140, u141, u142, u143, u144, u145, u146, u147, u148, u149, u150, u151, u152, u153, u154, u155, u156, u157, u158, u159, u160, u161, u162, u163, u164, u165, u166, u167, u168, u169, u170, u171, u172, u173, u174, u175, u176, u177, u178, u179, u180, u181, u182, u183, u184, u185, u186, u187, u188, u189, u190, u191, u192, u193, u194, u195, u196, u197, u198, u199, u200, u201, u202, u203, u204, u205, u206, u207, u208, u209, u210, u211, u212, u213, u214, u215, u216, u217, u218, u219, u220, u221, u222, u223, u224, u225, u226], defers := [] } wc := by
  conv => arg 2; whnf
  go_upto_block 8 with fail
  go_cut [] from 4 (fun wx => World.Grows ((w.alloc (.cells #[.int .i64 frm, .int .i64 mode, .int .i64 unit, .slice a3 V.cr.length ca3, .slice a4 V.se.length ca4, .slice a5 V.le.length ca5, .slice a6 V.gr.length ca6, .slice a7 V.re.length ca7] 34)).alloc (.cells #[.int .i64 frm, .int .i64 mode, .int .i64 unit, .slice b3 V.cr.length cb3, .slice b4 V.se.length cb4, .slice b5 V.le.length cb5, .slice b6 V.gr.length cb6, .slice b7 V.re.length cb7] 34)) wx)
  case first =>
    go_wp2_with fail
    go_loopw [9] (fun vk wr => ∃ k : Nat, k ≤ V.re.length ∧ vk = .int .i64 k ∧ World.Grows ((w.alloc (.cells #[.int .i64 frm, .int .i64 mode, .int .i64 unit, .slice a3 V.cr.length ca3, .slice a4 V.se.length ca4, .slice a5 V.le.length ca5, .slice a6 V.gr.length ca6, .slice a7 V.re.length ca7] 34)).alloc (.cells #[.int .i64 frm, .int .i64 mode, .int .i64 unit, .slice b3 V.cr.length cb3, .slice b4 V.se.length cb4, .slice b5 V.le.length cb5, .slice b6 V.gr.length cb6, .slice b7 V.re.length cb7] 34)) wr) (fun vk _ => V.re.length - (intOf vk).toNat)
    case atStart => exact ⟨0, by omega, rfl, HG.out⟩
    case round =>
      obtain ⟨k, hk, rfl, bs, d, rfl⟩ := hrel
      have hN : V.re.length ≤ 1000 := by have := HA.out.r5.1; have h2 := congrArg List.length HA.out.e3; simp [reL] at this h2; omega
      by_cases hlt : k < V.re.length
      · have d1 : (k : Int) < (V.re.length : Int) := by omega
        have hq0 : (0 : Int) ≤ (k : Int) := by omega
        obtain ⟨⟨s, e, v⟩, hta, htl⟩ := map_at HA.out.e3 hlt
        obtain ⟨⟨s', e', u⟩, htb, htl'⟩ := map_at HB.out.e3 hlt
        rw [htl] at htl'
        simp only [Option.some.injEq, Prod.mk.injEq] at htl'
        obtain ⟨rfl, rfl⟩ := htl'
        have ra := HA.out.s5 (e, v) (List.mem_map.2 ⟨_, List.mem_of_getElem? hta, rfl⟩)
        have rb := HB.out.s5 (e, u) (List.mem_map.2 ⟨_, List.mem_of_getElem? htb, rfl⟩)
        obtain ⟨va, vc, hv⟩ := ra.form0
        obtain ⟨ua, uc, hu⟩ := rb.form0
        simp only at hv hu
        subst hv hu
        obtain ⟨ga, oa, rfl, hga, hca⟩ := HA.out.r5.slot (k := k) (by have := congrArg List.length HA.out.e3; simp [reL] at this ⊢; omega)
        obtain ⟨gb, ob, rfl, hgb, hcb⟩ := HB.out.r5.slot (k := k) (by have := congrArg List.length HB.out.e3; simp [reL] at this ⊢; omega)
        have hca := hca _ (show (reL qr).getD k [] = .int .i64 s :: cells1 e (.slice va e.args.length vc) by simp [reL, List.getD_eq_getElem?_getD, List.getElem?_map, hta])
        have hcb := hcb _ (show (reL qr').getD k [] = .int .i64 s :: cells1 e (.slice ua e.args.length uc) by simp [reL, List.getD_eq_getElem?_getD, List.getElem?_map, htb])
        have x0 : w.cell? ⟨ga, oa + k * 7, none⟩ = some (.int .i64 s) := hca 0 _ (by omega) rfl
        have y0 : w.cell? ⟨gb, ob + k * 7, none⟩ = some (.int .i64 s) := hcb 0 _ (by omega) rfl
        have x1 : w.cell? ⟨ga, oa + k * 7 + 1, none⟩ = some (.int .i64 e.op) := hca 1 _ (by omega) rfl
        have y1 : w.cell? ⟨gb, ob + k * 7 + 1, none⟩ = some (.int .i64 e.op) := hcb 1 _ (by omega) rfl
        have x2 : w.cell? ⟨ga, oa + k * 7 + 2, none⟩ = some (.int .i64 e.num) := hca 2 _ (by omega) rfl
        have y2 : w.cell? ⟨gb, ob + k * 7 + 2, none⟩ = some (.int .i64 e.num) := hcb 2 _ (by omega) rfl
        have x3 : w.cell? ⟨ga, oa + k * 7 + 3, none⟩ = some (.int .i64 e.den) := hca 3 _ (by omega) rfl
        have y3 : w.cell? ⟨gb, ob + k * 7 + 3, none⟩ = some (.int .i64 e.den) := hcb 3 _ (by omega) rfl
        have x4 : w.cell? ⟨ga, oa + k * 7 + 4, none⟩ = some (.int .i64 e.dim) := hca 4 _ (by omega) rfl
        have y4 : w.cell? ⟨gb, ob + k * 7 + 4, none⟩ = some (.int .i64 e.dim) := hcb 4 _ (by omega) rfl
        have x5 : w.cell? ⟨ga, oa + k * 7 + 5, none⟩ = some (.string e.name) := hca 5 _ (by omega) rfl
        have y5 : w.cell? ⟨gb, ob + k * 7 + 5, none⟩ = some (.string e.name) := hcb 5 _ (by omega) rfl
        have x6 : w.cell? ⟨ga, oa + k * 7 + 6, none⟩ = some (.slice va e.args.length vc) := hca 6 _ (by omega) rfl
        have y6 : w.cell? ⟨gb, ob + k * 7 + 6, none⟩ = some (.slice ua e.args.length uc) := hcb 6 _ (by omega) rfl
        clear hca hcb
        have HR1 := Lib.hid ra
        have HR2 := Lib.hid rb
        clear ra rb hta htb htl
        clear HG HA HB
        generalize hn3 : V.cr.length = n3 at *
        generalize hn4 : V.se.length = n4 at *
        generalize hn5 : V.le.length = n5 at *
        generalize hn6 : V.gr.length = n6 at *
        generalize hn7 : V.re.length = n7 at *
        clear hn3 hn4 hn5 hn6 hn7
        go_wp2_with fail
        refine wp_region_quietG (by kernel_rfl) (by kernel_rfl) ?_
        repeat (go_big_quiet_step ((go_at_call 40; exact Calls.quietG' (Same_any (S := fun _ => True) (S' := fun _ => True) (e := e) (by (repeat' (first | (with_reducible exact HR1.out) | (with_reducible exact HR2.out) | (with_reducible refine RepE.alloc ?_ _) | (with_reducible refine RepE.grow ?_ _ _)))) (by (repeat' (first | (with_reducible exact HR1.out) | (with_reducible exact HR2.out) | (with_reducible refine RepE.alloc ?_ _) | (with_reducible refine RepE.grow ?_ _ _))))))))
        refine wpQuiet_nil ?_
        intro _ hw'
        obtain ⟨⟨gb, gd⟩, hw''⟩ := hw'
        subst hw''
        go_wp2_with fail
        go_roundw
        case rel => exact ⟨k + 1, by omega, by go_num, .of_below (by (repeat' (first | (with_reducible exact Below.refl _ _) | (with_reducible assumption) | (with_reducible refine Below.grow ?_ ?_ _ _) | (with_reducible refine Below.alloc ?_ ?_ _) | (with_reducible refine Below.drewN ?_ _) | (with_reducible refine Below.drew ?_) | (with_reducible refine Below.setCell ?_ ?_ _) | go_size)))⟩
        case measure => simp [intOf]; omega
      · obtain rfl : k = V.re.length := by omega
        go_wp2_with fail
        go_meet
        exact ⟨_, _, rfl⟩
  have HG1 := Lib.hid hcut
  clear hcut HG
  go_step
  obtain ⟨bs, d, rfl⟩ := HG1.out
  go_wp2_with fail
  go_returns
  exact ⟨rfl, .of_below (by (repeat' (first | (with_reducible exact Below.refl _ _) | (with_reducible assumption) | (with_reducible refine Below.grow ?_ ?_ _ _) | (with_reducible refine Below.alloc ?_ ?_ _) | (with_reducible refine Below.drewN ?_ _) | (with_reducible refine Below.drew ?_) | (with_reducible refine Below.setCell ?_ ?_ _) | go_size)))⟩
end Go.Proofs.Ytldelkkeimlfcaa
/- SameVersion from its loop 4 on. -/
namespace Go.Proofs.Ytldelkkeimlfcaa
open Go.RowKit
set_option maxHeartbeats 8000000 in
set_option maxRecDepth 1000000 in
theorem sv_4 (w : World) (frm mode unit : Int) (V : VerP) (a3 a4 a5 a6 a7 b3 b4 b5 b6 b7 : Option Addr) (ca3 ca4 ca5 ca6 ca7 cb3 cb4 cb5 cb6 cb7 : Nat) (ql ql' : List (ByteArray × (Ex × Value))) (qg qg' : List GrT) (qr qr' : List (Int × (Ex × Value))) (HA : Hid (VerS w V (.slice a3 V.cr.length ca3) (.slice a4 V.se.length ca4) (.slice a5 V.le.length ca5) (.slice a6 V.gr.length ca6) (.slice a7 V.re.length ca7) ql qg qr)) (HB : Hid (VerS w V (.slice b3 V.cr.length cb3) (.slice b4 V.se.length cb4) (.slice b5 V.le.length cb5) (.slice b6 V.gr.length cb6) (.slice b7 V.re.length cb7) ql' qg' qr')) (wc : World) (HG : Hid (World.Grows ((w.alloc (.cells #[.int .i64 frm, .int .i64 mode, .int .i64 unit, .slice a3 V.cr.length ca3, .slice a4 V.se.length ca4, .slice a5 V.le.length ca5, .slice a6 V.gr.length ca6, .slice a7 V.re.length ca7] 34)).alloc (.cells #[.int .i64 frm, .int .i64 mode, .int .i64 unit, .slice b3 V.cr.length cb3, .slice b4 V.se.length cb4, .slice b5 V.le.length cb5, .slice b6 V.gr.length cb6, .slice b7 V.re.length cb7] 34)) wc)) (u4 u5 u6 u7 u8 u9 u10 u11 u12 u13 u14 u15 u16 u17 u18 u19 u20 u21 u22 u23 u24 u25 u26 u27 u28 u29 u30 u31 u32 u33 u34 u35 u36 u37 u38 u39 u40 u41 u42 u43 u44 u45 u46 u47 u48 u49 u50 u51 u52 u53 u54 u55 u56 u57 u58 u59 u60 u61 u62 u63 u64 u65 u66 u67 u68 u69 u70 u71 u72 u73 u74 u75 u76 u77 u78 u79 u80 u81 u82 u83 u84 u85 u86 u87 u88 u89 u90 u91 u92 u93 u94 u95 u96 u97 u98 u99 u100 u101 u102 u103 u104 u105 u106 u107 u108 u109 u110 u111 u112 u113 u114 u115 u116 u117 u118 u119 u120 u121 u122 u123 u124 u125 u126 u127 u128 u129 u130 u131 u132 u133 u134 u135 u136 u137 u138 u139 u140 u141 u142 u143 u144 u145 u146 u147 u148 u149 u150 u151 u152 u153 u154 u155 u156 u157 u158 u159 u160 u161 u162 u163 u164 u165 u166 u167 u168 u169 u170 u171 u172 u173 u174 u175 u176 u177 u178 u179 u180 u181 u182 u183 u184 u185 u186 u187 u188 u189 u190 u191 u192 u193 u194 u195 u196 u197 u198 u199 u200 u201 u202 u203 u204 u205 u206 u207 u208 u209 u210 u211 u212 u213 u214 u215 u216 u217 u218 u219 u220 u221 u222 u223 u224 u225 u226 : Value) :
    Code.wp Try.prog (tlC (tlC (tlC (tlC (tlC (Try.f21.body.getD .skip)))))) (bodyPost Try.prog Try.f21 (TrueG w)) { tmps := #[.agg #[.int .i64 frm, .int .i64 mode, .int .i64 unit, .slice a3 V.cr.length ca3, .slice a4 V.se.length ca4, .slice a5 V.le.length ca5, .slice a6 V.gr.length ca6, .slice a7 V.re.length ca7], .agg #[.int .i64 frm, .int .i64 mode, .int .i64 unit, .slice b3 V.cr.length cb3, .slice b4 V.se.length cb4, .slice b5 V.le.length cb5, .slice b6 V.gr.length cb6, .slice b7 V.re.length cb7], .pointer (some ⟨w.heap.size, 0, none⟩), .pointer (some ⟨w.heap.size + 1, 0, none⟩), u4, u5, u6, u7, u8, u9, u10, u11, u12, u13, u14, u15, u16, u17, u18, u19, u20, u21, u22, u23, u24, u25, u26, u27, u28, u29, u30, u31, u32, u33, u34, u35, u36, u37, u38, u39, u40, u41, u42, u43, u44, u45, u46, u47, u48, u49, u50, u51, u52, u53, u54, u55, u56, u57, u58, u59, u60, u61, u62, u63, u64, u65, u66, u67, u68, u69, u70, u71, u72, u73, u74, u75, u76, u77, u78, u79, u80, u81, u82, u83, u84, u85, u86, u87, u88, u89, u90, u91, u92, u93, u94, u95, u96, u97, u98, u99, u100, u101, u102, u103, u104, u105, u106, u107, u108, u109, u110, u111, u112, u113, u114, u115, u116, u117, u118, u119, u120, u121, u122, u123, u124, u125, u126, u127, u128, u129, u130, u131, u132, u133, u134, u135, u136, u137, u138, u139, u140, u141, u142, u143, u144, u145, u146, u147, u148, u149, u150, u151, u152, u153, u154, u155, u156, u157, u158, u159, u160, u161, u162, u163, u164, u165, u166, u167, u168, u169, u170, u171, u172, u173, u174, u175, u176, u177, u178, u179, u180, u181, u182, u183, u184, u185, u186, u187, u188, u189, u190, u191, u192, u193, u194, u195, u196, u197, u198, u199, u200, u201, u202, u203, u204, u205, u206, u207, u208, u209, u210, u211, u212, u213, u214, u215, u216, u217, u218, u219, u220, u221, u222, u223, u224, u225, u226], defers := [] } wc := by
  conv => arg 2; whnf
  go_upto_block 6 with fail
  go_cut [] from 4 (fun wx => World.Grows ((w.alloc (.cells #[.int .i64 frm, .int .i64 mode, .int .i64 unit, .slice a3 V.cr.length ca3, .slice a4 V.se.length ca4, .slice a5 V.le.length ca5, .slice a6 V.gr.length ca6, .slice a7 V.re.length ca7] 34)).alloc (.cells #[.int .i64 frm, .int .i64 mode, .int .i64 unit, .slice b3 V.cr.length cb3, .slice b4 V.se.length cb4, .slice b5 V.le.length cb5, .slice b6 V.gr.length cb6, .slice b7 V.re.length cb7] 34)) wx)
  case first =>
    go_wp2_with fail
    go_loopw [8] (fun vk wr => ∃ k : Nat, k ≤ V.gr.length ∧ vk = .int .i64 k ∧ World.Grows ((w.alloc (.cells #[.int .i64 frm, .int .i64 mode, .int .i64 unit, .slice a3 V.cr.length ca3, .slice a4 V.se.length ca4, .slice a5 V.le.length ca5, .slice a6 V.gr.length ca6, .slice a7 V.re.length ca7] 34)).alloc (.cells #[.int .i64 frm, .int .i64 mode, .int .i64 unit, .slice b3 V.cr.length cb3, .slice b4 V.se.length cb4, .slice b5 V.le.length cb5, .slice b6 V.gr.length cb6, .slice b7 V.re.length cb7] 34)) wr) (fun vk _ => V.gr.length - (intOf vk).toNat)
    case atStart => exact ⟨0, by omega, rfl, HG.out⟩
    case round =>
      obtain ⟨k, hk, rfl, bs, d, rfl⟩ := hrel
      have hN : V.gr.length ≤ 1000 := by have := HA.out.r4.1; have h2 := congrArg List.length HA.out.e2; simp [grL] at this h2; omega
      by_cases hlt : k < V.gr.length
      · have d1 : (k : Int) < (V.gr.length : Int) := by omega
        have hq0 : (0 : Int) ≤ (k : Int) := by omega
        obtain ⟨⟨s, ⟨e, v⟩, ⟨f, z⟩⟩, hta, htl⟩ := map_at HA.out.e2 hlt
        obtain ⟨⟨s', ⟨e', u⟩, ⟨f', y⟩⟩, htb, htl'⟩ := map_at HB.out.e2 hlt
        rw [htl] at htl'
        simp only [Option.some.injEq, Prod.mk.injEq] at htl'
        obtain ⟨rfl, rfl, rfl⟩ := htl'
        have ma := mem_grR (List.mem_of_getElem? hta)
        have mb := mem_grR (List.mem_of_getElem? htb)
        have ra := HA.out.s4 (e, v) ma.1
        have rb := HB.out.s4 (e, u) mb.1
        have sa := HA.out.s4 (f, z) ma.2
        have sb := HB.out.s4 (f, y) mb.2
        obtain ⟨va, vc, hv⟩ := ra.form0
        obtain ⟨ua, uc, hu⟩ := rb.form0
        obtain ⟨za, zc, hz⟩ := sa.form0
        obtain ⟨ya, yc, hy⟩ := sb.form0
        simp only at hv hu hz hy
        subst hv hu hz hy
        obtain ⟨ga, oa, rfl, hga, hca⟩ := HA.out.r4.slot (k := k) (by have := congrArg List.length HA.out.e2; simp [grL] at this ⊢; omega)
        obtain ⟨gb, ob, rfl, hgb, hcb⟩ := HB.out.r4.slot (k := k) (by have := congrArg List.length HB.out.e2; simp [grL] at this ⊢; omega)
        have hca := hca _ (grL_get _ _ _ hta)
        have hcb := hcb _ (grL_get _ _ _ htb)
        have x0 : w.cell? ⟨ga, oa + k * 13, none⟩ = some (.int .i64 s) := hca 0 _ (by omega) rfl
        have y0 : w.cell? ⟨gb, ob + k * 13, none⟩ = some (.int .i64 s) := hcb 0 _ (by omega) rfl
        have x1 : w.cell? ⟨ga, oa + k * 13 + 1, none⟩ = some (.int .i64 e.op) := hca 1 _ (by omega) rfl
        have y1 : w.cell? ⟨gb, ob + k * 13 + 1, none⟩ = some (.int .i64 e.op) := hcb 1 _ (by omega) rfl
        have x2 : w.cell? ⟨ga, oa + k * 13 + 2, none⟩ = some (.int .i64 e.num) := hca 2 _ (by omega) rfl
        have y2 : w.cell? ⟨gb, ob + k * 13 + 2, none⟩ = some (.int .i64 e.num) := hcb 2 _ (by omega) rfl
        have x3 : w.cell? ⟨ga, oa + k * 13 + 3, none⟩ = some (.int .i64 e.den) := hca 3 _ (by omega) rfl
        have y3 : w.cell? ⟨gb, ob + k * 13 + 3, none⟩ = some (.int .i64 e.den) := hcb 3 _ (by omega) rfl
        have x4 : w.cell? ⟨ga, oa + k * 13 + 4, none⟩ = some (.int .i64 e.dim) := hca 4 _ (by omega) rfl
        have y4 : w.cell? ⟨gb, ob + k * 13 + 4, none⟩ = some (.int .i64 e.dim) := hcb 4 _ (by omega) rfl
        have x5 : w.cell? ⟨ga, oa + k * 13 + 5, none⟩ = some (.string e.name) := hca 5 _ (by omega) rfl
        have y5 : w.cell? ⟨gb, ob + k * 13 + 5, none⟩ = some (.string e.name) := hcb 5 _ (by omega) rfl
        have x6 : w.cell? ⟨ga, oa + k * 13 + 6, none⟩ = some (.slice va e.args.length vc) := hca 6 _ (by omega) rfl
        have y6 : w.cell? ⟨gb, ob + k * 13 + 6, none⟩ = some (.slice ua e.args.length uc) := hcb 6 _ (by omega) rfl
        have x7 : w.cell? ⟨ga, oa + k * 13 + 7, none⟩ = some (.int .i64 f.op) := hca 7 _ (by omega) rfl
        have y7 : w.cell? ⟨gb, ob + k * 13 + 7, none⟩ = some (.int .i64 f.op) := hcb 7 _ (by omega) rfl
        have x8 : w.cell? ⟨ga, oa + k * 13 + 8, none⟩ = some (.int .i64 f.num) := hca 8 _ (by omega) rfl
        have y8 : w.cell? ⟨gb, ob + k * 13 + 8, none⟩ = some (.int .i64 f.num) := hcb 8 _ (by omega) rfl
        have x9 : w.cell? ⟨ga, oa + k * 13 + 9, none⟩ = some (.int .i64 f.den) := hca 9 _ (by omega) rfl
        have y9 : w.cell? ⟨gb, ob + k * 13 + 9, none⟩ = some (.int .i64 f.den) := hcb 9 _ (by omega) rfl
        have x10 : w.cell? ⟨ga, oa + k * 13 + 10, none⟩ = some (.int .i64 f.dim) := hca 10 _ (by omega) rfl
        have y10 : w.cell? ⟨gb, ob + k * 13 + 10, none⟩ = some (.int .i64 f.dim) := hcb 10 _ (by omega) rfl
        have x11 : w.cell? ⟨ga, oa + k * 13 + 11, none⟩ = some (.string f.name) := hca 11 _ (by omega) rfl
        have y11 : w.cell? ⟨gb, ob + k * 13 + 11, none⟩ = some (.string f.name) := hcb 11 _ (by omega) rfl
        have x12 : w.cell? ⟨ga, oa + k * 13 + 12, none⟩ = some (.slice za f.args.length zc) := hca 12 _ (by omega) rfl
        have y12 : w.cell? ⟨gb, ob + k * 13 + 12, none⟩ = some (.slice ya f.args.length yc) := hcb 12 _ (by omega) rfl
        clear hca hcb
        have HR1 := Lib.hid ra
        have HR2 := Lib.hid rb
        have HR3 := Lib.hid sa
        have HR4 := Lib.hid sb
        clear ra rb sa sb ma mb hta htb htl
        clear HG HA HB
        generalize hn3 : V.cr.length = n3 at *
        generalize hn4 : V.se.length = n4 at *
        generalize hn5 : V.le.length = n5 at *
        generalize hn6 : V.gr.length = n6 at *
        generalize hn7 : V.re.length = n7 at *
        clear hn3 hn4 hn5 hn6 hn7
        go_wp2_with fail
        refine wp_region_quietG (by kernel_rfl) (by kernel_rfl) ?_
        repeat (go_big_quiet_step ((go_at_call 40; exact Calls.quietG' (Same_any (S := fun _ => True) (S' := fun _ => True) (by (repeat' (first | (with_reducible exact HR1.out) | (with_reducible exact HR2.out) | (with_reducible exact HR3.out) | (with_reducible exact HR4.out) | (with_reducible refine RepE.alloc ?_ _) | (with_reducible refine RepE.grow ?_ _ _)))) (by (repeat' (first | (with_reducible exact HR1.out) | (with_reducible exact HR2.out) | (with_reducible exact HR3.out) | (with_reducible exact HR4.out) | (with_reducible refine RepE.alloc ?_ _) | (with_reducible refine RepE.grow ?_ _ _))))))))
        refine wpQuiet_nil ?_
        intro _ hw'
        obtain ⟨⟨gb, gd⟩, hw''⟩ := hw'
        subst hw''
        go_wp2_with fail
        go_roundw
        case rel => exact ⟨k + 1, by omega, by go_num, .of_below (by (repeat' (first | (with_reducible exact Below.refl _ _) | (with_reducible assumption) | (with_reducible refine Below.grow ?_ ?_ _ _) | (with_reducible refine Below.alloc ?_ ?_ _) | (with_reducible refine Below.drewN ?_ _) | (with_reducible refine Below.drew ?_) | (with_reducible refine Below.setCell ?_ ?_ _) | go_size)))⟩
        case measure => simp [intOf]; omega
      · obtain rfl : k = V.gr.length := by omega
        go_wp2_with fail
        go_meet
        exact ⟨_, _, rfl⟩
  have HG1 := Lib.hid hcut
  clear hcut HG
  go_step
  exact sv_5 w frm mode unit V a3 a4 a5 a6 a7 b3 b4 b5 b6 b7 ca3 ca4 ca5 ca6 ca7 cb3 cb4 cb5 cb6 cb7 ql ql' qg qg' qr qr' HA HB _ HG1 _ _ _ _ _ _ _ _ _ _ _ _ _ _ _ _ _ _ _ _ _ _ _ _ _ _ _ _ _ _ _ _ _ _ _ _ _ _ _ _ _ _ _ _ _ _ _ _ _ _ _ _ _ _ _ _ _ _ _ _ _ _ _ _ _ _ _ _ _ _ _ _ _ _ _ _ _ _ _ _ _ _ _ _ _ _ _ _ _ _ _ _ _ _ _ _ _ _ _ _ _ _ _ _ _ _ _ _ _ _ _ _ _ _ _ _ _ _ _ _ _ _ _ _ _ _ _ _ _ _ _ _ _ _ _ _ _ _ _ _ _ _ _ _ _ _ _ _ _ _ _ _ _ _ _ _ _ _ _ _ _ _ _ _ _ _ _ _ _ _ _ _ _ _ _ _ _ _ _ _ _ _ _ _ _ _ _ _ _ _ _ _ _ _ _ _ _ _ _ _ _ _ _ _ _ _ _ _ _ _ _ _ _ _ _ _ _ _ _ _ _ _ _
end Go.Proofs.Ytldelkkeimlfcaa
/- SameVersion from its loop 3 on. -/
namespace Go.Proofs.Ytldelkkeimlfcaa
open Go.RowKit
set_option maxHeartbeats 8000000 in
set_option maxRecDepth 1000000 in
theorem sv_3 (w : World) (frm mode unit : Int) (V : VerP) (a3 a4 a5 a6 a7 b3 b4 b5 b6 b7 : Option Addr) (ca3 ca4 ca5 ca6 ca7 cb3 cb4 cb5 cb6 cb7 : Nat) (ql ql' : List (ByteArray × (Ex × Value))) (qg qg' : List GrT) (qr qr' : List (Int × (Ex × Value))) (HA : Hid (VerS w V (.slice a3 V.cr.length ca3) (.slice a4 V.se.length ca4) (.slice a5 V.le.length ca5) (.slice a6 V.gr.length ca6) (.slice a7 V.re.length ca7) ql qg qr)) (HB : Hid (VerS w V (.slice b3 V.cr.length cb3) (.slice b4 V.se.length cb4) (.slice b5 V.le.length cb5) (.slice b6 V.gr.length cb6) (.slice b7 V.re.length cb7) ql' qg' qr')) (wc : World) (HG : Hid (World.Grows ((w.alloc (.cells #[.int .i64 frm, .int .i64 mode, .int .i64 unit, .slice a3 V.cr.length ca3, .slice a4 V.se.length ca4, .slice a5 V.le.length ca5, .slice a6 V.gr.length ca6, .slice a7 V.re.length ca7] 34)).alloc (.cells #[.int .i64 frm, .int .i64 mode, .int .i64 unit, .slice b3 V.cr.length cb3, .slice b4 V.se.length cb4, .slice b5 V.le.length cb5, .slice b6 V.gr.length cb6, .slice b7 V.re.length cb7] 34)) wc)) (u4 u5 u6 u7 u8 u9 u10 u11 u12 u13 u14 u15 u16 u17 u18 u19 u20 u21 u22 u23 u24 u25 u26 u27 u28 u29 u30 u31 u32 u33 u34 u35 u36 u37 u38 u39 u40 u41 u42 u43 u44 u45 u46 u47 u48 u49 u50 u51 u52 u53 u54 u55 u56 u57 u58 u59 u60 u61 u62 u63 u64 u65 u66 u67 u68 u69 u70 u71 u72 u73 u74 u75 u76 u77 u78 u79 u80 u81 u82 u83 u84 u85 u86 u87 u88 u89 u90 u91 u92 u93 u94 u95 u96 u97 u98 u99 u100 u101 u102 u103 u104 u105 u106 u107 u108 u109 u110 u111 u112 u113 u114 u115 u116 u117 u118 u119 u120 u121 u122 u123 u124 u125 u126 u127 u128 u129 u130 u131 u132 u133 u134 u135 u136 u137 u138 u139 u140 u141 u142 u143 u144 u145 u146 u147 u148 u149 u150 u151 u152 u153 u154 u155 u156 u157 u158 u159 u160 u161 u162 u163 u164 u165 u166 u167 u168 u169 u170 u171 u172 u173 u174 u175 u176 u177 u178 u179 u180 u181 u182 u183 u184 u185 u186 u187 u188 u189 u190 u191 u192 u193 u194 u195 u196 u197 u198 u199 u200 u201 u202 u203 u204 u205 u206 u207 u208 u209 u210 u211 u212 u213 u214 u215 u216 u217 u218 u219 u220 u221 u222 u223 u224 u225 u226 : Value) :
    Code.wp Try.prog (tlC (tlC (tlC (tlC (Try.f21.body.getD .skip))))) (bodyPost Try.prog Try.f21 (TrueG w)) { tmps := #[.agg #[.int .i64 frm, .int .i64 mode, .int .i64 unit, .slice a3 V.cr.length ca3, .slice a4 V.se.length ca4, .slice a5 V.le.length ca5, .slice a6 V.gr.length ca6, .slice a7 V.re.length ca7], .agg #[.int .i64 frm, .int .i64 mode, .int .i64 unit, .slice b3 V.cr.length cb3, .slice b4 V.se.length cb4, .slice b5 V.le.length cb5, .slice b6 V.gr.length cb6, .slice b7 V.re.length cb7], .pointer (some ⟨w.heap.size, 0, none⟩), .pointer (some ⟨w.heap.size + 1, 0, none⟩), u4, u5, u6, u7, u8, u9, u10, u11, u12, u13, u14, u15, u16, u17, u18, u19, u20, u21, u22, u23, u24, u25, u26, u27, u28, u29, u30, u31, u32, u33, u34, u35, u36, u37, u38, u39, u40, u41, u42, u43, u44, u45, u46, u47, u48, u49, u50, u51, u52, u53, u54, u55, u56, u57, u58, u59, u60, u61, u62, u63, u64, u65, u66, u67, u68, u69, u70, u71, u72, u73, u74, u75, u76, u77, u78, u79, u80, u81, u82, u83, u84, u85, u86, u87, u88, u89, u90, u91, u92, u93, u94, u95, u96, u97, u98, u99, u100, u101, u102, u103, u104, u105, u106, u107, u108, u109, u110, u111, u112, u113, u114, u115, u116, u117, u118, u119, u120, u121, u122, u123, u124, u125, u126, u127, u128, u129, u130, u131, u132, u133, u134, u135, u136, u137, u138, u139, u140, u141, u142, u143, u144, u145, u146, u147, u148, u149, u150, u151, u152, u153, u154, u155, u156, u157, u158, u159, u160, u161, u162, u163, u164, u165, u166, u167, u168, u169, u170, u171, u172, u173, u174, u175, u176, u177, u178, u179, u180, u181, u182, u183, u184, u185, u186, u187, u188, u189, u190, u191, u192, u193, u194, u195, u196, u197, u198, u199, u200, u201, u202, u203, u204, u205, u206, u207, u208, u209, u210, u211, u212, u213, u214, u215, u216, u217, u218, u219, u220, u221, u222, u223, u224, u225, u226], defers := [] } wc := by
  conv => arg 2; whnf
  go_upto_block 4 with fail
  go_cut [] from 4 (fun wx => World.Grows ((w.alloc (.cells #[.int .i64 frm, .int .i64 mode, .int .i64 unit, .slice a3 V.cr.length ca3, .slice a4 V.se.length ca4, .slice a5 V.le.length ca5, .slice a6 V.gr.length ca6, .slice a7 V.re.length ca7] 34)).alloc (.cells #[.int .i64 frm, .int .i64 mode, .int .i64 unit, .slice b3 V.cr.length cb3, .slice b4 V.se.length cb4, .slice b5 V.le.length cb5, .slice b6 V.gr.length cb6, .slice b7 V.re.length cb7] 34)) wx)
  case first =>
    go_wp2_with fail
    go_loopw [7] (fun vk wr => ∃ k : Nat, k ≤ V.le.length ∧ vk = .int .i64 k ∧ World.Grows ((w.alloc (.cells #[.int .i64 frm, .int .i64 mode, .int .i64 unit, .slice a3 V.cr.length ca3, .slice a4 V.se.length ca4, .slice a5 V.le.length ca5, .slice a6 V.gr.length ca6, .slice a7 V.re.length ca7] 34)).alloc (.cells #[.int .i64 frm, .int .i64 mode, .int .i64 unit, .slice b3 V.cr.length cb3, .slice b4 V.se.length cb4, .slice b5 V.le.length cb5, .slice b6 V.gr.length cb6, .slice b7 V.re.length cb7] 34)) wr) (fun vk _ => V.le.length - (intOf vk).toNat)
    case atStart => exact ⟨0, by omega, rfl, HG.out⟩
    case round =>
      obtain ⟨k, hk, rfl, bs, d, rfl⟩ := hrel
      have hN : V.le.length ≤ 1000 := by have := HA.out.r3.1; have h2 := congrArg List.length HA.out.e1; simp [letL] at this h2; omega
      by_cases hlt : k < V.le.length
      · have d1 : (k : Int) < (V.le.length : Int) := by omega
        have hq0 : (0 : Int) ≤ (k : Int) := by omega
        obtain ⟨⟨s, e, v⟩, hta, htl⟩ := map_at HA.out.e1 hlt
        obtain ⟨⟨s', e', u⟩, htb, htl'⟩ := map_at HB.out.e1 hlt
        rw [htl] at htl'
        simp only [Option.some.injEq, Prod.mk.injEq] at htl'
        obtain ⟨rfl, rfl⟩ := htl'
        have ra := HA.out.s3 (e, v) (List.mem_map.2 ⟨_, List.mem_of_getElem? hta, rfl⟩)
        have rb := HB.out.s3 (e, u) (List.mem_map.2 ⟨_, List.mem_of_getElem? htb, rfl⟩)
        obtain ⟨va, vc, hv⟩ := ra.form0
        obtain ⟨ua, uc, hu⟩ := rb.form0
        simp only at hv hu
        subst hv hu
        obtain ⟨ga, oa, rfl, hga, hca⟩ := HA.out.r3.slot (k := k) (by have := congrArg List.length HA.out.e1; simp [letL] at this ⊢; omega)
        obtain ⟨gb, ob, rfl, hgb, hcb⟩ := HB.out.r3.slot (k := k) (by have := congrArg List.length HB.out.e1; simp [letL] at this ⊢; omega)
        have hca := hca _ (show (letL ql).getD k [] = .string s :: cells1 e (.slice va e.args.length vc) by simp [letL, List.getD_eq_getElem?_getD, List.getElem?_map, hta])
        have hcb := hcb _ (show (letL ql').getD k [] = .string s :: cells1 e (.slice ua e.args.length uc) by simp [letL, List.getD_eq_getElem?_getD, List.getElem?_map, htb])
        have x0 : w.cell? ⟨ga, oa + k * 7, none⟩ = some (.string s) := hca 0 _ (by omega) rfl
        have y0 : w.cell? ⟨gb, ob + k * 7, none⟩ = some (.string s) := hcb 0 _ (by omega) rfl
        have x1 : w.cell? ⟨ga, oa + k * 7 + 1, none⟩ = some (.int .i64 e.op) := hca 1 _ (by omega) rfl
        have y1 : w.cell? ⟨gb, ob + k * 7 + 1, none⟩ = some (.int .i64 e.op) := hcb 1 _ (by omega) rfl
        have x2 : w.cell? ⟨ga, oa + k * 7 + 2, none⟩ = some (.int .i64 e.num) := hca 2 _ (by omega) rfl
        have y2 : w.cell? ⟨gb, ob + k * 7 + 2, none⟩ = some (.int .i64 e.num) := hcb 2 _ (by omega) rfl
        have x3 : w.cell? ⟨ga, oa + k * 7 + 3, none⟩ = some (.int .i64 e.den) := hca 3 _ (by omega) rfl
        have y3 : w.cell? ⟨gb, ob + k * 7 + 3, none⟩ = some (.int .i64 e.den) := hcb 3 _ (by omega) rfl
        have x4 : w.cell? ⟨ga, oa + k * 7 + 4, none⟩ = some (.int .i64 e.dim) := hca 4 _ (by omega) rfl
        have y4 : w.cell? ⟨gb, ob + k * 7 + 4, none⟩ = some (.int .i64 e.dim) := hcb 4 _ (by omega) rfl
        have x5 : w.cell? ⟨ga, oa + k * 7 + 5, none⟩ = some (.string e.name) := hca 5 _ (by omega) rfl
        have y5 : w.cell? ⟨gb, ob + k * 7 + 5, none⟩ = some (.string e.name) := hcb 5 _ (by omega) rfl
        have x6 : w.cell? ⟨ga, oa + k * 7 + 6, none⟩ = some (.slice va e.args.length vc) := hca 6 _ (by omega) rfl
        have y6 : w.cell? ⟨gb, ob + k * 7 + 6, none⟩ = some (.slice ua e.args.length uc) := hcb 6 _ (by omega) rfl
        clear hca hcb
        have HR1 := Lib.hid ra
        have HR2 := Lib.hid rb
        clear ra rb hta htb htl
        clear HG HA HB
        generalize hn3 : V.cr.length = n3 at *
        generalize hn4 : V.se.length = n4 at *
        generalize hn5 : V.le.length = n5 at *
        generalize hn6 : V.gr.length = n6 at *
        generalize hn7 : V.re.length = n7 at *
        clear hn3 hn4 hn5 hn6 hn7
        go_wp2_with fail
        refine wp_region_quietG (by kernel_rfl) (by kernel_rfl) ?_
        repeat (go_big_quiet_step ((go_at_call 40; exact Calls.quietG' (Same_any (S := fun _ => True) (S' := fun _ => True) (e := e) (by (repeat' (first | (with_reducible exact HR1.out) | (with_reducible exact HR2.out) | (with_reducible refine RepE.alloc ?_ _) | (with_reducible refine RepE.grow ?_ _ _)))) (by (repeat' (first | (with_reducible exact HR1.out) | (with_reducible exact HR2.out) | (with_reducible refine RepE.alloc ?_ _) | (with_reducible refine RepE.grow ?_ _ _))))))))
        refine wpQuiet_nil ?_
        intro _ hw'
        obtain ⟨⟨gb, gd⟩, hw''⟩ := hw'
        subst hw''
        go_wp2_with fail
        go_roundw
        case rel => exact ⟨k + 1, by omega, by go_num, .of_below (by (repeat' (first | (with_reducible exact Below.refl _ _) | (with_reducible assumption) | (with_reducible refine Below.grow ?_ ?_ _ _) | (with_reducible refine Below.alloc ?_ ?_ _) | (with_reducible refine Below.drewN ?_ _) | (with_reducible refine Below.drew ?_) | (with_reducible refine Below.setCell ?_ ?_ _) | go_size)))⟩
        case measure => simp [intOf]; omega
      · obtain rfl : k = V.le.length := by omega
        go_wp2_with fail
        go_meet
        exact ⟨_, _, rfl⟩
  have HG1 := Lib.hid hcut
  clear hcut HG
  go_step
  exact sv_4 w frm mode unit V a3 a4 a5 a6 a7 b3 b4 b5 b6 b7 ca3 ca4 ca5 ca6 ca7 cb3 cb4 cb5 cb6 cb7 ql ql' qg qg' qr qr' HA HB _ HG1 _ _ _ _ _ _ _ _ _ _ _ _ _ _ _ _ _ _ _ _ _ _ _ _ _ _ _ _ _ _ _ _ _ _ _ _ _ _ _ _ _ _ _ _ _ _ _ _ _ _ _ _ _ _ _ _ _ _ _ _ _ _ _ _ _ _ _ _ _ _ _ _ _ _ _ _ _ _ _ _ _ _ _ _ _ _ _ _ _ _ _ _ _ _ _ _ _ _ _ _ _ _ _ _ _ _ _ _ _ _ _ _ _ _ _ _ _ _ _ _ _ _ _ _ _ _ _ _ _ _ _ _ _ _ _ _ _ _ _ _ _ _ _ _ _ _ _ _ _ _ _ _ _ _ _ _ _ _ _ _ _ _ _ _ _ _ _ _ _ _ _ _ _ _ _ _ _ _ _ _ _ _ _ _ _ _ _ _ _ _ _ _ _ _ _ _ _ _ _ _ _ _ _ _ _ _ _ _ _ _ _ _ _ _ _ _ _ _ _ _ _ _ _
end Go.Proofs.Ytldelkkeimlfcaa
/- SameVersion from its loop 2 on. -/
namespace Go.Proofs.Ytldelkkeimlfcaa
open Go.RowKit
set_option maxHeartbeats 8000000 in
set_option maxRecDepth 1000000 in
theorem sv_2 (w : World) (frm mode unit : Int) (V : VerP) (a3 a4 a5 a6 a7 b3 b4 b5 b6 b7 : Option Addr) (ca3 ca4 ca5 ca6 ca7 cb3 cb4 cb5 cb6 cb7 : Nat) (ql ql' : List (ByteArray × (Ex × Value))) (qg qg' : List GrT) (qr qr' : List (Int × (Ex × Value))) (HA : Hid (VerS w V (.slice a3 V.cr.length ca3) (.slice a4 V.se.length ca4) (.slice a5 V.le.length ca5) (.slice a6 V.gr.length ca6) (.slice a7 V.re.length ca7) ql qg qr)) (HB : Hid (VerS w V (.slice b3 V.cr.length cb3) (.slice b4 V.se.length cb4) (.slice b5 V.le.length cb5) (.slice b6 V.gr.length cb6) (.slice b7 V.re.length cb7) ql' qg' qr')) (wc : World) (HG : Hid (World.Grows ((w.alloc (.cells #[.int .i64 frm, .int .i64 mode, .int .i64 unit, .slice a3 V.cr.length ca3, .slice a4 V.se.length ca4, .slice a5 V.le.length ca5, .slice a6 V.gr.length ca6, .slice a7 V.re.length ca7] 34)).alloc (.cells #[.int .i64 frm, .int .i64 mode, .int .i64 unit, .slice b3 V.cr.length cb3, .slice b4 V.se.length cb4, .slice b5 V.le.length cb5, .slice b6 V.gr.length cb6, .slice b7 V.re.length cb7] 34)) wc)) (u4 u5 u6 u7 u8 u9 u10 u11 u12 u13 u14 u15 u16 u17 u18 u19 u20 u21 u22 u23 u24 u25 u26 u27 u28 u29 u30 u31 u32 u33 u34 u35 u36 u37 u38 u39 u40 u41 u42 u43 u44 u45 u46 u47 u48 u49 u50 u51 u52 u53 u54 u55 u56 u57 u58 u59 u60 u61 u62 u63 u64 u65 u66 u67 u68 u69 u70 u71 u72 u73 u74 u75 u76 u77 u78 u79 u80 u81 u82 u83 u84 u85 u86 u87 u88 u89 u90 u91 u92 u93 u94 u95 u96 u97 u98 u99 u100 u101 u102 u103 u104 u105 u106 u107 u108 u109 u110 u111 u112 u113 u114 u115 u116 u117 u118 u119 u120 u121 u122 u123 u124 u125 u126 u127 u128 u129 u130 u131 u132 u133 u134 u135 u136 u137 u138 u139 u140 u141 u142 u143 u144 u145 u146 u147 u148 u149 u150 u151 u152 u153 u154 u155 u156 u157 u158 u159 u160 u161 u162 u163 u164 u165 u166 u167 u168 u169 u170 u171 u172 u173 u174 u175 u176 u177 u178 u179 u180 u181 u182 u183 u184 u185 u186 u187 u188 u189 u190 u191 u192 u193 u194 u195 u196 u197 u198 u199 u200 u201 u202 u203 u204 u205 u206 u207 u208 u209 u210 u211 u212 u213 u214 u215 u216 u217 u218 u219 u220 u221 u222 u223 u224 u225 u226 : Value) :
    Code.wp Try.prog (tlC (tlC (tlC (Try.f21.body.getD .skip)))) (bodyPost Try.prog Try.f21 (TrueG w)) { tmps := #[.agg #[.int .i64 frm, .int .i64 mode, .int .i64 unit, .slice a3 V.cr.length ca3, .slice a4 V.se.length ca4, .slice a5 V.le.length ca5, .slice a6 V.gr.length ca6, .slice a7 V.re.length ca7], .agg #[.int .i64 frm, .int .i64 mode, .int .i64 unit, .slice b3 V.cr.length cb3, .slice b4 V.se.length cb4, .slice b5 V.le.length cb5, .slice b6 V.gr.length cb6, .slice b7 V.re.length cb7], .pointer (some ⟨w.heap.size, 0, none⟩), .pointer (some ⟨w.heap.size + 1, 0, none⟩), u4, u5, u6, u7, u8, u9, u10, u11, u12, u13, u14, u15, u16, u17, u18, u19, u20, u21, u22, u23, u24, u25, u26, u27, u28, u29, u30, u31, u32, u33, u34, u35, u36, u37, u38, u39, u40, u41, u42, u43, u44, u45, u46, u47, u48, u49, u50, u51, u52, u53, u54, u55, u56, u57, u58, u59, u60, u61, u62, u63, u64, u65, u66, u67, u68, u69, u70, u71, u72, u73, u74, u75, u76, u77, u78, u79, u80, u81, u82, u83, u84, u85, u86, u87, u88, u89, u90, u91, u92, u93, u94, u95, u96, u97, u98, u99, u100, u101, u102, u103, u104, u105, u106, u107, u108, u109, u110, u111, u112, u113, u114, u115, u116, u117, u118, u119, u120, u121, u122, u123, u124, u125, u126, u127, u128, u129, u130, u131, u132, u133, u134, u135, u136, u137, u138, u139, u140, u141, u142, u143, u144, u145, u146, u147, u148, u149, u150, u151, u152, u153, u154, u155, u156, u157, u158, u159, u160, u161, u162, u163, u164, u165, u166, u167, u168, u169, u170, u171, u172, u173, u174, u175, u176, u177, u178, u179, u180, u181, u182, u183, u184, u185, u186, u187, u188, u189, u190, u191, u192, u193, u194, u195, u196, u197, u198, u199, u200, u201, u202, u203, u204, u205, u206, u207, u208, u209, u210, u211, u212, u213, u214, u215, u216, u217, u218, u219, u220, u221, u222, u223, u224, u225, u226], defers := [] } wc := by
  conv => arg 2; whnf
  go_upto_block 2 with fail
  go_cut [] from 4 (fun wx => World.Grows ((w.alloc (.cells #[.int .i64 frm, .int .i64 mode, .int .i64 unit, .slice a3 V.cr.length ca3, .slice a4 V.se.length ca4, .slice a5 V.le.length ca5, .slice a6 V.gr.length ca6, .slice a7 V.re.length ca7] 34)).alloc (.cells #[.int .i64 frm, .int .i64 mode, .int .i64 unit, .slice b3 V.cr.length cb3, .slice b4 V.se.length cb4, .slice b5 V.le.length cb5, .slice b6 V.gr.length cb6, .slice b7 V.re.length cb7] 34)) wx)
  case first =>
    go_wp2_with fail
    go_loopw [6] (fun vk wr => ∃ k : Nat, k ≤ V.se.length ∧ vk = .int .i64 k ∧ World.Grows ((w.alloc (.cells #[.int .i64 frm, .int .i64 mode, .int .i64 unit, .slice a3 V.cr.length ca3, .slice a4 V.se.length ca4, .slice a5 V.le.length ca5, .slice a6 V.gr.length ca6, .slice a7 V.re.length ca7] 34)).alloc (.cells #[.int .i64 frm, .int .i64 mode, .int .i64 unit, .slice b3 V.cr.length cb3, .slice b4 V.se.length cb4, .slice b5 V.le.length cb5, .slice b6 V.gr.length cb6, .slice b7 V.re.length cb7] 34)) wr) (fun vk _ => V.se.length - (intOf vk).toNat)
    case atStart => exact ⟨0, by omega, rfl, HG.out⟩
    case round =>
      obtain ⟨k, hk, rfl, bs, d, rfl⟩ := hrel
      have hN : V.se.length ≤ 1000 := by have := HA.out.r2.1; simpa [seL] using this
      by_cases hlt : k < V.se.length
      · have d1 : (k : Int) < (V.se.length : Int) := by omega
        have hq0 : (0 : Int) ≤ (k : Int) := by omega
        obtain ⟨⟨p0, p1, p2⟩, ht⟩ : ∃ t, V.se[k]? = some t := ⟨_, List.getElem?_eq_getElem hlt⟩
        obtain ⟨ga, oa, rfl, hga, hca⟩ := HA.out.r2.slot (k := k) (by simpa [seL] using hlt)
        obtain ⟨gb, ob, rfl, hgb, hcb⟩ := HB.out.r2.slot (k := k) (by simpa [seL] using hlt)
        have hca := hca _ (show _ = [.int .i64 p0, .int .i64 p1, .int .i64 p2] by simp [seL, List.getD_eq_getElem?_getD, List.getElem?_map, ht])
        have hcb := hcb _ (show _ = [.int .i64 p0, .int .i64 p1, .int .i64 p2] by simp [seL, List.getD_eq_getElem?_getD, List.getElem?_map, ht])
        have x0 : w.cell? ⟨ga, oa + k * 3, none⟩ = some (.int .i64 p0) := hca 0 _ (by omega) rfl
        have y0 : w.cell? ⟨gb, ob + k * 3, none⟩ = some (.int .i64 p0) := hcb 0 _ (by omega) rfl
        have x1 : w.cell? ⟨ga, oa + k * 3 + 1, none⟩ = some (.int .i64 p1) := hca 1 _ (by omega) rfl
        have y1 : w.cell? ⟨gb, ob + k * 3 + 1, none⟩ = some (.int .i64 p1) := hcb 1 _ (by omega) rfl
        have x2 : w.cell? ⟨ga, oa + k * 3 + 2, none⟩ = some (.int .i64 p2) := hca 2 _ (by omega) rfl
        have y2 : w.cell? ⟨gb, ob + k * 3 + 2, none⟩ = some (.int .i64 p2) := hcb 2 _ (by omega) rfl
        clear hca hcb
        clear HG HA HB
        generalize hn3 : V.cr.length = n3 at *
        generalize hn4 : V.se.length = n4 at *
        generalize hn5 : V.le.length = n5 at *
        generalize hn6 : V.gr.length = n6 at *
        generalize hn7 : V.re.length = n7 at *
        clear hn3 hn4 hn5 hn6 hn7
        go_wp2_with fail
        go_quiet (fail)
        go_wp2_with fail
        go_roundw
        case rel => exact ⟨k + 1, by omega, by go_num, .of_below (by (repeat' (first | (with_reducible exact Below.refl _ _) | (with_reducible assumption) | (with_reducible refine Below.grow ?_ ?_ _ _) | (with_reducible refine Below.alloc ?_ ?_ _) | (with_reducible refine Below.drewN ?_ _) | (with_reducible refine Below.drew ?_) | (with_reducible refine Below.setCell ?_ ?_ _) | go_size)))⟩
        case measure => simp [intOf]; omega
      · obtain rfl : k = V.se.length := by omega
        go_wp2_with fail
        go_meet
        exact ⟨_, _, rfl⟩
  have HG1 := Lib.hid hcut
  clear hcut HG
  go_step
  exact sv_3 w frm mode unit V a3 a4 a5 a6 a7 b3 b4 b5 b6 b7 ca3 ca4 ca5 ca6 ca7 cb3 cb4 cb5 cb6 cb7 ql ql' qg qg' qr qr' HA HB _ HG1 _ _ _ _ _ _ _ _ _ _ _ _ _ _ _ _ _ _ _ _ _ _ _ _ _ _ _ _ _ _ _ _ _ _ _ _ _ _ _ _ _ _ _ _ _ _ _ _ _ _ _ _ _ _ _ _ _ _ _ _ _ _ _ _ _ _ _ _ _ _ _ _ _ _ _ _ _ _ _ _ _ _ _ _ _ _ _ _ _ _ _ _ _ _ _ _ _ _ _ _ _ _ _ _ _ _ _ _ _ _ _ _ _ _ _ _ _ _ _ _ _ _ _ _ _ _ _ _ _ _ _ _ _ _ _ _ _ _ _ _ _ _ _ _ _ _ _ _ _ _ _ _ _ _ _ _ _ _ _ _ _ _ _ _ _ _ _ _ _ _ _ _ _ _ _ _ _ _ _ _ _ _ _ _ _ _ _ _ _ _ _ _ _ _ _ _ _ _ _ _ _ _ _ _ _ _ _ _ _ _ _ _ _ _ _ _ _ _ _ _ _ _ _
end Go.Proofs.Ytldelkkeimlfcaa
/- SameVersion: two versions with the same contents are the same. -/
namespace Go.Proofs.Ytldelkkeimlfcaa
open Go.RowKit
set_option maxHeartbeats 8000000 in
set_option maxRecDepth 1000000 in
theorem SameV_any {w : World} {frm mode unit : Int} {V : VerP} {v3 v4 v5 v6 v7 u3 u4 u5 u6 u7 : Value} (ha : VerR w V v3 v4 v5 v6 v7) (hb : VerR w V u3 u4 u5 u6 u7) :
    Calls Try.prog 21 #[.agg #[.int .i64 frm, .int .i64 mode, .int .i64 unit, v3, v4, v5, v6, v7], .agg #[.int .i64 frm, .int .i64 mode, .int .i64 unit, u3, u4, u5, u6, u7]] w (TrueG w) := by
  obtain ⟨ql, qg, qr, ha⟩ := ha
  obtain ⟨ql', qg', qr', hb⟩ := hb
  obtain ⟨a3, ca3, ha3⟩ : ∃ a c, v3 = .slice a V.cr.length c := by
    obtain ⟨-, -, -, a, c, hv, -⟩ := ha.r1
    exact ⟨a, c, by rw [hv]; simp [crL]⟩
  obtain ⟨a4, ca4, ha4⟩ : ∃ a c, v4 = .slice a V.se.length c := by
    obtain ⟨-, -, -, a, c, hv, -⟩ := ha.r2
    exact ⟨a, c, by rw [hv]; simp [seL]⟩
  obtain ⟨a5, ca5, ha5⟩ : ∃ a c, v5 = .slice a V.le.length c := by
    obtain ⟨-, -, -, a, c, hv, -⟩ := ha.r3
    exact ⟨a, c, by rw [hv, ← ha.e1]; simp [letL]⟩
  obtain ⟨a6, ca6, ha6⟩ : ∃ a c, v6 = .slice a V.gr.length c := by
    obtain ⟨-, -, -, a, c, hv, -⟩ := ha.r4
    exact ⟨a, c, by rw [hv, ← ha.e2]; simp [grL]⟩
  obtain ⟨a7, ca7, ha7⟩ : ∃ a c, v7 = .slice a V.re.length c := by
    obtain ⟨-, -, -, a, c, hv, -⟩ := ha.r5
    exact ⟨a, c, by rw [hv, ← ha.e3]; simp [reL]⟩
  subst ha3 ha4 ha5 ha6 ha7
  obtain ⟨b3, cb3, hb3⟩ : ∃ a c, u3 = .slice a V.cr.length c := by
    obtain ⟨-, -, -, a, c, hv, -⟩ := hb.r1
    exact ⟨a, c, by rw [hv]; simp [crL]⟩
  obtain ⟨b4, cb4, hb4⟩ : ∃ a c, u4 = .slice a V.se.length c := by
    obtain ⟨-, -, -, a, c, hv, -⟩ := hb.r2
    exact ⟨a, c, by rw [hv]; simp [seL]⟩
  obtain ⟨b5, cb5, hb5⟩ : ∃ a c, u5 = .slice a V.le.length c := by
    obtain ⟨-, -, -, a, c, hv, -⟩ := hb.r3
    exact ⟨a, c, by rw [hv, ← hb.e1]; simp [letL]⟩
  obtain ⟨b6, cb6, hb6⟩ : ∃ a c, u6 = .slice a V.gr.length c := by
    obtain ⟨-, -, -, a, c, hv, -⟩ := hb.r4
    exact ⟨a, c, by rw [hv, ← hb.e2]; simp [grL]⟩
  obtain ⟨b7, cb7, hb7⟩ : ∃ a c, u7 = .slice a V.re.length c := by
    obtain ⟨-, -, -, a, c, hv, -⟩ := hb.r5
    exact ⟨a, c, by rw [hv, ← hb.e3]; simp [reL]⟩
  subst hb3 hb4 hb5 hb6 hb7
  have HA := Lib.hid ha
  have HB := Lib.hid hb
  clear ha hb
  go_enter Try.func21, Try.ntmps21
  have HG : Hid (World.Grows ((w.alloc (.cells #[.int .i64 frm, .int .i64 mode, .int .i64 unit, .slice a3 V.cr.length ca3, .slice a4 V.se.length ca4, .slice a5 V.le.length ca5, .slice a6 V.gr.length ca6, .slice a7 V.re.length ca7] 34)).alloc (.cells #[.int .i64 frm, .int .i64 mode, .int .i64 unit, .slice b3 V.cr.length cb3, .slice b4 V.se.length cb4, .slice b5 V.le.length cb5, .slice b6 V.gr.length cb6, .slice b7 V.re.length cb7] 34)) ((w.alloc (.cells #[.int .i64 frm, .int .i64 mode, .int .i64 unit, .slice a3 V.cr.length ca3, .slice a4 V.se.length ca4, .slice a5 V.le.length ca5, .slice a6 V.gr.length ca6, .slice a7 V.re.length ca7] 34)).alloc (.cells #[.int .i64 frm, .int .i64 mode, .int .i64 unit, .slice b3 V.cr.length cb3, .slice b4 V.se.length cb4, .slice b5 V.le.length cb5, .slice b6 V.gr.length cb6, .slice b7 V.re.length cb7] 34))) := Lib.hid (.refl _)
  go_upto_block 0 with fail
  go_cut [] from 4 (fun wx => World.Grows ((w.alloc (.cells #[.int .i64 frm, .int .i64 mode, .int .i64 unit, .slice a3 V.cr.length ca3, .slice a4 V.se.length ca4, .slice a5 V.le.length ca5, .slice a6 V.gr.length ca6, .slice a7 V.re.length ca7] 34)).alloc (.cells #[.int .i64 frm, .int .i64 mode, .int .i64 unit, .slice b3 V.cr.length cb3, .slice b4 V.se.length cb4, .slice b5 V.le.length cb5, .slice b6 V.gr.length cb6, .slice b7 V.re.length cb7] 34)) wx)
  case first =>
    go_wp2_with fail
    go_loopw [5] (fun vk wr => ∃ k : Nat, k ≤ V.cr.length ∧ vk = .int .i64 k ∧ World.Grows ((w.alloc (.cells #[.int .i64 frm, .int .i64 mode, .int .i64 unit, .slice a3 V.cr.length ca3, .slice a4 V.se.length ca4, .slice a5 V.le.length ca5, .slice a6 V.gr.length ca6, .slice a7 V.re.length ca7] 34)).alloc (.cells #[.int .i64 frm, .int .i64 mode, .int .i64 unit, .slice b3 V.cr.length cb3, .slice b4 V.se.length cb4, .slice b5 V.le.length cb5, .slice b6 V.gr.length cb6, .slice b7 V.re.length cb7] 34)) wr) (fun vk _ => V.cr.length - (intOf vk).toNat)
    case atStart => exact ⟨0, by omega, rfl, HG.out⟩
    case round =>
      obtain ⟨k, hk, rfl, bs, d, rfl⟩ := hrel
      have hN : V.cr.length ≤ 1000 := by have := HA.out.r1.1; simpa [crL] using this
      by_cases hlt : k < V.cr.length
      · have d1 : (k : Int) < (V.cr.length : Int) := by omega
        have hq0 : (0 : Int) ≤ (k : Int) := by omega
        obtain ⟨⟨p0, p1⟩, ht⟩ : ∃ t, V.cr[k]? = some t := ⟨_, List.getElem?_eq_getElem hlt⟩
        obtain ⟨ga, oa, rfl, hga, hca⟩ := HA.out.r1.slot (k := k) (by simpa [crL] using hlt)
        obtain ⟨gb, ob, rfl, hgb, hcb⟩ := HB.out.r1.slot (k := k) (by simpa [crL] using hlt)
        have hca := hca _ (show _ = [.int .i64 p0, .int .i64 p1] by simp [crL, List.getD_eq_getElem?_getD, List.getElem?_map, ht])
        have hcb := hcb _ (show _ = [.int .i64 p0, .int .i64 p1] by simp [crL, List.getD_eq_getElem?_getD, List.getElem?_map, ht])
        have x0 : w.cell? ⟨ga, oa + k * 2, none⟩ = some (.int .i64 p0) := hca 0 _ (by omega) rfl
        have y0 : w.cell? ⟨gb, ob + k * 2, none⟩ = some (.int .i64 p0) := hcb 0 _ (by omega) rfl
        have x1 : w.cell? ⟨ga, oa + k * 2 + 1, none⟩ = some (.int .i64 p1) := hca 1 _ (by omega) rfl
        have y1 : w.cell? ⟨gb, ob + k * 2 + 1, none⟩ = some (.int .i64 p1) := hcb 1 _ (by omega) rfl
        clear hca hcb
        clear HG HA HB
        generalize hn3 : V.cr.length = n3 at *
        generalize hn4 : V.se.length = n4 at *
        generalize hn5 : V.le.length = n5 at *
        generalize hn6 : V.gr.length = n6 at *
        generalize hn7 : V.re.length = n7 at *
        clear hn3 hn4 hn5 hn6 hn7
        go_wp2_with fail
        go_quiet (fail)
        go_wp2_with fail
        go_roundw
        case rel => exact ⟨k + 1, by omega, by go_num, .of_below (by (repeat' (first | (with_reducible exact Below.refl _ _) | (with_reducible assumption) | (with_reducible refine Below.grow ?_ ?_ _ _) | (with_reducible refine Below.alloc ?_ ?_ _) | (with_reducible refine Below.drewN ?_ _) | (with_reducible refine Below.drew ?_) | (with_reducible refine Below.setCell ?_ ?_ _) | go_size)))⟩
        case measure => simp [intOf]; omega
      · obtain rfl : k = V.cr.length := by omega
        go_wp2_with fail
        go_meet
        exact ⟨_, _, rfl⟩
  have HG1 := Lib.hid hcut
  clear hcut HG
  go_step
  exact sv_2 w frm mode unit V a3 a4 a5 a6 a7 b3 b4 b5 b6 b7 ca3 ca4 ca5 ca6 ca7 cb3 cb4 cb5 cb6 cb7 ql ql' qg qg' qr qr' HA HB _ HG1 _ _ _ _ _ _ _ _ _ _ _ _ _ _ _ _ _ _ _ _ _ _ _ _ _ _ _ _ _ _ _ _ _ _ _ _ _ _ _ _ _ _ _ _ _ _ _ _ _ _ _ _ _ _ _ _ _ _ _ _ _ _ _ _ _ _ _ _ _ _ _ _ _ _ _ _ _ _ _ _ _ _ _ _ _ _ _ _ _ _ _ _ _ _ _ _ _ _ _ _ _ _ _ _ _ _ _ _ _ _ _ _ _ _ _ _ _ _ _ _ _ _ _ _ _ _ _ _ _ _ _ _ _ _ _ _ _ _ _ _ _ _ _ _ _ _ _ _ _ _ _ _ _ _ _ _ _ _ _ _ _ _ _ _ _ _ _ _ _ _ _ _ _ _ _ _ _ _ _ _ _ _ _ _ _ _ _ _ _ _ _ _ _ _ _ _ _ _ _ _ _ _ _ _ _ _ _ _ _ _ _ _ _ _ _ _ _ _ _ _ _ _ _
end Go.Proofs.Ytldelkkeimlfcaa
