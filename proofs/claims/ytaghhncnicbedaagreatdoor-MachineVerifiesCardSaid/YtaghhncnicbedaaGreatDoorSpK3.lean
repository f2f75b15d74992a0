/- pensionmade.Spoil: an instruction struck, laid. -/
import Derived.Test.YtaghhncnicbedaaGreatDoorSpA
set_option linter.all false
namespace Go.Proofs.YtaghhncnicbedaaGreatDoor
open Go.RowKit
set_option maxRecDepth 1000000 in
set_option maxHeartbeats 16000000 in
theorem spoil_k3 (w W0 : World) (ia sa sa' : Option Addr) (ic sc sc' n0 m0 pb po P pc base g gI ci N kk i : Nat) (l : List Ins) (sl : List ByteArray) (qa qk qn : Int) (HN : Hid (n0 ≤ 5000 ∧ m0 ≤ 100)) (HNL : Hid (l.length = N)) (HKN : Hid (kk < N)) (HCI : Hid (N ≤ ci)) (HI3 : Hid (i < P ∧ i < 3)) (HN5 : Hid (N ≤ 5003)) (H0 : Hid (SpSt (((w.alloc (.cells #[.slice ia n0 ic, .slice sa m0 sc] 63)).alloc (.cells #[.slice none 0 0, .slice none 0 0] 63))) base g n0 m0 i (.slice (some ⟨gI, 0, none⟩) N ci) (.slice sa' sl.length sc') l sl W0))
    (HPC : Hid (∀ W, w.Grows W → pb < W.heap.size ∧ W.cell? ⟨pb, po + i * 3, none⟩ = some (.int .i64 qa) ∧ W.cell? ⟨pb, po + i * 3 + 1, none⟩ = some (.int .i64 qk) ∧ W.cell? ⟨pb, po + i * 3 + 2, none⟩ = some (.int .i64 qn)))
    (x8 x9 x10 x11 x12 x13 x14 x15 x16 x17 x18 x19 x20 x21 x22 x23 x24 x25 x26 x27 x28 x29 x30 x31 x32 x33 x34 x35 x36 x37 x38 x39 x40 x41 x42 x43 x44 x45 x46 x48 x49 x50 x51 x52 x53 x54 x55 x56 x57 x58 x59 x60 x61 x62 x63 x64 x65 x66 x67 x68 x69 x70 x71 x72 x73 x74 x75 x76 x77 x78 x79 x80 x81 x82 x83 x84 x85 x86 x87 x88 x89 x90 x91 x92 x93 x94 x95 x96 x97 x98 x99 x100 x101 x102 x103 x104 x105 x106 x107 x108 x109 x110 x111 x112 x113 x114 x115 x116 x117 x118 x119 x120 x121 x122 x123 x124 x125 x126 x127 x128 x129 x130 x131 x132 x133 x134 x135 x136 x137 x138 x139 x140 x141 x142 x143 x144 x145 x146 x147 x148 x149 x150 x151 x152 x153 x154 x155 x156 x157 x158 x159 x160 x161 x162 x163 x164 x165 x166 x167 x168 x169 x170 x171 x172 x173 x174 x175 x176 x177 x178 x179 x180 x181 x182 x183 x184 x185 x186 x187 x188 x189 x190 x191 x192 x193 : Value) (Q : Exit → Act → World → Prop) (hpan : ∀ (c) (a : Act) (d : Nat) (v : Value) (w : World), Q (.panic c) (a.put (some d) v) w → Q (.panic c) a w) (hQ : ∀ (vI vS : Value) (l' : List Ins) (sl' : List ByteArray) (y7 y8 y9 y17 y18 y19 y20 y21 y22 y23 y24 y25 y26 y27 y28 y29 y30 y31 y32 y33 y34 y35 y36 y37 y38 y39 y40 y41 y42 y43 y44 y45 y46 y47 y48 y49 y50 y51 y52 y53 y54 y55 y56 y57 y58 y59 y60 y61 y62 y63 y64 y65 y66 y67 y68 y69 y70 y71 y72 y73 y74 y75 y76 y77 y78 y79 y80 y81 y82 y83 y84 y85 y86 y87 y88 y89 y90 y91 y92 y93 y94 y95 y96 y97 y98 y99 y100 y101 y102 y103 y104 y105 y106 y107 y108 y109 y110 y111 y112 y113 y114 y115 y116 y117 y118 y119 y120 y121 y122 y123 y124 y125 y126 y127 y128 y129 y130 y131 y132 y133 y134 y135 y136 y137 y138 y139 y140 y141 y142 y143 y144 y145 y146 y147 y148 y149 y150 y151 y152 y153 y154 y155 y156 y157 y158 y159 y160 y161 y162 y163 y164 y165 y166 y167 y168 y169 y170 y171 y172 y173 y174 y175 y176 y177 y178 y179 y180 y181 y182 y183 y184 y185 y186 y187 y188 y189 y190 y191 y192 : Value) (W' : World), Hid (SpSt (((w.alloc (.cells #[.slice ia n0 ic, .slice sa m0 sc] 63)).alloc (.cells #[.slice none 0 0, .slice none 0 0] 63))) base g n0 m0 (i + 1) vI vS l' sl' W') → Q .normal { tmps := #[.agg #[.slice ia n0 ic, .slice sa m0 sc], .slice (some ⟨pb, po, none⟩) P pc, .pointer (some ⟨w.heap.size, 0, none⟩), undef, .pointer (some ⟨w.heap.size + 1, 0, none⟩), .pointer (some ⟨g, 0, none⟩), .int .i64 i, y7, y8, y9, x10, x11, x12, x13, x14, x15, x16, y17, y18, y19, y20, y21, y22, y23, y24, y25, y26, y27, y28, y29, y30, y31, y32, y33, y34, y35, y36, y37, y38, y39, y40, y41, y42, y43, y44, y45, y46, y47, y48, y49, y50, y51, y52, y53, y54, y55, y56, y57, y58, y59, y60, y61, y62, y63, y64, y65, y66, y67, y68, y69, y70, y71, y72, y73, y74, y75, y76, y77, y78, y79, y80, y81, y82, y83, y84, y85, y86, y87, y88, y89, y90, y91, y92, y93, y94, y95, y96, y97, y98, y99, y100, y101, y102, y103, y104, y105, y106, y107, y108, y109, y110, y111, y112, y113, y114, y115, y116, y117, y118, y119, y120, y121, y122, y123, y124, y125, y126, y127, y128, y129, y130, y131, y132, y133, y134, y135, y136, y137, y138, y139, y140, y141, y142, y143, y144, y145, y146, y147, y148, y149, y150, y151, y152, y153, y154, y155, y156, y157, y158, y159, y160, y161, y162, y163, y164, y165, y166, y167, y168, y169, y170, y171, y172, y173, y174, y175, y176, y177, y178, y179, y180, y181, y182, y183, y184, y185, y186, y187, y188, y189, y190, y191, y192, x193], defers := [] } W') :
    Code.wp Tryz.prog (sq2 (sq2 (blk9 (sq1 (sq2 (lop9 (blk9 (sq2 (sq1 (sq2 (sq2 (Tryz.f19.body.getD .skip))))))))))))  Q { tmps := #[.agg #[.slice ia n0 ic, .slice sa m0 sc], .slice (some ⟨pb, po, none⟩) P pc, .pointer (some ⟨w.heap.size, 0, none⟩), undef, .pointer (some ⟨w.heap.size + 1, 0, none⟩), .pointer (some ⟨g, 0, none⟩), .int .i64 i, .int .i64 kk, x8, x9, x10, x11, x12, x13, x14, x15, x16, x17, x18, x19, x20, x21, x22, x23, x24, x25, x26, x27, x28, x29, x30, x31, x32, x33, x34, x35, x36, x37, x38, x39, x40, x41, x42, x43, x44, x45, x46, .int .i64 3, x48, x49, x50, x51, x52, x53, x54, x55, x56, x57, x58, x59, x60, x61, x62, x63, x64, x65, x66, x67, x68, x69, x70, x71, x72, x73, x74, x75, x76, x77, x78, x79, x80, x81, x82, x83, x84, x85, x86, x87, x88, x89, x90, x91, x92, x93, x94, x95, x96, x97, x98, x99, x100, x101, x102, x103, x104, x105, x106, x107, x108, x109, x110, x111, x112, x113, x114, x115, x116, x117, x118, x119, x120, x121, x122, x123, x124, x125, x126, x127, x128, x129, x130, x131, x132, x133, x134, x135, x136, x137, x138, x139, x140, x141, x142, x143, x144, x145, x146, x147, x148, x149, x150, x151, x152, x153, x154, x155, x156, x157, x158, x159, x160, x161, x162, x163, x164, x165, x166, x167, x168, x169, x170, x171, x172, x173, x174, x175, x176, x177, x178, x179, x180, x181, x182, x183, x184, x185, x186, x187, x188, x189, x190, x191, x192, x193], defers := [] } W0 := by
  obtain ⟨i0, hi, hz1, hz2, hz3⟩ := info_parts infoIn
  have z0 := H0.out.c.c0
  have z1 := H0.out.c.c1
  have zl := H0.out.c.gW
  obtain ⟨hb0, p1, p2, p3⟩ := HPC.out W0 (World.Grows.trans' growsR H0.out.c.gr)
  have hgI := (H0.out.c.row.lt gI rfl).2
  have d1 : (i : Int) < (P : Int) := by have := HI3.out; omega
  have d0 : (0 : Int) ≤ (i : Int) := by omega
  have d2 : (i : Int) < 3 := by have := HI3.out; omega
  have e0 : (0 : Int) ≤ (kk : Int) := by omega
  have e1 : (kk : Int) < (N : Int) := by have := HKN.out; omega
  have d3 : (0 : Int) < (N : Int) := by omega
  have hN6 : (N : Int) ≤ 5003 := by have := HN5.out; omega
  have hw3 : IntKind.i64.wrap ((N : Int) + 3) = (N : Int) + 3 := IntWalk.i64_in _ (by omega)
  have HP26 := Lib.hid (hpx9 26 (by omega) (by omega))
  have HP9 := Lib.hid (hpx9 9 (by omega) (by omega))
  have HP4 := Lib.hid (hpx9 4 (by omega) (by omega))
  have HP5 := Lib.hid (hpx9 5 (by omega) (by omega))
  have HP6 := Lib.hid (hpx9 6 (by omega) (by omega))
  have HPN3 := Lib.hid (hpx9 ((N : Int) + 3) (by omega) (by omega))
  conv => arg 2; whnf
  have s1 : (kk : Int) ≤ (ci : Int) := by have := HCI.out; have := HKN.out; omega
  have s2 : (kk : Int) + 1 ≤ (N : Int) := by have := HKN.out; omega
  have s2' : (kk : Int) ≤ (N : Int) := by have := HKN.out; omega
  have s3 : (N : Int) ≤ (ci : Int) := by have := HCI.out; omega
  have s4 : kk ≤ ci := by omega
  have s5 : kk + 1 ≤ N := by omega
  have s5' : kk ≤ N := by omega
  have s6 : N ≤ ci := by omega
  have HCT : Hid (∀ j u, (insV (l.take kk))[j]? = some u → W0.cell? ((⟨gI, 0, none⟩ : Addr).add j) = some u) := Lib.hid (fun j u hj => by
    rw [addr9, Nat.zero_add]
    refine H0.out.c.cells HNL.out.symm j u ?_
    rw [insV_take, List.getElem?_take] at hj
    split at hj
    · exact hj
    · cases hj)
  have HLT : Hid ((insV (l.take kk)).length = kk * 4) := Lib.hid (by rw [insV_len, List.length_take]; have := HKN.out; have := HNL.out; omega)
  go_upto_region 15 with (first
    | (go_at_call 13; refine (HK8.out _).mono ?_; rintro e' w' ⟨rfl, rfl⟩)
    | (at_builtin; refine wpList_append_own _ rfl _ _ 60 rfl W0.heap.size 77 i0 _ 4 32 Tryz.underlying60 hi hz1 hz2 hz3 rfl (by decide) (.slice none 0 0) 0 [] rfl (World.ownsRow_nil _ _ _ _) ⟨gI, 0, none⟩ kk ci (insV (l.take kk)) rfl HLT.out HCT.out (insV_one _) (by unfold maxLen; have := HKN.out; have := HN5.out; omega) (by have := HKN.out; have := HN5.out; omega) (by simp) ?_; intro v1 w1 hv1 hg1 hv1n; rw [Nat.zero_add, List.nil_append] at hv1; obtain ⟨a1, c1, rfl, -, -⟩ := rowForm3 hv1; have HV1 := Lib.hid hv1; have HG1 := Lib.hid (World.Grows.grown (World.Grows.refl _) hg1 (fun k e => by simp [Value.ownBlock] at e) : W0.Grows w1); clear hv1 hg1 hv1n))
  have HX := Lib.hid (H0.out.grows HG1.out)
  clear z0 z1 zl hb0 p1 p2 p3 hgI HLT HCT
  have z0 := HX.out.c.c0
  have z1 := HX.out.c.c1
  have zl := HX.out.c.gW
  obtain ⟨hb0, p1, p2, p3⟩ := HPC.out w1 (World.Grows.trans' growsR HX.out.c.gr)
  have hgI := (HX.out.c.row.lt gI rfl).2
  have HCD : Hid (∀ j u, (insV (l.drop (kk + 1)))[j]? = some u → w1.cell? ((⟨gI, (kk + 1) * 4, none⟩ : Addr).add j) = some u) := Lib.hid (fun j u hj => by
    rw [addr9]
    refine HX.out.c.cells HNL.out.symm _ u ?_
    rwa [insV_drop, List.getElem?_drop] at hj)
  have HLD : Hid ((insV (l.drop (kk + 1))).length = (N - (kk + 1)) * 4) := Lib.hid (by rw [insV_len, List.length_drop, HNL.out])
  obtain ⟨AD, hAD, hCE⟩ : ∃ AD, (if ci = kk + 1 then some (⟨gI, 0, none⟩ : Addr) else some ⟨gI, (kk + 1) * 4, none⟩) = some ⟨gI, AD, none⟩ ∧ ∀ j u, (insV (l.drop (kk + 1)))[j]? = some u → w1.cell? ((⟨gI, AD, none⟩ : Addr).add j) = some u := by
    by_cases hc : ci = kk + 1
    · refine ⟨0, by rw [if_pos hc], fun j u hj => ?_⟩
      have h0 : (insV (l.drop (kk + 1))).length = 0 := by rw [HLD.out]; omega
      rw [List.length_eq_zero_iff.1 h0] at hj
      simp at hj
    · exact ⟨_, by rw [if_neg hc], HCD.out⟩
  have HAD := Lib.hid hAD
  have HCE := Lib.hid hCE
  clear hAD hCE
  go_wp2_with (at_builtin; refine wpList_append_own _ rfl _ _ 60 rfl W0.heap.size 77 i0 _ 4 32 Tryz.underlying60 hi hz1 hz2 hz3 rfl (by decide) (.slice a1 kk c1) kk (insV (l.take kk)) rfl HV1.out ⟨gI, AD, none⟩ (N - (kk + 1)) (ci - (kk + 1)) (insV (l.drop (kk + 1))) (by show Value.slice _ _ _ = _; rw [HAD.out]) HLD.out HCE.out (insV_one _) (by unfold maxLen; have := HKN.out; have := HN5.out; omega) (by have := HKN.out; have := HN5.out; omega) HG1.out.below.size ?_; intro v2 w2 hv2 hg2 hv2n; obtain ⟨a2, c2, rfl, -, -⟩ := rowForm3 hv2; have HV2 := Lib.hid hv2; have HG2 := Lib.hid (World.Grows.grown HG1.out hg2 (fun k e => (HV1.out.lt k e).1) : W0.Grows w2); have HY := Lib.hid (H0.out.grows HG2.out); have y0 := HY.out.c.c0; have yf := HY.out.c.f 0; have yl := HY.out.c.gW; clear hv2 hg2 hv2n)
  all_goals exact hQ _ _ _ _ _ _ _ _ _ _ _ _ _ _ _ _ _ _ _ _ _ _ _ _ _ _ _ _ _ _ _ _ _ _ _ _ _ _ _ _ _ _ _ _ _ _ _ _ _ _ _ _ _ _ _ _ _ _ _ _ _ _ _ _ _ _ _ _ _ _ _ _ _ _ _ _ _ _ _ _ _ _ _ _ _ _ _ _ _ _ _ _ _ _ _ _ _ _ _ _ _ _ _ _ _ _ _ _ _ _ _ _ _ _ _ _ _ _ _ _ _ _ _ _ _ _ _ _ _ _ _ _ _ _ _ _ _ _ _ _ _ _ _ _ _ _ _ _ _ _ _ _ _ _ _ _ _ _ _ _ _ _ _ _ _ _ _ _ _ _ _ _ _ _ _ _ _ _ _ _ _ _ _ _ (Lib.hid (show SpSt (((w.alloc (.cells #[.slice ia n0 ic, .slice sa m0 sc] 63)).alloc (.cells #[.slice none 0 0, .slice none 0 0] 63))) base g n0 m0 (i + 1) (.slice a2 (kk + (N - (kk + 1))) c2) (.slice sa' sl.length sc') (l.take kk ++ l.drop (kk + 1)) sl _ from by
    have hlen : (l.take kk ++ l.drop (kk + 1)).length = kk + (N - (kk + 1)) := by rw [List.length_append, List.length_take, List.length_drop]; have := HKN.out; have := HNL.out; omega
    have h := H0.out.c.newI HG2.out (v1 := .slice a2 (kk + (N - (kk + 1))) c2) (l1 := l.take kk ++ l.drop (kk + 1)) (by unfold LRow; rw [hlen, insV_app]; exact HV2.out)
    refine ⟨h.setI _, fun x hx => H0.out.ok x ?_, by rw [hlen]; have := H0.out.nl; have := HNL.out; have := HKN.out; omega, H0.out.ml, H0.out.sz⟩
    rcases List.mem_append.1 hx with hx | hx
    · exact List.mem_of_mem_take hx
    · exact List.mem_of_mem_drop hx))
set_option maxRecDepth 1000000 in
set_option maxHeartbeats 16000000 in
theorem spoil_k4 (w W0 : World) (ia sa sa' : Option Addr) (ic sc sc' n0 m0 pb po P pc base g gI ci N kk i : Nat) (l : List Ins) (sl : List ByteArray) (qa qk qn : Int) (HN : Hid (n0 ≤ 5000 ∧ m0 ≤ 100)) (HNL : Hid (l.length = N)) (HKN : Hid (kk < N)) (HCI : Hid (N ≤ ci)) (HI3 : Hid (i < P ∧ i < 3)) (HN5 : Hid (N ≤ 5003)) (H0 : Hid (SpSt (((w.alloc (.cells #[.slice ia n0 ic, .slice sa m0 sc] 63)).alloc (.cells #[.slice none 0 0, .slice none 0 0] 63))) base g n0 m0 i (.slice (some ⟨gI, 0, none⟩) N ci) (.slice sa' sl.length sc') l sl W0))
    (HPC : Hid (∀ W, w.Grows W → pb < W.heap.size ∧ W.cell? ⟨pb, po + i * 3, none⟩ = some (.int .i64 qa) ∧ W.cell? ⟨pb, po + i * 3 + 1, none⟩ = some (.int .i64 qk) ∧ W.cell? ⟨pb, po + i * 3 + 2, none⟩ = some (.int .i64 qn)))
    (x8 x9 x10 x11 x12 x13 x14 x15 x16 x17 x18 x19 x20 x21 x22 x23 x24 x25 x26 x27 x28 x29 x30 x31 x32 x33 x34 x35 x36 x37 x38 x39 x40 x41 x42 x43 x44 x45 x46 x48 x49 x50 x51 x52 x53 x54 x55 x56 x57 x58 x59 x60 x61 x62 x63 x64 x65 x66 x67 x68 x69 x70 x71 x72 x73 x74 x75 x76 x77 x78 x79 x80 x81 x82 x83 x84 x85 x86 x87 x88 x89 x90 x91 x92 x93 x94 x95 x96 x97 x98 x99 x100 x101 x102 x103 x104 x105 x106 x107 x108 x109 x110 x111 x112 x113 x114 x115 x116 x117 x118 x119 x120 x121 x122 x123 x124 x125 x126 x127 x128 x129 x130 x131 x132 x133 x134 x135 x136 x137 x138 x139 x140 x141 x142 x143 x144 x145 x146 x147 x148 x149 x150 x151 x152 x153 x154 x155 x156 x157 x158 x159 x160 x161 x162 x163 x164 x165 x166 x167 x168 x169 x170 x171 x172 x173 x174 x175 x176 x177 x178 x179 x180 x181 x182 x183 x184 x185 x186 x187 x188 x189 x190 x191 x192 x193 : Value) (Q : Exit → Act → World → Prop) (hpan : ∀ (c) (a : Act) (d : Nat) (v : Value) (w : World), Q (.panic c) (a.put (some d) v) w → Q (.panic c) a w) (hQ : ∀ (vI vS : Value) (l' : List Ins) (sl' : List ByteArray) (y7 y8 y9 y17 y18 y19 y20 y21 y22 y23 y24 y25 y26 y27 y28 y29 y30 y31 y32 y33 y34 y35 y36 y37 y38 y39 y40 y41 y42 y43 y44 y45 y46 y47 y48 y49 y50 y51 y52 y53 y54 y55 y56 y57 y58 y59 y60 y61 y62 y63 y64 y65 y66 y67 y68 y69 y70 y71 y72 y73 y74 y75 y76 y77 y78 y79 y80 y81 y82 y83 y84 y85 y86 y87 y88 y89 y90 y91 y92 y93 y94 y95 y96 y97 y98 y99 y100 y101 y102 y103 y104 y105 y106 y107 y108 y109 y110 y111 y112 y113 y114 y115 y116 y117 y118 y119 y120 y121 y122 y123 y124 y125 y126 y127 y128 y129 y130 y131 y132 y133 y134 y135 y136 y137 y138 y139 y140 y141 y142 y143 y144 y145 y146 y147 y148 y149 y150 y151 y152 y153 y154 y155 y156 y157 y158 y159 y160 y161 y162 y163 y164 y165 y166 y167 y168 y169 y170 y171 y172 y173 y174 y175 y176 y177 y178 y179 y180 y181 y182 y183 y184 y185 y186 y187 y188 y189 y190 y191 y192 : Value) (W' : World), Hid (SpSt (((w.alloc (.cells #[.slice ia n0 ic, .slice sa m0 sc] 63)).alloc (.cells #[.slice none 0 0, .slice none 0 0] 63))) base g n0 m0 (i + 1) vI vS l' sl' W') → Q .normal { tmps := #[.agg #[.slice ia n0 ic, .slice sa m0 sc], .slice (some ⟨pb, po, none⟩) P pc, .pointer (some ⟨w.heap.size, 0, none⟩), undef, .pointer (some ⟨w.heap.size + 1, 0, none⟩), .pointer (some ⟨g, 0, none⟩), .int .i64 i, y7, y8, y9, x10, x11, x12, x13, x14, x15, x16, y17, y18, y19, y20, y21, y22, y23, y24, y25, y26, y27, y28, y29, y30, y31, y32, y33, y34, y35, y36, y37, y38, y39, y40, y41, y42, y43, y44, y45, y46, y47, y48, y49, y50, y51, y52, y53, y54, y55, y56, y57, y58, y59, y60, y61, y62, y63, y64, y65, y66, y67, y68, y69, y70, y71, y72, y73, y74, y75, y76, y77, y78, y79, y80, y81, y82, y83, y84, y85, y86, y87, y88, y89, y90, y91, y92, y93, y94, y95, y96, y97, y98, y99, y100, y101, y102, y103, y104, y105, y106, y107, y108, y109, y110, y111, y112, y113, y114, y115, y116, y117, y118, y119, y120, y121, y122, y123, y124, y125, y126, y127, y128, y129, y130, y131, y132, y133, y134, y135, y136, y137, y138, y139, y140, y141, y142, y143, y144, y145, y146, y147, y148, y149, y150, y151, y152, y153, y154, y155, y156, y157, y158, y159, y160, y161, y162, y163, y164, y165, y166, y167, y168, y169, y170, y171, y172, y173, y174, y175, y176, y177, y178, y179, y180, y181, y182, y183, y184, y185, y186, y187, y188, y189, y190, y191, y192, x193], defers := [] } W') :
    Code.wp Tryz.prog (sq2 (sq2 (blk9 (sq1 (sq2 (lop9 (blk9 (sq2 (sq1 (sq2 (sq2 (Tryz.f19.body.getD .skip))))))))))))  Q { tmps := #[.agg #[.slice ia n0 ic, .slice sa m0 sc], .slice (some ⟨pb, po, none⟩) P pc, .pointer (some ⟨w.heap.size, 0, none⟩), undef, .pointer (some ⟨w.heap.size + 1, 0, none⟩), .pointer (some ⟨g, 0, none⟩), .int .i64 i, .int .i64 kk, x8, x9, x10, x11, x12, x13, x14, x15, x16, x17, x18, x19, x20, x21, x22, x23, x24, x25, x26, x27, x28, x29, x30, x31, x32, x33, x34, x35, x36, x37, x38, x39, x40, x41, x42, x43, x44, x45, x46, .int .i64 4, x48, x49, x50, x51, x52, x53, x54, x55, x56, x57, x58, x59, x60, x61, x62, x63, x64, x65, x66, x67, x68, x69, x70, x71, x72, x73, x74, x75, x76, x77, x78, x79, x80, x81, x82, x83, x84, x85, x86, x87, x88, x89, x90, x91, x92, x93, x94, x95, x96, x97, x98, x99, x100, x101, x102, x103, x104, x105, x106, x107, x108, x109, x110, x111, x112, x113, x114, x115, x116, x117, x118, x119, x120, x121, x122, x123, x124, x125, x126, x127, x128, x129, x130, x131, x132, x133, x134, x135, x136, x137, x138, x139, x140, x141, x142, x143, x144, x145, x146, x147, x148, x149, x150, x151, x152, x153, x154, x155, x156, x157, x158, x159, x160, x161, x162, x163, x164, x165, x166, x167, x168, x169, x170, x171, x172, x173, x174, x175, x176, x177, x178, x179, x180, x181, x182, x183, x184, x185, x186, x187, x188, x189, x190, x191, x192, x193], defers := [] } W0 := by
  obtain ⟨i0, hi, hz1, hz2, hz3⟩ := info_parts infoIn
  have z0 := H0.out.c.c0
  have z1 := H0.out.c.c1
  have zl := H0.out.c.gW
  obtain ⟨hb0, p1, p2, p3⟩ := HPC.out W0 (World.Grows.trans' growsR H0.out.c.gr)
  have hgI := (H0.out.c.row.lt gI rfl).2
  have d1 : (i : Int) < (P : Int) := by have := HI3.out; omega
  have d0 : (0 : Int) ≤ (i : Int) := by omega
  have d2 : (i : Int) < 3 := by have := HI3.out; omega
  have e0 : (0 : Int) ≤ (kk : Int) := by omega
  have e1 : (kk : Int) < (N : Int) := by have := HKN.out; omega
  have d3 : (0 : Int) < (N : Int) := by omega
  have hN6 : (N : Int) ≤ 5003 := by have := HN5.out; omega
  have hw3 : IntKind.i64.wrap ((N : Int) + 3) = (N : Int) + 3 := IntWalk.i64_in _ (by omega)
  have HP26 := Lib.hid (hpx9 26 (by omega) (by omega))
  have HP9 := Lib.hid (hpx9 9 (by omega) (by omega))
  have HP4 := Lib.hid (hpx9 4 (by omega) (by omega))
  have HP5 := Lib.hid (hpx9 5 (by omega) (by omega))
  have HP6 := Lib.hid (hpx9 6 (by omega) (by omega))
  have HPN3 := Lib.hid (hpx9 ((N : Int) + 3) (by omega) (by omega))
  conv => arg 2; whnf
  have s1 : (kk : Int) ≤ (ci : Int) := by have := HCI.out; have := HKN.out; omega
  have s2 : (kk : Int) + 1 ≤ (N : Int) := by have := HKN.out; omega
  have s2' : (kk : Int) ≤ (N : Int) := by have := HKN.out; omega
  have s3 : (N : Int) ≤ (ci : Int) := by have := HCI.out; omega
  have s4 : kk ≤ ci := by omega
  have s5 : kk + 1 ≤ N := by omega
  have s5' : kk ≤ N := by omega
  have s6 : N ≤ ci := by omega
  have HCT : Hid (∀ j u, (insV (l.take kk))[j]? = some u → W0.cell? ((⟨gI, 0, none⟩ : Addr).add j) = some u) := Lib.hid (fun j u hj => by
    rw [addr9, Nat.zero_add]
    refine H0.out.c.cells HNL.out.symm j u ?_
    rw [insV_take, List.getElem?_take] at hj
    split at hj
    · exact hj
    · cases hj)
  have HLT : Hid ((insV (l.take kk)).length = kk * 4) := Lib.hid (by rw [insV_len, List.length_take]; have := HKN.out; have := HNL.out; omega)
  go_upto_region 18 with (first
    | (go_at_call 13; refine (HK8.out _).mono ?_; rintro e' w' ⟨rfl, rfl⟩)
    | (at_builtin; refine wpList_append_own _ rfl _ _ 60 rfl W0.heap.size 77 i0 _ 4 32 Tryz.underlying60 hi hz1 hz2 hz3 rfl (by decide) (.slice none 0 0) 0 [] rfl (World.ownsRow_nil _ _ _ _) ⟨gI, 0, none⟩ kk ci (insV (l.take kk)) rfl HLT.out HCT.out (insV_one _) (by unfold maxLen; have := HKN.out; have := HN5.out; omega) (by have := HKN.out; have := HN5.out; omega) (by simp) ?_; intro v1 w1 hv1 hg1 hv1n; rw [Nat.zero_add, List.nil_append] at hv1; obtain ⟨a1, c1, rfl, -, -⟩ := rowForm3 hv1; have HV1 := Lib.hid hv1; have HG1 := Lib.hid (World.Grows.grown (World.Grows.refl _) hg1 (fun k e => by simp [Value.ownBlock] at e) : W0.Grows w1); clear hv1 hg1 hv1n))
  have HX := Lib.hid (H0.out.grows HG1.out)
  clear z0 z1 zl hb0 p1 p2 p3 hgI HLT HCT
  have z0 := HX.out.c.c0
  have z1 := HX.out.c.c1
  have zl := HX.out.c.gW
  obtain ⟨hb0, p1, p2, p3⟩ := HPC.out w1 (World.Grows.trans' growsR HX.out.c.gr)
  have hgI := (HX.out.c.row.lt gI rfl).2
  refine TS.begin [16, 17] (World.Grows w1) (by kernel_rfl) (by kernel_rfl) grows_drew0 (fun hS => ?_)
  refine TS.takeV (i := 0) (v := ?_) rfl (by kernel_rfl) (by kernel_rfl) (by kernel_rfl) (by decide) (fun _ _ _ h => hpan _ _ _ _ _ h) rfl hS ?_ ?_
  rotate_left
  focus
    rintro wS ⟨gbS, gdS, rfl⟩
    go_simp
    rfl
  (try simp only [nS])
  refine TS.takeV (i := 1) (v := ?_) rfl (by kernel_rfl) (by kernel_rfl) (by kernel_rfl) (by decide) (fun _ _ _ h => hpan _ _ _ _ _ h) rfl hS ?_ ?_
  rotate_left
  focus
    rintro wS ⟨gbS, gdS, rfl⟩
    go_simp
    rfl
  (try simp only [nS])
  refine TS.takeV (i := 2) (v := ?_) rfl (by kernel_rfl) (by kernel_rfl) (by kernel_rfl) (by decide) (fun _ _ _ h => hpan _ _ _ _ _ h) rfl hS ?_ ?_
  rotate_left
  focus
    rintro wS ⟨gbS, gdS, rfl⟩
    go_simp
    rfl
  (try simp only [nS])
  refine TS.takeV (i := 3) (v := ?_) rfl (by kernel_rfl) (by kernel_rfl) (by kernel_rfl) (by decide) (fun _ _ _ h => hpan _ _ _ _ _ h) rfl hS ?_ ?_
  rotate_left
  focus
    rintro wS ⟨gbS, gdS, rfl⟩
    go_simp
    rfl
  (try simp only [nS])
  refine TS.takeV (i := 4) (v := ?_) rfl (by kernel_rfl) (by kernel_rfl) (by kernel_rfl) (by decide) (fun _ _ _ h => hpan _ _ _ _ _ h) rfl hS ?_ ?_
  rotate_left
  focus
    rintro wS ⟨gbS, gdS, rfl⟩
    go_simp
    rfl
  (try simp only [nS])
  refine TS.takeV (i := 5) (v := ?_) rfl (by kernel_rfl) (by kernel_rfl) (by kernel_rfl) (by decide) (fun _ _ _ h => hpan _ _ _ _ _ h) rfl hS ?_ ?_
  rotate_left
  focus
    rintro wS ⟨gbS, gdS, rfl⟩
    go_simp
    rfl
  (try simp only [nS])
  refine TS.takeV (i := 7) (v := ?_) rfl (by kernel_rfl) (by kernel_rfl) (by kernel_rfl) (by decide) (fun _ _ _ h => hpan _ _ _ _ _ h) rfl hS ?_ ?_
  rotate_left
  focus
    rintro wS ⟨gbS, gdS, rfl⟩
    go_simp
    rfl
  (try simp only [nS])
  refine TS.takeV (i := 8) (v := ?_) rfl (by kernel_rfl) (by kernel_rfl) (by kernel_rfl) (by decide) (fun _ _ _ h => hpan _ _ _ _ _ h) rfl hS ?_ ?_
  rotate_left
  focus
    rintro wS ⟨gbS, gdS, rfl⟩
    go_simp
    rfl
  (try simp only [nS])
  refine TS.takeV (i := 9) (v := ?_) rfl (by kernel_rfl) (by kernel_rfl) (by kernel_rfl) (by decide) (fun _ _ _ h => hpan _ _ _ _ _ h) rfl hS ?_ ?_
  rotate_left
  focus
    rintro wS ⟨gbS, gdS, rfl⟩
    go_simp
    rfl
  (try simp only [nS])
  refine TS.takeV (i := 10) (v := ?_) rfl (by kernel_rfl) (by kernel_rfl) (by kernel_rfl) (by decide) (fun _ _ _ h => hpan _ _ _ _ _ h) rfl hS ?_ ?_
  rotate_left
  focus
    rintro wS ⟨gbS, gdS, rfl⟩
    go_simp
    rfl
  (try simp only [nS])
  refine TS.takeV (i := 11) (v := ?_) rfl (by kernel_rfl) (by kernel_rfl) (by kernel_rfl) (by decide) (fun _ _ _ h => hpan _ _ _ _ _ h) rfl hS ?_ ?_
  rotate_left
  focus
    rintro wS ⟨gbS, gdS, rfl⟩
    go_simp
    rfl
  (try simp only [nS])
  refine TS.takeV (i := 12) (v := ?_) rfl (by kernel_rfl) (by kernel_rfl) (by kernel_rfl) (by decide) (fun _ _ _ h => hpan _ _ _ _ _ h) rfl hS ?_ ?_
  rotate_left
  focus
    rintro wS ⟨gbS, gdS, rfl⟩
    go_simp
    rfl
  (try simp only [nS])
  refine TS.one (i := 6) (by kernel_rfl) rfl (fun K1 hK1 => ?_)
  have HK1 := Lib.hid hK1
  clear hK1 hS
  dsimp only [List.getElem_toArray, List.getElem_cons_succ, List.getElem_cons_zero]
  go_simp
  go_at_call 13
  refine (HP26.out _ _).mono ?_
  rintro e' w' ⟨r, rfl, ⟨hr0, hr1⟩, rfl⟩
  refine TS.go HK1.out growsR (fun hS => ?_)
  clear HK1 K1
  (try simp only [nS])
  refine TS.one (i := 13) (by kernel_rfl) rfl (fun K1 hK1 => ?_)
  have HK1 := Lib.hid hK1
  clear hK1 hS
  dsimp only [List.getElem_toArray, List.getElem_cons_succ, List.getElem_cons_zero]
  go_simp
  go_at_call 13
  refine (HP6.out _ _).mono ?_
  rintro e' w' ⟨q, rfl, ⟨hq0, hq1⟩, rfl⟩
  refine TS.go HK1.out growsR (fun hS => ?_)
  clear HK1 K1
  (try simp only [nS])
  refine TS.takeV (i := 14) (v := ?_) rfl (by kernel_rfl) (by kernel_rfl) (by kernel_rfl) (by decide) (fun _ _ _ h => hpan _ _ _ _ _ h) rfl hS ?_ ?_
  rotate_left
  focus
    rintro wS ⟨gbS, gdS, rfl⟩
    go_simp
    rfl
  (try simp only [nS])
  refine TS.one (i := 15) (by kernel_rfl) rfl (fun K1 hK1 => ?_)
  have HK1 := Lib.hid hK1
  clear hK1 hS
  dsimp only [List.getElem_toArray, List.getElem_cons_succ, List.getElem_cons_zero]
  go_simp
  refine TS.go HK1.out growsR (fun hS => ?_)
  clear HK1 K1
  (try simp only [nS])
  refine TS.one (i := 16) (by kernel_rfl) rfl (fun K1 hK1 => ?_)
  refine step_append_lies _ rfl _ _ 60 rfl W0.heap.size 77 i0 _ 4 32 Tryz.underlying60 hi hz1 hz2 hz3 rfl (by decide) (.slice a1 kk c1) kk (insV (l.take kk)) rfl (own_grow9 HV1.out growsR) ⟨_, 0, none⟩ 1 1 [.int .i64 r, .int .i64 q, .int .i64 0, .int .i64 0] rfl rfl (news_cells _ [.int .i64 r, .int .i64 q, .int .i64 0, .int .i64 0] _ _ (by simp)) (by intro u hu; simp at hu; rcases hu with rfl | rfl | rfl | rfl <;> rfl) (by decide) (by unfold maxLen; have := HKN.out; have := HN5.out; omega) (by have := HKN.out; have := HN5.out; omega) (by have := HG1.out.below.size; simp; omega) _ rfl ?_
  intro g5 c5 w5 hown hgrow hgg hgl
  have HV5 := Lib.hid hown
  have HG5 := Lib.hid (World.Grows.grown (World.Grows.trans' HG1.out growsR) hgrow (fun k e => (HV1.out.lt k e).1) : W0.Grows w5)
  have HZ := Lib.hid (H0.out.grows HG5.out)
  refine hK1 _ _ (fun h => absurd (by decide) h) ?_
  clear hK1 K1 hown hgrow hgg hgl hS z0 z1 zl hb0 p1 p2 p3 hgI
  (try simp only [nS])
  refine TS.weB 17 ?_
  have z0 := HZ.out.c.c0
  have z1 := HZ.out.c.c1
  have zl := HZ.out.c.gW
  obtain ⟨hb0, p1, p2, p3⟩ := HPC.out w5 (World.Grows.trans' growsR HZ.out.c.gr)
  have hgI := (HZ.out.c.row.lt gI rfl).2
  have HCD : Hid (∀ j u, (insV (l.drop (kk)))[j]? = some u → w5.cell? ((⟨gI, (kk) * 4, none⟩ : Addr).add j) = some u) := Lib.hid (fun j u hj => by
    rw [addr9]
    refine HZ.out.c.cells HNL.out.symm _ u ?_
    rwa [insV_drop, List.getElem?_drop] at hj)
  have HLD : Hid ((insV (l.drop (kk))).length = (N - (kk)) * 4) := Lib.hid (by rw [insV_len, List.length_drop, HNL.out])
  go_wp2_with (at_builtin; refine wpList_append_own _ rfl _ _ 60 rfl W0.heap.size 77 i0 _ 4 32 Tryz.underlying60 hi hz1 hz2 hz3 rfl (by decide) (.slice (some ⟨g5, 0, none⟩) (kk + 1) c5) (kk + 1) (insV (l.take kk) ++ [.int .i64 r, .int .i64 q, .int .i64 0, .int .i64 0]) rfl HV5.out ⟨gI, kk * 4, none⟩ (N - kk) (ci - kk) (insV (l.drop kk)) rfl HLD.out HCD.out (insV_one _) (by unfold maxLen; have := HKN.out; have := HN5.out; omega) (by have := HKN.out; have := HN5.out; omega) HG5.out.below.size ?_; intro v2 w2 hv2 hg2 hv2n; obtain ⟨a2, c2, rfl, -, -⟩ := rowForm3 hv2; have HV2 := Lib.hid hv2; have HG2 := Lib.hid (World.Grows.grown HG5.out hg2 (fun k e => (HV5.out.lt k e).1) : W0.Grows w2); have HY := Lib.hid (H0.out.grows HG2.out); have y0 := HY.out.c.c0; have yf := HY.out.c.f 0; have yl := HY.out.c.gW; clear hv2 hg2 hv2n)
  all_goals exact hQ _ _ _ _ _ _ _ _ _ _ _ _ _ _ _ _ _ _ _ _ _ _ _ _ _ _ _ _ _ _ _ _ _ _ _ _ _ _ _ _ _ _ _ _ _ _ _ _ _ _ _ _ _ _ _ _ _ _ _ _ _ _ _ _ _ _ _ _ _ _ _ _ _ _ _ _ _ _ _ _ _ _ _ _ _ _ _ _ _ _ _ _ _ _ _ _ _ _ _ _ _ _ _ _ _ _ _ _ _ _ _ _ _ _ _ _ _ _ _ _ _ _ _ _ _ _ _ _ _ _ _ _ _ _ _ _ _ _ _ _ _ _ _ _ _ _ _ _ _ _ _ _ _ _ _ _ _ _ _ _ _ _ _ _ _ _ _ _ _ _ _ _ _ _ _ _ _ _ _ _ _ _ _ _ (Lib.hid (show SpSt (((w.alloc (.cells #[.slice ia n0 ic, .slice sa m0 sc] 63)).alloc (.cells #[.slice none 0 0, .slice none 0 0] 63))) base g n0 m0 (i + 1) (.slice a2 (kk + 1 + (N - kk)) c2) (.slice sa' sl.length sc') ((l.take kk ++ [⟨r, q, 0, 0⟩]) ++ l.drop kk) sl _ from by
    have hlen : ((l.take kk ++ [(⟨r, q, 0, 0⟩ : Ins)]) ++ l.drop kk).length = kk + 1 + (N - kk) := by rw [List.length_append, List.length_append, List.length_take, List.length_drop]; have := HKN.out; have := HNL.out; simp; omega
    have h := H0.out.c.newI HG2.out (v1 := .slice a2 (kk + 1 + (N - kk)) c2) (l1 := (l.take kk ++ [⟨r, q, 0, 0⟩]) ++ l.drop kk) (by unfold LRow; rw [hlen, insV_app, insV_app]; exact HV2.out)
    refine ⟨h.setI _, fun x hx => ?_, by rw [hlen]; have := H0.out.nl; have := HNL.out; have := HKN.out; omega, H0.out.ml, H0.out.sz⟩
    rcases List.mem_append.1 hx with hx | hx
    · rcases List.mem_append.1 hx with hx | hx
      · exact H0.out.ok x (List.mem_of_mem_take hx)
      · rw [List.mem_singleton] at hx; subst hx; exact ⟨⟨by show (-9223372036854775808 : Int) ≤ 0; decide, by show (0 : Int) ≤ 9223372036854775807; decide⟩, ⟨by show (-9223372036854775808 : Int) ≤ 0; decide, by show (0 : Int) ≤ 9223372036854775807; decide⟩⟩
    · exact H0.out.ok x (List.mem_of_mem_drop hx)))
end Go.Proofs.YtaghhncnicbedaaGreatDoor
