/- pensionmade.Spoil: pokes of an instruction. -/
import Derived.Test.YtaghhncnicbedaaGreatDoorSpA
set_option linter.all false
namespace Go.Proofs.YtaghhncnicbedaaGreatDoor
open Go.RowKit
set_option maxRecDepth 1000000 in
set_option maxHeartbeats 16000000 in
theorem spoil_k2 (w W0 : World) (ia sa sa' : Option Addr) (ic sc sc' n0 m0 pb po P pc base g gI ci N kk i : Nat) (l : List Ins) (sl : List ByteArray) (qa qk qn : Int) (HN : Hid (n0 ≤ 5000 ∧ m0 ≤ 100)) (HNL : Hid (l.length = N)) (HKN : Hid (kk < N)) (HCI : Hid (N ≤ ci)) (HI3 : Hid (i < P ∧ i < 3)) (HN5 : Hid (N ≤ 5003)) (H0 : Hid (SpSt (((w.alloc (.cells #[.slice ia n0 ic, .slice sa m0 sc] 63)).alloc (.cells #[.slice none 0 0, .slice none 0 0] 63))) base g n0 m0 i (.slice (some ⟨gI, 0, none⟩) N ci) (.slice sa' sl.length sc') l sl W0))
    (HPC : Hid (∀ W, w.Grows W → pb < W.heap.size ∧ W.cell? ⟨pb, po + i * 3, none⟩ = some (.int .i64 qa) ∧ W.cell? ⟨pb, po + i * 3 + 1, none⟩ = some (.int .i64 qk) ∧ W.cell? ⟨pb, po + i * 3 + 2, none⟩ = some (.int .i64 qn)))
    (x8 x9 x10 x11 x12 x13 x14 x15 x16 x17 x18 x19 x20 x21 x22 x23 x24 x25 x26 x27 x28 x29 x30 x31 x32 x33 x34 x35 x36 x37 x38 x39 x40 x41 x42 x43 x44 x45 x46 x48 x49 x50 x51 x52 x53 x54 x55 x56 x57 x58 x59 x60 x61 x62 x63 x64 x65 x66 x67 x68 x69 x70 x71 x72 x73 x74 x75 x76 x77 x78 x79 x80 x81 x82 x83 x84 x85 x86 x87 x88 x89 x90 x91 x92 x93 x94 x95 x96 x97 x98 x99 x100 x101 x102 x103 x104 x105 x106 x107 x108 x109 x110 x111 x112 x113 x114 x115 x116 x117 x118 x119 x120 x121 x122 x123 x124 x125 x126 x127 x128 x129 x130 x131 x132 x133 x134 x135 x136 x137 x138 x139 x140 x141 x142 x143 x144 x145 x146 x147 x148 x149 x150 x151 x152 x153 x154 x155 x156 x157 x158 x159 x160 x161 x162 x163 x164 x165 x166 x167 x168 x169 x170 x171 x172 x173 x174 x175 x176 x177 x178 x179 x180 x181 x182 x183 x184 x185 x186 x187 x188 x189 x190 x191 x192 x193 : Value) (Q : Exit → Act → World → Prop) (hpan : ∀ (c) (a : Act) (d : Nat) (v : Value) (w : World), Q (.panic c) (a.put (some d) v) w → Q (.panic c) a w) (hQ : ∀ (vI vS : Value) (l' : List Ins) (sl' : List ByteArray) (y7 y8 y9 y17 y18 y19 y20 y21 y22 y23 y24 y25 y26 y27 y28 y29 y30 y31 y32 y33 y34 y35 y36 y37 y38 y39 y40 y41 y42 y43 y44 y45 y46 y47 y48 y49 y50 y51 y52 y53 y54 y55 y56 y57 y58 y59 y60 y61 y62 y63 y64 y65 y66 y67 y68 y69 y70 y71 y72 y73 y74 y75 y76 y77 y78 y79 y80 y81 y82 y83 y84 y85 y86 y87 y88 y89 y90 y91 y92 y93 y94 y95 y96 y97 y98 y99 y100 y101 y102 y103 y104 y105 y106 y107 y108 y109 y110 y111 y112 y113 y114 y115 y116 y117 y118 y119 y120 y121 y122 y123 y124 y125 y126 y127 y128 y129 y130 y131 y132 y133 y134 y135 y136 y137 y138 y139 y140 y141 y142 y143 y144 y145 y146 y147 y148 y149 y150 y151 y152 y153 y154 y155 y156 y157 y158 y159 y160 y161 y162 y163 y164 y165 y166 y167 y168 y169 y170 y171 y172 y173 y174 y175 y176 y177 y178 y179 y180 y181 y182 y183 y184 y185 y186 y187 y188 y189 y190 y191 y192 : Value) (W' : World), Hid (SpSt (((w.alloc (.cells #[.slice ia n0 ic, .slice sa m0 sc] 63)).alloc (.cells #[.slice none 0 0, .slice none 0 0] 63))) base g n0 m0 (i + 1) vI vS l' sl' W') → Q .normal { tmps := #[.agg #[.slice ia n0 ic, .slice sa m0 sc], .slice (some ⟨pb, po, none⟩) P pc, .pointer (some ⟨w.heap.size, 0, none⟩), undef, .pointer (some ⟨w.heap.size + 1, 0, none⟩), .pointer (some ⟨g, 0, none⟩), .int .i64 i, y7, y8, y9, x10, x11, x12, x13, x14, x15, x16, y17, y18, y19, y20, y21, y22, y23, y24, y25, y26, y27, y28, y29, y30, y31, y32, y33, y34, y35, y36, y37, y38, y39, y40, y41, y42, y43, y44, y45, y46, y47, y48, y49, y50, y51, y52, y53, y54, y55, y56, y57, y58, y59, y60, y61, y62, y63, y64, y65, y66, y67, y68, y69, y70, y71, y72, y73, y74, y75, y76, y77, y78, y79, y80, y81, y82, y83, y84, y85, y86, y87, y88, y89, y90, y91, y92, y93, y94, y95, y96, y97, y98, y99, y100, y101, y102, y103, y104, y105, y106, y107, y108, y109, y110, y111, y112, y113, y114, y115, y116, y117, y118, y119, y120, y121, y122, y123, y124, y125, y126, y127, y128, y129, y130, y131, y132, y133, y134, y135, y136, y137, y138, y139, y140, y141, y142, y143, y144, y145, y146, y147, y148, y149, y150, y151, y152, y153, y154, y155, y156, y157, y158, y159, y160, y161, y162, y163, y164, y165, y166, y167, y168, y169, y170, y171, y172, y173, y174, y175, y176, y177, y178, y179, y180, y181, y182, y183, y184, y185, y186, y187, y188, y189, y190, y191, y192, x193], defers := [] } W') :
    Code.wp Tryz.prog (sq2 (sq2 (blk9 (sq1 (sq2 (lop9 (blk9 (sq2 (sq1 (sq2 (sq2 (Tryz.f19.body.getD .skip))))))))))))  Q { tmps := #[.agg #[.slice ia n0 ic, .slice sa m0 sc], .slice (some ⟨pb, po, none⟩) P pc, .pointer (some ⟨w.heap.size, 0, none⟩), undef, .pointer (some ⟨w.heap.size + 1, 0, none⟩), .pointer (some ⟨g, 0, none⟩), .int .i64 i, .int .i64 kk, x8, x9, x10, x11, x12, x13, x14, x15, x16, x17, x18, x19, x20, x21, x22, x23, x24, x25, x26, x27, x28, x29, x30, x31, x32, x33, x34, x35, x36, x37, x38, x39, x40, x41, x42, x43, x44, x45, x46, .int .i64 2, x48, x49, x50, x51, x52, x53, x54, x55, x56, x57, x58, x59, x60, x61, x62, x63, x64, x65, x66, x67, x68, x69, x70, x71, x72, x73, x74, x75, x76, x77, x78, x79, x80, x81, x82, x83, x84, x85, x86, x87, x88, x89, x90, x91, x92, x93, x94, x95, x96, x97, x98, x99, x100, x101, x102, x103, x104, x105, x106, x107, x108, x109, x110, x111, x112, x113, x114, x115, x116, x117, x118, x119, x120, x121, x122, x123, x124, x125, x126, x127, x128, x129, x130, x131, x132, x133, x134, x135, x136, x137, x138, x139, x140, x141, x142, x143, x144, x145, x146, x147, x148, x149, x150, x151, x152, x153, x154, x155, x156, x157, x158, x159, x160, x161, x162, x163, x164, x165, x166, x167, x168, x169, x170, x171, x172, x173, x174, x175, x176, x177, x178, x179, x180, x181, x182, x183, x184, x185, x186, x187, x188, x189, x190, x191, x192, x193], defers := [] } W0 := by
  obtain ⟨i0, hi, hz1, hz2, hz3⟩ := info_parts infoIn
  have z0 := H0.out.c.c0
  have z1 := H0.out.c.c1
  have zl := H0.out.c.gW
  obtain ⟨hb0, p1, p2, p3⟩ := HPC.out W0 (World.Grows.trans' growsR H0.out.c.gr)
  have hgI := (H0.out.c.row.lt gI rfl).2
  have d1 : (i : Int) < (P : Int) := by have := HI3.out; omega
  have d0 : (0 : Int) ≤ (i : Int) := by omega
  have d2 : (i : Int) < 3 := by have := HI3.out; omega
  have e0 : (0 : Int) ≤ (kk : Int) := by omega
  have e1 : (kk : Int) < (N : Int) := by have := HKN.out; omega
  have d3 : (0 : Int) < (N : Int) := by omega
  have hN6 : (N : Int) ≤ 5003 := by have := HN5.out; omega
  have hw3 : IntKind.i64.wrap ((N : Int) + 3) = (N : Int) + 3 := IntWalk.i64_in _ (by omega)
  have HP26 := Lib.hid (hpx9 26 (by omega) (by omega))
  have HP9 := Lib.hid (hpx9 9 (by omega) (by omega))
  have HP4 := Lib.hid (hpx9 4 (by omega) (by omega))
  have HP5 := Lib.hid (hpx9 5 (by omega) (by omega))
  have HP6 := Lib.hid (hpx9 6 (by omega) (by omega))
  have HPN3 := Lib.hid (hpx9 ((N : Int) + 3) (by omega) (by omega))
  conv => arg 2; whnf
  go_upto_region 12 with fail
  refine TS.begin [20] (World.Grows W0) (by kernel_rfl) (by kernel_rfl) grows_drew0 (fun hS => ?_)
  refine TS.takeV (i := 0) (v := ?_) rfl (by kernel_rfl) (by kernel_rfl) (by kernel_rfl) (by decide) (fun _ _ _ h => hpan _ _ _ _ _ h) rfl hS ?_ ?_
  rotate_left
  focus
    rintro wS ⟨gbS, gdS, rfl⟩
    go_simp
    rfl
  (try simp only [nS])
  refine TS.takeV (i := 1) (v := ?_) rfl (by kernel_rfl) (by kernel_rfl) (by kernel_rfl) (by decide) (fun _ _ _ h => hpan _ _ _ _ _ h) rfl hS ?_ ?_
  rotate_left
  focus
    rintro wS ⟨gbS, gdS, rfl⟩
    go_simp
    rfl
  (try simp only [nS])
  refine TS.takeV (i := 2) (v := ?_) rfl (by kernel_rfl) (by kernel_rfl) (by kernel_rfl) (by decide) (fun _ _ _ h => hpan _ _ _ _ _ h) rfl hS ?_ ?_
  rotate_left
  focus
    rintro wS ⟨gbS, gdS, rfl⟩
    go_simp
    rfl
  (try simp only [nS])
  refine TS.takeV (i := 3) (v := ?_) rfl (by kernel_rfl) (by kernel_rfl) (by kernel_rfl) (by decide) (fun _ _ _ h => hpan _ _ _ _ _ h) rfl hS ?_ ?_
  rotate_left
  focus
    rintro wS ⟨gbS, gdS, rfl⟩
    go_simp
    rfl
  (try simp only [nS])
  refine TS.takeV (i := 4) (v := ?_) rfl (by kernel_rfl) (by kernel_rfl) (by kernel_rfl) (by decide) (fun _ _ _ h => hpan _ _ _ _ _ h) rfl hS ?_ ?_
  rotate_left
  focus
    rintro wS ⟨gbS, gdS, rfl⟩
    go_simp
    rfl
  (try simp only [nS])
  refine TS.takeV (i := 5) (v := ?_) rfl (by kernel_rfl) (by kernel_rfl) (by kernel_rfl) (by decide) (fun _ _ _ h => hpan _ _ _ _ _ h) rfl hS ?_ ?_
  rotate_left
  focus
    rintro wS ⟨gbS, gdS, rfl⟩
    go_simp
    rfl
  (try simp only [nS])
  refine TS.takeV (i := 6) (v := ?_) rfl (by kernel_rfl) (by kernel_rfl) (by kernel_rfl) (by decide) (fun _ _ _ h => hpan _ _ _ _ _ h) rfl hS ?_ ?_
  rotate_left
  focus
    rintro wS ⟨gbS, gdS, rfl⟩
    go_simp
    rfl
  (try simp only [nS])
  refine TS.takeV (i := 7) (v := ?_) rfl (by kernel_rfl) (by kernel_rfl) (by kernel_rfl) (by decide) (fun _ _ _ h => hpan _ _ _ _ _ h) rfl hS ?_ ?_
  rotate_left
  focus
    rintro wS ⟨gbS, gdS, rfl⟩
    go_simp
    rfl
  (try simp only [nS])
  refine TS.takeV (i := 10) (v := ?_) rfl (by kernel_rfl) (by kernel_rfl) (by kernel_rfl) (by decide) (fun _ _ _ h => hpan _ _ _ _ _ h) rfl hS ?_ ?_
  rotate_left
  focus
    rintro wS ⟨gbS, gdS, rfl⟩
    go_simp
    rfl
  (try simp only [nS])
  refine TS.takeV (i := 11) (v := ?_) rfl (by kernel_rfl) (by kernel_rfl) (by kernel_rfl) (by decide) (fun _ _ _ h => hpan _ _ _ _ _ h) rfl hS ?_ ?_
  rotate_left
  focus
    rintro wS ⟨gbS, gdS, rfl⟩
    go_simp
    rfl
  (try simp only [nS])
  refine TS.takeV (i := 12) (v := ?_) rfl (by kernel_rfl) (by kernel_rfl) (by kernel_rfl) (by decide) (fun _ _ _ h => hpan _ _ _ _ _ h) rfl hS ?_ ?_
  rotate_left
  focus
    rintro wS ⟨gbS, gdS, rfl⟩
    go_simp
    rfl
  (try simp only [nS])
  refine TS.takeV (i := 13) (v := ?_) rfl (by kernel_rfl) (by kernel_rfl) (by kernel_rfl) (by decide) (fun _ _ _ h => hpan _ _ _ _ _ h) rfl hS ?_ ?_
  rotate_left
  focus
    rintro wS ⟨gbS, gdS, rfl⟩
    go_simp
    rfl
  (try simp only [nS])
  refine TS.takeV (i := 14) (v := ?_) rfl (by kernel_rfl) (by kernel_rfl) (by kernel_rfl) (by decide) (fun _ _ _ h => hpan _ _ _ _ _ h) rfl hS ?_ ?_
  rotate_left
  focus
    rintro wS ⟨gbS, gdS, rfl⟩
    go_simp
    rfl
  (try simp only [nS])
  refine TS.takeV (i := 15) (v := ?_) rfl (by kernel_rfl) (by kernel_rfl) (by kernel_rfl) (by decide) (fun _ _ _ h => hpan _ _ _ _ _ h) rfl hS ?_ ?_
  rotate_left
  focus
    rintro wS ⟨gbS, gdS, rfl⟩
    go_simp
    rfl
  (try simp only [nS])
  refine TS.one (i := 8) (by kernel_rfl) rfl (fun K1 hK1 => ?_)
  have HK1 := Lib.hid hK1
  clear hK1 hS
  dsimp only [List.getElem_toArray, List.getElem_cons_succ, List.getElem_cons_zero]
  go_simp
  go_at_call 13
  refine (HP9.out _ _).mono ?_
  rintro e' w' ⟨r, rfl, ⟨hr0, hr1⟩, rfl⟩
  refine TS.go HK1.out growsR (fun hS => ?_)
  clear HK1 K1
  (try simp only [nS])
  have hwr : IntKind.i64.wrap (r - 3) = r - 3 := IntWalk.i64_in _ (by omega)
  refine TS.takeV (i := 9) (v := ?_) rfl (by kernel_rfl) (by kernel_rfl) (by kernel_rfl) (by decide) (fun _ _ _ h => hpan _ _ _ _ _ h) rfl hS ?_ ?_
  rotate_left
  focus
    rintro wS ⟨gbS, gdS, rfl⟩
    go_simp
    rfl
  (try simp only [nS])
  refine TS.one (i := 16) (by kernel_rfl) rfl (fun K1 hK1 => ?_)
  have HK1 := Lib.hid hK1
  clear hK1 hS
  dsimp only [List.getElem_toArray, List.getElem_cons_succ, List.getElem_cons_zero]
  go_simp
  go_at_call 13
  refine (HP4.out _ _).mono ?_
  rintro e' w' ⟨q, rfl, ⟨hq0, hq1⟩, rfl⟩
  refine TS.go HK1.out growsR (fun hS => ?_)
  clear HK1 K1
  (try simp only [nS])
  refine TS.takeV (i := 17) (v := ?_) rfl (by kernel_rfl) (by kernel_rfl) (by kernel_rfl) (by decide) (fun _ _ _ h => hpan _ _ _ _ _ h) rfl hS ?_ ?_
  rotate_left
  focus
    rintro wS ⟨gbS, gdS, rfl⟩
    go_simp
    rfl
  (try simp only [nS])
  refine TS.takeV (i := 18) (v := ?_) rfl (by kernel_rfl) (by kernel_rfl) (by kernel_rfl) (by decide) (fun _ _ _ h => hpan _ _ _ _ _ h) rfl hS ?_ ?_
  rotate_left
  focus
    rintro wS ⟨gbS, gdS, rfl⟩
    go_simp
    rfl
  (try simp only [nS])
  refine TS.takeV (i := 19) (v := ?_) rfl (by kernel_rfl) (by kernel_rfl) (by kernel_rfl) (by decide) (fun _ _ _ h => hpan _ _ _ _ _ h) rfl hS ?_ ?_
  rotate_left
  focus
    rintro wS ⟨gbS, gdS, rfl⟩
    go_simp
    rfl
  (try simp only [nS])
  obtain ⟨⟨u0, y0⟩, yf⟩ := H0.out.c.cellI HNL.out.symm (kk * 4 + 2) (by have := HKN.out; have := HNL.out; omega)
  obtain ⟨⟨u1, y1⟩, yf1⟩ := H0.out.c.cellI HNL.out.symm (kk * 4 + 3) (by have := HKN.out; have := HNL.out; omega)
  have hmk : ∃ l1, SpSt (((w.alloc (.cells #[.slice ia n0 ic, .slice sa m0 sc] 63)).alloc (.cells #[.slice none 0 0, .slice none 0 0] 63))) base g n0 m0 (i + 1) (.slice (some ⟨gI, 0, none⟩) N ci) (.slice sa' sl.length sc') l1 sl ((W0.setCell ⟨gI, kk * 4 + 2, none⟩ (.int .i64 (r - 3))).setCell ⟨gI, kk * 4 + 3, none⟩ (.int .i64 q)) := by
    have hlt : kk < l.length := by have := HKN.out; have := HNL.out; omega
    have h1 := H0.out.c.poke HNL.out.symm _ _ (insV_set2 l kk (r - 3) hlt) (by simp)
    have h2 := h1.poke (by have := HNL.out; simp; omega) _ _ (insV_set3 (l.set kk { l.getD kk default with n := r - 3 }) kk q (by simpa using hlt)) (by simp)
    refine ⟨_, h2, ?_, by simp; have := H0.out.nl; omega, H0.out.ml, H0.out.sz⟩
    have o1 : InsOk (l.set kk { l.getD kk default with n := r - 3 }) := H0.out.ok.set kk ⟨⟨by show -9223372036854775808 ≤ r - 3; omega, by show r - 3 ≤ 9223372036854775807; omega⟩, (H0.out.ok.at kk).2⟩
    exact o1.set kk ⟨(o1.at kk).1, ⟨by show -9223372036854775808 ≤ q; omega, by show q ≤ 9223372036854775807; omega⟩⟩
  have HMK := Lib.hid hmk
  clear hmk
  refine TS.weB 20 ?_
  clear y0 yf y1 yf1
  go_wp2_with fail
  obtain ⟨l1, h⟩ := HMK.out
  exact hQ _ _ _ _ _ _ _ _ _ _ _ _ _ _ _ _ _ _ _ _ _ _ _ _ _ _ _ _ _ _ _ _ _ _ _ _ _ _ _ _ _ _ _ _ _ _ _ _ _ _ _ _ _ _ _ _ _ _ _ _ _ _ _ _ _ _ _ _ _ _ _ _ _ _ _ _ _ _ _ _ _ _ _ _ _ _ _ _ _ _ _ _ _ _ _ _ _ _ _ _ _ _ _ _ _ _ _ _ _ _ _ _ _ _ _ _ _ _ _ _ _ _ _ _ _ _ _ _ _ _ _ _ _ _ _ _ _ _ _ _ _ _ _ _ _ _ _ _ _ _ _ _ _ _ _ _ _ _ _ _ _ _ _ _ _ _ _ _ _ _ _ _ _ _ _ _ _ _ _ _ _ _ _ _ (Lib.hid (h.grows grows_drew0))
set_option maxRecDepth 1000000 in
set_option maxHeartbeats 16000000 in
theorem spoil_k5 (w W0 : World) (ia sa sa' : Option Addr) (ic sc sc' n0 m0 pb po P pc base g gI ci N kk i : Nat) (l : List Ins) (sl : List ByteArray) (qa qk qn : Int) (HN : Hid (n0 ≤ 5000 ∧ m0 ≤ 100)) (HNL : Hid (l.length = N)) (HKN : Hid (kk < N)) (HCI : Hid (N ≤ ci)) (HI3 : Hid (i < P ∧ i < 3)) (HN5 : Hid (N ≤ 5003)) (H0 : Hid (SpSt (((w.alloc (.cells #[.slice ia n0 ic, .slice sa m0 sc] 63)).alloc (.cells #[.slice none 0 0, .slice none 0 0] 63))) base g n0 m0 i (.slice (some ⟨gI, 0, none⟩) N ci) (.slice sa' sl.length sc') l sl W0))
    (HPC : Hid (∀ W, w.Grows W → pb < W.heap.size ∧ W.cell? ⟨pb, po + i * 3, none⟩ = some (.int .i64 qa) ∧ W.cell? ⟨pb, po + i * 3 + 1, none⟩ = some (.int .i64 qk) ∧ W.cell? ⟨pb, po + i * 3 + 2, none⟩ = some (.int .i64 qn)))
    (x8 x9 x10 x11 x12 x13 x14 x15 x16 x17 x18 x19 x20 x21 x22 x23 x24 x25 x26 x27 x28 x29 x30 x31 x32 x33 x34 x35 x36 x37 x38 x39 x40 x41 x42 x43 x44 x45 x46 x48 x49 x50 x51 x52 x53 x54 x55 x56 x57 x58 x59 x60 x61 x62 x63 x64 x65 x66 x67 x68 x69 x70 x71 x72 x73 x74 x75 x76 x77 x78 x79 x80 x81 x82 x83 x84 x85 x86 x87 x88 x89 x90 x91 x92 x93 x94 x95 x96 x97 x98 x99 x100 x101 x102 x103 x104 x105 x106 x107 x108 x109 x110 x111 x112 x113 x114 x115 x116 x117 x118 x119 x120 x121 x122 x123 x124 x125 x126 x127 x128 x129 x130 x131 x132 x133 x134 x135 x136 x137 x138 x139 x140 x141 x142 x143 x144 x145 x146 x147 x148 x149 x150 x151 x152 x153 x154 x155 x156 x157 x158 x159 x160 x161 x162 x163 x164 x165 x166 x167 x168 x169 x170 x171 x172 x173 x174 x175 x176 x177 x178 x179 x180 x181 x182 x183 x184 x185 x186 x187 x188 x189 x190 x191 x192 x193 : Value) (Q : Exit → Act → World → Prop) (hpan : ∀ (c) (a : Act) (d : Nat) (v : Value) (w : World), Q (.panic c) (a.put (some d) v) w → Q (.panic c) a w) (hQ : ∀ (vI vS : Value) (l' : List Ins) (sl' : List ByteArray) (y7 y8 y9 y17 y18 y19 y20 y21 y22 y23 y24 y25 y26 y27 y28 y29 y30 y31 y32 y33 y34 y35 y36 y37 y38 y39 y40 y41 y42 y43 y44 y45 y46 y47 y48 y49 y50 y51 y52 y53 y54 y55 y56 y57 y58 y59 y60 y61 y62 y63 y64 y65 y66 y67 y68 y69 y70 y71 y72 y73 y74 y75 y76 y77 y78 y79 y80 y81 y82 y83 y84 y85 y86 y87 y88 y89 y90 y91 y92 y93 y94 y95 y96 y97 y98 y99 y100 y101 y102 y103 y104 y105 y106 y107 y108 y109 y110 y111 y112 y113 y114 y115 y116 y117 y118 y119 y120 y121 y122 y123 y124 y125 y126 y127 y128 y129 y130 y131 y132 y133 y134 y135 y136 y137 y138 y139 y140 y141 y142 y143 y144 y145 y146 y147 y148 y149 y150 y151 y152 y153 y154 y155 y156 y157 y158 y159 y160 y161 y162 y163 y164 y165 y166 y167 y168 y169 y170 y171 y172 y173 y174 y175 y176 y177 y178 y179 y180 y181 y182 y183 y184 y185 y186 y187 y188 y189 y190 y191 y192 : Value) (W' : World), Hid (SpSt (((w.alloc (.cells #[.slice ia n0 ic, .slice sa m0 sc] 63)).alloc (.cells #[.slice none 0 0, .slice none 0 0] 63))) base g n0 m0 (i + 1) vI vS l' sl' W') → Q .normal { tmps := #[.agg #[.slice ia n0 ic, .slice sa m0 sc], .slice (some ⟨pb, po, none⟩) P pc, .pointer (some ⟨w.heap.size, 0, none⟩), undef, .pointer (some ⟨w.heap.size + 1, 0, none⟩), .pointer (some ⟨g, 0, none⟩), .int .i64 i, y7, y8, y9, x10, x11, x12, x13, x14, x15, x16, y17, y18, y19, y20, y21, y22, y23, y24, y25, y26, y27, y28, y29, y30, y31, y32, y33, y34, y35, y36, y37, y38, y39, y40, y41, y42, y43, y44, y45, y46, y47, y48, y49, y50, y51, y52, y53, y54, y55, y56, y57, y58, y59, y60, y61, y62, y63, y64, y65, y66, y67, y68, y69, y70, y71, y72, y73, y74, y75, y76, y77, y78, y79, y80, y81, y82, y83, y84, y85, y86, y87, y88, y89, y90, y91, y92, y93, y94, y95, y96, y97, y98, y99, y100, y101, y102, y103, y104, y105, y106, y107, y108, y109, y110, y111, y112, y113, y114, y115, y116, y117, y118, y119, y120, y121, y122, y123, y124, y125, y126, y127, y128, y129, y130, y131, y132, y133, y134, y135, y136, y137, y138, y139, y140, y141, y142, y143, y144, y145, y146, y147, y148, y149, y150, y151, y152, y153, y154, y155, y156, y157, y158, y159, y160, y161, y162, y163, y164, y165, y166, y167, y168, y169, y170, y171, y172, y173, y174, y175, y176, y177, y178, y179, y180, y181, y182, y183, y184, y185, y186, y187, y188, y189, y190, y191, y192, x193], defers := [] } W') :
    Code.wp Tryz.prog (sq2 (sq2 (blk9 (sq1 (sq2 (lop9 (blk9 (sq2 (sq1 (sq2 (sq2 (Tryz.f19.body.getD .skip))))))))))))  Q { tmps := #[.agg #[.slice ia n0 ic, .slice sa m0 sc], .slice (some ⟨pb, po, none⟩) P pc, .pointer (some ⟨w.heap.size, 0, none⟩), undef, .pointer (some ⟨w.heap.size + 1, 0, none⟩), .pointer (some ⟨g, 0, none⟩), .int .i64 i, .int .i64 kk, x8, x9, x10, x11, x12, x13, x14, x15, x16, x17, x18, x19, x20, x21, x22, x23, x24, x25, x26, x27, x28, x29, x30, x31, x32, x33, x34, x35, x36, x37, x38, x39, x40, x41, x42, x43, x44, x45, x46, .int .i64 5, x48, x49, x50, x51, x52, x53, x54, x55, x56, x57, x58, x59, x60, x61, x62, x63, x64, x65, x66, x67, x68, x69, x70, x71, x72, x73, x74, x75, x76, x77, x78, x79, x80, x81, x82, x83, x84, x85, x86, x87, x88, x89, x90, x91, x92, x93, x94, x95, x96, x97, x98, x99, x100, x101, x102, x103, x104, x105, x106, x107, x108, x109, x110, x111, x112, x113, x114, x115, x116, x117, x118, x119, x120, x121, x122, x123, x124, x125, x126, x127, x128, x129, x130, x131, x132, x133, x134, x135, x136, x137, x138, x139, x140, x141, x142, x143, x144, x145, x146, x147, x148, x149, x150, x151, x152, x153, x154, x155, x156, x157, x158, x159, x160, x161, x162, x163, x164, x165, x166, x167, x168, x169, x170, x171, x172, x173, x174, x175, x176, x177, x178, x179, x180, x181, x182, x183, x184, x185, x186, x187, x188, x189, x190, x191, x192, x193], defers := [] } W0 := by
  obtain ⟨i0, hi, hz1, hz2, hz3⟩ := info_parts infoIn
  have z0 := H0.out.c.c0
  have z1 := H0.out.c.c1
  have zl := H0.out.c.gW
  obtain ⟨hb0, p1, p2, p3⟩ := HPC.out W0 (World.Grows.trans' growsR H0.out.c.gr)
  have hgI := (H0.out.c.row.lt gI rfl).2
  have d1 : (i : Int) < (P : Int) := by have := HI3.out; omega
  have d0 : (0 : Int) ≤ (i : Int) := by omega
  have d2 : (i : Int) < 3 := by have := HI3.out; omega
  have e0 : (0 : Int) ≤ (kk : Int) := by omega
  have e1 : (kk : Int) < (N : Int) := by have := HKN.out; omega
  have d3 : (0 : Int) < (N : Int) := by omega
  have hN6 : (N : Int) ≤ 5003 := by have := HN5.out; omega
  have hw3 : IntKind.i64.wrap ((N : Int) + 3) = (N : Int) + 3 := IntWalk.i64_in _ (by omega)
  have HP26 := Lib.hid (hpx9 26 (by omega) (by omega))
  have HP9 := Lib.hid (hpx9 9 (by omega) (by omega))
  have HP4 := Lib.hid (hpx9 4 (by omega) (by omega))
  have HP5 := Lib.hid (hpx9 5 (by omega) (by omega))
  have HP6 := Lib.hid (hpx9 6 (by omega) (by omega))
  have HPN3 := Lib.hid (hpx9 ((N : Int) + 3) (by omega) (by omega))
  conv => arg 2; whnf
  go_upto_region 21 with fail
  refine TS.begin [16] (World.Grows W0) (by kernel_rfl) (by kernel_rfl) grows_drew0 (fun hS => ?_)
  have ya := H0.out.c.cellA HNL.out.symm kk (by have := HKN.out; have := HNL.out; omega)
  obtain ⟨za, hza⟩ : ∃ z, (l.getD kk default).a = z := ⟨_, rfl⟩
  rw [hza] at ya
  refine TS.takeV (i := 0) (v := ?_) rfl (by kernel_rfl) (by kernel_rfl) (by kernel_rfl) (by decide) (fun _ _ _ h => hpan _ _ _ _ _ h) rfl hS ?_ ?_
  rotate_left
  focus
    rintro wS ⟨gbS, gdS, rfl⟩
    go_simp
    rfl
  (try simp only [nS])
  refine TS.takeV (i := 1) (v := ?_) rfl (by kernel_rfl) (by kernel_rfl) (by kernel_rfl) (by decide) (fun _ _ _ h => hpan _ _ _ _ _ h) rfl hS ?_ ?_
  rotate_left
  focus
    rintro wS ⟨gbS, gdS, rfl⟩
    go_simp
    rfl
  (try simp only [nS])
  refine TS.takeV (i := 2) (v := ?_) rfl (by kernel_rfl) (by kernel_rfl) (by kernel_rfl) (by decide) (fun _ _ _ h => hpan _ _ _ _ _ h) rfl hS ?_ ?_
  rotate_left
  focus
    rintro wS ⟨gbS, gdS, rfl⟩
    go_simp
    rfl
  (try simp only [nS])
  refine TS.takeV (i := 3) (v := ?_) rfl (by kernel_rfl) (by kernel_rfl) (by kernel_rfl) (by decide) (fun _ _ _ h => hpan _ _ _ _ _ h) rfl hS ?_ ?_
  rotate_left
  focus
    rintro wS ⟨gbS, gdS, rfl⟩
    go_simp
    rfl
  (try simp only [nS])
  refine TS.takeV (i := 4) (v := ?_) rfl (by kernel_rfl) (by kernel_rfl) (by kernel_rfl) (by decide) (fun _ _ _ h => hpan _ _ _ _ _ h) rfl hS ?_ ?_
  rotate_left
  focus
    rintro wS ⟨gbS, gdS, rfl⟩
    go_simp
    rfl
  (try simp only [nS])
  refine TS.takeV (i := 5) (v := ?_) rfl (by kernel_rfl) (by kernel_rfl) (by kernel_rfl) (by decide) (fun _ _ _ h => hpan _ _ _ _ _ h) rfl hS ?_ ?_
  rotate_left
  focus
    rintro wS ⟨gbS, gdS, rfl⟩
    go_simp
    rfl
  (try simp only [nS])
  refine TS.takeV (i := 6) (v := ?_) rfl (by kernel_rfl) (by kernel_rfl) (by kernel_rfl) (by decide) (fun _ _ _ h => hpan _ _ _ _ _ h) rfl hS ?_ ?_
  rotate_left
  focus
    rintro wS ⟨gbS, gdS, rfl⟩
    go_simp
    rfl
  (try simp only [nS])
  refine TS.takeV (i := 7) (v := ?_) rfl (by kernel_rfl) (by kernel_rfl) (by kernel_rfl) (by decide) (fun _ _ _ h => hpan _ _ _ _ _ h) rfl hS ?_ ?_
  rotate_left
  focus
    rintro wS ⟨gbS, gdS, rfl⟩
    go_simp
    rfl
  (try simp only [nS])
  refine TS.takeV (i := 8) (v := ?_) rfl (by kernel_rfl) (by kernel_rfl) (by kernel_rfl) (by decide) (fun _ _ _ h => hpan _ _ _ _ _ h) rfl hS ?_ ?_
  rotate_left
  focus
    rintro wS ⟨gbS, gdS, rfl⟩
    go_simp
    rfl
  (try simp only [nS])
  refine TS.takeV (i := 9) (v := ?_) rfl (by kernel_rfl) (by kernel_rfl) (by kernel_rfl) (by decide) (fun _ _ _ h => hpan _ _ _ _ _ h) rfl hS ?_ ?_
  rotate_left
  focus
    rintro wS ⟨gbS, gdS, rfl⟩
    go_simp
    rfl
  (try simp only [nS])
  refine TS.takeV (i := 10) (v := ?_) rfl (by kernel_rfl) (by kernel_rfl) (by kernel_rfl) (by decide) (fun _ _ _ h => hpan _ _ _ _ _ h) rfl hS ?_ ?_
  rotate_left
  focus
    rintro wS ⟨gbS, gdS, rfl⟩
    go_simp
    rfl
  (try simp only [nS])
  refine TS.one (i := 11) (by kernel_rfl) rfl (fun K1 hK1 => ?_)
  have HK1 := Lib.hid hK1
  clear hK1 hS
  dsimp only [List.getElem_toArray, List.getElem_cons_succ, List.getElem_cons_zero]
  go_simp
  go_at_call 13
  refine (HP5.out _ _).mono ?_
  rintro e' w' ⟨r, rfl, ⟨hr0, hr1⟩, rfl⟩
  refine TS.go HK1.out growsR (fun hS => ?_)
  clear HK1 K1
  (try simp only [nS])
  refine TS.takeV (i := 12) (v := ?_) rfl (by kernel_rfl) (by kernel_rfl) (by kernel_rfl) (by decide) (fun _ _ _ h => hpan _ _ _ _ _ h) rfl hS ?_ ?_
  rotate_left
  focus
    rintro wS ⟨gbS, gdS, rfl⟩
    go_simp
    rfl
  (try simp only [nS])
  refine TS.takeV (i := 13) (v := ?_) rfl (by kernel_rfl) (by kernel_rfl) (by kernel_rfl) (by decide) (fun _ _ _ h => hpan _ _ _ _ _ h) rfl hS ?_ ?_
  rotate_left
  focus
    rintro wS ⟨gbS, gdS, rfl⟩
    go_simp
    rfl
  (try simp only [nS])
  refine TS.takeV (i := 14) (v := ?_) rfl (by kernel_rfl) (by kernel_rfl) (by kernel_rfl) (by decide) (fun _ _ _ h => hpan _ _ _ _ _ h) rfl hS ?_ ?_
  rotate_left
  focus
    rintro wS ⟨gbS, gdS, rfl⟩
    go_simp
    rfl
  (try simp only [nS])
  refine TS.takeV (i := 15) (v := ?_) rfl (by kernel_rfl) (by kernel_rfl) (by kernel_rfl) (by decide) (fun _ _ _ h => hpan _ _ _ _ _ h) rfl hS ?_ ?_
  rotate_left
  focus
    rintro wS ⟨gbS, gdS, rfl⟩
    go_simp
    rfl
  (try simp only [nS])
  obtain ⟨⟨u0, y0⟩, yf⟩ := H0.out.c.cellI HNL.out.symm (kk * 4 + 1) (by have := HKN.out; have := HNL.out; omega)
  have hmk : ∀ z W, W0.Grows W → SpSt (((w.alloc (.cells #[.slice ia n0 ic, .slice sa m0 sc] 63)).alloc (.cells #[.slice none 0 0, .slice none 0 0] 63))) base g n0 m0 (i + 1) (.slice (some ⟨gI, 0, none⟩) N ci) (.slice sa' sl.length sc') (l.set kk { l.getD kk default with a := z }) sl (W.setCell ⟨gI, kk * 4 + 1, none⟩ (.int .i64 z)) := fun z W hg => by
    have h := H0.out.grows hg
    exact ⟨h.c.poke HNL.out.symm _ _ (insV_set1 l kk z (by have := HKN.out; have := HNL.out; omega)) (by simp), h.ok.set kk (h.ok.at kk), by rw [List.length_set]; have := h.nl; omega, h.ml, h.sz⟩
  clear y0
  refine TS.weB 16 ?_
  clear yf ya
  go_wp2_with fail
  exact hQ _ _ _ _ _ _ _ _ _ _ _ _ _ _ _ _ _ _ _ _ _ _ _ _ _ _ _ _ _ _ _ _ _ _ _ _ _ _ _ _ _ _ _ _ _ _ _ _ _ _ _ _ _ _ _ _ _ _ _ _ _ _ _ _ _ _ _ _ _ _ _ _ _ _ _ _ _ _ _ _ _ _ _ _ _ _ _ _ _ _ _ _ _ _ _ _ _ _ _ _ _ _ _ _ _ _ _ _ _ _ _ _ _ _ _ _ _ _ _ _ _ _ _ _ _ _ _ _ _ _ _ _ _ _ _ _ _ _ _ _ _ _ _ _ _ _ _ _ _ _ _ _ _ _ _ _ _ _ _ _ _ _ _ _ _ _ _ _ _ _ _ _ _ _ _ _ _ _ _ _ _ _ _ _ (Lib.hid ((hmk _ W0 (World.Grows.refl _)).grows grows_drew0))
set_option maxRecDepth 1000000 in
set_option maxHeartbeats 16000000 in
theorem spoil_k7 (w W0 : World) (ia sa sa' : Option Addr) (ic sc sc' n0 m0 pb po P pc base g gI ci N kk i : Nat) (l : List Ins) (sl : List ByteArray) (qa qk qn : Int) (HN : Hid (n0 ≤ 5000 ∧ m0 ≤ 100)) (HNL : Hid (l.length = N)) (HKN : Hid (kk < N)) (HCI : Hid (N ≤ ci)) (HI3 : Hid (i < P ∧ i < 3)) (HN5 : Hid (N ≤ 5003)) (H0 : Hid (SpSt (((w.alloc (.cells #[.slice ia n0 ic, .slice sa m0 sc] 63)).alloc (.cells #[.slice none 0 0, .slice none 0 0] 63))) base g n0 m0 i (.slice (some ⟨gI, 0, none⟩) N ci) (.slice sa' sl.length sc') l sl W0))
    (HPC : Hid (∀ W, w.Grows W → pb < W.heap.size ∧ W.cell? ⟨pb, po + i * 3, none⟩ = some (.int .i64 qa) ∧ W.cell? ⟨pb, po + i * 3 + 1, none⟩ = some (.int .i64 qk) ∧ W.cell? ⟨pb, po + i * 3 + 2, none⟩ = some (.int .i64 qn)))
    (x8 x9 x10 x11 x12 x13 x14 x15 x16 x17 x18 x19 x20 x21 x22 x23 x24 x25 x26 x27 x28 x29 x30 x31 x32 x33 x34 x35 x36 x37 x38 x39 x40 x41 x42 x43 x44 x45 x46 x48 x49 x50 x51 x52 x53 x54 x55 x56 x57 x58 x59 x60 x61 x62 x63 x64 x65 x66 x67 x68 x69 x70 x71 x72 x73 x74 x75 x76 x77 x78 x79 x80 x81 x82 x83 x84 x85 x86 x87 x88 x89 x90 x91 x92 x93 x94 x95 x96 x97 x98 x99 x100 x101 x102 x103 x104 x105 x106 x107 x108 x109 x110 x111 x112 x113 x114 x115 x116 x117 x118 x119 x120 x121 x122 x123 x124 x125 x126 x127 x128 x129 x130 x131 x132 x133 x134 x135 x136 x137 x138 x139 x140 x141 x142 x143 x144 x145 x146 x147 x148 x149 x150 x151 x152 x153 x154 x155 x156 x157 x158 x159 x160 x161 x162 x163 x164 x165 x166 x167 x168 x169 x170 x171 x172 x173 x174 x175 x176 x177 x178 x179 x180 x181 x182 x183 x184 x185 x186 x187 x188 x189 x190 x191 x192 x193 : Value) (Q : Exit → Act → World → Prop) (hpan : ∀ (c) (a : Act) (d : Nat) (v : Value) (w : World), Q (.panic c) (a.put (some d) v) w → Q (.panic c) a w) (hQ : ∀ (vI vS : Value) (l' : List Ins) (sl' : List ByteArray) (y7 y8 y9 y17 y18 y19 y20 y21 y22 y23 y24 y25 y26 y27 y28 y29 y30 y31 y32 y33 y34 y35 y36 y37 y38 y39 y40 y41 y42 y43 y44 y45 y46 y47 y48 y49 y50 y51 y52 y53 y54 y55 y56 y57 y58 y59 y60 y61 y62 y63 y64 y65 y66 y67 y68 y69 y70 y71 y72 y73 y74 y75 y76 y77 y78 y79 y80 y81 y82 y83 y84 y85 y86 y87 y88 y89 y90 y91 y92 y93 y94 y95 y96 y97 y98 y99 y100 y101 y102 y103 y104 y105 y106 y107 y108 y109 y110 y111 y112 y113 y114 y115 y116 y117 y118 y119 y120 y121 y122 y123 y124 y125 y126 y127 y128 y129 y130 y131 y132 y133 y134 y135 y136 y137 y138 y139 y140 y141 y142 y143 y144 y145 y146 y147 y148 y149 y150 y151 y152 y153 y154 y155 y156 y157 y158 y159 y160 y161 y162 y163 y164 y165 y166 y167 y168 y169 y170 y171 y172 y173 y174 y175 y176 y177 y178 y179 y180 y181 y182 y183 y184 y185 y186 y187 y188 y189 y190 y191 y192 : Value) (W' : World), Hid (SpSt (((w.alloc (.cells #[.slice ia n0 ic, .slice sa m0 sc] 63)).alloc (.cells #[.slice none 0 0, .slice none 0 0] 63))) base g n0 m0 (i + 1) vI vS l' sl' W') → Q .normal { tmps := #[.agg #[.slice ia n0 ic, .slice sa m0 sc], .slice (some ⟨pb, po, none⟩) P pc, .pointer (some ⟨w.heap.size, 0, none⟩), undef, .pointer (some ⟨w.heap.size + 1, 0, none⟩), .pointer (some ⟨g, 0, none⟩), .int .i64 i, y7, y8, y9, x10, x11, x12, x13, x14, x15, x16, y17, y18, y19, y20, y21, y22, y23, y24, y25, y26, y27, y28, y29, y30, y31, y32, y33, y34, y35, y36, y37, y38, y39, y40, y41, y42, y43, y44, y45, y46, y47, y48, y49, y50, y51, y52, y53, y54, y55, y56, y57, y58, y59, y60, y61, y62, y63, y64, y65, y66, y67, y68, y69, y70, y71, y72, y73, y74, y75, y76, y77, y78, y79, y80, y81, y82, y83, y84, y85, y86, y87, y88, y89, y90, y91, y92, y93, y94, y95, y96, y97, y98, y99, y100, y101, y102, y103, y104, y105, y106, y107, y108, y109, y110, y111, y112, y113, y114, y115, y116, y117, y118, y119, y120, y121, y122, y123, y124, y125, y126, y127, y128, y129, y130, y131, y132, y133, y134, y135, y136, y137, y138, y139, y140, y141, y142, y143, y144, y145, y146, y147, y148, y149, y150, y151, y152, y153, y154, y155, y156, y157, y158, y159, y160, y161, y162, y163, y164, y165, y166, y167, y168, y169, y170, y171, y172, y173, y174, y175, y176, y177, y178, y179, y180, y181, y182, y183, y184, y185, y186, y187, y188, y189, y190, y191, y192, x193], defers := [] } W') :
    Code.wp Tryz.prog (sq2 (sq2 (blk9 (sq1 (sq2 (lop9 (blk9 (sq2 (sq1 (sq2 (sq2 (Tryz.f19.body.getD .skip))))))))))))  Q { tmps := #[.agg #[.slice ia n0 ic, .slice sa m0 sc], .slice (some ⟨pb, po, none⟩) P pc, .pointer (some ⟨w.heap.size, 0, none⟩), undef, .pointer (some ⟨w.heap.size + 1, 0, none⟩), .pointer (some ⟨g, 0, none⟩), .int .i64 i, .int .i64 kk, x8, x9, x10, x11, x12, x13, x14, x15, x16, x17, x18, x19, x20, x21, x22, x23, x24, x25, x26, x27, x28, x29, x30, x31, x32, x33, x34, x35, x36, x37, x38, x39, x40, x41, x42, x43, x44, x45, x46, .int .i64 7, x48, x49, x50, x51, x52, x53, x54, x55, x56, x57, x58, x59, x60, x61, x62, x63, x64, x65, x66, x67, x68, x69, x70, x71, x72, x73, x74, x75, x76, x77, x78, x79, x80, x81, x82, x83, x84, x85, x86, x87, x88, x89, x90, x91, x92, x93, x94, x95, x96, x97, x98, x99, x100, x101, x102, x103, x104, x105, x106, x107, x108, x109, x110, x111, x112, x113, x114, x115, x116, x117, x118, x119, x120, x121, x122, x123, x124, x125, x126, x127, x128, x129, x130, x131, x132, x133, x134, x135, x136, x137, x138, x139, x140, x141, x142, x143, x144, x145, x146, x147, x148, x149, x150, x151, x152, x153, x154, x155, x156, x157, x158, x159, x160, x161, x162, x163, x164, x165, x166, x167, x168, x169, x170, x171, x172, x173, x174, x175, x176, x177, x178, x179, x180, x181, x182, x183, x184, x185, x186, x187, x188, x189, x190, x191, x192, x193], defers := [] } W0 := by
  obtain ⟨i0, hi, hz1, hz2, hz3⟩ := info_parts infoIn
  have z0 := H0.out.c.c0
  have z1 := H0.out.c.c1
  have zl := H0.out.c.gW
  obtain ⟨hb0, p1, p2, p3⟩ := HPC.out W0 (World.Grows.trans' growsR H0.out.c.gr)
  have hgI := (H0.out.c.row.lt gI rfl).2
  have d1 : (i : Int) < (P : Int) := by have := HI3.out; omega
  have d0 : (0 : Int) ≤ (i : Int) := by omega
  have d2 : (i : Int) < 3 := by have := HI3.out; omega
  have e0 : (0 : Int) ≤ (kk : Int) := by omega
  have e1 : (kk : Int) < (N : Int) := by have := HKN.out; omega
  have d3 : (0 : Int) < (N : Int) := by omega
  have hN6 : (N : Int) ≤ 5003 := by have := HN5.out; omega
  have hw3 : IntKind.i64.wrap ((N : Int) + 3) = (N : Int) + 3 := IntWalk.i64_in _ (by omega)
  have HP26 := Lib.hid (hpx9 26 (by omega) (by omega))
  have HP9 := Lib.hid (hpx9 9 (by omega) (by omega))
  have HP4 := Lib.hid (hpx9 4 (by omega) (by omega))
  have HP5 := Lib.hid (hpx9 5 (by omega) (by omega))
  have HP6 := Lib.hid (hpx9 6 (by omega) (by omega))
  have HPN3 := Lib.hid (hpx9 ((N : Int) + 3) (by omega) (by omega))
  conv => arg 2; whnf
  have H9 : Hid (SpSt (((w.alloc (.cells #[.slice ia n0 ic, .slice sa m0 sc] 63)).alloc (.cells #[.slice none 0 0, .slice none 0 0] 63))) base g n0 m0 (i + 1) (.slice (some ⟨gI, 0, none⟩) N ci) (.slice sa' sl.length sc') l sl W0) := Lib.hid (H0.out.later (by omega))
  go_wp2_with fail
  exact hQ _ _ _ _ _ _ _ _ _ _ _ _ _ _ _ _ _ _ _ _ _ _ _ _ _ _ _ _ _ _ _ _ _ _ _ _ _ _ _ _ _ _ _ _ _ _ _ _ _ _ _ _ _ _ _ _ _ _ _ _ _ _ _ _ _ _ _ _ _ _ _ _ _ _ _ _ _ _ _ _ _ _ _ _ _ _ _ _ _ _ _ _ _ _ _ _ _ _ _ _ _ _ _ _ _ _ _ _ _ _ _ _ _ _ _ _ _ _ _ _ _ _ _ _ _ _ _ _ _ _ _ _ _ _ _ _ _ _ _ _ _ _ _ _ _ _ _ _ _ _ _ _ _ _ _ _ _ _ _ _ _ _ _ _ _ _ _ _ _ _ _ _ _ _ _ _ _ _ _ _ _ _ _ _ H9
end Go.Proofs.YtaghhncnicbedaaGreatDoor
