/- MachineVerifies: the walk. -/
import Derived.Test.YtaghhncnicbedaaGreatDoorFCode
import Derived.Test.YtaghhncnicbedaaGreatDoorSpoil
import Derived.Test.YtaghhncnicbedaaGreatDoorAw9F
import Derived.Test.YtaghhncnicbedaaGreatDoorFRvE
set_option linter.all false
namespace Go.Proofs.YtaghhncnicbedaaGreatDoor
open Go.RowKit
set_option maxRecDepth 1000000 in
set_option maxHeartbeats 8000000 in
theorem mv_any (hInf : Hid InfSaid) (ls : List (List Int)) (gd : List Int) (ps : List (Int × Int × Int)) (vl vg vp : Value) (w : World) (hl : RowsAt w vl ls) (hg : IntsAt w vg gd) (hp : PkAt w vp ps) (ht : Tab w) :
    Calls Tryz.prog 4 #[vl, vg, vp] w fun e w' => e = .returned (.bool true) ∧ w.Grows w' := by
  have HLL := Lib.hid hl
  have HGG := Lib.hid hg
  have HPP := Lib.hid hp
  obtain ⟨-, -, ga, gc, rfl, -⟩ := id hg
  obtain ⟨-, la, lc, rfl, -⟩ := id hl
  obtain ⟨pa, pc, rfl, -⟩ := id hp
  by_cases h1 : 8 < ls.length
  · have h2 : (8 : Int) < (ls.length : Int) := by omega
    clear hl hg hp hInf ht HLL HGG HPP
    go_enter Tryz.func4, Tryz.ntmps4
    go_wp2_with fail
    go_returns
    exact ⟨rfl, growsR⟩
  have h2 : ¬ (8 : Int) < (ls.length : Int) := by omega
  by_cases h3 : 100 < gd.length
  · have h4 : (100 : Int) < (gd.length : Int) := by omega
    clear hl hg hp hInf ht HLL HGG HPP
    go_enter Tryz.func4, Tryz.ntmps4
    go_wp2_with fail
    go_returns
    exact ⟨rfl, growsR⟩
  have h4 : ¬ (100 : Int) < (gd.length : Int) := by omega
  have HC := Lib.hid (Code_any ls gd _ _ w HLL.out HGG.out (by omega) (by omega))
  have HW := Lib.hid (fun W (hg : w.Grows W) => awake9_any hInf W (ht.grows hg))
  have HVA := Lib.hid (fun W (hg : w.Grows W) (l : List Ins) (sl : List ByteArray) (vi vs : Value) (h1 : InsAt W vi l) (h2 : SlAt W vs sl) => VerifyM_any hInf l sl vi vs W h1 h2 (ht.grows hg))
  have HSP := Lib.hid (fun W (hg : w.Grows W) (l : List Ins) (sl : List ByteArray) (a : Option Addr) (c : Nat) (vs : Value) (B : Nat) (hI : LRow B W (.slice a l.length c) l) (hS : W.ownsRow B 9 1 vs sl.length (slV sl)) (ho : InsOk l) (hz : ∀ s ∈ sl, s.size ≤ maxLen) (hn : l.length ≤ 5000) (hm : sl.length ≤ 100) => Spoil_any l sl a c vs B ps _ W hI hS ho hz hn hm (HPP.out.grows hg))
  have HIO := Lib.hid (made_i64 ls gd)
  have HML := Lib.hid (made_len ls gd)
  have HNS := Lib.hid (names_size (min ls.length 5))
  have HNL : Hid ((namesM (min ls.length 5)).length ≤ 5) := Lib.hid (by rw [names_len]; omega)
  unfold CodeP at HC
  unfold SpoilP at HSP
  generalize namesM (min ls.length 5) = sl at *
  generalize madeC ls gd = l at *
  clear hl hg hp ht HLL HGG HPP h1 h3
  go_enter Tryz.func4, Tryz.ntmps4
  go_upto_region 4 with (first
    | (go_at_call 20; refine HC.out.mono ?_; rintro e' w1 ⟨a, c, vS, base, rfl, hgr, hb1, hb2, hrow, hsl, hdj⟩; obtain ⟨sa, sc, rfl, -, -⟩ := rowForm3 hsl; have HGR := Lib.hid hgr; have HROW := Lib.hid hrow; have HSL := Lib.hid hsl; clear hgr hb1 hb2 hrow hsl hdj)
    | (go_at_call 19; refine (HSP.out _ HGR.out l sl a c _ base HROW.out HSL.out HIO.out HNS.out (by have := HML.out; omega) (by have := HNL.out; omega)).mono ?_; rintro e' w2 ⟨a2, c2, sa2, sc2, base2, l2, sl2, rfl, hgr2, hrow2, hsl2, hnl2, hml2, hio2, hsz2⟩; have HG2 := Lib.hid (World.Grows.trans' HGR.out hgr2); have HI2 := Lib.hid (hrow2.insAt (by have := HML.out; omega) hio2); have HS2 := Lib.hid (slRow_at hsl2 (by have := HNL.out; omega) hsz2); clear hgr2 hrow2 hsl2 hnl2 hml2 hio2 hsz2))
  have HA := Lib.hid (fun W (hg : w2.Grows W) => HVA.out W (World.Grows.trans' HG2.out hg) l2 sl2 _ _ (HI2.out.grows hg) (HS2.out.grows hg))
  have HB := Lib.hid (fun W (hg : w2.Grows W) => VerifyR_any l2 sl2 _ _ W (HI2.out.grows hg) (HS2.out.grows hg))
  rw [ver_same] at HA
  unfold VrfP at HA HB
  generalize verB l2 sl2 = r at *
  obtain ⟨d, cd⟩ := r
  dsimp only at HA HB
  clear HVA HSP HC
  go_wp2_with (first
    | (go_at_call 21; refine (HA.out _ growsR).mono ?_; rintro e' w' ⟨rfl, bs, d1, rfl⟩)
    | (go_at_call 22; refine (HB.out _ growsR).mono ?_; rintro e' w' ⟨rfl, bs2, d2, rfl⟩)
    | (go_at_call 23; refine (HW.out _ (World.Grows.trans' HG2.out growsR)).mono ?_; rintro e' w' ⟨rfl, bs3, d3, rfl⟩))
  go_returns
  exact ⟨rfl, World.Grows.trans' HG2.out growsR⟩
end Go.Proofs.YtaghhncnicbedaaGreatDoor
