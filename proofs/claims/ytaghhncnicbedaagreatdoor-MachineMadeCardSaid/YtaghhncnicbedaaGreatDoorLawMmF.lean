/- MachineMade: the walk. -/
import Derived.Test.YtaghhncnicbedaaGreatDoorFCode
import Derived.Test.YtaghhncnicbedaaGreatDoorAw9F
set_option linter.all false
set_option maxHeartbeats 16000000
set_option maxRecDepth 1000000
namespace Go.Proofs.YtaghhncnicbedaaGreatDoor
open Go.RowKit
theorem mm_any(hInf:Hid InfSaid)(ls:List (List Int))(gd:List Int)(vl vg:Value)(w:World)(hl:RowsAt w vl ls)(hg:IntsAt w vg gd)(ht:Tab w) :
 Calls Tryz.prog 6 #[vl,vg] w fun e w'=>e= .returned (.bool true)∧w.Grows w':=by
 have HLL:=Lib.hid hl
 have HGG:=Lib.hid hg
 obtain⟨-,-,ga,gc,rfl,-⟩:=id hg
 obtain⟨-,la,lc,rfl,-⟩:=id hl
 by_cases h1:8<ls.length
 ·have h2:(8:Int)<(ls.length:Int):=by omega
  clear hg hInf ht HLL HGG
  go_enter Tryz.func6,Tryz.ntmps6
  go_wp2_with fail
  go_returns
  exact⟨rfl,growsR⟩
 have h2:¬(8:Int)<(ls.length:Int):=by omega
 by_cases h3:100<gd.length
 ·have h4:(100:Int)<(gd.length:Int):=by omega
  clear hg hInf ht HLL HGG
  go_enter Tryz.func6,Tryz.ntmps6
  go_wp2_with fail
  go_returns
  exact⟨rfl,growsR⟩
 have h4:¬(100:Int)<(gd.length:Int):=by omega
 have HC:=Lib.hid (Code_any ls gd _ _ w HLL.out HGG.out (by omega) (by omega))
 have HW:=Lib.hid (fun W (hg:w.Grows W)=>awake9_any hInf W (ht.grows hg))
 obtain⟨d,hd,hd24,hd1⟩:=made_approved ls gd
 have HV:=Lib.hid (fun W (hg:w.Grows W) (a:Option Addr) (c:Nat) (vS:Value) (h1:InsAt W (.slice a (madeC ls gd).length c) (madeC ls gd)) (h2:SlAt W vS (namesM (min ls.length 5)))=>VerifyM_any hInf (madeC ls gd) (namesM (min ls.length 5)) _ _ W h1 h2 (ht.grows hg))
 rw [hd]at HV
 unfold VrfP at HV
 dsimp only at HV
 have HIO:=Lib.hid (made_i64 ls gd)
 have HML:=Lib.hid (made_len ls gd)
 have HNS:=Lib.hid (names_size (min ls.length 5))
 have HNL:Hid ((namesM (min ls.length 5)).length≤1000):=Lib.hid (by rw [names_len];omega)
 unfold CodeP at HC
 generalize namesM (min ls.length 5)=sl at *
 generalize madeC ls gd=l at *
 have hd1':(1≤d↔0<l.length):=hd1.trans List.length_pos_iff.symm
 obtain⟨n,hn⟩:∃n,l.length=n:=⟨_,rfl⟩
 rw [hn]at hd1'
 have hcase:(1≤d∧(0:Int)<(n:Int))∨(¬1≤d∧¬(0:Int)<(n:Int)):=by omega
 have HN:=Lib.hid hn
 rw [hn]at HC HV
 clear hd hd1 hd1' hg hInf ht HLL HGG h1 h3 hn
 go_enter Tryz.func6,Tryz.ntmps6
 go_upto_region 4 with (go_at_call 20;refine HC.out.mono ?_;rintro e' w1 ⟨a,c,vS,base,rfl,hgr,hb1,hb2,hrow,hsl,hdj⟩;obtain⟨sa,sc,rfl,-,-⟩:=rowForm3 hsl;have HGR:=Lib.hid hgr;have HRI:Hid (InsAt w1 (.slice a n c) l):=Lib.hid (LRow.insAt (by unfold LRow;rw [HN.out];unfold LRow at hrow;rw [HN.out]at hrow;exact hrow) (by have:=HML.out;omega) HIO.out);have HRS:=Lib.hid (slRow_at hsl HNL.out HNS.out);clear hgr hb1 hb2 hrow hsl hdj)
 have HV1:=Lib.hid (fun W (hg:w1.Grows W)=>HV.out W (World.Grows.trans' HGR.out hg) a c _ (HRI.out.grows hg) (HRS.out.grows hg))
 clear HV HC
 rcases hcase with ⟨hc1,hc2⟩|⟨hc1,hc2⟩
 all_goals
  go_wp2_with (first
   |(go_at_call 21;refine(HV1.out _ growsR).mono ?_;rintro e' w' ⟨rfl,bs,d1,rfl⟩)
   |(go_at_call 23;refine(HW.out _ (World.Grows.trans' HGR.out growsR)).mono ?_;rintro e' w' ⟨rfl,bs3,d3,rfl⟩))
  go_returns
  exact⟨rfl,World.Grows.trans' HGR.out growsR⟩
end Go.Proofs.YtaghhncnicbedaaGreatDoor
