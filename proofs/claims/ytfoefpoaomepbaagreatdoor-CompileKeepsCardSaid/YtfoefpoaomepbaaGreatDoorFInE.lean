import Derived.Test.YtfoefpoaomepbaaGreatDoorFVv2
import Derived.Test.YtfoefpoaomepbaaGreatDoorFK
set_option linter.all false
set_option maxHeartbeats 16000000
set_option maxRecDepth 1000000
namespace Go.Proofs.YtfoefpoaomepbaaGreatDoor
open Go.RowKit
def inV(o:Option Val):Value:=match o with|some x=>.tuple #[valV x,.bool true]|none=>.tuple #[valV .zero,.bool false]
theorem inp_cases{s:List UInt8}(h:inpD s≠0):s= [98,97,115,101]∨s= [97,103,101]∨s= [121,101,97,114]∨s= [99,104,105,108,100,114,101,110]∨s= [105,110,115,117,114,101,100]∨s= [119,111,114,107,101,100]∨s= [118,111,108,117,110,116,97,114,121]∨s= [115,101,114,118,105,99,101]∨s= [101,113,117,97,116,101,100]∨s= [114,97,105,115,105,110,103]∨s= [114,101,115,105,100,101,110,116]:=by
 unfold inpD at h
 split at h
 ·rename_i c;rcases c with c|c|c<;>simp [c]
 ·split at h
  ·rename_i c;rcases c with c|c|c|c|c|c|c<;>simp [c]
  ·split at h
   ·rename_i c;simp [c]
   ·exact absurd rfl h
theorem input8_none(v:Vw)(y:Value)(s:ByteArray)(w:World)(hr:VwRng v)(hy:YrAt w y v.years)(h:inpD s.toList=0∨v.ok=false):(Calls Tryz.prog 55 #[vwV v y,.string s] w fun r w'=>r= .returned (inV (inputV v s))∧w.Grows w'):=by
 have HF:Hid (inputV v s=none):=Lib.hid (by unfold inputV;rw [if_pos h])
 rw [HF.out]
 show Calls _ _ _ _ fun r w'=>r= .returned (.tuple #[.agg #[.int .i64 0,.bool false,.int .i64 0,.int .i64 0],.bool false])∧_
 have HY:=Lib.hid hy
 have HV:=Lib.hid (fun w' (hg:w.Grows w')=>ValidView8_any v y w' hr (HY.out.grows hg))
 have HI:=Lib.hid (fun w=>Input5_any s w)
 obtain⟨-,a,c,rfl,-⟩:=hy
 unfold vwV at HV ⊢
 clear hr
 by_cases hd:inpD s.toList=0
 ·rw [hd]at HI
  clear h hd
  go_enter Tryz.func55,Tryz.ntmps55
  go_wp2_with (go_at_call 43;refine(HI.out _).mono ?_;rintro e' w' ⟨rfl,rfl⟩)
  exact fz17
 ·rw [h.resolve_left hd]at HV
  rw [decide_eq_true hd]at HI
  clear h hd
  generalize inpD s.toList=D at HI
  have HG:Hid (∀o1 o2,w.Grows ((w.alloc o1).alloc o2)):=Lib.hid (fun o1 o2=>.of_below belB)
  exact fz37
def Vw.at(v:Vw)(k:Nat):Int:=[v.age,v.year,v.children,v.insured,v.worked,v.voluntary,v.service,v.equated,v.raising,v.resident].getD k 0
theorem inp_place{v:Vw}{s:ByteArray}(h:inpD s.toList≠0)(hb:¬s.toList= [98,97,115,101]):∃j,j<10∧(inpNm j).toList=s.toList∧v.numF s.toList=(v.at j,1)∧∀k,k<11→k≠j→((inpNm k).toList==s.toList)=false:=by
 have hc:=(inp_cases h).resolve_left hb
 generalize s.toList=l at *
 rcases hc with rfl|rfl|rfl|rfl|rfl|rfl|rfl|rfl|rfl|rfl
 ·exact⟨0,by omega,by decide+kernel,rfl,fun k h1 h2=>by rcases(show k=1∨k=2∨k=3∨k=4∨k=5∨k=6∨k=7∨k=8∨k=9∨k=10 by omega)with rfl|rfl|rfl|rfl|rfl|rfl|rfl|rfl|rfl|rfl<;>decide+kernel⟩
 ·exact⟨1,by omega,by decide+kernel,rfl,fun k h1 h2=>by rcases(show k=0∨k=2∨k=3∨k=4∨k=5∨k=6∨k=7∨k=8∨k=9∨k=10 by omega)with rfl|rfl|rfl|rfl|rfl|rfl|rfl|rfl|rfl|rfl<;>decide+kernel⟩
 ·exact⟨2,by omega,by decide+kernel,rfl,fun k h1 h2=>by rcases(show k=0∨k=1∨k=3∨k=4∨k=5∨k=6∨k=7∨k=8∨k=9∨k=10 by omega)with rfl|rfl|rfl|rfl|rfl|rfl|rfl|rfl|rfl|rfl<;>decide+kernel⟩
 ·exact⟨3,by omega,by decide+kernel,rfl,fun k h1 h2=>by rcases(show k=0∨k=1∨k=2∨k=4∨k=5∨k=6∨k=7∨k=8∨k=9∨k=10 by omega)with rfl|rfl|rfl|rfl|rfl|rfl|rfl|rfl|rfl|rfl<;>decide+kernel⟩
 ·exact⟨4,by omega,by decide+kernel,rfl,fun k h1 h2=>by rcases(show k=0∨k=1∨k=2∨k=3∨k=5∨k=6∨k=7∨k=8∨k=9∨k=10 by omega)with rfl|rfl|rfl|rfl|rfl|rfl|rfl|rfl|rfl|rfl<;>decide+kernel⟩
 ·exact⟨5,by omega,by decide+kernel,rfl,fun k h1 h2=>by rcases(show k=0∨k=1∨k=2∨k=3∨k=4∨k=6∨k=7∨k=8∨k=9∨k=10 by omega)with rfl|rfl|rfl|rfl|rfl|rfl|rfl|rfl|rfl|rfl<;>decide+kernel⟩
 ·exact⟨6,by omega,by decide+kernel,rfl,fun k h1 h2=>by rcases(show k=0∨k=1∨k=2∨k=3∨k=4∨k=5∨k=7∨k=8∨k=9∨k=10 by omega)with rfl|rfl|rfl|rfl|rfl|rfl|rfl|rfl|rfl|rfl<;>decide+kernel⟩
 ·exact⟨7,by omega,by decide+kernel,rfl,fun k h1 h2=>by rcases(show k=0∨k=1∨k=2∨k=3∨k=4∨k=5∨k=6∨k=8∨k=9∨k=10 by omega)with rfl|rfl|rfl|rfl|rfl|rfl|rfl|rfl|rfl|rfl<;>decide+kernel⟩
 ·exact⟨8,by omega,by decide+kernel,rfl,fun k h1 h2=>by rcases(show k=0∨k=1∨k=2∨k=3∨k=4∨k=5∨k=6∨k=7∨k=9∨k=10 by omega)with rfl|rfl|rfl|rfl|rfl|rfl|rfl|rfl|rfl|rfl<;>decide+kernel⟩
 ·exact⟨9,by omega,by decide+kernel,rfl,fun k h1 h2=>by rcases(show k=0∨k=1∨k=2∨k=3∨k=4∨k=5∨k=6∨k=7∨k=8∨k=10 by omega)with rfl|rfl|rfl|rfl|rfl|rfl|rfl|rfl|rfl|rfl<;>decide+kernel⟩
theorem Vw.at_days(v:Vw)(k:Nat):v.at (k+3)=v.ds.getD k 0:=rfl
theorem input8_base(v:Vw)(y:Value)(s:ByteArray)(w:World)(hr:VwRng v)(hy:YrAt w y v.years)(hd:inpD s.toList≠0)(hv:v.ok=true)(hb:s.toList= [98,97,115,101]):(Calls Tryz.prog 55 #[vwV v y,.string s] w fun r w'=>r= .returned (inV (inputV v s))∧w.Grows w'):=by
 have HF:Hid (inputV v s=some (.num (inpD s.toList) (v.numF s.toList).1 (v.numF s.toList).2)):=Lib.hid (by unfold inputV;rw [if_neg (by rw [hv];simp [hd])])
 rw [HF.out]
 show Calls _ _ _ _ fun r w'=>r= .returned (.tuple #[.agg #[.int .i64 (inpD s.toList),.bool false,.int .i64 (v.numF s.toList).1,.int .i64 (v.numF s.toList).2],.bool true])∧_
 have HY:=Lib.hid hy
 have HV:=Lib.hid (fun w' (hg:w.Grows w')=>ValidView8_any v y w' hr (HY.out.grows hg))
 have HI:=Lib.hid (fun w=>Input5_any s w)
 obtain⟨-,a,c,rfl,-⟩:=hy
 have HDS:=Lib.hid (fun w=>days_any v (.slice a v.years.length c) w ⟨a,_,c,rfl⟩)
 unfold vwV at HV HDS ⊢
 rw [hv]at HV
 rw [decide_eq_true hd]at HI
 clear hr HF hv
 have HG:Hid (∀o1 o2,w.Grows ((w.alloc o1).alloc o2)):=Lib.hid (fun o1 o2=>.of_below belB)
 have hN:v.numF s.toList=(v.bn,v.bd):=by rw [hb];rfl
 rw [hN]
 clear HDS hN hd
 generalize inpD s.toList=D at *
 have hb2:(s.toList== [98,97,115,101])=true:=by rw [hb];rfl
 exact fz37
theorem input8_far(v:Vw)(y:Value)(s:ByteArray)(w:World)(hr:VwRng v)(hy:YrAt w y v.years)(hd:inpD s.toList≠0)(hv:v.ok=true)(hb:¬s.toList= [98,97,115,101]):(Calls Tryz.prog 55 #[vwV v y,.string s] w fun r w'=>r= .returned (inV (inputV v s))∧w.Grows w'):=by
 have HF:Hid (inputV v s=some (.num (inpD s.toList) (v.numF s.toList).1 (v.numF s.toList).2)):=Lib.hid (by unfold inputV;rw [if_neg (by rw [hv];simp [hd])])
 rw [HF.out]
 show Calls _ _ _ _ fun r w'=>r= .returned (.tuple #[.agg #[.int .i64 (inpD s.toList),.bool false,.int .i64 (v.numF s.toList).1,.int .i64 (v.numF s.toList).2],.bool true])∧_
 have HY:=Lib.hid hy
 have HV:=Lib.hid (fun w' (hg:w.Grows w')=>ValidView8_any v y w' hr (HY.out.grows hg))
 have HI:=Lib.hid (fun w=>Input5_any s w)
 obtain⟨-,a,c,rfl,-⟩:=hy
 have HDS:=Lib.hid (fun w=>days_any v (.slice a v.years.length c) w ⟨a,_,c,rfl⟩)
 unfold vwV at HV HDS ⊢
 rw [hv]at HV
 rw [decide_eq_true hd]at HI
 clear hr HF hv
 have HG:Hid (∀o1 o2,w.Grows ((w.alloc o1).alloc o2)):=Lib.hid (fun o1 o2=>.of_below belB)
 obtain⟨j,hj,hjs,hN,hne⟩:=inp_place (v:=v) hd hb
 rw [hN]
 clear hN hd
 generalize inpD s.toList=D at *
 have hb2:(s.toList== [98,97,115,101])=false:=by rw [beq_eq_false_iff_ne];exact hb
 have HNE:=Lib.hid hne
 have HJS:Hid (((inpNm j).toList==s.toList)=true):=Lib.hid (by rw [hjs];simp)
 clear hb hjs hne
 dsimp only
 go_enter Tryz.func55,Tryz.ntmps55
 go_wp2_with (first
  |(go_at_call 43;refine(HI.out _).mono ?_;rintro e' w' ⟨rfl,rfl⟩)
  |(go_at_call 40;refine(HV.out _ (HG.out _ _)).mono ?_;rintro e' w' ⟨rfl,bs,d,rfl⟩)
  |(go_at_call 56;refine(Names_any _).mono ?_;rintro e' w' ⟨rfl,rfl⟩)
  |(go_at_call 94;refine(HDS.out _).mono ?_;rintro e' w' ⟨rfl,bs2,d2,rfl⟩))
 obtain⟨W,hW⟩:∃W,((((((w.alloc (.cells #[.int .i64 v.age,.int .i64 v.year,.int .i64 v.children,.int .i64 v.insured,.int .i64 v.worked,.int .i64 v.voluntary,.int .i64 v.service,.int .i64 v.equated,.int .i64 v.raising,.int .i64 v.resident,.int .i64 v.bn,.int .i64 v.bd,.slice a v.years.length c] 38)).alloc (.cells #[.int .i64 0,.bool false,.int .i64 0,.int .i64 0] 41)).grow bs d).alloc (.cells inpA 9)).grow bs2 d2).alloc (.cells #[.int .i64 v.insured,.int .i64 v.worked,.int .i64 v.voluntary,.int .i64 v.service,.int .i64 v.equated,.int .i64 v.raising,.int .i64 v.resident] 100))=W:=⟨_,rfl⟩
 have hg:w.Grows W:=by rw [←hW];exact .of_below belB
 have b0:W.cell? ⟨w.heap.size,0,none⟩=some (.int .i64 v.age):=by rw [←hW];simp [go_sem]
 have b1:W.cell? ⟨w.heap.size,1,none⟩=some (.int .i64 v.year):=by rw [←hW];simp [go_sem]
 have b2:W.cell? ⟨w.heap.size,2,none⟩=some (.int .i64 v.children):=by rw [←hW];simp [go_sem]
 have r0:W.cell? ⟨w.heap.size+1,0,none⟩=some (.int .i64 0):=by rw [←hW];simp [go_sem]
 have r1:W.cell? ⟨w.heap.size+1,1,none⟩=some (.bool false):=by rw [←hW];simp [go_sem]
 have r2:W.cell? ⟨w.heap.size+1,2,none⟩=some (.int .i64 0):=by rw [←hW];simp [go_sem]
 have r3:W.cell? ⟨w.heap.size+1,3,none⟩=some (.int .i64 0):=by rw [←hW];simp [go_sem]
 have rf:∀j,W.frozen? ⟨w.heap.size+1,j,none⟩=false:=by intro j;rw [←hW];simp [go_sem]
 have HA:Hid (∀k,k<7→W.cell? ⟨w.heap.size+1+1+bs.size+1+bs2.size,k,none⟩=some (.int .i64 (v.ds.getD k 0))):=Lib.hid (fun k hk=>by
  rw [←hW,World.cell?_alloc_at _ _ _ _ (by simp)]
  rcases(show k=0∨k=1∨k=2∨k=3∨k=4∨k=5∨k=6 by omega)with rfl|rfl|rfl|rfl|rfl|rfl|rfl<;>rfl)
 have HNM:Hid (∀k,k<11→W.cell? ⟨w.heap.size+1+1+bs.size,k,none⟩=some (.string (inpNm k))):=Lib.hid (fun k hk=>by
  rw [←hW,World.cell?_alloc_lt _ _ _ (by simp;omega),World.cell?_grow _ _ _ (by simp),World.cell?_alloc_at _ _ _ _ (by simp)]
  exact inpA_get k hk)
 have hsz:w.heap.size+1<W.heap.size:=by rw [←hW];simp;omega
 rw [hW]
 have HW:=Lib.hid hW
 clear hW
 have HG2:=Lib.hid hg
 clear hg
 generalize w.heap.size+1+1+bs.size+1+bs2.size=B2 at *
 generalize w.heap.size+1+1+bs.size=B1 at *
 go_loopw [10,11] (fun v10 v11 wr=>∃k:Nat,k≤11∧v11= .int .i64 k∧v10= .int .i64 (if k≤j then 0 else v.at j)∧W=wr) (fun _ v11 _=>11-(intOf v11).toNat)
 case atStart=>exact⟨0,by omega,rfl,by simp,rfl⟩
 case round=>
  obtain⟨k,hk,rfl,rfl,rfl⟩:=hrel
  by_cases hlt:k<11
  ·have x0:=HNM.out k hlt
   have d1:(k:Int)<11:=by omega
   have HKL:=Lib.hid hlt
   by_cases hkj:k=j
   ·subst hkj
    have he:=HJS.out
    generalize hN:inpNm k=nk at *
    generalize hI:(if k≤k then(0:Int)else v.at k)=I0
    clear hlt hN hI
    by_cases h0:k=0
    ·subst h0
     go_wp2_with fail
     go_roundw
     case rel=>exact⟨1,by omega,rfl,by simp [Vw.at],(by first|rfl|trivial)⟩
     case measure=>simp [intOf]
    ·by_cases h1:k=1
     ·subst h1
      go_wp2_with fail
      go_roundw
      case rel=>exact⟨2,by omega,rfl,by simp [Vw.at],(by first|rfl|trivial)⟩
      case measure=>simp [intOf]
     ·by_cases h2:k=2
      ·subst h2
       go_wp2_with fail
       go_roundw
       case rel=>exact⟨3,by omega,rfl,by simp [Vw.at],(by first|rfl|trivial)⟩
       case measure=>simp [intOf]
      ·obtain⟨m,rfl⟩:∃m,k=m+3:=⟨k-3,by omega⟩
       have hm7:m<7:=by omega
       have y0:=HA.out m hm7
       have hm7i:(m:Int)<7:=by omega
       have HAT:=Lib.hid (Vw.at_days v m)
       generalize v.ds.getD m 0=dm at *
       clear h0 h1 h2
       go_wp2_with fail
       go_roundw
       case rel=>exact⟨m+3+1,by omega,by go_num,by rw [if_neg (by omega),HAT.out],(by first|rfl|trivial)⟩
       case measure=>simp [intOf];omega
   ·have he:=HNE.out k hlt hkj
    generalize hN:inpNm k=nk at *
    have HI3:Hid ((if k≤j then(0:Int)else v.at j)=(if k+1≤j then(0:Int)else v.at j)):=Lib.hid (by split<;>split<;>first|rfl|omega)
    generalize hI:(if k≤j then(0:Int)else v.at j)=I0 at *
    clear hlt hN hI
    go_wp2_with fail
    go_roundw
    case rel=>exact⟨k+1,by omega,by go_num,by rw [HI3.out],(by first|rfl|trivial)⟩
    case measure=>simp [intOf];have:=HKL.out;omega
  ·obtain rfl:k=11:=by omega
   rw [if_neg (by omega)]
   have hW:=HW.out
   subst hW
   clear b0 b1 b2 r0 r1 r2 r3 rf HA HNM HG2 hsz HW
   go_wp2_with fail
   exact fz17
end Go.Proofs.YtfoefpoaomepbaaGreatDoor
