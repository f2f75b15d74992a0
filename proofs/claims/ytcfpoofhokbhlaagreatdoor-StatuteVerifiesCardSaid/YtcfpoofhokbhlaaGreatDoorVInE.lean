import Derived.Test.YtcfpoofhokbhlaaGreatDoorVFrMk
import Derived.Test.YtcfpoofhokbhlaaGreatDoorVTyR
set_option linter.all false
set_option maxHeartbeats 16000000
set_option maxRecDepth 1000000
namespace Go.Proofs.YtcfpoofhokbhlaaGreatDoor
open Tryz List
open Go.RowKit
def inV(o:Option Val):Value:=match o with|some x=>.tuple #[dY x,.bool true]|none=>.tuple #[dY .zero,.bool false]
theorem Cb(v:Vw)(y:Value)(s:ByteArray)(w:World)(hr:dV v)(hy:bI w y v.years)(h:bQ s.toList=0\/v.ok=false):(Calls prog 123 #[vwV v y,.string s] w fun r w'=>r= .returned (inV (dF v s))/\w.Grows w'):=by
 have HF:Hid (dF v s=none):=yq (by unfold dF;rw [if_pos h]);rw [HF.out];show Calls _ _ _ _ fun r w'=>r= .returned (.tuple #[.agg #[.int .i64 0,.bool false,.int .i64 0,.int .i64 0],.bool false])/\_;have HY:=yq hy;have HV:=yq (fun w' (hg:w.Grows w')=>jN v y w' hr (HY.out.grows hg));have HI:=yq (fun w=>jQ s w);obtain⟨-,a,c,rfl,-⟩:=hy;unfold vwV at HV ⊢;clear hr;by_cases hd:bQ s.toList=0
 ·rw [hd]at HI;clear h hd
  go_enter func123,ntmps123
  go_wp2_with (go_at_call 114;refine gw (HI.out _) ?_)
  exact lU
 ·rw [h.resolve_left hd]at HV;rw [decide_eq_true hd]at HI;clear h hd;generalize bQ s.toList=D at HI;have HG:Hid (∀o1 o2,w.Grows ((w.alloc o1).alloc o2)):=yq (fun o1 o2=>.of_below af)
  go_enter func123,ntmps123
  go_wp2_with (first
   |(go_at_call 114;refine gw (HI.out _) ?_)
   |(go_at_call 63;refine gvq (HV.out _ (HG.out _ _)) ?_;intro bs d))
  exact lU
theorem wU{s:List UInt8}(h:bQ s≠0):s= [98,97,115,101]\/s= [97,103,101]\/s= [121,101,97,114]\/s= [99,104,105,108,100,114,101,110]\/s= [105,110,115,117,114,101,100]\/s= [119,111,114,107,101,100]\/s= [118,111,108,117,110,116,97,114,121]\/s= [115,101,114,118,105,99,101]\/s= [101,113,117,97,116,101,100]\/s= [114,97,105,115,105,110,103]\/s= [114,101,115,105,100,101,110,116]:=by
 unfold bQ at h
 split at h
 ·rename_i c;rcases c with c|c|c<;>simp [c]
 ·split at h
  ·rename_i c;rcases c with c|c|c|c|c|c|c<;>simp [c]
  ·split at h
   ·rename_i c;simp [c]
   ·exact absurd rfl h
theorem Ca(v:Vw)(y:Value)(s:ByteArray)(w:World)(hr:dV v)(hy:bI w y v.years)(hd:bQ s.toList≠0)(hv:v.ok=true):(Calls prog 123 #[vwV v y,.string s] w fun r w'=>r= .returned (inV (dF v s))/\w.Grows w'):=by
 have HF:dF v s=some (.num (bQ s.toList) (v.numF s.toList).1 (v.numF s.toList).2):=by unfold dF;rw [if_neg (by rw [hv];simp [hd])]
 rw [HF];show Calls _ _ _ _ fun r w'=>r= .returned (.tuple #[.agg #[.int .i64 (bQ s.toList),.bool false,.int .i64 (v.numF s.toList).1,.int .i64 (v.numF s.toList).2],.bool true])/\_;have HY:=yq hy;have HV:=yq (fun w' (hg:w.Grows w')=>jN v y w' hr (HY.out.grows hg));have HI:=yq (fun w=>jQ s w);have HN:=yq (fun m n d w=>kN m n d w);unfold dY Val.num at HN;dsimp only at HN;obtain⟨-,a,c,rfl,-⟩:=hy;unfold vwV at HV ⊢;rw [hv]at HV;have hc:=wU hd;clear hr HF hv;have HG:Hid (∀o1 o2,w.Grows ((w.alloc o1).alloc o2)):=yq (fun o1 o2=>.of_below af);rcases hc with hs|hs|hs|hs|hs|hs|hs|hs|hs|hs|hs
 all_goals
  rw [hs]at HI hd ⊢;simp [bQ]at HI;simp only [bQ,Vw.numF];simp;clear hd
  go_enter func123,ntmps123
  go_wp2_with (first
   |(go_at_call 114;refine gw (HI.out _) ?_)
   |(go_at_call 63;refine gvq (HV.out _ (HG.out _ _)) ?_;intro bs d)
   |(go_at_call 93;refine gvq (HN.out _ _ _ _) ?_;intro bs2 d2))
  exact lU
theorem BX(v:Vw)(y:Value)(s:ByteArray)(w:World)(hr:dV v)(hy:bI w y v.years)(h:bQ s.toList=0\/v.ok=false):(Calls prog 77 #[vwV v y,.string s] w fun r w'=>r= .returned (inV (dF v s))/\w.Grows w'):=by
 have HF:Hid (dF v s=none):=yq (by unfold dF;rw [if_pos h]);rw [HF.out];show Calls _ _ _ _ fun r w'=>r= .returned (.tuple #[.agg #[.int .i64 0,.bool false,.int .i64 0,.int .i64 0],.bool false])/\_;have HY:=yq hy;have HV:=yq (fun w' (hg:w.Grows w')=>eY v y w' hr (HY.out.grows hg));have HI:=yq (fun w=>gJ s w);obtain⟨-,a,c,rfl,-⟩:=hy;unfold vwV at HV ⊢;clear hr;by_cases hd:bQ s.toList=0
 ·rw [hd]at HI;clear h hd
  go_enter func77,ntmps77
  go_wp2_with (go_at_call 55;refine gw (HI.out _) ?_)
  exact lU
 ·rw [h.resolve_left hd]at HV;rw [decide_eq_true hd]at HI;clear h hd;generalize bQ s.toList=D at HI;have HG:Hid (∀o1 o2,w.Grows ((w.alloc o1).alloc o2)):=yq (fun o1 o2=>.of_below af);exact RL
def Vw.at(v:Vw)(k:Nat):Int:=[v.age,v.year,v.children,v.insured,v.worked,v.voluntary,v.service,v.equated,v.raising,v.resident].getD k 0
theorem IW{v:Vw}{s:ByteArray}(h:bQ s.toList≠0)(hb:¬s.toList= [98,97,115,101]):∃j,j<10/\(lG j).toList=s.toList/\v.numF s.toList=(v.at j,1)/\∀k,k<11->k≠j->((lG k).toList==s.toList)=false:=by
 have hc:=(wU h).resolve_left hb;generalize s.toList=l at *;rcases hc with rfl|rfl|rfl|rfl|rfl|rfl|rfl|rfl|rfl|rfl
 ·exact⟨0,by omega,by decide+kernel,rfl,fun k h1 h2=>by rcases(show k=1\/k=2\/k=3\/k=4\/k=5\/k=6\/k=7\/k=8\/k=9\/k=10 by omega)with rfl|rfl|rfl|rfl|rfl|rfl|rfl|rfl|rfl|rfl<;>decide+kernel⟩
 ·exact⟨1,by omega,by decide+kernel,rfl,fun k h1 h2=>by rcases(show k=0\/k=2\/k=3\/k=4\/k=5\/k=6\/k=7\/k=8\/k=9\/k=10 by omega)with rfl|rfl|rfl|rfl|rfl|rfl|rfl|rfl|rfl|rfl<;>decide+kernel⟩
 ·exact⟨2,by omega,by decide+kernel,rfl,fun k h1 h2=>by rcases(show k=0\/k=1\/k=3\/k=4\/k=5\/k=6\/k=7\/k=8\/k=9\/k=10 by omega)with rfl|rfl|rfl|rfl|rfl|rfl|rfl|rfl|rfl|rfl<;>decide+kernel⟩
 ·exact⟨3,by omega,by decide+kernel,rfl,fun k h1 h2=>by rcases(show k=0\/k=1\/k=2\/k=4\/k=5\/k=6\/k=7\/k=8\/k=9\/k=10 by omega)with rfl|rfl|rfl|rfl|rfl|rfl|rfl|rfl|rfl|rfl<;>decide+kernel⟩
 ·exact⟨4,by omega,by decide+kernel,rfl,fun k h1 h2=>by rcases(show k=0\/k=1\/k=2\/k=3\/k=5\/k=6\/k=7\/k=8\/k=9\/k=10 by omega)with rfl|rfl|rfl|rfl|rfl|rfl|rfl|rfl|rfl|rfl<;>decide+kernel⟩
 ·exact⟨5,by omega,by decide+kernel,rfl,fun k h1 h2=>by rcases(show k=0\/k=1\/k=2\/k=3\/k=4\/k=6\/k=7\/k=8\/k=9\/k=10 by omega)with rfl|rfl|rfl|rfl|rfl|rfl|rfl|rfl|rfl|rfl<;>decide+kernel⟩
 ·exact⟨6,by omega,by decide+kernel,rfl,fun k h1 h2=>by rcases(show k=0\/k=1\/k=2\/k=3\/k=4\/k=5\/k=7\/k=8\/k=9\/k=10 by omega)with rfl|rfl|rfl|rfl|rfl|rfl|rfl|rfl|rfl|rfl<;>decide+kernel⟩
 ·exact⟨7,by omega,by decide+kernel,rfl,fun k h1 h2=>by rcases(show k=0\/k=1\/k=2\/k=3\/k=4\/k=5\/k=6\/k=8\/k=9\/k=10 by omega)with rfl|rfl|rfl|rfl|rfl|rfl|rfl|rfl|rfl|rfl<;>decide+kernel⟩
 ·exact⟨8,by omega,by decide+kernel,rfl,fun k h1 h2=>by rcases(show k=0\/k=1\/k=2\/k=3\/k=4\/k=5\/k=6\/k=7\/k=9\/k=10 by omega)with rfl|rfl|rfl|rfl|rfl|rfl|rfl|rfl|rfl|rfl<;>decide+kernel⟩
 ·exact⟨9,by omega,by decide+kernel,rfl,fun k h1 h2=>by rcases(show k=0\/k=1\/k=2\/k=3\/k=4\/k=5\/k=6\/k=7\/k=8\/k=10 by omega)with rfl|rfl|rfl|rfl|rfl|rfl|rfl|rfl|rfl|rfl<;>decide+kernel⟩
theorem Vw.at_days(v:Vw)(k:Nat):v.at (k+3)=v.ds.getD k 0:=rfl
theorem BZ(v:Vw)(y:Value)(s:ByteArray)(w:World)(hr:dV v)(hy:bI w y v.years)(hd:bQ s.toList≠0)(hv:v.ok=true)(hb:s.toList= [98,97,115,101]):(Calls prog 77 #[vwV v y,.string s] w fun r w'=>r= .returned (inV (dF v s))/\w.Grows w'):=by
 have HF:Hid (dF v s=some (.num (bQ s.toList) (v.numF s.toList).1 (v.numF s.toList).2)):=yq xu;rw [HF.out];show Calls _ _ _ _ fun r w'=>r= .returned (.tuple #[.agg #[.int .i64 (bQ s.toList),.bool false,.int .i64 (v.numF s.toList).1,.int .i64 (v.numF s.toList).2],.bool true])/\_;have HY:=yq hy;have HV:=yq (fun w' (hg:w.Grows w')=>eY v y w' hr (HY.out.grows hg));have HI:=yq (fun w=>gJ s w);obtain⟨-,a,c,rfl,-⟩:=hy;have HDS:=yq (fun w=>uY v (.slice a v.years.length c) w ⟨a,_,c,rfl⟩);unfold vwV at HV HDS ⊢;rw [hv]at HV;rw [decide_eq_true hd]at HI;clear hr HF hv;have HG:Hid (∀o1 o2,w.Grows ((w.alloc o1).alloc o2)):=yq (fun o1 o2=>.of_below af);have hN:v.numF s.toList=(v.bn,v.bd):=by rw [hb];rfl
 rw [hN];clear HDS hN hd;generalize bQ s.toList=D at *;have hb2:(s.toList== [98,97,115,101])=true:=by rw [hb];rfl
 exact RL
theorem EG(v:Vw)(y:Value)(s:ByteArray)(w:World)(hr:dV v)(hy:bI w y v.years)(hd:bQ s.toList≠0)(hv:v.ok=true)(hb:¬s.toList= [98,97,115,101]):(Calls prog 77 #[vwV v y,.string s] w fun r w'=>r= .returned (inV (dF v s))/\w.Grows w'):=by
 have HF:Hid (dF v s=some (.num (bQ s.toList) (v.numF s.toList).1 (v.numF s.toList).2)):=yq xu;rw [HF.out];show Calls _ _ _ _ fun r w'=>r= .returned (.tuple #[.agg #[.int .i64 (bQ s.toList),.bool false,.int .i64 (v.numF s.toList).1,.int .i64 (v.numF s.toList).2],.bool true])/\_;have HY:=yq hy;have HV:=yq (fun w' (hg:w.Grows w')=>eY v y w' hr (HY.out.grows hg));have HI:=yq (fun w=>gJ s w);obtain⟨-,a,c,rfl,-⟩:=hy;have HDS:=yq (fun w=>uY v (.slice a v.years.length c) w ⟨a,_,c,rfl⟩);unfold vwV at HV HDS ⊢;rw [hv]at HV;rw [decide_eq_true hd]at HI;clear hr HF hv;have HG:Hid (∀o1 o2,w.Grows ((w.alloc o1).alloc o2)):=yq (fun o1 o2=>.of_below af);obtain⟨j,hj,hjs,hN,hne⟩:=IW (v:=v) hd hb;rw [hN];clear hN hd;generalize bQ s.toList=D at *;have hb2:(s.toList== [98,97,115,101])=false:=by rw [beq_eq_false_iff_ne];exact hb
 have HNE:=yq hne;have HJS:Hid (((lG j).toList==s.toList)=true):=yq (by rw [hjs];simp);clear hb hjs hne;dsimp only
 go_enter func77,ntmps77
 go_wp2_with (first
  |(go_at_call 55;refine gw (HI.out _) ?_)
  |(go_at_call 16;refine gvq (HV.out _ (HG.out _ _)) ?_;intro bs d)
  |(go_at_call 69;refine gw (xR _) ?_)
  |(go_at_call 27;refine gvq (HDS.out _) ?_;intro bs2 d2))
 obtain⟨W,hW⟩:∃W,((((((w.alloc (.cells #[.int .i64 v.age,.int .i64 v.year,.int .i64 v.children,.int .i64 v.insured,.int .i64 v.worked,.int .i64 v.voluntary,.int .i64 v.service,.int .i64 v.equated,.int .i64 v.raising,.int .i64 v.resident,.int .i64 v.bn,.int .i64 v.bd,.slice a v.years.length c] 41)).alloc (.cells #[.int .i64 0,.bool false,.int .i64 0,.int .i64 0] 51)).grow bs d).alloc (.cells OU 9)).grow bs2 d2).alloc (.cells #[.int .i64 v.insured,.int .i64 v.worked,.int .i64 v.voluntary,.int .i64 v.service,.int .i64 v.equated,.int .i64 v.raising,.int .i64 v.resident] 81))=W:=⟨_,rfl⟩;have hg:w.Grows W:=by rw [<-hW];exact .of_below af
 have b0:W.cell? ⟨w.heap.size,0,none⟩=some (.int .i64 v.age):=by rw [<-hW];simp [go_sem]
 have b1:W.cell? ⟨w.heap.size,1,none⟩=some (.int .i64 v.year):=by rw [<-hW];simp [go_sem]
 have b2:W.cell? ⟨w.heap.size,2,none⟩=some (.int .i64 v.children):=by rw [<-hW];simp [go_sem]
 have r0:W.cell? ⟨w.heap.size+1,0,none⟩=some (.int .i64 0):=by rw [<-hW];simp [go_sem]
 have r1:W.cell? ⟨w.heap.size+1,1,none⟩=some (.bool false):=by rw [<-hW];simp [go_sem]
 have r2:W.cell? ⟨w.heap.size+1,2,none⟩=some (.int .i64 0):=by rw [<-hW];simp [go_sem]
 have r3:W.cell? ⟨w.heap.size+1,3,none⟩=some (.int .i64 0):=by rw [<-hW];simp [go_sem]
 have rf:∀j,W.frozen? ⟨w.heap.size+1,j,none⟩=false:=by intro j;rw [<-hW];simp [go_sem]
 have HA:Hid (∀k,k<7->W.cell? ⟨w.heap.size+1+1+bs.size+1+bs2.size,k,none⟩=some (.int .i64 (v.ds.getD k 0))):=yq (fun k hk=>by
  rw [<-hW,World.cell?_alloc_at _ _ _ _ zg]
  rcases(show k=0\/k=1\/k=2\/k=3\/k=4\/k=5\/k=6 by omega)with rfl|rfl|rfl|rfl|rfl|rfl|rfl<;>rfl)
 have HNM:Hid (∀k,k<11->W.cell? ⟨w.heap.size+1+1+bs.size,k,none⟩=some (.string (lG k))):=yq (fun k hk=>by
  rw [<-hW,World.cell?_alloc_lt _ _ _ zp,World.cell?_grow _ _ _ zg,World.cell?_alloc_at _ _ _ _ zg]
  exact Cc k hk)
 have hsz:w.heap.size+1<W.heap.size:=by rw [<-hW];simp;omega
 rw [hW];have HW:=yq hW;clear hW;have HG2:=yq hg;clear hg;generalize w.heap.size+1+1+bs.size+1+bs2.size=B2 at *;generalize w.heap.size+1+1+bs.size=B1 at *
 go_loopw [10,11] (fun v10 v11 wr=>∃k:Nat,k<=11/\v11= .int .i64 k/\v10= .int .i64 (if k<=j then 0 else v.at j)/\W=wr) (fun _ v11 _=>11-(intOf v11).toNat)
 case atStart=>exact⟨0,by omega,rfl,by simp,rfl⟩
 case round=>
  obtain⟨k,hk,rfl,rfl,rfl⟩:=hrel;by_cases hlt:k<11
  ·have x0:=HNM.out k hlt;have d1:(k:Int)<11:=by omega
   have HKL:=yq hlt;by_cases hkj:k=j
   ·subst hkj;have he:=HJS.out;generalize hN:lG k=nk at *;generalize hI:(if k<=k then(0:Int)else v.at k)=I0;clear hlt hN hI;by_cases h0:k=0
    ·subst h0
     go_wp2_with fail
     go_roundw
     case rel=>exact⟨1,by omega,rfl,by simp [Vw.at],zI⟩
     case measure=>simp [intOf]
    ·by_cases h1:k=1
     ·subst h1
      go_wp2_with fail
      go_roundw
      case rel=>exact⟨2,by omega,rfl,by simp [Vw.at],zI⟩
      case measure=>simp [intOf]
     ·by_cases h2:k=2
      ·subst h2
       go_wp2_with fail
       go_roundw
       case rel=>exact⟨3,by omega,rfl,by simp [Vw.at],zI⟩
       case measure=>simp [intOf]
      ·obtain⟨m,rfl⟩:∃m,k=m+3:=⟨k-3,by omega⟩;have hm7:m<7:=by omega
       have y0:=HA.out m hm7;have hm7i:(m:Int)<7:=by omega
       have HAT:=yq (Vw.at_days v m);generalize v.ds.getD m 0=dm at *;clear h0 h1 h2
       go_wp2_with fail
       go_roundw
       case rel=>exact⟨m+3+1,by omega,by go_num,by rw [if_neg ze,HAT.out],zI⟩
       case measure=>simp [intOf];omega
   ·have he:=HNE.out k hlt hkj;generalize hN:lG k=nk at *;have HI3:Hid ((if k<=j then(0:Int)else v.at j)=(if k+1<=j then(0:Int)else v.at j)):=yq (by split<;>split<;>first|rfl|omega);generalize hI:(if k<=j then(0:Int)else v.at j)=I0 at *;clear hlt hN hI
    go_wp2_with fail
    go_roundw
    case rel=>exact⟨k+1,by omega,by go_num,by rw [HI3.out],zI⟩
    case measure=>simp [intOf];have:=HKL.out;omega
  ·obtain rfl:k=11:=by omega
   rw [if_neg ze];have hW:=HW.out;subst hW;clear b0 b1 b2 r0 r1 r2 r3 rf HA HNM HG2 hsz HW;exact nE
end Go.Proofs.YtcfpoofhokbhlaaGreatDoor
