import Derived.Test.YtcfpoofhokbhlaaGreatDoorVBase
import Derived.Lib.Hide
import Derived.Deep.CutBlock
import Derived.RangeFuncNested
import Derived.RangeFuncBound
import Derived.RangeFuncCalls
import Derived.RangeFuncLeaves
import Derived.Shelf.Abstract
import Derived.Shelf.RegionOpen
import Derived.OwnWalkIn
import Derived.TacticsInMore
import Derived.LoopNIn
import Derived.LoopIn
import Derived.Laws.Strings
import Derived.Deep.QuietTactic
import Derived.BigRegion
import Derived.Deep.CutRange
import Derived.Deep.DeepCutAuto
import Derived.Deep.Matrix
import Derived.Deep.Fields
import Derived.OpenShut
import Derived.Laws.BytesArg
import Derived.Laws.OwnMore
import Derived.Deep.MidRow
import Derived.Sort.OwnSortedInts
import Derived.RangeFuncBox
import Derived.Maps.AppendAt
import Derived.Laws.IdiomCopy
import Derived.Deep.OwnRows
import Derived.Laws.AppendOwnNone
import Derived.JoinedOf
set_option linter.all false
set_option maxHeartbeats 16000000
set_option maxRecDepth 1000000
namespace Go
theorem zg{p:Prop}(h:p:=by simp):p:=h
theorem ze{p:Prop}(h:p:=by omega):p:=h
theorem zo{p:Prop}(h:p:=by decide):p:=h
theorem zZ{p:Prop}(h:p:=by exact hb):p:=h
theorem ye{p:Prop}(h:p:=by simp [e]):p:=h
theorem zH{p:Prop}(h:p:=by simp;done):p:=h
theorem zf{p:Prop}(h:p:=by kernel_rfl):p:=h
theorem zp{p:Prop}(h:p:=by simp;omega):p:=h
theorem zv{p:Prop}(h:p:=by assumption):p:=h
theorem zJ{p:Prop}(h:p:=by simp [grL]):p:=h
theorem zO{p:Prop}(h:p:=by simp [crL]):p:=h
theorem zP{p:Prop}(h:p:=by simp [seL]):p:=h
theorem zw{p:Prop}(h:p:=by rw [hl];rfl):p:=h
theorem zB{p:Prop}(h:p:=by simp [fQ]):p:=h
theorem yu{p:Prop}(h:p:=by rw [h];simp):p:=h
theorem zq{p:Prop}(h:p:=by decide+kernel):p:=h
theorem zE{p:Prop}(h:p:=by simp [go_sem]):p:=h
theorem zF{p:Prop}(h:p:=by simpa using h):p:=h
theorem zG{p:Prop}(h:p:=by simp;try omega):p:=h
theorem zY{p:Prop}(h:p:=by rw [h5];decide):p:=h
theorem yo{p:Prop}(h:p:=by simpa using hi):p:=h
theorem yp{p:Prop}(h:p:=by simpa using hk):p:=h
theorem yt{p:Prop}(h:p:=by simpa using hs):p:=h
theorem yF{p:Prop}(h:p:=by rw [hs];decide):p:=h
theorem yG{p:Prop}(h:p:=by simpa using h0):p:=h
theorem yH{p:Prop}(h:p:=by simpa using hj):p:=h
theorem yI{p:Prop}(h:p:=by simpa using x0):p:=h
theorem yk{p:Prop}(h:p:=by show B≤gg;omega):p:=h
theorem zr{p:Prop}(h:p:=by simp [go_sem,hs]):p:=h
theorem zI{p:Prop}(h:p:=by first|rfl|trivial):p:=h
theorem zX{p:Prop}(h:p:=by rw [←HCC.out];rfl):p:=h
theorem yE{p:Prop}(h:p:=by rw [←hfa];exact h):p:=h
theorem zW{p:Prop}(h:p:=by have:=HP.out;omega):p:=h
theorem zD{p:Prop}(h:p:=by unfold maxLen;omega):p:=h
theorem zM{p:Prop}(h:p:=by have:=HKL.out;omega):p:=h
theorem yD{p:Prop}(h:p:=by have:=HOP.out;omega):p:=h
theorem zV{p:Prop}(h:p:=by rw [←HX.out,←HZ.out]):p:=h
theorem yC{p:Prop}(h:p:=by rw [HF.out];simp [*]):p:=h
theorem zK{p:Prop}(h:p:=by have:=hdeep.out;omega):p:=h
theorem yB{p:Prop}(h:p:=by rw [HV0.out];simp [o]):p:=h
theorem yU{p:Prop}(h:p:=by simp [Value.ownBlock]):p:=h
theorem yV{p:Prop}(h:p:=by simp only [c1,c2];rfl):p:=h
theorem yA{p:Prop}(h:p:=by show w.heap.size<_;omega):p:=h
theorem yT{p:Prop}(h:p:=by show Bs<w.heap.size;omega):p:=h
theorem zS{p:Prop}(h:p:=by show w.heap.size+1+1<_;omega):p:=h
theorem yS{p:Prop}(h:p:=by unfold eT;split<;>simp_all):p:=h
theorem zC{p:Prop}(h:p:=by simp [go_sem,hs,AP]):p:=h
theorem yz{p:Prop}(h:p:=by rw [HST.out,if_neg (by simp)]):p:=h
theorem zL{p:Prop}(h:p:=by have:=He.out;have:=HA.out;omega):p:=h
theorem yj{p:Prop}(h:p:=by rw [he];exact List.mem_cons_self):p:=h
theorem yi{p:Prop}(h:p:=by rw [mr];unfold fP;omega):p:=h
theorem yR{p:Prop}(h:p:=by have:=HSL.out;simp at this ⊢;omega):p:=h
theorem zR{p:Prop}(h:p:=by unfold VwR.d;rw [if_pos (by omega)]):p:=h
theorem yQ{p:Prop}(h:p:=by intro h;unfold eT;rw [if_pos h];rfl):p:=h
theorem yg{p:Prop}(h:p:=by show wc.heap.size<wc.heap.size+1;omega):p:=h
theorem yP{p:Prop}(h:p:=by rw [he];exact List.mem_cons_of_mem _ ht):p:=h
theorem yO{p:Prop}(h:p:=by rw [World.cell?_alloc_at _ _ _ _ rfl];rfl):p:=h
theorem yx{p:Prop}(h:p:=by have:=hbig.out;have:=HA.out;show _≤_;omega):p:=h
theorem xF{p:Prop}(h:p:=by rw [show(5:Int) ^ 6=15625 by decide];omega):p:=h
theorem yw{p:Prop}(h:p:=by first|exact aI|exact .of_below af):p:=h
theorem xE{p:Prop}(h:p:=by rw [hB,←hW5];exact bP _ _ _ (by simp)):p:=h
theorem xD{p:Prop}(h:p:=by rw [dX];unfold eG;rw [if_pos h1]):p:=h
theorem xA{p:Prop}(h:p:=by have:=HG4.out.below.size;simp at this ⊢;omega):p:=h
theorem xB{p:Prop}(h:p:=by have:=cZ R.base 1000000 (by omega);omega):p:=h
theorem xC{p:Prop}(h:p:=by rw [←hg.out,hst];simp only [gV];rw [hD];rfl):p:=h
theorem xz{p:Prop}(h:p:=by rw [←Int.natCast_mul];exact wrapN _ (by omega)):p:=h
theorem xw{p:Prop}(h:p:=by have:=(hl.word j (by omega)).1;simpa using this):p:=h
theorem xx{p:Prop}(h:p:=by rw [HF.out,decide_eq_false (fun h=>g2 h.1)];rfl):p:=h
theorem xu{p:Prop}(h:p:=by unfold dF;rw [if_neg (by rw [hv];simp [hd])]):p:=h
theorem xv{p:Prop}(h:p:=by unfold kH;rw [←H1.out,←HX.out];exact HRD.out.1):p:=h
theorem yf{p:Prop}(h:p:=by rw [HF2.out];try exact decide_eq_false (by omega)):p:=h
theorem xr{p:Prop}(h:p:=by rw [HF.out,En s e.args k hlt HB.out];simp):p:=h
theorem xt{p:Prop}(h:p:=by rw [hk,decide_eq_false s5,decide_eq_false s6];rfl):p:=h
theorem xq{p:Prop}(h:p:=by unfold grR;exact List.mem_flatMap.2 ⟨_,hm,by simp⟩):p:=h
theorem xp{p:Prop}(h:p:=by rw [HF.out,decide_eq_true ho,decide_eq_true hn];rfl):p:=h
theorem zA{p:Prop}(h:p:=by first|exact⟨_,_,World.grow_grow _ _ _ _ _⟩|exact⟨_,_,rfl⟩):p:=h
theorem xj{p:Prop}(h:p:=by intro u hu;simp at hu;rcases hu with rfl|rfl|rfl|rfl|rfl<;>rfl):p:=h
theorem xo{p:Prop}(h:p:=by rw [ByteArray.size_append];unfold maxLen;show s.size+1≤_;omega):p:=h
theorem zU{p:Prop}(h:p:=by rw [HQ.out];first|rw [if_pos (by omega)]|rw [if_neg (by omega)]):p:=h
theorem yN{p:Prop}(h:p:=by rw [tJ (by have:=HKL.out;omega)];exact tT HNO.out):p:=h
theorem yM{p:Prop}(h:p:=by show(WR.alloc _).cell? _=_;rw [World.cell?_alloc_at _ _ _ _ rfl];rfl):p:=h
theorem xi{p:Prop}(h:p:=by have:=HT.out;unfold mT at this;rw [List.take_length]at this;exact this):p:=h
theorem xg{p:Prop}(h:p:=by have:=HTB.out (by rw [HST.out];exact hc);rw [HST.out]at this;exact this):p:=h
theorem xf{p:Prop}(h:p:=by rw [←hW];exact(World.heap_grow _ _ _ (by simp)).trans (bP _ _ _ rfl)):p:=h
theorem zQ{p:Prop}(h:p:=by first|exact⟨_,_,World.grow_grow _ _ _ _ _⟩|exact⟨_,_,rfl⟩|exact .of_below af):p:=h
theorem xe{p:Prop}(h:p:=by rw [dX];unfold eG;rw [if_neg (by omega),if_neg (by omega),if_pos h1]):p:=h
theorem yL{p:Prop}(h:p:=by rw [tJ (by have:=HKL.out;omega)];exact tQ j hji (decide_eq_true he)):p:=h
theorem xb{p:Prop}(h:p:=by rw [List.getElem?_map,List.getD_eq_getElem?_getD,List.getElem?_eq_getElem hk];rfl):p:=h
theorem zN{p:Prop}(h:p:=by first|exact bP _ _ _ (by simp)|exact(World.heap_grow _ _ _ (by simp)).trans (bP _ _ _ (by simp))):p:=h
theorem yZ{p:Prop}(h:p:=by have h5:=rz (env:=env) (e:=ek) (.inl hd);have:=HTB.out (by rw [h5];decide);rw [h5]at this;exact this):p:=h
theorem yY{p:Prop}(h:p:=by have h5:=rz (env:=env) (e:=ek) (.inr hnb);have:=HTB.out (by rw [h5];decide);rw [h5]at this;exact this):p:=h
theorem yK{p:Prop}(h:p:=by intro u hu;simp only [List.mem_cons,List.not_mem_nil,or_false]at hu;rcases hu with rfl|rfl|rfl|rfl|rfl|rfl|rfl|rfl<;>rfl):p:=h
theorem yX{p:Prop}(h:p:=by rw [show((WR.alloc (.cells #[.int .i64 x] 3)).drew).cell? ⟨b,off,none⟩=WR.cell? ⟨b,off,none⟩from World.cell?_alloc_lt WR _ ⟨b,off,none⟩ hbw];exact x0):p:=h
theorem yJ{p:Prop}(h:p:=by rw [show((WR.alloc (.cells #[.int .i64 x] 3)).drew).cell? ⟨b,off+k,none⟩=WR.cell? ⟨b,off+k,none⟩from World.cell?_alloc_lt WR _ ⟨b,off+k,none⟩ hbw];exact x0):p:=h
theorem zx{p:Prop}(h:p:=by(repeat' (first|(with_reducible exact he.out)|(with_reducible refine aZ.alloc ?_ _)|(with_reducible refine aZ.grow ?_ _ _)|(with_reducible refine aZ.drewN ?_ _)|(with_reducible refine aZ.src ?_ _ _ _)))):p:=h
theorem zu{p:Prop}(h:p:=by(repeat' (first|(with_reducible exact hl.out)|(with_reducible refine aH.alloc ?_ _)|(with_reducible refine aH.grow ?_ _ _)|(with_reducible refine aH.drewN ?_ _)|(with_reducible refine aH.src ?_ _ _ _)))):p:=h
theorem zT{p:Prop}(h:p:=by(repeat' (first|(with_reducible exact Below.refl _ _)|(with_reducible assumption)|(with_reducible refine Below.grow ?_ ?_ _ _)|(with_reducible refine Below.alloc ?_ ?_ _)|(with_reducible refine Below.drewN ?_ _)|(with_reducible refine Below.drew ?_)|(with_reducible refine Below.setCell ?_ ?_ _)|go_size))):p:=h
theorem yW{p:Prop}(h:p:=by(repeat' (first|(with_reducible exact Below.refl _ _)|(with_reducible assumption)|(with_reducible refine Below.grow ?_ ?_ _ _)|(with_reducible refine Below.alloc ?_ ?_ _)|(with_reducible refine Below.drewN ?_ _)|(with_reducible refine Below.drew ?_)|(with_reducible refine Below.src ?_ ?_ _ _ _)|(with_reducible refine Below.setCell ?_ ?_ _)|go_size))):p:=h
theorem yq{P:Prop}(h:P):RowKit.Hid P:=h
theorem vz0{p:Prop}(h:p:=by
 go_wp2_with fail
 all_goals try(first|(go_quiet (fail);go_wp2_with fail)|(go_region;go_wp2_with fail))
 all_goals
  go_returns
  have hR:=HR.out;have hX:=HX.out;have h0:∀t:Int,1≤t→(t=0)=False:=fun t h=>eq_false (by omega);simp [av]at hR;refine Sm ?_ ?_ (.of_below af)
  all_goals
   rw [←hR]
   try((repeat' split)<;>first|(simp_all;done)|(simp [*];done)|(simp_all;omega)|skip)):p:=h
theorem vz1{p:Prop}(h:p:=by
 go_wp2_with fail
 all_goals try(first|(go_quiet (fail);go_wp2_with fail)|(go_region;go_wp2_with fail))
 all_goals
  go_returns
  have hR:=HR.out;have hX:=HX.out;have h0:∀t:Int,1≤t→(t=0)=False:=fun t h=>eq_false (by omega);simp [av]at hR;refine Sl ?_ (.of_below af);rw [←hR]
  try((repeat' split)<;>first|(simp_all;done)|(simp [*];done)|(simp_all;omega)|skip)):p:=h
theorem vz2{p:Prop}(h:p:=by
 obtain⟨k,hk,rfl,hg,HS⟩:=hrel;have HG:=Lib.hid hg;by_cases hlt:k<sa.length
 ·obtain⟨ba,oa,rfl,hba,p0,p1,p2,p3,p4⟩:=wB (HA.out.grows hg) hlt;have hB:=HB.out.grows hg;rw [←hl]at hB;obtain⟨bb,ob,rfl,hbb,q0,q1,q2,q3,q4⟩:=wB hB (j:=k) (by omega);have d1:(k:Int)<(sa.length:Int):=by omega
  have HL:=Lib.hid hlt;by_cases he:Fw (stN sa k,stV sa k) (stN sb k,stV sb k)
  ·have HN:Hid (∀j,j<k+1→Fw (stN sa j,stV sa j) (stN sb j,stV sb j)):=Lib.hid (fun j hj=>by
    rcases Nat.lt_or_eq_of_le (Nat.le_of_lt_succ hj)with h|rfl
    ·exact HS.out j h
    ·exact he)
   obtain⟨e1,e2,e3,e4,e5⟩:=he;simp only at e1 e2 e3 e4 e5;rw [←e1]at q0;rw [←e2]at q1;rw [←e3]at q2;rw [←e4]at q3;rw [←e5]at q4;clear e1 e2 e3 e4 e5 hB hg hlt hk;generalize stN sa k=nm at *;generalize stV sa k=x at *
   go_wp2_with fail
   go_region
   go_wp2_with fail
   go_roundw
   case rel=>exact⟨k+1,HL.out,by go_num,gqq HG.out ag,HN⟩
   case measure=>simp [intOf];have:=HL.out;omega
  ·have HE:=Lib.hid he;have HNE:Hid (¬sa=sb):=Lib.hid (fun h=>he (by subst h;exact⟨rfl,rfl,rfl,rfl,rfl⟩));unfold Fw at he;generalize stN sa k=nm at *;generalize stV sa k=x at *;generalize stN sb k=nm2 at *;generalize stV sb k=y at *;clear hg hlt hk hB;by_cases a1:nm=nm2
   ·subst a1;by_cases a2:x.dim=y.dim
    ·rw [←a2]at q1;by_cases a3:x.yes=y.yes
     ·rw [←a3]at q2;by_cases a4:x.n=y.n
      ·rw [←a4]at q3;have a5:¬x.d=y.d:=fun e=>he ⟨rfl,a2,a3,a4,e⟩;clear he
       go_wp2_with fail
       go_region
       go_wp2_with fail
       go_returns
       exact⟨false,rfl,⟨fun h=>absurd h (by decide),fun h=>absurd h HNE.out⟩,gqq HG.out ag⟩
      ·clear he
       go_wp2_with fail
       go_region
       go_wp2_with fail
       go_returns
       exact⟨false,rfl,⟨fun h=>absurd h (by decide),fun h=>absurd h HNE.out⟩,gqq HG.out ag⟩
     ·clear he
      go_wp2_with fail
      go_region
      go_wp2_with fail
      go_returns
      exact⟨false,rfl,⟨fun h=>absurd h (by decide),fun h=>absurd h HNE.out⟩,gqq HG.out ag⟩
    ·clear he
     go_wp2_with fail
     go_region
     go_wp2_with fail
     go_returns
     exact⟨false,rfl,⟨fun h=>absurd h (by decide),fun h=>absurd h HNE.out⟩,gqq HG.out ag⟩
   ·have a0:¬nm.toList=nm2.toList:=fun e=>a1 (by rw [ByteArray.toList_eq,ByteArray.toList_eq]at e;exact ByteArray.ext (Array.toList_inj.1 e));clear he
    go_wp2_with fail
    go_region
    go_wp2_with fail
    go_returns
    exact⟨false,rfl,⟨fun h=>absurd h (by decide),fun h=>absurd h HNE.out⟩,gqq HG.out ag⟩
 ·obtain rfl:k=sa.length:=by omega
  have HQ:Hid (sa=sb):=Lib.hid (by
   refine List.ext_getElem hl fun j h1 h2=>?_;have:=(HS.out j h1).eq;rw [Bn,Bn]at this
   simpa [List.getD_eq_getElem?_getD,List.getElem?_eq_getElem h1,List.getElem?_eq_getElem h2]using this)
  clear hg hlt hk
  go_wp2_with fail
  go_returns
  exact⟨_,rfl,⟨fun _=>HQ.out,fun _=>rfl⟩,HG.out⟩):p:=h
theorem vz3{p:Prop}(h:p:=by
 clear HR;have HR:=Lib.hid hR;have HX:=Lib.hid hX;clear hR hX
 go_enter Tryz.func163,Tryz.ntmps163
 by_cases e1:x=y
 focus
  subst e1
 rotate_left
 focus
  have f1:(x==y)=false:=by simpa using e1
  have g1:(y==x)=false:=by simpa using fun h=>e1 h.symm
 rotate_left
 all_goals
  exact vz0):p:=h
theorem vz4{p:Prop}(h:p:=by
 clear HR;have HR:=Lib.hid hR;have HX:=Lib.hid hX;clear hR hX
 go_enter Tryz.func105,Tryz.ntmps105
 by_cases e1:x=y
 focus
  subst e1
 rotate_left
 focus
  have f1:(x==y)=false:=by simpa using e1
  have g1:(y==x)=false:=by simpa using fun h=>e1 h.symm
 rotate_left
 all_goals
  exact vz1):p:=h
theorem vz5{p:Prop}(h:p:=by
 go_enter Tryz.func68,Tryz.ntmps68
 go_wp2_with ((first|(go_at_call 53;(with_reducible refine gvq (bZ _ _ _ (by omega) (by omega) (by omega) (by omega)) ?_);intro bs dr;simp only [hv])|(go_at_call 102;(with_reducible refine gvq (gK _ _ _ (by omega) (by omega) (by omega) (by omega)) ?_);intro bs2 dr2;simp only [hq.out])))
 go_returns
 exact⟨by rw [PD (by simp [dG, *]<;>(intros;omega))];rfl,.of_below af⟩):p:=h
theorem vz6{p:Prop}(h:p:=by
 intro v3 w3 hown3 hgrow3;have HB3:=Lib.hid (HB2.out.grown hgrow3 HB2.out.size (fun k hk=>(HO2.out.lt k hk).1));have HO3:=Lib.hid hown3;clear hown3 hgrow3;refine TG.go hK1 ?_ (fun hS=>?_);focus exact(HB3.out.cell (p:=⟨b,off+k,none⟩) hbw).trans x0
 clear hK1 K1
 (try simp only [nS])
 refine TG.one (i:=14) (by kernel_rfl) rfl (fun K1 hK1=>?_)
 go_simp
 refine hK1 _ _ (fun h=>absurd rfl h) (TG.done (by kernel_rfl) ?_);clear hK1 K1 hS
 (try simp only [nS])
 go_wp2_with fail
 go_roundw
 case rel=>
  have ho:=HO3.out;have hl2:a0+1+(k-a0)=k+1:=by have:=HEQ.out;omega
  rw [hl2]at ho;refine⟨k+1,v3,rfl,HKL.out,by go_num,fun h=>by omega,HB.out.trans (HB3.out.mono hsW), ?_⟩;rw [HI2.out];have ho2:=kV ho hsW;simpa using ho2
 case measure=>simp [intOf];have:=HKL.out;omega):p:=h
theorem vz7{p:Prop}(h:p:=by
 rcases g3 with ⟨rfl,rfl,g5⟩|⟨rfl,rfl,g5⟩|⟨rfl,rfl,g5⟩|⟨rfl,rfl,g5⟩|⟨rfl,rfl,g5⟩
 ·have g7:=Lib.hid (sG s (r / 1000) (by omega) (by omega));have g8:=Lib.hid (AJ 3 r 1000 s g0)
  go_wp2_with fail
  go_quiet (fail)
  go_wp2_with fail
  go_roundw
  case rel=>exact⟨3,_,_,_,rfl,rfl,rfl,by omega,by rw [g7.out];omega,by simp;omega,Lib.hid (by rw [←g4.out,g8.out];rfl),.of_below af⟩
  case measure=>simp [intOf]
 ·have g7:=Lib.hid (sG s (r / 100) (by omega) (by omega));have g8:=Lib.hid (AJ 2 r 100 s g0)
  go_wp2_with fail
  go_quiet (fail)
  go_wp2_with fail
  go_roundw
  case rel=>exact⟨2,_,_,_,rfl,rfl,rfl,by omega,by rw [g7.out];omega,by simp;omega,Lib.hid (by rw [←g4.out,g8.out];rfl),.of_below af⟩
  case measure=>simp [intOf]
 ·have g7:=Lib.hid (sG s (r / 10) (by omega) (by omega));have g8:=Lib.hid (AJ 1 r 10 s g0)
  go_wp2_with fail
  go_quiet (fail)
  go_wp2_with fail
  go_roundw
  case rel=>exact⟨1,_,_,_,rfl,rfl,rfl,by omega,by rw [g7.out];omega,by simp;omega,Lib.hid (by rw [←g4.out,g8.out];rfl),.of_below af⟩
  case measure=>simp [intOf]
 ·have g7:=Lib.hid (sG s r (by omega) (by omega));have g8:Hid (kQ 1 r 1 s=kQ 0 0 0 (s++oN.extract r.toNat (r+1).toNat)):=Lib.hid (by simp [kQ,g0])
  go_wp2_with fail
  go_quiet (fail)
  go_wp2_with fail
  go_roundw
  case rel=>exact⟨0,_,_,_,rfl,rfl,rfl,by omega,by rw [g7.out];omega,by simp,Lib.hid (by rw [←g4.out,g8.out];rfl),.of_below af⟩
  case measure=>simp [intOf]
 ·omega):p:=h
theorem vz8{p:Prop}(h:p:=by
 go_wp2_with ((first|(go_at_call 114;refine gw (HI5.out _) ?_)|(go_at_call 115;refine gvq (HN5.out _ (HT1.out.grows ag)) ?_;intro bs1 d1')|(go_at_call 116;refine gvq (HDC.out _ _ ((World.heap_grow _ _ _ (by simp)).trans (bP _ _ _ (by simp))) ag) ?_;intro bs2 d2')|(go_at_call 118;refine gvq (HIF.out _ ag) ?_;intro bs3 d3')))
 go_returns
 exact lw.bad HC.out (gqq HG.out ag)):p:=h
theorem vz9{p:Prop}(h:p:=by
 go_enter Tryz.func191,Tryz.ntmps191
 apply wp_seq_k;intro K1 hK1;have HK1:=Lib.hid hK1;clear hK1
 go_wp2_with fail
 refine HK1.out _ _ ?_;clear HK1 K1;apply wp_seq_k;intro K2 hK2;have HK2:=Lib.hid hK2;clear hK2
 go_wp2_with fail
 refine HK2.out _ _ ?_;clear HK2 K2;apply wp_seq_k;intro K3 hK3;have HK3:=Lib.hid hK3;clear hK3
 go_wp2_with fail
 refine HK3.out _ _ ?_;rw [HF.out]
 exact Pz _ _ _ _ _ w Mo (Lib.hid (fun w=>PX _ w HE.out)) _ _ _ _ _ _ _ _ _ _ _ _ _ _ _ _ _ _ _ _ _ _ _ _ _ _ _ _ _ _ _ _ _ _ _ _ _ _ _ _ _ _ _ _ _ _ _ _ _ _ _ _ _ _ _ _ _ _ _ _ _ _ _ _ _ _ _ _ _ _ _ _ _ _ _ _ _ _ _ _ _ _ _ _ _ _ _ _ _ _ _ _ _ _ _ _ _ _ _ _ _ _ _ _ _ _ _ _ _ _ _ _ _ _ _ _ _ _ _ _ _ _ _ _ _ _ _ _ _ _ _ _ _ _ _ _ _ _ _):p:=h
theorem lU{p:Prop}(h:p:=by
 go_returns
 exact⟨rfl,.of_below af⟩):p:=h
theorem M8{p:Prop}(h:p:=by
 clear hs hno HDEC h1
 go_wp2_with ((go_at_call 191;(with_reducible refine gvq (HD.out _) ?_);intro bsd drd))
 all_goals
  go_returns
  exact jS.no HO.out (.of_below af)):p:=h
theorem Qs{p:Prop}(h:p:=by
 go_wp2_with fail
 go_returns
 exact⟨au HF.out.symm,.of_below af⟩):p:=h
theorem RY{p:Prop}(h:p:=by
 go_wp2_with ((go_at_call 191;(with_reducible refine gvq (HD.out _) ?_);intro bsd drd))
 go_returns
 exact jS.no HO.out (.of_below af)):p:=h
theorem RX{p:Prop}(h:p:=by
 clear hdk;have HBD:Hid (¬(0≤dk∧dk≤73049)→v.ok=false):=Lib.hid (fun h=>HB.out k HKL.out (by rw [HDK.out];unfold ed;exact decide_eq_false h));by_cases q1:dk<0
 ·go_wp2_with fail
  go_returns
  exact⟨au (HBD.out (by omega)).symm,World.Grows.trans HG2.out (.of_below af)⟩
 ·by_cases q2:dk > 73049
  ·go_wp2_with fail
   go_returns
   exact⟨au (HBD.out (by omega)).symm,World.Grows.trans HG2.out (.of_below af)⟩
  ·go_wp2_with fail
   go_roundw
   case rel=>exact⟨k+1,HKL.out,by go_num,Lib.hid (fun j hj=>by
    by_cases ej:j=k
    ·subst ej;rw [HDK.out];unfold ed;exact decide_eq_true (by omega)
    ·exact hno.out j (by omega)),(by first|rfl|trivial)⟩
   case measure=>simp [intOf];have:=HKL.out;omega):p:=h
theorem RV{p:Prop}(h:p:=by
 by_cases cd:d=1
 focus
  subst cd
  go_enter Tryz.func102,Tryz.ntmps102
 rotate_left
 focus
  go_enter Tryz.func102,Tryz.ntmps102
 rotate_left
 all_goals
  go_wp2_with ((first|(go_at_call 53;(with_reducible refine gvq (bZ _ _ _ (by omega) (by omega) (by omega) (by omega)) ?_);intro bs dr;simp only [hv])|(go_at_call 23;(with_reducible refine gw (fO _ _ (by omega) (by omega)) ?_))|(go_at_call 135;(with_reducible refine gw (rO _ _ (by omega) (by omega)) ?_))))
  go_returns
  exact⟨FQ (by simp [xG, *]<;>(intro _;omega)),.of_below af⟩):p:=h
theorem Qq{p:Prop}(h:p:=by
 clear HR;have HR:=Lib.hid hR;have HX:=Lib.hid hX;clear hR hX
 go_enter Tryz.func163,Tryz.ntmps163
 by_cases e1:x=1
 focus
  subst e1
 rotate_left
 focus
  have f1:(x==1)=false:=by simpa using e1
  have g1:(1==x)=false:=by simpa using fun h=>e1 h.symm
 rotate_left
 all_goals
  exact vz0):p:=h
theorem Qp{p:Prop}(h:p:=by
 clear HR;have HR:=Lib.hid hR;have HX:=Lib.hid hX;clear hR hX
 go_enter Tryz.func105,Tryz.ntmps105
 by_cases e1:x=1
 focus
  subst e1
 rotate_left
 focus
  have f1:(x==1)=false:=by simpa using e1
  have g1:(1==x)=false:=by simpa using fun h=>e1 h.symm
 rotate_left
 all_goals
  exact vz1):p:=h
theorem RU{p:Prop}(h:p:=by
 have hn:an.natAbs*bd.natAbs=bn.natAbs*ad.natAbs:=by rw [←Int.natAbs_mul,h,Int.natAbs_mul]
 have d1:ad.natAbs ∣ bd.natAbs:=Nat.Coprime.dvd_of_dvd_mul_left (k:=ad.natAbs) (m:=an.natAbs) (Nat.Coprime.symm p) ⟨bn.natAbs,by rw [hn,Nat.mul_comm]⟩;have d2:bd.natAbs ∣ ad.natAbs:=Nat.Coprime.dvd_of_dvd_mul_left (k:=bd.natAbs) (m:=bn.natAbs) (Nat.Coprime.symm q) ⟨an.natAbs,by rw [←hn,Nat.mul_comm]⟩;have e:=Nat.dvd_antisymm d1 d2;have e':ad=bd:=by omega
 subst e'
 exact⟨Int.eq_of_mul_eq_mul_right (by omega) h,rfl⟩):p:=h
theorem Qo{p:Prop}(h:p:=by
 rw [hs]at HD;simp only [mF]at HD;have HO:=Lib.hid (And.intro hy ht);clear hs hy ht HDEC
 go_wp2_with ((go_at_call 191;(with_reducible refine gvq (HD.out _) ?_);intro bsd drd))
 go_returns
 exact jS.yes HO.out.1 HO.out.2 (.of_below af)):p:=h
theorem GJ{p:Prop}(h:p:=by
 go_wp2
 go_returns
 exact⟨au (by first|rfl|(simp;done)|(simp;omega)),.of_below af⟩):p:=h
theorem RS{p:Prop}(h:p:=by
 intro e' u hu;refine(hu.mono' (S':=fun b=>(base≤b∧v.ownBlock≠some b)∧g≠b) ?_|>.keep hg.size ?_).mono ?_
 ·rintro b ⟨h1,h2⟩ hlt;refine⟨⟨h1,h2⟩, ?_⟩;rcases hat with hat|hat
  ·intro e;exact h2 (by rw [hat,e])
  ·omega
 ·rintro b o ⟨⟨_,h2⟩,_⟩ hlt;exact World.cell?_of_block (hg.block b hlt (Ne.symm h2))
 ·rintro b ⟨⟨h1,_⟩,h3⟩
  exact⟨h1,by simpa [Value.ownBlock]using h3⟩):p:=h
theorem GI{p:Prop}(h:p:=by
 clear h;obtain⟨a,n,c,rfl⟩:=hy;unfold vwV
 go_enter Tryz.func16,Tryz.ntmps16
 exact Qs):p:=h
theorem GH{p:Prop}(h:p:=by
 clear h;obtain⟨a,n,c,rfl⟩:=hy;unfold vwV
 go_enter Tryz.func63,Tryz.ntmps63
 exact Qs):p:=h
theorem Kb{p:Prop}(h:p:=by
 go_enter Tryz.func67,Tryz.ntmps67
 go_wp2
 go_returns
 exact⟨ret_int (by simp [aU];omega),rfl⟩):p:=h
theorem M7{p:Prop}(h:p:=by
 go_enter Tryz.func181,Tryz.ntmps181
 go_wp2_with fail
 go_returns
 exact jS.no (Jn (by omega)) (.of_below af)):p:=h
theorem nE{p:Prop}(h:p:=by
 go_wp2_with fail
 exact lU):p:=h
theorem RQ{p:Prop}(h:p:=by
 refine⟨?_, ?_, ?_, ?_⟩
 ·rw [hh _ (by omega) (by omega)];exact HM.out.nm
 ·rw [Below.heap_setCell _ _ _ _ (by show w.heap.size+1≠w.heap.size+2;omega)];exact Joins.block_setCell HM.out.res _
 ·exact Joins.block_setCell ((Below.heap_setCell _ _ _ _ (by show w.heap.size+2≠w.heap.size+1;omega)).trans HM.out.ok) _
 ·simp;omega):p:=h
theorem RP{p:Prop}(h:p:=by
 go_enter Tryz.func192,Tryz.ntmps192
 go_wp2_with ((first|(go_at_call 198;(with_reducible refine gw (fu _ _) ?_);simp only [hL])|(go_at_call 199;(with_reducible refine gw (iQ _ _) ?_);simp only [hI])))
 go_ret
 exact⟨au hw.symm,rfl⟩):p:=h
theorem RO{p:Prop}(h:p:=by
 have hW:=HW.out;rw [←hW];refine⟨by rw [Below.heap_alloc _ _ _ (by simp)];exact World.alloc_heap_new _ _, ?_,Nat.zero_le _⟩;have:=World.alloc_heap_new (w.alloc (.cells #[.string s] 9)) (.cells #[.int .i64 0,.bool false,.int .i64 0,.int .i64 0] 51);rw [World.size_alloc]at this
 exact this):p:=h
theorem xX{p:Prop}(h:p:=by
 obtain⟨-,a,c,h,-⟩:=hy
 exact⟨a,c,h⟩):p:=h
theorem xW{p:Prop}(h:p:=by
 obtain⟨-,a,c,h,-⟩:=hs
 exact⟨a,c,h⟩):p:=h
theorem Qn{p:Prop}(h:p:=by
 rw [hs]at HD;simp only [mF]at HD;have HO:=Lib.hid hno;have q1:(a==n)=false:=by simpa using h1
 clear hs hno HDEC h1
 exact RY):p:=h
theorem RN{p:Prop}(h:p:=by
 go_wp2_with ((first|(go_at_call 55;refine gw (HI5.out _) ?_)|(go_at_call 56;refine gw (HN5.out _) ?_)))
 go_returns
 exact rT.bad HC.out (gqq HG.out ag)):p:=h
theorem RL{p:Prop}(h:p:=by
 go_enter Tryz.func77,Tryz.ntmps77
 go_wp2_with (first
  |(go_at_call 55;refine gw (HI.out _) ?_)
  |(go_at_call 16;refine gvq (HV.out _ (HG.out _ _)) ?_;intro bs d))
 exact lU):p:=h
theorem Qm{p:Prop}(h:p:=by
 rw [hs]at HD;simp only [mF]at HD;have HO:=Lib.hid hno;have q1:(b==d)=false:=by simpa using h1
 exact M8):p:=h
theorem Ql{p:Prop}(h:p:=by
 clear HR;have HR:=Lib.hid hR;have HX:=Lib.hid hX;clear hR hX
 go_enter Tryz.func163,Tryz.ntmps163
 exact vz0):p:=h
theorem Qk{p:Prop}(h:p:=by
 clear HR;have HR:=Lib.hid hR;have HX:=Lib.hid hX;clear hR hX
 go_enter Tryz.func105,Tryz.ntmps105
 exact vz1):p:=h
theorem RJ{p:Prop}(h:p:=by
 exact⟨Int.emod_eq_zero_of_dvd (Int.natAbs_dvd_natAbs.1 (Nat.dvd_trans h (Nat.gcd_dvd_left _ _))),Int.emod_eq_zero_of_dvd (Int.natAbs_dvd_natAbs.1 (Nat.dvd_trans h (Nat.gcd_dvd_right _ _)))⟩):p:=h
theorem RI{p:Prop}(h:p:=by
 obtain⟨h0,a,cap,hv,h1⟩:=h;refine⟨h0,a,cap,hv,h1.imp id ?_⟩;rintro⟨b,off,ha,hb,hc⟩;have:=hg.below.size
 exact⟨b,off,ha,by omega,fun i hi=>(hc i hi).imp fun u hu=>hu.same hg hb⟩):p:=h
theorem Qj{p:Prop}(h:p:=by
 rw [List.take_succ_eq_append_getElem hk,List.getD_eq_getElem?_getD,List.getElem?_eq_getElem hk];rfl):p:=h
theorem RH{p:Prop}(h:p:=by
 simp only [World.src,World.setCell]
 congr 1
 apply Array.ext_getElem?;intro k;simp only [Array.getElem?_modify,Array.getElem?_setIfInBounds];by_cases hk:s=k
 ·subst hk;simp [h]
 ·simp [hk]):p:=h
theorem Qi{p:Prop}(h:p:=by
 rw [List.drop_eq_getElem_cons hk,List.getD_eq_getElem?_getD,List.getElem?_eq_getElem hk];rfl):p:=h
theorem M5{p:Prop}(h:p:=by
 go_wp2
 go_returns
 exact⟨au (by simp [uC];omega),rfl⟩):p:=h
theorem M4{p:Prop}(h:p:=by
 go_wp2
 go_returns
 exact⟨au (by simp [om];omega),rfl⟩):p:=h
theorem Qh{p:Prop}(h:p:=by
 rw [hn]at HD;simp only [mF]at HD;have HO:=Lib.hid hno;clear hn hno HDEC
 exact RY):p:=h
theorem RG{p:Prop}(h:p:=by
 go_enter Tryz.func60,Tryz.ntmps60
 go_wp2_with (go_at_call 76;refine gvq (HB.out _ ai) ?_;intro bs d)
 go_returns
 exact⟨rfl,ai⟩):p:=h
theorem RF{p:Prop}(h:p:=by
 obtain⟨-,⟨rfl,h0⟩|⟨g,cap,cur,rfl,hb,hg,-⟩⟩:=h
 ·exact .inl ⟨rfl,h0⟩
 ·exact .inr ⟨g,cap,rfl,hb,(Array.getElem?_eq_some_iff.1 hg).1⟩):p:=h
theorem Ka{p:Prop}(h:p:=by
 go_enter Tryz.func13,Tryz.ntmps13
 exact nE):p:=h
theorem RD{p:Prop}(h:p:=by
 split at hr<;>rename_i c1
 ·rw [if_pos c1];omega
 ·rw [if_neg c1]
  split at hr<;>rename_i c2
  ·rw [if_pos c2];omega
  ·exact absurd rfl hr):p:=h
theorem RB{p:Prop}(h:p:=by
 go_enter Tryz.func59,Tryz.ntmps59
 go_wp2_with fail
 go_returns
 exact⟨au (by rw [HF.out];have:=HN.out;simp [this]),.of_below af⟩):p:=h
theorem RA{p:Prop}(h:p:=by
 go_wp2
 all_goals first
  |(exfalso;simp_all;done)
  |(go_returns
    exact⟨Ho (by simp_all [bQ]) (by simp_all [bQ]),rfl⟩)):p:=h
theorem Rz{p:Prop}(h:p:=by
 unfold dK at h;obtain⟨p,hp,rfl⟩:=Option.map_eq_some_iff.1 h
 exact⟨p,List.mem_reverse.1 (List.mem_of_find?_eq_some hp),rfl⟩):p:=h
theorem Ry{p:Prop}(h:p:=by
 go_wp2_with fail
 go_returns
 exact⟨false,rfl,⟨fun h=>absurd h (by decide),fun h=>absurd (congrArg List.length h) hl⟩,ag⟩):p:=h
theorem Rx{p:Prop}(h:p:=by
 go_returns
 exact⟨au (by unfold cB;rw [decide_eq_true (by omega),decide_eq_true (by omega)];rfl),.of_below af⟩):p:=h
theorem Qg{p:Prop}(h:p:=by
 go_returns
 exact⟨au (by rw [HF.out];rfl),.of_below af⟩):p:=h
theorem Rw{p:Prop}(h:p:=by
 go_returns
 exact⟨au (by unfold cB;rw [decide_eq_false (show ¬e.depth≤10 by omega)];simp),.of_below af⟩):p:=h
theorem Rv{p:Prop}(h:p:=by
 split
 ·exact .inl ⟨rfl,Val.num_ok (by omega) h1.2.2.2,rfl⟩
 ·exact .inl ⟨rfl,Val.num_ok (by omega) h2.2.2.2,rfl⟩):p:=h
theorem Ru{p:Prop}(h:p:=by
 go_returns
 exact⟨au (by unfold cB;rw [decide_eq_false (show ¬e.size≤60 by omega)];simp),.of_below af⟩):p:=h
theorem Rt{p:Prop}(h:p:=by
 go_wp2_with fail
 go_returns
 exact⟨au (HBAD.out k HKL.out (by rw [HDK.out];omega)).symm,(by first|rfl|trivial)⟩):p:=h
theorem Rs{p:Prop}(h:p:=by
 clear hd c hr
 go_enter Tryz.func54,Tryz.ntmps54
 go_wp2_with fail
 go_returns
 exact⟨by rw [HR.out];rfl,.of_below af⟩):p:=h
theorem Rq{p:Prop}(h:p:=by
 go_wp2_with (go_at_call 12;refine gvq (HM.out _ HBB.out.1 HBB.out.2 _) ?_;intro bs4 d4)
 exact lU):p:=h
theorem Rp{p:Prop}(h:p:=by
 go_wp2
 all_goals first
  |(exfalso;simp_all;done)
  |(go_returns
    exact⟨au (by simp_all [OT,Sv]),rfl⟩)):p:=h
theorem Ro{p:Prop}(h:p:=by
 intro k;simp only [Option.some.injEq]at k;rw [k]at hc;rcases hc with hc|hc
 ·revert hc;decide
 ·revert hc;decide):p:=h
theorem Rn{p:Prop}(h:p:=by
 rcases h.own.2 with ⟨rfl,h0⟩|⟨g,cap,cur,rfl,_⟩
 ·exact⟨none,0,by rw [h0]⟩
 ·exact⟨_,cap,rfl⟩):p:=h
theorem Rm{p:Prop}(h:p:=by
 simp only [intOf]
 rw [show({data:=#[48,49,50,51,52,53,54,55,56,57]}:ByteArray)=oN from rfl,hpc.out];omega):p:=h
theorem Qf{p:Prop}(h:p:=by
 rw [List.map_append,h,List.range_succ,List.map_append];rfl):p:=h
theorem Rl{p:Prop}(h:p:=by
 go_wp2_with fail
 go_returns
 exact kM (by rw [HF.out,if_neg (by omega),if_pos ho]) (.of_below af)):p:=h
end Go
