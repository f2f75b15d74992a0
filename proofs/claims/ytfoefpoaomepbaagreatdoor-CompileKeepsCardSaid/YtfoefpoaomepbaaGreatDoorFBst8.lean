import Derived.Test.YtfoefpoaomepbaaGreatDoorFApl
import Derived.Test.YtfoefpoaomepbaaGreatDoorFK
set_option linter.all false
set_option maxHeartbeats 16000000
set_option maxRecDepth 1000000
namespace Go.Proofs.YtfoefpoaomepbaaGreatDoor
open Go.RowKit Go.Sort
theorem sub_cellsY{w:World}{b off:Nat}{zs:List Int}(hc:∀i,i<zs.length→w.cell? ⟨b,off+i,none⟩=some (.int .i64 (zs.getD i 0)))(s:Nat)(l:List Int)(hl:∀(j:Nat) (x:Int),l[j]? =some x→zs[s+j]? =some x) :
 ∀(j:Nat) (u:Value),(l.map (Value.int .i64))[j]? =some u→w.cell? ((⟨b,off+s,none⟩:Addr).add j)=some u:=by
 intro j u hu
 rw [List.getElem?_map]at hu
 cases hx:l[j]? with
 |none=>rw [hx]at hu;cases hu
 |some x=>
  rw [hx]at hu
  obtain rfl:Value.int .i64 x=u:=by simpa using hu
  have h1:=hl j x hx
  have h2:=(List.getElem?_eq_some_iff.1 h1).1
  rw [show(⟨b,off+s,none⟩:Addr).add j=⟨b,off+s+j,none⟩by unfold Addr.add;split<;>simp_all,Nat.add_assoc,hc _ h2,List.getD_eq_getElem?_getD,h1];rfl
theorem sub_cells0{w:World}{b:Nat}{zs:List Int}(hc:∀i,i<zs.length→w.cell? ⟨b,i,none⟩=some (.int .i64 (zs.getD i 0)))(s:Nat)(l:List Int)(hl:∀(j:Nat) (x:Int),l[j]? =some x→zs[s+j]? =some x) :
 ∀(j:Nat) (u:Value),(l.map (Value.int .i64))[j]? =some u→w.cell? ((⟨b,s,none⟩:Addr).add j)=some u:=by
 have:=sub_cellsY (w:=w) (b:=b) (off:=0) (zs:=zs) (fun i hi=>by rw [Nat.zero_add];exact hc i hi) s l hl
 rwa [Nat.zero_add]at this
theorem take_someY{l:List Int}{a j:Nat}{x:Int}(h:(l.take a)[j]? =some x):l[j]? =some x:=by
 rw [List.getElem?_take]at h
 split at h
 ·exact h
 ·cases h
theorem own_oneY(zs:List Int):∀u∈zs.map (Value.int .i64),u.oneCell'=true:=by
 intro u hu
 obtain⟨z,_,rfl⟩:=List.mem_map.1 hu
 rfl
theorem best8_good(l:List Int)(n:Int)(v:Value)(w:World)(hy:YrAt w v l)(h1:1≤n)(h2:n≤45)(h3:yearsOk l=true):Calls Tryz.prog 57 #[v,.int .i64 n] w fun e w'=>e= .returned (frV (bestF l n))∧w.Grows w':=by
 rw [bestF_good h1 h2 h3]
 obtain⟨i0,hi,hz0,hz1,hz2⟩:=info_parts infoY
 obtain⟨nn,rfl⟩:=Int.eq_ofNat_of_zero_le (show 0≤n by omega)
 have HY:=Lib.hid hy
 have HA:=Lib.hid (fun w' (hg:w.Grows w')=>amounts_any l v w' (HY.out.grows hg))
 rw [h3]at HA
 have HB3:=Lib.hid h3
 have hl200:l.length≤200:=(years_mem h3).1
 have HBS:Hid (bestS l (nn:Int)=((sortD l).take nn).sum):=Lib.hid rfl
 have HM:=Lib.hid (fun z (h1:0≤z) (h2:z≤200000000000000) w=>MakeFraction_any z (nn:Int) w (by omega) (by omega) (by omega) (by omega))
 obtain⟨h1000,a,c,rfl,-⟩:=hy
 unfold frV at *
 dsimp only
 generalize bestS l (nn:Int)=BS at *
 clear h3
 go_enter Tryz.func57,Tryz.ntmps57
 go_wp2_with (go_at_call 96;refine(HA.out _ (.of_below belB)).mono ?_;rintro e' w' ⟨rfl,rfl⟩)
 go_loopw [6,7,8] (fun v6 v7 _ wr=>∃(k:Nat) (vb:Value),vb=v6∧k≤l.length∧v7= .int .i64 k∧(k=0→vb= .slice none 0 0)∧Below (w.heap.size+1) (w.alloc (.cells #[.int .i64 0,.int .i64 0] 24)) wr∧wr.ownsRow (w.heap.size+1) 3 1 vb k ((sortK l k).map (Value.int .i64))) (fun _ v7 _ _=>l.length-(intOf v7).toNat)
 case atStart=>exact⟨0,_,rfl,by omega,rfl,fun _=>rfl,.refl _ _,World.ownsRow_nil _ _ _ _⟩
 case round=>
  obtain⟨k,vb,rfl,hk,rfl,hnil,hB,hown⟩:=hrel
  obtain⟨WR,rfl⟩:∃WR,WR=wr:=⟨_,rfl⟩
  have HB:=Lib.hid hB
  have HO:=Lib.hid hown
  have hsW:w.heap.size+1≤WR.heap.size:=by have:=hB.size;simpa using this
  have hG:w.Grows WR:=.of_below ((show Below w.heap.size w _ from by(exact belB)).trans (hB.mono (by omega)))
  have hsk:=sortK_len l k hk
  by_cases hlt:k<l.length
  ·obtain⟨-,a',c',hv,hcs⟩:=HY.out.grows hG
   simp only [Value.slice.injEq,true_and]at hv
   obtain⟨rfl,rfl⟩:=hv
   rcases hcs with h0|⟨b,off,rfl,hbw,hx⟩
   ·omega
   have x0:=hx k hlt
   have d1:(k:Int)<(l.length:Int):=by omega
   have HSP:=Lib.hid (fun a0=>sortK_split l k a0 hlt)
   have HKL:=Lib.hid hlt
   have hlt0:0<l.length:=by omega
   have hYB:YrAt WR vb (sortK l k):=YrAt.of_rowB hown hsk.symm rfl (by omega)
   have HYB:=Lib.hid hYB
   have hform:=row_form hown
   clear hx hlt hB hown hYB
   generalize l.getD k 0=x at *
   generalize hzs:sortK l k=zs at *
   have HZS:=Lib.hid hzs
   clear hzs
   rcases Nat.eq_zero_or_pos k with hk0|hkp
   ·subst hk0
    obtain rfl:=hnil rfl
    have hz0':zs= []:=List.eq_nil_of_length_eq_zero hsk
    subst hz0'
    have HI2:Hid (sortK l (0+1)= [x]):=Lib.hid (by have:=HSP.out 0 (Nat.le_refl _) (.inl rfl) (fun j h1 h2=>by omega);simpa using this)
    have d0:0<l.length:=hlt0
    have HF:Hid (∀q,Below (w.heap.size+1) (w.alloc (.cells #[.int .i64 0,.int .i64 0] 24)) (WR.drewN q)∧(WR.drewN q).cell? ⟨b,off,none⟩=some (.int .i64 x)∧b<(WR.drewN q).heap.size∧w.heap.size+1≤(WR.drewN q).heap.size):=Lib.hid (fun q=>⟨HB.out.drewN q,x0,hbw,hsW⟩)
    go_wp2_with fail
    go_loopw [8] (fun v8 wr=>v8= .int .i64 0∧∃q,wr=WR.drewN q) (fun _ _=>0)
    case atStart=>exact⟨rfl,0,rfl⟩
    case round=>
     obtain⟨rfl,q,rfl⟩:=hrel
     go_wp2_with fail
     all_goals try(first|(go_quiet (fail);go_wp2_with fail)|(go_region;go_wp2_with fail))
     simp only [World.drewN_drewN]
     have HF1:=HF.out (q+nq)
     clear HF HB HO x0 hbw hsW HYB hG
     generalize WR.drewN (q+nq)=WR at *
     obtain⟨hB,x0,hbw,hsW⟩:=HF1
     have HB:=Lib.hid hB
     clear hB
     refine TG.begin 14 (fun wS=>wS.cell? ⟨b,off,none⟩=some (.int .i64 x)) (by kernel_rfl) (by kernel_rfl) (by simpa using x0) (fun hS=>?_)
     refine TG.tkB 0 hS ?_
     refine TG.tkB 1 hS ?_
     refine TG.tkB 2 hS ?_
     refine TG.tkB 4 hS ?_
     refine TG.tkB 5 hS ?_
     refine TG.tkB 6 hS ?_
     refine TG.tkB 7 hS ?_
     refine TG.tkB 10 hS ?_
     refine TG.tkB 11 hS ?_
     refine TG.tkB 12 hS ?_
     refine TG.two (i:=3) (k:=8) (by kernel_rfl) rfl rfl (fun K1 hK1=>?_) (fun K1 hK1=>?_)
     focus
      refine step_append_noneY rfl _ _ 22 rfl WR.heap.size 3 i0 1 Tryz.underlying22 hi (.slice none 0 0) 0 [] rfl (World.ownsRow_nil _ _ _ _) rfl ?_
      refine TG.go hK1 ?_ (fun hS=>?_)
      focus exact hS
      clear hK1 K1
      (try simp only [nS])
      refine TG.one (i:=8) (by kernel_rfl) rfl (fun K1 hK1=>?_)
      go_simp
      refine TG.go hK1 ?_ (fun hS=>?_)
      focus exact(by rw [show((WR.alloc (.cells #[.int .i64 x] 3)).drew).cell? ⟨b,off,none⟩=WR.cell? ⟨b,off,none⟩from World.cell?_alloc_lt WR _ ⟨b,off,none⟩ hbw];exact x0)
     rotate_left
     focus
      go_simp
      refine TG.go hK1 ?_ (fun hS=>?_)
      focus exact(by rw [show((WR.alloc (.cells #[.int .i64 x] 3)).drew).cell? ⟨b,off,none⟩=WR.cell? ⟨b,off,none⟩from World.cell?_alloc_lt WR _ ⟨b,off,none⟩ hbw];exact x0)
      clear hK1 K1
      (try simp only [nS])
      refine TG.one (i:=3) (by kernel_rfl) rfl (fun K1 hK1=>?_)
      refine step_append_noneY rfl _ _ 22 rfl WR.heap.size 3 i0 1 Tryz.underlying22 hi (.slice none 0 0) 0 [] rfl (World.ownsRow_nil _ _ _ _) rfl ?_
      refine TG.go hK1 ?_ (fun hS=>?_)
      focus exact hS
     rotate_left
     all_goals
      clear hK1 K1
      (try simp only [nS])
      refine TG.one (i:=9) (by kernel_rfl) rfl (fun K1 hK1=>?_)
      refine step_append_ownY rfl _ _ 22 rfl WR.heap.size 3 i0 (.int .i64 0) 1 8 Tryz.underlying22 hi hz0 hz1 hz2 rfl (by decide) (.slice none 0 0) 0 [] rfl (World.ownsRow_nil _ _ _ _) ⟨WR.heap.size,0,none⟩ 1 1 ([x].map (Value.int .i64)) rfl rfl ?_ (own_oneY _) (by decide) (by decide) (by simp) ?_
      focus exact news_cells _ [.int .i64 x] _ _ (by simp)
      intro v2 w2 hown2 hgrow2
      have HB2:=Lib.hid (Below.grown ((Below.refl WR.heap.size WR).alloc (Nat.le_refl _) (.cells #[.int .i64 x] 3)).drew hgrow2 (by simp) (fun k hk=>by cases hk))
      have HO2:=Lib.hid hown2
      clear hown2 hgrow2
      refine TG.go hK1 ?_ (fun hS=>?_)
      focus exact(HB2.out.cell (p:=⟨b,off+0,none⟩) hbw).trans x0
      clear hK1 K1
      (try simp only [nS])
      refine TG.one (i:=13) (by kernel_rfl) rfl (fun K1 hK1=>?_)
      refine step_append_noneY rfl _ _ 22 rfl WR.heap.size 3 i0 1 Tryz.underlying22 hi v2 _ _ rfl HO2.out rfl ?_
      refine TG.go hK1 ?_ (fun hS=>?_)
      focus exact hS
      clear hK1 K1
      (try simp only [nS])
      refine TG.one (i:=14) (by kernel_rfl) rfl (fun K1 hK1=>?_)
      go_simp
      refine hK1 _ _ (fun h=>absurd rfl h) (TG.done (by kernel_rfl) ?_)
      clear hK1 K1 hS
      (try simp only [nS])
      go_wp2_with fail
      go_roundw
      case rel=>
       refine⟨1,v2,rfl,HKL.out,by first|rfl|go_num,fun h=>by omega,HB.out.trans (HB2.out.mono hsW), ?_⟩
       rw [HI2.out]
       have ho2:=ownsRow_base HO2.out hsW
       simpa using ho2
      case measure=>simp [intOf];have:=HKL.out;omega
   ·rcases hform with ⟨-,h0⟩|⟨g,gc,rfl,hg1,hg2⟩
    ·omega
    have HC:Hid (∀i,i<zs.length→WR.cell? ⟨g,i,none⟩=some (.int .i64 (zs.getD i 0))):=Lib.hid (by
     obtain⟨-,a',c',hv,hx⟩:=HYB.out
     simp only [Value.slice.injEq]at hv
     obtain⟨rfl,-,-⟩:=hv
     rcases hx with hx|⟨b',off',he,-,hx⟩
     ·omega
     simp only [Option.some.injEq,Addr.mk.injEq,and_true]at he
     obtain⟨rfl,rfl⟩:=he
     intro i hi
     have:=hx i hi
     rwa [Nat.zero_add]at this)
    have HF:Hid (∀q,Below (w.heap.size+1) (w.alloc (.cells #[.int .i64 0,.int .i64 0] 24)) (WR.drewN q)∧(WR.drewN q).ownsRow (w.heap.size+1) 3 1 (.slice (some ⟨g,0,none⟩) k gc) k (zs.map (Value.int .i64))∧(∀i,i<zs.length→(WR.drewN q).cell? ⟨g,i,none⟩=some (.int .i64 (zs.getD i 0)))∧(WR.drewN q).cell? ⟨b,off+k,none⟩=some (.int .i64 x)∧b<(WR.drewN q).heap.size∧g<(WR.drewN q).heap.size∧w.heap.size+1≤(WR.drewN q).heap.size):=Lib.hid (fun q=>⟨HB.out.drewN q,HO.out,HC.out,x0,hbw,hg2,hsW⟩)
    go_upto_block 2 with fail
    go_cut [8]from 23 to 60 (fun v8 wx=>∃a0 q:Nat,v8= .int .i64 a0∧a0≤k∧Hid ((a0=0∨x≤zs.getD (a0-1) 0)∧∀j,a0≤j→j<k→zs.getD j 0<x)∧wx=WR.drewN q)
    case first=>
     go_wp2_with fail
     go_loopw [8] (fun v8 wr=>∃j q:Nat,j≤k∧v8= .int .i64 j∧Hid (∀i,j≤i→i<k→zs.getD i 0<x)∧wr=WR.drewN q) (fun v8 _=>(intOf v8).toNat)
     case atStart=>exact⟨k,0,by omega,rfl,Lib.hid (fun i h1 h2=>by omega),rfl⟩
     case round=>
      obtain⟨j,q,hj,rfl,HJ,rfl⟩:=hrel
      rcases j with _|j
      ·go_wp2_with fail
       all_goals try(first|(go_quiet (fail);go_wp2_with fail)|(go_region;go_wp2_with fail))
       go_meet
       exact⟨0,_,rfl,by omega,Lib.hid ⟨.inl rfl,fun i _ h2=>HJ.out i (by omega) h2⟩,World.drewN_drewN _ _ _⟩
      ·have hc:=HC.out j (by omega)
       have e0:(0:Int)≤(j:Int):=by omega
       have e1:(j:Int)<(k:Int):=by omega
       have e2:(k:Int)≤900:=by omega
       have HZJ:Hid (zs.getD j 0=zs.getD j 0):=Lib.hid rfl
       obtain⟨z,hz⟩:∃z,zs.getD j 0=z:=⟨_,rfl⟩
       rw [hz]at hc
       have HZ:=Lib.hid hz
       clear hz
       by_cases hle:z<x
       ·have HL:=Lib.hid hle
        go_wp2_with fail
        all_goals try(first|(go_quiet (fail);go_wp2_with fail)|(go_region;go_wp2_with fail))
        go_roundw
        case rel=>exact⟨j,q+nq,by omega,by go_num,Lib.hid (fun i h1 h2=>by
         by_cases ei:i=j
         ·subst ei;rw [HZ.out];exact HL.out
         ·exact HJ.out i (by omega) h2),by first|exact World.drewN_drewN _ _ _|rfl⟩
        case measure=>first|(simp [intOf];done)|(simp [intOf];omega)
       ·have HL:=Lib.hid hle
        go_wp2_with fail
        all_goals try(first|(go_quiet (fail);go_wp2_with fail)|(go_region;go_wp2_with fail))
        go_meet
        exact⟨j+1,_,by go_num,hj,Lib.hid ⟨.inr (by rw [Nat.add_sub_cancel,HZ.out];have:=HL.out;omega),fun i h1 h2=>HJ.out i h1 h2⟩,World.drewN_drewN _ _ _⟩
    obtain⟨a0,q,rfl,ha0,HCUT,rfl⟩:=hcut
    have HF1:=HF.out q
    clear HF HB HO HC x0 hbw hg2 hsW HYB hG
    generalize WR.drewN q=WR at *
    obtain⟨hB,hO,hC,x0,hbw,hg2,hsW⟩:=HF1
    have HB:=Lib.hid hB
    have HO:=Lib.hid hO
    have HC:=Lib.hid hC
    clear hB hO hC
    have HI2:Hid (sortK l (k+1)=zs.take a0++x::zs.drop a0):=Lib.hid (HSP.out a0 ha0 HCUT.out.1 HCUT.out.2)
    have hkc:k≤gc:=by
     obtain⟨-,h0|⟨g',cap',cur,hv,-,-,hcp,-⟩⟩:=HO.out
     ·cases h0.1
     ·simp only [Value.slice.injEq]at hv
      omega
    have had:(a0:Int)≤(gc:Int):=by omega
    have hac:a0≤gc:=by omega
    have had2:(a0:Int)≤(k:Int):=by omega
    by_cases hlt2:a0<k
    ·have hnc:¬gc=a0:=by omega
     have HEQ:Hid (a0≤k):=Lib.hid ha0
     go_wp2_with fail
     refine TG.begin 14 (fun wS=>wS.cell? ⟨b,off+k,none⟩=some (.int .i64 x)) (by kernel_rfl) (by kernel_rfl) (by simpa using x0) (fun hS=>?_)
     refine TG.tkB 0 hS ?_
     refine TG.tkB 1 hS ?_
     refine TG.tkB 2 hS ?_
     refine TG.tkB 4 hS ?_
     refine TG.tkB 5 hS ?_
     refine TG.tkB 6 hS ?_
     refine TG.tkB 7 hS ?_
     refine TG.tkB 10 hS ?_
     refine TG.tkB 11 hS ?_
     refine TG.tkB 12 hS ?_
     refine TG.two (i:=3) (k:=8) (by kernel_rfl) rfl rfl (fun K1 hK1=>?_) (fun K1 hK1=>?_)
     focus
      refine step_append_ownY rfl _ _ 22 rfl WR.heap.size 3 i0 (.int .i64 0) 1 8 Tryz.underlying22 hi hz0 hz1 hz2 rfl (by decide) (.slice none 0 0) 0 [] rfl (World.ownsRow_nil _ _ _ _) ⟨g,0,none⟩ a0 gc ((zs.take a0).map (Value.int .i64)) rfl (by simp;omega) (sub_cells0 (zs:=zs) (w:=WR.drew) HC.out 0 _ (fun j x hx=>by rw [Nat.zero_add];exact take_someY hx)) (own_oneY _) (by unfold maxLen;omega) (by omega) (by simp) ?_
      intro v1 w1 hown1 hgrow1
      simp only [Nat.zero_add,List.nil_append]at hown1
      have hb1:=Below.grown (Below.refl WR.heap.size WR).drew hgrow1 (by simp) (fun k hk=>by cases hk)
      have hs1:=hb1.size
      have HB1:=Lib.hid (hb1.alloc hs1 (.cells #[.int .i64 x] 3))
      have HO1:=Lib.hid (hown1.alloc (.cells #[.int .i64 x] 3))
      have hx1:=(hb1.cell (p:=⟨b,off+k,none⟩) hbw).trans x0
      refine TG.go hK1 ?_ (fun hS=>?_)
      focus exact hx1
      clear hK1 K1
      (try simp only [nS])
      refine TG.one (i:=8) (by kernel_rfl) rfl (fun K1 hK1=>?_)
      go_simp
      refine TG.go hK1 ?_ (fun hS=>?_)
      focus exact(HB1.out.cell (p:=⟨b,off+k,none⟩) hbw).trans x0
      clear hK1 K1
      (try simp only [nS])
      have HC5:Hid ((w1.alloc (.cells #[.int .i64 x] 3)).cell? ⟨w1.heap.size,0,none⟩=some (.int .i64 x)):=Lib.hid (by rw [World.cell?_alloc_at _ _ _ _ rfl];rfl)
      generalize w1.alloc (.cells #[.int .i64 x] 3)=w9 at *
      generalize w1.heap.size=g5 at *
      clear hown1 hgrow1 hb1 hx1
      refine TG.one (i:=9) (by kernel_rfl) rfl (fun K1 hK1=>?_)
      refine step_append_ownY rfl _ _ 22 rfl WR.heap.size 3 i0 (.int .i64 0) 1 8 Tryz.underlying22 hi hz0 hz1 hz2 rfl (by decide) v1 a0 _ rfl HO1.out ⟨g5,0,none⟩ 1 1 ([x].map (Value.int .i64)) rfl rfl ?_ (own_oneY _) (by unfold maxLen;omega) (by omega) HB1.out.size ?_
      focus
       intro j u hu
       rw [addr_add]
       rcases j with _|j
       ·simp at hu;subst hu;exact HC5.out
       ·simp at hu
     rotate_left
     focus
      go_simp
      refine TG.go hK1 ?_ (fun hS=>?_)
      focus exact(by rw [show((WR.alloc (.cells #[.int .i64 x] 3)).drew).cell? ⟨b,off+k,none⟩=WR.cell? ⟨b,off+k,none⟩from World.cell?_alloc_lt WR _ ⟨b,off+k,none⟩ hbw];exact x0)
      clear hK1 K1
      (try simp only [nS])
      refine TG.one (i:=3) (by kernel_rfl) rfl (fun K1 hK1=>?_)
      refine step_append_ownY rfl _ _ 22 rfl WR.heap.size 3 i0 (.int .i64 0) 1 8 Tryz.underlying22 hi hz0 hz1 hz2 rfl (by decide) (.slice none 0 0) 0 [] rfl (World.ownsRow_nil _ _ _ _) ⟨g,0,none⟩ a0 gc ((zs.take a0).map (Value.int .i64)) rfl (by simp;omega) (sub_cells0 (zs:=zs) (w:=(WR.alloc (.cells #[.int .i64 x] 3)).drew) (fun i hi=>by rw [show((WR.alloc (.cells #[.int .i64 x] 3)).drew).cell? ⟨g,i,none⟩=WR.cell? ⟨g,i,none⟩from World.cell?_alloc_lt WR _ ⟨g,i,none⟩ hg2];exact HC.out i hi) 0 _ (fun j x hx=>by rw [Nat.zero_add];exact take_someY hx)) (own_oneY _) (by unfold maxLen;omega) (by omega) (by simp) ?_
      intro v1 w1 hown1 hgrow1
      simp only [Nat.zero_add,List.nil_append]at hown1
      have hb1:=Below.grown ((Below.refl WR.heap.size WR).alloc (Nat.le_refl _) (.cells #[.int .i64 x] 3)).drew hgrow1 (by simp) (fun k hk=>by cases hk)
      have HB1:=Lib.hid hb1
      have HO1:=Lib.hid hown1
      have HC5:Hid (w1.cell? ⟨WR.heap.size,0,none⟩=some (.int .i64 x)):=Lib.hid ((hgrow1.cell_far ⟨WR.heap.size,0,none⟩ (by simp) (by simp [Value.ownBlock])).trans (by show(WR.alloc _).cell? _=_;rw [World.cell?_alloc_at _ _ _ _ rfl];rfl))
      refine TG.go hK1 ?_ (fun hS=>?_)
      focus exact(HB1.out.cell (p:=⟨b,off+k,none⟩) hbw).trans x0
      clear hK1 K1
      (try simp only [nS])
      clear hown1 hgrow1 hb1
      refine TG.one (i:=9) (by kernel_rfl) rfl (fun K1 hK1=>?_)
      refine step_append_ownY rfl _ _ 22 rfl WR.heap.size 3 i0 (.int .i64 0) 1 8 Tryz.underlying22 hi hz0 hz1 hz2 rfl (by decide) v1 a0 _ rfl HO1.out ⟨WR.heap.size,0,none⟩ 1 1 ([x].map (Value.int .i64)) rfl rfl ?_ (own_oneY _) (by unfold maxLen;omega) (by omega) HB1.out.size ?_
      focus
       intro j u hu
       rw [addr_add]
       rcases j with _|j
       ·simp at hu;subst hu;exact HC5.out
       ·simp at hu
     rotate_left
     all_goals
      intro v2 w2 hown2 hgrow2
      have HB2:=Lib.hid (HB1.out.grown hgrow2 HB1.out.size (fun k hk=>(HO1.out.lt k hk).1))
      have HO2:=Lib.hid hown2
      clear hown2 hgrow2
      refine TG.go hK1 ?_ (fun hS=>?_)
      focus exact(HB2.out.cell (p:=⟨b,off+k,none⟩) hbw).trans x0
      clear hK1 K1
      (try simp only [nS])
      refine TG.one (i:=13) (by kernel_rfl) rfl (fun K1 hK1=>?_)
      refine step_append_ownY rfl _ _ 22 rfl WR.heap.size 3 i0 (.int .i64 0) 1 8 Tryz.underlying22 hi hz0 hz1 hz2 rfl (by decide) v2 (a0+1) _ rfl HO2.out ⟨g,a0,none⟩ (k-a0) (gc-a0) ((zs.drop a0).map (Value.int .i64)) rfl (by simp;try omega) (sub_cells0 (w:=w2) (zs:=zs) (fun i hi=>by rw [HB2.out.cell (p:=⟨g,i,none⟩) hg2];exact HC.out i hi) a0 _ (fun j x hx=>by rw [List.getElem?_drop]at hx;exact hx)) (own_oneY _) (by unfold maxLen;omega) (by omega) HB2.out.size ?_
      exact fz7
    ·have HZL:=Lib.hid (show zs.drop a0= []from List.drop_eq_nil_of_le (by omega))
     have HEQ:Hid (a0=k):=Lib.hid (by omega)
     by_cases hcc:gc=a0
     ·go_wp2_with fail
      refine TG.begin 14 (fun wS=>wS.cell? ⟨b,off+k,none⟩=some (.int .i64 x)) (by kernel_rfl) (by kernel_rfl) (by simpa using x0) (fun hS=>?_)
      refine TG.tkB 0 hS ?_
      refine TG.tkB 1 hS ?_
      refine TG.tkB 2 hS ?_
      refine TG.tkB 4 hS ?_
      refine TG.tkB 5 hS ?_
      refine TG.tkB 6 hS ?_
      refine TG.tkB 7 hS ?_
      refine TG.tkB 10 hS ?_
      refine TG.tkB 11 hS ?_
      refine TG.tkB 12 hS ?_
      refine TG.two (i:=3) (k:=8) (by kernel_rfl) rfl rfl (fun K1 hK1=>?_) (fun K1 hK1=>?_)
      focus
       refine step_append_ownY rfl _ _ 22 rfl WR.heap.size 3 i0 (.int .i64 0) 1 8 Tryz.underlying22 hi hz0 hz1 hz2 rfl (by decide) (.slice none 0 0) 0 [] rfl (World.ownsRow_nil _ _ _ _) ⟨g,0,none⟩ a0 a0 ((zs.take a0).map (Value.int .i64)) rfl (by simp;omega) (sub_cells0 (zs:=zs) (w:=WR.drew) HC.out 0 _ (fun j x hx=>by rw [Nat.zero_add];exact take_someY hx)) (own_oneY _) (by unfold maxLen;omega) (by omega) (by simp) ?_
       intro v1 w1 hown1 hgrow1
       simp only [Nat.zero_add,List.nil_append]at hown1
       have hb1:=Below.grown (Below.refl WR.heap.size WR).drew hgrow1 (by simp) (fun k hk=>by cases hk)
       have hs1:=hb1.size
       have HB1:=Lib.hid (hb1.alloc hs1 (.cells #[.int .i64 x] 3))
       have HO1:=Lib.hid (hown1.alloc (.cells #[.int .i64 x] 3))
       have hx1:=(hb1.cell (p:=⟨b,off+k,none⟩) hbw).trans x0
       refine TG.go hK1 ?_ (fun hS=>?_)
       focus exact hx1
       clear hK1 K1
       (try simp only [nS])
       refine TG.one (i:=8) (by kernel_rfl) rfl (fun K1 hK1=>?_)
       go_simp
       refine TG.go hK1 ?_ (fun hS=>?_)
       focus exact(HB1.out.cell (p:=⟨b,off+k,none⟩) hbw).trans x0
       clear hK1 K1
       (try simp only [nS])
       have HC5:Hid ((w1.alloc (.cells #[.int .i64 x] 3)).cell? ⟨w1.heap.size,0,none⟩=some (.int .i64 x)):=Lib.hid (by rw [World.cell?_alloc_at _ _ _ _ rfl];rfl)
       generalize w1.alloc (.cells #[.int .i64 x] 3)=w9 at *
       generalize w1.heap.size=g5 at *
       clear hown1 hgrow1 hb1 hx1
       refine TG.one (i:=9) (by kernel_rfl) rfl (fun K1 hK1=>?_)
       refine step_append_ownY rfl _ _ 22 rfl WR.heap.size 3 i0 (.int .i64 0) 1 8 Tryz.underlying22 hi hz0 hz1 hz2 rfl (by decide) v1 a0 _ rfl HO1.out ⟨g5,0,none⟩ 1 1 ([x].map (Value.int .i64)) rfl rfl ?_ (own_oneY _) (by unfold maxLen;omega) (by omega) HB1.out.size ?_
       focus
        intro j u hu
        rw [addr_add]
        rcases j with _|j
        ·simp at hu;subst hu;exact HC5.out
        ·simp at hu
      rotate_left
      focus
       go_simp
       refine TG.go hK1 ?_ (fun hS=>?_)
       focus exact(by rw [show((WR.alloc (.cells #[.int .i64 x] 3)).drew).cell? ⟨b,off+k,none⟩=WR.cell? ⟨b,off+k,none⟩from World.cell?_alloc_lt WR _ ⟨b,off+k,none⟩ hbw];exact x0)
       clear hK1 K1
       (try simp only [nS])
       refine TG.one (i:=3) (by kernel_rfl) rfl (fun K1 hK1=>?_)
       refine step_append_ownY rfl _ _ 22 rfl WR.heap.size 3 i0 (.int .i64 0) 1 8 Tryz.underlying22 hi hz0 hz1 hz2 rfl (by decide) (.slice none 0 0) 0 [] rfl (World.ownsRow_nil _ _ _ _) ⟨g,0,none⟩ a0 a0 ((zs.take a0).map (Value.int .i64)) rfl (by simp;omega) (sub_cells0 (zs:=zs) (w:=(WR.alloc (.cells #[.int .i64 x] 3)).drew) (fun i hi=>by rw [show((WR.alloc (.cells #[.int .i64 x] 3)).drew).cell? ⟨g,i,none⟩=WR.cell? ⟨g,i,none⟩from World.cell?_alloc_lt WR _ ⟨g,i,none⟩ hg2];exact HC.out i hi) 0 _ (fun j x hx=>by rw [Nat.zero_add];exact take_someY hx)) (own_oneY _) (by unfold maxLen;omega) (by omega) (by simp) ?_
       intro v1 w1 hown1 hgrow1
       simp only [Nat.zero_add,List.nil_append]at hown1
       have hb1:=Below.grown ((Below.refl WR.heap.size WR).alloc (Nat.le_refl _) (.cells #[.int .i64 x] 3)).drew hgrow1 (by simp) (fun k hk=>by cases hk)
       have HB1:=Lib.hid hb1
       have HO1:=Lib.hid hown1
       have HC5:Hid (w1.cell? ⟨WR.heap.size,0,none⟩=some (.int .i64 x)):=Lib.hid ((hgrow1.cell_far ⟨WR.heap.size,0,none⟩ (by simp) (by simp [Value.ownBlock])).trans (by show(WR.alloc _).cell? _=_;rw [World.cell?_alloc_at _ _ _ _ rfl];rfl))
       refine TG.go hK1 ?_ (fun hS=>?_)
       focus exact(HB1.out.cell (p:=⟨b,off+k,none⟩) hbw).trans x0
       clear hK1 K1
       (try simp only [nS])
       clear hown1 hgrow1 hb1
       refine TG.one (i:=9) (by kernel_rfl) rfl (fun K1 hK1=>?_)
       refine step_append_ownY rfl _ _ 22 rfl WR.heap.size 3 i0 (.int .i64 0) 1 8 Tryz.underlying22 hi hz0 hz1 hz2 rfl (by decide) v1 a0 _ rfl HO1.out ⟨WR.heap.size,0,none⟩ 1 1 ([x].map (Value.int .i64)) rfl rfl ?_ (own_oneY _) (by unfold maxLen;omega) (by omega) HB1.out.size ?_
       focus
        intro j u hu
        rw [addr_add]
        rcases j with _|j
        ·simp at hu;subst hu;exact HC5.out
        ·simp at hu
      rotate_left
      all_goals
       intro v2 w2 hown2 hgrow2
       have HB2:=Lib.hid (HB1.out.grown hgrow2 HB1.out.size (fun k hk=>(HO1.out.lt k hk).1))
       have HO2:=Lib.hid hown2
       clear hown2 hgrow2
       refine TG.go hK1 ?_ (fun hS=>?_)
       focus exact(HB2.out.cell (p:=⟨b,off+k,none⟩) hbw).trans x0
       clear hK1 K1
       (try simp only [nS])
       refine TG.one (i:=13) (by kernel_rfl) rfl (fun K1 hK1=>?_)
       refine step_append_ownY rfl _ _ 22 rfl WR.heap.size 3 i0 (.int .i64 0) 1 8 Tryz.underlying22 hi hz0 hz1 hz2 rfl (by decide) v2 (a0+1) _ rfl HO2.out ⟨g,0,none⟩ (k-a0) (0) ((zs.drop a0).map (Value.int .i64)) rfl (by simp;try omega) (by intro j u hu;rw [HZL.out]at hu;simp at hu) (own_oneY _) (by unfold maxLen;omega) (by omega) HB2.out.size ?_
       exact fz7
     ·go_wp2_with fail
      refine TG.begin 14 (fun wS=>wS.cell? ⟨b,off+k,none⟩=some (.int .i64 x)) (by kernel_rfl) (by kernel_rfl) (by simpa using x0) (fun hS=>?_)
      refine TG.tkB 0 hS ?_
      refine TG.tkB 1 hS ?_
      refine TG.tkB 2 hS ?_
      refine TG.tkB 4 hS ?_
      refine TG.tkB 5 hS ?_
      refine TG.tkB 6 hS ?_
      refine TG.tkB 7 hS ?_
      refine TG.tkB 10 hS ?_
      refine TG.tkB 11 hS ?_
      refine TG.tkB 12 hS ?_
      refine TG.two (i:=3) (k:=8) (by kernel_rfl) rfl rfl (fun K1 hK1=>?_) (fun K1 hK1=>?_)
      focus
       refine step_append_ownY rfl _ _ 22 rfl WR.heap.size 3 i0 (.int .i64 0) 1 8 Tryz.underlying22 hi hz0 hz1 hz2 rfl (by decide) (.slice none 0 0) 0 [] rfl (World.ownsRow_nil _ _ _ _) ⟨g,0,none⟩ a0 gc ((zs.take a0).map (Value.int .i64)) rfl (by simp;omega) (sub_cells0 (zs:=zs) (w:=WR.drew) HC.out 0 _ (fun j x hx=>by rw [Nat.zero_add];exact take_someY hx)) (own_oneY _) (by unfold maxLen;omega) (by omega) (by simp) ?_
       intro v1 w1 hown1 hgrow1
       simp only [Nat.zero_add,List.nil_append]at hown1
       have hb1:=Below.grown (Below.refl WR.heap.size WR).drew hgrow1 (by simp) (fun k hk=>by cases hk)
       have hs1:=hb1.size
       have HB1:=Lib.hid (hb1.alloc hs1 (.cells #[.int .i64 x] 3))
       have HO1:=Lib.hid (hown1.alloc (.cells #[.int .i64 x] 3))
       have hx1:=(hb1.cell (p:=⟨b,off+k,none⟩) hbw).trans x0
       refine TG.go hK1 ?_ (fun hS=>?_)
       focus exact hx1
       clear hK1 K1
       (try simp only [nS])
       refine TG.one (i:=8) (by kernel_rfl) rfl (fun K1 hK1=>?_)
       go_simp
       refine TG.go hK1 ?_ (fun hS=>?_)
       focus exact(HB1.out.cell (p:=⟨b,off+k,none⟩) hbw).trans x0
       clear hK1 K1
       (try simp only [nS])
       have HC5:Hid ((w1.alloc (.cells #[.int .i64 x] 3)).cell? ⟨w1.heap.size,0,none⟩=some (.int .i64 x)):=Lib.hid (by rw [World.cell?_alloc_at _ _ _ _ rfl];rfl)
       generalize w1.alloc (.cells #[.int .i64 x] 3)=w9 at *
       generalize w1.heap.size=g5 at *
       clear hown1 hgrow1 hb1 hx1
       refine TG.one (i:=9) (by kernel_rfl) rfl (fun K1 hK1=>?_)
       refine step_append_ownY rfl _ _ 22 rfl WR.heap.size 3 i0 (.int .i64 0) 1 8 Tryz.underlying22 hi hz0 hz1 hz2 rfl (by decide) v1 a0 _ rfl HO1.out ⟨g5,0,none⟩ 1 1 ([x].map (Value.int .i64)) rfl rfl ?_ (own_oneY _) (by unfold maxLen;omega) (by omega) HB1.out.size ?_
       focus
        intro j u hu
        rw [addr_add]
        rcases j with _|j
        ·simp at hu;subst hu;exact HC5.out
        ·simp at hu
      rotate_left
      focus
       go_simp
       refine TG.go hK1 ?_ (fun hS=>?_)
       focus exact(by rw [show((WR.alloc (.cells #[.int .i64 x] 3)).drew).cell? ⟨b,off+k,none⟩=WR.cell? ⟨b,off+k,none⟩from World.cell?_alloc_lt WR _ ⟨b,off+k,none⟩ hbw];exact x0)
       clear hK1 K1
       (try simp only [nS])
       refine TG.one (i:=3) (by kernel_rfl) rfl (fun K1 hK1=>?_)
       refine step_append_ownY rfl _ _ 22 rfl WR.heap.size 3 i0 (.int .i64 0) 1 8 Tryz.underlying22 hi hz0 hz1 hz2 rfl (by decide) (.slice none 0 0) 0 [] rfl (World.ownsRow_nil _ _ _ _) ⟨g,0,none⟩ a0 gc ((zs.take a0).map (Value.int .i64)) rfl (by simp;omega) (sub_cells0 (zs:=zs) (w:=(WR.alloc (.cells #[.int .i64 x] 3)).drew) (fun i hi=>by rw [show((WR.alloc (.cells #[.int .i64 x] 3)).drew).cell? ⟨g,i,none⟩=WR.cell? ⟨g,i,none⟩from World.cell?_alloc_lt WR _ ⟨g,i,none⟩ hg2];exact HC.out i hi) 0 _ (fun j x hx=>by rw [Nat.zero_add];exact take_someY hx)) (own_oneY _) (by unfold maxLen;omega) (by omega) (by simp) ?_
       intro v1 w1 hown1 hgrow1
       simp only [Nat.zero_add,List.nil_append]at hown1
       have hb1:=Below.grown ((Below.refl WR.heap.size WR).alloc (Nat.le_refl _) (.cells #[.int .i64 x] 3)).drew hgrow1 (by simp) (fun k hk=>by cases hk)
       have HB1:=Lib.hid hb1
       have HO1:=Lib.hid hown1
       have HC5:Hid (w1.cell? ⟨WR.heap.size,0,none⟩=some (.int .i64 x)):=Lib.hid ((hgrow1.cell_far ⟨WR.heap.size,0,none⟩ (by simp) (by simp [Value.ownBlock])).trans (by show(WR.alloc _).cell? _=_;rw [World.cell?_alloc_at _ _ _ _ rfl];rfl))
       refine TG.go hK1 ?_ (fun hS=>?_)
       focus exact(HB1.out.cell (p:=⟨b,off+k,none⟩) hbw).trans x0
       clear hK1 K1
       (try simp only [nS])
       clear hown1 hgrow1 hb1
       refine TG.one (i:=9) (by kernel_rfl) rfl (fun K1 hK1=>?_)
       refine step_append_ownY rfl _ _ 22 rfl WR.heap.size 3 i0 (.int .i64 0) 1 8 Tryz.underlying22 hi hz0 hz1 hz2 rfl (by decide) v1 a0 _ rfl HO1.out ⟨WR.heap.size,0,none⟩ 1 1 ([x].map (Value.int .i64)) rfl rfl ?_ (own_oneY _) (by unfold maxLen;omega) (by omega) HB1.out.size ?_
       focus
        intro j u hu
        rw [addr_add]
        rcases j with _|j
        ·simp at hu;subst hu;exact HC5.out
        ·simp at hu
      rotate_left
      all_goals
       intro v2 w2 hown2 hgrow2
       have HB2:=Lib.hid (HB1.out.grown hgrow2 HB1.out.size (fun k hk=>(HO1.out.lt k hk).1))
       have HO2:=Lib.hid hown2
       clear hown2 hgrow2
       refine TG.go hK1 ?_ (fun hS=>?_)
       focus exact(HB2.out.cell (p:=⟨b,off+k,none⟩) hbw).trans x0
       clear hK1 K1
       (try simp only [nS])
       refine TG.one (i:=13) (by kernel_rfl) rfl (fun K1 hK1=>?_)
       refine step_append_ownY rfl _ _ 22 rfl WR.heap.size 3 i0 (.int .i64 0) 1 8 Tryz.underlying22 hi hz0 hz1 hz2 rfl (by decide) v2 (a0+1) _ rfl HO2.out ⟨g,a0,none⟩ (k-a0) (gc-a0) ((zs.drop a0).map (Value.int .i64)) rfl (by simp;try omega) (by intro j u hu;rw [HZL.out]at hu;simp at hu) (own_oneY _) (by unfold maxLen;omega) (by omega) HB2.out.size ?_
       exact fz7
  ·obtain rfl:k=l.length:=by omega
   have hYB:YrAt WR vb (sortD l):=YrAt.of_rowB hown (by rw [←sortK_all,hsk]) (by rw [sortK_all]) (by rw [←sortK_all,hsk];omega)
   have hG1:World.Grows (w.alloc (.cells #[.int .i64 0,.int .i64 0] 24)) WR:=.of_below (by simpa using hB)
   have HSB:=Lib.hid (sumK_bd HB3.out (sortD_perm l))
   have HGB:=Lib.hid (getD_bd HB3.out (sortD_perm l))
   have hz200:(sortD l).length≤200:=by rw [←sortK_all,hsk];omega
   clear HO hown hsk HA
   generalize sortD l=zs at *
   obtain⟨bs9,d9,rfl⟩:=hG1
   obtain⟨-,va,vc,rfl,hvc⟩:=hYB
   have HVC:=Lib.hid hvc
   clear hvc hB hG
   go_wp2_with fail
   go_loopw [9,10] (fun v9 v10 wr=>∃j:Nat,j≤zs.length∧j≤nn∧v10= .int .i64 j∧v9= .int .i64 (sumK zs j)∧wr=World.grow (w.alloc (.cells #[.int .i64 0,.int .i64 0] 24)) bs9 d9) (fun _ v10 _=>nn-(intOf v10).toNat)
   case atStart=>exact⟨0,by omega,by omega,rfl,rfl,rfl⟩
   case round=>
    obtain⟨j,hj,hjn,rfl,rfl,rfl⟩:=hrel
    have hb1:=HSB.out j
    by_cases hlt2:j<zs.length∧j<nn
    ·rcases HVC.out with h0|⟨b,off,rfl,hbw,hx⟩
     ·omega
     have x0:=hx j hlt2.1
     have d1:(j:Int)<(zs.length:Int):=by omega
     have d2:(j:Int)<(nn:Int):=by omega
     have hs:=sumK_succ zs j hlt2.1
     have hb2:=HSB.out (j+1)
     rw [hs]at hb2
     have HS1:=Lib.hid hs
     have HKL:=Lib.hid hlt2
     clear hs hlt2 hx
     generalize zs.getD j 0=z at *
     generalize sumK zs j=sk at *
     go_wp2_with fail
     go_roundw
     case rel=>exact⟨j+1,HKL.out.1,HKL.out.2,by go_num,by rw [HS1.out],by first|rfl|trivial⟩
     case measure=>simp [intOf];have:=HKL.out;omega
    ·have hBS:BS=sumK zs j:=by
      rw [HBS.out]
      unfold sumK
      by_cases e:j=nn
      ·rw [e]
      ·rw [List.take_of_length_le (by omega),List.take_of_length_le (by omega)]
     subst hBS
     have HBB:=Lib.hid hb1
     by_cases d1:(j:Int)<(zs.length:Int)
     ·have d2:¬(j:Int)<(nn:Int):=by omega
      exact fz65
     ·exact fz65
theorem Best8_any(l:List Int)(n:Int)(v:Value)(w:World)(hy:YrAt w v l):Calls Tryz.prog 57 #[v,.int .i64 n] w fun e w'=>e= .returned (frV (bestF l n))∧w.Grows w':=by
 by_cases h:n<1∨45<n∨yearsOk l=false
 ·exact best8_bad l n v w hy h
 ·simp only [not_or,Bool.not_eq_false]at h
  exact best8_good l n v w hy (by omega) (by omega) h.2.2
end Go.Proofs.YtfoefpoaomepbaaGreatDoor
namespace Go.Proofs.YtfoefpoaomepbaaGreatDoor
open Go.RowKit
theorem input8_all(v:Vw)(y:Value)(s:ByteArray)(w:World)(hr:VwRng v)(hy:YrAt w y v.years):Calls Tryz.prog 55 #[vwV v y,.string s] w fun r w'=>r= .returned (inV (inputV v s))∧w.Grows w':=by
 by_cases h:inpD s.toList=0∨v.ok=false
 ·exact input8_none v y s w hr hy h
 ·have h1:inpD s.toList≠0:=fun e=>h (.inl e)
  have h2:v.ok=true:=by cases hv:v.ok with
   |true=>rfl
   |false=>exact absurd (.inr hv) h
  by_cases hb:s.toList= [98,97,115,101]
  ·exact input8_base v y s w hr hy h1 h2 hb
  ·exact input8_far v y s w hr hy h1 h2 hb
theorem grow_alloc(Y:World)(bs:Array Obj)(d:Nat)(o:Obj):(Y.grow bs d).alloc o=Y.grow (bs.push o) d:=by
 simp [World.grow,World.alloc]
theorem v8_lit(v:Vw)(y se:Value)(env:List (ByteArray × Val))(e:Ex)(a:Option Addr)(cap:Nat)(w:World)(hy:YrAt w y v.years)(hs:StpAt w se env)(h1:e.op=1):(Calls Tryz.prog 42 #[exV e (.slice a e.args.length cap),vwV v y,se] w (ApP (valueF v env e) w)):=by
 have HV:Hid (valueF v env e=(.num e.dim e.num e.den,0)):=Lib.hid (by rw [valueF_eq];unfold valNode;rw [if_pos h1])
 rw [HV.out]
 obtain⟨ya,yc,rfl⟩:∃a c,y= .slice a v.years.length c:=by
  exact fz32
 obtain⟨sa,sc,rfl⟩:∃a c,se= .slice a env.length c:=by
  exact fz33
 unfold vwV exV
 clear HV hy hs
 go_enter Tryz.func42,Tryz.ntmps42
 go_wp2_with fail
 go_returns
 exact⟨rfl,growsP⟩
theorem v8_best(v:Vw)(y se:Value)(env:List (ByteArray × Val))(e:Ex)(a:Option Addr)(cap:Nat)(w:World)(hy:YrAt w y v.years)(hs:StpAt w se env)(h1:e.op=3):(Calls Tryz.prog 42 #[exV e (.slice a e.args.length cap),vwV v y,se] w (ApP (valueF v env e) w)):=by
 have HV:Hid (valueF v env e=numR 4 (bestF v.years e.num)):=Lib.hid (by rw [valueF_eq];unfold valNode;rw [if_neg (by omega),if_neg (by omega),if_pos h1])
 rw [HV.out]
 have HY:=Lib.hid hy
 have HB:=Lib.hid (fun w' (hg:w.Grows w')=>Best8_any v.years e.num y w' (HY.out.grows hg))
 obtain⟨ya,yc,rfl⟩:∃a c,y= .slice a v.years.length c:=by
  exact fz32
 obtain⟨sa,sc,rfl⟩:∃a c,se= .slice a env.length c:=by
  exact fz33
 unfold vwV exV
 unfold frV at HB
 generalize bestF v.years e.num=q at *
 obtain⟨qn,qd,qc⟩:=q
 dsimp only at HB
 clear HV hy hs
 by_cases hq:qc=0
 ·subst hq
  unfold numR
  rw [if_pos rfl]
  exact fz49
 ·unfold numR
  rw [if_neg hq]
  have hq1:(qc !=0)=true:=by simpa using hq
  clear hq
  exact fz49
theorem v8_input(v:Vw)(y se:Value)(env:List (ByteArray × Val))(e:Ex)(a:Option Addr)(cap:Nat)(w:World)(hr:VwRng v)(hy:YrAt w y v.years)(hs:StpAt w se env)(h1:e.op=2)(x:Val)(hx:inputV v e.name=some x):(Calls Tryz.prog 42 #[exV e (.slice a e.args.length cap),vwV v y,se] w (ApP (valueF v env e) w)):=by
 have HV:Hid (valueF v env e=(x,0)):=Lib.hid (by rw [valueF_eq];unfold valNode;rw [if_neg (by omega),if_pos h1];unfold nameF;rw [hx])
 rw [HV.out]
 have HY:=Lib.hid hy
 have HI:=Lib.hid (fun w' (hg:w.Grows w')=>input8_all v y e.name w' hr (HY.out.grows hg))
 rw [hx]at HI
 unfold inV valV at HI
 obtain⟨xm,xy,xn,xd⟩:=x
 dsimp only at HI
 obtain⟨ya,yc,rfl⟩:∃a c,y= .slice a v.years.length c:=by
  exact fz32
 obtain⟨sa,sc,rfl⟩:∃a c,se= .slice a env.length c:=by
  exact fz33
 unfold vwV exV
 unfold vwV at HI
 clear HV hy hs hx hr
 go_enter Tryz.func42,Tryz.ntmps42
 go_wp2_with (go_at_call 55;refine(HI.out _ growsP).mono ?_;rintro e' w' ⟨rfl,bs,d,rfl⟩)
 go_returns
 exact⟨rfl,growsP⟩
theorem v8_env(v:Vw)(y se:Value)(env:List (ByteArray × Val))(e:Ex)(a:Option Addr)(cap:Nat)(w:World)(hr:VwRng v)(hy:YrAt w y v.years)(hs:StpAt w se env)(h1:e.op=2)(x:Val)(hx:inputV v e.name=none)(hl:lastN env e.name=some x):(Calls Tryz.prog 42 #[exV e (.slice a e.args.length cap),vwV v y,se] w (ApP (valueF v env e) w)):=by
 have HV:Hid (valueF v env e=(x,0)):=Lib.hid (by rw [valueF_eq];unfold valNode;rw [if_neg (by omega),if_pos h1];unfold nameF;rw [hx];dsimp only;rw [hl])
 rw [HV.out]
 have HY:=Lib.hid hy
 have HL:=Lib.hid hl
 have HI:=Lib.hid (fun w' (hg:w.Grows w')=>input8_all v y e.name w' hr (HY.out.grows hg))
 rw [hx]at HI
 unfold inV valV Val.zero at HI
 dsimp only at HI
 obtain⟨ya,yc,rfl⟩:∃a c,y= .slice a v.years.length c:=by
  exact fz32
 obtain⟨sa,sc,rfl⟩:∃a c,se= .slice a env.length c:=by
  exact fz33
 unfold vwV exV
 have HS:=Lib.hid hs
 have hlen:env.length≤1000:=by obtain⟨h,-⟩:=hs;exact h
 unfold vwV at HI
 clear HV hy hs hx hr hl
 go_enter Tryz.func42,Tryz.ntmps42
 go_wp2_with (go_at_call 55;refine(HI.out _ growsP).mono ?_;rintro e' w' ⟨rfl,bs,d,rfl⟩)
 go_loopw [12] (fun v12 wr=>∃(k:Nat) (bs:Array Obj) (d:Nat),k≤env.length∧v12= .int .i64 ((env.length:Int)-1-k)∧Hid (∀j,env.length-k≤j→j<env.length→stN env j≠e.name)∧wr=(((w.alloc (.cells #[.int .i64 2,.int .i64 e.num,.int .i64 e.den,.int .i64 e.dim,.string e.name,.slice a e.args.length cap] 27)).alloc (.cells #[.int .i64 v.age,.int .i64 v.year,.int .i64 v.children,.int .i64 v.insured,.int .i64 v.worked,.int .i64 v.voluntary,.int .i64 v.service,.int .i64 v.equated,.int .i64 v.raising,.int .i64 v.resident,.int .i64 v.bn,.int .i64 v.bd,.slice ya v.years.length yc] 38)).alloc (.cells #[.int .i64 0,.bool false,.int .i64 0,.int .i64 0] 41)).grow bs d) (fun v12 _=>(intOf v12+1).toNat)
 case atStart=>
  exact⟨0,_,_,by omega,by simp,Lib.hid (fun j h1 h2=>by omega),grow_alloc _ _ _ _⟩
 case round=>
  obtain⟨k,bs1,d1,hk,rfl,hno,rfl⟩:=hrel
  by_cases hlt:k<env.length
  ·obtain⟨i,hii⟩:∃i:Nat,(env.length:Int)-1-k=i:=⟨env.length-1-k,by omega⟩
   obtain⟨-,sa',sc',hv2,hcs⟩:=HS.out
   simp only [Value.slice.injEq,true_and]at hv2
   obtain⟨rfl,rfl⟩:=hv2
   rcases hcs with h0|⟨b,off,rfl,hbw,hx⟩
   ·omega
   have hi:i<env.length:=by omega
   obtain⟨s0,s1,s2,s3,s4⟩:=hx i hi
   have HLS:Hid (stN env i=e.name→x=stV env i):=Lib.hid (fun h=>by
    have h2:=lastN_some env e.name i (ByteArray.empty,Val.zero) hi h (fun j hj1 hj2=>hno.out j (by omega) hj2)
    rw [HL.out]at h2
    exact Option.some.inj h2)
   have HNX:Hid (stN env i≠e.name→∀j,env.length-(k+1)≤j→j<env.length→stN env j≠e.name):=Lib.hid (fun h j hj1 hj2=>by
    by_cases ej:j=i
    ·subst ej;exact h
    ·exact hno.out j (by omega) hj2)
   have HII:=Lib.hid (show(env.length:Int)-1-((k+1:Nat):Int)=(i:Int)-1 by omega)
   have HKL:=Lib.hid hlt
   rw [hii]
   have d2:(i:Int)<(env.length:Int):=by omega
   clear hx hii hlt hno
   by_cases heq:stN env i=e.name
   ·have hx1:=HLS.out heq
    have nm:((stN env i).toList==e.name.toList)=true:=by rw [heq];simp
    clear HLS HNX heq HL
    subst hx1
    generalize stN env i=nk at *
    generalize stV env i=xk at *
    obtain⟨xm,xy,xn,xd⟩:=xk
    dsimp only at s1 s2 s3 s4
    go_wp2_with fail
    refine TS.begin [] (World.Grows _) (by kernel_rfl) (by kernel_rfl) grows_drew (fun hS=>?_)
    refine TS.wkB 0 hS ?_
    refine TS.wkB 1 hS ?_
    refine TS.wkB 2 hS ?_
    refine TS.wkB 3 hS ?_
    refine TS.wkB 4 hS ?_
    refine TS.wkB 5 hS ?_
    refine TS.wkB 6 hS ?_
    refine TS.wkB 7 hS ?_
    refine TS.done (by kernel_rfl) ?_
    clear hS
    (try simp only [nS])
    go_wp2_with fail
    go_returns
    exact⟨rfl,growsP⟩
   ·have hno2:=Lib.hid (HNX.out heq)
    have nm:((stN env i).toList==e.name.toList)=false:=by
     cases hq:((stN env i).toList==e.name.toList)with
     |false=>rfl
     |true=>exact absurd (toList_inj (by simpa using hq)) heq
    clear HLS HNX heq HL s1 s2 s3 s4
    generalize stN env i=nk at *
    go_wp2_with fail
    refine TS.begin [] (World.Grows _) (by kernel_rfl) (by kernel_rfl) grows_drew (fun hS=>?_)
    refine TS.wkB 0 hS ?_
    refine TS.wkB 1 hS ?_
    refine TS.wkB 2 hS ?_
    refine TS.wkB 3 hS ?_
    refine TS.wkB 4 hS ?_
    refine TS.wkB 5 hS ?_
    refine TS.wkB 6 hS ?_
    refine TS.wkB 7 hS ?_
    refine TS.done (by kernel_rfl) ?_
    clear hS
    (try simp only [nS])
    go_wp2_with fail
    go_roundw
    case rel=>exact⟨k+1,_,_,HKL.out,by rw [HII.out],hno2,rfl⟩
    case measure=>simp [intOf]
  ·exfalso
   obtain rfl:k=env.length:=by omega
   have:=lastN_none env e.name (ByteArray.empty,Val.zero) (fun j hj=>hno.out j (by omega) hj)
   rw [HL.out]at this
   cases this
def V8IH(S:Nat→Prop)(v:Vw)(y se:Value)(x:Ex)(r:Val × Int)(w:World):Prop:=∀w',w.Grows w'→∀a c,RepE S w' x (.slice a x.args.length c)→
 Calls Tryz.prog 42 #[.agg #[.int .i64 x.op,.int .i64 x.num,.int .i64 x.den,.int .i64 x.dim,.string x.name,.slice a x.args.length c],vwV v y,se] w' fun e w''=>e= .returned (.tuple #[.agg #[.int .i64 r.1.dim,.bool r.1.yes,.int .i64 r.1.n,.int .i64 r.1.d],.int .i64 r.2])∧w'.Grows w''
theorem arg_at{S:Nat→Prop}{w:World}{e:Ex}{a:Option Addr}{cap:Nat}(h:RepE S w e (.slice a e.args.length cap)){b off:Nat}(ha:a=some ⟨b,off,none⟩)(k:Nat)(hk:k<e.args.length):∃ak ck,RepE S w (e.arg k) (.slice ak (e.arg k).args.length ck)∧
 w.cell? ⟨b,off+k*6,none⟩=some (.int .i64 (e.arg k).op)∧w.cell? ⟨b,off+(k*6+1),none⟩=some (.int .i64 (e.arg k).num)∧w.cell? ⟨b,off+(k*6+2),none⟩=some (.int .i64 (e.arg k).den)∧w.cell? ⟨b,off+(k*6+3),none⟩=some (.int .i64 (e.arg k).dim)∧w.cell? ⟨b,off+(k*6+4),none⟩=some (.string (e.arg k).name)∧w.cell? ⟨b,off+(k*6+5),none⟩=some (.slice ak (e.arg k).args.length ck):=by
 obtain⟨b',off',ha',-,hx⟩:=h.arg_cells (by omega)
 rw [ha]at ha'
 simp only [Option.some.injEq,Addr.mk.injEq,and_true]at ha'
 obtain⟨rfl,rfl⟩:=ha'
 obtain⟨ak,ck,⟨x0,x1,x2,x3,x4,x5⟩,hr⟩:=hx k hk
 exact⟨ak,ck,hr,x0,x1,x2,x3,x4,x5⟩
theorem v8_logic(S:Nat→Prop)(v:Vw)(y se:Value)(env:List (ByteArray × Val))(e:Ex)(a:Option Addr)(cap:Nat)(w:World)(h:RepE S w e (.slice a e.args.length cap))(hy:YrAt w y v.years)(hs:StpAt w se env)(hop:e.op=17∨e.op=18)(hlen:e.args.length=2)
 (r0 r1:Val × Int) (hr0:valueF v env (e.arg 0)=r0) (hr1:valueF v env (e.arg 1)=r1) (hz:r0.2≠0→r0.1= .zero) (H0:Hid (V8IH S v y se (e.arg 0) r0 w)) (H1:Hid (V8IH S v y se (e.arg 1) r1 w)):(Calls Tryz.prog 42 #[exV e (.slice a e.args.length cap),vwV v y,se] w (ApP (valueF v env e) w)):=by
 have HV0:Hid (valueF v env e=if r0.2≠0 then(.zero,r0.2)else if e.op=17 then(if r0.1.yes=true then r1 else r0)else(if r0.1.yes=true then r0 else r1)):=Lib.hid (by
  have e0:valueF v env (e.args.getD 0 default)=r0:=hr0
  have e1:valueF v env (e.args.getD 1 default)=r1:=hr1
  rw [valueF_eq]
  unfold valNode
  rw [values_get v env e.args 0 (by omega),values_get v env e.args 1 (by omega),e0,e1]
  rw [if_neg (by omega),if_neg (by omega),if_neg (by omega)]
  split
  ·rfl
  ·split
   ·rfl
   ·rw [if_pos (by omega)])
 obtain⟨b,off,rfl,hb,-⟩:=h.arg_cells (by omega)
 obtain⟨a0,k0,hp0,x0,x1,x2,x3,x4,x5⟩:=arg_at h rfl 0 (by omega)
 obtain⟨a1,k1,hp1,z0,z1,z2,z3,z4,z5⟩:=arg_at h rfl 1 (by omega)
 simp only [Nat.zero_mul,Nat.zero_add,Nat.add_zero,Nat.one_mul,Nat.reduceAdd]at x0 x1 x2 x3 x4 x5 z0 z1 z2 z3 z4 z5
 have HP0:=Lib.hid hp0
 have HP1:=Lib.hid hp1
 have hl0:(0:Int)<(e.args.length:Int):=by omega
 have hl2:0<e.args.length:=by omega
 have hl3:1<e.args.length:=by omega
 have hl1:(1:Int)<(e.args.length:Int):=by omega
 have o1:(e.op==1)=false:=by simp;omega
 have o2:(e.op==2)=false:=by simp;omega
 have o3:(e.op==3)=false:=by simp;omega
 unfold V8IH at H0 H1
 obtain⟨ya,yc,rfl⟩:∃a c,y= .slice a v.years.length c:=by
  exact fz32
 obtain⟨sa,sc,rfl⟩:∃a c,se= .slice a env.length c:=by
  exact fz33
 unfold vwV exV
 unfold vwV at H0 H1
 have HLN:=Lib.hid hlen
 clear hy hs h hp0 hp1 hr0 hr1 hlen
 obtain⟨⟨m0,q0,n0,d0⟩,c0⟩:=r0
 obtain⟨⟨m1,q1,n1,d1⟩,c1⟩:=r1
 dsimp only at hz H0 H1 HV0
 by_cases hc:c0=0
 ·subst hc
  clear hz
  rcases hop with o|o
  ·have o17:(e.op==17)=true:=by simp [o]
   have o18:(e.op==18)=false:=by simp [o]
   cases q0 with
   |true=>
    have HV:Hid (valueF v env e=(⟨m1,q1,n1,d1⟩,c1)):=Lib.hid (by rw [HV0.out];simp [o])
    clear o HV0
    go_enter Tryz.func42,Tryz.ntmps42
    go_wp2_with fail
    refine TS.begin [12] (World.Grows _) (by kernel_rfl) (by kernel_rfl) grows_drew0 (fun hS=>?_)
    refine TS.wkB 0 hS ?_
    refine TS.wkB 1 hS ?_
    refine TS.wkB 2 hS ?_
    refine TS.wkB 3 hS ?_
    refine TS.wkB 4 hS ?_
    refine TS.wkB 5 hS ?_
    refine TS.two (i:=6) (k:=10) (by decide+kernel) rfl rfl (fun K1 hK1=>?_) (fun K1 hK1=>?_)
    focus
     have HK1:=Lib.hid hK1
     clear hK1 hS
     dsimp only [List.getElem_toArray,List.getElem_cons_succ,List.getElem_cons_zero]
     go_simp
     go_at_call 42
     refine(H0.out _ growsP _ _ (HP0.out.grows growsP)).mono ?_
     rintro e' wA ⟨rfl,bA,dA,rfl⟩
     refine TS.go HK1.out growsP (fun hS=>?_)
     clear HK1 K1
     (try simp only [nS])
     refine TS.wkB 7 hS ?_
     refine TS.wkB 8 hS ?_
     refine TS.wkB 9 hS ?_
     refine TS.one (i:=10) (by decide+kernel) rfl (fun K1 hK1=>?_)
     have HK1:=Lib.hid hK1
     clear hK1 hS
     dsimp only [List.getElem_toArray,List.getElem_cons_succ,List.getElem_cons_zero]
     go_simp
     refine TS.go HK1.out growsP (fun hS=>?_)
     clear HK1 K1
     (try simp only [nS])
    rotate_left
    focus
     have HK1:=Lib.hid hK1
     clear hK1 hS
     dsimp only [List.getElem_toArray,List.getElem_cons_succ,List.getElem_cons_zero]
     go_simp
     refine TS.go HK1.out growsP (fun hS=>?_)
     clear HK1 K1
     (try simp only [nS])
     refine TS.one (i:=6) (by decide+kernel) rfl (fun K1 hK1=>?_)
     have HK1:=Lib.hid hK1
     clear hK1 hS
     dsimp only [List.getElem_toArray,List.getElem_cons_succ,List.getElem_cons_zero]
     go_simp
     go_at_call 42
     refine(H0.out _ growsP _ _ (HP0.out.grows growsP)).mono ?_
     rintro e' wA ⟨rfl,bA,dA,rfl⟩
     refine TS.go HK1.out growsP (fun hS=>?_)
     clear HK1 K1
     (try simp only [nS])
     refine TS.wkB 7 hS ?_
     refine TS.wkB 8 hS ?_
     refine TS.wkB 9 hS ?_
    rotate_left
    all_goals
     refine TS.one (i:=11) (by decide+kernel) rfl (fun K1 hK1=>?_)
     have HK1:=Lib.hid hK1
     clear hK1 hS
     dsimp only [List.getElem_toArray,List.getElem_cons_succ,List.getElem_cons_zero]
     go_simp
     refine TS.go HK1.out growsP (fun hS=>?_)
     clear HK1 K1
     (try simp only [nS])
     refine TS.weB 12 ?_
     clear hS
     go_wp2_with fail
     refine TS.begin [9,10] (World.Grows _) (by kernel_rfl) (by kernel_rfl) grows_drew0 (fun hS=>?_)
     refine TS.wkB 0 hS ?_
     refine TS.wkB 1 hS ?_
     refine TS.wkB 2 hS ?_
     refine TS.wkB 3 hS ?_
     refine TS.wkB 4 hS ?_
     refine TS.wkB 5 hS ?_
     refine TS.one (i:=6) (by decide+kernel) rfl (fun K1 hK1=>?_)
     have HK1:=Lib.hid hK1
     clear hK1 hS
     dsimp only [List.getElem_toArray,List.getElem_cons_succ,List.getElem_cons_zero]
     go_simp
     go_at_call 42
     refine(H1.out _ growsP _ _ (HP1.out.grows growsP)).mono ?_
     rintro e' wA ⟨rfl,bA,dA,rfl⟩
     refine TS.go HK1.out growsP (fun hS=>?_)
     clear HK1 K1
     (try simp only [nS])
     refine TS.wkB 7 hS ?_
     refine TS.wkB 8 hS ?_
     refine TS.wtB 9 ?_
     refine TS.weB 10 ?_
     clear hS
     go_wp2_with fail
     go_returns
     exact⟨by rw [HV.out],growsP⟩
   |false=>
    have HV:Hid (valueF v env e=(⟨m0,false,n0,d0⟩,0)):=Lib.hid (by rw [HV0.out];simp [o])
    clear o HV0
    go_enter Tryz.func42,Tryz.ntmps42
    go_wp2_with fail
    refine TS.begin [12] (World.Grows _) (by kernel_rfl) (by kernel_rfl) grows_drew0 (fun hS=>?_)
    refine TS.wkB 0 hS ?_
    refine TS.wkB 1 hS ?_
    refine TS.wkB 2 hS ?_
    refine TS.wkB 3 hS ?_
    refine TS.wkB 4 hS ?_
    refine TS.wkB 5 hS ?_
    refine TS.two (i:=6) (k:=10) (by decide+kernel) rfl rfl (fun K1 hK1=>?_) (fun K1 hK1=>?_)
    focus
     have HK1:=Lib.hid hK1
     clear hK1 hS
     dsimp only [List.getElem_toArray,List.getElem_cons_succ,List.getElem_cons_zero]
     go_simp
     go_at_call 42
     refine(H0.out _ growsP _ _ (HP0.out.grows growsP)).mono ?_
     rintro e' wA ⟨rfl,bA,dA,rfl⟩
     refine TS.go HK1.out growsP (fun hS=>?_)
     clear HK1 K1
     (try simp only [nS])
     refine TS.wkB 7 hS ?_
     refine TS.wkB 8 hS ?_
     refine TS.wkB 9 hS ?_
     refine TS.one (i:=10) (by decide+kernel) rfl (fun K1 hK1=>?_)
     have HK1:=Lib.hid hK1
     clear hK1 hS
     dsimp only [List.getElem_toArray,List.getElem_cons_succ,List.getElem_cons_zero]
     go_simp
     refine TS.go HK1.out growsP (fun hS=>?_)
     clear HK1 K1
     (try simp only [nS])
    rotate_left
    focus
     have HK1:=Lib.hid hK1
     clear hK1 hS
     dsimp only [List.getElem_toArray,List.getElem_cons_succ,List.getElem_cons_zero]
     go_simp
     refine TS.go HK1.out growsP (fun hS=>?_)
     clear HK1 K1
     (try simp only [nS])
     refine TS.one (i:=6) (by decide+kernel) rfl (fun K1 hK1=>?_)
     have HK1:=Lib.hid hK1
     clear hK1 hS
     dsimp only [List.getElem_toArray,List.getElem_cons_succ,List.getElem_cons_zero]
     go_simp
     go_at_call 42
     refine(H0.out _ growsP _ _ (HP0.out.grows growsP)).mono ?_
     rintro e' wA ⟨rfl,bA,dA,rfl⟩
     refine TS.go HK1.out growsP (fun hS=>?_)
     clear HK1 K1
     (try simp only [nS])
     refine TS.wkB 7 hS ?_
     refine TS.wkB 8 hS ?_
     refine TS.wkB 9 hS ?_
    rotate_left
    all_goals
     refine TS.one (i:=11) (by decide+kernel) rfl (fun K1 hK1=>?_)
     have HK1:=Lib.hid hK1
     clear hK1 hS
     dsimp only [List.getElem_toArray,List.getElem_cons_succ,List.getElem_cons_zero]
     go_simp
     refine TS.go HK1.out growsP (fun hS=>?_)
     clear HK1 K1
     (try simp only [nS])
     refine TS.weB 12 ?_
     clear hS
     go_wp2_with fail
     go_returns
     exact⟨by rw [HV.out],growsP⟩
  ·have o17:(e.op==17)=false:=by simp [o]
   have o18:(e.op==18)=true:=by simp [o]
   cases q0 with
   |true=>
    have HV:Hid (valueF v env e=(⟨m0,true,n0,d0⟩,0)):=Lib.hid (by rw [HV0.out];simp [o])
    clear o HV0
    go_enter Tryz.func42,Tryz.ntmps42
    go_wp2_with fail
    refine TS.begin [12] (World.Grows _) (by kernel_rfl) (by kernel_rfl) grows_drew0 (fun hS=>?_)
    refine TS.wkB 0 hS ?_
    refine TS.wkB 1 hS ?_
    refine TS.wkB 2 hS ?_
    refine TS.wkB 3 hS ?_
    refine TS.wkB 4 hS ?_
    refine TS.wkB 5 hS ?_
    refine TS.two (i:=6) (k:=10) (by decide+kernel) rfl rfl (fun K1 hK1=>?_) (fun K1 hK1=>?_)
    focus
     have HK1:=Lib.hid hK1
     clear hK1 hS
     dsimp only [List.getElem_toArray,List.getElem_cons_succ,List.getElem_cons_zero]
     go_simp
     go_at_call 42
     refine(H0.out _ growsP _ _ (HP0.out.grows growsP)).mono ?_
     rintro e' wA ⟨rfl,bA,dA,rfl⟩
     refine TS.go HK1.out growsP (fun hS=>?_)
     clear HK1 K1
     (try simp only [nS])
     refine TS.wkB 7 hS ?_
     refine TS.wkB 8 hS ?_
     refine TS.wkB 9 hS ?_
     refine TS.one (i:=10) (by decide+kernel) rfl (fun K1 hK1=>?_)
     have HK1:=Lib.hid hK1
     clear hK1 hS
     dsimp only [List.getElem_toArray,List.getElem_cons_succ,List.getElem_cons_zero]
     go_simp
     refine TS.go HK1.out growsP (fun hS=>?_)
     clear HK1 K1
     (try simp only [nS])
    rotate_left
    focus
     have HK1:=Lib.hid hK1
     clear hK1 hS
     dsimp only [List.getElem_toArray,List.getElem_cons_succ,List.getElem_cons_zero]
     go_simp
     refine TS.go HK1.out growsP (fun hS=>?_)
     clear HK1 K1
     (try simp only [nS])
     refine TS.one (i:=6) (by decide+kernel) rfl (fun K1 hK1=>?_)
     have HK1:=Lib.hid hK1
     clear hK1 hS
     dsimp only [List.getElem_toArray,List.getElem_cons_succ,List.getElem_cons_zero]
     go_simp
     go_at_call 42
     refine(H0.out _ growsP _ _ (HP0.out.grows growsP)).mono ?_
     rintro e' wA ⟨rfl,bA,dA,rfl⟩
     refine TS.go HK1.out growsP (fun hS=>?_)
     clear HK1 K1
     (try simp only [nS])
     refine TS.wkB 7 hS ?_
     refine TS.wkB 8 hS ?_
     refine TS.wkB 9 hS ?_
    rotate_left
    all_goals
     refine TS.one (i:=11) (by decide+kernel) rfl (fun K1 hK1=>?_)
     have HK1:=Lib.hid hK1
     clear hK1 hS
     dsimp only [List.getElem_toArray,List.getElem_cons_succ,List.getElem_cons_zero]
     go_simp
     refine TS.go HK1.out growsP (fun hS=>?_)
     clear HK1 K1
     (try simp only [nS])
     refine TS.weB 12 ?_
     clear hS
     go_wp2_with fail
     go_returns
     exact⟨by rw [HV.out],growsP⟩
   |false=>
    have HV:Hid (valueF v env e=(⟨m1,q1,n1,d1⟩,c1)):=Lib.hid (by rw [HV0.out];simp [o])
    clear o HV0
    go_enter Tryz.func42,Tryz.ntmps42
    go_wp2_with fail
    refine TS.begin [12] (World.Grows _) (by kernel_rfl) (by kernel_rfl) grows_drew0 (fun hS=>?_)
    refine TS.wkB 0 hS ?_
    refine TS.wkB 1 hS ?_
    refine TS.wkB 2 hS ?_
    refine TS.wkB 3 hS ?_
    refine TS.wkB 4 hS ?_
    refine TS.wkB 5 hS ?_
    refine TS.two (i:=6) (k:=10) (by decide+kernel) rfl rfl (fun K1 hK1=>?_) (fun K1 hK1=>?_)
    focus
     have HK1:=Lib.hid hK1
     clear hK1 hS
     dsimp only [List.getElem_toArray,List.getElem_cons_succ,List.getElem_cons_zero]
     go_simp
     go_at_call 42
     refine(H0.out _ growsP _ _ (HP0.out.grows growsP)).mono ?_
     rintro e' wA ⟨rfl,bA,dA,rfl⟩
     refine TS.go HK1.out growsP (fun hS=>?_)
     clear HK1 K1
     (try simp only [nS])
     refine TS.wkB 7 hS ?_
     refine TS.wkB 8 hS ?_
     refine TS.wkB 9 hS ?_
     refine TS.one (i:=10) (by decide+kernel) rfl (fun K1 hK1=>?_)
     have HK1:=Lib.hid hK1
     clear hK1 hS
     dsimp only [List.getElem_toArray,List.getElem_cons_succ,List.getElem_cons_zero]
     go_simp
     refine TS.go HK1.out growsP (fun hS=>?_)
     clear HK1 K1
     (try simp only [nS])
    rotate_left
    focus
     have HK1:=Lib.hid hK1
     clear hK1 hS
     dsimp only [List.getElem_toArray,List.getElem_cons_succ,List.getElem_cons_zero]
     go_simp
     refine TS.go HK1.out growsP (fun hS=>?_)
     clear HK1 K1
     (try simp only [nS])
     refine TS.one (i:=6) (by decide+kernel) rfl (fun K1 hK1=>?_)
     have HK1:=Lib.hid hK1
     clear hK1 hS
     dsimp only [List.getElem_toArray,List.getElem_cons_succ,List.getElem_cons_zero]
     go_simp
     go_at_call 42
     refine(H0.out _ growsP _ _ (HP0.out.grows growsP)).mono ?_
     rintro e' wA ⟨rfl,bA,dA,rfl⟩
     refine TS.go HK1.out growsP (fun hS=>?_)
     clear HK1 K1
     (try simp only [nS])
     refine TS.wkB 7 hS ?_
     refine TS.wkB 8 hS ?_
     refine TS.wkB 9 hS ?_
    rotate_left
    all_goals
     refine TS.one (i:=11) (by decide+kernel) rfl (fun K1 hK1=>?_)
     have HK1:=Lib.hid hK1
     clear hK1 hS
     dsimp only [List.getElem_toArray,List.getElem_cons_succ,List.getElem_cons_zero]
     go_simp
     refine TS.go HK1.out growsP (fun hS=>?_)
     clear HK1 K1
     (try simp only [nS])
     refine TS.weB 12 ?_
     clear hS
     go_wp2_with fail
     refine TS.begin [9,10] (World.Grows _) (by kernel_rfl) (by kernel_rfl) grows_drew0 (fun hS=>?_)
     refine TS.wkB 0 hS ?_
     refine TS.wkB 1 hS ?_
     refine TS.wkB 2 hS ?_
     refine TS.wkB 3 hS ?_
     refine TS.wkB 4 hS ?_
     refine TS.wkB 5 hS ?_
     refine TS.one (i:=6) (by decide+kernel) rfl (fun K1 hK1=>?_)
     have HK1:=Lib.hid hK1
     clear hK1 hS
     dsimp only [List.getElem_toArray,List.getElem_cons_succ,List.getElem_cons_zero]
     go_simp
     go_at_call 42
     refine(H1.out _ growsP _ _ (HP1.out.grows growsP)).mono ?_
     rintro e' wA ⟨rfl,bA,dA,rfl⟩
     refine TS.go HK1.out growsP (fun hS=>?_)
     clear HK1 K1
     (try simp only [nS])
     refine TS.wkB 7 hS ?_
     refine TS.wkB 8 hS ?_
     refine TS.wtB 9 ?_
     refine TS.weB 10 ?_
     clear hS
     go_wp2_with fail
     go_returns
     exact⟨by rw [HV.out],growsP⟩
 ·have hzz:=hz hc
  simp only [Val.zero,Val.mk.injEq]at hzz
  obtain⟨rfl,rfl,rfl,rfl⟩:=hzz
  have HV:Hid (valueF v env e=(.zero,c0)):=Lib.hid (by rw [HV0.out,if_pos hc])
  have hq1:(c0 !=0)=true:=by simpa using hc
  clear hc hz HV0
  rcases hop with o|o
  focus
   have o17:(e.op==17)=true:=by simp [o]
  rotate_left
  focus
   have o17:(e.op==17)=false:=by simp [o]
   have o18:(e.op==18)=true:=by simp [o]
  rotate_left
  all_goals
   clear o
   go_enter Tryz.func42,Tryz.ntmps42
   go_wp2_with fail
   refine TS.begin [12] (World.Grows _) (by kernel_rfl) (by kernel_rfl) grows_drew0 (fun hS=>?_)
   refine TS.wkB 0 hS ?_
   refine TS.wkB 1 hS ?_
   refine TS.wkB 2 hS ?_
   refine TS.wkB 3 hS ?_
   refine TS.wkB 4 hS ?_
   refine TS.wkB 5 hS ?_
   refine TS.two (i:=6) (k:=10) (by decide+kernel) rfl rfl (fun K1 hK1=>?_) (fun K1 hK1=>?_)
   focus
    have HK1:=Lib.hid hK1
    clear hK1 hS
    dsimp only [List.getElem_toArray,List.getElem_cons_succ,List.getElem_cons_zero]
    go_simp
    go_at_call 42
    refine(H0.out _ growsP _ _ (HP0.out.grows growsP)).mono ?_
    rintro e' wA ⟨rfl,bA,dA,rfl⟩
    refine TS.go HK1.out growsP (fun hS=>?_)
    clear HK1 K1
    (try simp only [nS])
    refine TS.wkB 7 hS ?_
    refine TS.wkB 8 hS ?_
    refine TS.wkB 9 hS ?_
    refine TS.one (i:=10) (by decide+kernel) rfl (fun K1 hK1=>?_)
    have HK1:=Lib.hid hK1
    clear hK1 hS
    dsimp only [List.getElem_toArray,List.getElem_cons_succ,List.getElem_cons_zero]
    go_simp
    refine TS.go HK1.out growsP (fun hS=>?_)
    clear HK1 K1
    (try simp only [nS])
   rotate_left
   focus
    have HK1:=Lib.hid hK1
    clear hK1 hS
    dsimp only [List.getElem_toArray,List.getElem_cons_succ,List.getElem_cons_zero]
    go_simp
    refine TS.go HK1.out growsP (fun hS=>?_)
    clear HK1 K1
    (try simp only [nS])
    refine TS.one (i:=6) (by decide+kernel) rfl (fun K1 hK1=>?_)
    have HK1:=Lib.hid hK1
    clear hK1 hS
    dsimp only [List.getElem_toArray,List.getElem_cons_succ,List.getElem_cons_zero]
    go_simp
    go_at_call 42
    refine(H0.out _ growsP _ _ (HP0.out.grows growsP)).mono ?_
    rintro e' wA ⟨rfl,bA,dA,rfl⟩
    refine TS.go HK1.out growsP (fun hS=>?_)
    clear HK1 K1
    (try simp only [nS])
    refine TS.wkB 7 hS ?_
    refine TS.wkB 8 hS ?_
    refine TS.wkB 9 hS ?_
   rotate_left
   all_goals
    refine TS.one (i:=11) (by decide+kernel) rfl (fun K1 hK1=>?_)
    have HK1:=Lib.hid hK1
    clear hK1 hS
    dsimp only [List.getElem_toArray,List.getElem_cons_succ,List.getElem_cons_zero]
    go_simp
    refine TS.go HK1.out growsP (fun hS=>?_)
    clear HK1 K1
    (try simp only [nS])
    refine TS.weB 12 ?_
    clear hS
    go_wp2_with fail
    (go_returns;exact⟨by rw [HV.out];rfl,growsP⟩)
def valL(l:List Val):List Value:=l.flatMap fun x=>[.int .i64 x.dim,.bool x.yes,.int .i64 x.n,.int .i64 x.d]
theorem valL_snoc(l:List Val)(x:Val):valL (l++[x])=valL l++[.int .i64 x.dim,.bool x.yes,.int .i64 x.n,.int .i64 x.d]:=by
 unfold valL;simp
def argVs(v:Vw)(env:List (ByteArray × Val))(e:Ex):List Val:=e.args.map fun x=>(valueF v env x).1
theorem argVs_take(v:Vw)(env:List (ByteArray × Val))(e:Ex)(k:Nat)(hk:k<e.args.length):(argVs v env e).take (k+1)=(argVs v env e).take k++[(valueF v env (e.arg k)).1]:=by
 unfold argVs Ex.arg
 rw [List.take_succ_eq_append_getElem (by simpa using hk),List.getElem_map,List.getD_eq_getElem?_getD,List.getElem?_eq_getElem hk];rfl
theorem infoV:(Tryz.prog.info? 41).map (fun i=>(i.zero,i.size,i.bytes))=some (some (.agg #[.int .i64 0,.bool false,.int .i64 0,.int .i64 0]),4,32):=by kernel_rfl
theorem val_form{w:World}{base:Nat}{t:TypeId}{v:Value}{k:Nat}{xs:List Value}(h:w.ownsRow base t 4 v k xs):(v= .slice none 0 0∧k=0)∨∃g cap,v= .slice (some ⟨g,0,none⟩) k cap∧base≤g∧g<w.heap.size:=by
 exact fz52
theorem val_bad{v:Vw}{env:List (ByteArray × Val)}{e:Ex}(h4:4≤e.op)(h20:e.op≤20)(h17:¬e.op=17)(h18:¬e.op=18)(hlen:e.args.length=1∧e.op≤6∨e.args.length=2∧7≤e.op) :
 ∀k,k<e.args.length→(∀j,j<k→(valueF v env (e.arg j)).2=0)→(valueF v env (e.arg k)).2≠0→valueF v env e=(.zero,(valueF v env (e.arg k)).2):=by
 intro k hk hj hb
 have e0:(valuesF v env e.args).getD 0 (.zero,0)=valueF v env (e.arg 0):=values_get v env e.args 0 (by omega)
 rw [valueF_eq]
 unfold valNode
 rw [e0]
 dsimp only
 rw [if_neg (show ¬e.op=1 by omega),if_neg (show ¬e.op=2 by omega),if_neg (show ¬e.op=3 by omega)]
 rcases(show k=0∨k=1 by omega)with rfl|rfl
 ·rw [if_pos hb]
 ·have e1:(valuesF v env e.args).getD 1 (.zero,0)=valueF v env (e.arg 1):=values_get v env e.args 1 (by omega)
  have h0:=hj 0 (by omega)
  rw [e1,if_neg (by omega),if_neg h17,if_neg h18,if_neg (show ¬e.op=21 by omega),if_neg (show ¬e.op≤6 by omega),if_pos hb]
theorem val_one{v:Vw}{env:List (ByteArray × Val)}{e:Ex}(h4:4≤e.op)(h6:e.op≤6)(hlen:e.args.length=1)(h0:(valueF v env (e.arg 0)).2=0):valueF v env e=op1 e.op (valueF v env (e.arg 0)).1:=by
 have e0:(valuesF v env e.args).getD 0 (.zero,0)=valueF v env (e.arg 0):=values_get v env e.args 0 (by omega)
 rw [valueF_eq]
 unfold valNode
 rw [e0]
 dsimp only
 rw [if_neg (show ¬e.op=1 by omega),if_neg (show ¬e.op=2 by omega),if_neg (show ¬e.op=3 by omega),if_neg (by omega),if_neg (show ¬e.op=17 by omega),if_neg (show ¬e.op=18 by omega),if_neg (show ¬e.op=21 by omega),if_pos h6]
theorem val_two{v:Vw}{env:List (ByteArray × Val)}{e:Ex}(h7:7≤e.op)(h20:e.op≤20)(h17:¬e.op=17)(h18:¬e.op=18)(hlen:e.args.length=2)(h0:(valueF v env (e.arg 0)).2=0)(h1:(valueF v env (e.arg 1)).2=0):valueF v env e=op2 e.op (valueF v env (e.arg 0)).1 (valueF v env (e.arg 1)).1:=by
 have e0:(valuesF v env e.args).getD 0 (.zero,0)=valueF v env (e.arg 0):=values_get v env e.args 0 (by omega)
 have e1:(valuesF v env e.args).getD 1 (.zero,0)=valueF v env (e.arg 1):=values_get v env e.args 1 (by omega)
 rw [valueF_eq]
 unfold valNode
 rw [e0,e1]
 dsimp only
 rw [if_neg (show ¬e.op=1 by omega),if_neg (show ¬e.op=2 by omega),if_neg (show ¬e.op=3 by omega),if_neg (by omega),if_neg h17,if_neg h18,if_neg (show ¬e.op=21 by omega),if_neg (show ¬e.op≤6 by omega),if_neg (by omega)]
theorem v8_apply{v:Vw}{env:List (ByteArray × Val)}{e:Ex}(h4:4≤e.op)(h20:e.op≤20)(h17:¬e.op=17)(h18:¬e.op=18)(hlen:e.args.length=1∧e.op≤6∨e.args.length=2∧7≤e.op){ds:List Int}(hds:e.args.length=ds.length)(hres:resD e.op ds≠0)
 (hok:∀k,k<e.args.length→okR (ds.getD k 0) (valueF v env (e.arg k))) (hall:∀j,j<e.args.length→(valueF v env (e.arg j)).2=0) {base g cap:Nat} {w:World} (ho:w.ownsRow base 41 4 (.slice (some ⟨g,0,none⟩) e.args.length cap) e.args.length (valL (argVs v env e))) :
 Calls Tryz.prog 60 #[.int .i64 e.op,.slice (some ⟨g,0,none⟩) e.args.length cap] w (ApP (valueF v env e) w):=by
 have hg:g<w.heap.size:=by
  rcases val_form ho with ⟨hx,-⟩|⟨g',c',hx,-,hx2⟩
  ·cases hx
  ·simp only [Value.slice.injEq,Option.some.injEq,Addr.mk.injEq,and_true,true_and]at hx
   obtain⟨rfl,-⟩:=hx
   exact hx2
 have hc:∀i u,(valL (argVs v env e))[i]? =some u→w.cell? ⟨g,i,none⟩=some u:=fun i u hu=>by
  have:=World.ownsRow.cells (g:=g) ho rfl i u hu
  rwa [addr_add]at this
 obtain⟨l,hl⟩:∃l,e.args=l:=⟨_,rfl⟩
 rcases hlen with ⟨hl1,h6⟩|⟨hl2,h7⟩
 ·have g0:=(hok 0 (by omega)).good (hall 0 (by omega))
  obtain⟨d0,rfl⟩:∃d,ds= [d]:=List.length_eq_one_iff.1 (by omega)
  have hd:(valueF v env (e.arg 0)).1.dim=d0:=g0.2
  rw [val_one h4 h6 hl1 (hall 0 (by omega)),hl1]
  have hv:argVs v env e= [(valueF v env (e.arg 0)).1]:=by
   have:=argVs_take v env e 0 (by omega)
   rw [List.take_of_length_le (by unfold argVs;rw [List.length_map];omega)]at this
   simpa using this
  rw [hv]at hc
  exact apply1_any e.op _ g 0 cap w g0.1 h4 h6 (by rw [hd];exact hres) hg (hc 0 _ rfl) (hc 1 _ rfl) (hc 2 _ rfl) (hc 3 _ rfl)
 ·have g0:=(hok 0 (by omega)).good (hall 0 (by omega))
  have g1:=(hok 1 (by omega)).good (hall 1 (by omega))
  obtain⟨d0,d1,rfl⟩:∃d d',ds= [d,d']:=by
   match ds,hds with
   | [d,d'],_=>exact⟨d,d',rfl⟩
   | [],h=>rw [hl2]at h;simp at h
   | [_],h=>rw [hl2]at h;simp at h
   |_::_::_::_,h=>rw [hl2]at h;simp at h
  have hd:(valueF v env (e.arg 0)).1.dim=d0:=g0.2
  have hd1:(valueF v env (e.arg 1)).1.dim=d1:=g1.2
  rw [val_two h7 h20 h17 h18 hl2 (hall 0 (by omega)) (hall 1 (by omega)),hl2]
  have hv:argVs v env e= [(valueF v env (e.arg 0)).1,(valueF v env (e.arg 1)).1]:=by
   have t0:=argVs_take v env e 0 (by omega)
   have t1:=argVs_take v env e 1 (by omega)
   rw [List.take_of_length_le (by unfold argVs;rw [List.length_map];omega)]at t1
   rw [t1,t0];simp
  rw [hv]at hc
  exact apply2_any e.op _ _ g 0 cap w g0.1 g1.1 (by omega) (by rw [hd,hd1];exact hres) hg (hc 0 _ rfl) (hc 1 _ rfl) (hc 2 _ rfl) (hc 3 _ rfl) (hc 4 _ rfl) (hc 5 _ rfl) (hc 6 _ rfl) (hc 7 _ rfl)
theorem v8_op(S:Nat→Prop)(v:Vw)(y se:Value)(env:List (ByteArray × Val))(e:Ex)(a:Option Addr)(cap:Nat)(w:World)(h:RepE S w e (.slice a e.args.length cap))(hy:YrAt w y v.years)(hs:StpAt w se env)
 (h4:4≤e.op) (h20:e.op≤20) (h17:¬e.op=17) (h18:¬e.op=18) (ds:List Int) (hds:e.args.length=ds.length) (hal:(ds.length:Int)=argsN e.op) (hres:resD e.op ds≠0)
 (hok:∀k,k<e.args.length→okR (ds.getD k 0) (valueF v env (e.arg k))) (HA:Hid (∀k,k<e.args.length→V8IH S v y se (e.arg k) (valueF v env (e.arg k)) w)):(Calls Tryz.prog 42 #[exV e (.slice a e.args.length cap),vwV v y,se] w (ApP (valueF v env e) w)):=by
 obtain⟨i0,hi,hz0,hz1,hz2⟩:=info_parts infoV
 have hlen:e.args.length=1∧e.op≤6∨e.args.length=2∧7≤e.op:=by
  rw [hds]
  unfold argsN at hal
  by_cases h6:e.op≤6
  ·rw [if_neg (by omega),if_pos (by omega)]at hal;omega
  ·rw [if_neg (by omega),if_neg (by omega),if_pos (by omega)]at hal;omega
 have HLN:=Lib.hid hlen
 have hl2:e.args.length≤2:=by omega
 have HREP:=Lib.hid h
 have HOK:=Lib.hid hok
 have HRES:=Lib.hid hres
 have HDS:=Lib.hid hds
 have HBADV:Hid (∀k,k<e.args.length→(∀j,j<k→(valueF v env (e.arg j)).2=0)→(valueF v env (e.arg k)).2≠0→valueF v env e=(.zero,(valueF v env (e.arg k)).2)):=Lib.hid (val_bad h4 h20 h17 h18 hlen)
 have o1:(e.op==1)=false:=by simp;omega
 have o2:(e.op==2)=false:=by simp;omega
 have o3:(e.op==3)=false:=by simp;omega
 have o17:(e.op==17)=false:=by simp;omega
 have o18:(e.op==18)=false:=by simp;omega
 have o21:(e.op==21)=false:=by simp;omega
 have H46:=Lib.hid (show 4≤e.op∧e.op≤20∧¬e.op=17∧¬e.op=18 from⟨h4,h20,h17,h18⟩)
 unfold V8IH at HA
 obtain⟨ya,yc,rfl⟩:∃a c,y= .slice a v.years.length c:=by
  exact fz32
 obtain⟨sa,sc,rfl⟩:∃a c,se= .slice a env.length c:=by
  exact fz33
 unfold vwV exV
 unfold vwV at HA
 obtain⟨b,off,rfl,hb,-⟩:=h.arg_cells (by omega)
 clear hy hs h hok hres hds hlen hal h4 h20 h17 h18
 go_enter Tryz.func42,Tryz.ntmps42
 go_wp2_with fail
 go_loopw [17,18] (fun v17 v18 wr=>∃(k:Nat) (vb:Value),vb=v17∧k≤e.args.length∧v18= .int .i64 k∧Hid (∀j,j<k→(valueF v env (e.arg j)).2=0)∧Below (w.heap.size+1+1+1) ((((w.alloc (.cells #[.int .i64 e.op,.int .i64 e.num,.int .i64 e.den,.int .i64 e.dim,.string e.name,.slice (some ⟨b,off,none⟩) e.args.length cap] 27)).alloc (.cells #[.int .i64 v.age,.int .i64 v.year,.int .i64 v.children,.int .i64 v.insured,.int .i64 v.worked,.int .i64 v.voluntary,.int .i64 v.service,.int .i64 v.equated,.int .i64 v.raising,.int .i64 v.resident,.int .i64 v.bn,.int .i64 v.bd,.slice ya v.years.length yc] 38)).alloc (.cells #[.int .i64 0,.bool false,.int .i64 0,.int .i64 0] 41))) wr∧wr.ownsRow (w.heap.size+1+1+1) 41 4 vb k (valL ((argVs v env e).take k))) (fun _ v18 _=>e.args.length-(intOf v18).toNat)
 case atStart=>exact⟨0,_,rfl,by omega,rfl,Lib.hid (fun j hj=>by omega),.refl _ _,World.ownsRow_nil _ _ _ _⟩
 case round=>
  obtain⟨k,vb,rfl,hk,rfl,hno,hB,hown⟩:=hrel
  have HO:=Lib.hid hown
  have hvf:=val_form hown
  obtain⟨bs0,d0,rfl⟩:World.Grows ((((w.alloc (.cells #[.int .i64 e.op,.int .i64 e.num,.int .i64 e.den,.int .i64 e.dim,.string e.name,.slice (some ⟨b,off,none⟩) e.args.length cap] 27)).alloc (.cells #[.int .i64 v.age,.int .i64 v.year,.int .i64 v.children,.int .i64 v.insured,.int .i64 v.worked,.int .i64 v.voluntary,.int .i64 v.service,.int .i64 v.equated,.int .i64 v.raising,.int .i64 v.resident,.int .i64 v.bn,.int .i64 v.bd,.slice ya v.years.length yc] 38)).alloc (.cells #[.int .i64 0,.bool false,.int .i64 0,.int .i64 0] 41))) wr:=.of_below (by simpa using hB)
  clear hB hown
  by_cases hlt:k<e.args.length
  ·obtain⟨ak,ck,hpk,x0,x1,x2,x3,x4,x5⟩:=arg_at HREP.out rfl k hlt
   simp only [←Nat.add_assoc]at x1 x2 x3 x4 x5
   have d1:(k:Int)<(e.args.length:Int):=by omega
   have HPK:=Lib.hid hpk
   have HK:=Lib.hid (HA.out k hlt)
   have HNX:=Lib.hid (argVs_take v env e k hlt)
   have HBV:=HBADV.out k hlt hno.out
   have HZ:=HOK.out k hlt
   have HNO0:Hid ((valueF v env (e.arg k)).2=0→∀j,j<k+1→(valueF v env (e.arg j)).2=0):=Lib.hid (fun h j hj=>by
    by_cases ej:j=k
    ·subst ej;exact h
    ·exact hno.out j (by omega))
   generalize valueF v env (e.arg k)=rk at HK HNX HBV HZ HNO0
   obtain⟨⟨mk,qk,nk,dk⟩,rc⟩:=rk
   dsimp only at HK HNX HBV HNO0
   have HKL:=Lib.hid hlt
   clear hpk hvf
   by_cases hc:rc=0
   ·subst hc
    have HNO:Hid (Hid (∀j,j<k+1→(valueF v env (e.arg j)).2=0)):=Lib.hid (Lib.hid (HNO0.out rfl))
    clear HBV HZ HNO0 hno hlt
    go_wp2_with fail
    refine TS.begin [13] (World.Grows _) (by kernel_rfl) (by kernel_rfl) grows_drew0 (fun hS=>?_)
    refine TS.wkB 0 hS ?_
    refine TS.wkB 1 hS ?_
    refine TS.wkB 2 hS ?_
    refine TS.wkB 3 hS ?_
    refine TS.wkB 4 hS ?_
    refine TS.wkB 5 hS ?_
    refine TS.wkB 6 hS ?_
    refine TS.two (i:=7) (k:=11) (by decide+kernel) rfl rfl (fun K1 hK1=>?_) (fun K1 hK1=>?_)
    focus
     have HK1:=Lib.hid hK1
     clear hK1 hS
     dsimp only [List.getElem_toArray,List.getElem_cons_succ,List.getElem_cons_zero]
     go_simp
     go_at_call 42
     refine(HK.out _ growsP _ _ (HPK.out.grows growsP)).mono ?_
     rintro e' wA ⟨rfl,bA,dA,rfl⟩
     refine TS.go HK1.out growsP (fun hS=>?_)
     clear HK1 K1
     (try simp only [nS])
     refine TS.wkB 8 hS ?_
     refine TS.wkB 9 hS ?_
     refine TS.wkB 10 hS ?_
     refine TS.one (i:=11) (by decide+kernel) rfl (fun K1 hK1=>?_)
     have HK1:=Lib.hid hK1
     clear hK1 hS
     dsimp only [List.getElem_toArray,List.getElem_cons_succ,List.getElem_cons_zero]
     go_simp
     refine TS.go HK1.out growsP (fun hS=>?_)
     clear HK1 K1
     (try simp only [nS])
     refine TS.one (i:=12) (by decide+kernel) rfl (fun K1 hK1=>?_)
     have HK1:=Lib.hid hK1
     clear hK1 hS
     dsimp only [List.getElem_toArray,List.getElem_cons_succ,List.getElem_cons_zero]
     go_simp
     refine TS.go HK1.out growsP (fun hS=>?_)
     clear HK1 K1
     (try simp only [nS])
     refine TS.weB 13 ?_
     clear hS
     go_wp2_with (at_builtin;refine wpList_append_own _ rfl _ _ 125 rfl (w.heap.size+1+1+1) 41 i0 _ 4 32 Tryz.underlying125 hi hz0 hz1 hz2 rfl (by decide) _ _ _ rfl (own_grow HO.out growsP) ⟨w.heap.size+1+1+1+(bs0.size+bA.size)+1,0,none⟩ 1 1 [.int .i64 mk,.bool qk,.int .i64 nk,.int .i64 dk] rfl rfl ?c1 ?c2 ?c3 ?c4 ?c5 ?_)
     case c1=>exact news_cells _ [.int .i64 mk,.bool qk,.int .i64 nk,.int .i64 dk] _ _ (by simp)
     case c2=>intro u hu;simp at hu;rcases hu with rfl|rfl|rfl|rfl<;>rfl
     case c3=>unfold maxLen;omega
     case c4=>omega
     case c5=>simp;try omega
    rotate_left
    focus
     have HK1:=Lib.hid hK1
     clear hK1 hS
     dsimp only [List.getElem_toArray,List.getElem_cons_succ,List.getElem_cons_zero]
     go_simp
     refine TS.go HK1.out growsP (fun hS=>?_)
     clear HK1 K1
     (try simp only [nS])
     refine TS.one (i:=7) (by decide+kernel) rfl (fun K1 hK1=>?_)
     have HK1:=Lib.hid hK1
     clear hK1 hS
     dsimp only [List.getElem_toArray,List.getElem_cons_succ,List.getElem_cons_zero]
     go_simp
     go_at_call 42
     refine(HK.out _ growsP _ _ (HPK.out.grows growsP)).mono ?_
     rintro e' wA ⟨rfl,bA,dA,rfl⟩
     refine TS.go HK1.out growsP (fun hS=>?_)
     clear HK1 K1
     (try simp only [nS])
     refine TS.wkB 8 hS ?_
     refine TS.wkB 9 hS ?_
     refine TS.wkB 10 hS ?_
     refine TS.one (i:=12) (by decide+kernel) rfl (fun K1 hK1=>?_)
     have HK1:=Lib.hid hK1
     clear hK1 hS
     dsimp only [List.getElem_toArray,List.getElem_cons_succ,List.getElem_cons_zero]
     go_simp
     refine TS.go HK1.out growsP (fun hS=>?_)
     clear HK1 K1
     (try simp only [nS])
     refine TS.weB 13 ?_
     clear hS
     go_wp2_with (at_builtin;refine wpList_append_own _ rfl _ _ 125 rfl (w.heap.size+1+1+1) 41 i0 _ 4 32 Tryz.underlying125 hi hz0 hz1 hz2 rfl (by decide) _ _ _ rfl (own_grow HO.out growsP) ⟨w.heap.size+1+1+1+bs0.size+1+bA.size,0,none⟩ 1 1 [.int .i64 mk,.bool qk,.int .i64 nk,.int .i64 dk] rfl rfl ?c1 ?c2 ?c3 ?c4 ?c5 ?_)
     case c1=>exact news_cells _ [.int .i64 mk,.bool qk,.int .i64 nk,.int .i64 dk] _ _ (by simp)
     case c2=>intro u hu;simp at hu;rcases hu with rfl|rfl|rfl|rfl<;>rfl
     case c3=>unfold maxLen;omega
     case c4=>omega
     case c5=>simp;try omega
    rotate_left
    all_goals
     intro v' w1 hown' hgrow _
     have HB1:=Lib.hid ((show Below (w.heap.size+1+1+1) ((((w.alloc (.cells #[.int .i64 e.op,.int .i64 e.num,.int .i64 e.den,.int .i64 e.dim,.string e.name,.slice (some ⟨b,off,none⟩) e.args.length cap] 27)).alloc (.cells #[.int .i64 v.age,.int .i64 v.year,.int .i64 v.children,.int .i64 v.insured,.int .i64 v.worked,.int .i64 v.voluntary,.int .i64 v.service,.int .i64 v.equated,.int .i64 v.raising,.int .i64 v.resident,.int .i64 v.bn,.int .i64 v.bd,.slice ya v.years.length yc] 38)).alloc (.cells #[.int .i64 0,.bool false,.int .i64 0,.int .i64 0] 41))) _ from by(exact belB)).grown hgrow (by simp;try omega) (fun k hk=>(HO.out.lt k hk).1))
     have HO1:=Lib.hid hown'
     clear hown' hgrow
     go_wp2_with fail
     go_roundw
     case rel=>exact⟨k+1,_,rfl,HKL.out,by go_num,HNO.out,HB1.out,by rw [HNX.out,valL_snoc];exact HO1.out⟩
     case measure=>simp [intOf];have:=HKL.out;omega
   ·have hzz:=(HZ.bad hc).1
    simp only [Val.zero,Val.mk.injEq]at hzz
    obtain⟨rfl,rfl,rfl,rfl⟩:=hzz
    have HV:=Lib.hid (HBV hc)
    have hq1:(rc !=0)=true:=by simpa using hc
    clear hc HBV HZ HNO0 hno hlt
    go_wp2_with fail
    refine TS.begin [13] (World.Grows _) (by kernel_rfl) (by kernel_rfl) grows_drew0 (fun hS=>?_)
    refine TS.wkB 0 hS ?_
    refine TS.wkB 1 hS ?_
    refine TS.wkB 2 hS ?_
    refine TS.wkB 3 hS ?_
    refine TS.wkB 4 hS ?_
    refine TS.wkB 5 hS ?_
    refine TS.wkB 6 hS ?_
    refine TS.two (i:=7) (k:=11) (by decide+kernel) rfl rfl (fun K1 hK1=>?_) (fun K1 hK1=>?_)
    focus
     have HK1:=Lib.hid hK1
     clear hK1 hS
     dsimp only [List.getElem_toArray,List.getElem_cons_succ,List.getElem_cons_zero]
     go_simp
     go_at_call 42
     refine(HK.out _ growsP _ _ (HPK.out.grows growsP)).mono ?_
     rintro e' wA ⟨rfl,bA,dA,rfl⟩
     refine TS.go HK1.out growsP (fun hS=>?_)
     clear HK1 K1
     (try simp only [nS])
     refine TS.wkB 8 hS ?_
     refine TS.wkB 9 hS ?_
     refine TS.wkB 10 hS ?_
     refine TS.one (i:=11) (by decide+kernel) rfl (fun K1 hK1=>?_)
     have HK1:=Lib.hid hK1
     clear hK1 hS
     dsimp only [List.getElem_toArray,List.getElem_cons_succ,List.getElem_cons_zero]
     go_simp
     refine TS.go HK1.out growsP (fun hS=>?_)
     clear HK1 K1
     (try simp only [nS])
    rotate_left
    focus
     have HK1:=Lib.hid hK1
     clear hK1 hS
     dsimp only [List.getElem_toArray,List.getElem_cons_succ,List.getElem_cons_zero]
     go_simp
     refine TS.go HK1.out growsP (fun hS=>?_)
     clear HK1 K1
     (try simp only [nS])
     refine TS.one (i:=7) (by decide+kernel) rfl (fun K1 hK1=>?_)
     have HK1:=Lib.hid hK1
     clear hK1 hS
     dsimp only [List.getElem_toArray,List.getElem_cons_succ,List.getElem_cons_zero]
     go_simp
     go_at_call 42
     refine(HK.out _ growsP _ _ (HPK.out.grows growsP)).mono ?_
     rintro e' wA ⟨rfl,bA,dA,rfl⟩
     refine TS.go HK1.out growsP (fun hS=>?_)
     clear HK1 K1
     (try simp only [nS])
     refine TS.wkB 8 hS ?_
     refine TS.wkB 9 hS ?_
     refine TS.wkB 10 hS ?_
    rotate_left
    all_goals
     refine TS.one (i:=12) (by decide+kernel) rfl (fun K1 hK1=>?_)
     have HK1:=Lib.hid hK1
     clear hK1 hS
     dsimp only [List.getElem_toArray,List.getElem_cons_succ,List.getElem_cons_zero]
     go_simp
     refine TS.go HK1.out growsP (fun hS=>?_)
     clear HK1 K1
     (try simp only [nS])
     refine TS.weB 13 ?_
     clear hS
     go_wp2_with fail
     go_returns
     exact⟨by rw [HV.out];rfl,growsP⟩
  ·obtain rfl:k=e.args.length:=by omega
   obtain⟨g,gc,rfl⟩:∃g c,vb= .slice (some ⟨g,0,none⟩) e.args.length c:=by
    rcases hvf with ⟨-,h0⟩|⟨g,c,rfl,-⟩
    ·have:=HLN.out;omega
    ·exact⟨g,c,rfl⟩
   have hta:(argVs v env e).take e.args.length=argVs v env e:=List.take_of_length_le (by unfold argVs;rw [List.length_map];exact Nat.le_refl _)
   rw [hta]at HO
   have HAP:=Lib.hid (fun w' (hg:World.Grows (((((w.alloc (.cells #[.int .i64 e.op,.int .i64 e.num,.int .i64 e.den,.int .i64 e.dim,.string e.name,.slice (some ⟨b,off,none⟩) e.args.length cap] 27)).alloc (.cells #[.int .i64 v.age,.int .i64 v.year,.int .i64 v.children,.int .i64 v.insured,.int .i64 v.worked,.int .i64 v.voluntary,.int .i64 v.service,.int .i64 v.equated,.int .i64 v.raising,.int .i64 v.resident,.int .i64 v.bn,.int .i64 v.bd,.slice ya v.years.length yc] 38)).alloc (.cells #[.int .i64 0,.bool false,.int .i64 0,.int .i64 0] 41))).grow bs0 d0) w')=>v8_apply H46.out.1 H46.out.2.1 H46.out.2.2.1 H46.out.2.2.2 HLN.out HDS.out HRES.out HOK.out hno.out (own_grow HO.out hg))
   unfold ApP at HAP
   clear hvf hta hno hlt
   go_wp2_with (go_at_call 60;refine(HAP.out _ growsP).mono ?_;rintro e' w' ⟨rfl,bs,d,rfl⟩)
   go_returns
   exact⟨rfl,growsP⟩
theorem v8_if(S:Nat→Prop)(v:Vw)(y se:Value)(env:List (ByteArray × Val))(e:Ex)(a:Option Addr)(cap:Nat)(w:World)(h:RepE S w e (.slice a e.args.length cap))(hy:YrAt w y v.years)(hs:StpAt w se env)(hop:e.op=21)(hlen:e.args.length=3)
 (r0 r1 r2:Val × Int) (hr0:valueF v env (e.arg 0)=r0) (hr1:valueF v env (e.arg 1)=r1) (hr2:valueF v env (e.arg 2)=r2) (hz:r0.2≠0→r0.1= .zero) (H0:Hid (V8IH S v y se (e.arg 0) r0 w)) (H1:Hid (V8IH S v y se (e.arg 1) r1 w)) (H2:Hid (V8IH S v y se (e.arg 2) r2 w)):(Calls Tryz.prog 42 #[exV e (.slice a e.args.length cap),vwV v y,se] w (ApP (valueF v env e) w)):=by
 have HV0:Hid (valueF v env e=if r0.2≠0 then(.zero,r0.2)else(if r0.1.yes=true then r1 else r2)):=Lib.hid (by
  have e0:valueF v env (e.args.getD 0 default)=r0:=hr0
  have e1:valueF v env (e.args.getD 1 default)=r1:=hr1
  have e2:valueF v env (e.args.getD 2 default)=r2:=hr2
  rw [valueF_eq]
  unfold valNode
  rw [values_get v env e.args 0 (by omega),values_get v env e.args 1 (by omega),values_get v env e.args 2 (by omega),e0,e1,e2]
  rw [if_neg (by omega),if_neg (by omega),if_neg (by omega)]
  split
  ·rfl
  ·(rw [if_neg (show ¬e.op=17 by omega),if_neg (show ¬e.op=18 by omega)])<;>(first|rfl|rw [if_pos hop]))
 obtain⟨b,off,rfl,hb,-⟩:=h.arg_cells (by omega)
 obtain⟨a0,k0,hp0,x0,x1,x2,x3,x4,x5⟩:=arg_at h rfl 0 (by omega)
 obtain⟨a1,k1,hp1,z0,z1,z2,z3,z4,z5⟩:=arg_at h rfl 1 (by omega)
 obtain⟨a2,k2,hp2,y0,y1,y2,y3,y4,y5⟩:=arg_at h rfl 2 (by omega)
 simp only [Nat.zero_mul,Nat.zero_add,Nat.add_zero,Nat.one_mul,Nat.reduceAdd,Nat.reduceMul]at x0 x1 x2 x3 x4 x5 z0 z1 z2 z3 z4 z5 y0 y1 y2 y3 y4 y5
 have HP0:=Lib.hid hp0
 have HP1:=Lib.hid hp1
 have HP2:=Lib.hid hp2
 have hl0:(0:Int)<(e.args.length:Int):=by omega
 have hl2:0<e.args.length:=by omega
 have hl3:1<e.args.length:=by omega
 have hl4:(2:Int)<(e.args.length:Int):=by omega
 have hl5:2<e.args.length:=by omega
 have o17:(e.op==17)=false:=by simp;omega
 have o18:(e.op==18)=false:=by simp;omega
 have o21:(e.op==21)=true:=by simp [hop]
 have hl1:(1:Int)<(e.args.length:Int):=by omega
 have o1:(e.op==1)=false:=by simp;omega
 have o2:(e.op==2)=false:=by simp;omega
 have o3:(e.op==3)=false:=by simp;omega
 unfold V8IH at H0 H1 H2
 obtain⟨ya,yc,rfl⟩:∃a c,y= .slice a v.years.length c:=by
  exact fz32
 obtain⟨sa,sc,rfl⟩:∃a c,se= .slice a env.length c:=by
  exact fz33
 unfold vwV exV
 unfold vwV at H0 H1 H2
 have HLN:=Lib.hid hlen
 clear hy hs h hp0 hp1 hp2 hr0 hr1 hr2 hlen hop
 obtain⟨⟨m0,q0,n0,d0⟩,c0⟩:=r0
 obtain⟨⟨m1,q1,n1,d1⟩,c1⟩:=r1
 obtain⟨⟨m2,q2,n2,d2⟩,c2⟩:=r2
 dsimp only at hz H0 H1 H2 HV0
 by_cases hc:c0=0
 ·subst hc
  clear hz
  cases q0 with
  |true=>
   have HV:Hid (valueF v env e=(⟨m1,q1,n1,d1⟩,c1)):=Lib.hid (by rw [HV0.out];simp)
   clear HV0
   go_enter Tryz.func42,Tryz.ntmps42
   go_wp2_with fail
   refine TS.begin [12] (World.Grows _) (by kernel_rfl) (by kernel_rfl) grows_drew0 (fun hS=>?_)
   refine TS.wkB 0 hS ?_
   refine TS.wkB 1 hS ?_
   refine TS.wkB 2 hS ?_
   refine TS.wkB 3 hS ?_
   refine TS.wkB 4 hS ?_
   refine TS.wkB 5 hS ?_
   refine TS.two (i:=6) (k:=10) (by decide+kernel) rfl rfl (fun K1 hK1=>?_) (fun K1 hK1=>?_)
   focus
    have HK1:=Lib.hid hK1
    clear hK1 hS
    dsimp only [List.getElem_toArray,List.getElem_cons_succ,List.getElem_cons_zero]
    go_simp
    go_at_call 42
    refine(H0.out _ growsP _ _ (HP0.out.grows growsP)).mono ?_
    rintro e' wA ⟨rfl,bA,dA,rfl⟩
    refine TS.go HK1.out growsP (fun hS=>?_)
    clear HK1 K1
    (try simp only [nS])
    refine TS.wkB 7 hS ?_
    refine TS.wkB 8 hS ?_
    refine TS.wkB 9 hS ?_
    refine TS.one (i:=10) (by decide+kernel) rfl (fun K1 hK1=>?_)
    have HK1:=Lib.hid hK1
    clear hK1 hS
    dsimp only [List.getElem_toArray,List.getElem_cons_succ,List.getElem_cons_zero]
    go_simp
    refine TS.go HK1.out growsP (fun hS=>?_)
    clear HK1 K1
    (try simp only [nS])
   rotate_left
   focus
    have HK1:=Lib.hid hK1
    clear hK1 hS
    dsimp only [List.getElem_toArray,List.getElem_cons_succ,List.getElem_cons_zero]
    go_simp
    refine TS.go HK1.out growsP (fun hS=>?_)
    clear HK1 K1
    (try simp only [nS])
    refine TS.one (i:=6) (by decide+kernel) rfl (fun K1 hK1=>?_)
    have HK1:=Lib.hid hK1
    clear hK1 hS
    dsimp only [List.getElem_toArray,List.getElem_cons_succ,List.getElem_cons_zero]
    go_simp
    go_at_call 42
    refine(H0.out _ growsP _ _ (HP0.out.grows growsP)).mono ?_
    rintro e' wA ⟨rfl,bA,dA,rfl⟩
    refine TS.go HK1.out growsP (fun hS=>?_)
    clear HK1 K1
    (try simp only [nS])
    refine TS.wkB 7 hS ?_
    refine TS.wkB 8 hS ?_
    refine TS.wkB 9 hS ?_
   rotate_left
   all_goals
    refine TS.one (i:=11) (by decide+kernel) rfl (fun K1 hK1=>?_)
    have HK1:=Lib.hid hK1
    clear hK1 hS
    dsimp only [List.getElem_toArray,List.getElem_cons_succ,List.getElem_cons_zero]
    go_simp
    refine TS.go HK1.out growsP (fun hS=>?_)
    clear HK1 K1
    (try simp only [nS])
    refine TS.weB 12 ?_
    clear hS
    go_wp2_with fail
    refine TS.begin [9,10] (World.Grows _) (by kernel_rfl) (by kernel_rfl) grows_drew0 (fun hS=>?_)
    refine TS.wkB 0 hS ?_
    refine TS.wkB 1 hS ?_
    refine TS.wkB 2 hS ?_
    refine TS.wkB 3 hS ?_
    refine TS.wkB 4 hS ?_
    refine TS.wkB 5 hS ?_
    refine TS.one (i:=6) (by decide+kernel) rfl (fun K1 hK1=>?_)
    have HK1:=Lib.hid hK1
    clear hK1 hS
    dsimp only [List.getElem_toArray,List.getElem_cons_succ,List.getElem_cons_zero]
    go_simp
    go_at_call 42
    refine(H1.out _ growsP _ _ (HP1.out.grows growsP)).mono ?_
    rintro e' wA ⟨rfl,bA,dA,rfl⟩
    refine TS.go HK1.out growsP (fun hS=>?_)
    clear HK1 K1
    (try simp only [nS])
    refine TS.wkB 7 hS ?_
    refine TS.wkB 8 hS ?_
    refine TS.wtB 9 ?_
    refine TS.weB 10 ?_
    clear hS
    go_wp2_with fail
    go_returns
    exact⟨by rw [HV.out],growsP⟩
  |false=>
   have HV:Hid (valueF v env e=(⟨m2,q2,n2,d2⟩,c2)):=Lib.hid (by rw [HV0.out];simp)
   clear HV0
   go_enter Tryz.func42,Tryz.ntmps42
   go_wp2_with fail
   refine TS.begin [12] (World.Grows _) (by kernel_rfl) (by kernel_rfl) grows_drew0 (fun hS=>?_)
   refine TS.wkB 0 hS ?_
   refine TS.wkB 1 hS ?_
   refine TS.wkB 2 hS ?_
   refine TS.wkB 3 hS ?_
   refine TS.wkB 4 hS ?_
   refine TS.wkB 5 hS ?_
   refine TS.two (i:=6) (k:=10) (by decide+kernel) rfl rfl (fun K1 hK1=>?_) (fun K1 hK1=>?_)
   focus
    have HK1:=Lib.hid hK1
    clear hK1 hS
    dsimp only [List.getElem_toArray,List.getElem_cons_succ,List.getElem_cons_zero]
    go_simp
    go_at_call 42
    refine(H0.out _ growsP _ _ (HP0.out.grows growsP)).mono ?_
    rintro e' wA ⟨rfl,bA,dA,rfl⟩
    refine TS.go HK1.out growsP (fun hS=>?_)
    clear HK1 K1
    (try simp only [nS])
    refine TS.wkB 7 hS ?_
    refine TS.wkB 8 hS ?_
    refine TS.wkB 9 hS ?_
    refine TS.one (i:=10) (by decide+kernel) rfl (fun K1 hK1=>?_)
    have HK1:=Lib.hid hK1
    clear hK1 hS
    dsimp only [List.getElem_toArray,List.getElem_cons_succ,List.getElem_cons_zero]
    go_simp
    refine TS.go HK1.out growsP (fun hS=>?_)
    clear HK1 K1
    (try simp only [nS])
   rotate_left
   focus
    have HK1:=Lib.hid hK1
    clear hK1 hS
    dsimp only [List.getElem_toArray,List.getElem_cons_succ,List.getElem_cons_zero]
    go_simp
    refine TS.go HK1.out growsP (fun hS=>?_)
    clear HK1 K1
    (try simp only [nS])
    refine TS.one (i:=6) (by decide+kernel) rfl (fun K1 hK1=>?_)
    have HK1:=Lib.hid hK1
    clear hK1 hS
    dsimp only [List.getElem_toArray,List.getElem_cons_succ,List.getElem_cons_zero]
    go_simp
    go_at_call 42
    refine(H0.out _ growsP _ _ (HP0.out.grows growsP)).mono ?_
    rintro e' wA ⟨rfl,bA,dA,rfl⟩
    refine TS.go HK1.out growsP (fun hS=>?_)
    clear HK1 K1
    (try simp only [nS])
    refine TS.wkB 7 hS ?_
    refine TS.wkB 8 hS ?_
    refine TS.wkB 9 hS ?_
   rotate_left
   all_goals
    refine TS.one (i:=11) (by decide+kernel) rfl (fun K1 hK1=>?_)
    have HK1:=Lib.hid hK1
    clear hK1 hS
    dsimp only [List.getElem_toArray,List.getElem_cons_succ,List.getElem_cons_zero]
    go_simp
    refine TS.go HK1.out growsP (fun hS=>?_)
    clear HK1 K1
    (try simp only [nS])
    refine TS.weB 12 ?_
    clear hS
    go_wp2_with fail
    refine TS.begin [9,10] (World.Grows _) (by kernel_rfl) (by kernel_rfl) grows_drew0 (fun hS=>?_)
    refine TS.wkB 0 hS ?_
    refine TS.wkB 1 hS ?_
    refine TS.wkB 2 hS ?_
    refine TS.wkB 3 hS ?_
    refine TS.wkB 4 hS ?_
    refine TS.wkB 5 hS ?_
    refine TS.one (i:=6) (by decide+kernel) rfl (fun K1 hK1=>?_)
    have HK1:=Lib.hid hK1
    clear hK1 hS
    dsimp only [List.getElem_toArray,List.getElem_cons_succ,List.getElem_cons_zero]
    go_simp
    go_at_call 42
    refine(H2.out _ growsP _ _ (HP2.out.grows growsP)).mono ?_
    rintro e' wA ⟨rfl,bA,dA,rfl⟩
    refine TS.go HK1.out growsP (fun hS=>?_)
    clear HK1 K1
    (try simp only [nS])
    refine TS.wkB 7 hS ?_
    refine TS.wkB 8 hS ?_
    refine TS.wtB 9 ?_
    refine TS.weB 10 ?_
    clear hS
    go_wp2_with fail
    go_returns
    exact⟨by rw [HV.out],growsP⟩
 ·have hzz:=hz hc
  simp only [Val.zero,Val.mk.injEq]at hzz
  obtain⟨rfl,rfl,rfl,rfl⟩:=hzz
  have HV:Hid (valueF v env e=(.zero,c0)):=Lib.hid (by rw [HV0.out,if_pos hc])
  have hq1:(c0 !=0)=true:=by simpa using hc
  clear hc hz HV0
  go_enter Tryz.func42,Tryz.ntmps42
  go_wp2_with fail
  refine TS.begin [12] (World.Grows _) (by kernel_rfl) (by kernel_rfl) grows_drew0 (fun hS=>?_)
  refine TS.wkB 0 hS ?_
  refine TS.wkB 1 hS ?_
  refine TS.wkB 2 hS ?_
  refine TS.wkB 3 hS ?_
  refine TS.wkB 4 hS ?_
  refine TS.wkB 5 hS ?_
  refine TS.two (i:=6) (k:=10) (by decide+kernel) rfl rfl (fun K1 hK1=>?_) (fun K1 hK1=>?_)
  focus
   have HK1:=Lib.hid hK1
   clear hK1 hS
   dsimp only [List.getElem_toArray,List.getElem_cons_succ,List.getElem_cons_zero]
   go_simp
   go_at_call 42
   refine(H0.out _ growsP _ _ (HP0.out.grows growsP)).mono ?_
   rintro e' wA ⟨rfl,bA,dA,rfl⟩
   refine TS.go HK1.out growsP (fun hS=>?_)
   clear HK1 K1
   (try simp only [nS])
   refine TS.wkB 7 hS ?_
   refine TS.wkB 8 hS ?_
   refine TS.wkB 9 hS ?_
   refine TS.one (i:=10) (by decide+kernel) rfl (fun K1 hK1=>?_)
   have HK1:=Lib.hid hK1
   clear hK1 hS
   dsimp only [List.getElem_toArray,List.getElem_cons_succ,List.getElem_cons_zero]
   go_simp
   refine TS.go HK1.out growsP (fun hS=>?_)
   clear HK1 K1
   (try simp only [nS])
  rotate_left
  focus
   have HK1:=Lib.hid hK1
   clear hK1 hS
   dsimp only [List.getElem_toArray,List.getElem_cons_succ,List.getElem_cons_zero]
   go_simp
   refine TS.go HK1.out growsP (fun hS=>?_)
   clear HK1 K1
   (try simp only [nS])
   refine TS.one (i:=6) (by decide+kernel) rfl (fun K1 hK1=>?_)
   have HK1:=Lib.hid hK1
   clear hK1 hS
   dsimp only [List.getElem_toArray,List.getElem_cons_succ,List.getElem_cons_zero]
   go_simp
   go_at_call 42
   refine(H0.out _ growsP _ _ (HP0.out.grows growsP)).mono ?_
   rintro e' wA ⟨rfl,bA,dA,rfl⟩
   refine TS.go HK1.out growsP (fun hS=>?_)
   clear HK1 K1
   (try simp only [nS])
   refine TS.wkB 7 hS ?_
   refine TS.wkB 8 hS ?_
   refine TS.wkB 9 hS ?_
  rotate_left
  all_goals
   refine TS.one (i:=11) (by decide+kernel) rfl (fun K1 hK1=>?_)
   have HK1:=Lib.hid hK1
   clear hK1 hS
   dsimp only [List.getElem_toArray,List.getElem_cons_succ,List.getElem_cons_zero]
   go_simp
   refine TS.go HK1.out growsP (fun hS=>?_)
   clear HK1 K1
   (try simp only [nS])
   refine TS.weB 12 ?_
   clear hS
   go_wp2_with fail
   (go_returns;exact⟨by rw [HV.out];rfl,growsP⟩)
theorem v8_ih{S:Nat→Prop}{v:Vw}{y se:Value}{env:List (ByteArray × Val)}{x:Ex}{w:World}(h:∀(a:Option Addr) (cap:Nat) (w':World),w.Grows w'→RepE S w' x (.slice a x.args.length cap)→Calls Tryz.prog 42 #[exV x (.slice a x.args.length cap),vwV v y,se] w' (ApP (valueF v env x) w')):Hid (V8IH S v y se x (valueF v env x) w):=
 Lib.hid fun w' hg a c hr=>h a c w' hg hr
theorem value8_walk(S:Nat→Prop)(v:Vw)(hv:v.ok=true)(hrg:VwRng v)(y se:Value)(env:List (ByteArray × Val))(hE:∀p∈env,p.2.ok=true)(n:Nat):∀e:Ex,e.size≤n→formedB e=true→(inferF (dimsOf env) e).2=0→∀(a:Option Addr) (cap:Nat) (w:World),RepE S w e (.slice a e.args.length cap)→YrAt w y v.years→StpAt w se env→
 (Calls Tryz.prog 42 #[exV e (.slice a e.args.length cap),vwV v y,se] w (ApP (valueF v env e) w)):=by
 induction n with
 |zero=>intro e he;have:=e.size_pos;omega
 |succ n ih=>
  intro e he hf hi a cap w h hy hs
  by_cases h1:e.op=1
  ·exact v8_lit v y se env e a cap w hy hs h1
  by_cases h3:e.op=3
  ·exact v8_best v y se env e a cap w hy hs h3
  by_cases h2:e.op=2
  ·cases hx:inputV v e.name with
   |some x=>exact v8_input v y se env e a cap w hrg hy hs h2 x hx
   |none=>
    have hn:(inferN (dimsOf env) e.name).2=0:=by
     rw [inferF_eq]at hi
     unfold infNode at hi
     rw [if_neg h1,if_neg h3,if_pos h2]at hi
     exact hi
    have hnm:=name_typed hv hE hn
    unfold nameF at hnm
    rw [hx]at hnm
    dsimp only at hnm
    cases hl:lastN env e.name with
    |some x=>exact v8_env v y se env e a cap w hrg hy hs h2 x hx hl
    |none=>rw [hl]at hnm;simp at hnm
  obtain⟨ds,hds,hal,ho4,ho21,hres,hop⟩:=typed_op hv hE hf hi h1 h2 h3
  have IH:∀k,k<e.args.length→Hid (V8IH S v y se (e.arg k) (valueF v env (e.arg k)) w):=fun k hk=>v8_ih fun a' c' w' hg hr=>
   ih (e.arg k) (by have:=e.size_arg k hk;omega) (hop k hk).1 (hop k hk).2.1 a' c' w' hr (hy.grows hg) (hs.grows hg)
  by_cases h17:e.op=17∨e.op=18
  ·have hlen:e.args.length=2:=by
    unfold argsN at hal
    rw [if_neg (by omega),if_neg (by omega),if_pos (by omega)]at hal;omega
   exact v8_logic S v y se env e a cap w h hy hs h17 hlen _ _ rfl rfl (fun hz=>((hop 0 (by omega)).2.2.bad hz).1) (IH 0 (by omega)) (IH 1 (by omega))
  by_cases h21:e.op=21
  ·have hlen:e.args.length=3:=by
    unfold argsN at hal
    rw [if_neg (by omega),if_neg (by omega),if_neg (by omega),if_pos (by omega)]at hal;omega
   exact v8_if S v y se env e a cap w h hy hs h21 hlen _ _ _ rfl rfl rfl (fun hz=>((hop 0 (by omega)).2.2.bad hz).1) (IH 0 (by omega)) (IH 1 (by omega)) (IH 2 (by omega))
  exact v8_op S v y se env e a cap w h hy hs ho4 (by omega) (by omega) (by omega) ds hds hal hres (fun k hk=>(hop k hk).2.2) (Lib.hid fun k hk=>(IH k hk).out)
end Go.Proofs.YtfoefpoaomepbaaGreatDoor
