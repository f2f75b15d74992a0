import Derived.Test.YtlheailebbngiaaGreatDoorLLawBo
import Derived.Test.YtlheailebbngiaaGreatDoorLK
set_option linter.all false
set_option maxHeartbeats 16000000
set_option maxRecDepth 1000000
namespace Go.Proofs.YtlheailebbngiaaGreatDoor
open Go.RowKit Go.Sort Go.Lib
theorem sub_cellsY{w:World}{b off:Nat}{zs:List Int}(hc:∀i,i<zs.length→w.cell? ⟨b,off+i,none⟩=some (.int .i64 (zs.getD i 0)))(s:Nat)(l:List Int)(hl:∀(j:Nat) (x:Int),l[j]? =some x→zs[s+j]? =some x) :
 ∀(j:Nat) (u:Value),(l.map (Value.int .i64))[j]? =some u→w.cell? ((⟨b,off+s,none⟩:Addr).add j)=some u:=by
 intro j u hu
 rw [List.getElem?_map]at hu
 cases hx:l[j]? with
 |none=>rw [hx]at hu;cases hu
 |some x=>
  rw [hx]at hu
  obtain rfl:Value.int .i64 x=u:=by simpa using hu
  have h1:=hl j x hx
  have h2:=(List.getElem?_eq_some_iff.1 h1).1
  rw [show(⟨b,off+s,none⟩:Addr).add j=⟨b,off+s+j,none⟩by unfold Addr.add;split<;>simp_all,Nat.add_assoc,hc _ h2,List.getD_eq_getElem?_getD,h1];rfl
theorem sub_cells0{w:World}{b:Nat}{zs:List Int}(hc:∀i,i<zs.length→w.cell? ⟨b,i,none⟩=some (.int .i64 (zs.getD i 0)))(s:Nat)(l:List Int)(hl:∀(j:Nat) (x:Int),l[j]? =some x→zs[s+j]? =some x) :
 ∀(j:Nat) (u:Value),(l.map (Value.int .i64))[j]? =some u→w.cell? ((⟨b,s,none⟩:Addr).add j)=some u:=by
 have:=sub_cellsY (w:=w) (b:=b) (off:=0) (zs:=zs) (fun i hi=>by rw [Nat.zero_add];exact hc i hi) s l hl
 rwa [Nat.zero_add]at this
theorem take_someY{l:List Int}{a j:Nat}{x:Int}(h:(l.take a)[j]? =some x):l[j]? =some x:=by
 rw [List.getElem?_take]at h
 split at h
 ·exact h
 ·cases h
theorem own_oneY(zs:List Int):∀u∈zs.map (Value.int .i64),u.oneCell'=true:=by
 intro u hu
 obtain⟨z,_,rfl⟩:=List.mem_map.1 hu
 rfl
theorem best8_good(l:List Int)(n:Int)(v:Value)(w:World)(hy:YrAt w v l)(h1:1≤n)(h2:n≤45)(h3:yearsOk l=true):Calls Tryz.prog 23 #[v,.int .i64 n] w fun e w'=>e= .returned (frV (bestF l n))∧w.Grows w':=by
 rw [bestF_good h1 h2 h3]
 obtain⟨i0,hi,hz0,hz1,hz2⟩:=info_parts infoY
 obtain⟨nn,rfl⟩:=Int.eq_ofNat_of_zero_le (show 0≤n by omega)
 have HY:=Lib.hid hy
 have HA:=Lib.hid (fun w' (hg:w.Grows w')=>amounts_any l v w' (HY.out.grows hg))
 rw [h3]at HA
 have HB3:=Lib.hid h3
 have hl200:l.length≤200:=(years_mem h3).1
 have HBS:Hid (bestS l (nn:Int)=((sortD l).take nn).sum):=Lib.hid rfl
 have HM:=Lib.hid (fun z (h1:0≤z) (h2:z≤200000000000000) w=>MakeFraction_any z (nn:Int) w (by omega) (by omega) (by omega) (by omega))
 obtain⟨h1000,a,c,rfl,-⟩:=hy
 unfold frV at *
 dsimp only
 generalize bestS l (nn:Int)=BS at *
 clear h3
 go_enter Tryz.func23,Tryz.ntmps23
 go_wp2_with (go_at_call 56;refine(HA.out _ (.of_below belB)).mono ?_;rintro e' w' ⟨rfl,rfl⟩)
 go_loopw [6,7,8] (fun v6 v7 _ wr=>∃(k:Nat) (vb:Value),vb=v6∧k≤l.length∧v7= .int .i64 k∧(k=0→vb= .slice none 0 0)∧Below (w.heap.size+1) (w.alloc (.cells #[.int .i64 0,.int .i64 0] 23)) wr∧wr.ownsRow (w.heap.size+1) 3 1 vb k ((sortK l k).map (Value.int .i64))) (fun _ v7 _ _=>l.length-(intOf v7).toNat)
 case atStart=>exact⟨0,_,rfl,by omega,rfl,fun _=>rfl,.refl _ _,World.ownsRow_nil _ _ _ _⟩
 case round=>
  obtain⟨k,vb,rfl,hk,rfl,hnil,hB,hown⟩:=hrel
  obtain⟨WR,rfl⟩:∃WR,WR=wr:=⟨_,rfl⟩
  have HB:=Lib.hid hB
  have HO:=Lib.hid hown
  have hsW:w.heap.size+1≤WR.heap.size:=by have:=hB.size;simpa using this
  have hG:w.Grows WR:=.of_below ((show Below w.heap.size w _ from by(exact belB)).trans (hB.mono (by omega)))
  have hsk:=sortK_len l k hk
  by_cases hlt:k<l.length
  ·obtain⟨-,a',c',hv,hcs⟩:=HY.out.grows hG
   simp only [Value.slice.injEq,true_and]at hv
   obtain⟨rfl,rfl⟩:=hv
   rcases hcs with h0|⟨b,off,rfl,hbw,hx⟩
   ·omega
   have x0:=hx k hlt
   have d1:(k:Int)<(l.length:Int):=by omega
   have HSP:=Lib.hid (fun a0=>sortK_split l k a0 hlt)
   have HKL:=Lib.hid hlt
   have hlt0:0<l.length:=by omega
   have hYB:YrAt WR vb (sortK l k):=YrAt.of_rowB hown hsk.symm rfl (by omega)
   have HYB:=Lib.hid hYB
   have hform:=row_form hown
   clear hx hlt hB hown hYB
   generalize l.getD k 0=x at *
   generalize hzs:sortK l k=zs at *
   have HZS:=Lib.hid hzs
   clear hzs
   rcases Nat.eq_zero_or_pos k with hk0|hkp
   ·subst hk0
    obtain rfl:=hnil rfl
    have hz0':zs= []:=List.eq_nil_of_length_eq_zero hsk
    subst hz0'
    have HI2:Hid (sortK l (0+1)= [x]):=Lib.hid (by have:=HSP.out 0 (Nat.le_refl _) (.inl rfl) (fun j h1 h2=>by omega);simpa using this)
    have d0:0<l.length:=hlt0
    have HF:Hid (∀q,Below (w.heap.size+1) (w.alloc (.cells #[.int .i64 0,.int .i64 0] 23)) (WR.drewN q)∧(WR.drewN q).cell? ⟨b,off,none⟩=some (.int .i64 x)∧b<(WR.drewN q).heap.size∧w.heap.size+1≤(WR.drewN q).heap.size):=Lib.hid (fun q=>⟨HB.out.drewN q,x0,hbw,hsW⟩)
    go_wp2_with fail
    go_loopw [8] (fun v8 wr=>v8= .int .i64 0∧∃q,wr=WR.drewN q) (fun _ _=>0)
    case atStart=>exact⟨rfl,0,rfl⟩
    case round=>
     obtain⟨rfl,q,rfl⟩:=hrel
     go_wp2_with fail
     all_goals try(first|(go_quiet (fail);go_wp2_with fail)|(go_region;go_wp2_with fail))
     simp only [World.drewN_drewN]
     have HF1:=HF.out (q+nq)
     clear HF HB HO x0 hbw hsW HYB hG
     generalize WR.drewN (q+nq)=WR at *
     obtain⟨hB,x0,hbw,hsW⟩:=HF1
     have HB:=Lib.hid hB
     clear hB
     refine TG.begin 14 (fun wS=>wS.cell? ⟨b,off,none⟩=some (.int .i64 x)) (by kernel_rfl) (by kernel_rfl) (by simpa using x0) (fun hS=>?_)
     refine TG.tkB 0 hS ?_
     refine TG.tkB 1 hS ?_
     refine TG.tkB 2 hS ?_
     refine TG.tkB 4 hS ?_
     refine TG.tkB 5 hS ?_
     refine TG.tkB 6 hS ?_
     refine TG.tkB 7 hS ?_
     refine TG.tkB 10 hS ?_
     refine TG.tkB 11 hS ?_
     refine TG.tkB 12 hS ?_
     refine TG.two (i:=3) (k:=8) (by kernel_rfl) rfl rfl (fun K1 hK1=>?_) (fun K1 hK1=>?_)
     focus
      refine step_append_noneY rfl _ _ 24 rfl WR.heap.size 3 i0 1 Tryz.underlying24 hi (.slice none 0 0) 0 [] rfl (World.ownsRow_nil _ _ _ _) rfl ?_
      refine TG.go hK1 ?_ (fun hS=>?_)
      focus exact hS
      clear hK1 K1
      (try simp only [nS])
      refine TG.one (i:=8) (by kernel_rfl) rfl (fun K1 hK1=>?_)
      go_simp
      refine TG.go hK1 ?_ (fun hS=>?_)
      focus exact(by rw [show((WR.alloc (.cells #[.int .i64 x] 3)).drew).cell? ⟨b,off,none⟩=WR.cell? ⟨b,off,none⟩from World.cell?_alloc_lt WR _ ⟨b,off,none⟩ hbw];exact x0)
     rotate_left
     focus
      go_simp
      refine TG.go hK1 ?_ (fun hS=>?_)
      focus exact(by rw [show((WR.alloc (.cells #[.int .i64 x] 3)).drew).cell? ⟨b,off,none⟩=WR.cell? ⟨b,off,none⟩from World.cell?_alloc_lt WR _ ⟨b,off,none⟩ hbw];exact x0)
      clear hK1 K1
      (try simp only [nS])
      refine TG.one (i:=3) (by kernel_rfl) rfl (fun K1 hK1=>?_)
      refine step_append_noneY rfl _ _ 24 rfl WR.heap.size 3 i0 1 Tryz.underlying24 hi (.slice none 0 0) 0 [] rfl (World.ownsRow_nil _ _ _ _) rfl ?_
      refine TG.go hK1 ?_ (fun hS=>?_)
      focus exact hS
     rotate_left
     all_goals
      clear hK1 K1
      (try simp only [nS])
      refine TG.one (i:=9) (by kernel_rfl) rfl (fun K1 hK1=>?_)
      refine step_append_ownY rfl _ _ 24 rfl WR.heap.size 3 i0 (.int .i64 0) 1 8 Tryz.underlying24 hi hz0 hz1 hz2 rfl (by decide) (.slice none 0 0) 0 [] rfl (World.ownsRow_nil _ _ _ _) ⟨WR.heap.size,0,none⟩ 1 1 ([x].map (Value.int .i64)) rfl rfl ?_ (own_oneY _) (by decide) (by decide) (by simp) ?_
      focus exact news_cells _ [.int .i64 x] _ _ (by simp)
      intro v2 w2 hown2 hgrow2
      have HB2:=Lib.hid (Below.grown ((Below.refl WR.heap.size WR).alloc (Nat.le_refl _) (.cells #[.int .i64 x] 3)).drew hgrow2 (by simp) (fun k hk=>by cases hk))
      have HO2:=Lib.hid hown2
      clear hown2 hgrow2
      refine TG.go hK1 ?_ (fun hS=>?_)
      focus exact(HB2.out.cell (p:=⟨b,off+0,none⟩) hbw).trans x0
      clear hK1 K1
      (try simp only [nS])
      refine TG.one (i:=13) (by kernel_rfl) rfl (fun K1 hK1=>?_)
      refine step_append_noneY rfl _ _ 24 rfl WR.heap.size 3 i0 1 Tryz.underlying24 hi v2 _ _ rfl HO2.out rfl ?_
      refine TG.go hK1 ?_ (fun hS=>?_)
      focus exact hS
      clear hK1 K1
      (try simp only [nS])
      refine TG.one (i:=14) (by kernel_rfl) rfl (fun K1 hK1=>?_)
      go_simp
      refine hK1 _ _ (fun h=>absurd rfl h) (TG.done (by kernel_rfl) ?_)
      clear hK1 K1 hS
      (try simp only [nS])
      go_wp2_with fail
      go_roundw
      case rel=>
       refine⟨1,v2,rfl,HKL.out,by first|rfl|go_num,fun h=>by omega,HB.out.trans (HB2.out.mono hsW), ?_⟩
       rw [HI2.out]
       have ho2:=ownsRow_base HO2.out hsW
       simpa using ho2
      case measure=>simp [intOf];have:=HKL.out;omega
   ·rcases hform with ⟨-,h0⟩|⟨g,gc,rfl,hg1,hg2⟩
    ·omega
    have HC:Hid (∀i,i<zs.length→WR.cell? ⟨g,i,none⟩=some (.int .i64 (zs.getD i 0))):=Lib.hid (by
     obtain⟨-,a',c',hv,hx⟩:=HYB.out
     simp only [Value.slice.injEq]at hv
     obtain⟨rfl,-,-⟩:=hv
     rcases hx with hx|⟨b',off',he,-,hx⟩
     ·omega
     simp only [Option.some.injEq,Addr.mk.injEq,and_true]at he
     obtain⟨rfl,rfl⟩:=he
     intro i hi
     have:=hx i hi
     rwa [Nat.zero_add]at this)
    have HF:Hid (∀q,Below (w.heap.size+1) (w.alloc (.cells #[.int .i64 0,.int .i64 0] 23)) (WR.drewN q)∧(WR.drewN q).ownsRow (w.heap.size+1) 3 1 (.slice (some ⟨g,0,none⟩) k gc) k (zs.map (Value.int .i64))∧(∀i,i<zs.length→(WR.drewN q).cell? ⟨g,i,none⟩=some (.int .i64 (zs.getD i 0)))∧(WR.drewN q).cell? ⟨b,off+k,none⟩=some (.int .i64 x)∧b<(WR.drewN q).heap.size∧g<(WR.drewN q).heap.size∧w.heap.size+1≤(WR.drewN q).heap.size):=Lib.hid (fun q=>⟨HB.out.drewN q,HO.out,HC.out,x0,hbw,hg2,hsW⟩)
    go_upto_block 2 with fail
    go_cut [8]from 23 to 60 (fun v8 wx=>∃a0 q:Nat,v8= .int .i64 a0∧a0≤k∧Hid ((a0=0∨x≤zs.getD (a0-1) 0)∧∀j,a0≤j→j<k→zs.getD j 0<x)∧wx=WR.drewN q)
    case first=>
     go_wp2_with fail
     go_loopw [8] (fun v8 wr=>∃j q:Nat,j≤k∧v8= .int .i64 j∧Hid (∀i,j≤i→i<k→zs.getD i 0<x)∧wr=WR.drewN q) (fun v8 _=>(intOf v8).toNat)
     case atStart=>exact⟨k,0,by omega,rfl,Lib.hid (fun i h1 h2=>by omega),rfl⟩
     case round=>
      obtain⟨j,q,hj,rfl,HJ,rfl⟩:=hrel
      rcases j with _|j
      ·go_wp2_with fail
       all_goals try(first|(go_quiet (fail);go_wp2_with fail)|(go_region;go_wp2_with fail))
       go_meet
       exact⟨0,_,rfl,by omega,Lib.hid ⟨.inl rfl,fun i _ h2=>HJ.out i (by omega) h2⟩,World.drewN_drewN _ _ _⟩
      ·have hc:=HC.out j (by omega)
       have e0:(0:Int)≤(j:Int):=by omega
       have e1:(j:Int)<(k:Int):=by omega
       have e2:(k:Int)≤900:=by omega
       have HZJ:Hid (zs.getD j 0=zs.getD j 0):=Lib.hid rfl
       obtain⟨z,hz⟩:∃z,zs.getD j 0=z:=⟨_,rfl⟩
       rw [hz]at hc
       have HZ:=Lib.hid hz
       clear hz
       by_cases hle:z<x
       ·have HL:=Lib.hid hle
        go_wp2_with fail
        all_goals try(first|(go_quiet (fail);go_wp2_with fail)|(go_region;go_wp2_with fail))
        go_roundw
        case rel=>exact⟨j,q+nq,by omega,by go_num,Lib.hid (fun i h1 h2=>by
         by_cases ei:i=j
         ·subst ei;rw [HZ.out];exact HL.out
         ·exact HJ.out i (by omega) h2),by first|exact World.drewN_drewN _ _ _|rfl⟩
        case measure=>first|(simp [intOf];done)|(simp [intOf];omega)
       ·have HL:=Lib.hid hle
        go_wp2_with fail
        all_goals try(first|(go_quiet (fail);go_wp2_with fail)|(go_region;go_wp2_with fail))
        go_meet
        exact⟨j+1,_,by go_num,hj,Lib.hid ⟨.inr (by rw [Nat.add_sub_cancel,HZ.out];have:=HL.out;omega),fun i h1 h2=>HJ.out i h1 h2⟩,World.drewN_drewN _ _ _⟩
    obtain⟨a0,q,rfl,ha0,HCUT,rfl⟩:=hcut
    have HF1:=HF.out q
    clear HF HB HO HC x0 hbw hg2 hsW HYB hG
    generalize WR.drewN q=WR at *
    obtain⟨hB,hO,hC,x0,hbw,hg2,hsW⟩:=HF1
    have HB:=Lib.hid hB
    have HO:=Lib.hid hO
    have HC:=Lib.hid hC
    clear hB hO hC
    have HI2:Hid (sortK l (k+1)=zs.take a0++x::zs.drop a0):=Lib.hid (HSP.out a0 ha0 HCUT.out.1 HCUT.out.2)
    have hkc:k≤gc:=by
     obtain⟨-,h0|⟨g',cap',cur,hv,-,-,hcp,-⟩⟩:=HO.out
     ·cases h0.1
     ·simp only [Value.slice.injEq]at hv
      omega
    have had:(a0:Int)≤(gc:Int):=by omega
    have hac:a0≤gc:=by omega
    have had2:(a0:Int)≤(k:Int):=by omega
    by_cases hlt2:a0<k
    ·have hnc:¬gc=a0:=by omega
     have HEQ:Hid (a0≤k):=Lib.hid ha0
     go_wp2_with fail
     refine TG.begin 14 (fun wS=>wS.cell? ⟨b,off+k,none⟩=some (.int .i64 x)) (by kernel_rfl) (by kernel_rfl) (by simpa using x0) (fun hS=>?_)
     refine TG.tkB 0 hS ?_
     refine TG.tkB 1 hS ?_
     refine TG.tkB 2 hS ?_
     refine TG.tkB 4 hS ?_
     refine TG.tkB 5 hS ?_
     refine TG.tkB 6 hS ?_
     refine TG.tkB 7 hS ?_
     refine TG.tkB 10 hS ?_
     refine TG.tkB 11 hS ?_
     refine TG.tkB 12 hS ?_
     refine TG.two (i:=3) (k:=8) (by kernel_rfl) rfl rfl (fun K1 hK1=>?_) (fun K1 hK1=>?_)
     focus
      refine step_append_ownY rfl _ _ 24 rfl WR.heap.size 3 i0 (.int .i64 0) 1 8 Tryz.underlying24 hi hz0 hz1 hz2 rfl (by decide) (.slice none 0 0) 0 [] rfl (World.ownsRow_nil _ _ _ _) ⟨g,0,none⟩ a0 gc ((zs.take a0).map (Value.int .i64)) rfl (by simp;omega) (sub_cells0 (zs:=zs) (w:=WR.drew) HC.out 0 _ (fun j x hx=>by rw [Nat.zero_add];exact take_someY hx)) (own_oneY _) (by unfold maxLen;omega) (by omega) (by simp) ?_
      intro v1 w1 hown1 hgrow1
      simp only [Nat.zero_add,List.nil_append]at hown1
      have hb1:=Below.grown (Below.refl WR.heap.size WR).drew hgrow1 (by simp) (fun k hk=>by cases hk)
      have hs1:=hb1.size
      have HB1:=Lib.hid (hb1.alloc hs1 (.cells #[.int .i64 x] 3))
      have HO1:=Lib.hid (hown1.alloc (.cells #[.int .i64 x] 3))
      have hx1:=(hb1.cell (p:=⟨b,off+k,none⟩) hbw).trans x0
      refine TG.go hK1 ?_ (fun hS=>?_)
      focus exact hx1
      clear hK1 K1
      (try simp only [nS])
      refine TG.one (i:=8) (by kernel_rfl) rfl (fun K1 hK1=>?_)
      go_simp
      refine TG.go hK1 ?_ (fun hS=>?_)
      focus exact(HB1.out.cell (p:=⟨b,off+k,none⟩) hbw).trans x0
      clear hK1 K1
      (try simp only [nS])
      have HC5:Hid ((w1.alloc (.cells #[.int .i64 x] 3)).cell? ⟨w1.heap.size,0,none⟩=some (.int .i64 x)):=Lib.hid (by rw [World.cell?_alloc_at _ _ _ _ rfl];rfl)
      generalize w1.alloc (.cells #[.int .i64 x] 3)=w9 at *
      generalize w1.heap.size=g5 at *
      clear hown1 hgrow1 hb1 hx1
      refine TG.one (i:=9) (by kernel_rfl) rfl (fun K1 hK1=>?_)
      refine step_append_ownY rfl _ _ 24 rfl WR.heap.size 3 i0 (.int .i64 0) 1 8 Tryz.underlying24 hi hz0 hz1 hz2 rfl (by decide) v1 a0 _ rfl HO1.out ⟨g5,0,none⟩ 1 1 ([x].map (Value.int .i64)) rfl rfl ?_ (own_oneY _) (by unfold maxLen;omega) (by omega) HB1.out.size ?_
      focus
       intro j u hu
       rw [addr_add]
       rcases j with _|j
       ·simp at hu;subst hu;exact HC5.out
       ·simp at hu
     rotate_left
     focus
      go_simp
      refine TG.go hK1 ?_ (fun hS=>?_)
      focus exact(by rw [show((WR.alloc (.cells #[.int .i64 x] 3)).drew).cell? ⟨b,off+k,none⟩=WR.cell? ⟨b,off+k,none⟩from World.cell?_alloc_lt WR _ ⟨b,off+k,none⟩ hbw];exact x0)
      clear hK1 K1
      (try simp only [nS])
      refine TG.one (i:=3) (by kernel_rfl) rfl (fun K1 hK1=>?_)
      refine step_append_ownY rfl _ _ 24 rfl WR.heap.size 3 i0 (.int .i64 0) 1 8 Tryz.underlying24 hi hz0 hz1 hz2 rfl (by decide) (.slice none 0 0) 0 [] rfl (World.ownsRow_nil _ _ _ _) ⟨g,0,none⟩ a0 gc ((zs.take a0).map (Value.int .i64)) rfl (by simp;omega) (sub_cells0 (zs:=zs) (w:=(WR.alloc (.cells #[.int .i64 x] 3)).drew) (fun i hi=>by rw [show((WR.alloc (.cells #[.int .i64 x] 3)).drew).cell? ⟨g,i,none⟩=WR.cell? ⟨g,i,none⟩from World.cell?_alloc_lt WR _ ⟨g,i,none⟩ hg2];exact HC.out i hi) 0 _ (fun j x hx=>by rw [Nat.zero_add];exact take_someY hx)) (own_oneY _) (by unfold maxLen;omega) (by omega) (by simp) ?_
      intro v1 w1 hown1 hgrow1
      simp only [Nat.zero_add,List.nil_append]at hown1
      have hb1:=Below.grown ((Below.refl WR.heap.size WR).alloc (Nat.le_refl _) (.cells #[.int .i64 x] 3)).drew hgrow1 (by simp) (fun k hk=>by cases hk)
      have HB1:=Lib.hid hb1
      have HO1:=Lib.hid hown1
      have HC5:Hid (w1.cell? ⟨WR.heap.size,0,none⟩=some (.int .i64 x)):=Lib.hid ((hgrow1.cell_far ⟨WR.heap.size,0,none⟩ (by simp) (by simp [Value.ownBlock])).trans (by show(WR.alloc _).cell? _=_;rw [World.cell?_alloc_at _ _ _ _ rfl];rfl))
      refine TG.go hK1 ?_ (fun hS=>?_)
      focus exact(HB1.out.cell (p:=⟨b,off+k,none⟩) hbw).trans x0
      clear hK1 K1
      (try simp only [nS])
      clear hown1 hgrow1 hb1
      refine TG.one (i:=9) (by kernel_rfl) rfl (fun K1 hK1=>?_)
      refine step_append_ownY rfl _ _ 24 rfl WR.heap.size 3 i0 (.int .i64 0) 1 8 Tryz.underlying24 hi hz0 hz1 hz2 rfl (by decide) v1 a0 _ rfl HO1.out ⟨WR.heap.size,0,none⟩ 1 1 ([x].map (Value.int .i64)) rfl rfl ?_ (own_oneY _) (by unfold maxLen;omega) (by omega) HB1.out.size ?_
      focus
       intro j u hu
       rw [addr_add]
       rcases j with _|j
       ·simp at hu;subst hu;exact HC5.out
       ·simp at hu
     rotate_left
     all_goals
      intro v2 w2 hown2 hgrow2
      have HB2:=Lib.hid (HB1.out.grown hgrow2 HB1.out.size (fun k hk=>(HO1.out.lt k hk).1))
      have HO2:=Lib.hid hown2
      clear hown2 hgrow2
      refine TG.go hK1 ?_ (fun hS=>?_)
      focus exact(HB2.out.cell (p:=⟨b,off+k,none⟩) hbw).trans x0
      clear hK1 K1
      (try simp only [nS])
      refine TG.one (i:=13) (by kernel_rfl) rfl (fun K1 hK1=>?_)
      refine step_append_ownY rfl _ _ 24 rfl WR.heap.size 3 i0 (.int .i64 0) 1 8 Tryz.underlying24 hi hz0 hz1 hz2 rfl (by decide) v2 (a0+1) _ rfl HO2.out ⟨g,a0,none⟩ (k-a0) (gc-a0) ((zs.drop a0).map (Value.int .i64)) rfl (by simp;try omega) (sub_cells0 (w:=w2) (zs:=zs) (fun i hi=>by rw [HB2.out.cell (p:=⟨g,i,none⟩) hg2];exact HC.out i hi) a0 _ (fun j x hx=>by rw [List.getElem?_drop]at hx;exact hx)) (own_oneY _) (by unfold maxLen;omega) (by omega) HB2.out.size ?_
      exact lz7
    ·have HZL:=Lib.hid (show zs.drop a0= []from List.drop_eq_nil_of_le (by omega))
     have HEQ:Hid (a0=k):=Lib.hid (by omega)
     by_cases hcc:gc=a0
     ·go_wp2_with fail
      refine TG.begin 14 (fun wS=>wS.cell? ⟨b,off+k,none⟩=some (.int .i64 x)) (by kernel_rfl) (by kernel_rfl) (by simpa using x0) (fun hS=>?_)
      refine TG.tkB 0 hS ?_
      refine TG.tkB 1 hS ?_
      refine TG.tkB 2 hS ?_
      refine TG.tkB 4 hS ?_
      refine TG.tkB 5 hS ?_
      refine TG.tkB 6 hS ?_
      refine TG.tkB 7 hS ?_
      refine TG.tkB 10 hS ?_
      refine TG.tkB 11 hS ?_
      refine TG.tkB 12 hS ?_
      refine TG.two (i:=3) (k:=8) (by kernel_rfl) rfl rfl (fun K1 hK1=>?_) (fun K1 hK1=>?_)
      focus
       refine step_append_ownY rfl _ _ 24 rfl WR.heap.size 3 i0 (.int .i64 0) 1 8 Tryz.underlying24 hi hz0 hz1 hz2 rfl (by decide) (.slice none 0 0) 0 [] rfl (World.ownsRow_nil _ _ _ _) ⟨g,0,none⟩ a0 a0 ((zs.take a0).map (Value.int .i64)) rfl (by simp;omega) (sub_cells0 (zs:=zs) (w:=WR.drew) HC.out 0 _ (fun j x hx=>by rw [Nat.zero_add];exact take_someY hx)) (own_oneY _) (by unfold maxLen;omega) (by omega) (by simp) ?_
       intro v1 w1 hown1 hgrow1
       simp only [Nat.zero_add,List.nil_append]at hown1
       have hb1:=Below.grown (Below.refl WR.heap.size WR).drew hgrow1 (by simp) (fun k hk=>by cases hk)
       have hs1:=hb1.size
       have HB1:=Lib.hid (hb1.alloc hs1 (.cells #[.int .i64 x] 3))
       have HO1:=Lib.hid (hown1.alloc (.cells #[.int .i64 x] 3))
       have hx1:=(hb1.cell (p:=⟨b,off+k,none⟩) hbw).trans x0
       refine TG.go hK1 ?_ (fun hS=>?_)
       focus exact hx1
       clear hK1 K1
       (try simp only [nS])
       refine TG.one (i:=8) (by kernel_rfl) rfl (fun K1 hK1=>?_)
       go_simp
       refine TG.go hK1 ?_ (fun hS=>?_)
       focus exact(HB1.out.cell (p:=⟨b,off+k,none⟩) hbw).trans x0
       clear hK1 K1
       (try simp only [nS])
       have HC5:Hid ((w1.alloc (.cells #[.int .i64 x] 3)).cell? ⟨w1.heap.size,0,none⟩=some (.int .i64 x)):=Lib.hid (by rw [World.cell?_alloc_at _ _ _ _ rfl];rfl)
       generalize w1.alloc (.cells #[.int .i64 x] 3)=w9 at *
       generalize w1.heap.size=g5 at *
       clear hown1 hgrow1 hb1 hx1
       refine TG.one (i:=9) (by kernel_rfl) rfl (fun K1 hK1=>?_)
       refine step_append_ownY rfl _ _ 24 rfl WR.heap.size 3 i0 (.int .i64 0) 1 8 Tryz.underlying24 hi hz0 hz1 hz2 rfl (by decide) v1 a0 _ rfl HO1.out ⟨g5,0,none⟩ 1 1 ([x].map (Value.int .i64)) rfl rfl ?_ (own_oneY _) (by unfold maxLen;omega) (by omega) HB1.out.size ?_
       focus
        intro j u hu
        rw [addr_add]
        rcases j with _|j
        ·simp at hu;subst hu;exact HC5.out
        ·simp at hu
      rotate_left
      focus
       go_simp
       refine TG.go hK1 ?_ (fun hS=>?_)
       focus exact(by rw [show((WR.alloc (.cells #[.int .i64 x] 3)).drew).cell? ⟨b,off+k,none⟩=WR.cell? ⟨b,off+k,none⟩from World.cell?_alloc_lt WR _ ⟨b,off+k,none⟩ hbw];exact x0)
       clear hK1 K1
       (try simp only [nS])
       refine TG.one (i:=3) (by kernel_rfl) rfl (fun K1 hK1=>?_)
       refine step_append_ownY rfl _ _ 24 rfl WR.heap.size 3 i0 (.int .i64 0) 1 8 Tryz.underlying24 hi hz0 hz1 hz2 rfl (by decide) (.slice none 0 0) 0 [] rfl (World.ownsRow_nil _ _ _ _) ⟨g,0,none⟩ a0 a0 ((zs.take a0).map (Value.int .i64)) rfl (by simp;omega) (sub_cells0 (zs:=zs) (w:=(WR.alloc (.cells #[.int .i64 x] 3)).drew) (fun i hi=>by rw [show((WR.alloc (.cells #[.int .i64 x] 3)).drew).cell? ⟨g,i,none⟩=WR.cell? ⟨g,i,none⟩from World.cell?_alloc_lt WR _ ⟨g,i,none⟩ hg2];exact HC.out i hi) 0 _ (fun j x hx=>by rw [Nat.zero_add];exact take_someY hx)) (own_oneY _) (by unfold maxLen;omega) (by omega) (by simp) ?_
       intro v1 w1 hown1 hgrow1
       simp only [Nat.zero_add,List.nil_append]at hown1
       have hb1:=Below.grown ((Below.refl WR.heap.size WR).alloc (Nat.le_refl _) (.cells #[.int .i64 x] 3)).drew hgrow1 (by simp) (fun k hk=>by cases hk)
       have HB1:=Lib.hid hb1
       have HO1:=Lib.hid hown1
       have HC5:Hid (w1.cell? ⟨WR.heap.size,0,none⟩=some (.int .i64 x)):=Lib.hid ((hgrow1.cell_far ⟨WR.heap.size,0,none⟩ (by simp) (by simp [Value.ownBlock])).trans (by show(WR.alloc _).cell? _=_;rw [World.cell?_alloc_at _ _ _ _ rfl];rfl))
       refine TG.go hK1 ?_ (fun hS=>?_)
       focus exact(HB1.out.cell (p:=⟨b,off+k,none⟩) hbw).trans x0
       clear hK1 K1
       (try simp only [nS])
       clear hown1 hgrow1 hb1
       refine TG.one (i:=9) (by kernel_rfl) rfl (fun K1 hK1=>?_)
       refine step_append_ownY rfl _ _ 24 rfl WR.heap.size 3 i0 (.int .i64 0) 1 8 Tryz.underlying24 hi hz0 hz1 hz2 rfl (by decide) v1 a0 _ rfl HO1.out ⟨WR.heap.size,0,none⟩ 1 1 ([x].map (Value.int .i64)) rfl rfl ?_ (own_oneY _) (by unfold maxLen;omega) (by omega) HB1.out.size ?_
       focus
        intro j u hu
        rw [addr_add]
        rcases j with _|j
        ·simp at hu;subst hu;exact HC5.out
        ·simp at hu
      rotate_left
      all_goals
       intro v2 w2 hown2 hgrow2
       have HB2:=Lib.hid (HB1.out.grown hgrow2 HB1.out.size (fun k hk=>(HO1.out.lt k hk).1))
       have HO2:=Lib.hid hown2
       clear hown2 hgrow2
       refine TG.go hK1 ?_ (fun hS=>?_)
       focus exact(HB2.out.cell (p:=⟨b,off+k,none⟩) hbw).trans x0
       clear hK1 K1
       (try simp only [nS])
       refine TG.one (i:=13) (by kernel_rfl) rfl (fun K1 hK1=>?_)
       refine step_append_ownY rfl _ _ 24 rfl WR.heap.size 3 i0 (.int .i64 0) 1 8 Tryz.underlying24 hi hz0 hz1 hz2 rfl (by decide) v2 (a0+1) _ rfl HO2.out ⟨g,0,none⟩ (k-a0) (0) ((zs.drop a0).map (Value.int .i64)) rfl (by simp;try omega) (by intro j u hu;rw [HZL.out]at hu;simp at hu) (own_oneY _) (by unfold maxLen;omega) (by omega) HB2.out.size ?_
       exact lz7
     ·go_wp2_with fail
      refine TG.begin 14 (fun wS=>wS.cell? ⟨b,off+k,none⟩=some (.int .i64 x)) (by kernel_rfl) (by kernel_rfl) (by simpa using x0) (fun hS=>?_)
      refine TG.tkB 0 hS ?_
      refine TG.tkB 1 hS ?_
      refine TG.tkB 2 hS ?_
      refine TG.tkB 4 hS ?_
      refine TG.tkB 5 hS ?_
      refine TG.tkB 6 hS ?_
      refine TG.tkB 7 hS ?_
      refine TG.tkB 10 hS ?_
      refine TG.tkB 11 hS ?_
      refine TG.tkB 12 hS ?_
      refine TG.two (i:=3) (k:=8) (by kernel_rfl) rfl rfl (fun K1 hK1=>?_) (fun K1 hK1=>?_)
      focus
       refine step_append_ownY rfl _ _ 24 rfl WR.heap.size 3 i0 (.int .i64 0) 1 8 Tryz.underlying24 hi hz0 hz1 hz2 rfl (by decide) (.slice none 0 0) 0 [] rfl (World.ownsRow_nil _ _ _ _) ⟨g,0,none⟩ a0 gc ((zs.take a0).map (Value.int .i64)) rfl (by simp;omega) (sub_cells0 (zs:=zs) (w:=WR.drew) HC.out 0 _ (fun j x hx=>by rw [Nat.zero_add];exact take_someY hx)) (own_oneY _) (by unfold maxLen;omega) (by omega) (by simp) ?_
       intro v1 w1 hown1 hgrow1
       simp only [Nat.zero_add,List.nil_append]at hown1
       have hb1:=Below.grown (Below.refl WR.heap.size WR).drew hgrow1 (by simp) (fun k hk=>by cases hk)
       have hs1:=hb1.size
       have HB1:=Lib.hid (hb1.alloc hs1 (.cells #[.int .i64 x] 3))
       have HO1:=Lib.hid (hown1.alloc (.cells #[.int .i64 x] 3))
       have hx1:=(hb1.cell (p:=⟨b,off+k,none⟩) hbw).trans x0
       refine TG.go hK1 ?_ (fun hS=>?_)
       focus exact hx1
       clear hK1 K1
       (try simp only [nS])
       refine TG.one (i:=8) (by kernel_rfl) rfl (fun K1 hK1=>?_)
       go_simp
       refine TG.go hK1 ?_ (fun hS=>?_)
       focus exact(HB1.out.cell (p:=⟨b,off+k,none⟩) hbw).trans x0
       clear hK1 K1
       (try simp only [nS])
       have HC5:Hid ((w1.alloc (.cells #[.int .i64 x] 3)).cell? ⟨w1.heap.size,0,none⟩=some (.int .i64 x)):=Lib.hid (by rw [World.cell?_alloc_at _ _ _ _ rfl];rfl)
       generalize w1.alloc (.cells #[.int .i64 x] 3)=w9 at *
       generalize w1.heap.size=g5 at *
       clear hown1 hgrow1 hb1 hx1
       refine TG.one (i:=9) (by kernel_rfl) rfl (fun K1 hK1=>?_)
       refine step_append_ownY rfl _ _ 24 rfl WR.heap.size 3 i0 (.int .i64 0) 1 8 Tryz.underlying24 hi hz0 hz1 hz2 rfl (by decide) v1 a0 _ rfl HO1.out ⟨g5,0,none⟩ 1 1 ([x].map (Value.int .i64)) rfl rfl ?_ (own_oneY _) (by unfold maxLen;omega) (by omega) HB1.out.size ?_
       focus
        intro j u hu
        rw [addr_add]
        rcases j with _|j
        ·simp at hu;subst hu;exact HC5.out
        ·simp at hu
      rotate_left
      focus
       go_simp
       refine TG.go hK1 ?_ (fun hS=>?_)
       focus exact(by rw [show((WR.alloc (.cells #[.int .i64 x] 3)).drew).cell? ⟨b,off+k,none⟩=WR.cell? ⟨b,off+k,none⟩from World.cell?_alloc_lt WR _ ⟨b,off+k,none⟩ hbw];exact x0)
       clear hK1 K1
       (try simp only [nS])
       refine TG.one (i:=3) (by kernel_rfl) rfl (fun K1 hK1=>?_)
       refine step_append_ownY rfl _ _ 24 rfl WR.heap.size 3 i0 (.int .i64 0) 1 8 Tryz.underlying24 hi hz0 hz1 hz2 rfl (by decide) (.slice none 0 0) 0 [] rfl (World.ownsRow_nil _ _ _ _) ⟨g,0,none⟩ a0 gc ((zs.take a0).map (Value.int .i64)) rfl (by simp;omega) (sub_cells0 (zs:=zs) (w:=(WR.alloc (.cells #[.int .i64 x] 3)).drew) (fun i hi=>by rw [show((WR.alloc (.cells #[.int .i64 x] 3)).drew).cell? ⟨g,i,none⟩=WR.cell? ⟨g,i,none⟩from World.cell?_alloc_lt WR _ ⟨g,i,none⟩ hg2];exact HC.out i hi) 0 _ (fun j x hx=>by rw [Nat.zero_add];exact take_someY hx)) (own_oneY _) (by unfold maxLen;omega) (by omega) (by simp) ?_
       intro v1 w1 hown1 hgrow1
       simp only [Nat.zero_add,List.nil_append]at hown1
       have hb1:=Below.grown ((Below.refl WR.heap.size WR).alloc (Nat.le_refl _) (.cells #[.int .i64 x] 3)).drew hgrow1 (by simp) (fun k hk=>by cases hk)
       have HB1:=Lib.hid hb1
       have HO1:=Lib.hid hown1
       have HC5:Hid (w1.cell? ⟨WR.heap.size,0,none⟩=some (.int .i64 x)):=Lib.hid ((hgrow1.cell_far ⟨WR.heap.size,0,none⟩ (by simp) (by simp [Value.ownBlock])).trans (by show(WR.alloc _).cell? _=_;rw [World.cell?_alloc_at _ _ _ _ rfl];rfl))
       refine TG.go hK1 ?_ (fun hS=>?_)
       focus exact(HB1.out.cell (p:=⟨b,off+k,none⟩) hbw).trans x0
       clear hK1 K1
       (try simp only [nS])
       clear hown1 hgrow1 hb1
       refine TG.one (i:=9) (by kernel_rfl) rfl (fun K1 hK1=>?_)
       refine step_append_ownY rfl _ _ 24 rfl WR.heap.size 3 i0 (.int .i64 0) 1 8 Tryz.underlying24 hi hz0 hz1 hz2 rfl (by decide) v1 a0 _ rfl HO1.out ⟨WR.heap.size,0,none⟩ 1 1 ([x].map (Value.int .i64)) rfl rfl ?_ (own_oneY _) (by unfold maxLen;omega) (by omega) HB1.out.size ?_
       focus
        intro j u hu
        rw [addr_add]
        rcases j with _|j
        ·simp at hu;subst hu;exact HC5.out
        ·simp at hu
      rotate_left
      all_goals
       intro v2 w2 hown2 hgrow2
       have HB2:=Lib.hid (HB1.out.grown hgrow2 HB1.out.size (fun k hk=>(HO1.out.lt k hk).1))
       have HO2:=Lib.hid hown2
       clear hown2 hgrow2
       refine TG.go hK1 ?_ (fun hS=>?_)
       focus exact(HB2.out.cell (p:=⟨b,off+k,none⟩) hbw).trans x0
       clear hK1 K1
       (try simp only [nS])
       refine TG.one (i:=13) (by kernel_rfl) rfl (fun K1 hK1=>?_)
       refine step_append_ownY rfl _ _ 24 rfl WR.heap.size 3 i0 (.int .i64 0) 1 8 Tryz.underlying24 hi hz0 hz1 hz2 rfl (by decide) v2 (a0+1) _ rfl HO2.out ⟨g,a0,none⟩ (k-a0) (gc-a0) ((zs.drop a0).map (Value.int .i64)) rfl (by simp;try omega) (by intro j u hu;rw [HZL.out]at hu;simp at hu) (own_oneY _) (by unfold maxLen;omega) (by omega) HB2.out.size ?_
       exact lz7
  ·obtain rfl:k=l.length:=by omega
   have hYB:YrAt WR vb (sortD l):=YrAt.of_rowB hown (by rw [←sortK_all,hsk]) (by rw [sortK_all]) (by rw [←sortK_all,hsk];omega)
   have hG1:World.Grows (w.alloc (.cells #[.int .i64 0,.int .i64 0] 23)) WR:=.of_below (by simpa using hB)
   have HSB:=Lib.hid (sumK_bd HB3.out (sortD_perm l))
   have HGB:=Lib.hid (getD_bd HB3.out (sortD_perm l))
   have hz200:(sortD l).length≤200:=by rw [←sortK_all,hsk];omega
   clear HO hown hsk HA
   generalize sortD l=zs at *
   obtain⟨bs9,d9,rfl⟩:=hG1
   obtain⟨-,va,vc,rfl,hvc⟩:=hYB
   have HVC:=Lib.hid hvc
   clear hvc hB hG
   go_wp2_with fail
   go_loopw [9,10] (fun v9 v10 wr=>∃j:Nat,j≤zs.length∧j≤nn∧v10= .int .i64 j∧v9= .int .i64 (sumK zs j)∧wr=World.grow (w.alloc (.cells #[.int .i64 0,.int .i64 0] 23)) bs9 d9) (fun _ v10 _=>nn-(intOf v10).toNat)
   case atStart=>exact⟨0,by omega,by omega,rfl,rfl,rfl⟩
   case round=>
    obtain⟨j,hj,hjn,rfl,rfl,rfl⟩:=hrel
    have hb1:=HSB.out j
    by_cases hlt2:j<zs.length∧j<nn
    ·rcases HVC.out with h0|⟨b,off,rfl,hbw,hx⟩
     ·omega
     have x0:=hx j hlt2.1
     have d1:(j:Int)<(zs.length:Int):=by omega
     have d2:(j:Int)<(nn:Int):=by omega
     have hs:=sumK_succ zs j hlt2.1
     have hb2:=HSB.out (j+1)
     rw [hs]at hb2
     have HS1:=Lib.hid hs
     have HKL:=Lib.hid hlt2
     clear hs hlt2 hx
     generalize zs.getD j 0=z at *
     generalize sumK zs j=sk at *
     go_wp2_with fail
     go_roundw
     case rel=>exact⟨j+1,HKL.out.1,HKL.out.2,by go_num,by rw [HS1.out],by first|rfl|trivial⟩
     case measure=>simp [intOf];have:=HKL.out;omega
    ·have hBS:BS=sumK zs j:=by
      rw [HBS.out]
      unfold sumK
      by_cases e:j=nn
      ·rw [e]
      ·rw [List.take_of_length_le (by omega),List.take_of_length_le (by omega)]
     subst hBS
     have HBB:=Lib.hid hb1
     by_cases d1:(j:Int)<(zs.length:Int)
     ·have d2:¬(j:Int)<(nn:Int):=by omega
      exact lz64
     ·exact lz64
theorem Best8_any(l:List Int)(n:Int)(v:Value)(w:World)(hy:YrAt w v l):Calls Tryz.prog 23 #[v,.int .i64 n] w fun e w'=>e= .returned (frV (bestF l n))∧w.Grows w':=by
 by_cases h:n<1∨45<n∨yearsOk l=false
 ·exact best8_bad l n v w hy h
 ·simp only [not_or,Bool.not_eq_false]at h
  exact best8_good l n v w hy (by omega) (by omega) h.2.2
end Go.Proofs.YtlheailebbngiaaGreatDoor
