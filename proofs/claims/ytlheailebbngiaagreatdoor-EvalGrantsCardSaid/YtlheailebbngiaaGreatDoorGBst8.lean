import Derived.Test.YtlheailebbngiaaGreatDoorGAw8
set_option linter.all false
set_option maxHeartbeats 16000000
set_option maxRecDepth 1000000
namespace Go.Proofs.YtlheailebbngiaaGreatDoor
open Go.Proofs.Tryz List
open Go.RowKit Go.Sort Go.Lib
theorem CE{w:World}{b off:Nat}{zs:List Int}(hc:∀i,i<zs.length->w.cell? ⟨b,off+i,none⟩=some (.int .i64 (zs.getD i 0)))(s:Nat)(l:List Int)(hl:∀(j:Nat) (x:Int),l[j]? =some x->zs[s+j]? =some x) :
 ∀(j:Nat) (u:Value),(l.map (Value.int .i64))[j]? =some u->w.cell? ((⟨b,off+s,none⟩:Addr).add j)=some u:=by
 intro j u hu;rw [getElem?_map]at hu
 cases hx:l[j]? with
 |none=>rw [hx]at hu;cases hu
 |some x=>
  rw [hx]at hu;obtain rfl:Value.int .i64 x=u:=by simpa using hu
  have h1:=hl j x hx;have h2:=(List.getElem?_eq_some_iff.1 h1).1;rw [show(⟨b,off+s,none⟩:Addr).add j=⟨b,off+s+j,none⟩by unfold Addr.add;split<;>simp_all,Nat.add_assoc,hc _ h2,getD_eq_getElem?_getD,h1];rfl
theorem gB{w:World}{b:Nat}{zs:List Int}(hc:∀i,i<zs.length->w.cell? ⟨b,i,none⟩=some (.int .i64 (zs.getD i 0)))(s:Nat)(l:List Int)(hl:∀(j:Nat) (x:Int),l[j]? =some x->zs[s+j]? =some x) :
 ∀(j:Nat) (u:Value),(l.map (Value.int .i64))[j]? =some u->w.cell? ((⟨b,s,none⟩:Addr).add j)=some u:=by
 have:=CE (w:=w) (b:=b) (off:=0) (zs:=zs) (fun i hi=>by rw [Nat.zero_add];exact hc i hi) s l hl
 rwa [Nat.zero_add]at this
theorem iE{l:List Int}{a j:Nat}{x:Int}(h:(l.take a)[j]? =some x):l[j]? =some x:=by
 rw [getElem?_take]at h
 split at h
 ·exact h
 ·cases h
theorem dV(zs:List Int):∀u∈zs.map (Value.int .i64),u.oneCell'=true:=by
 intro u hu;obtain⟨z,_,rfl⟩:=mem_map.1 hu;rfl
theorem Ea(l:List Int)(n:Int)(v:Value)(w:World)(hy:bJ w v l)(h1:1<=n)(h2:n<=45)(h3:bF l=true):Calls prog 23 #[v,.int .i64 n] w fun e w'=>e= .returned (frV (gP l n))/\w.Grows w':=by
 rw [uM h1 h2 h3];obtain⟨i0,hi,hz0,hz1,hz2⟩:=info_parts AY;obtain⟨nn,rfl⟩:=Int.eq_ofNat_of_zero_le (show 0<=n by omega);have HY:=zh hy;have HA:=zh (fun w' (hg:w.Grows w')=>mE l v w' (HY.out.grows hg));rw [h3]at HA;have HB3:=zh h3;have hl200:l.length<=200:=(ky h3).1;have HBS:Hid (nI l (nn:Int)=((kE l).take nn).sum):=zh rfl;have HM:=zh (fun z (h1:0<=z) (h2:z<=200000000000000) w=>fe z (nn:Int) w ze ze ze ze);obtain⟨h1000,a,c,rfl,-⟩:=hy;unfold frV at *;dsimp only;generalize nI l (nn:Int)=BS at *;clear h3
 go_enter func23,ntmps23
 go_wp2_with (go_at_call 56;refine(HA.out _ (.of_below af)).mono ?_;rintro e' w' ⟨rfl,rfl⟩)
 go_loopw [6,7,8] (fun v6 v7 _ wr=>∃(k:Nat) (vb:Value),vb=v6/\k<=l.length/\v7= .int .i64 k/\(k=0->vb= .slice none 0 0)/\Below (w.heap.size+1) (w.alloc (.cells #[.int .i64 0,.int .i64 0] 23)) wr/\wr.ownsRow (w.heap.size+1) 3 1 vb k ((iN l k).map (Value.int .i64))) (fun _ v7 _ _=>l.length-(intOf v7).toNat)
 case atStart=>exact⟨0,_,rfl,by omega,rfl,fun _=>rfl,.refl _ _,World.ownsRow_nil _ _ _ _⟩
 case round=>
  obtain⟨k,vb,rfl,hk,rfl,hnil,hB,hown⟩:=hrel;obtain⟨WR,rfl⟩:∃WR,WR=wr:=⟨_,rfl⟩;have HB:=zh hB;have HO:=zh hown;have hsW:w.heap.size+1<=WR.heap.size:=by have:=hB.size;simpa using this
  have hG:w.Grows WR:=.of_below ((show Below w.heap.size w _ from by(exact af)).trans (hB.mono ze));have hsk:=vS l k hk;by_cases hlt:k<l.length
  ·obtain⟨-,a',c',hv,hcs⟩:=HY.out.grows hG;simp only [Value.slice.injEq,true_and]at hv;obtain⟨rfl,rfl⟩:=hv;rcases hcs with h0|⟨b,off,rfl,hbw,hx⟩
   ·omega
   have x0:=hx k hlt;have d1:(k:Int)<(l.length:Int):=by omega
   have HSP:=zh (fun a0=>Ac l k a0 hlt);have HKL:=zh hlt;have hlt0:0<l.length:=by omega
   have hYB:bJ WR vb (iN l k):=bJ.of_rowB hown hsk.symm rfl ze;have HYB:=zh hYB;have hform:=oM hown;clear hx hlt hB hown hYB;generalize l.getD k 0=x at *;generalize hzs:iN l k=zs at *;have HZS:=zh hzs;clear hzs;rcases Nat.eq_zero_or_pos k with hk0|hkp
   ·subst hk0;obtain rfl:=hnil rfl;have hz0':zs= []:=eq_nil_of_length_eq_zero hsk;subst hz0';have HI2:Hid (iN l (0+1)= [x]):=zh (by have:=HSP.out 0 (Nat.le_refl _) (.inl rfl) (fun j h1 h2=>by omega);simpa using this);have d0:0<l.length:=hlt0;have HF:Hid (∀q,Below (w.heap.size+1) (w.alloc (.cells #[.int .i64 0,.int .i64 0] 23)) (WR.drewN q)/\(WR.drewN q).cell? ⟨b,off,none⟩=some (.int .i64 x)/\b<(WR.drewN q).heap.size/\w.heap.size+1<=(WR.drewN q).heap.size):=zh (fun q=>⟨HB.out.drewN q,x0,hbw,hsW⟩)
    go_wp2_with fail
    go_loopw [8] (fun v8 wr=>v8= .int .i64 0/\∃q,wr=WR.drewN q) (fun _ _=>0)
    case atStart=>exact⟨rfl,0,rfl⟩
    case round=>
     obtain⟨rfl,q,rfl⟩:=hrel
     go_wp2_with fail
     all_goals try(first|(go_quiet (fail);go_wp2_with fail)|(go_region;go_wp2_with fail))
     simp only [World.drewN_drewN];have HF1:=HF.out (q+nq);clear HF HB HO x0 hbw hsW HYB hG;generalize WR.drewN (q+nq)=WR at *;obtain⟨hB,x0,hbw,hsW⟩:=HF1;have HB:=zh hB;clear hB;refine TG.begin 14 (fun wS=>wS.cell? ⟨b,off,none⟩=some (.int .i64 x)) zf zf (by simpa using x0) (fun hS=>?_);refine TG.tkB 0 hS ?_;refine TG.tkB 1 hS ?_;refine TG.tkB 2 hS ?_;refine TG.tkB 4 hS ?_;refine TG.tkB 5 hS ?_;refine TG.tkB 6 hS ?_;refine TG.tkB 7 hS ?_;refine TG.tkB 10 hS ?_;refine TG.tkB 11 hS ?_;refine TG.tkB 12 hS ?_;refine TG.two (i:=3) (k:=8) zf rfl rfl (fun K1 hK1=>?_) (fun K1 hK1=>?_)
     focus
      refine gV rfl _ _ 24 rfl WR.heap.size 3 i0 1 underlying24 hi (.slice none 0 0) 0 [] rfl (World.ownsRow_nil _ _ _ _) rfl ?_;refine TG.go hK1 ?_ (fun hS=>?_);focus exact hS
      clear hK1 K1
      (try simp only [nS])
      refine TG.one (i:=8) zf rfl (fun K1 hK1=>?_)
      go_simp
      refine TG.go hK1 ?_ (fun hS=>?_);focus exact yD
     rotate_left
     focus
      go_simp
      refine TG.go hK1 ?_ (fun hS=>?_);focus exact yD
      clear hK1 K1
      (try simp only [nS])
      refine TG.one (i:=3) zf rfl (fun K1 hK1=>?_);refine gV rfl _ _ 24 rfl WR.heap.size 3 i0 1 underlying24 hi (.slice none 0 0) 0 [] rfl (World.ownsRow_nil _ _ _ _) rfl ?_;refine TG.go hK1 ?_ (fun hS=>?_);focus exact hS
     rotate_left
     all_goals
      clear hK1 K1
      (try simp only [nS])
      refine TG.one (i:=9) zf rfl (fun K1 hK1=>?_);refine aG rfl _ _ 24 rfl WR.heap.size 3 i0 (.int .i64 0) 1 8 underlying24 hi hz0 hz1 hz2 rfl zo (.slice none 0 0) 0 [] rfl (World.ownsRow_nil _ _ _ _) ⟨WR.heap.size,0,none⟩ 1 1 ([x].map (Value.int .i64)) rfl rfl ?_ (dV _) zo zo zg ?_;focus exact aR _ [.int .i64 x] _ _ zg
      intro v2 w2 hown2 hgrow2;have HB2:=zh (Below.grown ((Below.refl WR.heap.size WR).alloc (Nat.le_refl _) (.cells #[.int .i64 x] 3)).drew hgrow2 zg (fun k hk=>by cases hk));have HO2:=zh hown2;clear hown2 hgrow2;refine TG.go hK1 ?_ (fun hS=>?_);focus exact(HB2.out.cell (p:=⟨b,off+0,none⟩) hbw).trans x0
      clear hK1 K1
      (try simp only [nS])
      refine TG.one (i:=13) zf rfl (fun K1 hK1=>?_);refine gV rfl _ _ 24 rfl WR.heap.size 3 i0 1 underlying24 hi v2 _ _ rfl HO2.out rfl ?_;refine TG.go hK1 ?_ (fun hS=>?_);focus exact hS
      clear hK1 K1
      (try simp only [nS])
      refine TG.one (i:=14) zf rfl (fun K1 hK1=>?_)
      go_simp
      refine hK1 _ _ (fun h=>absurd rfl h) (TG.done zf ?_);clear hK1 K1 hS
      (try simp only [nS])
      go_wp2_with fail
      go_roundw
      case rel=>
       refine⟨1,v2,rfl,HKL.out,by first|rfl|go_num,fun h=>by omega,HB.out.trans (HB2.out.mono hsW), ?_⟩;rw [HI2.out];have ho2:=kU HO2.out hsW;simpa using ho2
      case measure=>simp [intOf];have:=HKL.out;omega
   ·rcases hform with ⟨-,h0⟩|⟨g,gc,rfl,hg1,hg2⟩
    ·omega
    have HC:Hid (∀i,i<zs.length->WR.cell? ⟨g,i,none⟩=some (.int .i64 (zs.getD i 0))):=zh (by
     obtain⟨-,a',c',hv,hx⟩:=HYB.out;simp only [Value.slice.injEq]at hv;obtain⟨rfl,-,-⟩:=hv;rcases hx with hx|⟨b',off',he,-,hx⟩
     ·omega
     simp only [Option.some.injEq,Addr.mk.injEq,and_true]at he;obtain⟨rfl,rfl⟩:=he;intro i hi;have:=hx i hi
     rwa [Nat.zero_add]at this)
    have HF:Hid (∀q,Below (w.heap.size+1) (w.alloc (.cells #[.int .i64 0,.int .i64 0] 23)) (WR.drewN q)/\(WR.drewN q).ownsRow (w.heap.size+1) 3 1 (.slice (some ⟨g,0,none⟩) k gc) k (zs.map (Value.int .i64))/\(∀i,i<zs.length->(WR.drewN q).cell? ⟨g,i,none⟩=some (.int .i64 (zs.getD i 0)))/\(WR.drewN q).cell? ⟨b,off+k,none⟩=some (.int .i64 x)/\b<(WR.drewN q).heap.size/\g<(WR.drewN q).heap.size/\w.heap.size+1<=(WR.drewN q).heap.size):=zh (fun q=>⟨HB.out.drewN q,HO.out,HC.out,x0,hbw,hg2,hsW⟩)
    go_upto_block 2 with fail
    go_cut [8]from 23 to 60 (fun v8 wx=>∃a0 q:Nat,v8= .int .i64 a0/\a0<=k/\Hid ((a0=0\/x<=zs.getD (a0-1) 0)/\∀j,a0<=j->j<k->zs.getD j 0<x)/\wx=WR.drewN q)
    case first=>
     go_wp2_with fail
     go_loopw [8] (fun v8 wr=>∃j q:Nat,j<=k/\v8= .int .i64 j/\Hid (∀i,j<=i->i<k->zs.getD i 0<x)/\wr=WR.drewN q) (fun v8 _=>(intOf v8).toNat)
     case atStart=>exact⟨k,0,by omega,rfl,zh (fun i h1 h2=>by omega),rfl⟩
     case round=>
      obtain⟨j,q,hj,rfl,HJ,rfl⟩:=hrel;rcases j with _|j
      ·go_wp2_with fail
       all_goals try(first|(go_quiet (fail);go_wp2_with fail)|(go_region;go_wp2_with fail))
       go_meet
       exact⟨0,_,rfl,by omega,zh ⟨.inl rfl,fun i _ h2=>HJ.out i ze h2⟩,World.drewN_drewN _ _ _⟩
      ·have hc:=HC.out j ze;have e0:(0:Int)<=(j:Int):=by omega
       have e1:(j:Int)<(k:Int):=by omega
       have e2:(k:Int)<=900:=by omega
       have HZJ:Hid (zs.getD j 0=zs.getD j 0):=zh rfl;obtain⟨z,hz⟩:∃z,zs.getD j 0=z:=⟨_,rfl⟩;rw [hz]at hc;have HZ:=zh hz;clear hz;by_cases hle:z<x
       ·have HL:=zh hle
        go_wp2_with fail
        all_goals try(first|(go_quiet (fail);go_wp2_with fail)|(go_region;go_wp2_with fail))
        go_roundw
        case rel=>exact⟨j,q+nq,by omega,by go_num,zh (fun i h1 h2=>by
         by_cases ei:i=j
         ·subst ei;rw [HZ.out];exact HL.out
         ·exact HJ.out i ze h2),by first|exact World.drewN_drewN _ _ _|rfl⟩
        case measure=>first|(simp [intOf];done)|(simp [intOf];omega)
       ·have HL:=zh hle
        go_wp2_with fail
        all_goals try(first|(go_quiet (fail);go_wp2_with fail)|(go_region;go_wp2_with fail))
        go_meet
        exact⟨j+1,_,by go_num,hj,zh ⟨.inr (by rw [Nat.add_sub_cancel,HZ.out];have:=HL.out;omega),fun i h1 h2=>HJ.out i h1 h2⟩,World.drewN_drewN _ _ _⟩
    obtain⟨a0,q,rfl,ha0,HCUT,rfl⟩:=hcut;have HF1:=HF.out q;clear HF HB HO HC x0 hbw hg2 hsW HYB hG;generalize WR.drewN q=WR at *;obtain⟨hB,hO,hC,x0,hbw,hg2,hsW⟩:=HF1;have HB:=zh hB;have HO:=zh hO;have HC:=zh hC;clear hB hO hC;have HI2:Hid (iN l (k+1)=zs.take a0++x::zs.drop a0):=zh (HSP.out a0 ha0 HCUT.out.1 HCUT.out.2)
    have hkc:k<=gc:=by
     obtain⟨-,h0|⟨g',cap',cur,hv,-,-,hcp,-⟩⟩:=HO.out
     ·cases h0.1
     ·simp only [Value.slice.injEq]at hv;omega
    have had:(a0:Int)<=(gc:Int):=by omega
    have hac:a0<=gc:=by omega
    have had2:(a0:Int)<=(k:Int):=by omega
    by_cases hlt2:a0<k
    ·have hnc:¬gc=a0:=by omega
     have HEQ:Hid (a0<=k):=zh ha0
     go_wp2_with fail
     refine TG.begin 14 (fun wS=>wS.cell? ⟨b,off+k,none⟩=some (.int .i64 x)) zf zf (by simpa using x0) (fun hS=>?_);refine TG.tkB 0 hS ?_;refine TG.tkB 1 hS ?_;refine TG.tkB 2 hS ?_;refine TG.tkB 4 hS ?_;refine TG.tkB 5 hS ?_;refine TG.tkB 6 hS ?_;refine TG.tkB 7 hS ?_;refine TG.tkB 10 hS ?_;refine TG.tkB 11 hS ?_;refine TG.tkB 12 hS ?_;refine TG.two (i:=3) (k:=8) zf rfl rfl (fun K1 hK1=>?_) (fun K1 hK1=>?_)
     focus
      refine aG rfl _ _ 24 rfl WR.heap.size 3 i0 (.int .i64 0) 1 8 underlying24 hi hz0 hz1 hz2 rfl zo (.slice none 0 0) 0 [] rfl (World.ownsRow_nil _ _ _ _) ⟨g,0,none⟩ a0 gc ((zs.take a0).map (Value.int .i64)) rfl zp (gB (zs:=zs) (w:=WR.drew) HC.out 0 _ (fun j x hx=>by rw [Nat.zero_add];exact iE hx)) (dV _) zE ze zg ?_;intro v1 w1 hown1 hgrow1;simp only [Nat.zero_add,nil_append]at hown1;have hb1:=Below.grown (Below.refl WR.heap.size WR).drew hgrow1 zg (fun k hk=>by cases hk);have hs1:=hb1.size;have HB1:=zh (hb1.alloc hs1 (.cells #[.int .i64 x] 3));have HO1:=zh (hown1.alloc (.cells #[.int .i64 x] 3));have hx1:=(hb1.cell (p:=⟨b,off+k,none⟩) hbw).trans x0;refine TG.go hK1 ?_ (fun hS=>?_);focus exact hx1
      clear hK1 K1
      (try simp only [nS])
      refine TG.one (i:=8) zf rfl (fun K1 hK1=>?_)
      go_simp
      refine TG.go hK1 ?_ (fun hS=>?_);focus exact(HB1.out.cell (p:=⟨b,off+k,none⟩) hbw).trans x0
      clear hK1 K1
      (try simp only [nS])
      have HC5:Hid ((w1.alloc (.cells #[.int .i64 x] 3)).cell? ⟨w1.heap.size,0,none⟩=some (.int .i64 x)):=zh yz;generalize w1.alloc (.cells #[.int .i64 x] 3)=w9 at *;generalize w1.heap.size=g5 at *;clear hown1 hgrow1 hb1 hx1;refine TG.one (i:=9) zf rfl (fun K1 hK1=>?_);refine aG rfl _ _ 24 rfl WR.heap.size 3 i0 (.int .i64 0) 1 8 underlying24 hi hz0 hz1 hz2 rfl zo v1 a0 _ rfl HO1.out ⟨g5,0,none⟩ 1 1 ([x].map (Value.int .i64)) rfl rfl ?_ (dV _) zE ze HB1.out.size ?_
      focus
       intro j u hu;rw [addr_add];rcases j with _|j
       ·simp at hu;subst hu;exact HC5.out
       ·simp at hu
     rotate_left
     focus
      go_simp
      refine TG.go hK1 ?_ (fun hS=>?_);focus exact yp
      clear hK1 K1
      (try simp only [nS])
      refine TG.one (i:=3) zf rfl (fun K1 hK1=>?_);refine aG rfl _ _ 24 rfl WR.heap.size 3 i0 (.int .i64 0) 1 8 underlying24 hi hz0 hz1 hz2 rfl zo (.slice none 0 0) 0 [] rfl (World.ownsRow_nil _ _ _ _) ⟨g,0,none⟩ a0 gc ((zs.take a0).map (Value.int .i64)) rfl zp (gB (zs:=zs) (w:=(WR.alloc (.cells #[.int .i64 x] 3)).drew) (fun i hi=>by rw [show((WR.alloc (.cells #[.int .i64 x] 3)).drew).cell? ⟨g,i,none⟩=WR.cell? ⟨g,i,none⟩from World.cell?_alloc_lt WR _ ⟨g,i,none⟩ hg2];exact HC.out i hi) 0 _ (fun j x hx=>by rw [Nat.zero_add];exact iE hx)) (dV _) zE ze zg ?_;intro v1 w1 hown1 hgrow1;simp only [Nat.zero_add,nil_append]at hown1;have hb1:=Below.grown ((Below.refl WR.heap.size WR).alloc (Nat.le_refl _) (.cells #[.int .i64 x] 3)).drew hgrow1 zg (fun k hk=>by cases hk);have HB1:=zh hb1;have HO1:=zh hown1;have HC5:Hid (w1.cell? ⟨WR.heap.size,0,none⟩=some (.int .i64 x)):=zh ((hgrow1.cell_far ⟨WR.heap.size,0,none⟩ zg (by simp [Value.ownBlock])).trans yw);refine TG.go hK1 ?_ (fun hS=>?_);focus exact(HB1.out.cell (p:=⟨b,off+k,none⟩) hbw).trans x0
      clear hK1 K1
      (try simp only [nS])
      clear hown1 hgrow1 hb1;refine TG.one (i:=9) zf rfl (fun K1 hK1=>?_);refine aG rfl _ _ 24 rfl WR.heap.size 3 i0 (.int .i64 0) 1 8 underlying24 hi hz0 hz1 hz2 rfl zo v1 a0 _ rfl HO1.out ⟨WR.heap.size,0,none⟩ 1 1 ([x].map (Value.int .i64)) rfl rfl ?_ (dV _) zE ze HB1.out.size ?_
      focus
       intro j u hu;rw [addr_add];rcases j with _|j
       ·simp at hu;subst hu;exact HC5.out
       ·simp at hu
     rotate_left
     all_goals
      intro v2 w2 hown2 hgrow2;have HB2:=zh (HB1.out.grown hgrow2 HB1.out.size (fun k hk=>(HO1.out.lt k hk).1));have HO2:=zh hown2;clear hown2 hgrow2;refine TG.go hK1 ?_ (fun hS=>?_);focus exact(HB2.out.cell (p:=⟨b,off+k,none⟩) hbw).trans x0
      clear hK1 K1
      (try simp only [nS])
      refine TG.one (i:=13) zf rfl (fun K1 hK1=>?_);refine aG rfl _ _ 24 rfl WR.heap.size 3 i0 (.int .i64 0) 1 8 underlying24 hi hz0 hz1 hz2 rfl zo v2 (a0+1) _ rfl HO2.out ⟨g,a0,none⟩ (k-a0) (gc-a0) ((zs.drop a0).map (Value.int .i64)) rfl zD (gB (w:=w2) (zs:=zs) (fun i hi=>by rw [HB2.out.cell (p:=⟨g,i,none⟩) hg2];exact HC.out i hi) a0 _ (fun j x hx=>by rw [getElem?_drop]at hx;exact hx)) (dV _) zE ze HB2.out.size ?_;exact gz5
    ·have HZL:=zh (show zs.drop a0= []from drop_eq_nil_of_le ze);have HEQ:Hid (a0=k):=zh ze;by_cases hcc:gc=a0
     ·go_wp2_with fail
      refine TG.begin 14 (fun wS=>wS.cell? ⟨b,off+k,none⟩=some (.int .i64 x)) zf zf (by simpa using x0) (fun hS=>?_);refine TG.tkB 0 hS ?_;refine TG.tkB 1 hS ?_;refine TG.tkB 2 hS ?_;refine TG.tkB 4 hS ?_;refine TG.tkB 5 hS ?_;refine TG.tkB 6 hS ?_;refine TG.tkB 7 hS ?_;refine TG.tkB 10 hS ?_;refine TG.tkB 11 hS ?_;refine TG.tkB 12 hS ?_;refine TG.two (i:=3) (k:=8) zf rfl rfl (fun K1 hK1=>?_) (fun K1 hK1=>?_)
      focus
       refine aG rfl _ _ 24 rfl WR.heap.size 3 i0 (.int .i64 0) 1 8 underlying24 hi hz0 hz1 hz2 rfl zo (.slice none 0 0) 0 [] rfl (World.ownsRow_nil _ _ _ _) ⟨g,0,none⟩ a0 a0 ((zs.take a0).map (Value.int .i64)) rfl zp (gB (zs:=zs) (w:=WR.drew) HC.out 0 _ (fun j x hx=>by rw [Nat.zero_add];exact iE hx)) (dV _) zE ze zg ?_;intro v1 w1 hown1 hgrow1;simp only [Nat.zero_add,nil_append]at hown1;have hb1:=Below.grown (Below.refl WR.heap.size WR).drew hgrow1 zg (fun k hk=>by cases hk);have hs1:=hb1.size;have HB1:=zh (hb1.alloc hs1 (.cells #[.int .i64 x] 3));have HO1:=zh (hown1.alloc (.cells #[.int .i64 x] 3));have hx1:=(hb1.cell (p:=⟨b,off+k,none⟩) hbw).trans x0;refine TG.go hK1 ?_ (fun hS=>?_);focus exact hx1
       clear hK1 K1
       (try simp only [nS])
       refine TG.one (i:=8) zf rfl (fun K1 hK1=>?_)
       go_simp
       refine TG.go hK1 ?_ (fun hS=>?_);focus exact(HB1.out.cell (p:=⟨b,off+k,none⟩) hbw).trans x0
       clear hK1 K1
       (try simp only [nS])
       have HC5:Hid ((w1.alloc (.cells #[.int .i64 x] 3)).cell? ⟨w1.heap.size,0,none⟩=some (.int .i64 x)):=zh yz;generalize w1.alloc (.cells #[.int .i64 x] 3)=w9 at *;generalize w1.heap.size=g5 at *;clear hown1 hgrow1 hb1 hx1;refine TG.one (i:=9) zf rfl (fun K1 hK1=>?_);refine aG rfl _ _ 24 rfl WR.heap.size 3 i0 (.int .i64 0) 1 8 underlying24 hi hz0 hz1 hz2 rfl zo v1 a0 _ rfl HO1.out ⟨g5,0,none⟩ 1 1 ([x].map (Value.int .i64)) rfl rfl ?_ (dV _) zE ze HB1.out.size ?_
       focus
        intro j u hu;rw [addr_add];rcases j with _|j
        ·simp at hu;subst hu;exact HC5.out
        ·simp at hu
      rotate_left
      focus
       go_simp
       refine TG.go hK1 ?_ (fun hS=>?_);focus exact yp
       clear hK1 K1
       (try simp only [nS])
       refine TG.one (i:=3) zf rfl (fun K1 hK1=>?_);refine aG rfl _ _ 24 rfl WR.heap.size 3 i0 (.int .i64 0) 1 8 underlying24 hi hz0 hz1 hz2 rfl zo (.slice none 0 0) 0 [] rfl (World.ownsRow_nil _ _ _ _) ⟨g,0,none⟩ a0 a0 ((zs.take a0).map (Value.int .i64)) rfl zp (gB (zs:=zs) (w:=(WR.alloc (.cells #[.int .i64 x] 3)).drew) (fun i hi=>by rw [show((WR.alloc (.cells #[.int .i64 x] 3)).drew).cell? ⟨g,i,none⟩=WR.cell? ⟨g,i,none⟩from World.cell?_alloc_lt WR _ ⟨g,i,none⟩ hg2];exact HC.out i hi) 0 _ (fun j x hx=>by rw [Nat.zero_add];exact iE hx)) (dV _) zE ze zg ?_;intro v1 w1 hown1 hgrow1;simp only [Nat.zero_add,nil_append]at hown1;have hb1:=Below.grown ((Below.refl WR.heap.size WR).alloc (Nat.le_refl _) (.cells #[.int .i64 x] 3)).drew hgrow1 zg (fun k hk=>by cases hk);have HB1:=zh hb1;have HO1:=zh hown1;have HC5:Hid (w1.cell? ⟨WR.heap.size,0,none⟩=some (.int .i64 x)):=zh ((hgrow1.cell_far ⟨WR.heap.size,0,none⟩ zg (by simp [Value.ownBlock])).trans yw);refine TG.go hK1 ?_ (fun hS=>?_);focus exact(HB1.out.cell (p:=⟨b,off+k,none⟩) hbw).trans x0
       clear hK1 K1
       (try simp only [nS])
       clear hown1 hgrow1 hb1;refine TG.one (i:=9) zf rfl (fun K1 hK1=>?_);refine aG rfl _ _ 24 rfl WR.heap.size 3 i0 (.int .i64 0) 1 8 underlying24 hi hz0 hz1 hz2 rfl zo v1 a0 _ rfl HO1.out ⟨WR.heap.size,0,none⟩ 1 1 ([x].map (Value.int .i64)) rfl rfl ?_ (dV _) zE ze HB1.out.size ?_
       focus
        intro j u hu;rw [addr_add];rcases j with _|j
        ·simp at hu;subst hu;exact HC5.out
        ·simp at hu
      rotate_left
      all_goals
       intro v2 w2 hown2 hgrow2;have HB2:=zh (HB1.out.grown hgrow2 HB1.out.size (fun k hk=>(HO1.out.lt k hk).1));have HO2:=zh hown2;clear hown2 hgrow2;refine TG.go hK1 ?_ (fun hS=>?_);focus exact(HB2.out.cell (p:=⟨b,off+k,none⟩) hbw).trans x0
       clear hK1 K1
       (try simp only [nS])
       refine TG.one (i:=13) zf rfl (fun K1 hK1=>?_);refine aG rfl _ _ 24 rfl WR.heap.size 3 i0 (.int .i64 0) 1 8 underlying24 hi hz0 hz1 hz2 rfl zo v2 (a0+1) _ rfl HO2.out ⟨g,0,none⟩ (k-a0) (0) ((zs.drop a0).map (Value.int .i64)) rfl zD (by intro j u hu;rw [HZL.out]at hu;simp at hu) (dV _) zE ze HB2.out.size ?_;exact gz5
     ·go_wp2_with fail
      refine TG.begin 14 (fun wS=>wS.cell? ⟨b,off+k,none⟩=some (.int .i64 x)) zf zf (by simpa using x0) (fun hS=>?_);refine TG.tkB 0 hS ?_;refine TG.tkB 1 hS ?_;refine TG.tkB 2 hS ?_;refine TG.tkB 4 hS ?_;refine TG.tkB 5 hS ?_;refine TG.tkB 6 hS ?_;refine TG.tkB 7 hS ?_;refine TG.tkB 10 hS ?_;refine TG.tkB 11 hS ?_;refine TG.tkB 12 hS ?_;refine TG.two (i:=3) (k:=8) zf rfl rfl (fun K1 hK1=>?_) (fun K1 hK1=>?_)
      focus
       refine aG rfl _ _ 24 rfl WR.heap.size 3 i0 (.int .i64 0) 1 8 underlying24 hi hz0 hz1 hz2 rfl zo (.slice none 0 0) 0 [] rfl (World.ownsRow_nil _ _ _ _) ⟨g,0,none⟩ a0 gc ((zs.take a0).map (Value.int .i64)) rfl zp (gB (zs:=zs) (w:=WR.drew) HC.out 0 _ (fun j x hx=>by rw [Nat.zero_add];exact iE hx)) (dV _) zE ze zg ?_;intro v1 w1 hown1 hgrow1;simp only [Nat.zero_add,nil_append]at hown1;have hb1:=Below.grown (Below.refl WR.heap.size WR).drew hgrow1 zg (fun k hk=>by cases hk);have hs1:=hb1.size;have HB1:=zh (hb1.alloc hs1 (.cells #[.int .i64 x] 3));have HO1:=zh (hown1.alloc (.cells #[.int .i64 x] 3));have hx1:=(hb1.cell (p:=⟨b,off+k,none⟩) hbw).trans x0;refine TG.go hK1 ?_ (fun hS=>?_);focus exact hx1
       clear hK1 K1
       (try simp only [nS])
       refine TG.one (i:=8) zf rfl (fun K1 hK1=>?_)
       go_simp
       refine TG.go hK1 ?_ (fun hS=>?_);focus exact(HB1.out.cell (p:=⟨b,off+k,none⟩) hbw).trans x0
       clear hK1 K1
       (try simp only [nS])
       have HC5:Hid ((w1.alloc (.cells #[.int .i64 x] 3)).cell? ⟨w1.heap.size,0,none⟩=some (.int .i64 x)):=zh yz;generalize w1.alloc (.cells #[.int .i64 x] 3)=w9 at *;generalize w1.heap.size=g5 at *;clear hown1 hgrow1 hb1 hx1;refine TG.one (i:=9) zf rfl (fun K1 hK1=>?_);refine aG rfl _ _ 24 rfl WR.heap.size 3 i0 (.int .i64 0) 1 8 underlying24 hi hz0 hz1 hz2 rfl zo v1 a0 _ rfl HO1.out ⟨g5,0,none⟩ 1 1 ([x].map (Value.int .i64)) rfl rfl ?_ (dV _) zE ze HB1.out.size ?_
       focus
        intro j u hu;rw [addr_add];rcases j with _|j
        ·simp at hu;subst hu;exact HC5.out
        ·simp at hu
      rotate_left
      focus
       go_simp
       refine TG.go hK1 ?_ (fun hS=>?_);focus exact yp
       clear hK1 K1
       (try simp only [nS])
       refine TG.one (i:=3) zf rfl (fun K1 hK1=>?_);refine aG rfl _ _ 24 rfl WR.heap.size 3 i0 (.int .i64 0) 1 8 underlying24 hi hz0 hz1 hz2 rfl zo (.slice none 0 0) 0 [] rfl (World.ownsRow_nil _ _ _ _) ⟨g,0,none⟩ a0 gc ((zs.take a0).map (Value.int .i64)) rfl zp (gB (zs:=zs) (w:=(WR.alloc (.cells #[.int .i64 x] 3)).drew) (fun i hi=>by rw [show((WR.alloc (.cells #[.int .i64 x] 3)).drew).cell? ⟨g,i,none⟩=WR.cell? ⟨g,i,none⟩from World.cell?_alloc_lt WR _ ⟨g,i,none⟩ hg2];exact HC.out i hi) 0 _ (fun j x hx=>by rw [Nat.zero_add];exact iE hx)) (dV _) zE ze zg ?_;intro v1 w1 hown1 hgrow1;simp only [Nat.zero_add,nil_append]at hown1;have hb1:=Below.grown ((Below.refl WR.heap.size WR).alloc (Nat.le_refl _) (.cells #[.int .i64 x] 3)).drew hgrow1 zg (fun k hk=>by cases hk);have HB1:=zh hb1;have HO1:=zh hown1;have HC5:Hid (w1.cell? ⟨WR.heap.size,0,none⟩=some (.int .i64 x)):=zh ((hgrow1.cell_far ⟨WR.heap.size,0,none⟩ zg (by simp [Value.ownBlock])).trans yw);refine TG.go hK1 ?_ (fun hS=>?_);focus exact(HB1.out.cell (p:=⟨b,off+k,none⟩) hbw).trans x0
       clear hK1 K1
       (try simp only [nS])
       clear hown1 hgrow1 hb1;refine TG.one (i:=9) zf rfl (fun K1 hK1=>?_);refine aG rfl _ _ 24 rfl WR.heap.size 3 i0 (.int .i64 0) 1 8 underlying24 hi hz0 hz1 hz2 rfl zo v1 a0 _ rfl HO1.out ⟨WR.heap.size,0,none⟩ 1 1 ([x].map (Value.int .i64)) rfl rfl ?_ (dV _) zE ze HB1.out.size ?_
       focus
        intro j u hu;rw [addr_add];rcases j with _|j
        ·simp at hu;subst hu;exact HC5.out
        ·simp at hu
      rotate_left
      all_goals
       intro v2 w2 hown2 hgrow2;have HB2:=zh (HB1.out.grown hgrow2 HB1.out.size (fun k hk=>(HO1.out.lt k hk).1));have HO2:=zh hown2;clear hown2 hgrow2;refine TG.go hK1 ?_ (fun hS=>?_);focus exact(HB2.out.cell (p:=⟨b,off+k,none⟩) hbw).trans x0
       clear hK1 K1
       (try simp only [nS])
       refine TG.one (i:=13) zf rfl (fun K1 hK1=>?_);refine aG rfl _ _ 24 rfl WR.heap.size 3 i0 (.int .i64 0) 1 8 underlying24 hi hz0 hz1 hz2 rfl zo v2 (a0+1) _ rfl HO2.out ⟨g,a0,none⟩ (k-a0) (gc-a0) ((zs.drop a0).map (Value.int .i64)) rfl zD (by intro j u hu;rw [HZL.out]at hu;simp at hu) (dV _) zE ze HB2.out.size ?_;exact gz5
  ·obtain rfl:k=l.length:=by omega
   have hYB:bJ WR vb (kE l):=bJ.of_rowB hown (by rw [<-mP,hsk]) (by rw [mP]) (by rw [<-mP,hsk];omega);have hG1:World.Grows (w.alloc (.cells #[.int .i64 0,.int .i64 0] 23)) WR:=.of_below (by simpa using hB);have HSB:=zh (Eo HB3.out (kS l));have HGB:=zh (EP HB3.out (kS l));have hz200:(kE l).length<=200:=by rw [<-mP,hsk];omega
   clear HO hown hsk HA;generalize kE l=zs at *;obtain⟨bs9,d9,rfl⟩:=hG1;obtain⟨-,va,vc,rfl,hvc⟩:=hYB;have HVC:=zh hvc;clear hvc hB hG
   go_wp2_with fail
   go_loopw [9,10] (fun v9 v10 wr=>∃j:Nat,j<=zs.length/\j<=nn/\v10= .int .i64 j/\v9= .int .i64 (kR zs j)/\wr=World.grow (w.alloc (.cells #[.int .i64 0,.int .i64 0] 23)) bs9 d9) (fun _ v10 _=>nn-(intOf v10).toNat)
   case atStart=>exact⟨0,by omega,by omega,rfl,rfl,rfl⟩
   case round=>
    obtain⟨j,hj,hjn,rfl,rfl,rfl⟩:=hrel;have hb1:=HSB.out j;by_cases hlt2:j<zs.length/\j<nn
    ·rcases HVC.out with h0|⟨b,off,rfl,hbw,hx⟩
     ·omega
     have x0:=hx j hlt2.1;have d1:(j:Int)<(zs.length:Int):=by omega
     have d2:(j:Int)<(nn:Int):=by omega
     have hs:=vP zs j hlt2.1;have hb2:=HSB.out (j+1);rw [hs]at hb2;have HS1:=zh hs;have HKL:=zh hlt2;clear hs hlt2 hx;generalize zs.getD j 0=z at *;generalize kR zs j=sk at *
     go_wp2_with fail
     go_roundw
     case rel=>exact⟨j+1,HKL.out.1,HKL.out.2,by go_num,by rw [HS1.out],by first|rfl|trivial⟩
     case measure=>simp [intOf];have:=HKL.out;omega
    ·have hBS:BS=kR zs j:=by
      rw [HBS.out];unfold kR;by_cases e:j=nn
      ·rw [e]
      ·rw [take_of_length_le ze,take_of_length_le ze]
     subst hBS;have HBB:=zh hb1;by_cases d1:(j:Int)<(zs.length:Int)
     ·have d2:¬(j:Int)<(nn:Int):=by omega
      exact Qm
     ·exact Qm
theorem IJ(l:List Int)(n:Int)(v:Value)(w:World)(hy:bJ w v l):Calls prog 23 #[v,.int .i64 n] w fun e w'=>e= .returned (frV (gP l n))/\w.Grows w':=by
 by_cases h:n<1\/45<n\/bF l=false
 ·exact H8 l n v w hy h
 ·simp only [not_or,Bool.not_eq_false]at h;exact Ea l n v w hy ze ze h.2.2
open Go.RowKit
theorem uq(v:Vw)(y:Value)(s:ByteArray)(w:World)(hr:dW v)(hy:bJ w y v.years):Calls prog 18 #[vwV v y,.string s] w fun r w'=>r= .returned (inV (dh v s))/\w.Grows w':=by
 by_cases h:bT s.toList=0\/v.ok=false
 ·exact AQ v y s w hr hy h
 ·have h1:bT s.toList≠0:=fun e=>h (.inl e)
  have h2:v.ok=true:=by cases hv:v.ok with
   |true=>rfl
   |false=>exact absurd (.inr hv) h
  by_cases hb:s.toList= [98,97,115,101]
  ·exact AR v y s w hr hy h1 h2 hb
  ·exact Dt v y s w hr hy h1 h2 hb
theorem Dz(Y:World)(bs:Array Obj)(d:Nat)(o:Obj):(Y.grow bs d).alloc o=Y.grow (bs.push o) d:=by
 simp [World.grow,World.alloc]
theorem OL(v:Vw)(y se:Value)(env:List (ByteArray × Val))(e:Ex)(a:Option Addr)(cap:Nat)(w:World)(hy:bJ w y v.years)(hs:bi w se env)(h1:e.op=1):(Calls prog 70 #[exV e (.slice a e.args.length cap),vwV v y,se] w (ApP (ai v env e) w)):=by
 have HV:Hid (ai v env e=(.num e.dim e.num e.den,0)):=zh (by rw [dQ];unfold eD;rw [if_pos h1]);rw [HV.out]
 obtain⟨ya,yc,rfl⟩:∃a c,y= .slice a v.years.length c:=by
  exact xN
 obtain⟨sa,sc,rfl⟩:∃a c,se= .slice a env.length c:=by
  exact xM
 unfold vwV exV;clear HV hy hs
 go_enter func70,ntmps70
 go_wp2_with fail
 go_returns
 exact⟨rfl,aj⟩
theorem LC(v:Vw)(y se:Value)(env:List (ByteArray × Val))(e:Ex)(a:Option Addr)(cap:Nat)(w:World)(hy:bJ w y v.years)(hs:bi w se env)(h1:e.op=3):(Calls prog 70 #[exV e (.slice a e.args.length cap),vwV v y,se] w (ApP (ai v env e) w)):=by
 have HV:Hid (ai v env e=eO 4 (gP v.years e.num)):=zh yH;rw [HV.out];have HY:=zh hy;have HB:=zh (fun w' (hg:w.Grows w')=>IJ v.years e.num y w' (HY.out.grows hg))
 obtain⟨ya,yc,rfl⟩:∃a c,y= .slice a v.years.length c:=by
  exact xN
 obtain⟨sa,sc,rfl⟩:∃a c,se= .slice a env.length c:=by
  exact xM
 unfold vwV exV;unfold frV at HB;generalize gP v.years e.num=q at *;obtain⟨qn,qd,qc⟩:=q;dsimp only at HB;clear HV hy hs;by_cases hq:qc=0
 ·subst hq;unfold eO;rw [if_pos rfl];exact Qy
 ·unfold eO;rw [if_neg hq];have hq1:(qc !=0)=true:=by simpa using hq
  clear hq;exact Qy
theorem I5(v:Vw)(y se:Value)(env:List (ByteArray × Val))(e:Ex)(a:Option Addr)(cap:Nat)(w:World)(hr:dW v)(hy:bJ w y v.years)(hs:bi w se env)(h1:e.op=2)(x:Val)(hx:dh v e.name=some x):(Calls prog 70 #[exV e (.slice a e.args.length cap),vwV v y,se] w (ApP (ai v env e) w)):=by
 have HV:Hid (ai v env e=(x,0)):=zh (by rw [dQ];unfold eD;rw [if_neg ze,if_pos h1];unfold jS;rw [hx]);rw [HV.out];have HY:=zh hy;have HI:=zh (fun w' (hg:w.Grows w')=>uq v y e.name w' hr (HY.out.grows hg));rw [hx]at HI;unfold inV dM at HI;obtain⟨xm,xy,xn,xd⟩:=x;dsimp only at HI
 obtain⟨ya,yc,rfl⟩:∃a c,y= .slice a v.years.length c:=by
  exact xN
 obtain⟨sa,sc,rfl⟩:∃a c,se= .slice a env.length c:=by
  exact xM
 unfold vwV exV;unfold vwV at HI;clear HV hy hs hx hr
 go_enter func70,ntmps70
 go_wp2_with (go_at_call 18;refine(HI.out _ aj).mono ?_;rintro e' w' ⟨rfl,bs,d,rfl⟩)
 go_returns
 exact⟨rfl,aj⟩
theorem OM(v:Vw)(y se:Value)(env:List (ByteArray × Val))(e:Ex)(a:Option Addr)(cap:Nat)(w:World)(hr:dW v)(hy:bJ w y v.years)(hs:bi w se env)(h1:e.op=2)(x:Val)(hx:dh v e.name=none)(hl:dO env e.name=some x):(Calls prog 70 #[exV e (.slice a e.args.length cap),vwV v y,se] w (ApP (ai v env e) w)):=by
 have HV:Hid (ai v env e=(x,0)):=zh (by rw [dQ];unfold eD;rw [if_neg ze,if_pos h1];unfold jS;rw [hx];dsimp only;rw [hl]);rw [HV.out];have HY:=zh hy;have HL:=zh hl;have HI:=zh (fun w' (hg:w.Grows w')=>uq v y e.name w' hr (HY.out.grows hg));rw [hx]at HI;unfold inV dM Val.zero at HI;dsimp only at HI
 obtain⟨ya,yc,rfl⟩:∃a c,y= .slice a v.years.length c:=by
  exact xN
 obtain⟨sa,sc,rfl⟩:∃a c,se= .slice a env.length c:=by
  exact xM
 unfold vwV exV;have HS:=zh hs;have hlen:env.length<=1000:=by obtain⟨h,-⟩:=hs;exact h
 unfold vwV at HI;clear HV hy hs hx hr hl
 go_enter func70,ntmps70
 go_wp2_with (go_at_call 18;refine(HI.out _ aj).mono ?_;rintro e' w' ⟨rfl,bs,d,rfl⟩)
 go_loopw [12] (fun v12 wr=>∃(k:Nat) (bs:Array Obj) (d:Nat),k<=env.length/\v12= .int .i64 ((env.length:Int)-1-k)/\Hid (∀j,env.length-k<=j->j<env.length->stN env j≠e.name)/\wr=(((w.alloc (.cells #[.int .i64 2,.int .i64 e.num,.int .i64 e.den,.int .i64 e.dim,.string e.name,.slice a e.args.length cap] 51)).alloc (.cells #[.int .i64 v.age,.int .i64 v.year,.int .i64 v.children,.int .i64 v.insured,.int .i64 v.worked,.int .i64 v.voluntary,.int .i64 v.service,.int .i64 v.equated,.int .i64 v.raising,.int .i64 v.resident,.int .i64 v.bn,.int .i64 v.bd,.slice ya v.years.length yc] 26)).alloc (.cells #[.int .i64 0,.bool false,.int .i64 0,.int .i64 0] 34)).grow bs d) (fun v12 _=>(intOf v12+1).toNat)
 case atStart=>
  exact⟨0,_,_,by omega,by simp,zh (fun j h1 h2=>by omega),Dz _ _ _ _⟩
 case round=>
  obtain⟨k,bs1,d1,hk,rfl,hno,rfl⟩:=hrel;by_cases hlt:k<env.length
  ·obtain⟨i,hii⟩:∃i:Nat,(env.length:Int)-1-k=i:=⟨env.length-1-k,by omega⟩;obtain⟨-,sa',sc',hv2,hcs⟩:=HS.out;simp only [Value.slice.injEq,true_and]at hv2;obtain⟨rfl,rfl⟩:=hv2;rcases hcs with h0|⟨b,off,rfl,hbw,hx⟩
   ·omega
   have hi:i<env.length:=by omega
   obtain⟨s0,s1,s2,s3,s4⟩:=hx i hi
   have HLS:Hid (stN env i=e.name->x=stV env i):=zh (fun h=>by
    have h2:=jB env e.name i (ByteArray.empty,Val.zero) hi h (fun j hj1 hj2=>hno.out j ze hj2);rw [HL.out]at h2
    exact Option.some.inj h2)
   have HNX:Hid (stN env i≠e.name->∀j,env.length-(k+1)<=j->j<env.length->stN env j≠e.name):=zh (fun h j hj1 hj2=>by
    by_cases ej:j=i
    ·subst ej;exact h
    ·exact hno.out j ze hj2)
   have HII:=zh (show(env.length:Int)-1-((k+1:Nat):Int)=(i:Int)-1 by omega);have HKL:=zh hlt;rw [hii];have d2:(i:Int)<(env.length:Int):=by omega
   clear hx hii hlt hno;by_cases heq:stN env i=e.name
   ·have hx1:=HLS.out heq;have nm:((stN env i).toList==e.name.toList)=true:=by rw [heq];simp
    clear HLS HNX heq HL;subst hx1;generalize stN env i=nk at *;generalize stV env i=xk at *;obtain⟨xm,xy,xn,xd⟩:=xk;dsimp only at s1 s2 s3 s4
    go_wp2_with fail
    refine TS.begin [] (World.Grows _) zf zf aJ (fun hS=>?_);refine TS.wkB 0 hS ?_;refine TS.wkB 1 hS ?_;refine TS.wkB 2 hS ?_;refine TS.wkB 3 hS ?_;refine TS.wkB 4 hS ?_;refine TS.wkB 5 hS ?_;refine TS.wkB 6 hS ?_;refine TS.wkB 7 hS ?_;refine TS.done zf ?_;clear hS
    (try simp only [nS])
    go_wp2_with fail
    go_returns
    exact⟨rfl,aj⟩
   ·have hno2:=zh (HNX.out heq)
    have nm:((stN env i).toList==e.name.toList)=false:=by
     cases hq:((stN env i).toList==e.name.toList)with
     |false=>rfl
     |true=>exact absurd (toList_inj (by simpa using hq)) heq
    clear HLS HNX heq HL s1 s2 s3 s4;generalize stN env i=nk at *
    go_wp2_with fail
    refine TS.begin [] (World.Grows _) zf zf aJ (fun hS=>?_);refine TS.wkB 0 hS ?_;refine TS.wkB 1 hS ?_;refine TS.wkB 2 hS ?_;refine TS.wkB 3 hS ?_;refine TS.wkB 4 hS ?_;refine TS.wkB 5 hS ?_;refine TS.wkB 6 hS ?_;refine TS.wkB 7 hS ?_;refine TS.done zf ?_;clear hS
    (try simp only [nS])
    go_wp2_with fail
    go_roundw
    case rel=>exact⟨k+1,_,_,HKL.out,by rw [HII.out],hno2,rfl⟩
    case measure=>simp [intOf]
  ·exfalso;obtain rfl:k=env.length:=by omega
   have:=jC env e.name (ByteArray.empty,Val.zero) (fun j hj=>hno.out j ze hj);rw [HL.out]at this;cases this
end Go.Proofs.YtlheailebbngiaaGreatDoor
