import Derived.Test.YtcfpoofhokbhlaaGreatDoorVBase
import Derived.Test.YtcfpoofhokbhlaaGreatDoorVShelf3
import Derived.Lib.Hide
import Derived.Deep.CutBlock
set_option linter.all false
set_option maxHeartbeats 16000000
set_option maxRecDepth 1000000
namespace Go.Proofs.YtcfpoofhokbhlaaGreatDoor
open Tryz List
open Go.RowKit

def pick(n k:Int):Int:=if k<1 then 0 else n % k

theorem NB(n k:Int)(hk:1<=k):-k<n.tmod k/\n.tmod k<k:=by
 have h1:=Int.tmod_lt_of_pos n (show 0<k by omega);have h2:=Int.tmod_lt_of_pos (-n) (show 0<k by omega);rw [Int.neg_tmod]at h2;omega

theorem cZ(n k:Int)(hk:1<=k):0<=pick n k/\pick n k<k:=by
 unfold pick;rw [if_neg (by omega)];exact⟨Int.emod_nonneg _ (by omega),Int.emod_lt_of_pos _ (by omega)⟩

theorem GX(n k:Int):n.tmod k % k=n % k:=by
 have h:=Int.mul_tdiv_add_tmod n k;have h2:n.tmod k=n+k*(-(n.tdiv k)):=by rw [Int.mul_neg];omega
 rw [h2,Int.add_mul_emod_self_left]

theorem bz(n k:Int)(w:World)(h1:k<=4611686018427387904) :
 Calls prog 6 #[.int .i64 n,.int .i64 k] w fun e w'=>e= .returned (.int .i64 (pick n k))/\w=w':=by
 by_cases hk:k<1
 ·go_enter func6,ntmps6
  go_wp2
  go_ret
  exact⟨by simp [pick,hk],rfl⟩
 ·have hm:=NB n k (by omega);have hm1:=hm.1;have hm2:=hm.2;clear hm
  go_enter func6,ntmps6
  go_wp2
  go_ret
  exact⟨by simp [pick,GX,show ¬k<1 by omega],rfl⟩

def Tab(w:World):Prop:=Lib.TabIs prog w "internal/strconv.uint64pow10" .u64 Lib.pow10Tab
theorem Tab.below{w w':World}(h:Tab w)(hb:Below w.heap.size w w'):Tab w':=by
 unfold Tab Lib.TabIs World.var? at *
 cases hg:Program.globalNamed prog "internal/strconv.uint64pow10" with
 |none=>simp [hg]at h
 |some g=>
  simp only [hg,Option.bind_some]at h ⊢
  have hlt:g<w.heap.size:=by
   rcases Nat.lt_or_ge g w.heap.size with h'|h'
   ·exact h'
   ·rw [Array.getElem?_eq_none h']at h;simp at h
  rw [hb.block g hlt];exact h
theorem Tab.grow{w:World}(h:Tab w)(bs:Array Obj)(d:Nat):Tab (w.grow bs d):=h.below ((Below.refl _ _).grow (Nat.le_refl _) _ _)
theorem Tab.alloc{w:World}(h:Tab w)(o:Obj):Tab (w.alloc o):=h.below ((Below.refl _ _).alloc (Nat.le_refl _) _)
theorem Tab.drewN{w:World}(h:Tab w)(n:Nat):Tab (w.drewN n):=h.below ⟨rfl,rfl,rfl,Nat.le_refl _,fun _ _=>rfl⟩
theorem Tab.grows{w w':World}(h:Tab w)(hg:w.Grows w'):Tab w':=h.below hg.below
theorem MV(n:Int)(h0:-9223372036854775808<=n)(h1:n<=9223372036854775807)(w:World)(ht:Tab w):Calls prog 190 #[.int .i64 n] w fun e w'=>e= .returned (.string ⟨(Lib.itoa n).toArray⟩)/\w.Grows w':=
 (strconv_Itoa n h0 h1 w ht).mono fun e w' ⟨he,k,os,hw⟩=>⟨he,by
  subst hw;refine .of_below ⟨rfl,rfl,rfl,by simp [Sort.grow,World.drewN],fun j hj=>?_⟩;simp only [Sort.grow,World.drewN]
  rw [Array.getElem?_append_left hj]⟩
theorem Fx(x:Int)(h0:0<=x)(h1:x<=9)(w:World):Calls prog 190 #[.int .i64 x] w fun e w'=>e= .returned (.string ⟨(Lib.decDigits x.toNat).toArray⟩)/\w=w':=by
 obtain⟨i,rfl⟩:=Int.eq_ofNat_of_zero_le h0;exact(strconv_Itoa_small i (by omega) w).mono fun e w' ⟨he,hw⟩=>⟨he,hw.symm⟩
theorem Ny(g gg N cap:Nat)(b0:Int)(w:World)(hc:w.cell? ⟨g,6,none⟩=some (.slice (some ⟨gg,0,none⟩) N cap))
 (hN:2<=N) (hm:N<=140737488355328) (hc0:w.cell? ⟨gg,0,none⟩=some (.int .i64 b0)) (u:Value) (hu:w.cell? ⟨gg,13,none⟩=some u) (hf:w.frozen? ⟨gg,13,none⟩=false) :
 Calls prog 15 #[.pointer (some ⟨g,0,none⟩),.int .i64 1] w fun e w'=>e= .returned (.tuple #[])/\w'=(w.setCell ⟨gg,13,none⟩ (.int .i64 b0)).drew:=by
 have hN1:(1:Int)<(N:Int):=by omega
 have hN0:(0:Int)<(N:Int):=by omega
 have hN2:0<N:=by omega
 have hN3:1<N:=by omega
 go_enter func15,ntmps15
 go_wp2_with fail
 refine TG.begin 13 (fun w'=>w'.cell? ⟨g,6,none⟩=some (.slice (some ⟨gg,0,none⟩) N cap)/\w'.cell? ⟨gg,0,none⟩=some (.int .i64 b0)) (by kernel_rfl) (by kernel_rfl) ?_ (fun hS=>?_);focus exact⟨hc,hc0⟩
 refine TG.tkB 0 hS ?_;refine TG.tkB 1 hS ?_;refine TG.tkB 2 hS ?_;refine TG.tkB 3 hS ?_;refine TG.tkB 4 hS ?_;refine TG.tkB 5 hS ?_;refine TG.tkB 6 hS ?_;refine TG.tkB 7 hS ?_;refine TG.tkB 8 hS ?_;refine TG.tkB 9 hS ?_;refine TG.tkB 10 hS ?_;refine TG.tkB 11 hS ?_;refine TG.tkB 12 hS ?_;refine TG.one (i:=13) (by kernel_rfl) rfl (fun K1 hK1=>?_)
 go_simp
 refine hK1 _ _ (fun h=>absurd rfl h) (TG.done (by kernel_rfl) ?_);clear hK1 K1 hS
 (try simp only [nS])
 go_wp2_with fail
 go_returns
 exact⟨rfl,rfl⟩
theorem Nw(g gg N cap:Nat)(b0:ByteArray)(w:World)(hc:w.cell? ⟨g,5,none⟩=some (.slice (some ⟨gg,0,none⟩) N cap))
 (hN:2<=N) (hm:N<=140737488355328) (hc0:w.cell? ⟨gg,0,none⟩=some (.string b0)) (u:Value) (hu:w.cell? ⟨gg,7,none⟩=some u) (hf:w.frozen? ⟨gg,7,none⟩=false) :
 Calls prog 15 #[.pointer (some ⟨g,0,none⟩),.int .i64 2] w fun e w'=>e= .returned (.tuple #[])/\w'=(w.setCell ⟨gg,7,none⟩ (.string b0)).drew:=by
 have hN1:(1:Int)<(N:Int):=by omega
 have hN0:(0:Int)<(N:Int):=by omega
 have hN2:0<N:=by omega
 have hN3:1<N:=by omega
 go_enter func15,ntmps15
 go_wp2_with fail
 refine TG.begin 13 (fun w'=>w'.cell? ⟨g,5,none⟩=some (.slice (some ⟨gg,0,none⟩) N cap)/\w'.cell? ⟨gg,0,none⟩=some (.string b0)) (by kernel_rfl) (by kernel_rfl) ?_ (fun hS=>?_);focus exact⟨hc,hc0⟩
 refine TG.tkB 0 hS ?_;refine TG.tkB 1 hS ?_;refine TG.tkB 2 hS ?_;refine TG.tkB 3 hS ?_;refine TG.tkB 4 hS ?_;refine TG.tkB 5 hS ?_;refine TG.tkB 6 hS ?_;refine TG.tkB 7 hS ?_;refine TG.tkB 8 hS ?_;refine TG.tkB 9 hS ?_;refine TG.tkB 10 hS ?_;refine TG.tkB 11 hS ?_;refine TG.tkB 12 hS ?_;refine TG.one (i:=13) (by kernel_rfl) rfl (fun K1 hK1=>?_)
 go_simp
 refine hK1 _ _ (fun h=>absurd rfl h) (TG.done (by kernel_rfl) ?_);clear hK1 K1 hS
 (try simp only [nS])
 go_wp2_with fail
 go_returns
 exact⟨rfl,rfl⟩
theorem Nu(g gg N cap:Nat)(b0:Int)(w:World)(hc:w.cell? ⟨g,4,none⟩=some (.slice (some ⟨gg,0,none⟩) N cap))
 (hN:2<=N) (hm:N<=140737488355328) (hc0:w.cell? ⟨gg,0,none⟩=some (.int .i64 b0)) (u:Value) (hu:w.cell? ⟨gg,3,none⟩=some u) (hf:w.frozen? ⟨gg,3,none⟩=false) :
 Calls prog 15 #[.pointer (some ⟨g,0,none⟩),.int .i64 4] w fun e w'=>e= .returned (.tuple #[])/\w'=(w.setCell ⟨gg,3,none⟩ (.int .i64 b0)).drew:=by
 have hN1:(1:Int)<(N:Int):=by omega
 have hN0:(0:Int)<(N:Int):=by omega
 have hN2:0<N:=by omega
 have hN3:1<N:=by omega
 go_enter func15,ntmps15
 go_wp2_with fail
 refine TG.begin 13 (fun w'=>w'.cell? ⟨g,4,none⟩=some (.slice (some ⟨gg,0,none⟩) N cap)/\w'.cell? ⟨gg,0,none⟩=some (.int .i64 b0)) (by kernel_rfl) (by kernel_rfl) ?_ (fun hS=>?_);focus exact⟨hc,hc0⟩
 refine TG.tkB 0 hS ?_;refine TG.tkB 1 hS ?_;refine TG.tkB 2 hS ?_;refine TG.tkB 3 hS ?_;refine TG.tkB 4 hS ?_;refine TG.tkB 5 hS ?_;refine TG.tkB 6 hS ?_;refine TG.tkB 7 hS ?_;refine TG.tkB 8 hS ?_;refine TG.tkB 9 hS ?_;refine TG.tkB 10 hS ?_;refine TG.tkB 11 hS ?_;refine TG.tkB 12 hS ?_;refine TG.one (i:=13) (by kernel_rfl) rfl (fun K1 hK1=>?_)
 go_simp
 refine hK1 _ _ (fun h=>absurd rfl h) (TG.done (by kernel_rfl) ?_);clear hK1 K1 hS
 (try simp only [nS])
 go_wp2_with fail
 go_returns
 exact⟨rfl,rfl⟩
theorem Nt(g gg N cap:Nat)(b0:Int)(w:World)(hc:w.cell? ⟨g,3,none⟩=some (.slice (some ⟨gg,0,none⟩) N cap))
 (hN:2<=N) (hm:N<=140737488355328) (hc0:w.cell? ⟨gg,0,none⟩=some (.int .i64 b0)) (u:Value) (hu:w.cell? ⟨gg,2,none⟩=some u) (hf:w.frozen? ⟨gg,2,none⟩=false) :
 Calls prog 15 #[.pointer (some ⟨g,0,none⟩),.int .i64 5] w fun e w'=>e= .returned (.tuple #[])/\w'=(w.setCell ⟨gg,2,none⟩ (.int .i64 b0)).drew:=by
 have hN1:(1:Int)<(N:Int):=by omega
 have hN0:(0:Int)<(N:Int):=by omega
 have hN2:0<N:=by omega
 have hN3:1<N:=by omega
 go_enter func15,ntmps15
 go_wp2_with fail
 refine TG.begin 13 (fun w'=>w'.cell? ⟨g,3,none⟩=some (.slice (some ⟨gg,0,none⟩) N cap)/\w'.cell? ⟨gg,0,none⟩=some (.int .i64 b0)) (by kernel_rfl) (by kernel_rfl) ?_ (fun hS=>?_);focus exact⟨hc,hc0⟩
 refine TG.tkB 0 hS ?_;refine TG.tkB 1 hS ?_;refine TG.tkB 2 hS ?_;refine TG.tkB 3 hS ?_;refine TG.tkB 4 hS ?_;refine TG.tkB 5 hS ?_;refine TG.tkB 6 hS ?_;refine TG.tkB 7 hS ?_;refine TG.tkB 8 hS ?_;refine TG.tkB 9 hS ?_;refine TG.tkB 10 hS ?_;refine TG.tkB 11 hS ?_;refine TG.tkB 12 hS ?_;refine TG.one (i:=13) (by kernel_rfl) rfl (fun K1 hK1=>?_)
 go_simp
 refine hK1 _ _ (fun h=>absurd rfl h) (TG.done (by kernel_rfl) ?_);clear hK1 K1 hS
 (try simp only [nS])
 go_wp2_with fail
 go_returns
 exact⟨rfl,rfl⟩
theorem Nz(g gg N cap:Nat)(o nu de di:Int)(na:ByteArray)(va:Option Addr)(vn vc:Nat)(w:World)(hc:w.cell? ⟨g,6,none⟩=some (.slice (some ⟨gg,0,none⟩) N cap))
 (hN:1<=N) (hm:N<=140737488355328) (k1:w.cell? ⟨gg,1,none⟩=some (.int .i64 o)) (k2:w.cell? ⟨gg,2,none⟩=some (.int .i64 nu)) (k3:w.cell? ⟨gg,3,none⟩=some (.int .i64 de)) (k4:w.cell? ⟨gg,4,none⟩=some (.int .i64 di)) (k5:w.cell? ⟨gg,5,none⟩=some (.string na)) (k6:w.cell? ⟨gg,6,none⟩=some (.slice va vn vc))
 (u1 u2 u3 u4 u5 u6:Value) (j1:w.cell? ⟨gg,7,none⟩=some u1) (j2:w.cell? ⟨gg,8,none⟩=some u2) (j3:w.cell? ⟨gg,9,none⟩=some u3) (j4:w.cell? ⟨gg,10,none⟩=some u4) (j5:w.cell? ⟨gg,11,none⟩=some u5) (j6:w.cell? ⟨gg,12,none⟩=some u6)
 (hf:∀i,w.frozen? ⟨gg,i,none⟩=false) :
 Calls prog 15 #[.pointer (some ⟨g,0,none⟩),.int .i64 0] w fun e w'=>e= .returned (.tuple #[])/\
  w'=((((((w.setCell ⟨gg,7,none⟩ (.int .i64 o)).setCell ⟨gg,8,none⟩ (.int .i64 nu)).setCell ⟨gg,9,none⟩ (.int .i64 de)).setCell ⟨gg,10,none⟩ (.int .i64 di)).setCell ⟨gg,11,none⟩ (.string na)).setCell ⟨gg,12,none⟩ (.slice va vn vc)).drew:=by
 have hN0:(0:Int)<(N:Int):=by omega
 have hN2:0<N:=by omega
 go_enter func15,ntmps15
 go_wp2_with fail
 refine TG.begin 13 (fun w'=>w'.cell? ⟨g,6,none⟩=some (.slice (some ⟨gg,0,none⟩) N cap)/\w'.cell? ⟨gg,1,none⟩=some (.int .i64 o)/\w'.cell? ⟨gg,2,none⟩=some (.int .i64 nu)/\w'.cell? ⟨gg,3,none⟩=some (.int .i64 de)/\w'.cell? ⟨gg,4,none⟩=some (.int .i64 di)/\w'.cell? ⟨gg,5,none⟩=some (.string na)/\w'.cell? ⟨gg,6,none⟩=some (.slice va vn vc)) (by kernel_rfl) (by kernel_rfl) ?_ (fun hS=>?_);focus exact⟨hc,k1,k2,k3,k4,k5,k6⟩
 refine TG.tkB 0 hS ?_;refine TG.tkB 1 hS ?_;refine TG.tkB 2 hS ?_;refine TG.tkB 3 hS ?_;refine TG.tkB 4 hS ?_;refine TG.tkB 5 hS ?_;refine TG.tkB 6 hS ?_;refine TG.tkB 7 hS ?_;refine TG.tkB 8 hS ?_;refine TG.tkB 9 hS ?_;refine TG.tkB 10 hS ?_;refine TG.tkB 11 hS ?_;refine TG.tkB 12 hS ?_;refine TG.one (i:=13) (by kernel_rfl) rfl (fun K1 hK1=>?_)
 go_simp
 refine hK1 _ _ (fun h=>absurd rfl h) (TG.done (by kernel_rfl) ?_);clear hK1 K1 hS
 (try simp only [nS])
 go_wp2_with fail
 go_returns
 exact⟨rfl,rfl⟩
theorem Nv(g gg N cap:Nat)(w:World)(hc:w.cell? ⟨g,5,none⟩=some (.slice (some ⟨gg,0,none⟩) N cap))
 (hN:1<=N) (hm:N<=140737488355328) (u1 u2 u3 u4 u5 u6:Value) (j1:w.cell? ⟨gg,1,none⟩=some u1) (j2:w.cell? ⟨gg,2,none⟩=some u2) (j3:w.cell? ⟨gg,3,none⟩=some u3) (j4:w.cell? ⟨gg,4,none⟩=some u4) (j5:w.cell? ⟨gg,5,none⟩=some u5) (j6:w.cell? ⟨gg,6,none⟩=some u6)
 (hf:∀i,w.frozen? ⟨gg,i,none⟩=false) :
 Calls prog 15 #[.pointer (some ⟨g,0,none⟩),.int .i64 3] w fun e w'=>e= .returned (.tuple #[])/\
  w'=(((((w.setCell ⟨gg,1,none⟩ (.int .i64 2)).setCell ⟨gg,2,none⟩ (.int .i64 0)).setCell ⟨gg,3,none⟩ (.int .i64 0)).setCell ⟨gg,4,none⟩ (.int .i64 0)).setCell ⟨gg,5,none⟩ (.string ⟨#[108,97,116,101,114]⟩)).setCell ⟨gg,6,none⟩ (.slice none 0 0):=by
 have hN0:(0:Int)<(N:Int):=by omega
 have hN2:0<N:=by omega
 go_enter func15,ntmps15
 go_wp2_with fail
 go_returns
 exact⟨rfl,rfl⟩
theorem Ns(g gg N cap:Nat)(w:World)(hc:w.cell? ⟨g,5,none⟩=some (.slice (some ⟨gg,0,none⟩) N cap))
 (hN:1<=N) (hm:N<=140737488355328) (u1:Value) (j1:w.cell? ⟨gg,0,none⟩=some u1) (hf:w.frozen? ⟨gg,0,none⟩=false) :
 Calls prog 15 #[.pointer (some ⟨g,0,none⟩),.int .i64 6] w fun e w'=>e= .returned (.tuple #[])/\w'=w.setCell ⟨gg,0,none⟩ (.string ⟨#[97,103,101]⟩):=by
 have hN0:(0:Int)<(N:Int):=by omega
 have hN2:0<N:=by omega
 go_enter func15,ntmps15
 go_wp2_with fail
 go_returns
 exact⟨rfl,rfl⟩
theorem Qz(g N cap:Nat)(a:Option Addr)(w:World)(hc:w.cell? ⟨g,6,none⟩=some (.slice a N cap))(hN:N<1) :
 Calls prog 15 #[.pointer (some ⟨g,0,none⟩),.int .i64 0] w fun e w'=>e= .returned (.tuple #[])/\w=w':=by
 have hN0:¬(1:Int)-1<(N:Int):=by omega
 have hN1:(N:Int)<1:=by omega
 go_enter func15,ntmps15
 go_wp2_with fail
 all_goals first|(exfalso;omega)|skip
 go_returns
 exact⟨rfl,rfl⟩
theorem Kw(g N cap:Nat)(a:Option Addr)(w:World)(hc:w.cell? ⟨g,6,none⟩=some (.slice a N cap))(hN:N<2) :
 Calls prog 15 #[.pointer (some ⟨g,0,none⟩),.int .i64 1] w fun e w'=>e= .returned (.tuple #[])/\w=w':=by
 have hN0:¬(2:Int)-1<(N:Int):=by omega
 have hN1:(N:Int)<2:=by omega
 go_enter func15,ntmps15
 go_wp2_with fail
 all_goals first|(exfalso;omega)|skip
 go_returns
 exact⟨rfl,rfl⟩
theorem Kv(g N cap:Nat)(a:Option Addr)(w:World)(hc:w.cell? ⟨g,5,none⟩=some (.slice a N cap))(hN:N<2) :
 Calls prog 15 #[.pointer (some ⟨g,0,none⟩),.int .i64 2] w fun e w'=>e= .returned (.tuple #[])/\w=w':=by
 have hN0:¬(2:Int)-1<(N:Int):=by omega
 have hN1:(N:Int)<2:=by omega
 go_enter func15,ntmps15
 go_wp2_with fail
 all_goals first|(exfalso;omega)|skip
 go_returns
 exact⟨rfl,rfl⟩
theorem Qy(g N cap:Nat)(a:Option Addr)(w:World)(hc:w.cell? ⟨g,5,none⟩=some (.slice a N cap))(hN:N<1) :
 Calls prog 15 #[.pointer (some ⟨g,0,none⟩),.int .i64 3] w fun e w'=>e= .returned (.tuple #[])/\w=w':=by
 have hN0:¬(1:Int)-1<(N:Int):=by omega
 have hN1:(N:Int)<1:=by omega
 go_enter func15,ntmps15
 go_wp2_with fail
 all_goals first|(exfalso;omega)|skip
 go_returns
 exact⟨rfl,rfl⟩
theorem Ku(g N cap:Nat)(a:Option Addr)(w:World)(hc:w.cell? ⟨g,4,none⟩=some (.slice a N cap))(hN:N<2) :
 Calls prog 15 #[.pointer (some ⟨g,0,none⟩),.int .i64 4] w fun e w'=>e= .returned (.tuple #[])/\w=w':=by
 have hN0:¬(2:Int)-1<(N:Int):=by omega
 have hN1:(N:Int)<2:=by omega
 go_enter func15,ntmps15
 go_wp2_with fail
 all_goals first|(exfalso;omega)|skip
 go_returns
 exact⟨rfl,rfl⟩
theorem Kt(g N cap:Nat)(a:Option Addr)(w:World)(hc:w.cell? ⟨g,3,none⟩=some (.slice a N cap))(hN:N<2) :
 Calls prog 15 #[.pointer (some ⟨g,0,none⟩),.int .i64 5] w fun e w'=>e= .returned (.tuple #[])/\w=w':=by
 have hN0:¬(2:Int)-1<(N:Int):=by omega
 have hN1:(N:Int)<2:=by omega
 go_enter func15,ntmps15
 go_wp2_with fail
 all_goals first|(exfalso;omega)|skip
 go_returns
 exact⟨rfl,rfl⟩
theorem Qx(g N cap:Nat)(a:Option Addr)(w:World)(hc:w.cell? ⟨g,5,none⟩=some (.slice a N cap))(hN:N<1) :
 Calls prog 15 #[.pointer (some ⟨g,0,none⟩),.int .i64 6] w fun e w'=>e= .returned (.tuple #[])/\w=w':=by
 have hN0:¬(1:Int)-1<(N:Int):=by omega
 have hN1:(N:Int)<1:=by omega
 go_enter func15,ntmps15
 go_wp2_with fail
 all_goals first|(exfalso;omega)|skip
 go_returns
 exact⟨rfl,rfl⟩
end Go.Proofs.YtcfpoofhokbhlaaGreatDoor
