import Derived.Test.YtblkcgceefjmjaaGreatDoorSSpA
set_option linter.all false
set_option maxHeartbeats 16000000
set_option maxRecDepth 1000000
namespace Go.Proofs.YtblkcgceefjmjaaGreatDoor
open Go.RowKit
variable {w W0 : World} {ia sa sa' : Option Addr} {ic sc sc' n0 m0 pb po P pc base g gI ci N kk i : Nat} {l : List Ins} {sl : List ByteArray} {qa qk qn : Int}
theorem spoil_k3:SpG w W0 ia sa sa' ic sc sc' n0 m0 pb po P pc base g gI ci N kk i l sl qa qk qn 3:=by
 intro HN HNL HKN HCI HI3 HN5 H0 HPC
 intros
 rename_i Q hpan hQ
 obtain⟨i0,hi,hz1,hz2,hz3⟩:=info_parts infoIn
 have z0:=H0.out.c.c0
 have z1:=H0.out.c.c1
 have zl:=H0.out.c.gW
 obtain⟨hb0,p1,p2,p3⟩:=HPC.out W0 (World.Grows.trans' growsR H0.out.c.gr)
 have hgI:=(H0.out.c.row.lt gI rfl).2
 have d1:(i:Int)<(P:Int):=by have:=HI3.out;omega
 have d0:(0:Int)≤(i:Int):=by omega
 have d2:(i:Int)<3:=by have:=HI3.out;omega
 have e0:(0:Int)≤(kk:Int):=by omega
 have e1:(kk:Int)<(N:Int):=by have:=HKN.out;omega
 have d3:(0:Int)<(N:Int):=by omega
 have hN6:(N:Int)≤5003:=by have:=HN5.out;omega
 have hw3:IntKind.i64.wrap ((N:Int)+3)=(N:Int)+3:=IntWalk.i64_in _ (by omega)
 have HP26:=Lib.hid (hpx9 26 (by omega) (by omega))
 have HP9:=Lib.hid (hpx9 9 (by omega) (by omega))
 have HP4:=Lib.hid (hpx9 4 (by omega) (by omega))
 have HP5:=Lib.hid (hpx9 5 (by omega) (by omega))
 have HP6:=Lib.hid (hpx9 6 (by omega) (by omega))
 have HPN3:=Lib.hid (hpx9 ((N:Int)+3) (by omega) (by omega))
 conv=>arg 2;whnf
 have s1:(kk:Int)≤(ci:Int):=by have:=HCI.out;have:=HKN.out;omega
 have s2:(kk:Int)+1≤(N:Int):=by have:=HKN.out;omega
 have s2':(kk:Int)≤(N:Int):=by have:=HKN.out;omega
 have s3:(N:Int)≤(ci:Int):=by have:=HCI.out;omega
 have s4:kk≤ci:=by omega
 have s5:kk+1≤N:=by omega
 have s5':kk≤N:=by omega
 have s6:N≤ci:=by omega
 have HCT:Hid (∀j u,(insV (l.take kk))[j]? =some u→W0.cell? ((⟨gI,0,none⟩:Addr).add j)=some u):=Lib.hid (fun j u hj=>by
  rw [addr9,Nat.zero_add]
  refine H0.out.c.cells HNL.out.symm j u ?_
  rw [insV_take,List.getElem?_take]at hj
  split at hj
  ·exact hj
  ·cases hj)
 have HLT:Hid ((insV (l.take kk)).length=kk*4):=Lib.hid (by rw [insV_len,List.length_take];have:=HKN.out;have:=HNL.out;omega)
 go_upto_region 15 with (first
  |(go_at_call 17;refine(HK8.out _).mono ?_;rintro e' w' ⟨rfl,rfl⟩)
  |(at_builtin;refine wpList_append_own _ rfl _ _ 55 rfl W0.heap.size 103 i0 _ 4 32 Tryz.underlying55 hi hz1 hz2 hz3 rfl (by decide) (.slice none 0 0) 0 [] rfl (World.ownsRow_nil _ _ _ _) ⟨gI,0,none⟩ kk ci (insV (l.take kk)) rfl HLT.out HCT.out (insV_one _) (by unfold maxLen;have:=HKN.out;have:=HN5.out;omega) (by have:=HKN.out;have:=HN5.out;omega) (by simp) ?_;intro v1 w1 hv1 hg1 hv1n;rw [Nat.zero_add,List.nil_append]at hv1;obtain⟨a1,c1,rfl,-,-⟩:=rowForm3 hv1;have HV1:=Lib.hid hv1;have HG1:=Lib.hid (World.Grows.grown (World.Grows.refl _) hg1 (fun k e=>by simp [Value.ownBlock]at e):W0.Grows w1);clear hv1 hg1 hv1n))
 have HX:=Lib.hid (H0.out.grows HG1.out)
 clear z0 z1 zl hb0 p1 p2 p3 hgI HLT HCT
 have z0:=HX.out.c.c0
 have z1:=HX.out.c.c1
 have zl:=HX.out.c.gW
 obtain⟨hb0,p1,p2,p3⟩:=HPC.out w1 (World.Grows.trans' growsR HX.out.c.gr)
 have hgI:=(HX.out.c.row.lt gI rfl).2
 have HCD:Hid (∀j u,(insV (l.drop (kk+1)))[j]? =some u→w1.cell? ((⟨gI,(kk+1)*4,none⟩:Addr).add j)=some u):=Lib.hid (fun j u hj=>by
  rw [addr9]
  refine HX.out.c.cells HNL.out.symm _ u ?_
  rwa [insV_drop,List.getElem?_drop]at hj)
 have HLD:Hid ((insV (l.drop (kk+1))).length=(N-(kk+1))*4):=Lib.hid (by rw [insV_len,List.length_drop,HNL.out])
 obtain⟨AD,hAD,hCE⟩:∃AD,(if ci=kk+1 then some (⟨gI,0,none⟩:Addr)else some ⟨gI,(kk+1)*4,none⟩)=some ⟨gI,AD,none⟩∧∀j u,(insV (l.drop (kk+1)))[j]? =some u→w1.cell? ((⟨gI,AD,none⟩:Addr).add j)=some u:=by
  by_cases hc:ci=kk+1
  ·refine⟨0,by rw [if_pos hc],fun j u hj=>?_⟩
   have h0:(insV (l.drop (kk+1))).length=0:=by rw [HLD.out];omega
   rw [List.length_eq_zero_iff.1 h0]at hj
   simp at hj
  ·exact⟨_,by rw [if_neg hc],HCD.out⟩
 have HAD:=Lib.hid hAD
 have HCE:=Lib.hid hCE
 clear hAD hCE
 go_wp2_with (at_builtin;refine wpList_append_own _ rfl _ _ 55 rfl W0.heap.size 103 i0 _ 4 32 Tryz.underlying55 hi hz1 hz2 hz3 rfl (by decide) (.slice a1 kk c1) kk (insV (l.take kk)) rfl HV1.out ⟨gI,AD,none⟩ (N-(kk+1)) (ci-(kk+1)) (insV (l.drop (kk+1))) (by show Value.slice _ _ _=_;rw [HAD.out]) HLD.out HCE.out (insV_one _) (by unfold maxLen;have:=HKN.out;have:=HN5.out;omega) (by have:=HKN.out;have:=HN5.out;omega) HG1.out.below.size ?_;intro v2 w2 hv2 hg2 hv2n;obtain⟨a2,c2,rfl,-,-⟩:=rowForm3 hv2;have HV2:=Lib.hid hv2;have HG2:=Lib.hid (World.Grows.grown HG1.out hg2 (fun k e=>(HV1.out.lt k e).1):W0.Grows w2);have HY:=Lib.hid (H0.out.grows HG2.out);have y0:=HY.out.c.c0;have yf:=HY.out.c.f 0;have yl:=HY.out.c.gW;clear hv2 hg2 hv2n)
 all_goals(apply hQ;exact Lib.hid (show SpSt (((w.alloc (.cells #[.slice ia n0 ic,.slice sa m0 sc] 58)).alloc (.cells #[.slice none 0 0,.slice none 0 0] 58))) base g n0 m0 (i+1) (.slice a2 (kk+(N-(kk+1))) c2) (.slice sa' sl.length sc') (l.take kk++l.drop (kk+1)) sl _ from by
  have hlen:(l.take kk++l.drop (kk+1)).length=kk+(N-(kk+1)):=by rw [List.length_append,List.length_take,List.length_drop];have:=HKN.out;have:=HNL.out;omega
  have h:=H0.out.c.newI HG2.out (v1:=.slice a2 (kk+(N-(kk+1))) c2) (l1:=l.take kk++l.drop (kk+1)) (by unfold LRow;rw [hlen,insV_app];exact HV2.out)
  refine⟨h.setI _,fun x hx=>H0.out.ok x ?_,by rw [hlen];have:=H0.out.nl;have:=HNL.out;have:=HKN.out;omega,H0.out.ml,H0.out.sz⟩
  rcases List.mem_append.1 hx with hx|hx
  ·exact List.mem_of_mem_take hx
  ·exact List.mem_of_mem_drop hx))
theorem spoil_k4:SpG w W0 ia sa sa' ic sc sc' n0 m0 pb po P pc base g gI ci N kk i l sl qa qk qn 4:=by
 intro HN HNL HKN HCI HI3 HN5 H0 HPC
 intros
 rename_i Q hpan hQ
 obtain⟨i0,hi,hz1,hz2,hz3⟩:=info_parts infoIn
 have z0:=H0.out.c.c0
 have z1:=H0.out.c.c1
 have zl:=H0.out.c.gW
 obtain⟨hb0,p1,p2,p3⟩:=HPC.out W0 (World.Grows.trans' growsR H0.out.c.gr)
 have hgI:=(H0.out.c.row.lt gI rfl).2
 have d1:(i:Int)<(P:Int):=by have:=HI3.out;omega
 have d0:(0:Int)≤(i:Int):=by omega
 have d2:(i:Int)<3:=by have:=HI3.out;omega
 have e0:(0:Int)≤(kk:Int):=by omega
 have e1:(kk:Int)<(N:Int):=by have:=HKN.out;omega
 have d3:(0:Int)<(N:Int):=by omega
 have hN6:(N:Int)≤5003:=by have:=HN5.out;omega
 have hw3:IntKind.i64.wrap ((N:Int)+3)=(N:Int)+3:=IntWalk.i64_in _ (by omega)
 have HP26:=Lib.hid (hpx9 26 (by omega) (by omega))
 have HP9:=Lib.hid (hpx9 9 (by omega) (by omega))
 have HP4:=Lib.hid (hpx9 4 (by omega) (by omega))
 have HP5:=Lib.hid (hpx9 5 (by omega) (by omega))
 have HP6:=Lib.hid (hpx9 6 (by omega) (by omega))
 have HPN3:=Lib.hid (hpx9 ((N:Int)+3) (by omega) (by omega))
 conv=>arg 2;whnf
 have s1:(kk:Int)≤(ci:Int):=by have:=HCI.out;have:=HKN.out;omega
 have s2:(kk:Int)+1≤(N:Int):=by have:=HKN.out;omega
 have s2':(kk:Int)≤(N:Int):=by have:=HKN.out;omega
 have s3:(N:Int)≤(ci:Int):=by have:=HCI.out;omega
 have s4:kk≤ci:=by omega
 have s5:kk+1≤N:=by omega
 have s5':kk≤N:=by omega
 have s6:N≤ci:=by omega
 have HCT:Hid (∀j u,(insV (l.take kk))[j]? =some u→W0.cell? ((⟨gI,0,none⟩:Addr).add j)=some u):=Lib.hid (fun j u hj=>by
  rw [addr9,Nat.zero_add]
  refine H0.out.c.cells HNL.out.symm j u ?_
  rw [insV_take,List.getElem?_take]at hj
  split at hj
  ·exact hj
  ·cases hj)
 have HLT:Hid ((insV (l.take kk)).length=kk*4):=Lib.hid (by rw [insV_len,List.length_take];have:=HKN.out;have:=HNL.out;omega)
 go_upto_region 18 with (first
  |(go_at_call 17;refine(HK8.out _).mono ?_;rintro e' w' ⟨rfl,rfl⟩)
  |(at_builtin;refine wpList_append_own _ rfl _ _ 55 rfl W0.heap.size 103 i0 _ 4 32 Tryz.underlying55 hi hz1 hz2 hz3 rfl (by decide) (.slice none 0 0) 0 [] rfl (World.ownsRow_nil _ _ _ _) ⟨gI,0,none⟩ kk ci (insV (l.take kk)) rfl HLT.out HCT.out (insV_one _) (by unfold maxLen;have:=HKN.out;have:=HN5.out;omega) (by have:=HKN.out;have:=HN5.out;omega) (by simp) ?_;intro v1 w1 hv1 hg1 hv1n;rw [Nat.zero_add,List.nil_append]at hv1;obtain⟨a1,c1,rfl,-,-⟩:=rowForm3 hv1;have HV1:=Lib.hid hv1;have HG1:=Lib.hid (World.Grows.grown (World.Grows.refl _) hg1 (fun k e=>by simp [Value.ownBlock]at e):W0.Grows w1);clear hv1 hg1 hv1n))
 have HX:=Lib.hid (H0.out.grows HG1.out)
 clear z0 z1 zl hb0 p1 p2 p3 hgI HLT HCT
 have z0:=HX.out.c.c0
 have z1:=HX.out.c.c1
 have zl:=HX.out.c.gW
 obtain⟨hb0,p1,p2,p3⟩:=HPC.out w1 (World.Grows.trans' growsR HX.out.c.gr)
 have hgI:=(HX.out.c.row.lt gI rfl).2
 refine TS.begin [16,17] (World.Grows w1) (by kernel_rfl) (by kernel_rfl) grows_drew0 (fun hS=>?_)
 refine TS.wkB 0 hS ?_
 refine TS.wkB 1 hS ?_
 refine TS.wkB 2 hS ?_
 refine TS.wkB 3 hS ?_
 refine TS.wkB 4 hS ?_
 refine TS.wkB 5 hS ?_
 refine TS.wkB 7 hS ?_
 refine TS.wkB 8 hS ?_
 refine TS.wkB 9 hS ?_
 refine TS.wkB 10 hS ?_
 refine TS.wkB 11 hS ?_
 refine TS.wkB 12 hS ?_
 refine TS.one (i:=6) (by kernel_rfl) rfl (fun K1 hK1=>?_)
 have HK1:=Lib.hid hK1
 clear hK1 hS
 dsimp only [List.getElem_toArray,List.getElem_cons_succ,List.getElem_cons_zero]
 go_simp
 go_at_call 17
 refine(HP26.out _ _).mono ?_
 rintro e' w' ⟨r,rfl,⟨hr0,hr1⟩,rfl⟩
 refine TS.go HK1.out growsR (fun hS=>?_)
 clear HK1 K1
 (try simp only [nS])
 refine TS.one (i:=13) (by kernel_rfl) rfl (fun K1 hK1=>?_)
 have HK1:=Lib.hid hK1
 clear hK1 hS
 dsimp only [List.getElem_toArray,List.getElem_cons_succ,List.getElem_cons_zero]
 go_simp
 go_at_call 17
 refine(HP6.out _ _).mono ?_
 rintro e' w' ⟨q,rfl,⟨hq0,hq1⟩,rfl⟩
 refine TS.go HK1.out growsR (fun hS=>?_)
 clear HK1 K1
 (try simp only [nS])
 refine TS.wkB 14 hS ?_
 refine TS.one (i:=15) (by kernel_rfl) rfl (fun K1 hK1=>?_)
 have HK1:=Lib.hid hK1
 clear hK1 hS
 dsimp only [List.getElem_toArray,List.getElem_cons_succ,List.getElem_cons_zero]
 go_simp
 refine TS.go HK1.out growsR (fun hS=>?_)
 clear HK1 K1
 (try simp only [nS])
 refine TS.one (i:=16) (by kernel_rfl) rfl (fun K1 hK1=>?_)
 refine step_append_lies _ rfl _ _ 55 rfl W0.heap.size 103 i0 _ 4 32 Tryz.underlying55 hi hz1 hz2 hz3 rfl (by decide) (.slice a1 kk c1) kk (insV (l.take kk)) rfl (own_grow9 HV1.out growsR) ⟨_,0,none⟩ 1 1 [.int .i64 r,.int .i64 q,.int .i64 0,.int .i64 0] rfl rfl (news_cells _ [.int .i64 r,.int .i64 q,.int .i64 0,.int .i64 0] _ _ (by simp)) (by intro u hu;simp at hu;rcases hu with rfl|rfl|rfl|rfl<;>rfl) (by decide) (by unfold maxLen;have:=HKN.out;have:=HN5.out;omega) (by have:=HKN.out;have:=HN5.out;omega) (by have:=HG1.out.below.size;simp;omega) _ rfl ?_
 intro g5 c5 w5 hown hgrow hgg hgl
 have HV5:=Lib.hid hown
 have HG5:=Lib.hid (World.Grows.grown (World.Grows.trans' HG1.out growsR) hgrow (fun k e=>(HV1.out.lt k e).1):W0.Grows w5)
 have HZ:=Lib.hid (H0.out.grows HG5.out)
 refine hK1 _ _ (fun h=>absurd (by decide) h) ?_
 clear hK1 K1 hown hgrow hgg hgl hS z0 z1 zl hb0 p1 p2 p3 hgI
 (try simp only [nS])
 refine TS.weB 17 ?_
 have z0:=HZ.out.c.c0
 have z1:=HZ.out.c.c1
 have zl:=HZ.out.c.gW
 obtain⟨hb0,p1,p2,p3⟩:=HPC.out w5 (World.Grows.trans' growsR HZ.out.c.gr)
 have hgI:=(HZ.out.c.row.lt gI rfl).2
 have HCD:Hid (∀j u,(insV (l.drop (kk)))[j]? =some u→w5.cell? ((⟨gI,(kk)*4,none⟩:Addr).add j)=some u):=Lib.hid (fun j u hj=>by
  rw [addr9]
  refine HZ.out.c.cells HNL.out.symm _ u ?_
  rwa [insV_drop,List.getElem?_drop]at hj)
 have HLD:Hid ((insV (l.drop (kk))).length=(N-(kk))*4):=Lib.hid (by rw [insV_len,List.length_drop,HNL.out])
 go_wp2_with (at_builtin;refine wpList_append_own _ rfl _ _ 55 rfl W0.heap.size 103 i0 _ 4 32 Tryz.underlying55 hi hz1 hz2 hz3 rfl (by decide) (.slice (some ⟨g5,0,none⟩) (kk+1) c5) (kk+1) (insV (l.take kk)++[.int .i64 r,.int .i64 q,.int .i64 0,.int .i64 0]) rfl HV5.out ⟨gI,kk*4,none⟩ (N-kk) (ci-kk) (insV (l.drop kk)) rfl HLD.out HCD.out (insV_one _) (by unfold maxLen;have:=HKN.out;have:=HN5.out;omega) (by have:=HKN.out;have:=HN5.out;omega) HG5.out.below.size ?_;intro v2 w2 hv2 hg2 hv2n;obtain⟨a2,c2,rfl,-,-⟩:=rowForm3 hv2;have HV2:=Lib.hid hv2;have HG2:=Lib.hid (World.Grows.grown HG5.out hg2 (fun k e=>(HV5.out.lt k e).1):W0.Grows w2);have HY:=Lib.hid (H0.out.grows HG2.out);have y0:=HY.out.c.c0;have yf:=HY.out.c.f 0;have yl:=HY.out.c.gW;clear hv2 hg2 hv2n)
 all_goals(apply hQ;exact Lib.hid (show SpSt (((w.alloc (.cells #[.slice ia n0 ic,.slice sa m0 sc] 58)).alloc (.cells #[.slice none 0 0,.slice none 0 0] 58))) base g n0 m0 (i+1) (.slice a2 (kk+1+(N-kk)) c2) (.slice sa' sl.length sc') ((l.take kk++[⟨r,q,0,0⟩])++l.drop kk) sl _ from by
  have hlen:((l.take kk++[(⟨r,q,0,0⟩:Ins)])++l.drop kk).length=kk+1+(N-kk):=by rw [List.length_append,List.length_append,List.length_take,List.length_drop];have:=HKN.out;have:=HNL.out;simp;omega
  have h:=H0.out.c.newI HG2.out (v1:=.slice a2 (kk+1+(N-kk)) c2) (l1:=(l.take kk++[⟨r,q,0,0⟩])++l.drop kk) (by unfold LRow;rw [hlen,insV_app,insV_app];exact HV2.out)
  refine⟨h.setI _,fun x hx=>?_,by rw [hlen];have:=H0.out.nl;have:=HNL.out;have:=HKN.out;omega,H0.out.ml,H0.out.sz⟩
  rcases List.mem_append.1 hx with hx|hx
  ·rcases List.mem_append.1 hx with hx|hx
   ·exact H0.out.ok x (List.mem_of_mem_take hx)
   ·rw [List.mem_singleton]at hx;subst hx;exact⟨⟨by show(-9223372036854775808:Int)≤0;decide,by show(0:Int)≤9223372036854775807;decide⟩,⟨by show(-9223372036854775808:Int)≤0;decide,by show(0:Int)≤9223372036854775807;decide⟩⟩
  ·exact H0.out.ok x (List.mem_of_mem_drop hx)))
end Go.Proofs.YtblkcgceefjmjaaGreatDoor
