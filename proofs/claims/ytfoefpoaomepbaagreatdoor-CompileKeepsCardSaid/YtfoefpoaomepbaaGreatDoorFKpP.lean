import Derived.Test.YtfoefpoaomepbaaGreatDoorFTk14
import Derived.Test.YtfoefpoaomepbaaGreatDoorFBst8
import Derived.Test.YtfoefpoaomepbaaGreatDoorFK
set_option linter.all false
set_option maxHeartbeats 16000000
set_option maxRecDepth 1000000
namespace Go.Proofs.YtfoefpoaomepbaaGreatDoor
theorem fd_expr(v:Vw)(env:List (ByteArray × Val))(e:Ex):exprF' v env (fdF e)=exprF' v env e:=by
 unfold fdF
 split
 ·rename_i hb
  unfold exprF'
  rw [fold_valid hb,hb,fold_infer]
  split
  ·rfl
  ·rename_i h1
   split
   ·rfl
   ·rename_i h2
    have hv:v.ok=true:=by
     cases h:v.ok with
     |true=>rfl
     |false=>exact absurd (.inl h) h1
    have hE:∀p∈env,p.2.ok=true:=fun p hp=>by
     cases h:p.2.ok with
     |true=>rfl
     |false=>exact absurd (.inr (.inl (List.any_eq_true.2 ⟨p,hp,by rw [h];rfl⟩))) h1
    rw [fold_value hv hE e (valid_formed hb) (Decidable.not_not.1 h2)]
 ·rfl
theorem fd_size(e:Ex):(fdF e).size≤e.size:=by
 unfold fdF
 split
 ·rename_i hb;exact(fold_form e (valid_formed hb)).2.1
 ·exact Nat.le_refl _
theorem fd_fd(e:Ex):fdF (fdF e)=fdF e:=by
 cases h:validB e with
 |true=>
  have k:fdF e=foldF e:=by unfold fdF;rw [h];rfl
  rw [k];unfold fdF;rw [fold_valid h,fold_fold];rfl
 |false=>
  have k:fdF e=e:=by unfold fdF;rw [h];rfl
  rw [k,k]
end Go.Proofs.YtfoefpoaomepbaaGreatDoor
namespace Go.Proofs.YtfoefpoaomepbaaGreatDoor
open Go.RowKit
theorem expr8_view(v:Vw)(y se:Value)(env:List (ByteArray × Val))(e:Ex)(a:Option Addr)(cap:Nat)(w:World)(hy:YrAt w y v.years)(hr:VwRng v)(hs:StpAt w se env)(hv:v.ok=false) :
 Calls Tryz.prog 16 #[exV e (.slice a e.args.length cap),vwV v y,se] w (ExpP (exprF' v env e) w):=by
 have HF:Hid (exprF' v env e=(.zero,1)):=Lib.hid (by unfold exprF';rw [if_pos (.inl hv)])
 rw [HF.out]
 have HY:=Lib.hid hy
 have HV:=Lib.hid (fun w' (hg:w.Grows w')=>ValidView8_any v y w' hr (HY.out.grows hg))
 rw [hv]at HV
 obtain⟨ya,yc,rfl⟩:∃a c,y= .slice a v.years.length c:=by
  exact fz32
 obtain⟨sa,sc,rfl⟩:∃a c,se= .slice a env.length c:=by
  exact fz33
 unfold vwV exV
 unfold vwV at HV
 clear hy hr hs hv HF
 go_enter Tryz.func16,Tryz.ntmps16
 go_wp2_with (go_at_call 40;refine(HV.out _ growsP).mono ?_;rintro e' w' ⟨rfl,bs,d,rfl⟩)
 go_returns
 exact expP rfl growsP
theorem expr8_in(S:Nat→Prop)(v:Vw)(y se:Value)(env:List (ByteArray × Val))(e:Ex)(a:Option Addr)(cap:Nat)(w:World)(h:RepE S w e (.slice a e.args.length cap))(hbig:e.size≤2305843009213693952)(hy:YrAt w y v.years)(hr:VwRng v)(hs:StpAt w se env)(hS:∀p∈env,VRng p.2)(hv:v.ok=true) :
 Calls Tryz.prog 16 #[exV e (.slice a e.args.length cap),vwV v y,se] w (ExpP (exprF' v env e) w):=by
 obtain⟨i0,hi,hz0,hz1,hz2⟩:=info_parts infoB
 have HR:=Lib.hid h
 have HY:=Lib.hid hy
 have HS:=Lib.hid hs
 have HSR:=Lib.hid hS
 have HV:=Lib.hid (fun w' (hg:w.Grows w')=>ValidView8_any v y w' hr (HY.out.grows hg))
 rw [hv]at HV
 have HBAD:Hid (∀k,k<env.length→(stV env k).ok=false→exprF' v env e=(.zero,1)):=Lib.hid (fun k hk hb=>by unfold exprF';rw [if_pos (.inr (.inl (env_bad hk hb)))])
 have HINF:Hid (∀w' vb,w.Grows w'→BindAt w' vb (dimsOf env)→Calls Tryz.prog 25 #[exV e (.slice a e.args.length cap),vb] w' (InfP (inferE (dimsOf env) e) w')):=
  Lib.hid (fun w' vb hg hb=>Infer5_any S (dimsOf env) e _ vb w' (HR.out.grows hg) hbig hb)
 have HGOOD:=Lib.hid (fun hE=>expr_good (v:=v) (env:=env) (e:=e) hv hE)
 have HEV:Hid ((∀p∈env,p.2.ok=true)→(inferE (dimsOf env) e).2=0→(∀w',w.Grows w'→Calls Tryz.prog 42 #[exV e (.slice a e.args.length cap),vwV v y,se] w' (ApP (valueF v env e) w'))∧((valueF v env e).2≠0→(valueF v env e).1= .zero)):=
  Lib.hid (fun hE hi=>by
   have hvb:validB e=true:=by
    unfold inferE at hi
    split at hi<;>rename_i hc
    ·exact hc.1
    ·simp at hi
   have hi2:(inferF (dimsOf env) e).2=0:=by rwa [inferE_yes hvb (dims_ok hE)]at hi
   exact⟨fun w' hg=>value8_walk S v hv hr y se env hE e.size e (Nat.le_refl _) (valid_formed hvb) hi2 a cap w' (HR.out.grows hg) (HY.out.grows hg) (HS.out.grows hg),fun hz=>((value_ok hv hE e (valid_formed hvb) hi2).bad hz).1⟩)
 have h1000:=hs.1
 obtain⟨ya,yc,rfl⟩:∃a c,y= .slice a v.years.length c:=by
  exact fz32
 obtain⟨sa,sc,rfl⟩:∃a c,se= .slice a env.length c:=by
  exact fz33
 unfold vwV exV
 clear h hy hr hs hS hv hbig
 unfold vwV at HV
 unfold ApP exV vwV at HEV
 unfold InfP exV at HINF
 go_enter Tryz.func16,Tryz.ntmps16
 go_wp2_with (go_at_call 40;refine(HV.out _ growsP).mono ?_;rintro e' w' ⟨rfl,bs,d,rfl⟩)
 go_loopw [8,9] (fun v8 v9 wr=>∃(k:Nat) (vb:Value),vb=v8∧k≤env.length∧v9= .int .i64 k∧Hid (∀j,j<k→(stV env j).ok=true)∧Below (w.heap.size+1+1+1) ((((w.alloc (.cells #[.int .i64 e.op,.int .i64 e.num,.int .i64 e.den,.int .i64 e.dim,.string e.name,.slice a e.args.length cap] 27)).alloc (.cells #[.int .i64 v.age,.int .i64 v.year,.int .i64 v.children,.int .i64 v.insured,.int .i64 v.worked,.int .i64 v.voluntary,.int .i64 v.service,.int .i64 v.equated,.int .i64 v.raising,.int .i64 v.resident,.int .i64 v.bn,.int .i64 v.bd,.slice ya v.years.length yc] 38)).alloc (.cells #[.int .i64 0,.bool false,.int .i64 0,.int .i64 0] 41))) wr∧wr.ownsRow (w.heap.size+1+1+1) 106 2 vb k (bindL (dimsOf (env.take k)))) (fun _ v9 _=>env.length-(intOf v9).toNat)
 case atStart=>exact⟨0,_,rfl,by omega,rfl,Lib.hid (fun j hj=>by omega),by(exact belB),World.ownsRow_nil _ _ _ _⟩
 case round=>
  obtain⟨k,vb,rfl,hk,rfl,hno,hB,hown⟩:=hrel
  have HO:=Lib.hid hown
  obtain⟨bs0,d0,rfl⟩:World.Grows ((((w.alloc (.cells #[.int .i64 e.op,.int .i64 e.num,.int .i64 e.den,.int .i64 e.dim,.string e.name,.slice a e.args.length cap] 27)).alloc (.cells #[.int .i64 v.age,.int .i64 v.year,.int .i64 v.children,.int .i64 v.insured,.int .i64 v.worked,.int .i64 v.voluntary,.int .i64 v.service,.int .i64 v.equated,.int .i64 v.raising,.int .i64 v.resident,.int .i64 v.bn,.int .i64 v.bd,.slice ya v.years.length yc] 38)).alloc (.cells #[.int .i64 0,.bool false,.int .i64 0,.int .i64 0] 41))) wr:=.of_below (by simpa using hB)
  clear hB
  by_cases hlt:k<env.length
  ·clear hown
   obtain⟨-,sa',sc',hv2,hcs⟩:=HS.out
   simp only [Value.slice.injEq,true_and]at hv2
   obtain⟨rfl,rfl⟩:=hv2
   rcases hcs with h0|⟨b,off,rfl,hbw,hx⟩
   ·omega
   obtain⟨s0,s1,s2,s3,s4⟩:=hx k hlt
   have HVV:Hid (∀w,Calls Tryz.prog 41 #[valV (stV env k)] w fun r w'=>r= .returned (.bool (stV env k).ok)∧w.Grows w'):=Lib.hid (fun w=>by
    obtain⟨p,hp,he⟩:=stV_mem hlt
    exact ValidValue8_any _ w (by rw [he];exact HSR.out p hp))
   have HBD:=Lib.hid (HBAD.out k hlt)
   have HNX:=Lib.hid (dims_take env k hlt)
   have HKL:=Lib.hid hlt
   have d1:(k:Int)<(env.length:Int):=by omega
   unfold valV at HVV
   have HKK:Hid ((stV env k).ok=true→∀j,j<k+1→(stV env j).ok=true):=Lib.hid (fun h j hj=>by
    by_cases ej:j=k
    ·subst ej;exact h
    ·exact hno.out j (by omega))
   generalize stN env k=nk at *
   generalize stV env k=xk at *
   obtain⟨xm,xy,xn,xd⟩:=xk
   dsimp only at s1 s2 s3 s4 HVV HNX
   cases hq:(Val.mk xm xy xn xd).ok with
   |true=>
    rw [hq]at HVV
    have HQ:=Lib.hid (HKK.out hq)
    clear hx hlt hq HKK HBD
    go_wp2_with (go_at_call 41;refine(HVV.out _).mono ?_;rintro e' w' ⟨rfl,bs2,d2,rfl⟩)
    refine TS.begin [14,15] (World.Grows _) (by kernel_rfl) (by kernel_rfl) grows_drew0 (fun hS=>?_)
    refine TS.wkB 0 hS ?_
    refine TS.wkB 1 hS ?_
    refine TS.wkB 2 hS ?_
    refine TS.wkB 3 hS ?_
    refine TS.wkB 4 hS ?_
    refine TS.wkB 5 hS ?_
    refine TS.wkB 6 hS ?_
    refine TS.wkB 7 hS ?_
    refine TS.wkB 8 hS ?_
    refine TS.wkB 9 hS ?_
    refine TS.wkB 10 hS ?_
    refine TS.wkB 11 hS ?_
    refine TS.wkB 12 hS ?_
    refine TS.one (i:=13) (by decide+kernel) rfl (fun K1 hK1=>?_)
    have HK1:=Lib.hid hK1
    clear hK1 hS
    dsimp only [List.getElem_toArray,List.getElem_cons_succ,List.getElem_cons_zero]
    go_simp
    refine TS.go HK1.out growsP (fun hS=>?_)
    clear HK1 K1
    (try simp only [nS])
    refine TS.one (i:=14) (by decide+kernel) rfl (fun K1 hK1=>?_)
    refine step_append_ownY rfl _ _ 52 rfl (w.heap.size+1+1+1) 106 i0 _ 2 24 Tryz.underlying52 hi hz0 hz1 hz2 rfl (by decide) vb k _ rfl (own_grow HO.out growsP) ⟨w.heap.size+1+1+1+(bs0.size+bs2.size),0,none⟩ 1 1 [.string nk,.int .i64 xm] rfl rfl (news_cells _ [.string nk,.int .i64 xm] _ _ (by simp)) (by intro u hu;simp at hu;rcases hu with rfl|rfl<;>rfl) (by unfold maxLen;omega) (by omega) (by simp;try omega) ?_
    intro v2 w2 hown2 hgrow2
    have hB2:Below (w.heap.size+1+1+1) ((((w.alloc (.cells #[.int .i64 e.op,.int .i64 e.num,.int .i64 e.den,.int .i64 e.dim,.string e.name,.slice a e.args.length cap] 27)).alloc (.cells #[.int .i64 v.age,.int .i64 v.year,.int .i64 v.children,.int .i64 v.insured,.int .i64 v.worked,.int .i64 v.voluntary,.int .i64 v.service,.int .i64 v.equated,.int .i64 v.raising,.int .i64 v.resident,.int .i64 v.bn,.int .i64 v.bd,.slice ya v.years.length yc] 38)).alloc (.cells #[.int .i64 0,.bool false,.int .i64 0,.int .i64 0] 41))) w2:=Below.grown (show Below (w.heap.size+1+1+1) ((((w.alloc (.cells #[.int .i64 e.op,.int .i64 e.num,.int .i64 e.den,.int .i64 e.dim,.string e.name,.slice a e.args.length cap] 27)).alloc (.cells #[.int .i64 v.age,.int .i64 v.year,.int .i64 v.children,.int .i64 v.insured,.int .i64 v.worked,.int .i64 v.voluntary,.int .i64 v.service,.int .i64 v.equated,.int .i64 v.raising,.int .i64 v.resident,.int .i64 v.bn,.int .i64 v.bd,.slice ya v.years.length yc] 38)).alloc (.cells #[.int .i64 0,.bool false,.int .i64 0,.int .i64 0] 41))) _ from by(exact belB)) hgrow2 (by simp;try omega) (fun k hk=>(HO.out.lt k hk).1)
    have HB2:=Lib.hid hB2
    have HO2:=Lib.hid hown2
    refine hK1 _ _ (fun h=>absurd (by decide) h) ?_
    clear hK1 K1 hown2 hgrow2 hB2
    (try simp only [nS])
    refine TS.weB 15 ?_
    clear hS
    go_wp2_with fail
    go_roundw
    case rel=>exact⟨k+1,_,rfl,HKL.out,by go_num,HQ,HB2.out,by rw [HNX.out,bindL_snoc];exact HO2.out⟩
    case measure=>simp [intOf];have:=HKL.out;omega
   |false=>
    rw [hq]at HVV
    have HF:=Lib.hid (HBD.out hq)
    clear hx hlt hq HKK HBD
    rw [HF.out]
    go_wp2_with (go_at_call 41;refine(HVV.out _).mono ?_;rintro e' w' ⟨rfl,bs2,d2,rfl⟩)
    go_returns
    exact expP rfl growsP
  ·obtain rfl:k=env.length:=by omega
   have hE:=env_good hno.out
   have hgd:=HGOOD.out hE
   have HEV2:=Lib.hid (HEV.out hE)
   have hbd:BindAt (((((w.alloc (.cells #[.int .i64 e.op,.int .i64 e.num,.int .i64 e.den,.int .i64 e.dim,.string e.name,.slice a e.args.length cap] 27)).alloc (.cells #[.int .i64 v.age,.int .i64 v.year,.int .i64 v.children,.int .i64 v.insured,.int .i64 v.worked,.int .i64 v.voluntary,.int .i64 v.service,.int .i64 v.equated,.int .i64 v.raising,.int .i64 v.resident,.int .i64 v.bn,.int .i64 v.bd,.slice ya v.years.length yc] 38)).alloc (.cells #[.int .i64 0,.bool false,.int .i64 0,.int .i64 0] 41))).grow bs0 d0) vb (dimsOf env):=by
    have h1:=HO.out
    rw [List.take_length]at h1
    have hl:(dimsOf env).length=env.length:=by unfold dimsOf;simp
    exact BindAt.of_own (by rw [hl];exact h1) (by rw [hl];exact h1000)
   have HBND:=Lib.hid hbd
   obtain⟨-,va,vc,rfl,-⟩:=hbd
   have HGD:=Lib.hid hgd
   clear hgd hown hno
   generalize inferE (dimsOf env) e=q at *
   generalize valueF v env e=r at *
   obtain⟨qm,qc⟩:=q
   obtain⟨⟨rm,ry,rn,rd⟩,rc⟩:=r
   dsimp only at HINF HEV2 HGD
   by_cases hqc:qc=0
   ·subst hqc
    obtain⟨hev,hz⟩:=HEV2.out rfl
    have HEV3:=Lib.hid hev
    have HF:Hid (exprF' v env e=(⟨rm,ry,rn,rd⟩,rc)):=Lib.hid (by
     rw [HGD.out,if_neg (by simp)]
     by_cases hrc:rc≠0
     ·rw [if_pos hrc,hz hrc]
     ·rw [if_neg hrc])
    clear hev hz
    go_wp2_with (first
     |(go_at_call 25;refine(HINF.out _ _ growsP (HBND.out.grows growsP)).mono ?_;rintro e' w' ⟨rfl,bs4,d4,rfl⟩)
     |(go_at_call 42;refine(HEV3.out _ growsP).mono ?_;rintro e' w' ⟨rfl,bs5,d5,rfl⟩))
    go_returns
    exact expP HF.out growsP
   ·have hq1:(qc !=0)=true:=by simpa using hqc
    have HF:Hid (exprF' v env e=(.zero,qc)):=Lib.hid (by rw [HGD.out];simp [hqc])
    clear hqc HEV2
    go_wp2_with (go_at_call 25;refine(HINF.out _ _ growsP (HBND.out.grows growsP)).mono ?_;rintro e' w' ⟨rfl,bs4,d4,rfl⟩)
    go_returns
    exact expP HF.out growsP
theorem Expr8_any(S:Nat→Prop)(v:Vw)(y se:Value)(env:List (ByteArray × Val))(e:Ex)(a:Option Addr)(cap:Nat)(w:World)(h:RepE S w e (.slice a e.args.length cap))(hbig:e.size≤2305843009213693952)(hy:YrAt w y v.years)(hr:VwRng v)(hs:StpAt w se env)(hS:∀p∈env,VRng p.2) :
 Calls Tryz.prog 16 #[exV e (.slice a e.args.length cap),vwV v y,se] w (ExpP (exprF' v env e) w):=by
 cases hv:v.ok with
 |false=>exact expr8_view v y se env e a cap w hy hr hs hv
 |true=>exact expr8_in S v y se env e a cap w h hbig hy hr hs hS hv
def mvV(R:VwR):List Value:=(R.years.take 20).map fun z=>Value.int .i64 (pick z 5000000)
theorem mv_take(R:VwR)(k:Nat)(hk:k<R.years.length)(h20:k<20):(mvV R).take (k+1)=(mvV R).take k++[.int .i64 (pick (R.years.getD k 0) 5000000)]:=by
 unfold mvV
 have hk2:k<(R.years.take 20).length:=by rw [List.length_take];omega
 rw [List.take_succ_eq_append_getElem (by simpa using hk2),List.getElem_map,List.getElem_take,List.getD_eq_getElem?_getD,List.getElem?_eq_getElem hk];rfl
theorem mv_all(R:VwR)(k:Nat)(hk:k≤R.years.length)(h20:k≤20)(he:k=R.years.length∨k=20):(mvV R).take k=(viewP R).years.map (Value.int .i64)∧k=(viewP R).years.length:=by
 have hlen:(R.years.take 20).length=k:=by rw [List.length_take];omega
 constructor
 ·unfold mvV viewP
  dsimp only
  rw [List.map_map,List.take_of_length_le (by rw [List.length_map];omega)];rfl
 ·show k=((R.years.take 20).map _).length
  rw [List.length_map,hlen]
def VoP(R:VwR)(w:World)(e:Ending)(w':World):Prop:=∃yv,e= .returned (vwV (viewP R) yv)∧w.Grows w'∧YrAt w' yv (viewP R).years
theorem viewOf_any(R:VwR)(vd vy:Value)(w:World)(hd:IntsAt w vd R.days)(hy:IntsAt w vy R.years) :
 Calls Tryz.prog 15 #[.agg #[.int .i64 R.age,.int .i64 R.year,.int .i64 R.children,.int .i64 R.base,.int .i64 R.den,vd,vy]] w (VoP R w):=by
 obtain⟨i0,hi,hz0,hz1,hz2⟩:=info_parts infoY
 have HMK:=Lib.hid (fun w=>MakeFraction_any (pick R.base 1000000) (pick R.den 12+1) w (by have:=pick_bd R.base 1000000 (by omega);omega) (by have:=pick_bd R.base 1000000 (by omega);omega) (by have:=pick_bd R.den 12 (by omega);omega) (by have:=pick_bd R.den 12 (by omega);omega))
 have hpd:=pick_bd R.den 12 (by omega)
 have hpy:=pick_bd R.year 200 (by omega)
 have w1:IntKind.i64.wrap (pick R.den 12+1)=pick R.den 12+1:=IntWalk.i64_in _ (by omega)
 have w2:IntKind.i64.wrap (1900+pick R.year 200)=1900+pick R.year 200:=IntWalk.i64_in _ (by omega)
 have hlen1:(R.days.length:Int)≤140737488355328:=by have:=hd.1;omega
 have hlen2:(R.years.length:Int)≤140737488355328:=by have:=hy.1;omega
 obtain⟨-,-,da,dc,rfl,hdc⟩:=hd
 obtain⟨-,-,ya,yc,rfl,hyc⟩:=hy
 have HDC:=Lib.hid hdc
 have HYC:=Lib.hid hyc
 clear hdc hyc
 go_enter Tryz.func15,Tryz.ntmps15
 go_upto_block 0 with fail
 go_cut [4]from 10 (fun v4 wx=>wx=((((w.alloc (.cells #[.int .i64 R.age,.int .i64 R.year,.int .i64 R.children,.int .i64 R.base,.int .i64 R.den,.slice da R.days.length dc,.slice ya R.years.length yc] 36)).alloc (.cells #[.int .i64 0,.int .i64 0,.int .i64 0,.int .i64 0,.int .i64 0,.int .i64 0,.int .i64 0,.int .i64 0,.int .i64 0,.int .i64 0,.int .i64 0,.int .i64 0,.slice none 0 0] 38)).alloc (.cells #[.int .i64 (R.d 0),.int .i64 (R.d 1),.int .i64 (R.d 2),.int .i64 (R.d 3),.int .i64 (R.d 4),.int .i64 (R.d 5),.int .i64 (R.d 6)] 100))))
 case first=>
  go_wp2_with fail
  go_loopw [4] (fun v4 wr=>∃(k:Nat) (a0 a1 a2 a3 a4 a5 a6:Int),k≤7∧v4= .int .i64 k∧Hid (∀i,i<k→[a0,a1,a2,a3,a4,a5,a6].getD i 0=R.d i)∧Hid (∀i,k≤i→i<7→[a0,a1,a2,a3,a4,a5,a6].getD i 0=0)∧wr=((w.alloc ((.cells #[.int .i64 R.age,.int .i64 R.year,.int .i64 R.children,.int .i64 R.base,.int .i64 R.den,.slice da R.days.length dc,.slice ya R.years.length yc] 36))).alloc ((.cells #[.int .i64 0,.int .i64 0,.int .i64 0,.int .i64 0,.int .i64 0,.int .i64 0,.int .i64 0,.int .i64 0,.int .i64 0,.int .i64 0,.int .i64 0,.int .i64 0,.slice none 0 0] 38))).alloc ((.cells #[.int .i64 a0,.int .i64 a1,.int .i64 a2,.int .i64 a3,.int .i64 a4,.int .i64 a5,.int .i64 a6] 100))) (fun v4 _=>7-(intOf v4).toNat)
  case atStart=>exact⟨0,0,0,0,0,0,0,0,by omega,rfl,Lib.hid (fun i hi=>by omega),Lib.hid (fun i h1 h2=>by
   rcases(show i=0∨i=1∨i=2∨i=3∨i=4∨i=5∨i=6 by omega)with rfl|rfl|rfl|rfl|rfl|rfl|rfl<;>rfl),rfl⟩
  case round=>
   obtain⟨k,a0,a1,a2,a3,a4,a5,a6,hk,rfl,hdone,hzero,rfl⟩:=hrel
   by_cases hlt:k<7∧k<R.days.length
   ·rcases HDC.out with h0|⟨b,off,rfl,hbw,hx⟩
    ·omega
    have d1:(k:Int)<(R.days.length:Int):=by omega
    have d2:0<R.days.length:=by omega
    rcases(show k=0∨k=1∨k=2∨k=3∨k=4∨k=5∨k=6 by omega)with rfl|rfl|rfl|rfl|rfl|rfl|rfl
    ·have x0:=hx 0 (by omega)
     (try rw [Nat.add_zero]at x0)
     have HE:Hid (R.d 0=pick (R.days.getD 0 0) 20000):=Lib.hid (by unfold VwR.d;rw [if_pos (by omega)])
     generalize R.days.getD 0 0=z at *
     clear hx
     go_wp2_with (go_at_call 10;refine(Pick_any _ _ _ (by omega)).mono ?_;rintro e' w' ⟨rfl,rfl⟩)
     go_roundw
     case rel=>
      refine⟨0+1,pick z 20000,a1,a2,a3,a4,a5,a6,by omega,rfl,Lib.hid (fun i hi=>?_),Lib.hid (fun i hi h7=>?_),by first|rfl|trivial⟩
      ·rcases(show i=0∨i=1∨i=2∨i=3∨i=4∨i=5∨i=6 by omega)with rfl|rfl|rfl|rfl|rfl|rfl|rfl
       all_goals first
        |omega
        |exact HE.out.symm
        |exact hdone.out 0 (by omega)
        |exact hdone.out 1 (by omega)
        |exact hdone.out 2 (by omega)
        |exact hdone.out 3 (by omega)
        |exact hdone.out 4 (by omega)
        |exact hdone.out 5 (by omega)
        |exact hdone.out 6 (by omega)
      ·rcases(show i=0∨i=1∨i=2∨i=3∨i=4∨i=5∨i=6 by omega)with rfl|rfl|rfl|rfl|rfl|rfl|rfl
       all_goals first
        |omega
        |exact hzero.out 0 (by omega) (by omega)
        |exact hzero.out 1 (by omega) (by omega)
        |exact hzero.out 2 (by omega) (by omega)
        |exact hzero.out 3 (by omega) (by omega)
        |exact hzero.out 4 (by omega) (by omega)
        |exact hzero.out 5 (by omega) (by omega)
        |exact hzero.out 6 (by omega) (by omega)
     case measure=>simp [intOf]
    ·have x0:=hx 1 (by omega)
     (try rw [Nat.add_zero]at x0)
     have HE:Hid (R.d 1=pick (R.days.getD 1 0) 20000):=Lib.hid (by unfold VwR.d;rw [if_pos (by omega)])
     generalize R.days.getD 1 0=z at *
     clear hx
     go_wp2_with (go_at_call 10;refine(Pick_any _ _ _ (by omega)).mono ?_;rintro e' w' ⟨rfl,rfl⟩)
     go_roundw
     case rel=>
      refine⟨1+1,a0,pick z 20000,a2,a3,a4,a5,a6,by omega,rfl,Lib.hid (fun i hi=>?_),Lib.hid (fun i hi h7=>?_),by first|rfl|trivial⟩
      ·rcases(show i=0∨i=1∨i=2∨i=3∨i=4∨i=5∨i=6 by omega)with rfl|rfl|rfl|rfl|rfl|rfl|rfl
       all_goals first
        |omega
        |exact HE.out.symm
        |exact hdone.out 0 (by omega)
        |exact hdone.out 1 (by omega)
        |exact hdone.out 2 (by omega)
        |exact hdone.out 3 (by omega)
        |exact hdone.out 4 (by omega)
        |exact hdone.out 5 (by omega)
        |exact hdone.out 6 (by omega)
      ·rcases(show i=0∨i=1∨i=2∨i=3∨i=4∨i=5∨i=6 by omega)with rfl|rfl|rfl|rfl|rfl|rfl|rfl
       all_goals first
        |omega
        |exact hzero.out 0 (by omega) (by omega)
        |exact hzero.out 1 (by omega) (by omega)
        |exact hzero.out 2 (by omega) (by omega)
        |exact hzero.out 3 (by omega) (by omega)
        |exact hzero.out 4 (by omega) (by omega)
        |exact hzero.out 5 (by omega) (by omega)
        |exact hzero.out 6 (by omega) (by omega)
     case measure=>simp [intOf]
    ·have x0:=hx 2 (by omega)
     (try rw [Nat.add_zero]at x0)
     have HE:Hid (R.d 2=pick (R.days.getD 2 0) 20000):=Lib.hid (by unfold VwR.d;rw [if_pos (by omega)])
     generalize R.days.getD 2 0=z at *
     clear hx
     go_wp2_with (go_at_call 10;refine(Pick_any _ _ _ (by omega)).mono ?_;rintro e' w' ⟨rfl,rfl⟩)
     go_roundw
     case rel=>
      refine⟨2+1,a0,a1,pick z 20000,a3,a4,a5,a6,by omega,rfl,Lib.hid (fun i hi=>?_),Lib.hid (fun i hi h7=>?_),by first|rfl|trivial⟩
      ·rcases(show i=0∨i=1∨i=2∨i=3∨i=4∨i=5∨i=6 by omega)with rfl|rfl|rfl|rfl|rfl|rfl|rfl
       all_goals first
        |omega
        |exact HE.out.symm
        |exact hdone.out 0 (by omega)
        |exact hdone.out 1 (by omega)
        |exact hdone.out 2 (by omega)
        |exact hdone.out 3 (by omega)
        |exact hdone.out 4 (by omega)
        |exact hdone.out 5 (by omega)
        |exact hdone.out 6 (by omega)
      ·rcases(show i=0∨i=1∨i=2∨i=3∨i=4∨i=5∨i=6 by omega)with rfl|rfl|rfl|rfl|rfl|rfl|rfl
       all_goals first
        |omega
        |exact hzero.out 0 (by omega) (by omega)
        |exact hzero.out 1 (by omega) (by omega)
        |exact hzero.out 2 (by omega) (by omega)
        |exact hzero.out 3 (by omega) (by omega)
        |exact hzero.out 4 (by omega) (by omega)
        |exact hzero.out 5 (by omega) (by omega)
        |exact hzero.out 6 (by omega) (by omega)
     case measure=>simp [intOf]
    ·have x0:=hx 3 (by omega)
     (try rw [Nat.add_zero]at x0)
     have HE:Hid (R.d 3=pick (R.days.getD 3 0) 20000):=Lib.hid (by unfold VwR.d;rw [if_pos (by omega)])
     generalize R.days.getD 3 0=z at *
     clear hx
     go_wp2_with (go_at_call 10;refine(Pick_any _ _ _ (by omega)).mono ?_;rintro e' w' ⟨rfl,rfl⟩)
     go_roundw
     case rel=>
      refine⟨3+1,a0,a1,a2,pick z 20000,a4,a5,a6,by omega,rfl,Lib.hid (fun i hi=>?_),Lib.hid (fun i hi h7=>?_),by first|rfl|trivial⟩
      ·rcases(show i=0∨i=1∨i=2∨i=3∨i=4∨i=5∨i=6 by omega)with rfl|rfl|rfl|rfl|rfl|rfl|rfl
       all_goals first
        |omega
        |exact HE.out.symm
        |exact hdone.out 0 (by omega)
        |exact hdone.out 1 (by omega)
        |exact hdone.out 2 (by omega)
        |exact hdone.out 3 (by omega)
        |exact hdone.out 4 (by omega)
        |exact hdone.out 5 (by omega)
        |exact hdone.out 6 (by omega)
      ·rcases(show i=0∨i=1∨i=2∨i=3∨i=4∨i=5∨i=6 by omega)with rfl|rfl|rfl|rfl|rfl|rfl|rfl
       all_goals first
        |omega
        |exact hzero.out 0 (by omega) (by omega)
        |exact hzero.out 1 (by omega) (by omega)
        |exact hzero.out 2 (by omega) (by omega)
        |exact hzero.out 3 (by omega) (by omega)
        |exact hzero.out 4 (by omega) (by omega)
        |exact hzero.out 5 (by omega) (by omega)
        |exact hzero.out 6 (by omega) (by omega)
     case measure=>simp [intOf]
    ·have x0:=hx 4 (by omega)
     (try rw [Nat.add_zero]at x0)
     have HE:Hid (R.d 4=pick (R.days.getD 4 0) 20000):=Lib.hid (by unfold VwR.d;rw [if_pos (by omega)])
     generalize R.days.getD 4 0=z at *
     clear hx
     go_wp2_with (go_at_call 10;refine(Pick_any _ _ _ (by omega)).mono ?_;rintro e' w' ⟨rfl,rfl⟩)
     go_roundw
     case rel=>
      refine⟨4+1,a0,a1,a2,a3,pick z 20000,a5,a6,by omega,rfl,Lib.hid (fun i hi=>?_),Lib.hid (fun i hi h7=>?_),by first|rfl|trivial⟩
      ·rcases(show i=0∨i=1∨i=2∨i=3∨i=4∨i=5∨i=6 by omega)with rfl|rfl|rfl|rfl|rfl|rfl|rfl
       all_goals first
        |omega
        |exact HE.out.symm
        |exact hdone.out 0 (by omega)
        |exact hdone.out 1 (by omega)
        |exact hdone.out 2 (by omega)
        |exact hdone.out 3 (by omega)
        |exact hdone.out 4 (by omega)
        |exact hdone.out 5 (by omega)
        |exact hdone.out 6 (by omega)
      ·rcases(show i=0∨i=1∨i=2∨i=3∨i=4∨i=5∨i=6 by omega)with rfl|rfl|rfl|rfl|rfl|rfl|rfl
       all_goals first
        |omega
        |exact hzero.out 0 (by omega) (by omega)
        |exact hzero.out 1 (by omega) (by omega)
        |exact hzero.out 2 (by omega) (by omega)
        |exact hzero.out 3 (by omega) (by omega)
        |exact hzero.out 4 (by omega) (by omega)
        |exact hzero.out 5 (by omega) (by omega)
        |exact hzero.out 6 (by omega) (by omega)
     case measure=>simp [intOf]
    ·have x0:=hx 5 (by omega)
     (try rw [Nat.add_zero]at x0)
     have HE:Hid (R.d 5=pick (R.days.getD 5 0) 20000):=Lib.hid (by unfold VwR.d;rw [if_pos (by omega)])
     generalize R.days.getD 5 0=z at *
     clear hx
     go_wp2_with (go_at_call 10;refine(Pick_any _ _ _ (by omega)).mono ?_;rintro e' w' ⟨rfl,rfl⟩)
     go_roundw
     case rel=>
      refine⟨5+1,a0,a1,a2,a3,a4,pick z 20000,a6,by omega,rfl,Lib.hid (fun i hi=>?_),Lib.hid (fun i hi h7=>?_),by first|rfl|trivial⟩
      ·rcases(show i=0∨i=1∨i=2∨i=3∨i=4∨i=5∨i=6 by omega)with rfl|rfl|rfl|rfl|rfl|rfl|rfl
       all_goals first
        |omega
        |exact HE.out.symm
        |exact hdone.out 0 (by omega)
        |exact hdone.out 1 (by omega)
        |exact hdone.out 2 (by omega)
        |exact hdone.out 3 (by omega)
        |exact hdone.out 4 (by omega)
        |exact hdone.out 5 (by omega)
        |exact hdone.out 6 (by omega)
      ·rcases(show i=0∨i=1∨i=2∨i=3∨i=4∨i=5∨i=6 by omega)with rfl|rfl|rfl|rfl|rfl|rfl|rfl
       all_goals first
        |omega
        |exact hzero.out 0 (by omega) (by omega)
        |exact hzero.out 1 (by omega) (by omega)
        |exact hzero.out 2 (by omega) (by omega)
        |exact hzero.out 3 (by omega) (by omega)
        |exact hzero.out 4 (by omega) (by omega)
        |exact hzero.out 5 (by omega) (by omega)
        |exact hzero.out 6 (by omega) (by omega)
     case measure=>simp [intOf]
    ·have x0:=hx 6 (by omega)
     (try rw [Nat.add_zero]at x0)
     have HE:Hid (R.d 6=pick (R.days.getD 6 0) 20000):=Lib.hid (by unfold VwR.d;rw [if_pos (by omega)])
     generalize R.days.getD 6 0=z at *
     clear hx
     go_wp2_with (go_at_call 10;refine(Pick_any _ _ _ (by omega)).mono ?_;rintro e' w' ⟨rfl,rfl⟩)
     go_roundw
     case rel=>
      refine⟨6+1,a0,a1,a2,a3,a4,a5,pick z 20000,by omega,rfl,Lib.hid (fun i hi=>?_),Lib.hid (fun i hi h7=>?_),by first|rfl|trivial⟩
      ·rcases(show i=0∨i=1∨i=2∨i=3∨i=4∨i=5∨i=6 by omega)with rfl|rfl|rfl|rfl|rfl|rfl|rfl
       all_goals first
        |omega
        |exact HE.out.symm
        |exact hdone.out 0 (by omega)
        |exact hdone.out 1 (by omega)
        |exact hdone.out 2 (by omega)
        |exact hdone.out 3 (by omega)
        |exact hdone.out 4 (by omega)
        |exact hdone.out 5 (by omega)
        |exact hdone.out 6 (by omega)
      ·rcases(show i=0∨i=1∨i=2∨i=3∨i=4∨i=5∨i=6 by omega)with rfl|rfl|rfl|rfl|rfl|rfl|rfl
       all_goals first
        |omega
        |exact hzero.out 0 (by omega) (by omega)
        |exact hzero.out 1 (by omega) (by omega)
        |exact hzero.out 2 (by omega) (by omega)
        |exact hzero.out 3 (by omega) (by omega)
        |exact hzero.out 4 (by omega) (by omega)
        |exact hzero.out 5 (by omega) (by omega)
        |exact hzero.out 6 (by omega) (by omega)
     case measure=>simp [intOf]
   ·have hall:∀i,i<7→[a0,a1,a2,a3,a4,a5,a6].getD i 0=R.d i:=fun i h7=>by
     by_cases hi':i<k
     ·exact hdone.out i hi'
     ·rw [hzero.out i (by omega) h7]
      unfold VwR.d
      rw [if_neg (by omega)]
    obtain rfl:a0=R.d 0:=hall 0 (by omega)
    obtain rfl:a1=R.d 1:=hall 1 (by omega)
    obtain rfl:a2=R.d 2:=hall 2 (by omega)
    obtain rfl:a3=R.d 3:=hall 3 (by omega)
    obtain rfl:a4=R.d 4:=hall 4 (by omega)
    obtain rfl:a5=R.d 5:=hall 5 (by omega)
    obtain rfl:a6=R.d 6:=hall 6 (by omega)
    clear hall hdone hzero
    by_cases h7:k<7
    ·have d7:(k:Int)<7:=by omega
     have d1:¬(k:Int)<(R.days.length:Int):=by omega
     clear hlt
     go_wp2_with fail
     go_meet
     exact rfl
    ·obtain rfl:k=7:=by omega
     clear hlt
     go_wp2_with fail
     go_meet
     exact rfl
 subst hcut
 go_upto_region 6 with fail
 go_cut [5,6]from 29 (fun v5 v6 wx=>∃B5:Nat,v5= .pointer (some ⟨B5,0,none⟩)∧Below (w.heap.size+1+1+1) ((((w.alloc (.cells #[.int .i64 R.age,.int .i64 R.year,.int .i64 R.children,.int .i64 R.base,.int .i64 R.den,.slice da R.days.length dc,.slice ya R.years.length yc] 36)).alloc (.cells #[.int .i64 0,.int .i64 0,.int .i64 0,.int .i64 0,.int .i64 0,.int .i64 0,.int .i64 0,.int .i64 0,.int .i64 0,.int .i64 0,.int .i64 0,.int .i64 0,.slice none 0 0] 38)).alloc (.cells #[.int .i64 (R.d 0),.int .i64 (R.d 1),.int .i64 (R.d 2),.int .i64 (R.d 3),.int .i64 (R.d 4),.int .i64 (R.d 5),.int .i64 (R.d 6)] 100))) wx∧w.heap.size+1+1+1≤B5∧B5<wx.heap.size∧wx.cell? ⟨B5,0,none⟩=some (.int .i64 (mkN (pick R.base 1000000) (pick R.den 12+1)))∧wx.cell? ⟨B5,1,none⟩=some (.int .i64 (mkD (pick R.base 1000000) (pick R.den 12+1))))
 case first=>
  refine wp_abs (fun W hW=>?_)
  have b0:W.cell? ⟨w.heap.size,3,none⟩=some (.int .i64 R.base):=by rw [←hW];simp [go_sem]
  have b1:W.cell? ⟨w.heap.size,4,none⟩=some (.int .i64 R.den):=by rw [←hW];simp [go_sem]
  have hsz:W.heap.size=w.heap.size+1+1+1:=by rw [←hW];simp
  have z0:w.heap.size<W.heap.size:=by omega
  have HW:=Lib.hid hW
  have HSZ:=Lib.hid hsz
  clear hW hsz
  refine TS.begin [13] (World.Grows _) (by kernel_rfl) (by kernel_rfl) grows_drew0 (fun hS=>?_)
  refine TS.wkB 0 hS ?_
  refine TS.wkB 1 hS ?_
  refine TS.wkB 3 hS ?_
  refine TS.wkB 4 hS ?_
  refine TS.takeC (i:=2) (v:=(.int .i64 (pick R.base 1000000))) (fn:=10) (args:=#[.int .i64 R.base,.int .i64 1000000]) rfl (by kernel_rfl) (by kernel_rfl) (by kernel_rfl) (by decide) (fun _ _ _ h=>h) rfl hS ?_ ?_ ?_
  focus
   rintro wS ⟨gbS,gdS,rfl⟩
   go_simp
  focus exact fun wS _=>(Pick_any _ _ wS (by omega))
  (try simp only [nS])
  refine TS.takeC (i:=5) (v:=(.int .i64 (pick R.den 12))) (fn:=10) (args:=#[.int .i64 R.den,.int .i64 12]) rfl (by kernel_rfl) (by kernel_rfl) (by kernel_rfl) (by decide) (fun _ _ _ h=>h) rfl hS ?_ ?_ ?_
  focus
   rintro wS ⟨gbS,gdS,rfl⟩
   go_simp
  focus exact fun wS _=>(Pick_any _ _ wS (by omega))
  (try simp only [nS])
  refine TS.wkB 6 hS ?_
  (try simp only [w1])
  clear b0 b1 z0 hi hz0 hz1 hz2 hpd hpy hlen1 hlen2
  refine TS.two (i:=7) (k:=11) (by decide+kernel) rfl rfl (fun K1 hK1=>?_) (fun K1 hK1=>?_)
  focus
   have HK1:=Lib.hid hK1
   clear hK1 hS
   dsimp only [List.getElem_toArray,List.getElem_cons_succ,List.getElem_cons_zero]
   go_simp
   go_at_call 39
   refine(HMK.out _).mono ?_
   rintro e' wA ⟨rfl,bA,dA,rfl⟩
   refine TS.go HK1.out (by first|exact⟨_,_,World.grow_grow _ _ _ _ _⟩|exact⟨_,_,rfl⟩|exact .of_below belB) (fun hS=>?_)
   clear HK1 K1
   (try simp only [nS])
   refine TS.wkB 8 hS ?_
   refine TS.wkB 9 hS ?_
   refine TS.wkB 10 hS ?_
   refine TS.one (i:=11) (by decide+kernel) rfl (fun K1 hK1=>?_)
   have HK1:=Lib.hid hK1
   clear hK1 hS
   dsimp only [List.getElem_toArray,List.getElem_cons_succ,List.getElem_cons_zero]
   go_simp
   refine TS.go HK1.out (by first|exact grows_drew|exact .of_below belB) (fun hS=>?_)
   clear HK1 K1
   (try simp only [nS])
  rotate_left
  focus
   have HK1:=Lib.hid hK1
   clear hK1 hS
   dsimp only [List.getElem_toArray,List.getElem_cons_succ,List.getElem_cons_zero]
   go_simp
   refine TS.go HK1.out (by first|exact grows_drew|exact .of_below belB) (fun hS=>?_)
   clear HK1 K1
   (try simp only [nS])
   refine TS.one (i:=7) (by decide+kernel) rfl (fun K1 hK1=>?_)
   have HK1:=Lib.hid hK1
   clear hK1 hS
   dsimp only [List.getElem_toArray,List.getElem_cons_succ,List.getElem_cons_zero]
   go_simp
   go_at_call 39
   refine(HMK.out _).mono ?_
   rintro e' wA ⟨rfl,bA,dA,rfl⟩
   refine TS.go HK1.out (by first|exact⟨_,_,World.grow_grow _ _ _ _ _⟩|exact⟨_,_,rfl⟩|exact .of_below belB) (fun hS=>?_)
   clear HK1 K1
   (try simp only [nS])
   refine TS.wkB 8 hS ?_
   refine TS.wkB 9 hS ?_
   refine TS.wkB 10 hS ?_
  rotate_left
  all_goals
   refine TS.one (i:=12) (by decide+kernel) rfl (fun K1 hK1=>?_)
   have HK1:=Lib.hid hK1
   clear hK1 hS
   dsimp only [List.getElem_toArray,List.getElem_cons_succ,List.getElem_cons_zero]
   go_simp
   refine TS.go HK1.out (by first|exact grows_drew|exact .of_below belB) (fun hS=>?_)
   clear HK1 K1
   (try simp only [nS])
   refine TS.weB 13 ?_
   clear hS
   have hW:=HW.out
   subst hW
   go_wp2_with fail
   go_meet
   exact⟨_,rfl,by(exact belB),by(simp<;>omega),by(simp<;>omega),by simp [go_sem],by simp [go_sem]⟩
 obtain⟨B5,rfl,hB5,h35,hlt5,x50,x51⟩:=hcut
 have hsz:=hB5.size
 simp only [World.size_alloc]at hsz
 have q0:wc.cell? ⟨w.heap.size,0,none⟩=some (.int .i64 R.age):=(hB5.cell (p:=⟨w.heap.size,0,none⟩) (by show w.heap.size<_;omega)).trans (by simp [go_sem])
 have q1:wc.cell? ⟨w.heap.size,1,none⟩=some (.int .i64 R.year):=(hB5.cell (p:=⟨w.heap.size,1,none⟩) (by show w.heap.size<_;omega)).trans (by simp [go_sem])
 have q2:wc.cell? ⟨w.heap.size,2,none⟩=some (.int .i64 R.children):=(hB5.cell (p:=⟨w.heap.size,2,none⟩) (by show w.heap.size<_;omega)).trans (by simp [go_sem])
 have q6:wc.cell? ⟨w.heap.size,6,none⟩=some (.slice ya R.years.length yc):=(hB5.cell (p:=⟨w.heap.size,6,none⟩) (by show w.heap.size<_;omega)).trans (by simp [go_sem])
 have r0:wc.cell? ⟨w.heap.size+1+1,0,none⟩=some (.int .i64 (R.d 0)):=(hB5.cell (p:=⟨w.heap.size+1+1,0,none⟩) (by show w.heap.size+1+1<_;omega)).trans (by simp [go_sem])
 have r1:wc.cell? ⟨w.heap.size+1+1,1,none⟩=some (.int .i64 (R.d 1)):=(hB5.cell (p:=⟨w.heap.size+1+1,1,none⟩) (by show w.heap.size+1+1<_;omega)).trans (by simp [go_sem])
 have r2:wc.cell? ⟨w.heap.size+1+1,2,none⟩=some (.int .i64 (R.d 2)):=(hB5.cell (p:=⟨w.heap.size+1+1,2,none⟩) (by show w.heap.size+1+1<_;omega)).trans (by simp [go_sem])
 have r3:wc.cell? ⟨w.heap.size+1+1,3,none⟩=some (.int .i64 (R.d 3)):=(hB5.cell (p:=⟨w.heap.size+1+1,3,none⟩) (by show w.heap.size+1+1<_;omega)).trans (by simp [go_sem])
 have r4:wc.cell? ⟨w.heap.size+1+1,4,none⟩=some (.int .i64 (R.d 4)):=(hB5.cell (p:=⟨w.heap.size+1+1,4,none⟩) (by show w.heap.size+1+1<_;omega)).trans (by simp [go_sem])
 have r5:wc.cell? ⟨w.heap.size+1+1,5,none⟩=some (.int .i64 (R.d 5)):=(hB5.cell (p:=⟨w.heap.size+1+1,5,none⟩) (by show w.heap.size+1+1<_;omega)).trans (by simp [go_sem])
 have r6:wc.cell? ⟨w.heap.size+1+1,6,none⟩=some (.int .i64 (R.d 6)):=(hB5.cell (p:=⟨w.heap.size+1+1,6,none⟩) (by show w.heap.size+1+1<_;omega)).trans (by simp [go_sem])
 have z0:w.heap.size<wc.heap.size:=by omega
 have z2:w.heap.size+1+1<wc.heap.size:=by omega
 have HB5:=Lib.hid hB5
 have HSZ:=Lib.hid hsz
 clear hB5 hsz
 go_upto_region 7 with fail
 refine TS.begin [27] (World.Grows _) (by kernel_rfl) (by kernel_rfl) grows_drew0 (fun hS=>?_)
 refine TS.wkB 0 hS ?_
 refine TS.wkB 1 hS ?_
 refine TS.wkB 3 hS ?_
 refine TS.wkB 4 hS ?_
 refine TS.wkB 7 hS ?_
 refine TS.wkB 8 hS ?_
 refine TS.wkB 10 hS ?_
 refine TS.wkB 11 hS ?_
 refine TS.wkB 12 hS ?_
 refine TS.wkB 13 hS ?_
 refine TS.wkB 14 hS ?_
 refine TS.wkB 15 hS ?_
 refine TS.wkB 16 hS ?_
 refine TS.wkB 17 hS ?_
 refine TS.wkB 18 hS ?_
 refine TS.wkB 19 hS ?_
 refine TS.wkB 20 hS ?_
 refine TS.wkB 21 hS ?_
 refine TS.wkB 22 hS ?_
 refine TS.wkB 23 hS ?_
 refine TS.wkB 24 hS ?_
 refine TS.takeC (i:=2) (v:=(.int .i64 (pick R.age 110))) (fn:=10) (args:=#[.int .i64 R.age,.int .i64 110]) rfl (by kernel_rfl) (by kernel_rfl) (by kernel_rfl) (by decide) (fun _ _ _ h=>h) rfl hS ?_ ?_ ?_
 focus
  rintro wS ⟨gbS,gdS,rfl⟩
  go_simp
 focus exact fun wS _=>(Pick_any _ _ wS (by omega))
 (try simp only [nS])
 refine TS.takeC (i:=5) (v:=(.int .i64 (pick R.year 200))) (fn:=10) (args:=#[.int .i64 R.year,.int .i64 200]) rfl (by kernel_rfl) (by kernel_rfl) (by kernel_rfl) (by decide) (fun _ _ _ h=>h) rfl hS ?_ ?_ ?_
 focus
  rintro wS ⟨gbS,gdS,rfl⟩
  go_simp
 focus exact fun wS _=>(Pick_any _ _ wS (by omega))
 (try simp only [nS])
 refine TS.wkB 6 hS ?_
 refine TS.takeC (i:=9) (v:=(.int .i64 (pick R.children 8))) (fn:=10) (args:=#[.int .i64 R.children,.int .i64 8]) rfl (by kernel_rfl) (by kernel_rfl) (by kernel_rfl) (by decide) (fun _ _ _ h=>h) rfl hS ?_ ?_ ?_
 focus
  rintro wS ⟨gbS,gdS,rfl⟩
  go_simp
 focus exact fun wS _=>(Pick_any _ _ wS (by omega))
 (try simp only [nS])
 refine TS.wkB 25 hS ?_
 (try simp only [w2])
 refine TS.one (i:=26) (by decide+kernel) rfl (fun K1 hK1=>?_)
 have HK1:=Lib.hid hK1
 clear hK1 hS
 dsimp only [List.getElem_toArray,List.getElem_cons_succ,List.getElem_cons_zero]
 go_simp
 refine TS.go HK1.out (by first|exact grows_drew|exact .of_below belB) (fun hS=>?_)
 clear HK1 K1
 (try simp only [nS])
 refine TS.weB 27 ?_
 clear hS
 go_wp2_with fail
 go_loopw [8] (fun v8 wr=>∃(k:Nat) (vb:Value),k≤R.years.length∧k≤20∧v8= .int .i64 k∧Below (wc.heap.size+1) (wc.alloc ((.cells #[.int .i64 (pick R.age 110),.int .i64 (1900+pick R.year 200),.int .i64 (pick R.children 8),.int .i64 (R.d 0),.int .i64 (R.d 1),.int .i64 (R.d 2),.int .i64 (R.d 3),.int .i64 (R.d 4),.int .i64 (R.d 5),.int .i64 (R.d 6),.int .i64 (mkN (pick R.base 1000000) (pick R.den 12+1)),.int .i64 (mkD (pick R.base 1000000) (pick R.den 12+1)),vb] 38))) wr∧wr.ownsRow (wc.heap.size+1) 3 1 vb k ((mvV R).take k)) (fun v8 _=>20-(intOf v8).toNat)
 case atStart=>exact⟨0,_,by omega,by omega,rfl,by first|exact .refl _ _|exact⟨rfl,rfl,rfl,Nat.le_refl _,fun _ _=>rfl⟩,World.ownsRow_nil _ _ _ _⟩
 case round=>
  obtain⟨k,vb,hk,hk20,rfl,hB,hown⟩:=hrel
  have p6:wr.cell? ⟨w.heap.size,6,none⟩=some (.slice ya R.years.length yc):=(hB.cell (p:=⟨w.heap.size,6,none⟩) (by show w.heap.size<wc.heap.size+1;omega)).trans ((World.cell?_alloc_lt wc _ ⟨w.heap.size,6,none⟩ z0).trans q6)
  have pv:wr.cell? ⟨wc.heap.size,12,none⟩=some vb:=(hB.cell (p:=⟨wc.heap.size,12,none⟩) (by show wc.heap.size<wc.heap.size+1;omega)).trans (by simp [go_sem])
  have fv:wr.frozen? ⟨wc.heap.size,12,none⟩=false:=(hB.frozen (p:=⟨wc.heap.size,12,none⟩) (by show wc.heap.size<wc.heap.size+1;omega)).trans (by simp [go_sem])
  have hszr:wc.heap.size+1≤wr.heap.size:=by have:=hB.size;simpa using this
  have HB:=Lib.hid hB
  have HO:=Lib.hid hown
  have HPV:=Lib.hid pv
  have HFV:=Lib.hid fv
  by_cases hlt:k<R.years.length∧k<20
  ·rcases HYC.out with h0|⟨b,off,rfl,hbw,hx⟩
   ·omega
   have x0:=hx k hlt.1
   have hbs:b<wc.heap.size:=by omega
   have x1:wr.cell? ⟨b,off+k,none⟩=some (.int .i64 (R.years.getD k 0)):=(hB.cell (p:=⟨b,off+k,none⟩) (by show b<wc.heap.size+1;omega)).trans ((World.cell?_alloc_lt wc _ ⟨b,off+k,none⟩ hbs).trans ((HB5.out.cell (p:=⟨b,off+k,none⟩) (by show b<w.heap.size+1+1+1;omega)).trans (((World.cell?_alloc_lt _ _ ⟨b,off+k,none⟩ (by simp;omega)).trans ((World.cell?_alloc_lt _ _ ⟨b,off+k,none⟩ (by simp;omega)).trans (World.cell?_alloc_lt _ _ ⟨b,off+k,none⟩ hbw))).trans x0)))
   have d0:0<R.years.length:=by omega
   have d1:(k:Int)<(R.years.length:Int):=by omega
   have d2:(k:Int)<20:=by omega
   have HNX:=Lib.hid (mv_take R k hlt.1 hlt.2)
   have HKL:=Lib.hid hlt
   clear hx x0 hlt hB hown q0 q1 q2 q6 r0 r1 r2 r3 r4 r5 r6 x50 x51
   generalize R.years.getD k 0=z at *
   go_wp2_with fail
   refine TG.begin 11 (fun wS=>wS.cell? ⟨w.heap.size,6,none⟩=some (.slice (some ⟨b,off,none⟩) R.years.length yc)∧wS.cell? ⟨wc.heap.size,12,none⟩=some vb∧wS.cell? ⟨b,off+k,none⟩=some (.int .i64 z)) (by kernel_rfl) (by kernel_rfl) ⟨p6,pv,x1⟩ (fun hS=>?_)
   refine TG.takeV (i:=0) (v:=?_) rfl (by kernel_rfl) (by kernel_rfl) (by kernel_rfl) (by decide) (fun _ _ _ h=>h) rfl hS ?_ ?_
   rotate_left
   focus
    rintro wS ⟨s1,s2,s3⟩
    go_simp
    rfl
   (try simp only [nS])
   refine TG.takeV (i:=1) (v:=?_) rfl (by kernel_rfl) (by kernel_rfl) (by kernel_rfl) (by decide) (fun _ _ _ h=>h) rfl hS ?_ ?_
   rotate_left
   focus
    rintro wS ⟨s1,s2,s3⟩
    go_simp
    rfl
   (try simp only [nS])
   refine TG.takeV (i:=2) (v:=?_) rfl (by kernel_rfl) (by kernel_rfl) (by kernel_rfl) (by decide) (fun _ _ _ h=>h) rfl hS ?_ ?_
   rotate_left
   focus
    rintro wS ⟨s1,s2,s3⟩
    go_simp
    rfl
   (try simp only [nS])
   refine TG.takeV (i:=3) (v:=?_) rfl (by kernel_rfl) (by kernel_rfl) (by kernel_rfl) (by decide) (fun _ _ _ h=>h) rfl hS ?_ ?_
   rotate_left
   focus
    rintro wS ⟨s1,s2,s3⟩
    go_simp
    rfl
   (try simp only [nS])
   refine TG.takeV (i:=4) (v:=?_) rfl (by kernel_rfl) (by kernel_rfl) (by kernel_rfl) (by decide) (fun _ _ _ h=>h) rfl hS ?_ ?_
   rotate_left
   focus
    rintro wS ⟨s1,s2,s3⟩
    go_simp
    rfl
   (try simp only [nS])
   refine TG.takeV (i:=5) (v:=?_) rfl (by kernel_rfl) (by kernel_rfl) (by kernel_rfl) (by decide) (fun _ _ _ h=>h) rfl hS ?_ ?_
   rotate_left
   focus
    rintro wS ⟨s1,s2,s3⟩
    go_simp
    rfl
   (try simp only [nS])
   refine TG.takeV (i:=6) (v:=?_) rfl (by kernel_rfl) (by kernel_rfl) (by kernel_rfl) (by decide) (fun _ _ _ h=>h) rfl hS ?_ ?_
   rotate_left
   focus
    rintro wS ⟨s1,s2,s3⟩
    go_simp
    rfl
   (try simp only [nS])
   refine TG.takeC (i:=7) (v:=.int .i64 (pick z 5000000)) (fn:=10) (args:=#[.int .i64 z,.int .i64 5000000]) rfl (by kernel_rfl) (by kernel_rfl) (by kernel_rfl) (by decide) (fun _ _ _ h=>h) rfl hS ?_ ?_ ?_
   focus
    rintro wS ⟨s1,s2,s3⟩
    go_simp
   focus exact fun wS _=>Pick_any _ _ wS (by omega)
   (try simp only [nS])
   refine TG.one (i:=8) (by decide+kernel) rfl (fun K1 hK1=>?_)
   go_simp
   refine TG.go hK1 (by exact⟨(World.cell?_alloc_lt wr _ ⟨w.heap.size,6,none⟩ (by show w.heap.size<wr.heap.size;omega)).trans p6,(World.cell?_alloc_lt wr _ ⟨wc.heap.size,12,none⟩ (by show wc.heap.size<wr.heap.size;omega)).trans HPV.out,(World.cell?_alloc_lt wr _ ⟨b,off+k,none⟩ (by show b<wr.heap.size;omega)).trans x1⟩) (fun hS=>?_)
   clear hK1 K1
   (try simp only [nS])
   refine TG.one (i:=9) (by decide+kernel) rfl (fun K1 hK1=>?_)
   refine step_append_ownY rfl _ _ 22 rfl (wc.heap.size+1) 3 i0 (.int .i64 0) 1 8 Tryz.underlying22 hi hz0 hz1 hz2 rfl (by decide) vb k _ rfl (HO.out.alloc _) ⟨wr.heap.size,0,none⟩ 1 1 [.int .i64 (pick z 5000000)] rfl rfl (news_cells wr [.int .i64 (pick z 5000000)] _ _ rfl) (by intro u hu;simp at hu;subst hu;rfl) (by unfold maxLen;omega) (by omega) (by simp;omega) ?_
   intro v2 w2 hown2 hgrow2
   obtain⟨g',cap',rfl⟩:=ownsRow_succ hown2
   have hB2:Below (wc.heap.size+1) wr w2:=Below.grown (((Below.refl (wc.heap.size+1) wr).alloc hszr (.cells #[.int .i64 (pick z 5000000)] 3)).drew) hgrow2 (by simp;omega) (fun k hk=>(HO.out.lt k hk).1)
   have HB2:=Lib.hid hB2
   have HO2:=Lib.hid hown2
   refine TG.go hK1 (by exact⟨(hB2.cell (p:=⟨w.heap.size,6,none⟩) (by show w.heap.size<wc.heap.size+1;omega)).trans p6,(hB2.cell (p:=⟨wc.heap.size,12,none⟩) (by show wc.heap.size<wc.heap.size+1;omega)).trans HPV.out,(hB2.cell (p:=⟨b,off+k,none⟩) (by show b<wc.heap.size+1;omega)).trans x1⟩) (fun hS=>?_)
   clear hK1 K1
   (try simp only [nS])
   refine TG.takeV (i:=10) (v:=?_) rfl (by kernel_rfl) (by kernel_rfl) (by kernel_rfl) (by decide) (fun _ _ _ h=>h) rfl hS ?_ ?_
   rotate_left
   focus
    rintro wS ⟨s1,s2,s3⟩
    go_simp
    rfl
   (try simp only [nS])
   have cv:w2.cell? ⟨wc.heap.size,12,none⟩=some vb:=(HB2.out.cell (p:=⟨wc.heap.size,12,none⟩) (by show wc.heap.size<wc.heap.size+1;omega)).trans HPV.out
   have gv:w2.frozen? ⟨wc.heap.size,12,none⟩=false:=(HB2.out.frozen (p:=⟨wc.heap.size,12,none⟩) (by show wc.heap.size<wc.heap.size+1;omega)).trans HFV.out
   clear hown2 hgrow2 hB2
   refine TG.one (i:=11) (by kernel_rfl) rfl (fun K1 hK1=>?_)
   go_simp
   refine hK1 _ _ (fun h=>absurd rfl h) (TG.done (by kernel_rfl) ?_)
   clear hK1 K1 hS
   (try simp only [nS])
   go_wp2_with fail
   go_roundw
   case rel=>
    refine⟨k+1,.slice (some ⟨g',0,none⟩) (k+1) cap',by have:=HKL.out;omega,by have:=HKL.out;omega,by go_num, ?_, ?_⟩
    rotate_left
    ·rw [HNX.out]
     obtain⟨h0,h1|⟨g2,c2,cur,hv,hbg,hg,hr⟩⟩:=HO2.out
     ·exact absurd h1.1 (by simp)
     ·exact⟨h0,.inr ⟨g2,c2,cur,hv,hbg,(Below.heap_setCell _ _ _ _ (by show g2≠wc.heap.size;omega)).trans hg,hr⟩⟩
    ·have h:=(HB.out.trans HB2.out).setBoth ⟨wc.heap.size,12,none⟩ (.slice (some ⟨g',0,none⟩) (k+1) cap')
     simpa [go_sem]using h
   case measure=>simp [intOf];have:=HKL.out;omega
  ·have hend:=mv_all R k hk hk20 (by omega)
   have HEND:=Lib.hid hend
   clear hend
   obtain⟨bs9,d9,rfl⟩:World.Grows (wc.alloc ((.cells #[.int .i64 (pick R.age 110),.int .i64 (1900+pick R.year 200),.int .i64 (pick R.children 8),.int .i64 (R.d 0),.int .i64 (R.d 1),.int .i64 (R.d 2),.int .i64 (R.d 3),.int .i64 (R.d 4),.int .i64 (R.d 5),.int .i64 (R.d 6),.int .i64 (mkN (pick R.base 1000000) (pick R.den 12+1)),.int .i64 (mkD (pick R.base 1000000) (pick R.den 12+1)),vb] 38))) wr:=.of_below (by simpa using HB.out)
   clear hB hown pv fv p6 HPV HFV q0 q1 q2 q6 r0 r1 r2 r3 r4 r5 r6 x50 x51 HB z0 z2
   obtain⟨bs7,d7,rfl⟩:World.Grows ((((w.alloc (.cells #[.int .i64 R.age,.int .i64 R.year,.int .i64 R.children,.int .i64 R.base,.int .i64 R.den,.slice da R.days.length dc,.slice ya R.years.length yc] 36)).alloc (.cells #[.int .i64 0,.int .i64 0,.int .i64 0,.int .i64 0,.int .i64 0,.int .i64 0,.int .i64 0,.int .i64 0,.int .i64 0,.int .i64 0,.int .i64 0,.int .i64 0,.slice none 0 0] 38)).alloc (.cells #[.int .i64 (R.d 0),.int .i64 (R.d 1),.int .i64 (R.d 2),.int .i64 (R.d 3),.int .i64 (R.d 4),.int .i64 (R.d 5),.int .i64 (R.d 6)] 100))) wc:=.of_below (by simpa using HB5.out)
   clear HB5 HSZ hlt5 hszr
   simp only [World.size_grow,World.size_alloc]at HO
   obtain⟨va,vc,rfl⟩:∃a c,vb= .slice a k c:=by
    rcases row_form HO.out with ⟨rfl,h0⟩|⟨g,cap,rfl,-⟩
    ·exact⟨none,0,by rw [h0]⟩
    ·exact⟨_,cap,rfl⟩
   by_cases d1:(k:Int)<(R.years.length:Int)
   focus
    have d2:¬(k:Int)<20:=by omega
    clear hlt
   rotate_left
   focus
    clear hlt
   rotate_left
   all_goals
    go_wp2_with fail
    go_returns
    refine⟨.slice va k vc,rfl,.of_below belB, ?_⟩
    exact YrAt.of_rowB (World.ownsRow_same (by simp) (by simp;try omega) HO.out) HEND.out.2 HEND.out.1 (by have:=viewP_len R;omega)
theorem TS.beginG{P:Program}{ops:Array Oper}{Q:Exit→Act→World→Prop}{id:Nat}{a:Act}{w:World}(T:List Nat)(hm:P.follows .mixedOrders=true)(hB:Region.tailsB ops T=true)
 (h:w.Grows w.drew→TS P ops Q (World.Grows w) T ops.size (Array.replicate ops.size false) a w.drew):(Code.region id ops true).wp P Q a w:=TS.begin T (World.Grows w) hm hB grows_drew0 h
theorem ck_long(zs:List Int)(R:VwR)(vl vd vy:Value)(dim:Int)(w:World)(hl:IntsAt w vl zs)(h:200<zs.length):Calls Tryz.prog 4 #[vl,.int .i64 dim,.agg #[.int .i64 R.age,.int .i64 R.year,.int .i64 R.children,.int .i64 R.base,.int .i64 R.den,vd,vy]] w fun e w'=>e= .returned (.bool true)∧w.Grows w':=by
 obtain⟨-,-,a1,c1,rfl,-⟩:=hl
 have hn:(200:Int)<(zs.length:Int):=by omega
 clear h
 go_enter Tryz.func4,Tryz.ntmps4
 go_wp2_with fail
 exact fz27
def KpC8(v:Vw)(E:Ex)(r:Val × Int):Prop:=∀(ya:Option Addr) (yc:Nat) (w':World) (a:Option Addr) (cap:Nat),RepE (fun _=>True) w' E (.slice a E.args.length cap)→YrAt w' (.slice ya v.years.length yc) v.years→
 Calls Tryz.prog 16 #[.agg #[.int .i64 E.op,.int .i64 E.num,.int .i64 E.den,.int .i64 E.dim,.string E.name,.slice a E.args.length cap],vwV v (.slice ya v.years.length yc),.slice none 0 0] w' fun e w''=>e= .returned (.tuple #[.agg #[.int .i64 r.1.dim,.bool r.1.yes,.int .i64 r.1.n,.int .i64 r.1.d],.int .i64 r.2])∧w'.Grows w''
theorem kpC8{v:Vw}(hrng:VwRng v){E:Ex}{r:Val × Int}(hr:exprF' v [] E=r)(hb:E.size≤1000000):KpC8 v E r:=by
 subst hr
 intro ya yc w' a cap hR hy
 exact Expr8_any (fun _=>True) v _ _ [] E a cap w' hR (by omega) hy hrng (steps_no w') (fun p hp=>by cases hp)
theorem ck_core(zs:List Int)(R:VwR)(vl vd vy:Value)(dim:Int)(w:World)(hl:IntsAt w vl zs)(hd:IntsAt w vd R.days)(hy:IntsAt w vy R.years)(ht:Tab w)(h1:zs.length≤200)
 (v:Vw) (dd:Int) (hdd:Hid (1+pick dim 4=dd)) (hdb:1≤dd∧dd≤4) (hv:Hid (viewP R=v)) (hrng:Hid (VwRng v)) :
 Calls Tryz.prog 4 #[vl,.int .i64 dim,.agg #[.int .i64 R.age,.int .i64 R.year,.int .i64 R.children,.int .i64 R.base,.int .i64 R.den,vd,vy]] w fun e w'=>e= .returned (.bool true)∧w.Grows w':=by
 have HT:=Lib.hid ht
 have HV:=Lib.hid (fun w' (hg:w.Grows w')=>viewOf_any R vd vy w' (IntsAt.growsG hd hg) (IntsAt.growsG hy hg))
 have HMK:=Lib.hid (fun w' (hg:w.Grows w')=>Expr_any vl (.slice none 0 0) zs [] dd w' (IntsAt.list (IntsAt.growsG hl hg) (Nat.le_refl _)) (env_no _ _) (by omega) (by omega))
 obtain⟨E,hE⟩:∃E,topF zs [] dd=E:=⟨_,rfl⟩
 have hsz:E.size≤1000000:=by rw [←hE];exact topF_size _ _ _
 obtain⟨F,hF⟩:∃F,fdF E=F:=⟨_,rfl⟩
 have hfs:F.size≤E.size:=by rw [←hF];exact fd_size E
 have hff:fdF F=F:=by rw [←hF];exact fd_fd E
 obtain⟨⟨⟨rm,ry,rn,rd⟩,rc⟩,hr⟩:∃r,exprF' v [] E=r:=⟨_,rfl⟩
 have hr2:exprF' v [] F=⟨⟨rm,ry,rn,rd⟩,rc⟩:=by rw [←hF,fd_expr];exact hr
 have HXE:=Lib.hid (kpC8 hrng.out hr hsz)
 have HXF:=Lib.hid (kpC8 hrng.out hr2 (by omega))
 have HFE:=Lib.hid (fun(S:Nat→Prop) (u:Value) (W:World) (hR:RepE S W E u) (hT:Tab W)=>hF ▸ cFold_any hR hT hsz)
 have HFF:=Lib.hid (fun(S:Nat→Prop) (u:Value) (W:World) (hR:RepE S W F u) (hT:Tab W)=>hff ▸ cFold_any hR hT (by omega))
 have HSE:=Lib.hid (fun(S:Nat→Prop) (u:Value) (W:World) (hR:RepE S W E u)=>Size_walk S E.size E (Nat.le_refl _) u W hR (Lib.hid (by omega)))
 have HSF:=Lib.hid (fun(S:Nat→Prop) (u:Value) (W:World) (hR:RepE S W F u)=>Size_walk S F.size F (Nat.le_refl _) u W hR (Lib.hid (by omega)))
 rw [hE]at HMK
 unfold VoP vwV at HV
 unfold MadeEx exV at HMK HFE HFF
 have HSM:=Lib.hid (fun(S S':Nat→Prop) (u u':Value) (W:World) (h1:RepE S W F u) (h2:RepE S' W F u')=>Same_any h1 h2)
 unfold exV at HSE HSF HSM
 unfold KpC8 vwV at HXE HXF
 dsimp only at HXE HXF
 rw [hv.out]at HV
 have hn1:¬(200:Int)<(zs.length:Int):=by omega
 have hw1:IntKind.i64.wrap (1+pick dim 4)=dd:=by rw [IntWalk.i64_in _ (by have:=pick_bd dim 4 (by omega);omega)];exact hdd.out
 have hw2:1+pick dim 4=dd:=hdd.out
 have hle:(F.size:Int)≤(E.size:Int):=by omega
 obtain⟨-,-,la,lc,rfl,-⟩:=hl
 obtain⟨-,-,da,dc,rfl,-⟩:=hd
 obtain⟨-,-,ya,yc,rfl,-⟩:=hy
 clear ht hE hF hff hr hr2 hsz hfs h1
 go_enter Tryz.func4,Tryz.ntmps4
 go_upto_region 3 with fail
 go_upto_region 4 with (first
  |(go_at_call 10;refine(Pick_any _ _ _ (by omega)).mono ?_;rintro e' w' ⟨rfl,rfl⟩)
  |(go_at_call 9;refine(HMK.out _ growsP).mono ?_;rintro e' w' ⟨v1,rfl,⟨bs,d,rfl⟩,HRE⟩;obtain⟨ea,ec,rfl⟩:=RepE.form0 HRE;have HRE:=Lib.hid (HRE.mono (S':=fun _=>True) (fun _ _=>trivial))))
 go_upto_region 5 with (go_at_call 13;refine(HFE.out _ _ _ (HRE.out.grows growsP) (HT.out.grows growsP)).mono ?_;rintro e' w' ⟨v2,rfl,⟨bs2,d2,rfl⟩,HRF⟩;obtain⟨fa,fc,rfl⟩:=RepE.form0 HRF;have HRF:=Lib.hid (HRF.mono (S':=fun _=>True) (fun _ _=>trivial)))
 go_upto_region 6 with (go_at_call 15;refine(HV.out _ growsP).mono ?_;rintro e' w' ⟨yv,rfl,⟨bs5,d5,rfl⟩,hyv⟩;have HYV:=Lib.hid hyv;obtain⟨-,ya1,yc1,rfl,-⟩:=hyv)
 go_upto_region 7 with (go_at_call 16;refine(HXE.out ya1 yc1 _ ea ec (HRE.out.grows growsP) (HYV.out.grows growsP)).mono ?_;rintro e' w' ⟨rfl,bs6,d6,rfl⟩)
 go_upto_region 8 with (go_at_call 16;refine(HXF.out ya1 yc1 _ fa fc (HRF.out.grows growsP) (HYV.out.grows growsP)).mono ?_;rintro e' w' ⟨rfl,bs7,d7,rfl⟩)
 refine TS.beginG [24] (by kernel_rfl) (by kernel_rfl) (fun hS=>?_)
 refine TS.one (i:=0) (by kernel_rfl) rfl (fun K1 hK1=>?_)
 have HK1:=Lib.hid hK1
 clear hK1 hS
 dsimp only [List.getElem_toArray,List.getElem_cons_succ,List.getElem_cons_zero]
 go_simp
 go_at_call 11
 refine(awake10 _ (HT.out.grows growsP)).mono ?_
 rintro e' w' ⟨rfl,bs8,d8,rfl⟩
 refine TS.go HK1.out growsP (fun hS=>?_)
 clear HK1 K1
 (try simp only [nS])
 refine TS.wkB 1 hS ?_
 refine TS.wkB 2 hS ?_
 refine TS.wkB 3 hS ?_
 refine TS.wkB 4 hS ?_
 refine TS.wkB 5 hS ?_
 refine TS.wkB 6 hS ?_
 refine TS.wkB 7 hS ?_
 refine TS.wkB 8 hS ?_
 refine TS.wkB 9 hS ?_
 refine TS.wkB 10 hS ?_
 refine TS.wkB 11 hS ?_
 refine TS.wkB 12 hS ?_
 refine TS.wkB 14 hS ?_
 refine TS.one (i:=13) (by kernel_rfl) rfl (fun K1 hK1=>?_)
 have HK1:=Lib.hid hK1
 clear hK1 hS
 dsimp only [List.getElem_toArray,List.getElem_cons_succ,List.getElem_cons_zero]
 go_simp
 go_at_call 17
 refine(HSF.out _ _ _ (HRF.out.grows growsP)).mono ?_
 rintro e' w' ⟨rfl,bs9,d9,rfl⟩
 refine TS.go HK1.out growsP (fun hS=>?_)
 clear HK1 K1
 (try simp only [nS])
 refine TS.one (i:=15) (by kernel_rfl) rfl (fun K1 hK1=>?_)
 have HK1:=Lib.hid hK1
 clear hK1 hS
 dsimp only [List.getElem_toArray,List.getElem_cons_succ,List.getElem_cons_zero]
 go_simp
 go_at_call 17
 refine(HSE.out _ _ _ (HRE.out.grows growsP)).mono ?_
 rintro e' w' ⟨rfl,bs10,d10,rfl⟩
 refine TS.go HK1.out growsP (fun hS=>?_)
 clear HK1 K1
 (try simp only [nS])
 refine TS.wkB 16 hS ?_
 refine TS.wkB 17 hS ?_
 refine TS.wkB 18 hS ?_
 refine TS.wkB 19 hS ?_
 refine TS.wkB 21 hS ?_
 refine TS.one (i:=20) (by kernel_rfl) rfl (fun K1 hK1=>?_)
 have HK1:=Lib.hid hK1
 clear hK1 hS
 dsimp only [List.getElem_toArray,List.getElem_cons_succ,List.getElem_cons_zero]
 go_simp
 go_at_call 13
 refine(HFF.out _ _ _ (HRF.out.grows growsP) (HT.out.grows growsP)).mono ?_
 rintro e' w' ⟨v3,rfl,⟨bs11,d11,rfl⟩,HR3⟩
 obtain⟨ga,gc,rfl⟩:=RepE.form0 HR3
 have HR3:=Lib.hid (HR3.mono (S':=fun _=>True) (fun _ _=>trivial))
 refine TS.go HK1.out growsP (fun hS=>?_)
 clear HK1 K1
 (try simp only [nS])
 refine TS.one (i:=22) (by kernel_rfl) rfl (fun K1 hK1=>?_)
 have HK1:=Lib.hid hK1
 clear hK1 hS
 dsimp only [List.getElem_toArray,List.getElem_cons_succ,List.getElem_cons_zero]
 go_simp
 go_at_call 12
 refine(HSM.out _ _ _ _ _ (HR3.out.grows growsP) (HRF.out.grows growsP)).mono ?_
 rintro e' w' ⟨rfl,bs12,d12,rfl⟩
 refine TS.go HK1.out growsP (fun hS=>?_)
 clear HK1 K1
 (try simp only [nS])
 refine TS.wkB 23 hS ?_
 refine TS.weB 24 ?_
 clear hS
 go_wp2_with fail
 go_returns
 exact⟨rfl,growsP⟩
theorem ck_any(zs:List Int)(R:VwR)(vl vd vy:Value)(dim:Int)(w:World)(hl:IntsAt w vl zs)(hd:IntsAt w vd R.days)(hy:IntsAt w vy R.years)(ht:Tab w) :
 Calls Tryz.prog 4 #[vl,.int .i64 dim,.agg #[.int .i64 R.age,.int .i64 R.year,.int .i64 R.children,.int .i64 R.base,.int .i64 R.den,vd,vy]] w fun e w'=>e= .returned (.bool true)∧w.Grows w':=by
 by_cases hlen:zs.length≤200
 ·have hp:=pick_bd dim 4 (by omega)
  exact ck_core zs R vl vd vy dim w hl hd hy ht hlen (viewP R) _ (Lib.hid rfl) ⟨by omega,by omega⟩ (Lib.hid rfl) (Lib.hid (viewP_rng R))
 ·exact ck_long zs R vl vd vy dim w hl (by omega)
end Go.Proofs.YtfoefpoaomepbaaGreatDoor
