import Derived.Test.YtfoefpoaomepbaaGreatDoorFStY
set_option linter.all false
set_option maxHeartbeats 16000000
set_option maxRecDepth 1000000
namespace Go
theorem growsP{w w':World}(h:RowKit.Below w.heap.size w w':=by(try simp only [World.grow_grow,World.grow_drew,World.drew_grow,←Array.append_assoc]);repeat' (first|(with_reducible exact Go.RowKit.Below.fin)|(with_reducible exact Go.RowKit.Below.refl _ _)|(with_reducible assumption)|(with_reducible refine Go.RowKit.Below.peel ?_ ?_)|(with_reducible refine Go.RowKit.Below.grow ?_ ?_ _ _)|(with_reducible refine Go.RowKit.Below.alloc ?_ ?_ _)|(with_reducible refine Go.RowKit.Below.drewN ?_ _)|(with_reducible refine Go.RowKit.Below.drew ?_)|(with_reducible refine Go.RowKit.Below.setCell ?_ ?_ _)|go_size)):w.Grows w':=.of_below h
end Go
namespace Go.Proofs.YtfoefpoaomepbaaGreatDoor
open Go.RowKit
def ApP(r:Val × Int)(w:World)(e:Ending)(w':World):Prop:=e= .returned (.tuple #[.agg #[.int .i64 r.1.dim,.bool r.1.yes,.int .i64 r.1.n,.int .i64 r.1.d],.int .i64 r.2])∧w.Grows w'
def apD(x y:Val):List Value:=[x.dim,y.dim].map (Value.int .i64)
theorem apD_take(x y:Val)(k:Nat)(hk:k<2)(dk:Int)(h:[x.dim,y.dim].getD k 0=dk):(apD x y).take (k+1)=(apD x y).take k++[.int .i64 dk]:=by
 subst h
 rcases(show k=0∨k=1 by omega)with rfl|rfl<;>rfl
theorem apply2_any(op:Int)(x y:Val)(b o cp:Nat)(w:World)(hx:x.ok=true)(hy:y.ok=true)(ho:op=7∨op=8∨op=9∨op=10∨op=19∨op=20∨(11≤op∧op≤16))(hres:resD op [x.dim,y.dim]≠0)(hb:b<w.heap.size)
 (c0:w.cell? ⟨b,o,none⟩=some (.int .i64 x.dim)) (c1:w.cell? ⟨b,o+1,none⟩=some (.bool x.yes)) (c2:w.cell? ⟨b,o+2,none⟩=some (.int .i64 x.n)) (c3:w.cell? ⟨b,o+3,none⟩=some (.int .i64 x.d))
 (e0:w.cell? ⟨b,o+4,none⟩=some (.int .i64 y.dim)) (e1:w.cell? ⟨b,o+5,none⟩=some (.bool y.yes)) (e2:w.cell? ⟨b,o+6,none⟩=some (.int .i64 y.n)) (e3:w.cell? ⟨b,o+7,none⟩=some (.int .i64 y.d)) :
 Calls Tryz.prog 60 #[.int .i64 op,.slice (some ⟨b,o,none⟩) 2 cp] w (ApP (op2 op x y) w):=by
 obtain⟨i0,hi,hz0,hz1,hz2⟩:=info_parts infoY
 have hd:=dims_ne ho hres
 have hvx:=(Val.ok_num hx hd.1).2.2.2
 have hvy:=(Val.ok_num hy hd.2).2.2.2
 have hdx:=Val.ok_dim hx
 have hdy:=Val.ok_dim hy
 have hcf:=cmpF_ok hvx hvy
 have h64:I64x4 x.n x.d y.n y.d:=⟨(Val.ok_rng hx).1,(Val.ok_rng hx).2,(Val.ok_rng hy).1,(Val.ok_rng hy).2⟩
 have HA:=Lib.hid (fun w=>Add1_any x.n x.d y.n y.d w h64)
 have HS:=Lib.hid (fun w=>Sub1_any x.n x.d y.n y.d w h64)
 have HM:=Lib.hid (fun w=>Mul1_any x.n x.d y.n y.d w h64)
 have HD:=Lib.hid (fun w=>Div1_any x.n x.d y.n y.d w h64)
 have HC:=Lib.hid (fun w=>Compare1_any x.n x.d y.n y.d w h64)
 unfold frI at HC
 unfold frV at HA HS HM HD
 rw [hcf]at HC
 have HRD:=Lib.hid hres
 have HAN:Hid (((2:Nat):Int)=argsN op):=Lib.hid (by unfold argsN;rw [if_neg (by omega),if_neg (by omega),if_pos (by omega)];rfl)
 have HDX:=Lib.hid hdx
 have HDY:=Lib.hid hdy
 have HOP:=Lib.hid ho
 have HXD:Hid (op=7∨op=8∨op=19∨op=20→resD op [x.dim,y.dim]=x.dim):=Lib.hid (fun h=>by
  rw [res_add _ _ h]at hres ⊢
  split
  ·rfl
  ·rename_i hn;rw [if_neg hn]at hres;exact absurd rfl hres)
 have HX1:Hid (11≤op∧op≤16→resD op [x.dim,y.dim]=1):=Lib.hid (fun h=>by
  rw [res_cmp _ _ h]at hres ⊢
  split
  ·rfl
  ·rename_i hn;rw [if_neg hn]at hres;exact absurd rfl hres)
 clear hd hvx hvy hdx hdy hcf h64 hres ho hx hy
 go_enter Tryz.func60,Tryz.ntmps60
 go_wp2_with fail
 go_loopw [6,7] (fun v6 v7 wr=>∃(k:Nat) (vb:Value),vb=v6∧k≤2∧v7= .int .i64 k∧Below (w.heap.size+1) (w.alloc (.cells #[.int .i64 0,.bool false,.int .i64 0,.int .i64 0] 41)) wr∧wr.ownsRow (w.heap.size+1) 3 1 vb k ((apD x y).take k)) (fun _ v7 _=>2-(intOf v7).toNat)
 case atStart=>exact⟨0,_,rfl,by omega,rfl,.refl _ _,World.ownsRow_nil _ _ _ _⟩
 case round=>
  obtain⟨k,vb,rfl,hk,rfl,hB,hown⟩:=hrel
  have HB:=Lib.hid hB
  have HO:=Lib.hid hown
  have hsW:w.heap.size+1≤wr.heap.size:=by have:=hB.size;simpa using this
  have hbr:b<wr.heap.size:=by omega
  have hcc:∀j u,w.cell? ⟨b,j,none⟩=some u→wr.cell? ⟨b,j,none⟩=some u:=fun j u h=>(hB.cell (p:=⟨b,j,none⟩) (by show b<_;omega)).trans ((World.cell?_alloc_lt w _ ⟨b,j,none⟩ hb).trans h)
  by_cases hlt:k<2
  ·have d1:(k:Int)<2:=by omega
   obtain⟨dk,hdk⟩:∃dk,[x.dim,y.dim].getD k 0=dk:=⟨_,rfl⟩
   have x0:wr.cell? ⟨b,o+k*4,none⟩=some (.int .i64 dk):=by
    subst hdk
    rcases(show k=0∨k=1 by omega)with rfl|rfl
    ·exact hcc _ _ c0
    ·exact hcc _ _ e0
   have HNX:=Lib.hid (apD_take x y k hlt dk hdk)
   have HKL:=Lib.hid hlt
   clear hlt hB hown hcc c0 c1 c2 c3 e0 e1 e2 e3 hdk
   go_wp2_with (at_builtin;refine wpList_append_own _ rfl _ _ 22 rfl (w.heap.size+1) 3 i0 (.int .i64 0) 1 8 Tryz.underlying22 hi hz0 hz1 hz2 rfl (by decide) _ _ _ rfl (HO.out.alloc _) ⟨wr.heap.size,0,none⟩ 1 1 [.int .i64 dk] rfl rfl ?c1 ?c2 ?c3 ?c4 ?c5 ?_)
   case c1=>exact news_cells _ [.int .i64 dk] _ _ (by simp)
   case c2=>intro u hu;simp at hu;subst hu;rfl
   case c3=>unfold maxLen;omega
   case c4=>omega
   case c5=>simp;try omega
   intro v' w1 hown' hgrow _
   have HB1:=Lib.hid ((show Below (w.heap.size+1) (w.alloc (.cells #[.int .i64 0,.bool false,.int .i64 0,.int .i64 0] 41)) _ from by have:=HB.out;(exact belB)).grown hgrow (by simp;try omega) (fun k hk=>(HO.out.lt k hk).1))
   have HO1:=Lib.hid hown'
   clear hown' hgrow
   go_wp2_with fail
   go_roundw
   case rel=>exact⟨k+1,_,rfl,HKL.out,by go_num,HB1.out,by rw [HNX.out];exact HO1.out⟩
   case measure=>simp [intOf];have:=HKL.out;omega
  ·obtain rfl:k=2:=by omega
   obtain⟨g,cap,rfl⟩:∃g cap,vb= .slice (some ⟨g,0,none⟩) 2 cap:=by
    rcases row_form hown with ⟨-,h⟩|⟨g,cap,rfl,-⟩
    ·omega
    ·exact⟨g,cap,rfl⟩
   have HOW:Hid (wr.ownsRow (w.heap.size+1) 3 1 (.slice (some ⟨g,0,none⟩) [x.dim,y.dim].length cap) [x.dim,y.dim].length ([x.dim,y.dim].map (Value.int .i64))):=Lib.hid hown
   have HRS:=Lib.hid (fun w' (hg:wr.Grows w')=>res5_all op [x.dim,y.dim] (w.heap.size+1) g cap w' (by have:=HOP.out;omega) (by have:=HOP.out;omega) HAN.out (by intro z hz;have:=HDX.out;have:=HDY.out;simp at hz;omega) (own_grow HOW.out hg))
   unfold Res5P at HRS
   obtain⟨rd,hrd⟩:∃rd,resD op [x.dim,y.dim]=rd:=⟨_,rfl⟩
   have HRD2:=Lib.hid hrd
   rw [hrd]at HRS HXD HX1
   clear hrd hown hcc
   obtain⟨bs0,d0,rfl⟩:World.Grows (w.alloc (.cells #[.int .i64 0,.bool false,.int .i64 0,.int .i64 0] 41)) wr:=.of_below (by simpa using HB.out)
   have HG0:Hid (w.Grows ((w.alloc (.cells #[.int .i64 0,.bool false,.int .i64 0,.int .i64 0] 41)).grow bs0 d0)):=Lib.hid growsP
   clear hB HB HO
   go_wp2_with (go_at_call 90;refine(HRS.out _ growsP).mono ?_;rintro e' w' ⟨rfl,bs,d,rfl⟩)
   refine TS.begin [] (World.Grows _) (by kernel_rfl) (by kernel_rfl) grows_drew0 (fun hS=>?_)
   refine TS.wkB 0 hS ?_
   refine TS.wkB 1 hS ?_
   refine TS.wkB 2 hS ?_
   refine TS.wkB 3 hS ?_
   refine TS.wkB 4 hS ?_
   refine TS.wkB 5 hS ?_
   refine TS.wkB 6 hS ?_
   refine TS.wkB 7 hS ?_
   refine TS.one (i:=8) (by decide+kernel) rfl (fun K1 hK1=>?_)
   have HK1:=Lib.hid hK1
   clear hK1 hS
   dsimp only [List.getElem_toArray,List.getElem_cons_succ,List.getElem_cons_zero]
   go_simp
   go_at_call 95
   refine(HC.out _).mono ?_
   rintro e' wA ⟨rfl,bA,dA,rfl⟩
   refine TS.go HK1.out growsP (fun hS=>?_)
   clear HK1 K1
   (try simp only [nS])
   refine TS.wkB 9 hS ?_
   refine TS.wkB 10 hS ?_
   refine TS.wkB 11 hS ?_
   refine TS.wkB 12 hS ?_
   refine TS.done (by kernel_rfl) ?_
   clear hS
   (try simp only [nS])
   go_upto_block 2 with fail
   have hop:=HOP.out
   generalize hc:cmpI x.n x.d y.n y.d=c
   have HCC:=Lib.hid hc
   clear hc HOP HC HRS HAN HOW
   rcases hop with rfl|rfl|rfl|rfl|rfl|rfl|hop
   ·have HR:Hid (op2 7 x y=numR rd (addF x.n x.d y.n y.d)):=Lib.hid (by rw [HXD.out (.inl rfl)];rfl)
    generalize addF x.n x.d y.n y.d=q at *
    obtain⟨qn,qd,qc⟩:=q
    dsimp only at HA
    by_cases hq:qc=0
    focus
     subst hq
     unfold numR at HR
     rw [if_pos rfl]at HR
    rotate_left
    focus
     unfold numR at HR
     rw [if_neg hq]at HR
     have hq1:(qc !=0)=true:=by simpa using hq
     clear hq
    rotate_left
    all_goals
     go_wp2_with fail
     refine TS.begin [14] (World.Grows ((w.alloc (.cells #[.int .i64 0,.bool false,.int .i64 0,.int .i64 0] 41)).grow bs0 d0)) (by kernel_rfl) (by kernel_rfl) growsP (fun hS=>?_)
     refine TS.wkB 0 hS ?_
     refine TS.wkB 1 hS ?_
     refine TS.wkB 2 hS ?_
     refine TS.wkB 3 hS ?_
     refine TS.wkB 4 hS ?_
     refine TS.wkB 5 hS ?_
     refine TS.wkB 6 hS ?_
     refine TS.wkB 7 hS ?_
     refine TS.one (i:=8) (by decide+kernel) rfl (fun K1 hK1=>?_)
     have HK1:=Lib.hid hK1
     clear hK1 hS
     dsimp only [List.getElem_toArray,List.getElem_cons_succ,List.getElem_cons_zero]
     go_simp
     go_at_call 114
     refine(HA.out _).mono ?_
     rintro e' wA ⟨rfl,bA,dA,rfl⟩
     refine TS.go HK1.out growsP (fun hS=>?_)
     clear HK1 K1
     (try simp only [nS])
     refine TS.wkB 9 hS ?_
     refine TS.wkB 10 hS ?_
     refine TS.wkB 11 hS ?_
     refine TS.wkB 12 hS ?_
     refine TS.one (i:=13) (by decide+kernel) rfl (fun K1 hK1=>?_)
     have HK1:=Lib.hid hK1
     clear hK1 hS
     dsimp only [List.getElem_toArray,List.getElem_cons_succ,List.getElem_cons_zero]
     go_simp
     refine TS.go HK1.out growsP (fun hS=>?_)
     clear HK1 K1
     (try simp only [nS])
     refine TS.weB 14 ?_
     clear hS
     go_wp2_with fail
     go_returns
     exact⟨by rw [HR.out];rfl,growsP⟩
   ·have HR:Hid (op2 8 x y=numR rd (subF x.n x.d y.n y.d)):=Lib.hid (by rw [HXD.out (.inr (.inl rfl))];rfl)
    generalize subF x.n x.d y.n y.d=q at *
    obtain⟨qn,qd,qc⟩:=q
    dsimp only at HS
    by_cases hq:qc=0
    focus
     subst hq
     unfold numR at HR
     rw [if_pos rfl]at HR
    rotate_left
    focus
     unfold numR at HR
     rw [if_neg hq]at HR
     have hq1:(qc !=0)=true:=by simpa using hq
     clear hq
    rotate_left
    all_goals
     go_wp2_with fail
     refine TS.begin [14] (World.Grows ((w.alloc (.cells #[.int .i64 0,.bool false,.int .i64 0,.int .i64 0] 41)).grow bs0 d0)) (by kernel_rfl) (by kernel_rfl) growsP (fun hS=>?_)
     refine TS.wkB 0 hS ?_
     refine TS.wkB 1 hS ?_
     refine TS.wkB 2 hS ?_
     refine TS.wkB 3 hS ?_
     refine TS.wkB 4 hS ?_
     refine TS.wkB 5 hS ?_
     refine TS.wkB 6 hS ?_
     refine TS.wkB 7 hS ?_
     refine TS.one (i:=8) (by decide+kernel) rfl (fun K1 hK1=>?_)
     have HK1:=Lib.hid hK1
     clear hK1 hS
     dsimp only [List.getElem_toArray,List.getElem_cons_succ,List.getElem_cons_zero]
     go_simp
     go_at_call 115
     refine(HS.out _).mono ?_
     rintro e' wA ⟨rfl,bA,dA,rfl⟩
     refine TS.go HK1.out growsP (fun hS=>?_)
     clear HK1 K1
     (try simp only [nS])
     refine TS.wkB 9 hS ?_
     refine TS.wkB 10 hS ?_
     refine TS.wkB 11 hS ?_
     refine TS.wkB 12 hS ?_
     refine TS.one (i:=13) (by decide+kernel) rfl (fun K1 hK1=>?_)
     have HK1:=Lib.hid hK1
     clear hK1 hS
     dsimp only [List.getElem_toArray,List.getElem_cons_succ,List.getElem_cons_zero]
     go_simp
     refine TS.go HK1.out growsP (fun hS=>?_)
     clear HK1 K1
     (try simp only [nS])
     refine TS.weB 14 ?_
     clear hS
     go_wp2_with fail
     go_returns
     exact⟨by rw [HR.out];rfl,growsP⟩
   ·have HR:Hid (op2 9 x y=numR rd (mulF x.n x.d y.n y.d)):=Lib.hid (by rw [←HRD2.out];rfl)
    generalize mulF x.n x.d y.n y.d=q at *
    obtain⟨qn,qd,qc⟩:=q
    dsimp only at HM
    by_cases hq:qc=0
    focus
     subst hq
     unfold numR at HR
     rw [if_pos rfl]at HR
    rotate_left
    focus
     unfold numR at HR
     rw [if_neg hq]at HR
     have hq1:(qc !=0)=true:=by simpa using hq
     clear hq
    rotate_left
    all_goals
     go_wp2_with fail
     refine TS.begin [14] (World.Grows ((w.alloc (.cells #[.int .i64 0,.bool false,.int .i64 0,.int .i64 0] 41)).grow bs0 d0)) (by kernel_rfl) (by kernel_rfl) growsP (fun hS=>?_)
     refine TS.wkB 0 hS ?_
     refine TS.wkB 1 hS ?_
     refine TS.wkB 2 hS ?_
     refine TS.wkB 3 hS ?_
     refine TS.wkB 4 hS ?_
     refine TS.wkB 5 hS ?_
     refine TS.wkB 6 hS ?_
     refine TS.wkB 7 hS ?_
     refine TS.one (i:=8) (by decide+kernel) rfl (fun K1 hK1=>?_)
     have HK1:=Lib.hid hK1
     clear hK1 hS
     dsimp only [List.getElem_toArray,List.getElem_cons_succ,List.getElem_cons_zero]
     go_simp
     go_at_call 116
     refine(HM.out _).mono ?_
     rintro e' wA ⟨rfl,bA,dA,rfl⟩
     refine TS.go HK1.out growsP (fun hS=>?_)
     clear HK1 K1
     (try simp only [nS])
     refine TS.wkB 9 hS ?_
     refine TS.wkB 10 hS ?_
     refine TS.wkB 11 hS ?_
     refine TS.wkB 12 hS ?_
     refine TS.one (i:=13) (by decide+kernel) rfl (fun K1 hK1=>?_)
     have HK1:=Lib.hid hK1
     clear hK1 hS
     dsimp only [List.getElem_toArray,List.getElem_cons_succ,List.getElem_cons_zero]
     go_simp
     refine TS.go HK1.out growsP (fun hS=>?_)
     clear HK1 K1
     (try simp only [nS])
     refine TS.weB 14 ?_
     clear hS
     go_wp2_with fail
     go_returns
     exact⟨by rw [HR.out];rfl,growsP⟩
   ·have HR:Hid (op2 10 x y=numR rd (divF x.n x.d y.n y.d)):=Lib.hid (by rw [←HRD2.out];rfl)
    generalize divF x.n x.d y.n y.d=q at *
    obtain⟨qn,qd,qc⟩:=q
    dsimp only at HD
    by_cases hq:qc=0
    focus
     subst hq
     unfold numR at HR
     rw [if_pos rfl]at HR
    rotate_left
    focus
     unfold numR at HR
     rw [if_neg hq]at HR
     have hq1:(qc !=0)=true:=by simpa using hq
     clear hq
    rotate_left
    all_goals
     go_wp2_with fail
     refine TS.begin [14] (World.Grows ((w.alloc (.cells #[.int .i64 0,.bool false,.int .i64 0,.int .i64 0] 41)).grow bs0 d0)) (by kernel_rfl) (by kernel_rfl) growsP (fun hS=>?_)
     refine TS.wkB 0 hS ?_
     refine TS.wkB 1 hS ?_
     refine TS.wkB 2 hS ?_
     refine TS.wkB 3 hS ?_
     refine TS.wkB 4 hS ?_
     refine TS.wkB 5 hS ?_
     refine TS.wkB 6 hS ?_
     refine TS.wkB 7 hS ?_
     refine TS.one (i:=8) (by decide+kernel) rfl (fun K1 hK1=>?_)
     have HK1:=Lib.hid hK1
     clear hK1 hS
     dsimp only [List.getElem_toArray,List.getElem_cons_succ,List.getElem_cons_zero]
     go_simp
     go_at_call 117
     refine(HD.out _).mono ?_
     rintro e' wA ⟨rfl,bA,dA,rfl⟩
     refine TS.go HK1.out growsP (fun hS=>?_)
     clear HK1 K1
     (try simp only [nS])
     refine TS.wkB 9 hS ?_
     refine TS.wkB 10 hS ?_
     refine TS.wkB 11 hS ?_
     refine TS.wkB 12 hS ?_
     refine TS.one (i:=13) (by decide+kernel) rfl (fun K1 hK1=>?_)
     have HK1:=Lib.hid hK1
     clear hK1 hS
     dsimp only [List.getElem_toArray,List.getElem_cons_succ,List.getElem_cons_zero]
     go_simp
     refine TS.go HK1.out growsP (fun hS=>?_)
     clear HK1 K1
     (try simp only [nS])
     refine TS.weB 14 ?_
     clear hS
     go_wp2_with fail
     go_returns
     exact⟨by rw [HR.out];rfl,growsP⟩
   ·have HQ:Hid (op2 19 x y=(if c≤0 then .num rd x.n x.d else .num rd y.n y.d,0)):=Lib.hid (by rw [HXD.out (by omega),←HCC.out];rfl)
    have HR1:∀r,r=(Val.num rd x.n x.d,(0:Int))→Ending.returned (.tuple #[.agg #[.int .i64 rd,.bool false,.int .i64 x.n,.int .i64 x.d],.int .i64 0])= .returned (.tuple #[.agg #[.int .i64 r.1.dim,.bool r.1.yes,.int .i64 r.1.n,.int .i64 r.1.d],.int .i64 r.2]):=fun r h=>by subst h;rfl
    have HR2:∀r,r=(Val.num rd y.n y.d,(0:Int))→Ending.returned (.tuple #[.agg #[.int .i64 rd,.bool false,.int .i64 y.n,.int .i64 y.d],.int .i64 0])= .returned (.tuple #[.agg #[.int .i64 r.1.dim,.bool r.1.yes,.int .i64 r.1.n,.int .i64 r.1.d],.int .i64 r.2]):=fun r h=>by subst h;rfl
    have HRR1:=Lib.hid HR1
    have HRR2:=Lib.hid HR2
    clear HR1 HR2
    rcases(show c<0∨c=0∨0<c by omega)with h1|h1|h1
    ·have hq1:(c !=0)=true:=by simp;omega
     have hq2:decide (c<0)=true:=decide_eq_true h1
     go_wp2_with fail
     all_goals
      go_returns
      exact⟨HRR1.out _ (by rw [HQ.out];first|rw [if_pos (by omega)]|rw [if_neg (by omega)]),growsP⟩
    ·subst h1
     go_wp2_with fail
     all_goals
      go_returns
      exact⟨HRR1.out _ (by rw [HQ.out];first|rw [if_pos (by omega)]|rw [if_neg (by omega)]),growsP⟩
    ·have hq1:(c !=0)=true:=by simp;omega
     have hq2:decide (c<0)=false:=decide_eq_false (by omega)
     go_wp2_with fail
     all_goals
      trace_state
      go_returns
      exact⟨HRR2.out _ (by rw [HQ.out];first|rw [if_pos (by omega)]|rw [if_neg (by omega)]),growsP⟩
   ·have HQ:Hid (op2 20 x y=(if 0≤c then .num rd x.n x.d else .num rd y.n y.d,0)):=Lib.hid (by rw [HXD.out (by omega),←HCC.out];rfl)
    have HR1:∀r,r=(Val.num rd x.n x.d,(0:Int))→Ending.returned (.tuple #[.agg #[.int .i64 rd,.bool false,.int .i64 x.n,.int .i64 x.d],.int .i64 0])= .returned (.tuple #[.agg #[.int .i64 r.1.dim,.bool r.1.yes,.int .i64 r.1.n,.int .i64 r.1.d],.int .i64 r.2]):=fun r h=>by subst h;rfl
    have HR2:∀r,r=(Val.num rd y.n y.d,(0:Int))→Ending.returned (.tuple #[.agg #[.int .i64 rd,.bool false,.int .i64 y.n,.int .i64 y.d],.int .i64 0])= .returned (.tuple #[.agg #[.int .i64 r.1.dim,.bool r.1.yes,.int .i64 r.1.n,.int .i64 r.1.d],.int .i64 r.2]):=fun r h=>by subst h;rfl
    have HRR1:=Lib.hid HR1
    have HRR2:=Lib.hid HR2
    clear HR1 HR2
    rcases(show c<0∨c=0∨0<c by omega)with h1|h1|h1
    ·have hq1:(c !=0)=true:=by simp;omega
     have hq2:decide (c<0)=true:=decide_eq_true h1
     go_wp2_with fail
     all_goals
      go_returns
      exact⟨HRR2.out _ (by rw [HQ.out];first|rw [if_pos (by omega)]|rw [if_neg (by omega)]),growsP⟩
    ·subst h1
     go_wp2_with fail
     all_goals
      go_returns
      exact⟨HRR1.out _ (by rw [HQ.out];first|rw [if_pos (by omega)]|rw [if_neg (by omega)]),growsP⟩
    ·have hq1:(c !=0)=true:=by simp;omega
     have hq2:decide (c<0)=false:=decide_eq_false (by omega)
     go_wp2_with fail
     all_goals
      trace_state
      go_returns
      exact⟨HRR1.out _ (by rw [HQ.out];first|rw [if_pos (by omega)]|rw [if_neg (by omega)]),growsP⟩
   ·obtain rfl:rd=1:=HX1.out hop
    rcases(show op=11∨op=12∨op=13∨op=14∨op=15∨op=16 by omega)with rfl|rfl|rfl|rfl|rfl|rfl
    focus
     have HQ:Hid (op2 11 x y=(.truth (cmpB 11 c),0)):=Lib.hid (by rw [←HCC.out];rfl)
    rotate_left
    focus
     have HQ:Hid (op2 12 x y=(.truth (cmpB 12 c),0)):=Lib.hid (by rw [←HCC.out];rfl)
    rotate_left
    focus
     have HQ:Hid (op2 13 x y=(.truth (cmpB 13 c),0)):=Lib.hid (by rw [←HCC.out];rfl)
    rotate_left
    focus
     have HQ:Hid (op2 14 x y=(.truth (cmpB 14 c),0)):=Lib.hid (by rw [←HCC.out];rfl)
    rotate_left
    focus
     have HQ:Hid (op2 15 x y=(.truth (cmpB 15 c),0)):=Lib.hid (by rw [←HCC.out];rfl)
    rotate_left
    focus
     have HQ:Hid (op2 16 x y=(.truth (cmpB 16 c),0)):=Lib.hid (by rw [←HCC.out];rfl)
    rotate_left
    all_goals
     go_wp2_with fail
     go_returns
     exact⟨by rw [HQ.out];simp [cmpB,Val.truth]<;>(by_cases h:c=0<;>simp [h]),growsP⟩
theorem apply1_any(op:Int)(x:Val)(b o cp:Nat)(w:World)(hx:x.ok=true)(h4:4≤op)(h6:op≤6)(hres:resD op [x.dim]≠0)(hb:b<w.heap.size)
 (c0:w.cell? ⟨b,o,none⟩=some (.int .i64 x.dim)) (c1:w.cell? ⟨b,o+1,none⟩=some (.bool x.yes)) (c2:w.cell? ⟨b,o+2,none⟩=some (.int .i64 x.n)) (c3:w.cell? ⟨b,o+3,none⟩=some (.int .i64 x.d)) :
 Calls Tryz.prog 60 #[.int .i64 op,.slice (some ⟨b,o,none⟩) 1 cp] w (ApP (op1 op x) w):=by
 obtain⟨i0,hi,hz0,hz1,hz2⟩:=info_parts infoY
 have hdx:=Val.ok_dim hx
 have hrg:=Val.ok_rng hx
 have HA:=Lib.hid (fun w=>Neg1_any x.n x.d w hrg.1.1 hrg.1.2 hrg.2.1 hrg.2.2)
 have HS:=Lib.hid (fun w=>Floor1_any x.n x.d w hrg.1.1 hrg.1.2 hrg.2.1 hrg.2.2)
 unfold frI at HS
 unfold frV at HA
 have HAN:Hid (((1:Nat):Int)=argsN op):=Lib.hid (by unfold argsN;rw [if_neg (by omega),if_pos (by omega)];rfl)
 have HDX:=Lib.hid hdx
 have HOP:Hid (op=4∨op=5∨op=6):=Lib.hid (by omega)
 have HNB:Hid (op=4∨op=6→vfrac x.n x.d=true∧resD op [x.dim]=x.dim):=Lib.hid (fun h=>by
  have hr:resD op [x.dim]=if x.dim≠1 then x.dim else 0:=by rcases h with rfl|rfl<;>rfl
  rw [hr]at hres ⊢
  split at hres<;>rename_i hd
  ·rw [if_pos hd];exact⟨(Val.ok_num hx hd).2.2.2,rfl⟩
  ·exact absurd rfl hres)
 have HX1:Hid (op=5→resD op [x.dim]=1):=Lib.hid (fun h=>by
  subst h
  have hr:resD 5 [x.dim]=if x.dim=1 then 1 else 0:=rfl
  rw [hr]at hres ⊢
  split at hres<;>rename_i hd
  ·rw [if_pos hd]
  ·exact absurd rfl hres)
 clear hdx hres hx hrg h4 h6
 go_enter Tryz.func60,Tryz.ntmps60
 go_wp2_with fail
 go_loopw [6,7] (fun v6 v7 wr=>∃(k:Nat) (vb:Value),vb=v6∧k≤1∧v7= .int .i64 k∧Below (w.heap.size+1) (w.alloc (.cells #[.int .i64 0,.bool false,.int .i64 0,.int .i64 0] 41)) wr∧wr.ownsRow (w.heap.size+1) 3 1 vb k (([x.dim].map (Value.int .i64)).take k)) (fun _ v7 _=>1-(intOf v7).toNat)
 case atStart=>exact⟨0,_,rfl,by omega,rfl,.refl _ _,World.ownsRow_nil _ _ _ _⟩
 case round=>
  obtain⟨k,vb,rfl,hk,rfl,hB,hown⟩:=hrel
  have HB:=Lib.hid hB
  have HO:=Lib.hid hown
  have hsW:w.heap.size+1≤wr.heap.size:=by have:=hB.size;simpa using this
  have hbr:b<wr.heap.size:=by omega
  have hcc:∀j u,w.cell? ⟨b,j,none⟩=some u→wr.cell? ⟨b,j,none⟩=some u:=fun j u h=>(hB.cell (p:=⟨b,j,none⟩) (by show b<_;omega)).trans ((World.cell?_alloc_lt w _ ⟨b,j,none⟩ hb).trans h)
  by_cases hlt:k<1
  ·obtain rfl:k=0:=by omega
   have x0:=hcc _ _ c0
   clear hlt hB hown hcc c0 c1 c2 c3
   go_wp2_with (at_builtin;refine wpList_append_own _ rfl _ _ 22 rfl (w.heap.size+1) 3 i0 (.int .i64 0) 1 8 Tryz.underlying22 hi hz0 hz1 hz2 rfl (by decide) _ _ _ rfl (HO.out.alloc _) ⟨wr.heap.size,0,none⟩ 1 1 [.int .i64 x.dim] rfl rfl ?c1 ?c2 ?c3 ?c4 ?c5 ?_)
   case c1=>exact news_cells _ [.int .i64 x.dim] _ _ (by simp)
   case c2=>intro u hu;simp at hu;subst hu;rfl
   case c3=>decide
   case c4=>decide
   case c5=>simp;try omega
   intro v' w1 hown' hgrow _
   have HB1:=Lib.hid ((show Below (w.heap.size+1) (w.alloc (.cells #[.int .i64 0,.bool false,.int .i64 0,.int .i64 0] 41)) _ from by have:=HB.out;(exact belB)).grown hgrow (by simp;try omega) (fun k hk=>(HO.out.lt k hk).1))
   have HO1:=Lib.hid hown'
   clear hown' hgrow
   go_wp2_with fail
   go_roundw
   case rel=>exact⟨1,_,rfl,by omega,by first|rfl|go_num,HB1.out,HO1.out⟩
   case measure=>simp [intOf]
  ·obtain rfl:k=1:=by omega
   obtain⟨g,cap,rfl⟩:∃g cap,vb= .slice (some ⟨g,0,none⟩) 1 cap:=by
    rcases row_form hown with ⟨-,h⟩|⟨g,cap,rfl,-⟩
    ·omega
    ·exact⟨g,cap,rfl⟩
   have HOW:Hid (wr.ownsRow (w.heap.size+1) 3 1 (.slice (some ⟨g,0,none⟩) [x.dim].length cap) [x.dim].length ([x.dim].map (Value.int .i64))):=Lib.hid hown
   have HRS:=Lib.hid (fun w' (hg:wr.Grows w')=>res5_all op [x.dim] (w.heap.size+1) g cap w' (by have:=HOP.out;omega) (by have:=HOP.out;omega) HAN.out (by intro z hz;have:=HDX.out;simp at hz;omega) (own_grow HOW.out hg))
   unfold Res5P at HRS
   obtain⟨rd,hrd⟩:∃rd,resD op [x.dim]=rd:=⟨_,rfl⟩
   rw [hrd]at HRS HNB HX1
   clear hrd hown hcc
   obtain⟨bs0,d0,rfl⟩:World.Grows (w.alloc (.cells #[.int .i64 0,.bool false,.int .i64 0,.int .i64 0] 41)) wr:=.of_below (by simpa using HB.out)
   clear hB HB HO
   have hop:=HOP.out
   rcases hop with rfl|rfl|rfl
   ·obtain⟨hv,rfl⟩:=HNB.out (.inl rfl)
    have hn:negF x.n x.d=(-x.n,x.d,0):=by unfold negF;rw [if_pos hv]
    have HR:Hid (op1 4 x=(.num x.dim (-x.n) x.d,0)):=Lib.hid (by show numR x.dim (negF x.n x.d)=_;rw [hn];rfl)
    rw [hn]at HA
    clear hv hn
    go_wp2_with (first
     |(go_at_call 90;refine(HRS.out _ growsP).mono ?_;rintro e' w' ⟨rfl,bs,d,rfl⟩)
     |(go_at_call 112;refine(HA.out _).mono ?_;rintro e' w' ⟨rfl,bs2,d2,rfl⟩))
    go_returns
    exact⟨by rw [HR.out];rfl,growsP⟩
   ·obtain rfl:=HX1.out rfl
    have HR:Hid (op1 5 x=(.truth (!x.yes),0)):=Lib.hid rfl
    go_wp2_with (go_at_call 90;refine(HRS.out _ growsP).mono ?_;rintro e' w' ⟨rfl,bs,d,rfl⟩)
    go_returns
    exact⟨by rw [HR.out];rfl,growsP⟩
   ·obtain⟨hv,rfl⟩:=HNB.out (.inr rfl)
    have hn:(floorF x.n x.d).2=0:=by unfold floorF;rw [if_pos hv]
    have HR:Hid (op1 6 x=(.num x.dim (floorF x.n x.d).1 1,0)):=Lib.hid (by show numR x.dim ((floorF x.n x.d).1,1,(floorF x.n x.d).2)=_;rw [hn];rfl)
    rw [hn]at HS
    clear hv hn
    generalize(floorF x.n x.d).1=fl at *
    go_wp2_with (first
     |(go_at_call 90;refine(HRS.out _ growsP).mono ?_;rintro e' w' ⟨rfl,bs,d,rfl⟩)
     |(go_at_call 113;refine(HS.out _).mono ?_;rintro e' w' ⟨rfl,bs2,d2,rfl⟩))
    go_returns
    exact⟨by rw [HR.out];rfl,growsP⟩
end Go.Proofs.YtfoefpoaomepbaaGreatDoor
