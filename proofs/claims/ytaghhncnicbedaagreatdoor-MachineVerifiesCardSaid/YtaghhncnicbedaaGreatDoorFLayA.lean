import Derived.Test.YtaghhncnicbedaaGreatDoorFEvP
import Derived.Test.YtaghhncnicbedaaGreatDoorFK
import Derived.RangeFuncNested
import Derived.RangeFuncBound
import Derived.RangeFuncCalls
import Derived.RangeFuncLeaves
import Derived.Shelf.Abstract
import Derived.Shelf.RegionOpen
import Derived.WalkKit
import Derived.OwnWalkIn
import Derived.TacticsInMore
import Derived.LoopNIn
import Derived.LoopIn
set_option linter.all false
set_option maxHeartbeats 16000000
set_option maxRecDepth 1000000
namespace Go.Proofs.YtaghhncnicbedaaGreatDoor
open Go.RowKit
theorem operM_any(op:Int)(h:0≤op∧op≤100)(w:World):Calls Tryz.prog 84 #[.int .i64 op] w fun e w'=>e= .returned (.int .i64 (mopF op))∧w=w':=by
 have HM:=Lib.hid (show mopF op=_ from rfl)
 by_cases h4:op=4
 ·subst h4
  exact fz43
 by_cases h5:op=5
 ·subst h5
  exact fz43
 by_cases h6:op=6
 ·subst h6
  exact fz43
 by_cases h19:op=19
 ·subst h19
  exact fz43
 by_cases h20:op=20
 ·subst h20
  exact fz43
 have b4:(op==4)=false:=by simpa using h4
 have b5:(op==5)=false:=by simpa using h5
 have b6:(op==6)=false:=by simpa using h6
 have b19:(op==19)=false:=by simpa using h19
 have b20:(op==20)=false:=by simpa using h20
 have HE:=Lib.hid (show mopF op=op-7+9 by unfold mopF;rw [if_neg h4,if_neg h5,if_neg h6,if_neg h19,if_neg h20];omega)
 clear h4 h5 h6 h19 h20 HM
 have w1:IntKind.i64.wrap (op-7)=op-7:=IntWalk.i64_in _ (by omega)
 have w2:IntKind.i64.wrap (op-7+9)=op-7+9:=IntWalk.i64_in _ (by omega)
 go_enter Tryz.func84,Tryz.ntmps84
 go_wp2_with fail
 go_returns
 exact⟨by rw [HE.out];rfl,rfl⟩
def inpI(s:ByteArray):Int:=match inpK s with|some k=>(k:Int)|none=>-1
theorem inpK_not{s:ByteArray}(h:∀j,j<11→inpNm j≠s):inpK s=none:=by
 cases hk:inpK s with
 |none=>rfl
 |some k=>exact absurd (inpK_some hk).2 (h k (inpK_some hk).1)
theorem inpK_at{s:ByteArray}{k:Nat}(hk:k<11)(hs:inpNm k=s):inpK s=some k:=by
 subst hs
 have key:∀k,k<11→inpK (inpNm k)=some k:=by decide+kernel
 exact key k hk
theorem inpI_at{s:ByteArray}{k:Nat}(hk:k<11)(hs:inpNm k=s):inpI s=k:=by unfold inpI;rw [inpK_at hk hs]
theorem inpI_not{s:ByteArray}(h:∀j,j<11→inpNm j≠s):inpI s= -1:=by unfold inpI;rw [inpK_not h]
theorem inputM_any(s:ByteArray)(w:World):Calls Tryz.prog 83 #[.string s] w fun e w'=>e= .returned (.int .i64 (inpI s))∧w.Grows w':=by
 go_enter Tryz.func83,Tryz.ntmps83
 go_wp2_with (go_at_call 28;refine(Names_any _).mono ?_;rintro e' w' ⟨rfl,rfl⟩)
 go_loopw [4] (fun v4 wr=>∃k:Nat,k≤11∧v4= .int .i64 k∧Hid (∀j,j<k→inpNm j≠s)∧World.Grows (w.alloc (.cells inpA 9)) wr) (fun v4 _=>11-(intOf v4).toNat)
 case atStart=>exact⟨0,by omega,rfl,Lib.hid (fun j hj=>by omega),growsR⟩
 case round=>
  obtain⟨k,hk,rfl,HN,hg⟩:=hrel
  have HG:=Lib.hid hg
  have hb:=(hg.below.block w.heap.size (by simp)).trans (heap_alloc_new _ _)
  have hl:=(Array.getElem?_eq_some_iff.1 hb).1
  by_cases hlt:k<11
  ·have c:=(cell_of_row wr _ k _ _ _ hb).trans (inpA_get k hlt)
   have d1:(k:Int)<11:=by omega
   have HLT:=Lib.hid hlt
   by_cases he:inpNm k=s
   ·have HI:=Lib.hid (inpI_at hlt he)
    rw [he]at c
    clear hb hg hlt hk he HN
    go_wp2_with fail
    go_returns
    exact⟨by rw [HI.out];rfl,World.Grows.trans' growsR HG.out⟩
   ·have HNN:Hid (∀j,j<k+1→inpNm j≠s):=Lib.hid (fun j hj=>by
     by_cases e:j=k
     ·subst e;exact he
     ·exact HN.out j (by omega))
    have q:((inpNm k).toList==s.toList)=false:=by
     have back:∀x:ByteArray,x=⟨x.toList.toArray⟩:=fun x=>by apply ByteArray.ext;rw [ByteArray.toList_eq]
     rw [beq_eq_false_iff_ne]
     exact fun e=>he ((back _).trans ((congrArg (fun l:List UInt8=>(⟨l.toArray⟩:ByteArray)) e).trans (back _).symm))
    generalize inpNm k=nm at *
    clear hb hg hlt hk he HN
    go_wp2_with fail
    go_roundw
    case rel=>exact⟨k+1,HLT.out,by go_num,HNN,World.Grows.trans' HG.out growsR⟩
    case measure=>simp [intOf];have:=HLT.out;omega
  ·obtain rfl:k=11:=by omega
   have HI:=Lib.hid (inpI_not HN.out)
   clear hb hg hlt hk
   go_wp2_with fail
   go_returns
   exact⟨by rw [HI.out];rfl,World.Grows.trans' growsR HG.out⟩
end Go.Proofs.YtaghhncnicbedaaGreatDoor
namespace Go.Proofs.YtaghhncnicbedaaGreatDoor
theorem mk_vfrac{n d:Int}(h:d≠0)(he:mkE n d=0):vfrac (mkN n d) (mkD n d)=true:=by
 rcases mk_ok h (n:=n)with ⟨_,h2⟩|⟨_,_,h3⟩
 ·exact h2
 ·simp only [he]at h3;omega
def dimsOk(env:List (ByteArray × Int)):Bool:=env.all fun p=>decide (1≤p.2∧p.2≤4)
def inferE(env:List (ByteArray × Int))(e:Ex):Int × Int:=if validB e=true∧dimsOk env=true then inferF env e else(0,1)
theorem infNode_name{op m:Int}{a b:Int × Int}{r:List Int × Int}(h:op≠2):infNode op m a r=infNode op m b r:=by
 unfold infNode
 by_cases c:op=1
 ·rw [if_pos c,if_pos c]
 ·rw [if_neg c,if_neg c]
  by_cases c3:op=3
  ·rw [if_pos c3,if_pos c3]
  ·rw [if_neg c3,if_neg c3,if_neg h,if_neg h]
def noM:ByteArray:=⟨#[]⟩
def aNm:ByteArray:=⟨#[97]⟩
def bNm:ByteArray:=⟨#[98]⟩
def nm2(s:ByteArray):Ex:=.mk 2 0 0 0 s []
def op1E(op:Int):Ex:=.mk op 0 0 0 noM [nm2 aNm]
def op2E(op:Int):Ex:=.mk op 0 0 0 noM [nm2 aNm,nm2 bNm]
theorem inf_a(d:Int):inferF [(aNm,d)] (nm2 aNm)=(d,0):=by
 have h:inpD aNm.toList=0:=by decide+kernel
 exact fz54
theorem inf_ab1(d e:Int):inferF [(aNm,d),(bNm,e)] (nm2 aNm)=(d,0):=by
 have h:inpD aNm.toList=0:=by decide+kernel
 have hne:¬bNm=aNm:=by decide
 rw [nm2,inferF,infNode,if_neg (by decide),if_neg (by decide),if_pos rfl,inferN,if_neg (by rw [h];simp)]
 simp [lastN,hne]
theorem inf_ab2(d e:Int):inferF [(aNm,d),(bNm,e)] (nm2 bNm)=(e,0):=by
 have h:inpD bNm.toList=0:=by decide+kernel
 exact fz54
theorem oper_inf1{op d:Int}(ho:op=4∨op=5∨op=6)(hd:1≤d∧d≤4):inferE [(aNm,d)] (op1E op)=if resD op [d]=0 then(0,6)else(resD op [d],0):=by
 have hv:validB (op1E op)=true:=by rcases ho with rfl|rfl|rfl<;>decide+kernel
 have hdm:dimsOk [(aNm,d)]=true:=by simp [dimsOk,hd]
 unfold inferE
 rw [if_pos ⟨hv,hdm⟩,op1E,inferF,infNode,if_neg (by omega),if_neg (by omega),if_neg (by omega),infersF,inf_a,infersF]
 simp
theorem oper_inf2{op d e:Int}(ho:7≤op∧op≤20)(hd:1≤d∧d≤4)(he:1≤e∧e≤4):inferE [(aNm,d),(bNm,e)] (op2E op)=if resD op [d,e]=0 then(0,6)else(resD op [d,e],0):=by
 have hv:validB (op2E op)=true:=by
  rcases(by omega:op=7∨op=8∨op=9∨op=10∨op=11∨op=12∨op=13∨op=14∨op=15∨op=16∨op=17∨op=18∨op=19∨op=20)with rfl|rfl|rfl|rfl|rfl|rfl|rfl|rfl|rfl|rfl|rfl|rfl|rfl|rfl<;>decide+kernel
 have hdm:dimsOk [(aNm,d),(bNm,e)]=true:=by simp [dimsOk,hd,he]
 unfold inferE
 rw [if_pos ⟨hv,hdm⟩,op2E,inferF,infNode,if_neg (by omega),if_neg (by omega),if_neg (by omega),infersF,inf_ab1,infersF,inf_ab2,infersF]
 simp
structure RngS(s:List Int × List Bool)(dims:List Int):Prop where
 stk:∀z∈s.1,1≤z∧z≤4
 set:∀k,s.2.getD k false=true→1≤dims.getD k 0
 len:s.2.length=12
def RngD(dims:List Int):Prop:=dims.length=12∧∀k,0≤dims.getD k 0∧dims.getD k 0≤4
theorem last_rng{l:List Int}(h:∀z∈l,1≤z∧z≤4)(hne:l≠[]):1≤l.getLastD 0∧l.getLastD 0≤4:=h _ (last_mem hne)
theorem inDs_rng{k:Nat}(h:k<11):1≤inDs.getD k 0∧inDs.getD k 0≤4:=by
 have key:∀k,k<11→(1:Int)≤inDs.getD k 0∧inDs.getD k 0≤4:=by decide
 exact key k h
theorem resD_rng{op:Int}{d:List Int}(hd:∀z∈d,1≤z∧z≤4)(h:resD op d≠0):1≤resD op d∧resD op d≤4:=by
 have h0:∀k,0≤d.getD k 0∧d.getD k 0≤4:=fun k=>by
  exact fz52
 have a0:=h0 0;have b0:=h0 1;have c0:=h0 2
 have hp:=resD_pos (fun z hz=>(hd z hz).1) h
 refine⟨hp, ?_⟩
 revert hp
 clear h
 unfold resD
 dsimp only
 generalize d.getD 0 0=a at *
 generalize d.getD 1 0=b at *
 generalize d.getD 2 0=c at *
 intro h
 repeat' split at h
 all_goals(repeat' split)<;>omega
theorem RngS.push{s:List Int × List Bool}{dims:List Int}(h:RngS s dims){z:Int}(hz:1≤z∧z≤4):RngS (s.1++[z],s.2) dims:=
 ⟨fun y hy=>by
  rcases List.mem_append.1 hy with hy|hy
  ·exact h.stk y hy
  ·obtain rfl:=List.mem_singleton.1 hy;exact hz,h.set,h.len⟩
theorem RngS.sub{s:List Int × List Bool}{dims:List Int}(h:RngS s dims){l:List Int}(hl:∀z∈l,z∈s.1):RngS (l,s.2) dims:=⟨fun y hy=>h.stk y (hl y hy),h.set,h.len⟩
theorem appA_rng{m n i:Nat}{x:Ins}{s s':List Int × List Bool}{dims dims':List Int}(hx:wfF m n i x=true)(hm:m≤12)(hs:RngS s dims)(hd:RngD dims)(h:appA x s dims=some (s',dims')) :
 RngS s' dims'∧RngD dims'∧∀k,1≤dims.getD k 0→1≤dims'.getD k 0:=by
 unfold wfF at hx
 unfold appA at h
 by_cases h1:x.op=1
 ·rw [if_pos h1]at hx h
  obtain⟨rfl,rfl⟩:=Prod.mk.inj (Option.some.inj h)
  exact⟨hs.push (by simp at hx;omega),hd,fun _ h=>h⟩
 rw [if_neg h1]at hx h
 by_cases hz:¬(x.n=0∧x.d=0)
 ·rw [if_pos hz]at hx;cases hx
 rw [if_neg hz]at hx
 by_cases h2:x.op=2
 ·rw [if_pos h2]at hx h
  obtain⟨rfl,rfl⟩:=Prod.mk.inj (Option.some.inj h)
  exact⟨hs.push (inDs_rng (by simp at hx;omega)),hd,fun _ h=>h⟩
 rw [if_neg h2]at hx h
 by_cases h5:x.op=5
 ·rw [if_pos h5]at h
  obtain⟨rfl,rfl⟩:=Prod.mk.inj (Option.some.inj h)
  exact⟨hs.push (by omega),hd,fun _ h=>h⟩
 rw [if_neg h5]at h
 by_cases h23:x.op=23∨x.op=24
 ·rw [if_pos h23]at h
  obtain⟨rfl,rfl⟩:=Prod.mk.inj (Option.some.inj h)
  exact⟨hs.push (by omega),hd,fun _ h=>h⟩
 rw [if_neg h23]at h
 by_cases h3:x.op=3
 ·rw [if_pos h3]at h
  by_cases hb:s.2.getD x.a.toNat false=true
  ·rw [if_pos hb]at h
   obtain⟨rfl,rfl⟩:=Prod.mk.inj (Option.some.inj h)
   exact⟨hs.push ⟨hs.set _ hb,(hd.2 _).2⟩,hd,fun _ h=>h⟩
  ·rw [if_neg hb]at h;cases h
 rw [if_neg h3]at h
 by_cases h4:x.op=4
 ·rw [if_pos h4]at h
  rw [if_pos (.inr h4)]at hx
  have ha:x.a.toNat<12:=by simp at hx;omega
  by_cases he:s.1= []
  ·rw [if_pos he]at h;cases h
  rw [if_neg he]at h
  obtain⟨rfl,rfl⟩:=Prod.mk.inj (Option.some.inj h)
  have hl:=last_rng hs.stk he
  have hD:RngD (dims.set x.a.toNat (s.1.getLastD 0)):=⟨by rw [List.length_set];exact hd.1,fun k=>by
   rw [getD_setI]
   split
   ·omega
   ·exact hd.2 k⟩
  refine⟨⟨fun z hz=>hs.stk z (List.dropLast_subset _ hz),fun k hk=>?_,by rw [List.length_set];exact hs.len⟩,hD,fun k hk=>?_⟩
  ·rw [getD_setI]at hk ⊢
   by_cases e:x.a.toNat=k
   ·rw [if_pos ⟨e,by rw [hd.1];omega⟩];exact hl.1
   ·rw [if_neg (fun c=>e c.1)]at hk ⊢
    exact hs.set k hk
  ·rw [getD_setI]
   split
   ·exact hl.1
   ·exact hk
 rw [if_neg h4]at h
 by_cases h22:x.op=22
 ·rw [if_pos h22]at h
  by_cases he:s.1= []∨s.1.getLastD 0≠1
  ·rw [if_pos he]at h;cases h
  rw [if_neg he]at h
  obtain⟨rfl,rfl⟩:=Prod.mk.inj (Option.some.inj h)
  exact⟨hs.sub fun z hz=>List.dropLast_subset _ hz,hd,fun _ h=>h⟩
 rw [if_neg h22]at h
 by_cases h21:x.op=21
 ·rw [if_pos h21]at h
  obtain⟨rfl,rfl⟩:=Prod.mk.inj (Option.some.inj h)
  exact⟨hs,hd,fun _ h=>h⟩
 rw [if_neg h21]at h
 by_cases hl:s.1.length<ariF (opF x.op)
 ·rw [if_pos hl]at h;cases h
 rw [if_neg hl]at h
 by_cases hr:resD (opF x.op) (s.1.drop (s.1.length-ariF (opF x.op)))=0
 ·rw [if_pos hr]at h;cases h
 rw [if_neg hr]at h
 obtain⟨rfl,rfl⟩:=Prod.mk.inj (Option.some.inj h)
 have hp:=resD_rng (fun z hz=>hs.stk z (List.mem_of_mem_drop hz)) hr
 exact⟨(hs.sub (l:=s.1.take (s.1.length-ariF (opF x.op))) fun z hz=>List.mem_of_mem_take hz).push hp,hd,fun _ h=>h⟩
end Go.Proofs.YtaghhncnicbedaaGreatDoor
namespace Go.Proofs.YtaghhncnicbedaaGreatDoor
open Go.RowKit
theorem Input2_any(s:ByteArray)(w:World):Calls Tryz.prog 89 #[.string s] w fun e w'=>e= .returned (.tuple #[.int .i64 (inpD s.toList),.bool (decide (inpD s.toList≠0))])∧w=w':=by
 go_enter Tryz.func89,Tryz.ntmps89
 exact fz46
theorem ret_int{a b:Int}(h:a=b):Ending.returned (.int .i64 a)= .returned (.int .i64 b):=by rw [h]
def Res2P(r:Int)(w:World)(e:Ending)(w':World):Prop:=(∃m,e= .returned (.tuple #[.int .i64 m,.bool (decide (r≠0))])∧(r≠0→m=r))∧w.Grows w'
def Res5P(r:Int)(w:World)(e:Ending)(w':World):Prop:=e= .returned (.int .i64 r)∧w.Grows w'
theorem res2P{m r:Int}{q:Bool}{w w':World}(h1:q=decide (r≠0))(h2:r≠0→m=r)(hg:w.Grows w'):Res2P r w (.returned (.tuple #[.int .i64 m,.bool q])) w':=⟨⟨m,by rw [h1],h2⟩,hg⟩
theorem res5P{m r:Int}{w w':World}(h:m=r)(hg:w.Grows w'):Res5P r w (.returned (.int .i64 m)) w':=⟨by rw [h],hg⟩

theorem res2_4(x:Int)(b off cap:Nat)(w:World)(c0:w.cell? ⟨b,off,none⟩=some (.int .i64 x))(hX:1≤x):Calls Tryz.prog 206 #[.int .i64 4,.slice (some ⟨b,off,none⟩) 1 cap] w (Res2P (resD 4 [x]) w):=by
 have HR:Hid (resD 4 [x]=resD 4 [x]):=Lib.hid rfl
 generalize hR:resD 4 [x]=R at HR ⊢
 exact fz29
theorem res2_5(x:Int)(b off cap:Nat)(w:World)(c0:w.cell? ⟨b,off,none⟩=some (.int .i64 x))(hX:1≤x):Calls Tryz.prog 206 #[.int .i64 5,.slice (some ⟨b,off,none⟩) 1 cap] w (Res2P (resD 5 [x]) w):=by
 have HR:Hid (resD 5 [x]=resD 5 [x]):=Lib.hid rfl
 generalize hR:resD 5 [x]=R at HR ⊢
 exact fz29
theorem res2_6(x:Int)(b off cap:Nat)(w:World)(c0:w.cell? ⟨b,off,none⟩=some (.int .i64 x))(hX:1≤x):Calls Tryz.prog 206 #[.int .i64 6,.slice (some ⟨b,off,none⟩) 1 cap] w (Res2P (resD 6 [x]) w):=by
 have HR:Hid (resD 6 [x]=resD 6 [x]):=Lib.hid rfl
 generalize hR:resD 6 [x]=R at HR ⊢
 exact fz29
theorem res2_7(x y:Int)(b off cap:Nat)(w:World)(c0:w.cell? ⟨b,off,none⟩=some (.int .i64 x))(c1:w.cell? ⟨b,off+1,none⟩=some (.int .i64 y))(hX:1≤x∧1≤y):Calls Tryz.prog 206 #[.int .i64 7,.slice (some ⟨b,off,none⟩) 2 cap] w (Res2P (resD 7 [x,y]) w):=by
 have HR:Hid (resD 7 [x,y]=resD 7 [x,y]):=Lib.hid rfl
 generalize hR:resD 7 [x,y]=R at HR ⊢
 exact fz2
theorem res2_8(x y:Int)(b off cap:Nat)(w:World)(c0:w.cell? ⟨b,off,none⟩=some (.int .i64 x))(c1:w.cell? ⟨b,off+1,none⟩=some (.int .i64 y))(hX:1≤x∧1≤y):Calls Tryz.prog 206 #[.int .i64 8,.slice (some ⟨b,off,none⟩) 2 cap] w (Res2P (resD 8 [x,y]) w):=by
 have HR:Hid (resD 8 [x,y]=resD 8 [x,y]):=Lib.hid rfl
 generalize hR:resD 8 [x,y]=R at HR ⊢
 exact fz2
theorem res2_9(x y:Int)(b off cap:Nat)(w:World)(c0:w.cell? ⟨b,off,none⟩=some (.int .i64 x))(c1:w.cell? ⟨b,off+1,none⟩=some (.int .i64 y))(hX:1≤x∧1≤y):Calls Tryz.prog 206 #[.int .i64 9,.slice (some ⟨b,off,none⟩) 2 cap] w (Res2P (resD 9 [x,y]) w):=by
 have HR:Hid (resD 9 [x,y]=resD 9 [x,y]):=Lib.hid rfl
 generalize hR:resD 9 [x,y]=R at HR ⊢
 clear HR
 have HR:=Lib.hid hR
 have HX:=Lib.hid hX
 clear hR hX
 go_enter Tryz.func206,Tryz.ntmps206
 by_cases e1:x=2
 focus
  subst e1
 rotate_left
 focus
  have f1:(x==2)=false:=by simpa using e1
  have g1:(2==x)=false:=by simpa using fun h=>e1 h.symm
 rotate_left
 all_goals
  by_cases e2:y=2
  focus
   subst e2
  rotate_left
  focus
   have f2:(y==2)=false:=by simpa using e2
   have g2:(2==y)=false:=by simpa using fun h=>e2 h.symm
  rotate_left
  all_goals
   exact fz0
theorem res2_10(x y:Int)(b off cap:Nat)(w:World)(c0:w.cell? ⟨b,off,none⟩=some (.int .i64 x))(c1:w.cell? ⟨b,off+1,none⟩=some (.int .i64 y))(hX:1≤x∧1≤y):Calls Tryz.prog 206 #[.int .i64 10,.slice (some ⟨b,off,none⟩) 2 cap] w (Res2P (resD 10 [x,y]) w):=by
 have HR:Hid (resD 10 [x,y]=resD 10 [x,y]):=Lib.hid rfl
 generalize hR:resD 10 [x,y]=R at HR ⊢
 clear HR
 have HR:=Lib.hid hR
 have HX:=Lib.hid hX
 clear hR hX
 go_enter Tryz.func206,Tryz.ntmps206
 by_cases e1:y=2
 ·subst e1
  by_cases e2:x=2
  focus
   subst e2
  rotate_left
  focus
   have f2:(x==2)=false:=by simpa using e2
   have g2:(2==x)=false:=by simpa using fun h=>e2 h.symm
  rotate_left
  all_goals
   exact fz0
 ·have f1:(y==2)=false:=by simpa using e1
  have g1:(2==y)=false:=by simpa using fun h=>e1 h.symm
  by_cases e2:x=y
  focus
   subst e2
  rotate_left
  focus
   have f2:(x==y)=false:=by simpa using e2
   have g2:(y==x)=false:=by simpa using fun h=>e2 h.symm
  rotate_left
  all_goals
   exact fz0
theorem res2_11(x y:Int)(b off cap:Nat)(w:World)(c0:w.cell? ⟨b,off,none⟩=some (.int .i64 x))(c1:w.cell? ⟨b,off+1,none⟩=some (.int .i64 y))(hX:1≤x∧1≤y):Calls Tryz.prog 206 #[.int .i64 11,.slice (some ⟨b,off,none⟩) 2 cap] w (Res2P (resD 11 [x,y]) w):=by
 have HR:Hid (resD 11 [x,y]=resD 11 [x,y]):=Lib.hid rfl
 generalize hR:resD 11 [x,y]=R at HR ⊢
 exact fz2
theorem res2_12(x y:Int)(b off cap:Nat)(w:World)(c0:w.cell? ⟨b,off,none⟩=some (.int .i64 x))(c1:w.cell? ⟨b,off+1,none⟩=some (.int .i64 y))(hX:1≤x∧1≤y):Calls Tryz.prog 206 #[.int .i64 12,.slice (some ⟨b,off,none⟩) 2 cap] w (Res2P (resD 12 [x,y]) w):=by
 have HR:Hid (resD 12 [x,y]=resD 12 [x,y]):=Lib.hid rfl
 generalize hR:resD 12 [x,y]=R at HR ⊢
 exact fz2
theorem res2_13(x y:Int)(b off cap:Nat)(w:World)(c0:w.cell? ⟨b,off,none⟩=some (.int .i64 x))(c1:w.cell? ⟨b,off+1,none⟩=some (.int .i64 y))(hX:1≤x∧1≤y):Calls Tryz.prog 206 #[.int .i64 13,.slice (some ⟨b,off,none⟩) 2 cap] w (Res2P (resD 13 [x,y]) w):=by
 have HR:Hid (resD 13 [x,y]=resD 13 [x,y]):=Lib.hid rfl
 generalize hR:resD 13 [x,y]=R at HR ⊢
 exact fz2
theorem res2_14(x y:Int)(b off cap:Nat)(w:World)(c0:w.cell? ⟨b,off,none⟩=some (.int .i64 x))(c1:w.cell? ⟨b,off+1,none⟩=some (.int .i64 y))(hX:1≤x∧1≤y):Calls Tryz.prog 206 #[.int .i64 14,.slice (some ⟨b,off,none⟩) 2 cap] w (Res2P (resD 14 [x,y]) w):=by
 have HR:Hid (resD 14 [x,y]=resD 14 [x,y]):=Lib.hid rfl
 generalize hR:resD 14 [x,y]=R at HR ⊢
 exact fz2
theorem res2_15(x y:Int)(b off cap:Nat)(w:World)(c0:w.cell? ⟨b,off,none⟩=some (.int .i64 x))(c1:w.cell? ⟨b,off+1,none⟩=some (.int .i64 y))(hX:1≤x∧1≤y):Calls Tryz.prog 206 #[.int .i64 15,.slice (some ⟨b,off,none⟩) 2 cap] w (Res2P (resD 15 [x,y]) w):=by
 have HR:Hid (resD 15 [x,y]=resD 15 [x,y]):=Lib.hid rfl
 generalize hR:resD 15 [x,y]=R at HR ⊢
 exact fz2
theorem res2_16(x y:Int)(b off cap:Nat)(w:World)(c0:w.cell? ⟨b,off,none⟩=some (.int .i64 x))(c1:w.cell? ⟨b,off+1,none⟩=some (.int .i64 y))(hX:1≤x∧1≤y):Calls Tryz.prog 206 #[.int .i64 16,.slice (some ⟨b,off,none⟩) 2 cap] w (Res2P (resD 16 [x,y]) w):=by
 have HR:Hid (resD 16 [x,y]=resD 16 [x,y]):=Lib.hid rfl
 generalize hR:resD 16 [x,y]=R at HR ⊢
 exact fz2
theorem res2_17(x y:Int)(b off cap:Nat)(w:World)(c0:w.cell? ⟨b,off,none⟩=some (.int .i64 x))(c1:w.cell? ⟨b,off+1,none⟩=some (.int .i64 y))(hX:1≤x∧1≤y):Calls Tryz.prog 206 #[.int .i64 17,.slice (some ⟨b,off,none⟩) 2 cap] w (Res2P (resD 17 [x,y]) w):=by
 have HR:Hid (resD 17 [x,y]=resD 17 [x,y]):=Lib.hid rfl
 generalize hR:resD 17 [x,y]=R at HR ⊢
 exact fz13
theorem res2_18(x y:Int)(b off cap:Nat)(w:World)(c0:w.cell? ⟨b,off,none⟩=some (.int .i64 x))(c1:w.cell? ⟨b,off+1,none⟩=some (.int .i64 y))(hX:1≤x∧1≤y):Calls Tryz.prog 206 #[.int .i64 18,.slice (some ⟨b,off,none⟩) 2 cap] w (Res2P (resD 18 [x,y]) w):=by
 have HR:Hid (resD 18 [x,y]=resD 18 [x,y]):=Lib.hid rfl
 generalize hR:resD 18 [x,y]=R at HR ⊢
 exact fz13
theorem res2_19(x y:Int)(b off cap:Nat)(w:World)(c0:w.cell? ⟨b,off,none⟩=some (.int .i64 x))(c1:w.cell? ⟨b,off+1,none⟩=some (.int .i64 y))(hX:1≤x∧1≤y):Calls Tryz.prog 206 #[.int .i64 19,.slice (some ⟨b,off,none⟩) 2 cap] w (Res2P (resD 19 [x,y]) w):=by
 have HR:Hid (resD 19 [x,y]=resD 19 [x,y]):=Lib.hid rfl
 generalize hR:resD 19 [x,y]=R at HR ⊢
 exact fz2
theorem res2_20(x y:Int)(b off cap:Nat)(w:World)(c0:w.cell? ⟨b,off,none⟩=some (.int .i64 x))(c1:w.cell? ⟨b,off+1,none⟩=some (.int .i64 y))(hX:1≤x∧1≤y):Calls Tryz.prog 206 #[.int .i64 20,.slice (some ⟨b,off,none⟩) 2 cap] w (Res2P (resD 20 [x,y]) w):=by
 have HR:Hid (resD 20 [x,y]=resD 20 [x,y]):=Lib.hid rfl
 generalize hR:resD 20 [x,y]=R at HR ⊢
 exact fz2
theorem res2_21(x y z:Int)(b off cap:Nat)(w:World)(c0:w.cell? ⟨b,off,none⟩=some (.int .i64 x))(c1:w.cell? ⟨b,off+1,none⟩=some (.int .i64 y))(c2:w.cell? ⟨b,off+2,none⟩=some (.int .i64 z))(hX:1≤x∧1≤y∧1≤z):Calls Tryz.prog 206 #[.int .i64 21,.slice (some ⟨b,off,none⟩) 3 cap] w (Res2P (resD 21 [x,y,z]) w):=by
 have HR:Hid (resD 21 [x,y,z]=resD 21 [x,y,z]):=Lib.hid rfl
 generalize hR:resD 21 [x,y,z]=R at HR ⊢
 exact fz13
abbrev bdN(l:List (ByteArray × Int))(i:Nat):ByteArray:=(l.getD i (ByteArray.empty,0)).1
abbrev bdD(l:List (ByteArray × Int))(i:Nat):Int:=(l.getD i (ByteArray.empty,0)).2
def BindAt(w:World)(v:Value)(l:List (ByteArray × Int)):Prop:=
 l.length≤1000∧∃a cap,v= .slice a l.length cap∧(l.length=0∨∃b off,a=some ⟨b,off,none⟩∧b<w.heap.size∧∀i,i<l.length→w.cell? ⟨b,off+i*2,none⟩=some (.string (bdN l i))∧w.cell? ⟨b,off+i*2+1,none⟩=some (.int .i64 (bdD l i)))
theorem BindAt.below{w w':World}{v:Value}{l:List (ByteArray × Int)}{n:Nat}(h:BindAt w v l)(hn:w.heap.size≤n)(hb:Below n w w'):BindAt w' v l:=by
 obtain⟨h0,a,cap,hv,h1⟩:=h
 refine⟨h0,a,cap,hv,h1.imp id ?_⟩
 rintro⟨b,off,ha,hlt,hc⟩
 refine⟨b,off,ha,Nat.lt_of_lt_of_le hlt hb.size,fun i hi=>?_⟩
 rw [hb.cell (p:=⟨b,off+i*2,none⟩) (Nat.lt_of_lt_of_le hlt hn),hb.cell (p:=⟨b,off+i*2+1,none⟩) (Nat.lt_of_lt_of_le hlt hn)]
 exact hc i hi
theorem BindAt.grows{w w':World}{v:Value}{l:List (ByteArray × Int)}(h:BindAt w v l)(hg:w.Grows w'):BindAt w' v l:=h.below (Nat.le_refl _) hg.below
theorem BindAt.grow{w:World}{v:Value}{l:List (ByteArray × Int)}(h:BindAt w v l)(bs:Array Obj)(d:Nat):BindAt (w.grow bs d) v l:=h.grows ⟨bs,d,rfl⟩
theorem BindAt.alloc{w:World}{v:Value}{l:List (ByteArray × Int)}(h:BindAt w v l)(o:Obj):BindAt (w.alloc o) v l:=h.below (Nat.le_refl _) ((Below.refl _ _).alloc (Nat.le_refl _) _)
def PredB(g:FuncId)(lb:Array Value)(l:List (ByteArray × Int))(p:Nat→Bool)(w:World):Prop:=
 ∀k,k<l.length→∀w',w.Grows w'→Calls Tryz.prog g (#[.agg #[.string (bdN l k),.int .i64 (bdD l k)]]++lb) w' fun r w''=>r= .returned (.bool (p k))∧w'.Grows w''
theorem idxB_any(g:FuncId)(lb:Array Value)(eg:∀args w,(callFunc g args).run Tryz.prog w= .ok (.enter g args) w)(l:List (ByteArray × Int))(v:Value)(p:Nat→Bool)(w:World)(h:BindAt w v l)(hp:Hid (PredB g lb l p w)) :
 Calls Tryz.prog 204 #[v,.func (.func g) #[] lb] w fun r w'=>(∃z,r= .returned (.int .i64 z)∧IdxE l.length p z)∧w.Grows w':=by
 obtain⟨hlen,a,cap,rfl,hc⟩:=h
 have Hc:=Lib.hid hc
 clear hc
 go_enter Tryz.func204,Tryz.ntmps204
 go_wp2_with fail
 go_loopw [5,8] (fun _ v8 wr=>∃k:Nat,k≤l.length∧v8= .int .i64 k∧Hid (∀j,j<k→p j=false)∧w.Grows wr) (fun _ v8 _=>l.length-(intOf v8).toNat)
 case atStart=>exact⟨0,by omega,rfl,Lib.hid (fun j hj=>by omega),.refl _⟩
 case round=>
  obtain⟨k,hk,rfl,hno,hgr⟩:=hrel
  have HG:=Lib.hid hgr
  by_cases hlt2:k<l.length
  ·rcases Hc.out with h0|⟨b,off,rfl,hbw,hx⟩
   ·omega
   ·obtain⟨x0,x1⟩:=hx k hlt2
    have y0:wr.cell? ⟨b,off+k*2,none⟩=some (.string (bdN l k)):=by rw [hgr.below.cell (p:=⟨b,off+k*2,none⟩) hbw];exact x0
    have y1:wr.cell? ⟨b,off+k*2+1,none⟩=some (.int .i64 (bdD l k)):=by rw [hgr.below.cell (p:=⟨b,off+k*2+1,none⟩) hbw];exact x1
    clear hx x0 x1
    have d1:(k:Int)<(l.length:Int):=by omega
    have hcall:=hp.out k hlt2 _ hgr
    generalize bdN l k=nk at *
    generalize bdD l k=dk at *
    have HLT:=Lib.hid hlt2
    clear hgr
    cases hq:p k with
    |true=>
     rw [hq]at hcall
     have HQ:=Lib.hid hq
     clear hq
     have HCL:=Lib.hid hcall
     clear hcall
     go_wp2_with (go_at_fn g;refine HCL.out.mono ?_;rintro e' w' ⟨rfl,hg2⟩;have HG2:=Lib.hid hg2;clear hg2)
     go_returns
     exact⟨⟨_,rfl,.inr ⟨k,HLT.out,rfl,HQ.out⟩⟩,World.Grows.trans HG.out HG2.out⟩
    |false=>
     rw [hq]at hcall
     have HQ:=Lib.hid hq
     clear hq
     have HCL:=Lib.hid hcall
     clear hcall
     go_wp2_with (go_at_fn g;refine HCL.out.mono ?_;rintro e' w' ⟨rfl,hg2⟩;have HG2:=Lib.hid hg2;clear hg2)
     go_roundw
     case rel=>exact⟨k+1,by omega,by go_num,Lib.hid (fun j hj=>by
      by_cases ej:j=k
      ·subst ej;exact HQ.out
      ·exact hno.out j (by omega)),World.Grows.trans HG.out HG2.out⟩
     case measure=>simp [intOf];omega
  ·obtain rfl:k=l.length:=by omega
   clear hgr
   go_wp2_with fail
   go_returns
   exact⟨⟨_,rfl,.inl ⟨rfl,hno.out⟩⟩,HG.out⟩
theorem containsB_any(g:FuncId)(lb:Array Value)(eg:∀args w,(callFunc g args).run Tryz.prog w= .ok (.enter g args) w)(l:List (ByteArray × Int))(v:Value)(p:Nat→Bool)(w:World)(h:BindAt w v l)(hp:Hid (PredB g lb l p w)) :
 Calls Tryz.prog 184 #[v,.func (.func g) #[] lb] w fun r w'=>r= .returned (.bool ((List.range l.length).any p))∧w.Grows w':=by
 have HI:=Lib.hid (idxB_any g lb eg l v p w h hp)
 obtain⟨-,a,cap,rfl,-⟩:=h
 clear hp
 generalize hX:(List.range l.length).any p=X
 have HX:=Lib.hid hX
 clear hX
 go_enter Tryz.func184,Tryz.ntmps184
 go_wp2_with (go_at_call 204;refine HI.out.mono ?_;rintro e' w' ⟨⟨z,rfl,hz⟩,bs2,d2,rfl⟩;have HZ:=Lib.hid hz.any;clear hz)
 go_returns
 exact⟨ret_bool (by rw [←HX.out,←HZ.out]),.of_below belB⟩
theorem badB_clos:∀args w,(callFunc 185 args).run Tryz.prog w= .ok (.enter 185 args) w:=enters_of Tryz.func185 (by kernel_rfl) rfl
theorem badB_one(n:ByteArray)(d:Int)(w:World):Calls Tryz.prog 185 #[.agg #[.string n,.int .i64 d]] w fun r w'=>r= .returned (.bool (!decide (1≤d∧d≤4)))∧w.Grows w':=by
 by_cases h1:d<1
 ·go_enter Tryz.func185,Tryz.ntmps185
  exact fz15
 ·by_cases h2:d > 4
  ·go_enter Tryz.func185,Tryz.ntmps185
   exact fz15
  ·go_enter Tryz.func185,Tryz.ntmps185
   exact fz15
end Go.Proofs.YtaghhncnicbedaaGreatDoor
namespace Go.Proofs.YtaghhncnicbedaaGreatDoor
open Go.RowKit Go.Shelf
attribute [local go_sem] Oper.semAt_some
def backs(n k:Nat):List (Fin n):=(List.finRange n).reverse.take k
theorem backs_succ(n k:Nat)(i:Fin n)(hk:k<n)(hi:n-1-k=i.1):backs n (k+1)=backs n k++[i]:=by
 have hl:k<(List.finRange n).reverse.length:=by simpa using hk
 unfold backs
 rw [List.take_succ_eq_append_getElem hl]
 congr 2
 apply Fin.ext
 rw [List.getElem_reverse]
 simp
 omega
theorem backs_length(n k:Nat)(hk:k≤n):(backs n k).length=k:=by simp [backs,hk]
theorem backs_mem{n k:Nat}(i:Fin n)(hk:n≤i.1+k):i∈backs n k:=by
 unfold backs
 have hl:n-1-i.1<(List.finRange n).reverse.length:=by simp;omega
 have he:(List.finRange n).reverse[n-1-i.1]=i:=by
  apply Fin.ext
  rw [List.getElem_reverse]
  simp
  omega
 rw [List.mem_take_iff_getElem]
 exact⟨n-1-i.1,by simp;omega,he⟩
abbrev BRow:=List (ByteArray × Int)
def BRow.el(x:BRow)(i:Nat):Value:=.agg #[.string (bdN x i),.int .i64 (bdD x i)]
def BRow.Lies(x:BRow)(n₀:Nat)(W:World)(v:Value)(n:Nat):Prop:=
 n≤1000∧∃a cap,v= .slice a n cap∧(n=0∨∃b off,a=some ⟨b,off,none⟩∧b<n₀∧∀i,i<n→W.cell? ⟨b,off+i*2,none⟩=some (.string (bdN x i))∧W.cell? ⟨b,off+i*2+1,none⟩=some (.int .i64 (bdD x i)))
theorem BRow.Lies.below{x:BRow}{n₀ n:Nat}{W W':World}{v:Value}(h:BRow.Lies x n₀ W v n)(hb:Below n₀ W W'):BRow.Lies x n₀ W' v n:=by
 obtain⟨h0,a,cap,hv,h1⟩:=h
 refine⟨h0,a,cap,hv,h1.imp id ?_⟩
 rintro⟨b,off,ha,hlt,hc⟩
 refine⟨b,off,ha,hlt,fun i hi=>?_⟩
 rw [hb.cell (p:=⟨b,off+i*2,none⟩) hlt,hb.cell (p:=⟨b,off+i*2+1,none⟩) hlt]
 exact hc i hi
theorem BindAt.lies{W:World}{v:Value}{l:List (ByteArray × Int)}(h:BindAt W v l):BRow.Lies l W.heap.size W v l.length:=h
theorem backB1_in(F:Fence)(n:Nat)(hf:F.fn 232)(hro:F.round=none)(hn:1≤n)(l Bs n₀ len:Nat)(x:BRow)(v:Value)(J Jx:List (Fin len)→World→Prop)
 (hY:∀pre (i:Fin len) W,J pre W→pre.length<len→YieldAt F (n-1) Tryz.prog l #[.int .i64 ((i.1:Nat):Int),x.el i.1] W fun e W'=>
  (e= .returned (.bool true)∧J (pre++[i]) W'∧Below n₀ W W')∨(e= .returned (.bool false)∧Jx (pre++[i]) W'))
 (W:World) (hBs:W.cell? ⟨Bs,0,none⟩=some v) (hBl:Bs<n₀) (hL:x.Lies n₀ W v len) (h0:J [] W) :
 CallsIn F n Tryz.prog 232 #[.func (.yield l) #[] #[],.pointer (some ⟨Bs,0,none⟩)] W fun e W'=>(∃v,e= .returned v)∧
  ((∃ys,ys=backs len len∧J ys W')∨(∃pre,(∃k,k<len∧pre=backs len (k+1))∧Jx pre W')):=by
 have HL:=Lib.hid hL
 obtain⟨h1000,a,cap,rfl,-⟩:=hL
 refine callsIn_of_wp Tryz.func232 rfl hf ?_ hro
 simp only [Tryz.ntmps232,List.size_toArray,List.length_cons,List.length_nil,Nat.reduceAdd,Nat.reduceSub,Array.replicate_succ,Array.replicate_zero,List.push_toArray,List.append_toArray,List.nil_append,List.cons_append]
 gi_wp2
 gi_loopw [3] (fun vi wr=>∃k:Nat,k≤len∧vi= .int .i64 ((len:Int)-1-k)∧J (backs len k) wr∧Below n₀ W wr) (fun vi _=>(intOf vi+1).toNat)
 case atStart=>exact⟨0,Nat.zero_le _,by simp,h0,Below.refl _ _⟩
 case round=>
  obtain⟨k,hk,rfl,hJs,hnx⟩:=hrel
  by_cases hlt:k<len
  ·have hcs:=(hnx.cell (p:=⟨Bs,0,none⟩) hBl).trans hBs
   have hLr:=HL.out.below hnx
   obtain⟨-,a',cap',hv,hx⟩:=hLr
   simp only [Value.slice.injEq,true_and]at hv
   obtain⟨rfl,rfl⟩:=hv
   rcases hx with hx|⟨b,off,rfl,hb,hx⟩
   ·omega
   obtain⟨i,hi⟩:∃i:Nat,(len:Int)-1-k=i:=⟨len-1-k,by omega⟩
   have hii:i<len:=by omega
   have hik:len-1-k=i:=by omega
   obtain⟨q0,q1⟩:=hx i hii
   obtain⟨fn,tmps,assign,body,hy,hR⟩:=hY _ ⟨i,hii⟩ wr hJs (by rw [backs_length _ _ hk];exact hlt)
   simp only at hy
   unfold BRow.el at hy
   unfold bdN at hy q0
   unfold bdD at hy q1
   generalize(x.getD i (ByteArray.empty,0)).1=z0 at *
   generalize(x.getD i (ByteArray.empty,0)).2=z1 at *
   have d1:(i:Int)<(len:Int):=by omega
   have d0:(0:Int)≤(i:Int):=by omega
   have hlen1:(len:Int)≤1000:=by omega
   rw [hi]
   have HI:=Lib.hid hi
   have HIK:=Lib.hid hik
   clear hx hi hik hBs h0
   gi_wp2
   refine hR.mono ?_
   rintro e W3 (⟨rfl,hJ3,hk3⟩|⟨rfl,hJx3⟩)
   ·gi_wp2
    go_roundw
    case rel=>exact⟨k+1,by omega,by have:=HI.out;first|(congr 1;omega)|(simp;omega),by rw [backs_succ _ _ ⟨i,hii⟩ hlt HIK.out];exact hJ3,hnx.trans hk3⟩
    case measure=>first|(simp [intOf];done)|(simp [intOf];omega)
   ·gi_wp2
    refine bodyPost_ret (results_none rfl _ _ _) rfl ?_
    exact⟨⟨_,rfl⟩,.inr ⟨_,⟨k,hlt,by rw [backs_succ _ _ ⟨i,hii⟩ hlt HIK.out]⟩,hJx3⟩⟩
  ·obtain rfl:k=len:=by omega
   have hz:(k:Int)-1-k= -1:=by omega
   rw [hz]
   clear hz
   gi_wp2
   go_end0
   exact⟨⟨_,rfl⟩,.inl ⟨_,rfl,hJs⟩⟩
theorem backB_in(F:Fence)(n:Nat)(hf:F.fn 222)(hro:F.round=none)(a:Option Addr)(len cap:Nat)(w:World) :
 CallsIn F n Tryz.prog 222 #[.slice a len cap] w fun e w'=>e= .returned (.func (.func 232) #[] #[.pointer (some ⟨w.heap.size,0,none⟩)])∧w'=w.alloc (.cells #[.slice a len cap] 87):=by
 refine callsIn_of_wp Tryz.func222 rfl hf ?_ hro
 simp only [Tryz.ntmps222,List.size_toArray,List.length_cons,List.length_nil,Nat.reduceAdd,Nat.reduceSub,Array.replicate_succ,Array.replicate_zero,List.push_toArray,List.append_toArray,List.nil_append,List.cons_append]
 gi_wp2
 go_ret
 exact⟨rfl,rfl⟩
theorem backB_stops(F:Fence)(n:Nat)(hf:F.fn 232)(hro:F.round=none)(hn:1≤n)(Bs n₀:Nat)(v:Value)(x:BRow)(len:Nat)(w:World)(hBs:Bs<n₀)(hn₀:n₀≤w.heap.size)
 (hc:w.cell? ⟨Bs,0,none⟩=some v) (hL:x.Lies n₀ w v len) :
 SeqStopsK F n Tryz.prog 232 #[.pointer (some ⟨Bs,0,none⟩)] (fun i:Fin len=>#[Value.int .i64 ((i.1:Nat):Int),x.el i.1]) (Below n₀) (fun ys=>ys=backs len len)
  (fun pre=>∃k,k<len∧pre=backs len (k+1)) len w:=fun l J Jx W hW _ _ hY h0=>
 backB1_in F n hf hro hn l Bs n₀ len x v J Jx hY W ((hW.cell (p:=⟨Bs,0,none⟩) (by show Bs<w.heap.size;omega)).trans hc) hBs (hL.below (hW.mono hn₀)) h0
end Go.Proofs.YtaghhncnicbedaaGreatDoor
namespace Go.Proofs.YtaghhncnicbedaaGreatDoor
def cntS(l:List Ins)(k a:Nat):Nat:=(setsF (l.take k)).count a
theorem cntS_zero(l:List Ins)(a:Nat):cntS l 0 a=0:=by simp [cntS,setsF]
theorem setsF_append(l r:List Ins):setsF (l++r)=setsF l++setsF r:=by simp [setsF]
theorem take_one{l:List Ins}{k:Nat}(hk:k<l.length):l.take (k+1)=l.take k++[l.getD k default]:=by
 exact fz33
theorem cntS_set{l:List Ins}{k:Nat}(hk:k<l.length)(h:(l.getD k default).op=4)(a:Nat) :
 cntS l (k+1) a=cntS l k a+if(l.getD k default).a.toNat=a then 1 else 0:=by
 unfold cntS
 rw [take_one hk,setsF_append,List.count_append]
 congr 1
 have e:setsF [l.getD k default]= [(l.getD k default).a.toNat]:=by rw [setsF_cons,if_pos h];rfl
 rw [e,List.count_singleton]
 by_cases hx:(l.getD k default).a.toNat=a
 ·simp [hx]
 ·simp [hx]
theorem cntS_skip{l:List Ins}{k:Nat}(hk:k<l.length)(h:(l.getD k default).op≠4)(a:Nat) :
 cntS l (k+1) a=cntS l k a:=by
 unfold cntS
 rw [take_one hk,setsF_append,List.count_append]
 have e:setsF [l.getD k default]= []:=by rw [setsF_cons,if_neg h];rfl
 rw [e];simp
theorem cntS_mono(l:List Ins)(k a:Nat):cntS l k a≤(setsF l).count a:=by
 unfold cntS
 have:setsF l=setsF (l.take k)++setsF (l.drop k):=by rw [←setsF_append,List.take_append_drop]
 rw [this,List.count_append];omega
theorem nodup_of_cnt{l:List Ins}(h:∀a,cntS l l.length a≤1):(setsF l).Nodup:=by
 rw [List.nodup_iff_count]
 intro a
 have:=h a
 unfold cntS at this
 rwa [List.take_length]at this
theorem not_nodup_of_cnt{l:List Ins}{k a:Nat}(h:1<cntS l k a):¬(setsF l).Nodup:=by
 intro hn
 have h1:=List.nodup_iff_count.1 hn a
 have h2:=cntS_mono l k a
 omega
end Go.Proofs.YtaghhncnicbedaaGreatDoor
