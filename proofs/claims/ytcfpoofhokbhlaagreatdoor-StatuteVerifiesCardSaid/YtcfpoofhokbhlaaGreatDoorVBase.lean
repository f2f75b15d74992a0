import Derived.Test.YtcfpoofhokbhlaaGreatDoorProg
import Derived.WalkKit
import Derived.WalkSpells
import Derived.WalkLawsBesides
import Derived.Handy
import Derived.BigQuiet
import Derived.Deep.RegionHeld3
import Derived.Deep.AppendLies
import Derived.StillTail
import Derived.OrdersHeld
import Derived.RegionTactic
set_option linter.all false
set_option maxHeartbeats 16000000
set_option maxRecDepth 1000000
namespace Go
open Go.RowKit
variable {w : World} {bs : Array Obj} {d : Nat}

def World.grow(w:World)(bs:Array Obj)(d:Nat):World:={w with heap:=w.heap++bs,drawn:=d}

@[go_sem,simp] theorem World.size_grow(w:World)(bs:Array Obj)(d:Nat):(w.grow bs d).heap.size=w.heap.size+bs.size:=by simp [World.grow]
theorem World.heap_grow(w:World)(bs:Array Obj)(d:Nat){n:Nat}(h:n<w.heap.size):(w.grow bs d).heap[n]? =w.heap[n]?:=by
 simp only [World.grow];rw [Array.getElem?_append_left h]
@[go_sem] theorem World.cell?_grow(w:World)(bs:Array Obj)(d:Nat){n i:Nat}(h:n<w.heap.size):(w.grow bs d).cell? ⟨n,i,none⟩=w.cell? ⟨n,i,none⟩:=
  World.cell?_of_block (World.heap_grow w bs d h)
@[go_sem] theorem World.frozen?_grow(w:World)(bs:Array Obj)(d:Nat){n i:Nat}(h:n<w.heap.size):(w.grow bs d).frozen? ⟨n,i,none⟩=w.frozen? ⟨n,i,none⟩:=
  World.frozen?_of_block (World.heap_grow w bs d h)
@[go_sem] theorem World.setCell_grow(w:World)(bs:Array Obj)(d:Nat){n i:Nat}(v:Value)(h:n<w.heap.size) :
 (w.grow bs d).setCell ⟨n,i,none⟩ v=(w.setCell ⟨n,i,none⟩ v).grow bs d:=by
  simp only [World.setCell,World.grow]
  congr 1
  apply Array.ext
  ·simp
  ·intro k hk hk2;simp only [Array.getElem_modify,Array.getElem_append,Array.size_modify];by_cases hn:n=k
   ·subst hn;simp [h]
   ·simp [hn]
@[go_sem,simp] theorem World.grow_drew(w:World)(bs:Array Obj)(d:Nat):(w.grow bs d).drew=w.grow bs (d+1):=rfl
@[go_sem,simp] theorem World.drew_grow(w:World)(bs:Array Obj)(d:Nat):w.drew.grow bs d=w.grow bs d:=rfl
@[go_sem,simp] theorem World.drewN_grow(w:World)(bs:Array Obj)(n d:Nat):(w.drewN n).grow bs d=w.grow bs d:=rfl
@[go_sem,simp] theorem World.grow_drewN(w:World)(bs:Array Obj)(n d:Nat):(w.grow bs d).drewN n=w.grow bs (d+n):=rfl
@[go_sem,simp] theorem World.grow_grow(w:World)(bs bs':Array Obj)(d d':Nat):(w.grow bs d).grow bs' d'=w.grow (bs++bs') d':=by
  simp [World.grow,Array.append_assoc]
@[go_sem] theorem OJ{a b c:Nat}(h:a<b):(a<b+c)=True:=by simp;omega

def World.Grows(w w':World):Prop:=∃bs d,w'=w.grow bs d
theorem World.Grows.of_below{w':World}(h:Below w.heap.size w w'):w.Grows w':=by
 refine⟨w'.heap.extract w.heap.size w'.heap.size,w'.drawn, ?_⟩;obtain⟨h1,h2,h3,h4,h5⟩:=h
 have hh:w'.heap=w.heap++w'.heap.extract w.heap.size w'.heap.size:=by
  apply Array.ext_getElem?;intro k;by_cases hk:k<w.heap.size
  ·rw [Array.getElem?_append_left hk];exact h5 k hk
  ·rw [Array.getElem?_append_right (by omega),Array.getElem?_extract]
   split
   ·congr 1;omega
   ·rw [Array.getElem?_eq_none];omega
 cases w;cases w';simp only [World.grow]at *;subst h1;subst h2;subst h3
 congr 1
theorem RowKit.Below.grow{B:Nat}{a:World}(h:Below B a w)(hB:B<=w.heap.size)(bs:Array Obj)(d:Nat):Below B a (w.grow bs d):=
 h.trans ⟨rfl,rfl,rfl,by simp,fun k hk=>World.heap_grow _ _ _ (by omega)⟩
theorem RowKit.Below.drewN{B:Nat}{a:World}(h:Below B a w)(n:Nat):Below B a (w.drewN n):=⟨h.os,h.tape,h.output,h.size,h.block⟩
theorem World.Grows.below{w':World}(h:w.Grows w'):Below w.heap.size w w':=by
 obtain⟨bs,d,rfl⟩:=h;exact(Below.refl _ _).grow (Nat.le_refl _) _ _
theorem World.Grows.refl(w:World):w.Grows w:=.of_below (.refl _ _)
end Go
namespace Go
@[go_sem] theorem Ty(a b1 b2:Nat):(a<a+b1+b2)=(0<b1\/0<b2):=by simp;omega
@[go_sem] theorem SX{n a b1 b2:Nat}(h:n<a):(n<a+b1+b2)=True:=by simp;omega
@[go_sem] theorem Tx(a b1 b2 b3:Nat):(a<a+b1+b2+b3)=(0<b1\/0<b2\/0<b3):=by simp;omega
@[go_sem] theorem SV{n a b1 b2 b3:Nat}(h:n<a):(n<a+b1+b2+b3)=True:=by simp;omega
@[go_sem] theorem Tw(a b1 b2 b3 b4:Nat):(a<a+b1+b2+b3+b4)=(0<b1\/0<b2\/0<b3\/0<b4):=by simp;omega
@[go_sem] theorem SS{n a b1 b2 b3 b4:Nat}(h:n<a):(n<a+b1+b2+b3+b4)=True:=by simp;omega
@[go_sem] theorem Tv(a b1 b2 b3 b4 b5:Nat):(a<a+b1+b2+b3+b4+b5)=(0<b1\/0<b2\/0<b3\/0<b4\/0<b5):=by simp;omega
@[go_sem] theorem SQ{n a b1 b2 b3 b4 b5:Nat}(h:n<a):(n<a+b1+b2+b3+b4+b5)=True:=by simp;omega
@[go_sem] theorem Tu(a b1 b2 b3 b4 b5 b6:Nat):(a<a+b1+b2+b3+b4+b5+b6)=(0<b1\/0<b2\/0<b3\/0<b4\/0<b5\/0<b6):=by simp;omega
@[go_sem] theorem SN{n a b1 b2 b3 b4 b5 b6:Nat}(h:n<a):(n<a+b1+b2+b3+b4+b5+b6)=True:=by simp;omega
@[go_sem] theorem Tt(a b1 b2 b3 b4 b5 b6 b7:Nat):(a<a+b1+b2+b3+b4+b5+b6+b7)=(0<b1\/0<b2\/0<b3\/0<b4\/0<b5\/0<b6\/0<b7):=by simp;omega
@[go_sem] theorem SL{n a b1 b2 b3 b4 b5 b6 b7:Nat}(h:n<a):(n<a+b1+b2+b3+b4+b5+b6+b7)=True:=by simp;omega
@[go_sem] theorem Tq(a b1 b2 b3 b4 b5 b6 b7 b8:Nat):(a<a+b1+b2+b3+b4+b5+b6+b7+b8)=(0<b1\/0<b2\/0<b3\/0<b4\/0<b5\/0<b6\/0<b7\/0<b8):=by simp;omega
@[go_sem] theorem SK{n a b1 b2 b3 b4 b5 b6 b7 b8:Nat}(h:n<a):(n<a+b1+b2+b3+b4+b5+b6+b7+b8)=True:=by simp;omega
@[go_sem] theorem Tp(a b1 b2 b3 b4 b5 b6 b7 b8 b9:Nat):(a<a+b1+b2+b3+b4+b5+b6+b7+b8+b9)=(0<b1\/0<b2\/0<b3\/0<b4\/0<b5\/0<b6\/0<b7\/0<b8\/0<b9):=by simp;omega
@[go_sem] theorem SI{n a b1 b2 b3 b4 b5 b6 b7 b8 b9:Nat}(h:n<a):(n<a+b1+b2+b3+b4+b5+b6+b7+b8+b9)=True:=by simp;omega
@[go_sem] theorem Tf(a b1 b2 b3 b4 b5 b6 b7 b8 b9 b10:Nat):(a<a+b1+b2+b3+b4+b5+b6+b7+b8+b9+b10)=(0<b1\/0<b2\/0<b3\/0<b4\/0<b5\/0<b6\/0<b7\/0<b8\/0<b9\/0<b10):=by simp;omega
@[go_sem] theorem SH{n a b1 b2 b3 b4 b5 b6 b7 b8 b9 b10:Nat}(h:n<a):(n<a+b1+b2+b3+b4+b5+b6+b7+b8+b9+b10)=True:=by simp;omega
@[go_sem] theorem Te(a b1 b2 b3 b4 b5 b6 b7 b8 b9 b10 b11:Nat):(a<a+b1+b2+b3+b4+b5+b6+b7+b8+b9+b10+b11)=(0<b1\/0<b2\/0<b3\/0<b4\/0<b5\/0<b6\/0<b7\/0<b8\/0<b9\/0<b10\/0<b11):=by simp;omega
@[go_sem] theorem SG{n a b1 b2 b3 b4 b5 b6 b7 b8 b9 b10 b11:Nat}(h:n<a):(n<a+b1+b2+b3+b4+b5+b6+b7+b8+b9+b10+b11)=True:=by simp;omega
@[go_sem] theorem Td(a b1 b2 b3 b4 b5 b6 b7 b8 b9 b10 b11 b12:Nat):(a<a+b1+b2+b3+b4+b5+b6+b7+b8+b9+b10+b11+b12)=(0<b1\/0<b2\/0<b3\/0<b4\/0<b5\/0<b6\/0<b7\/0<b8\/0<b9\/0<b10\/0<b11\/0<b12):=by simp;omega
@[go_sem] theorem SF{n a b1 b2 b3 b4 b5 b6 b7 b8 b9 b10 b11 b12:Nat}(h:n<a):(n<a+b1+b2+b3+b4+b5+b6+b7+b8+b9+b10+b11+b12)=True:=by simp;omega
@[go_sem] theorem Tc(a b1 b2 b3 b4 b5 b6 b7 b8 b9 b10 b11 b12 b13:Nat):(a<a+b1+b2+b3+b4+b5+b6+b7+b8+b9+b10+b11+b12+b13)=(0<b1\/0<b2\/0<b3\/0<b4\/0<b5\/0<b6\/0<b7\/0<b8\/0<b9\/0<b10\/0<b11\/0<b12\/0<b13):=by simp;omega
@[go_sem] theorem SE{n a b1 b2 b3 b4 b5 b6 b7 b8 b9 b10 b11 b12 b13:Nat}(h:n<a):(n<a+b1+b2+b3+b4+b5+b6+b7+b8+b9+b10+b11+b12+b13)=True:=by simp;omega
@[go_sem] theorem Ta(a b1 b2 b3 b4 b5 b6 b7 b8 b9 b10 b11 b12 b13 b14:Nat):(a<a+b1+b2+b3+b4+b5+b6+b7+b8+b9+b10+b11+b12+b13+b14)=(0<b1\/0<b2\/0<b3\/0<b4\/0<b5\/0<b6\/0<b7\/0<b8\/0<b9\/0<b10\/0<b11\/0<b12\/0<b13\/0<b14):=by simp;omega
@[go_sem] theorem SC{n a b1 b2 b3 b4 b5 b6 b7 b8 b9 b10 b11 b12 b13 b14:Nat}(h:n<a):(n<a+b1+b2+b3+b4+b5+b6+b7+b8+b9+b10+b11+b12+b13+b14)=True:=by simp;omega
@[go_sem] theorem S9(a b1 b2 b3 b4 b5 b6 b7 b8 b9 b10 b11 b12 b13 b14 b15:Nat):(a<a+b1+b2+b3+b4+b5+b6+b7+b8+b9+b10+b11+b12+b13+b14+b15)=(0<b1\/0<b2\/0<b3\/0<b4\/0<b5\/0<b6\/0<b7\/0<b8\/0<b9\/0<b10\/0<b11\/0<b12\/0<b13\/0<b14\/0<b15):=by simp;omega
@[go_sem] theorem SB{n a b1 b2 b3 b4 b5 b6 b7 b8 b9 b10 b11 b12 b13 b14 b15:Nat}(h:n<a):(n<a+b1+b2+b3+b4+b5+b6+b7+b8+b9+b10+b11+b12+b13+b14+b15)=True:=by simp;omega
@[go_sem] theorem SY(a b1 b2 b3 b4 b5 b6 b7 b8 b9 b10 b11 b12 b13 b14 b15 b16:Nat):(a<a+b1+b2+b3+b4+b5+b6+b7+b8+b9+b10+b11+b12+b13+b14+b15+b16)=(0<b1\/0<b2\/0<b3\/0<b4\/0<b5\/0<b6\/0<b7\/0<b8\/0<b9\/0<b10\/0<b11\/0<b12\/0<b13\/0<b14\/0<b15\/0<b16):=by simp;omega
@[go_sem] theorem SA{n a b1 b2 b3 b4 b5 b6 b7 b8 b9 b10 b11 b12 b13 b14 b15 b16:Nat}(h:n<a):(n<a+b1+b2+b3+b4+b5+b6+b7+b8+b9+b10+b11+b12+b13+b14+b15+b16)=True:=by simp;omega
end Go
namespace Go
structure dO where
 bs:Array Obj
 d:Nat
instance:Inhabited dO:=⟨⟨#[],0⟩⟩
theorem eX{P:Program}{id:Nat}{Q:Exit->Act->World->Prop}{a:Act}{w:World}{l:List Oper}(hm:P.follows .mixedOrders=true)(hB:Region.lexB .any l.toArray=true)
 (h:wpQuiet P l.toArray (fun w'=>∃g:dO,w'=w.grow g.bs g.d) (fun a'=>∀w',(∃g:dO,w'=w.grow g.bs g.d)->Q .normal a' w') l a):(Code.region id l.toArray true).wp P Q a w:=
 wp_region_quiet (C:=fun w'=>∃g:dO,w'=w.grow g.bs g.d) hm hB ⟨⟨#[],w.drawn+1⟩,by simp [World.grow]⟩ (by simpa using h)
theorem Calls.quietG{P:Program}{f:FuncId}{args:Array Value}{w:World}{bs:Array Obj}{d:Nat}{v:Value}
 (h:Calls P f args (w.grow bs d) fun e w'=>e= .returned v/\(w.grow bs d).Grows w'):Calls P f args (w.grow bs d) fun e w''=>e= .returned v/\∃g:dO,w''=w.grow g.bs g.d:=
 h.mono fun _ _ ⟨he,bs',d',hw⟩=>⟨he,⟨bs++bs',d'⟩,by rw [hw,World.grow_grow]⟩
theorem ret_int{k:IntKind}{a b:Int}(h:a=b):Ending.returned (.int k a)= .returned (.int k b):=by rw [h]
theorem au{a b:Bool}(h:a=b):Ending.returned (.bool a)= .returned (.bool b):=by rw [h]
theorem af{n:Nat}{w w':World}(h:RowKit.Below n w w':=by repeat' (first|(with_reducible exact Go.RowKit.Below.refl _ _)|(with_reducible assumption)|(with_reducible refine Go.RowKit.Below.grow ?_ ?_ _ _)|(with_reducible refine Go.RowKit.Below.alloc ?_ ?_ _)|(with_reducible refine Go.RowKit.Below.drewN ?_ _)|(with_reducible refine Go.RowKit.Below.drew ?_)|(with_reducible refine Go.RowKit.Below.setCell ?_ ?_ _)|go_size)):RowKit.Below n w w':=h
theorem nS:(∀(a:Act) (v:Value),a.put none v=a)/\(∀(a:Act) (d:Tmp) (v:Value),a.put (some d) v= {a with tmps:=a.tmps.setIfInBounds d v})/\
 (∀{α:Type} {i:Nat} {l:List α} (h:i<l.toArray.size),l.toArray[i]=l[i]'(by simpa using h))/\(∀{α:Type} {a:α} {l:List α} (h:0<(a::l).length),(a::l)[0]=a)/\
 (∀{α:Type} {a:α} {i:Nat} {l:List α} (h:i+1<(a::l).length),(a::l)[i+1]=l[i]'(by simpa using h))/\(∀{α:Type} {l:List α} {i:Nat} {a:α},l.toArray.setIfInBounds i a=(l.set i a).toArray)/\
 (∀{α:Type} {x a:α} {l:List α},(x::l).set 0 a=a::l)/\(∀{α:Type} {x a:α} {n:Nat} {l:List α},(x::l).set (n+1) a=x::l.set n a):=by
 refine⟨fun _ _=>rfl,fun _ _ _=>rfl, ?_, ?_, ?_, ?_, ?_, ?_⟩;all_goals intros
 all_goals simp
end Go
namespace Go

def Region.tailB(l:List Oper)(n:Nat):Bool:=
 decide (n<l.length)&&Region.noSelect (l.take n).toArray&&Region.lexFrom .any (l.take n).toArray n 0 (Array.replicate n false)&&Region.sinkB .any l.toArray n&&Region.chainB .any l.toArray n&&
 ((List.range n).all fun i=>match l[i]? with
   |some o=>o.after.all (fun e=>decide (e.on<i))&&(match o.guard with|none=>true|some (j,_)=>decide (j<n))
   |none=>false)&&
 Region.seqB .any l.toArray (l.length-n) n (Array.replicate n true++Array.replicate (l.length-n) false)

section
variable {P : Program} {l : List Oper} {n : Nat} {C : World -> Prop}

structure ik(l:List Oper)(n:Nat)(listed listedH:Array Bool):Prop where
 size:listed.size=l.length
 sizeH:listedH.size=n
 same:∀i,i<n->listed[i]? =listedH[i]?
 tail:∀t,n<=t->t<l.length->listed[t]? =some false

theorem ik.getD{listed listedH:Array Bool}(h:ik l n listed listedH){i:Nat}(hi:i<n)(d:Bool):listed.getD i d=listedH.getD i d:=by
 rw [Array.getD_eq_getD_getElem?,Array.getD_eq_getD_getElem?,h.same i hi]

theorem ik.inv{listed listedH:Array Bool}(h:ik l n listed listedH)
 (hc:∀j oj,l.toArray[j]? =some oj->listed.getD j false=true->∀e∈oj.after,Region.binds .any e=true->listed.getD e.on false=true):HeadInv .any l.toArray n listed:=
 ⟨by simp [h.size],hc,fun t h1 h2=>by rw [Array.getD_eq_getD_getElem?,h.tail t h1 (by simpa using h2)];rfl⟩

theorem jG(hn:n<=l.length)(hon:∀i,i<n->∀o,l[i]? =some o->∀e∈o.after,e.on<i){listed listedH:Array Bool}(h:ik l n listed listedH)(i:Nat) :
 i∈Region.ready .any (l.take n).toArray listedH↔i<n/\i∈Region.ready .any l.toArray listed:=by
 rw [mem_ready,mem_ready];simp only [List.getElem?_toArray,List.getElem?_take];by_cases hi:i<n
 ·simp only [hi,if_true,true_and];rw [h.getD hi];constructor
  ·rintro⟨h1,o,ho,h2⟩;exact⟨h1,o,ho,fun e he hb=>by rw [h.getD (Nat.lt_trans (hon i hi o ho e he) hi)];exact h2 e he hb⟩
  ·rintro⟨h1,o,ho,h2⟩;exact⟨h1,o,ho,fun e he hb=>by rw [<-h.getD (Nat.lt_trans (hon i hi o ho e he) hi)];exact h2 e he hb⟩
 ·simp [hi]

theorem qE(hn:n<=l.length)(hon:∀i,i<n->∀o,l[i]? =some o->∀e∈o.after,e.on<i){listed listedH:Array Bool}(h:ik l n listed listedH)
 (h0:Region.ready .any (l.take n).toArray listedH= []):∀i,i<n->listed[i]? =some true:=by
 intro i
 induction i using Nat.strongRecOn with
 |_ i ih=>
  intro hi;have hl:i<l.length:=by omega
  have hs:i<listed.size:=by rw [h.size];exact hl
  cases hb:listed[i]with
  |true=>rw [Array.getElem?_eq_getElem hs,hb]
  |false=>
   exfalso
   have:i∈Region.ready .any (l.take n).toArray listedH:=by
    rw [jG hn hon h];refine⟨hi,mem_ready.2 ⟨by rw [Array.getD_eq_getD_getElem?,Array.getElem?_eq_getElem hs,hb];rfl,l[i],by simp [hl],fun e he _=>?_⟩⟩;have:=hon i hi l[i] (by simp [hl]) e he;rw [Array.getD_eq_getD_getElem?,ih e.on this (by omega)];rfl
   rw [h0]at this;cases this

theorem sZ{ops:Array Oper}{md:Region.Mode}{Q:Exit->Act->World->Prop}:∀(f:Nat) (listed:Array Bool) (a:Act) (w:World),wpAny P md ops Q f listed a w->wpAny P md ops Q (f+1) listed a w
 |0,_,_,_,h=>⟨fun _=>h.2,fun i hi=>by rw [h.1]at hi;cases hi⟩
 |f+1,_,_,_,h=>⟨h.1,fun i hi=>wpOp_mono (fun a' w' h'=>sZ f _ a' w' h') (h.2 i hi)⟩

theorem lS{ops:Array Oper}{md:Region.Mode}{Q:Exit->Act->World->Prop}(g:Nat):∀(k:Nat) (listed:Array Bool) (a:Act) (w:World),wpAny P md ops Q g listed a w->wpAny P md ops Q (k+g) listed a w
 |0,_,_,_,h=>by rw [Nat.zero_add];exact h
 |k+1,_,_,_,h=>by rw [show k+1+g=(k+g)+1 by omega];exact sZ _ _ _ _ (lS g k _ _ _ h)

theorem xU{i:Nat}{o:Oper}(hn:n<=l.length)(ho:l[i]? =some o)(hg:∀j b,o.guard=some (j,b)->j<n)(tmps:Array Value) :
 Region.wanted o (yielded (l.take n).toArray tmps)=Region.wanted o (yielded l.toArray tmps):=by
 unfold Region.wanted
 split
 ·rfl
 ·rename_i j b hgu
  have hj:=hg j b hgu
  have:yielded (l.take n).toArray tmps j=yielded l.toArray tmps j:=by
   unfold yielded;simp only [List.getElem?_toArray,List.getElem?_take,hj,if_true]
  rw [this]

theorem KT{i:Nat}{K:Act->Prop}{a:Act}(hn:n<=l.length)(hi:i<n)(hg:∀o,l[i]? =some o->∀j b,o.guard=some (j,b)->j<n)(h:qOp P (l.take n).toArray C i K a):qOp P l.toArray C i K a:=by
 unfold qOp at *;simp only [List.getElem?_toArray,List.getElem?_take,hi,if_true]at h ⊢
 cases ho:l[i]? with
 |none=>simpa [ho]using h
 |some o=>
  simp only [ho]at h ⊢;rw [xU hn ho (hg o ho)]at h;exact h

theorem DI{g:Nat}{Q:Exit->Act->World->Prop}{K:Act->Prop}(hn:n<l.length)(hwait:∀listed,HeadInv .any l.toArray n listed->∀i,i<n->listed.getD i true=false->∀t,n<=t->t∉Region.ready .any l.toArray listed)
 (hon:∀i,i<n->∀o,l[i]? =some o->∀e∈o.after,e.on<i) (hg:∀i,i<n->∀o,l[i]? =some o->∀j b,o.guard=some (j,b)->j<n)
 (hK:∀listed a w,(∀i,i<n->listed[i]? =some true)->(∀t,n<=t->t<l.length->listed[t]? =some false)->listed.size=l.length->C w->K a->wpAny P .any l.toArray Q g listed a w) :
 ∀(f:Nat) (listed listedH:Array Bool) (a:Act) (w:World),ik l n listed listedH->
  (∀j oj,l.toArray[j]? =some oj->listed.getD j false=true->∀e∈oj.after,Region.binds .any e=true->listed.getD e.on false=true)->C w->
  wpAnyQ P .any (l.take n).toArray C K f listedH a->wpAny P .any l.toArray Q (f+g) listed a w:=by
 intro f
 induction f with
 |zero=>
  intro listed listedH a w hr hcl hw h;rw [Nat.zero_add];exact hK _ _ _ (qE (Nat.le_of_lt hn) hon hr h.1) hr.tail hr.size hw h.2
 |succ f ih=>
  intro listed listedH a w hr hcl hw h;by_cases h0:Region.ready .any (l.take n).toArray listedH= []
  ·exact lS g (f+1) _ _ _ (hK _ _ _ (qE (Nat.le_of_lt hn) hon hr h0) hr.tail hr.size hw (h.1 h0))
  ·obtain⟨i0,hi0⟩:=List.exists_mem_of_ne_nil _ h0;obtain⟨hi0n,hi0r⟩:=(jG (Nat.le_of_lt hn) hon hr i0).1 hi0;have inv:=hr.inv hcl;rw [show f+1+g=(f+g)+1 by omega];refine⟨fun h1=>(by rw [h1]at hi0r;cases hi0r),fun i hi=>?_⟩
   have hin:i<n:=by
    rcases Nat.lt_or_ge i n with h'|h'
    ·exact h'
    ·exact absurd hi (hwait _ inv i0 hi0n (mem_ready.1 hi0r).1 i h')
   have hiH:=(jG (Nat.le_of_lt hn) hon hr i).2 ⟨hin,hi⟩;refine wpOp_of_qOp hw (fun a' w' hw' hh=>ih _ _ a' w' ?_ ?_ hw' hh) (KT (Nat.le_of_lt hn) hin (hg i hin) (h.2 i hiH))
   ·refine⟨by simp [hr.size],by simp [hr.sizeH],fun k hk=>?_,fun t h1 h2=>?_⟩
    ·simp only [Array.getElem?_setIfInBounds,hr.size,hr.sizeH];by_cases hik:i=k
     ·subst hik;simp [hin,Nat.lt_trans hin hn]
     ·simp [hik,hr.same k hk]
    ·rw [Array.getElem?_setIfInBounds_ne (by omega)];exact hr.tail t h1 h2
   ·exact(inv.set hi hin).closed

theorem lN{id:Nat}{Q:Exit->Act->World->Prop}{a:Act}{w:World}(n:Nat)(hm:P.follows .mixedOrders=true)(hB:Region.tailB l n=true)(hC:C {w with drawn:=w.drawn+1})
 (h:wpQuiet P (l.take n).toArray C (fun a'=>∀w',C w'->wpList P l.toArray Q (l.drop n) a' w') (l.take n) a):(Code.region id l.toArray true).wp P Q a w:=by
 simp only [Region.tailB,Bool.and_eq_true,decide_eq_true_eq]at hB;obtain⟨⟨⟨⟨⟨⟨hn,hsel⟩,hlex⟩,hs⟩,hc⟩,hall⟩,hseq⟩:=hB
 have hall':∀i,i<n->∀o,l[i]? =some o->(∀e∈o.after,e.on<i)/\(∀j b,o.guard=some (j,b)->j<n):=by
  intro i hi o ho;have:=List.all_eq_true.1 hall i (List.mem_range.2 hi);simp only [ho,Bool.and_eq_true]at this;refine⟨fun e he=>?_,fun j b hg=>?_⟩
  ·exact of_decide_eq_true (Array.all_eq_true'.1 this.1 e he)
  ·rw [hg]at this;simpa using this.2
 have htl:(l.take n).length=n:=by simp;omega
 refine wp_region_any hm ?_;have hq:=wpAnyQ_lex (C:=C) (md:=.any) (P:=P) (ops:=(l.take n).toArray) hsel (l.take n) 0 (Array.replicate n false) a (by simp) (by rw [htl];exact hlex) h;rw [htl]at hq
 have:=DI (P:=P) (C:=C) (Q:=Q) (g:=l.length-n) hn (fun _ inv i hi hun t ht=>tail_waits hs hc (by simpa using hn) inv _ i rfl hi hun t ht) (fun i hi o ho=>(hall' i hi o ho).1) (fun i hi o ho=>(hall' i hi o ho).2)
  (K:=fun a'=>∀w',C w'->wpList P l.toArray Q (l.drop n) a' w') (fun listed a' w' h1 h2 h3 hw' hK=>?_) n (Array.replicate l.length false) (Array.replicate n false) a _ ⟨by simp,by simp,fun i hi=>by simp [hi,Nat.lt_trans hi hn],fun t _ ht=>by simp [ht]⟩
  (fun j oj _ hl=>by rw [getD_replicate_false]at hl;cases hl) hC hq
 ·rw [show n+(l.length-n)=l.toArray.size by simp;omega]at this;exact this
 ·have he:listed=Array.replicate n true++Array.replicate (l.length-n) false:=by
   apply Array.ext_getElem?;intro i;rw [Array.getElem?_append];simp only [Array.size_replicate];by_cases hi:i<n
   ·simp [hi,h1 i hi]
   ·by_cases hl:i<l.length
    ·rw [if_neg hi,h2 i (by omega) hl,Array.getElem?_replicate,if_pos (by omega)]
    ·rw [if_neg hi,Array.getElem?_eq_none (by omega),Array.getElem?_replicate,if_neg (by omega)]
  rw [he];have hd:(l.drop n).length=l.length-n:=by simp
  have:=wpAny_of_seq (P:=P) (md:=.any) (ops:=l.toArray) (Q':=Q) (l.drop n) n (Array.replicate n true++Array.replicate (l.length-n) false) a' w' (fun j=>by simp [List.getElem?_drop]) (by rw [hd];exact hseq) (hK w' hw')
  rwa [hd]at this

theorem fC{id:Nat}{Q:Exit->Act->World->Prop}{a:Act}{w:World}(n:Nat)(hm:P.follows .mixedOrders=true)(hB:Region.tailB l n=true)
 (h:wpQuiet P (l.take n).toArray (fun w'=>∃g:dO,w'=w.grow g.bs g.d) (fun a'=>∀w',(∃g:dO,w'=w.grow g.bs g.d)->wpList P l.toArray Q (l.drop n) a' w') (l.take n) a):(Code.region id l.toArray true).wp P Q a w:=
 lN (C:=fun w'=>∃g:dO,w'=w.grow g.bs g.d) n hm hB ⟨⟨#[],w.drawn+1⟩,by simp [World.grow]⟩ h
end
end Go
namespace Go

def Region.preds(ops:Array Oper)(t:Nat):List Nat:=
 match ops[t]? with
 |some o=>(o.after.toList.filter fun e=>Region.binds .any e).map (·.on)
 |none=>[]
def Region.close(ops:Array Oper):Nat->List Nat->List Nat
 |0,S=>S
 |k+1,S=>Region.close ops k (S++S.flatMap (Region.preds ops)).eraseDups

theorem Region.mem_preds{ops:Array Oper}{t:Nat}{o:Oper}(h:ops[t]? =some o){j:Nat}(hj:j∈Region.preds ops t):∃e∈o.after,Region.binds .any e=true/\e.on=j:=by
 unfold Region.preds at hj;rw [h]at hj;simp only [List.mem_map,List.mem_filter]at hj;obtain⟨e,⟨he,hb⟩,hon⟩:=hj;exact⟨e,by simpa using he,hb,hon⟩

theorem Region.close_listed{ops:Array Oper}{listed:Array Bool}(hc:∀j oj,ops[j]? =some oj->listed.getD j false=true->∀e∈oj.after,Region.binds .any e=true->listed.getD e.on false=true) :
 ∀(k:Nat) (S:List Nat),(∀j∈S,listed.getD j false=true)->∀j∈Region.close ops k S,listed.getD j false=true
 |0,_,h=>h
 |k+1,S,h=>by
  refine Region.close_listed hc k _ ?_;intro j hj;rw [List.mem_eraseDups,List.mem_append]at hj;rcases hj with hj|hj
  ·exact h j hj
  ·obtain⟨i,hi,hji⟩:=List.mem_flatMap.1 hj
   cases ho:ops[i]? with
   |none=>simp [Region.preds,ho]at hji
   |some o=>
    obtain⟨e,he,hb,hon⟩:=Region.mem_preds ho hji;have:=hc i o ho (h i hi) e he hb
    rwa [hon]at this

def Oper.makes(o:Oper):Bool:=match o.op with| .alloc _=>true|_=>false
def Oper.mask(o:Oper):Oper:=match o.op with| .alloc _=>{o with op:=.move (.const undef),dst:=none} |_=>o

theorem Oper.mask_after(o:Oper):o.mask.after=o.after:=by unfold Oper.mask;split<;>rfl
theorem Oper.mask_of_not{o:Oper}(h:o.makes=false):o.mask=o:=by
 unfold Oper.makes at h;unfold Oper.mask
 split<;>simp_all
theorem Oper.mask_of{o:Oper}(h:o.makes=true):o.mask= {o with op:=.move (.const undef),dst:=none}:=by
 unfold Oper.makes at h;unfold Oper.mask
 split<;>simp_all

def Region.madeB(l:List Oper)(n:Nat)(als:List (Nat × Tmp)):Bool:=
 decide (n<=l.length)&&Region.noSelect ((l.take n).map Oper.mask).toArray&&Region.lexFrom .any ((l.take n).map Oper.mask).toArray n 0 (Array.replicate n false)&&
 ((List.range l.length).all fun t=>decide (t<n) || (List.range n).all fun i=>(Region.close l.toArray n (Region.preds l.toArray t)).contains i)&&
 ((List.range n).all fun i=>match l[i]? with
   |some o=>o.after.all (fun e=>decide (e.on<i))&&(match o.guard with|none=>true|some (j,_)=>decide (j<n))&&
    (!o.makes || (o.guard.isNone&&als.any fun x=>x.1==i&&o.dst==some x.2))&&
    als.all (fun x=>x.1==i || (!(o.looksAt l.toArray).contains x.2&&o.dst !=some x.2))&&
    (match o.dst with|some d=>(List.range n).all (fun k=>k==i || (match l[k]? with|some o'=>o'.dst !=some d|none=>true))|none=>true)
   |none=>false)&&
 als.all (fun x=>decide (x.1<n)&&(match l[x.1]? with|some o=>o.makes|none=>false))&&
 decide ((als.map (·.1)).Nodup)&&
 Region.seqB .any l.toArray (l.length-n) n (Array.replicate n true++Array.replicate (l.length-n) false)
end Go

namespace Go
abbrev oD:=dO × (Nat × Tmp × Obj)
def fU(w0:World):List oD->World
 | []=>w0
 |e::r=>((fU w0 r).grow e.1.bs e.1.d).alloc e.2.2.2
def jd(w0:World)(a:Act):List oD->Act
 | []=>a
 |e::r=>(jd w0 a r).put (some e.2.2.1) (.pointer (some ⟨((fU w0 r).grow e.1.bs e.1.d).heap.size,0,none⟩))

theorem World.Grows.trans{a b c:World}(h:a.Grows b)(k:b.Grows c):a.Grows c:=by
 obtain⟨bs,d,rfl⟩:=h;obtain⟨bs2,d2,rfl⟩:=k;exact⟨bs++bs2,d2,by rw [World.grow_grow]⟩
theorem iK{listed:Array Bool}{i:Nat}(hi:i<listed.size):(listed.setIfInBounds i true).getD i true=true:=by simp [hi]
theorem World.grow_self(w:World):w.grow #[] w.drawn=w:=by simp [World.grow]
theorem World.Grows.alloc(w:World)(o:Obj):w.Grows (w.alloc o):=.of_below ((RowKit.Below.refl _ _).alloc (Nat.le_refl _) _)

section
variable {P : Program} {l : List Oper} {n : Nat}

theorem iH{i:Nat}(hi:i<n):((l.take n).map Oper.mask).toArray[i]? =(l[i]?).map Oper.mask:=by
 simp [List.getElem?_take,hi]
theorem l7{i:Nat}(hi:¬i<n):((l.take n).map Oper.mask).toArray[i]? =none:=by
 simp [List.getElem?_take,hi]

theorem kX(hn:n<=l.length)(hon:∀i,i<n->∀o,l[i]? =some o->∀e∈o.after,e.on<i){listed listedH:Array Bool}(h:ik l n listed listedH)(i:Nat) :
 i∈Region.ready .any ((l.take n).map Oper.mask).toArray listedH↔i<n/\i∈Region.ready .any l.toArray listed:=by
 rw [<-jG hn hon h i,mem_ready,mem_ready];simp only [List.getElem?_toArray,List.getElem?_map];constructor
 ·rintro⟨h1,o,ho,h2⟩;obtain⟨o',ho',rfl⟩:=Option.map_eq_some_iff.1 ho;exact⟨h1,o',ho',by rwa [Oper.mask_after]at h2⟩
 ·rintro⟨h1,o,ho,h2⟩;exact⟨h1,o.mask,by rw [ho];rfl,by rwa [Oper.mask_after]⟩

theorem ru(hn:n<=l.length)(hon:∀i,i<n->∀o,l[i]? =some o->∀e∈o.after,e.on<i){listed listedH:Array Bool}(h:ik l n listed listedH)
 (h0:Region.ready .any ((l.take n).map Oper.mask).toArray listedH= []):∀i,i<n->listed[i]? =some true:=by
 refine qE hn hon h ?_;rw [List.eq_nil_iff_forall_not_mem]at h0 ⊢;intro i hi;exact h0 i ((kX hn hon h i).2 ((jG hn hon h i).1 hi))

theorem jE{ops:Array Oper}{md:Region.Mode}{C:World->Prop}{afin:Act}{t:Tmp}:∀(f:Nat) (listed:Array Bool) (a:Act),
 (∀i o,ops[i]? =some o->listed.getD i true=false->o.dst≠some t)->wpAnyQ P md ops C (· =afin) f listed a->afin.tmps[t]? =a.tmps[t]?
 |0,_,_,_,h=>by rw [<-h.2]
 |f+1,listed,a,hw,h=>by
  by_cases h0:Region.ready md ops listed= []
  ·rw [<-h.1 h0]
  ·obtain⟨i,hi⟩:=List.exists_mem_of_ne_nil _ h0;have h1:=h.2 i hi;obtain⟨hun,o,ho,_⟩:=mem_ready.1 hi;have hne:=hw i o ho hun
   have hrest:∀j o,ops[j]? =some o->(listed.setIfInBounds i true).getD j true=false->o.dst≠some t:=by
    intro j o hj hl;by_cases hij:i=j
    ·subst hij;exact hw i o hj hun
    ·rw [getD_set_ne true hij]at hl;exact hw j o hj hl
   have put:∀v,(a.put o.dst v).tmps[t]? =a.tmps[t]?:=by
    intro v
    cases hd:o.dst with
    |none=>rfl
    |some d=>
     simp only [Act.put];rw [Array.getElem?_setIfInBounds_ne (fun e=>hne (by rw [hd,e]))]
   unfold qOp at h1;simp only [ho]at h1
   split at h1
   ·obtain⟨v,_,h2⟩:=h1;rw [jE f _ _ hrest h2,put]
   ·rw [jE f _ _ hrest h1,put]

theorem Bv{a afin:Act}{d:Option Tmp}{v v2:Value}(h:∀t,d=some t->afin.tmps[t]? =(a.put d v).tmps[t]?)(h2:∀t,d=some t->afin.tmps[t]? =(a.put d v2).tmps[t]?):a.put d v2=a.put d v:=by
 cases d with
 |none=>rfl
 |some t=>
  have e:=(h t rfl).symm.trans (h2 t rfl);simp only [Act.put]at e ⊢;by_cases ht:t<a.tmps.size
  ·simp [Array.getElem?_setIfInBounds,ht]at e;rw [e]
  ·rw [Array.setIfInBounds,Array.setIfInBounds,dif_neg ht,dif_neg ht]

theorem wL(w0:World)(a:Act)(d:Option Tmp)(v:Value):∀(evs:List oD),(∀e∈evs,d≠some e.2.2.1)->jd w0 (a.put d v) evs=(jd w0 a evs).put d v
 | [],_=>rfl
 |e::r,h=>by
  simp only [jd];rw [wL w0 a d v r (fun e he=>h e (List.mem_cons_of_mem _ he))];exact(Act.put_comm _ _ _ (fun t ht=>fun h'=>h e List.mem_cons_self (by rw [h',<-ht]))).symm

theorem uz{ops:Array Oper}(w0:World)(a:Act)(o:Oper)(hs:∀cs b,o.op≠.select cs b):∀(evs:List oD),(∀e∈evs,e.2.2.1∉o.looksAt ops)->
 execOp (jd w0 a evs).eval o=execOp a.eval o/\Region.wanted o (yielded ops (jd w0 a evs).tmps)=Region.wanted o (yielded ops a.tmps)
 | [],_=>⟨rfl,rfl⟩
 |e::r,h=>by
  obtain⟨h1,h2⟩:=uz w0 a o hs r (fun e he=>h e (List.mem_cons_of_mem _ he));have hd:∀d,some e.2.2.1=some d->d∉o.looksAt ops:=fun d hd=>by rw [<-Option.some.inj hd];exact h e List.mem_cons_self
  simp only [jd];rw [execOp_put o hs _ _ _ hd,wanted_put o _ _ _ hd];exact⟨h1,h2⟩
end
end Go

namespace Go
section
variable {P : Program} {l : List Oper} {n : Nat}

theorem ES{als:List (Nat × Tmp × Obj)}{listed:Array Bool}{i:Nat}(hi:i<listed.size)(hun:listed.getD i false=false) :
 (als.map (·.1)).Nodup->∀{x:Nat × Tmp × Obj},x∈als->x.1=i->(x::als.filter fun y=>listed.getD y.1 false).Perm (als.filter fun y=>(listed.setIfInBounds i true).getD y.1 false):=by
 induction als with
 |nil=>intro _ x hx _;cases hx
 |cons y r ih=>
  intro hnd x hx hxi;rw [List.map_cons,List.nodup_cons]at hnd;have hset:(listed.setIfInBounds i true).getD i false=true:=by simp [hi]
  by_cases hy:y.1=i
  ·have hxy:x=y:=by
    rcases List.mem_cons.1 hx with h|h
    ·exact h
    ·exact absurd (List.mem_map.2 ⟨x,h,by rw [hxi,hy]⟩) hnd.1
   subst hxy
   have hr:(r.filter fun z=>(listed.setIfInBounds i true).getD z.1 false)=r.filter fun z=>listed.getD z.1 false:=by
    refine List.filter_congr fun z hz=>?_;rw [getD_set_ne false (fun e=>hnd.1 (List.mem_map.2 ⟨z,hz,by rw [<-e,hy]⟩))]
   rw [List.filter_cons,List.filter_cons,hy,hun,hset,hr];simp
  ·have hxr:x∈r:=by
    rcases List.mem_cons.1 hx with h|h
    ·exact absurd (by rw [<-h];exact hxi) hy
    ·exact h
   have hp:=ih hnd.2 hxr hxi;rw [List.filter_cons,List.filter_cons,getD_set_ne false (fun e=>hy e.symm)]
   split
   ·exact(List.Perm.swap _ _ _).trans (List.Perm.cons _ hp)
   ·exact hp

theorem qJ{als:List (Nat × Tmp × Obj)}{listed:Array Bool}{i:Nat}(h:∀x∈als,x.1≠i) :
 (als.filter fun y=>(listed.setIfInBounds i true).getD y.1 false)=als.filter fun y=>listed.getD y.1 false:=
 List.filter_congr fun z hz=>by rw [getD_set_ne false (fun e=>h z hz e.symm)]

structure nA(l:List Oper)(n:Nat)(als:List (Nat × Tmp × Obj)):Prop where
 le:n<=l.length
 on:∀i,i<n->∀o,l[i]? =some o->∀e∈o.after,e.on<i
 guard:∀i,i<n->∀o,l[i]? =some o->∀j b,o.guard=some (j,b)->j<n
 sel:∀i,i<n->∀o,l[i]? =some o->∀cs b,o.op≠.select cs b
 makes:∀i,i<n->∀o,l[i]? =some o->o.makes=true->o.guard=none/\∃x∈als,x.1=i/\o.dst=some x.2.1
 apart:∀i,i<n->∀o,l[i]? =some o->∀x∈als,x.1≠i->x.2.1∉o.looksAt l.toArray/\o.dst≠some x.2.1
 once:∀i,i<n->∀o,l[i]? =some o->∀k,k<n->∀o',l[k]? =some o'->k≠i->∀d,o.dst=some d->o'.dst≠some d
 ismake:∀x∈als,x.1<n/\∀o,l[x.1]? =some o->o.makes=true
 nodup:(als.map (·.1)).Nodup
 waits:∀t,n<=t->t<l.length->∀i,i<n->i∈Region.close l.toArray n (Region.preds l.toArray t)

theorem Ip{g0:Nat}{Q:Exit->Act->World->Prop}{als:List (Nat × Tmp × Obj)}{afin:Act}{w0:World}(sh:nA l n als)
 (hrun:∀x∈als,∀o,l[x.1]? =some o->∀ρ w,(execOp ρ o).run P w= .ok (.value (.pointer (some ⟨w.heap.size,0,none⟩))) (w.alloc x.2.2))
 (hK:∀listed evs (g:dO),(∀i,i<n->listed[i]? =some true)->(∀t,n<=t->t<l.length->listed[t]? =some false)->listed.size=l.length->(evs.map (·.2)).Perm als->
  wpAny P .any l.toArray Q g0 listed (jd w0 afin evs) ((fU w0 evs).grow g.bs g.d)) :
 ∀(f:Nat) (listed listedH:Array Bool) (a:Act) (evs:List oD) (g:dO),ik l n listed listedH->
  (∀j oj,l.toArray[j]? =some oj->listed.getD j false=true->∀e∈oj.after,Region.binds .any e=true->listed.getD e.on false=true)->
  (evs.map (·.2)).Perm (als.filter fun x=>listed.getD x.1 false)->
  (∀W,World.Grows ((fU w0 evs).grow g.bs g.d) W->wpAnyQ P .any ((l.take n).map Oper.mask).toArray (fun w'=>∃g':dO,w'=W.grow g'.bs g'.d) (· =afin) f listedH a)->
  wpAny P .any l.toArray Q (f+g0) listed (jd w0 a evs) ((fU w0 evs).grow g.bs g.d):=by
 have hin:∀{evs:List oD} {listed:Array Bool},(evs.map (·.2)).Perm (als.filter fun x=>listed.getD x.1 false)->∀e∈evs,e.2∈als/\listed.getD e.2.1 false=true:=by
  intro evs listed hp e he;have:=hp.mem_iff.1 (List.mem_map.2 ⟨e,he,rfl⟩);exact⟨(List.mem_filter.1 this).1,by simpa using(List.mem_filter.1 this).2⟩
 have hall:∀{evs:List oD} {listed:Array Bool},(∀i,i<n->listed[i]? =some true)->(evs.map (·.2)).Perm (als.filter fun x=>listed.getD x.1 false)->(evs.map (·.2)).Perm als:=by
  intro evs listed hl hp
  have:(als.filter fun x=>listed.getD x.1 false)=als:=by
   rw [List.filter_eq_self];intro x hx;rw [Array.getD_eq_getD_getElem?,hl _ (sh.ismake x hx).1];rfl
  rwa [this]at hp
 intro f
 induction f with
 |zero=>
  intro listed listedH a evs g hr hcl hp hyp;have h:=hyp _ (.refl _);rw [Nat.zero_add];have hl:=ru sh.le sh.on hr h.1;obtain rfl:a=afin:=h.2;exact hK _ _ _ hl hr.tail hr.size (hall hl hp)
 |succ f ih=>
  intro listed listedH a evs g hr hcl hp hyp;have h:=hyp _ (.refl _);by_cases h0:Region.ready .any ((l.take n).map Oper.mask).toArray listedH= []
  ·have hl:=ru sh.le sh.on hr h0;obtain rfl:a=afin:=h.1 h0;exact lS g0 (f+1) _ _ _ (hK _ _ _ hl hr.tail hr.size (hall hl hp))
  ·obtain⟨i0,hi0⟩:=List.exists_mem_of_ne_nil _ h0;obtain⟨hi0n,hi0r⟩:=(kX sh.le sh.on hr i0).1 hi0;rw [show f+1+g0=(f+g0)+1 by omega];refine⟨fun h1=>(by rw [h1]at hi0r;cases hi0r),fun i hi=>?_⟩;obtain⟨hun,o,ho,hal⟩:=mem_ready.1 hi
   have hil:i<l.length:=by
    have:=(Array.getElem?_eq_some_iff.1 ho).1;simpa using this
   have ho':l[i]? =some o:=by simpa using ho
   have hisz:i<listed.size:=by rw [hr.size];exact hil
   have hunf:listed.getD i false=false:=getD_both hun
   have hiN:i<n:=by
    rcases Nat.lt_or_ge i n with h'|h'
    ·exact h'
    ·exfalso
     have hcl':=Region.close_listed hcl n (Region.preds l.toArray i) (fun j hj=>by
      obtain⟨e,he,hb,hon⟩:=Region.mem_preds ho hj
      rw [<-hon];exact hal e he hb) i0 (sh.waits i h' hil i0 hi0n)
     rw [getD_both (mem_ready.1 hi0r).1]at hcl';cases hcl'
   have hiH:=(kX sh.le sh.on hr i).2 ⟨hiN,hi⟩;have hHi:((l.take n).map Oper.mask).toArray[i]? =some o.mask:=by rw [iH hiN,ho'];rfl
   have hr':ik l n (listed.setIfInBounds i true) (listedH.setIfInBounds i true):=by
    refine⟨by simp [hr.size],by simp [hr.sizeH],fun k hk=>?_,fun t h1 h2=>?_⟩
    ·simp only [Array.getElem?_setIfInBounds,hr.size,hr.sizeH];by_cases hik:i=k
     ·subst hik;simp [hiN,hil]
     ·simp [hik,hr.same k hk]
    ·rw [Array.getElem?_setIfInBounds_ne (by omega)];exact hr.tail t h1 h2
   have hcl2:∀j oj,l.toArray[j]? =some oj->(listed.setIfInBounds i true).getD j false=true->∀e∈oj.after,Region.binds .any e=true->(listed.setIfInBounds i true).getD e.on false=true:=by
    intro j oj hj hl e he hb;by_cases hij:i=j
    ·subst hij;have:oj=o:=Option.some.inj (hj.symm.trans ho);subst this;exact getD_set_true (hal e he hb)
    ·rw [getD_set_ne false hij]at hl;exact getD_set_true (hcl j oj hj hl e he hb)
   cases hm:o.makes with
   |true=>
    obtain⟨hg,x,hx,hxi,hxd⟩:=sh.makes i hiN o ho' hm;have hmask:o.mask= {o with op:=.move (.const undef),dst:=none}:=Oper.mask_of hm;unfold wpOp;rw [ho];simp only [];rw [if_pos (by simp [Region.wanted,hg])];left;unfold Oper.wp;rw [hrun x hx o (by rw [hxi];exact ho'),Oper.upon_value];have hw2:(((fU w0 evs).grow g.bs g.d).alloc x.2.2)=(fU w0 ((g,x)::evs)).grow (⟨#[],(((fU w0 evs).grow g.bs g.d).alloc x.2.2).drawn⟩:dO).bs (⟨#[],(((fU w0 evs).grow g.bs g.d).alloc x.2.2).drawn⟩:dO).d:=(World.grow_self _).symm;have ha2:(jd w0 a evs).put o.dst (.pointer (some ⟨((fU w0 evs).grow g.bs g.d).heap.size,0,none⟩))=jd w0 a ((g,x)::evs):=by rw [hxd];rfl
    rw [hw2,ha2];refine ih _ _ a ((g,x)::evs) _ hr' hcl2 ?_ (fun W hW=>?_)
    ·rw [List.map_cons];exact(List.Perm.cons _ hp).trans (ES hisz hunf sh.nodup hx hxi)
    ·have hWg:World.Grows ((fU w0 evs).grow g.bs g.d) W:=(World.Grows.alloc _ x.2.2).trans (by rw [hw2];exact hW);have hq:=(hyp W hWg).2 i hiH;unfold qOp at hq;rw [hHi]at hq;simp only [hmask,hg]at hq;rw [if_pos (by simp [Region.wanted])]at hq;obtain⟨v,_,hv⟩:=hq;exact hv
   |false=>
    have hmask:o.mask=o:=Oper.mask_of_not hm
    have hev:∀e∈evs,e.2.2.1∉o.looksAt l.toArray/\o.dst≠some e.2.2.1:=by
     intro e he;obtain⟨h1,h2⟩:=hin hp e he;refine sh.apart i hiN o ho' e.2 h1 (fun h3=>?_);rw [h3,hunf]at h2;cases h2
    have hnx:∀x∈als,x.1≠i:=fun x hx h3=>by
     have:=(sh.ismake x hx).2 o (by rw [h3];exact ho');rw [hm]at this;cases this
    obtain⟨hex,hwa⟩:=uz (ops:=l.toArray) w0 a o (sh.sel i hiN o ho') evs (fun e he=>(hev e he).1)
    have hyl:∀tmps,Region.wanted o (yielded ((l.take n).map Oper.mask).toArray tmps)=Region.wanted o (yielded l.toArray tmps):=by
     intro tmps;unfold Region.wanted
     split
     ·rfl
     ·rename_i j b hgu
      have hj:=sh.guard i hiN o ho' j b hgu
      have:yielded ((l.take n).map Oper.mask).toArray tmps j=yielded l.toArray tmps j:=by
       unfold yielded;rw [iH hj];simp only [List.getElem?_toArray]
       cases hlj:l[j]? with
       |none=>rfl
       |some oj=>
        simp only [Option.map_some,Option.bind_some]
        cases hmj:oj.makes with
        |false=>rw [Oper.mask_of_not hmj]
        |true=>
         exfalso;obtain⟨_,x,hx,hxi,hxd⟩:=sh.makes j hj oj hlj hmj;refine(sh.apart i hiN o ho' x hx (hnx x hx)).1 ?_;unfold Oper.looksAt;rw [hgu];simp [hlj,hxd]
      rw [this]
    have hcont:∀(w':World) (v:Value),World.Grows ((fU w0 evs).grow g.bs g.d) w'->
     (∀t,o.dst=some t->afin.tmps[t]? =(a.put o.dst v).tmps[t]?)->(Region.wanted o (yielded l.toArray a.tmps)=true\/v=undef)->
     wpAny P .any l.toArray Q (f+g0) (listed.setIfInBounds i true) ((jd w0 a evs).put o.dst v) w':=by
     intro w' v hw' hfin hwv;obtain⟨bs,d,rfl⟩:=hw';rw [World.grow_grow,<-wL w0 a o.dst v evs (fun e he=>(hev e he).2)];refine ih _ _ (a.put o.dst v) evs ⟨g.bs++bs,d⟩ hr' hcl2 (by rw [qJ hnx];exact hp) (fun W hW=>?_);have hWg:World.Grows ((fU w0 evs).grow g.bs g.d) W:=World.Grows.trans ⟨bs,d,by rw [World.grow_grow]⟩ hW;have hq:=(hyp W hWg).2 i hiH;unfold qOp at hq;rw [hHi,hmask]at hq;simp only []at hq;rw [hyl]at hq;rcases hwv with hwt|rfl
     ·rw [if_pos hwt]at hq;obtain⟨v2,_,hv2⟩:=hq
      have hfin2:∀t,o.dst=some t->afin.tmps[t]? =(a.put o.dst v2).tmps[t]?:=fun t ht=>jE f _ _ (fun j oj hj hl=>by
       have hjn:j<n:=by
        rcases Nat.lt_or_ge j n with h'|h'
        ·exact h'
        ·rw [l7 (by omega)]at hj;cases hj
       rw [iH hjn]at hj;obtain⟨oj',hoj',rfl⟩:=Option.map_eq_some_iff.1 hj
       have hji:j≠i:=by
        intro e;rw [e,iK (by rw [hr.sizeH];exact hiN)]at hl;cases hl
       have:=sh.once i hiN o ho' j hjn oj' hoj' hji t ht
       cases hmj:oj'.makes with
       |false=>rw [Oper.mask_of_not hmj];exact this
       |true=>rw [Oper.mask_of hmj];simp) hv2
      rw [<-Bv hfin hfin2];exact hv2
     ·by_cases hwt:Region.wanted o (yielded l.toArray a.tmps)=true
      ·rw [if_pos hwt]at hq;obtain⟨v2,_,hv2⟩:=hq
       have hfin2:∀t,o.dst=some t->afin.tmps[t]? =(a.put o.dst v2).tmps[t]?:=fun t ht=>jE f _ _ (fun j oj hj hl=>by
        have hjn:j<n:=by
         rcases Nat.lt_or_ge j n with h'|h'
         ·exact h'
         ·rw [l7 (by omega)]at hj;cases hj
        rw [iH hjn]at hj;obtain⟨oj',hoj',rfl⟩:=Option.map_eq_some_iff.1 hj
        have hji:j≠i:=by
         intro e;rw [e,iK (by rw [hr.sizeH];exact hiN)]at hl;cases hl
        have:=sh.once i hiN o ho' j hjn oj' hoj' hji t ht
        cases hmj:oj'.makes with
        |false=>rw [Oper.mask_of_not hmj];exact this
        |true=>rw [Oper.mask_of hmj];simp) hv2
       rw [<-Bv hfin hfin2];exact hv2
      ·rw [if_neg hwt]at hq;exact hq
    have hq:=h.2 i hiH;unfold qOp at hq;rw [hHi,hmask]at hq;simp only []at hq;rw [hyl]at hq
    have hslot:∀v,wpAnyQ P .any ((l.take n).map Oper.mask).toArray (fun w'=>∃g':dO,w'=((fU w0 evs).grow g.bs g.d).grow g'.bs g'.d) (· =afin) f (listedH.setIfInBounds i true) (a.put o.dst v)->
     ∀t,o.dst=some t->afin.tmps[t]? =(a.put o.dst v).tmps[t]?:=fun v hv t ht=>jE f _ _ (fun j oj hj hl=>by
      have hjn:j<n:=by
       rcases Nat.lt_or_ge j n with h'|h'
       ·exact h'
       ·rw [l7 (by omega)]at hj;cases hj
      rw [iH hjn]at hj;obtain⟨oj',hoj',rfl⟩:=Option.map_eq_some_iff.1 hj
      have hji:j≠i:=by
       intro e;rw [e,iK (by rw [hr.sizeH];exact hiN)]at hl;cases hl
      have:=sh.once i hiN o ho' j hjn oj' hoj' hji t ht
      cases hmj:oj'.makes with
      |false=>rw [Oper.mask_of_not hmj];exact this
      |true=>rw [Oper.mask_of hmj];simp) hv
    unfold wpOp;rw [ho];simp only [];rw [hwa];by_cases hwt:Region.wanted o (yielded l.toArray a.tmps)=true
    ·rw [if_pos hwt]at hq ⊢;left;obtain⟨v,hv1,hv2⟩:=hq;have h3:=hv1 _ ⟨⟨#[],((fU w0 evs).grow g.bs g.d).drawn⟩,(World.grow_self _).symm⟩;unfold Oper.quietAt at h3;unfold Oper.wp;rw [hex];generalize hrr:(execOp a.eval o).run P ((fU w0 evs).grow g.bs g.d)=r at *
     cases r with
     |ok nx w'=>
      cases nx<;>simp only [Oper.quietUpon]at h3<;>simp only [Oper.upon]
      case value u=>
       obtain⟨e1,e2⟩:=h3;rw [e1,e2];exact hcont _ v (.refl _) (hslot v hv2) (.inl hwt)
      case skip=>
       obtain⟨e1,e2⟩:=h3;rw [e1];exact hcont _ undef (.refl _) (by rw [<-e2];exact hslot v hv2) (.inl hwt)
      case enter fn args=>
       obtain⟨e1,hc⟩:=h3;rw [e1];refine hc.mono fun e w'' ⟨he,g',hw''⟩=>?_;subst he;exact hcont _ v ⟨g'.bs,g'.d,hw''⟩ (hslot v hv2) (.inl hwt)
     |halt x w'=>simp only [Oper.quietUpon]at h3
    ·rw [if_neg hwt]at hq ⊢;exact hcont _ undef (.refl _) (hslot undef hq) (.inr rfl)
end
end Go

namespace Go
section
variable {P : Program} {l : List Oper} {n : Nat}

theorem nA.of{als:List (Nat × Tmp × Obj)}(hB:Region.madeB l n (als.map fun x=>(x.1,x.2.1))=true) :
 nA l n als/\Region.noSelect ((l.take n).map Oper.mask).toArray=true/\Region.lexFrom .any ((l.take n).map Oper.mask).toArray n 0 (Array.replicate n false)=true/\
  Region.seqB .any l.toArray (l.length-n) n (Array.replicate n true++Array.replicate (l.length-n) false)=true:=by
 simp only [Region.madeB,Bool.and_eq_true,decide_eq_true_eq]at hB;obtain⟨⟨⟨⟨⟨⟨⟨hn,hsel⟩,hlex⟩,hw⟩,hall⟩,hals⟩,hnd⟩,hseq⟩:=hB
 have hi:∀i,i<n->∀o,l[i]? =some o->(∀e∈o.after,e.on<i)/\(∀j b,o.guard=some (j,b)->j<n)/\
  (o.makes=true->o.guard=none/\∃x∈als,x.1=i/\o.dst=some x.2.1)/\
  (∀x∈als,x.1≠i->x.2.1∉o.looksAt l.toArray/\o.dst≠some x.2.1)/\
  (∀d,o.dst=some d->∀k,k<n->∀o',l[k]? =some o'->k≠i->o'.dst≠some d):=by
  intro i hi o ho;have h:=List.all_eq_true.1 hall i (List.mem_range.2 hi);simp only [ho,Bool.and_eq_true]at h;obtain⟨⟨⟨⟨h1,h2⟩,h3⟩,h4⟩,h5⟩:=h;refine⟨fun e he=>of_decide_eq_true (Array.all_eq_true'.1 h1 e he),fun j b hg=>by rw [hg]at h2;simpa using h2,fun hm=>?_,fun x hx hne=>?_,fun d hd k hk o' ho' hki=>?_⟩
  ·simp only [hm,Bool.not_true,Bool.false_or,Bool.and_eq_true,Option.isNone_iff_eq_none,List.any_eq_true,List.mem_map,beq_iff_eq]at h3;obtain⟨hg,y,⟨x,hx,rfl⟩,hy1,hy2⟩:=h3;exact⟨hg,x,hx,hy1,hy2⟩
  ·have:=List.all_eq_true.1 h4 (x.1,x.2.1) (List.mem_map.2 ⟨x,hx,rfl⟩);simp only [Bool.or_eq_true,beq_iff_eq,Bool.and_eq_true,Bool.not_eq_true',bne_iff_ne]at this;rcases this with h|⟨h,h'⟩
   ·exact absurd h hne
   ·exact⟨by simpa using h,h'⟩
  ·rw [hd]at h5;have:=List.all_eq_true.1 h5 k (List.mem_range.2 hk);simp only [ho',Bool.or_eq_true,beq_iff_eq,bne_iff_ne]at this;rcases this with h|h
   ·exact absurd h hki
   ·exact h
 refine⟨⟨hn,fun i h o ho=>(hi i h o ho).1,fun i h o ho=>(hi i h o ho).2.1,fun i h o ho cs b hop=>?_,fun i h o ho=>(hi i h o ho).2.2.1,fun i h o ho=>(hi i h o ho).2.2.2.1,
  fun i h o ho k hk o' ho' hki d hd=>(hi i h o ho).2.2.2.2 d hd k hk o' ho' hki,fun x hx=>?_, ?_,fun t h1 h2 i h3=>?_⟩,hsel,hlex,hseq⟩
 ·have hs:=Region.noSelect_spec hsel i o.mask cs b (by rw [iH h,ho];rfl);have hm:o.makes=false:=by unfold Oper.makes;rw [hop]
  rw [Oper.mask_of_not hm]at hs;exact hs hop
 ·have:=List.all_eq_true.1 hals (x.1,x.2.1) (List.mem_map.2 ⟨x,hx,rfl⟩);simp only [Bool.and_eq_true,decide_eq_true_eq]at this;exact⟨this.1,fun o ho=>by have h:=this.2;rw [ho]at h;exact h⟩
 ·simpa [List.map_map,Function.comp_def]using hnd
 ·have:=List.all_eq_true.1 hw t (List.mem_range.2 h2);simp only [Bool.or_eq_true,decide_eq_true_eq]at this;rcases this with h|h
  ·omega
  ·simpa using List.all_eq_true.1 h i (List.mem_range.2 h3)

theorem sV{id:Nat}{Q:Exit->Act->World->Prop}{a:Act}{w:World}(n:Nat)(als:List (Nat × Tmp × Obj))(hm:P.follows .mixedOrders=true)(hB:Region.madeB l n (als.map fun x=>(x.1,x.2.1))=true)
 (hrun:∀x∈als,∀o,l[x.1]? =some o->∀ρ w,(execOp ρ o).run P w= .ok (.value (.pointer (some ⟨w.heap.size,0,none⟩))) (w.alloc x.2.2))
 (h:∃afin,(∀bs d,wpQuiet P ((l.take n).map Oper.mask).toArray (fun w'=>∃g:dO,w'=(w.grow bs d).grow g.bs g.d) (· =afin) ((l.take n).map Oper.mask) a)/\
  ∀evs (g:dO),(evs.map (·.2)).Perm als->wpList P l.toArray Q (l.drop n) (jd w afin evs) ((fU w evs).grow g.bs g.d)):(Code.region id l.toArray true).wp P Q a w:=by
 obtain⟨sh,hsel,hlex,hseq⟩:=nA.of hB;obtain⟨afin,hq,hfin⟩:=h;have htl:((l.take n).map Oper.mask).length=n:=by have:=sh.le;simp;omega
 refine wp_region_any hm ?_
 have:=Ip (P:=P) (Q:=Q) (g0:=l.length-n) (afin:=afin) (w0:=w) sh hrun (fun listed evs g h1 h2 h3 hp=>?_) n (Array.replicate l.length false) (Array.replicate n false) a [] ⟨#[],w.drawn+1⟩
  ⟨by simp,by simp,fun i hi=>by have:=sh.le;simp [hi,show i<l.length by omega],fun t _ ht=>by simp [ht]⟩ (fun j oj _ hl=>by rw [getD_replicate_false]at hl;cases hl)
  (by rw [List.filter_eq_nil_iff.2 (fun x _=>by rw [getD_replicate_false];simp)];exact List.Perm.refl _) (fun W hW=>?_)
 ·rw [show n+(l.length-n)=l.toArray.size by have:=sh.le;simp;omega]at this;simpa [jd,fU,World.grow]using this
 ·have he:listed=Array.replicate n true++Array.replicate (l.length-n) false:=by
   apply Array.ext_getElem?;intro i;rw [Array.getElem?_append];simp only [Array.size_replicate];by_cases hi:i<n
   ·simp [hi,h1 i hi]
   ·by_cases hl:i<l.length
    ·rw [if_neg hi,h2 i (by omega) hl,Array.getElem?_replicate,if_pos (by omega)]
    ·rw [if_neg hi,Array.getElem?_eq_none (by omega),Array.getElem?_replicate,if_neg (by omega)]
  rw [he];have hd:(l.drop n).length=l.length-n:=by simp
  have:=wpAny_of_seq (P:=P) (md:=.any) (ops:=l.toArray) (Q':=Q) (l.drop n) n (Array.replicate n true++Array.replicate (l.length-n) false) _ _ (fun j=>by simp [List.getElem?_drop]) (by rw [hd];exact hseq) (hfin evs g hp)
  rwa [hd]at this
 ·obtain⟨bs,d,rfl⟩:=hW
  have:=wpAnyQ_lex (C:=fun w'=>∃g':dO,w'=((fU w []).grow #[] (w.drawn+1)|>.grow bs d).grow g'.bs g'.d) (md:=.any) (P:=P) (ops:=((l.take n).map Oper.mask).toArray) hsel ((l.take n).map Oper.mask) 0 (Array.replicate n false) a (by simp) (by rw [htl];exact hlex)
   (by have:=hq bs d;simpa [fU]using this)
  rw [htl]at this;exact this

theorem KW{α:Type}{evs:List (dO × α)}{x y:α}(h:(evs.map (·.2)).Perm [x,y]):∃g g',evs= [(g,x),(g',y)]\/evs= [(g,y),(g',x)]:=by
 have hl:=h.length_eq
 match evs,hl with
 | [e1,e2],_=>
   simp only [List.map_cons,List.map_nil]at h
   have h1:e1.2=x\/e1.2=y:=by
    have:=h.mem_iff.1 (List.mem_cons_self (a:=e1.2));simpa using this
   rcases h1 with h1|h1
   ·rw [h1]at h;have:=List.perm_singleton.1 ((List.perm_cons x).1 h);simp at this;exact⟨e1.1,e2.1,.inl (by rw [<-h1,<-this])⟩
   ·rw [h1]at h;have:=List.perm_singleton.1 ((List.perm_cons y).1 (h.trans (List.Perm.swap _ _ _)));simp at this;exact⟨e1.1,e2.1,.inr (by rw [<-h1,<-this])⟩
end
end Go
namespace Go
theorem Calls.quietM{P:Program}{f:FuncId}{args:Array Value}{w:World}{bs cs:Array Obj}{d:Nat}{v:Value}
 (h:Calls P f args (w.grow (bs++cs) d) fun e w'=>e= .returned v/\(w.grow (bs++cs) d).Grows w'):Calls P f args (w.grow (bs++cs) d) fun e w''=>e= .returned v/\∃g:dO,w''=w.grow (bs++g.bs) g.d:=
 h.mono fun _ _ ⟨he,bs',d',hw⟩=>⟨he,⟨cs++bs',d'⟩,by rw [hw,World.grow_grow,Array.append_assoc]⟩
theorem Calls.quietMS{P:Program}{f:FuncId}{args:Array Value}{w:World}{bs cs:Array Obj}{d:Nat}{v:Value}
 (h:Calls P f args (w.grow (bs++cs) d) fun e w'=>e= .returned v/\(w.grow (bs++cs) d)=w'):Calls P f args (w.grow (bs++cs) d) fun e w''=>e= .returned v/\∃g:dO,w''=w.grow (bs++g.bs) g.d:=
 h.mono fun _ _ ⟨he,hw⟩=>⟨he,⟨cs,d⟩,hw.symm⟩
end Go
namespace Go
section
variable {P : Program} {l : List Oper} {Q : Exit -> Act -> World -> Prop} {a afin : Act} {w : World} {id : Nat}
abbrev ptrTo(b:Nat):Value:=.pointer (some ⟨b,0,none⟩)
theorem dE(n:Nat)(x y:Nat × Tmp × Obj)(hm:P.follows .mixedOrders=true)(hB:Region.madeB l n [(x.1,x.2.1),(y.1,y.2.1)]=true)
 (hrx:∀o,l[x.1]? =some o->∀ρ w,(execOp ρ o).run P w= .ok (.value (.pointer (some ⟨w.heap.size,0,none⟩))) (w.alloc x.2.2))
 (hry:∀o,l[y.1]? =some o->∀ρ w,(execOp ρ o).run P w= .ok (.value (.pointer (some ⟨w.heap.size,0,none⟩))) (w.alloc y.2.2))
 (h1:∀bs d,wpQuiet P ((l.take n).map Oper.mask).toArray (fun w'=>∃g:dO,w'=(w.grow bs d).grow g.bs g.d) (· =afin) ((l.take n).map Oper.mask) a)
 (h2:∀gb1 gd1 gb2 gd2 gb gd,wpList P l.toArray Q (l.drop n) ((afin.put (some x.2.1) (ptrTo (w.heap.size+gb1.size))).put (some y.2.1) (ptrTo (w.heap.size+gb1.size+1+gb2.size))) (((((w.grow gb1 gd1).alloc x.2.2).grow gb2 gd2).alloc y.2.2).grow gb gd))
 (h3:∀gb1 gd1 gb2 gd2 gb gd,wpList P l.toArray Q (l.drop n) ((afin.put (some y.2.1) (ptrTo (w.heap.size+gb1.size))).put (some x.2.1) (ptrTo (w.heap.size+gb1.size+1+gb2.size))) (((((w.grow gb1 gd1).alloc y.2.2).grow gb2 gd2).alloc x.2.2).grow gb gd)):(Code.region id l.toArray true).wp P Q a w:=
 sV n [x,y] hm hB (fun z hz=>by
  simp only [List.mem_cons,List.not_mem_nil,or_false]at hz;rcases hz with rfl|rfl
  ·exact hrx
  ·exact hry) ⟨afin,h1,fun evs g hp=>by
  obtain⟨g1,g2,rfl|rfl⟩:=KW hp
  ·have:=h3 g2.bs g2.d g1.bs g1.d g.bs g.d;simpa only [jd,fU,ptrTo,World.size_grow,World.size_alloc]using this
  ·have:=h2 g2.bs g2.d g1.bs g1.d g.bs g.d
   simpa only [jd,fU,ptrTo,World.size_grow,World.size_alloc]using this⟩
end
end Go
namespace Go
section
variable {P : Program} {ops : Array Oper} {Q : Exit -> Act -> World -> Prop} {S : World -> Prop}

def Gives(P:Program)(ops:Array Oper)(S:World->Prop)(o:Oper)(v:Value)(a:Act):Prop:=
 (Region.wanted o (yielded ops a.tmps)=false/\v=undef)\/
 (Region.wanted o (yielded ops a.tmps)=true/\∀w,S w->(execOp a.eval o).run P w= .ok (.value v) w\/
  ∃f args,(execOp a.eval o).run P w= .ok (.enter f args) w/\Calls P f args w fun e w'=>e= .returned v/\w=w')
theorem Gives.same{o:Oper}{v:Value}{a a':Act}(h:Gives P ops S o v a)(he:execOp a'.eval o=execOp a.eval o)
 (hw:Region.wanted o (yielded ops a'.tmps)=Region.wanted o (yielded ops a.tmps)):Gives P ops S o v a':=by
 simp only [Gives]at h ⊢;rw [hw,he];exact h
theorem Gives.step{i:Nat}{o:Oper}{v:Value}{a:Act}{w:World}{K:Act->World->Prop}(hi:ops[i]? =some o)(h:Gives P ops S o v a)(hS:S w)(hK:K (a.put o.dst v) w):wpOp P ops Q i K a w:=by
 simp only [Go.wpOp,hi];rcases h with ⟨hw,rfl⟩|⟨hw,hv⟩
 ·rw [if_neg (by simp [hw])];exact hK
 ·rw [if_pos hw];left;unfold Oper.wp;rcases hv w hS with hr|⟨f,args,hr,hc⟩
  ·rw [hr];exact hK
  ·rw [hr];refine hc.mono ?_;rintro e w' ⟨rfl,rfl⟩;exact hK
theorem DF{j:Nat}{oj:Oper}(hj:ops[j]? =some oj){Y:Act->Prop}(hput:∀a u,Y a->Y (a.put oj.dst u))(hdef:∀(a:Act) d,Y a->Y {a with defers:=d::a.defers})
 {K:Act->World->Prop} {a:Act} {w:World} (hY:Y a) (h:wpOp P ops Q j K a w):wpOp P ops Q j (fun a' w'=>Y a'/\K a' w') a w:=by
 simp only [Go.wpOp,hj]at h ⊢;by_cases hw:Region.wanted oj (yielded ops a.tmps)=true
 ·rw [if_pos hw]at h ⊢;refine h.imp (fun h=>?_) id;unfold Oper.wp at h ⊢
  cases hr:(execOp a.eval oj).run P w with
  |halt x w'=>
   rw [hr]at h;cases x<;>exact h
  |ok n w'=>
   rw [hr]at h
   cases n with
   |value u=>exact⟨hput _ _ hY,h⟩
   |skip=>exact⟨hput _ _ hY,h⟩
   |defer d=>exact⟨hput _ _ (hdef _ _ hY),h⟩
   |enter f args=>
    refine Calls.mono h fun e w'' he=>?_
    cases e with
    |returned u=>exact⟨hput _ _ hY,he⟩
    |panicked c=>exact he
    |outgrown=>exact he
   |row r args=>exact Rows.mono h fun u w'' he=>⟨hput _ _ hY,he⟩
   |_=>exact h
 ·rw [if_neg hw]at h ⊢;exact⟨hput _ _ hY,h⟩
theorem vU{j:Nat}{oi oj:Oper}{v:Value}(hj:ops[j]? =some oj)(hap:oi.apart ops oj=true)(hsi:∀cs b,oi.op≠.select cs b)(hsj:∀cs b,oj.op≠.select cs b)
 (hQ:∀c a w,Q (.panic c) (a.put oi.dst v) w->Q (.panic c) a w) {K:Act->World->Prop} {a:Act} {w:World} (hy:Gives P ops S oi v a) (h:wpOp P ops Q j K (a.put oi.dst v) w) :
 wpOp P ops Q j (fun a' w'=>Gives P ops S oi v a'/\K (a'.put oi.dst v) w') a w:=by
 have dummy:YieldsIf P ops (fun _=>False) oi v a:=by
  rcases hy with ⟨h1,h2⟩|⟨h1,_⟩
  ·exact .inr ⟨h1,h2⟩
  ·exact .inl ⟨h1,fun _ h=>h.elim⟩
 obtain⟨_,_,h3⟩:=Oper.apart_spec hap
 exact wpOp_mono (fun _ _ h=>⟨h.1,h.2.2⟩) (DF hj (Y:=Gives P ops S oi v)
  (fun a u hg=>hg.same (execOp_put oi hsi a oj.dst u h3) (wanted_put oi a oj.dst u h3)) (fun a d hg=>hg.same rfl rfl) hy (wpOp_putIf hj hap hsi hsj hQ dummy h))

def Region.Closed(ops:Array Oper)(listed:Array Bool):Prop:=∀j oj,ops[j]? =some oj->listed.getD j false=true->∀e∈oj.after,Region.binds .any e=true->listed.getD e.on false=true
theorem Region.Closed.set{listed:Array Bool}{i:Nat}(h:Region.Closed ops listed)(hi:i∈Region.ready .any ops listed):Region.Closed ops (listed.setIfInBounds i true):=by
 intro j oj hj hl e he hb;obtain⟨_,o,ho,hall⟩:=mem_ready.1 hi;by_cases hij:i=j
 ·subst hij;obtain rfl:o=oj:=Option.some.inj (ho.symm.trans hj);exact getD_set_true (hall e he hb)
 ·rw [getD_set_ne false hij]at hl;exact getD_set_true (h j oj hj hl e he hb)
theorem Region.Closed.start(ops:Array Oper)(n:Nat):Region.Closed ops (Array.replicate n false):=by
 intro j oj hj hl;simp [Array.getD_eq_getD_getElem?,Array.getElem?_replicate]at hl
 split at hl<;>simp at hl
def Region.lastB(ops:Array Oper)(t:Nat):Bool:=(List.range ops.size).all fun k=>k==t || (Region.close ops ops.size (Region.preds ops t)).contains k
theorem Region.last_listed{t:Nat}{listed:Array Bool}(hB:Region.lastB ops t=true)(hc:Region.Closed ops listed)(ht:t∈Region.ready .any ops listed){k:Nat}(hk:k<ops.size)(hkt:k≠t):listed.getD k false=true:=by
 have h1:=List.all_eq_true.1 hB k (List.mem_range.2 hk);simp only [Bool.or_eq_true,beq_iff_eq,hkt,false_or,List.contains_iff_mem]at h1;obtain⟨_,o,ho,hall⟩:=mem_ready.1 ht;refine Region.close_listed hc ops.size (Region.preds ops t) (fun j hj=>?_) k h1;obtain⟨e,he,hb,hon⟩:=Region.mem_preds ho hj;have:=hall e he hb
 rwa [hon]at this

def sW(P:Program)(ops:Array Oper)(Q:Exit->Act->World->Prop)(S:World->Prop)(t:Nat):Nat->Array Bool->Act->World->Prop
 |0,listed,a,w=>Region.ready .any ops listed= []/\Q .normal a w
 |f+1,listed,a,w=>(Region.ready .any ops listed= []->Q .normal a w)/\
  ∀i∈Region.ready .any ops listed,wpOp P ops Q i (fun a' w'=>(i≠t->S w')/\sW P ops Q S t f (listed.setIfInBounds i true) a' w') a w
theorem nH{t:Nat}:∀(f:Nat) (listed:Array Bool) (a:Act) (w:World),sW P ops Q S t f listed a w->wpAny P .any ops Q f listed a w
 |0,_,_,_,h=>h
 |f+1,_,_,_,h=>⟨h.1,fun i hi=>wpOp_mono (fun a' w' h'=>nH f _ a' w' h'.2) (h.2 i hi)⟩
theorem xV{t i:Nat}{oi:Oper}{v:Value}(hB:Region.lastB ops t=true)(hi:ops[i]? =some oi)(hit:i≠t)(hsel:∀(j:Nat) (o:Oper) cs b,ops[j]? =some o->o.op≠.select cs b)
 (hQ:∀c a w,Q (.panic c) (a.put oi.dst v) w->Q (.panic c) a w) :
 ∀(f:Nat) (listed:Array Bool) (a:Act) (w:World),Region.Closed ops listed->
  (∀j oj,ops[j]? =some oj->j≠i->listed.getD j true=false->(∀e∈oj.after,Region.binds .any e=true->e.on≠i)->oi.apart ops oj=true)->
  i∈Region.ready .any ops listed->Gives P ops S oi v a->S w->sW P ops Q S t f (listed.setIfInBounds i true) (a.put oi.dst v) w->sW P ops Q S t (f+1) listed a w:=by
 intro f
 induction f with
 |zero=>
  intro listed a w hcl _ hr hy hS H;refine⟨fun h=>by(rw [h]at hr;cases hr),fun j hj=>?_⟩;by_cases hji:j=i
  ·subst hji;exact hy.step hi hS ⟨fun _=>hS,H⟩
  ·have:=ready_mono hj hji;rw [H.1]at this;cases this
 |succ f ih=>
  intro listed a w hcl hfree hr hy hS H;refine⟨fun h=>by(rw [h]at hr;cases hr),fun j hj=>?_⟩;by_cases hji:j=i
  ·subst hji;exact hy.step hi hS ⟨fun _=>hS,H⟩
  ·obtain⟨hun,oj,hoj,hall⟩:=mem_ready.1 hj;have hir:=(mem_ready.1 hr).1;have hilt:i<ops.size:=(Array.getElem?_eq_some_iff.1 hi).1
   have hnl:listed.getD i false=true->False:=fun hl=>by
    simp only [Array.getD_eq_getD_getElem?]at hir hl
    cases hli:listed[i]? with
    |none=>rw [hli]at hl;cases hl
    |some b=>rw [hli]at hl hir;simp at hl hir;rw [hl]at hir;cases hir
   have hjt:j≠t:=fun e=>by
    subst e;exact hnl (Region.last_listed hB hcl hj hilt (Ne.symm hji))
   have hno:∀e∈oj.after,Region.binds .any e=true->e.on≠i:=fun e he hb heq=>hnl (heq ▸ hall e he hb);have h2:=vU hoj (hfree j oj hoj hji hun hno) (fun cs b=>hsel i oi cs b hi) (fun cs b=>hsel j oj cs b hoj) hQ hy (H.2 j (ready_mono hj hji));refine wpOp_mono (fun a' w' h3=>⟨fun _=>h3.2.1 hjt,ih (listed.setIfInBounds j true) a' w' (hcl.set hj) ?_ (ready_mono hr (Ne.symm hji)) h3.1 (h3.2.1 hjt) ?_⟩) h2
   ·intro k ok hk hki hunk hnok;refine hfree k ok hk hki ?_ hnok;by_cases hjk:j=k
    ·subst hjk;exact hun
    ·rwa [getD_set_ne true hjk]at hunk
   ·rw [Array.setIfInBounds_comm _ _ hji];exact h3.2.2

def TG(P:Program)(ops:Array Oper)(Q:Exit->Act->World->Prop)(S:World->Prop)(t:Nat)(f:Nat)(listed:Array Bool)(a:Act)(w:World):Prop:=
 Region.lastB ops t=true->Region.Closed ops listed->sW P ops Q S t f listed a w
theorem TG.begin{id:Nat}{a:Act}{w:World}(t:Nat)(S:World->Prop)(hm:P.follows .mixedOrders=true)(hB:Region.lastB ops t=true)(hS:S w.drew)
 (h:S w.drew->TG P ops Q S t ops.size (Array.replicate ops.size false) a w.drew):(Code.region id ops true).wp P Q a w:=
 wp_region_any hm (nH _ _ _ _ (h hS hB (Region.Closed.start _ _)))
theorem TG.take{t i f:Nat}{oi:Oper}{v:Value}{listed:Array Bool}{a:Act}{w:World}(hi:ops[i]? =some oi)(hs:Region.noSelect ops=true)(hf:Region.free .any ops listed i=true)
 (hr:(Region.ready .any ops listed).contains i=true) (hit:i≠t) (hQ:∀c a w,Q (.panic c) (a.put oi.dst v) w->Q (.panic c) a w) (hy:Gives P ops S oi v a) (hS:S w)
 (h:TG P ops Q S t f (listed.setIfInBounds i true) (a.put oi.dst v) w):TG P ops Q S t (f+1) listed a w:=fun hB hcl=>
 xV hB hi hit (Region.noSelect_spec hs) hQ f listed a w hcl (Region.free_spec hi hf) (by simpa using hr) hy hS (h hB (hcl.set (by simpa using hr)))
theorem TG.takeV{t i f:Nat}{oi:Oper}{v:Value}{listed:Array Bool}{a:Act}{w:World}(hi:ops[i]? =some oi)(hs:Region.noSelect ops=true)(hf:Region.free .any ops listed i=true)
 (hr:(Region.ready .any ops listed).contains i=true) (hit:i≠t) (hQ:∀c a w,Q (.panic c) (a.put oi.dst v) w->Q (.panic c) a w) (hw:Region.wanted oi (yielded ops a.tmps)=true) (hS:S w)
 (hy:∀w,S w->(execOp a.eval oi).run P w= .ok (.value v) w) (h:TG P ops Q S t f (listed.setIfInBounds i true) (a.put oi.dst v) w):TG P ops Q S t (f+1) listed a w:=
 TG.take hi hs hf hr hit hQ (.inr ⟨hw,fun w hS=>.inl (hy w hS)⟩) hS h
theorem TG.takeC{t i f:Nat}{oi:Oper}{v:Value}{fn:FuncId}{args:Array Value}{listed:Array Bool}{a:Act}{w:World}(hi:ops[i]? =some oi)(hs:Region.noSelect ops=true)(hf:Region.free .any ops listed i=true)
 (hr:(Region.ready .any ops listed).contains i=true) (hit:i≠t) (hQ:∀c a w,Q (.panic c) (a.put oi.dst v) w->Q (.panic c) a w) (hw:Region.wanted oi (yielded ops a.tmps)=true) (hS:S w)
 (hy:∀w,S w->(execOp a.eval oi).run P w= .ok (.enter fn args) w) (hc:∀w,S w->Calls P fn args w fun e w'=>e= .returned v/\w=w')
 (h:TG P ops Q S t f (listed.setIfInBounds i true) (a.put oi.dst v) w):TG P ops Q S t (f+1) listed a w:=
 TG.take hi hs hf hr hit hQ (.inr ⟨hw,fun w hS=>.inr ⟨_,_,hy w hS,hc w hS⟩⟩) hS h
theorem TG.one{t i f:Nat}{o:Oper}{listed:Array Bool}{a:Act}{w:World}(hr:Region.ready .any ops listed= [i])(ho:ops[i]? =some o)
 (h:∀K':Act->World->Prop,(∀a' w',(i≠t->S w')->TG P ops Q S t f (listed.setIfInBounds i true) a' w'->K' a' w')->if Region.wanted o (yielded ops a.tmps)=true then Oper.wp P o a w K' Q else K' (a.put o.dst undef) w):TG P ops Q S t (f+1) listed a w:=fun hB hcl=>
 ⟨fun h0=>by(rw [hr]at h0;cases h0),fun j hj=>by
  have hj':=hj;rw [hr]at hj;obtain rfl:j=i:=by simpa using hj
  exact wpOp_step ho fun K' hK=>h K' fun a' w' h1 h2=>hK a' w' ⟨h1,h2 hB (hcl.set hj')⟩⟩
theorem TG.two{t i k f:Nat}{listed:Array Bool}{a:Act}{w:World}{o1 o2:Oper}(hr:Region.ready .any ops listed= [i,k])(ho1:ops[i]? =some o1)(ho2:ops[k]? =some o2)
 (h1:∀K':Act->World->Prop,(∀a' w',(i≠t->S w')->TG P ops Q S t f (listed.setIfInBounds i true) a' w'->K' a' w')->if Region.wanted o1 (yielded ops a.tmps)=true then Oper.wp P o1 a w K' Q else K' (a.put o1.dst undef) w)
 (h2:∀K':Act->World->Prop,(∀a' w',(k≠t->S w')->TG P ops Q S t f (listed.setIfInBounds k true) a' w'->K' a' w')->if Region.wanted o2 (yielded ops a.tmps)=true then Oper.wp P o2 a w K' Q else K' (a.put o2.dst undef) w):TG P ops Q S t (f+1) listed a w:=fun hB hcl=>
 ⟨fun h0=>by(rw [hr]at h0;cases h0),fun j hj=>by
  have hj':=hj;rw [hr]at hj;simp only [List.mem_cons,List.not_mem_nil,or_false]at hj;rcases hj with rfl|rfl
  ·exact wpOp_step ho1 fun K' hK=>h1 K' fun a' w' g1 g2=>hK a' w' ⟨g1,g2 hB (hcl.set hj')⟩
  ·exact wpOp_step ho2 fun K' hK=>h2 K' fun a' w' g1 g2=>hK a' w' ⟨g1,g2 hB (hcl.set hj')⟩⟩
theorem TG.go{t i f:Nat}{listed:Array Bool}{a:Act}{w:World}{K:Act->World->Prop}(hK:∀a' w',(i≠t->S w')->TG P ops Q S t f listed a' w'->K a' w')(hS:S w)(h:S w->TG P ops Q S t f listed a w):K a w:=
 hK a w (fun _=>hS) (h hS)
theorem TG.done{t f:Nat}{listed:Array Bool}{a:Act}{w:World}(hr:Region.ready .any ops listed= [])(h:Q .normal a w):TG P ops Q S t f listed a w:=fun _ _=>by
 cases f with
 |zero=>exact⟨hr,h⟩
 |succ f=>exact⟨fun _=>h,by rw [hr];intro i hi;cases hi⟩
end
end Go
namespace Go
section
variable {P : Program} {ops : Array Oper} {Q : Exit -> Act -> World -> Prop} {S : World -> Prop}
def Region.tailsB(ops:Array Oper)(T:List Nat):Bool:=T.all fun t=>(List.range ops.size).all fun k=>T.contains k || (Region.close ops ops.size (Region.preds ops t)).contains k
theorem Region.tails_listed{T:List Nat}{t:Nat}{listed:Array Bool}(hB:Region.tailsB ops T=true)(hT:t∈T)(hc:Region.Closed ops listed)(ht:t∈Region.ready .any ops listed){k:Nat}(hk:k<ops.size)(hkt:k∉T):listed.getD k false=true:=by
 have h1:=List.all_eq_true.1 (List.all_eq_true.1 hB t hT) k (List.mem_range.2 hk);simp only [Bool.or_eq_true,List.contains_iff_mem,hkt,false_or]at h1;obtain⟨_,o,ho,hall⟩:=mem_ready.1 ht;refine Region.close_listed hc ops.size (Region.preds ops t) (fun j hj=>?_) k h1;obtain⟨e,he,hb,hon⟩:=Region.mem_preds ho hj;have:=hall e he hb
 rwa [hon]at this

def oJ(P:Program)(ops:Array Oper)(Q:Exit->Act->World->Prop)(S:World->Prop)(T:List Nat):Nat->Array Bool->Act->World->Prop
 |0,listed,a,w=>Region.ready .any ops listed= []/\Q .normal a w
 |f+1,listed,a,w=>(Region.ready .any ops listed= []->Q .normal a w)/\
  ∀i∈Region.ready .any ops listed,wpOp P ops Q i (fun a' w'=>(i∉T->S w')/\oJ P ops Q S T f (listed.setIfInBounds i true) a' w') a w
theorem lQ{T:List Nat}:∀(f:Nat) (listed:Array Bool) (a:Act) (w:World),oJ P ops Q S T f listed a w->wpAny P .any ops Q f listed a w
 |0,_,_,_,h=>h
 |f+1,_,_,_,h=>⟨h.1,fun i hi=>wpOp_mono (fun a' w' h'=>lQ f _ a' w' h'.2) (h.2 i hi)⟩
theorem vG{T:List Nat}{i:Nat}{oi:Oper}{v:Value}(hB:Region.tailsB ops T=true)(hi:ops[i]? =some oi)(hit:i∉T)(hsel:∀(j:Nat) (o:Oper) cs b,ops[j]? =some o->o.op≠.select cs b)
 (hQ:∀c a w,Q (.panic c) (a.put oi.dst v) w->Q (.panic c) a w) :
 ∀(f:Nat) (listed:Array Bool) (a:Act) (w:World),Region.Closed ops listed->
  (∀j oj,ops[j]? =some oj->j≠i->listed.getD j true=false->(∀e∈oj.after,Region.binds .any e=true->e.on≠i)->oi.apart ops oj=true)->
  i∈Region.ready .any ops listed->Gives P ops S oi v a->S w->oJ P ops Q S T f (listed.setIfInBounds i true) (a.put oi.dst v) w->oJ P ops Q S T (f+1) listed a w:=by
 intro f
 induction f with
 |zero=>
  intro listed a w hcl _ hr hy hS H;refine⟨fun h=>by(rw [h]at hr;cases hr),fun j hj=>?_⟩;by_cases hji:j=i
  ·subst hji;exact hy.step hi hS ⟨fun _=>hS,H⟩
  ·have:=ready_mono hj hji;rw [H.1]at this;cases this
 |succ f ih=>
  intro listed a w hcl hfree hr hy hS H;refine⟨fun h=>by(rw [h]at hr;cases hr),fun j hj=>?_⟩;by_cases hji:j=i
  ·subst hji;exact hy.step hi hS ⟨fun _=>hS,H⟩
  ·obtain⟨hun,oj,hoj,hall⟩:=mem_ready.1 hj;have hir:=(mem_ready.1 hr).1;have hilt:i<ops.size:=(Array.getElem?_eq_some_iff.1 hi).1
   have hnl:listed.getD i false=true->False:=fun hl=>by
    simp only [Array.getD_eq_getD_getElem?]at hir hl
    cases hli:listed[i]? with
    |none=>rw [hli]at hl;cases hl
    |some b=>rw [hli]at hl hir;simp at hl hir;rw [hl]at hir;cases hir
   have hjt:j∉T:=fun e=>hnl (Region.tails_listed hB e hcl hj hilt hit);have hno:∀e∈oj.after,Region.binds .any e=true->e.on≠i:=fun e he hb heq=>hnl (heq ▸ hall e he hb);have h2:=vU hoj (hfree j oj hoj hji hun hno) (fun cs b=>hsel i oi cs b hi) (fun cs b=>hsel j oj cs b hoj) hQ hy (H.2 j (ready_mono hj hji));refine wpOp_mono (fun a' w' h3=>⟨fun _=>h3.2.1 hjt,ih (listed.setIfInBounds j true) a' w' (hcl.set hj) ?_ (ready_mono hr (Ne.symm hji)) h3.1 (h3.2.1 hjt) ?_⟩) h2
   ·intro k ok hk hki hunk hnok;refine hfree k ok hk hki ?_ hnok;by_cases hjk:j=k
    ·subst hjk;exact hun
    ·rwa [getD_set_ne true hjk]at hunk
   ·rw [Array.setIfInBounds_comm _ _ hji];exact h3.2.2

def TS(P:Program)(ops:Array Oper)(Q:Exit->Act->World->Prop)(S:World->Prop)(T:List Nat)(f:Nat)(listed:Array Bool)(a:Act)(w:World):Prop:=
 Region.tailsB ops T=true->Region.Closed ops listed->oJ P ops Q S T f listed a w
theorem TS.begin{id:Nat}{a:Act}{w:World}(T:List Nat)(S:World->Prop)(hm:P.follows .mixedOrders=true)(hB:Region.tailsB ops T=true)(hS:S w.drew)
 (h:S w.drew->TS P ops Q S T ops.size (Array.replicate ops.size false) a w.drew):(Code.region id ops true).wp P Q a w:=
 wp_region_any hm (lQ _ _ _ _ (h hS hB (Region.Closed.start _ _)))
theorem TS.take{T:List Nat}{i f:Nat}{oi:Oper}{v:Value}{listed:Array Bool}{a:Act}{w:World}(hi:ops[i]? =some oi)(hs:Region.noSelect ops=true)(hf:Region.free .any ops listed i=true)
 (hr:(Region.ready .any ops listed).contains i=true) (hit:i∉T) (hQ:∀c a w,Q (.panic c) (a.put oi.dst v) w->Q (.panic c) a w) (hy:Gives P ops S oi v a) (hS:S w)
 (h:TS P ops Q S T f (listed.setIfInBounds i true) (a.put oi.dst v) w):TS P ops Q S T (f+1) listed a w:=fun hB hcl=>
 vG hB hi hit (Region.noSelect_spec hs) hQ f listed a w hcl (Region.free_spec hi hf) (by simpa using hr) hy hS (h hB (hcl.set (by simpa using hr)))
theorem TS.takeV{T:List Nat}{i f:Nat}{oi:Oper}{v:Value}{listed:Array Bool}{a:Act}{w:World}(hi:ops[i]? =some oi)(hs:Region.noSelect ops=true)(hf:Region.free .any ops listed i=true)
 (hr:(Region.ready .any ops listed).contains i=true) (hit:i∉T) (hQ:∀c a w,Q (.panic c) (a.put oi.dst v) w->Q (.panic c) a w) (hw:Region.wanted oi (yielded ops a.tmps)=true) (hS:S w)
 (hy:∀w,S w->(execOp a.eval oi).run P w= .ok (.value v) w) (h:TS P ops Q S T f (listed.setIfInBounds i true) (a.put oi.dst v) w):TS P ops Q S T (f+1) listed a w:=
 TS.take hi hs hf hr hit hQ (.inr ⟨hw,fun w hS=>.inl (hy w hS)⟩) hS h
theorem TS.takeC{T:List Nat}{i f:Nat}{oi:Oper}{v:Value}{fn:FuncId}{args:Array Value}{listed:Array Bool}{a:Act}{w:World}(hi:ops[i]? =some oi)(hs:Region.noSelect ops=true)(hf:Region.free .any ops listed i=true)
 (hr:(Region.ready .any ops listed).contains i=true) (hit:i∉T) (hQ:∀c a w,Q (.panic c) (a.put oi.dst v) w->Q (.panic c) a w) (hw:Region.wanted oi (yielded ops a.tmps)=true) (hS:S w)
 (hy:∀w,S w->(execOp a.eval oi).run P w= .ok (.enter fn args) w) (hc:∀w,S w->Calls P fn args w fun e w'=>e= .returned v/\w=w')
 (h:TS P ops Q S T f (listed.setIfInBounds i true) (a.put oi.dst v) w):TS P ops Q S T (f+1) listed a w:=
 TS.take hi hs hf hr hit hQ (.inr ⟨hw,fun w hS=>.inr ⟨_,_,hy w hS,hc w hS⟩⟩) hS h
theorem TS.one{T:List Nat}{i f:Nat}{o:Oper}{listed:Array Bool}{a:Act}{w:World}(hr:Region.ready .any ops listed= [i])(ho:ops[i]? =some o)
 (h:∀K':Act->World->Prop,(∀a' w',(i∉T->S w')->TS P ops Q S T f (listed.setIfInBounds i true) a' w'->K' a' w')->if Region.wanted o (yielded ops a.tmps)=true then Oper.wp P o a w K' Q else K' (a.put o.dst undef) w):TS P ops Q S T (f+1) listed a w:=fun hB hcl=>
 ⟨fun h0=>by(rw [hr]at h0;cases h0),fun j hj=>by
  have hj':=hj;rw [hr]at hj;obtain rfl:j=i:=by simpa using hj
  exact wpOp_step ho fun K' hK=>h K' fun a' w' h1 h2=>hK a' w' ⟨h1,h2 hB (hcl.set hj')⟩⟩
theorem TS.two{T:List Nat}{i k f:Nat}{listed:Array Bool}{a:Act}{w:World}{o1 o2:Oper}(hr:Region.ready .any ops listed= [i,k])(ho1:ops[i]? =some o1)(ho2:ops[k]? =some o2)
 (h1:∀K':Act->World->Prop,(∀a' w',(i∉T->S w')->TS P ops Q S T f (listed.setIfInBounds i true) a' w'->K' a' w')->if Region.wanted o1 (yielded ops a.tmps)=true then Oper.wp P o1 a w K' Q else K' (a.put o1.dst undef) w)
 (h2:∀K':Act->World->Prop,(∀a' w',(k∉T->S w')->TS P ops Q S T f (listed.setIfInBounds k true) a' w'->K' a' w')->if Region.wanted o2 (yielded ops a.tmps)=true then Oper.wp P o2 a w K' Q else K' (a.put o2.dst undef) w):TS P ops Q S T (f+1) listed a w:=fun hB hcl=>
 ⟨fun h0=>by(rw [hr]at h0;cases h0),fun j hj=>by
  have hj':=hj;rw [hr]at hj;simp only [List.mem_cons,List.not_mem_nil,or_false]at hj;rcases hj with rfl|rfl
  ·exact wpOp_step ho1 fun K' hK=>h1 K' fun a' w' g1 g2=>hK a' w' ⟨g1,g2 hB (hcl.set hj')⟩
  ·exact wpOp_step ho2 fun K' hK=>h2 K' fun a' w' g1 g2=>hK a' w' ⟨g1,g2 hB (hcl.set hj')⟩⟩
theorem TS.go{T:List Nat}{i f:Nat}{listed:Array Bool}{a:Act}{w:World}{K:Act->World->Prop}(hK:∀a' w',(i∉T->S w')->TS P ops Q S T f listed a' w'->K a' w')(hS:S w)(h:S w->TS P ops Q S T f listed a w):K a w:=
 hK a w (fun _=>hS) (h hS)
theorem TS.done{T:List Nat}{f:Nat}{listed:Array Bool}{a:Act}{w:World}(hr:Region.ready .any ops listed= [])(h:Q .normal a w):TS P ops Q S T f listed a w:=fun _ _=>by
 cases f with
 |zero=>exact⟨hr,h⟩
 |succ f=>exact⟨fun _=>h,by rw [hr];intro i hi;cases hi⟩
end
end Go
namespace Go
section
variable {P : Program} {ops : Array Oper} {Q : Exit -> Act -> World -> Prop} {S S' : World -> Prop} {T : List Nat}
end
theorem World.Grows.trans'{a b c:World}(h:a.Grows b)(g:b.Grows c):a.Grows c:=by
 obtain⟨bs,d,rfl⟩:=h;obtain⟨bs',d',rfl⟩:=g;exact⟨_,_,World.grow_grow _ _ _ _ _⟩
theorem gqq{a b c:World}(h:a.Grows b)(g:b.Grows c):a.Grows c:=World.Grows.trans' h g
theorem RowKit.Below.peel{n:Nat}{A Y:World}{x cs:Array Obj}{d':Nat}(h:RowKit.Below n A (Y.grow x 0))(hn:n<=(Y.grow x 0).heap.size):RowKit.Below n A (Y.grow (x++cs) d'):=by
 have:=h.grow hn cs d'
 rwa [World.grow_grow]at this
theorem RowKit.Below.fin{n:Nat}{Y:World}{x:Array Obj}{d d':Nat}:RowKit.Below n (Y.grow x d) (Y.grow x d'):=⟨rfl,rfl,rfl,Nat.le_refl _,fun _ _=>rfl⟩
theorem ag{w w':World}(h:RowKit.Below w.heap.size w w':=by(try simp only [<-Array.append_assoc]);repeat' (first|(with_reducible exact Go.RowKit.Below.fin)|(with_reducible exact Go.RowKit.Below.refl _ _)|(with_reducible assumption)|(with_reducible refine Go.RowKit.Below.peel ?_ ?_)|(with_reducible refine Go.RowKit.Below.grow ?_ ?_ _ _)|(with_reducible refine Go.RowKit.Below.alloc ?_ ?_ _)|(with_reducible refine Go.RowKit.Below.drewN ?_ _)|(with_reducible refine Go.RowKit.Below.drew ?_)|(with_reducible refine Go.RowKit.Below.setCell ?_ ?_ _)|go_size)):w.Grows w':=.of_below h
end Go
namespace Go
section
variable {P : Program} {ops : Array Oper} {Q : Exit -> Act -> World -> Prop} {S : World -> Prop} {T : List Nat} {B : World} {t f : Nat} {oi : Oper} {v : Value} {listed : Array Bool} {a a1 a' : Act} {w w' : World}
theorem kq(i:Nat)(hS:B.Grows w)(h:TS P ops Q (World.Grows B) T f (listed.setIfInBounds i true) a' w)
 (hi:ops[i]? =some oi:=by rfl) (hs:Region.noSelect ops=true:=by kernel_rfl) (hf:Region.free .any ops listed i=true:=by kernel_rfl) (hr:(Region.ready .any ops listed).contains i=true:=by kernel_rfl) (hit:i∉T:=by decide)
 (hQ:∀c a w,Q (.panic c) (a.put oi.dst v) w->Q (.panic c) a w:=by first|exact fun _ _ _ h=>h|exact fun _ _ _ h=>hpan _ _ _ _ _ h) (hw:Region.wanted oi (yielded ops a.tmps)=true:=by rfl) (hy:∀w,B.Grows w->(execOp a.eval oi).run P w= .ok (.value v) w:=by rintro wS ⟨gbS,gdS,rfl⟩;go_simp;rfl)
 (ha:a.put oi.dst v=a':=by first|(simp only [nS];rfl)|rfl):TS P ops Q (World.Grows B) T (f+1) listed a w:=by
 subst ha;exact TS.takeV hi hs hf hr hit hQ hw hS hy h
theorem TG.tkB(i:Nat)(hS:S w)(h:TG P ops Q S t f (listed.setIfInBounds i true) a' w)
 (hi:ops[i]? =some oi:=by rfl) (hs:Region.noSelect ops=true:=by kernel_rfl) (hf:Region.free .any ops listed i=true:=by kernel_rfl) (hr:(Region.ready .any ops listed).contains i=true:=by kernel_rfl) (hit:i≠t:=by decide)
 (hQ:∀c a w,Q (.panic c) (a.put oi.dst v) w->Q (.panic c) a w:=by first|exact fun _ _ _ h=>h|exact fun _ _ _ h=>hpan _ _ _ _ _ h) (hw:Region.wanted oi (yielded ops a.tmps)=true:=by rfl) (hy:∀w,S w->(execOp a.eval oi).run P w= .ok (.value v) w:=by intro wS hSw;(try dsimp only at hSw);go_simp;rfl)
 (ha:a.put oi.dst v=a':=by first|(simp only [nS];rfl)|rfl):TG P ops Q S t f.succ listed a w:=by
 subst ha;exact TG.takeV hi hs hf hr hit hQ hw hS hy h
theorem TS.wtB(i:Nat)(h:TS P ops Q S T f (listed.setIfInBounds i true) a' w')(hr:Region.ready .any ops listed= [i]:=by kernel_rfl)(ho:ops[i]? =some oi:=by rfl)(hT:i∈T:=by decide)
 (hst:∀K':Act->World->Prop,K' a1 w'->if Region.wanted oi (yielded ops a.tmps)=true then Oper.wp P oi a w K' Q else K' (a.put oi.dst undef) w:=by intro K1 hK1;go_simp;exact hK1)
 (ha:a1=a':=by first|(simp only [nS];rfl)|rfl):TS P ops Q S T (f+1) listed a w:=by
 subst ha;exact TS.one hr ho fun K' hK=>hst K' (hK _ _ (fun h=>absurd hT h) h)
theorem TS.weB(i:Nat)(h:Q .normal a' w')(hr:Region.ready .any ops listed= [i]:=by kernel_rfl)(ho:ops[i]? =some oi:=by rfl)(hT:i∈T:=by decide)(hd:Region.ready .any ops (listed.setIfInBounds i true)= []:=by kernel_rfl)
 (hst:∀K':Act->World->Prop,K' a1 w'->if Region.wanted oi (yielded ops a.tmps)=true then Oper.wp P oi a w K' Q else K' (a.put oi.dst undef) w:=by intro K1 hK1;go_simp;exact hK1)
 (ha:a1=a':=by first|(simp only [nS];rfl)|rfl):TS P ops Q S T (f+1) listed a w:=by
 subst ha;exact TS.one hr ho fun K' hK=>hst K' (hK _ _ (fun h=>absurd hT h) (TS.done hd h))
end
end Go
namespace Go
theorem gvq{P:Program}{f:FuncId}{a:Array Value}{w y:World}{v:Value}{Q R:Ending→World→Prop}(h:Calls P f a w R)(k:∀bs d,Q (.returned v) (y.grow bs d))(q:∀e w',R e w'→e= .returned v∧y.Grows w':=by exact fun _ _ h=>h):Calls P f a w Q:=h.mono fun _ _ h=>by obtain⟨rfl,bs,d,rfl⟩:=q _ _ h;exact k bs d
theorem gw{P:Program}{f:FuncId}{a:Array Value}{w y:World}{v:Value}{Q R:Ending→World→Prop}(h:Calls P f a w R)(k:Q (.returned v) y)(q:∀e w',R e w'→e= .returned v∧y=w':=by first|exact fun _ _ h=>h|exact fun _ _ h=>⟨h.1,h.2.symm⟩):Calls P f a w Q:=h.mono fun _ _ h=>by obtain⟨rfl,rfl⟩:=q _ _ h;exact k
end Go
