import Derived.Test.YthionhbjmheimaaDoorLWide
import Derived.Test.YthionhbjmheimaaDoorLK
import Derived.Lib.SmallJoins
set_option linter.all false
set_option maxHeartbeats 16000000
set_option maxRecDepth 1000000
namespace Go.Proofs.YthionhbjmheimaaDoor
open Go.RowKit

instance:Inhabited ByteArray:=⟨ByteArray.empty⟩
def inpN:List (ByteArray × Int):=[(⟨#[97,103,101]⟩,2),(⟨#[121,101,97,114]⟩,2),(⟨#[99,104,105,108,100,114,101,110]⟩,2),(⟨#[105,110,115,117,114,101,100]⟩,3),(⟨#[119,111,114,107,101,100]⟩,3),(⟨#[118,111,108,117,110,116,97,114,121]⟩,3),(⟨#[115,101,114,118,105,99,101]⟩,3),(⟨#[101,113,117,97,116,101,100]⟩,3),(⟨#[114,97,105,115,105,110,103]⟩,3),(⟨#[114,101,115,105,100,101,110,116]⟩,3),(⟨#[98,97,115,101]⟩,4)]
def namesOf(l:List (ByteArray × Int))(dim:Int):List ByteArray:=(l.filter (fun b=>decide (b.2=dim))).map (·.1)
theorem namesOf_append(a b:List (ByteArray × Int))(dim:Int):namesOf (a++b) dim=namesOf a dim++namesOf b dim:=by simp [namesOf]
theorem namesOf_le(l:List (ByteArray × Int))(dim:Int):(namesOf l dim).length≤l.length:=by
 unfold namesOf;rw [List.length_map];exact List.length_filter_le _ _
def allNames(env:List (ByteArray × Int))(dim:Int):List ByteArray:=namesOf inpN dim++namesOf env dim
theorem allNames_le(env:List (ByteArray × Int))(dim:Int):(allNames env dim).length≤11+env.length:=by
 unfold allNames;rw [List.length_append]
 have:=namesOf_le inpN dim
 have:=namesOf_le env dim
 have:inpN.length=11:=rfl
 omega

def leafN(zs:List Int)(env:List (ByteArray × Int))(p:Nat)(dim:Int):Ex × Nat:=
 if nextV zs p ((allNames env dim).length+3)<(allNames env dim).length then
  (.mk 2 0 0 0 ((allNames env dim).getD (nextV zs p ((allNames env dim).length+3)).toNat ByteArray.empty) [],p+1)
 else if dim=4∧nextV zs p ((allNames env dim).length+3)=(allNames env dim).length then(.mk 3 (1+nextV zs (p+1) 5) 1 0 ByteArray.empty [],p+2)
 else(.mk 1 (numN zs (p+1)) (numD zs (p+1)) dim ByteArray.empty [],p+3)
def leafF(zs:List Int)(env:List (ByteArray × Int))(dim:Int)(p:Nat)(left:Int):Ex × Nat × Int:=
 if dim=1 then
  (.mk (11+nextV zs (p+1) 6) 0 0 0 ByteArray.empty [(leafN zs env (p+2) (2+nextV zs p 3)).1,(leafN zs env (leafN zs env (p+2) (2+nextV zs p 3)).2 (2+nextV zs p 3)).1],
   (leafN zs env (leafN zs env (p+2) (2+nextV zs p 3)).2 (2+nextV zs p 3)).2,left-3)
 else((leafN zs env p dim).1,(leafN zs env p dim).2,left-1)
theorem leafN_bd(zs:List Int)(env:List (ByteArray × Int))(p:Nat)(dim:Int):p≤(leafN zs env p dim).2∧(leafN zs env p dim).2≤p+3:=by
 unfold leafN
 split
 ·simp
 ·split<;>simp
theorem leafF_bd(zs:List Int)(env:List (ByteArray × Int))(dim:Int)(p:Nat)(left:Int) :
 p≤(leafF zs env dim p left).2.1∧(leafF zs env dim p left).2.1≤p+8∧left-3≤(leafF zs env dim p left).2.2∧(leafF zs env dim p left).2.2≤left:=by
 unfold leafF
 split
 ·have a:=leafN_bd zs env (p+2) (2+nextV zs p 3)
  have b:=leafN_bd zs env (leafN zs env (p+2) (2+nextV zs p 3)).2 (2+nextV zs p 3)
  dsimp only
  omega
 ·have a:=leafN_bd zs env p dim
  dsimp only
  omega

def prodF(zs:List Int)(p:Nat)(dim:Int):Option (Int × List Int × Nat):=
 if dim=1 then
  if nextV zs p 14<2 then some (17+nextV zs p 14,[1,1],p+1)
  else if nextV zs p 14=2 then some (5,[1],p+1)
  else if nextV zs p 14=3 then some (21,[1,1,1],p+1)
  else if nextV zs p 14≤8 then some (11+nextV zs (p+2) 6,[2+nextV zs (p+1) 3,2+nextV zs (p+1) 3],p+3)
  else none
 else if nextV zs p 14=0 then some (7,[dim,dim],p+1)
 else if nextV zs p 14=1 then some (8,[dim,dim],p+1)
 else if nextV zs p 14=2 then some (19,[dim,dim],p+1)
 else if nextV zs p 14=3 then some (20,[dim,dim],p+1)
 else if nextV zs p 14=4 then some (21,[1,dim,dim],p+1)
 else if nextV zs p 14=5 then some (4,[dim],p+1)
 else if nextV zs p 14=6 then some (6,[dim],p+1)
 else if nextV zs p 14=7 then some (9,[2,dim],p+1)
 else if nextV zs p 14=8 then some (9,[dim,2],p+1)
 else if nextV zs p 14=9 then some (10,[dim,2],p+1)
 else if nextV zs p 14=10∧dim=2 then some (10,[2+nextV zs (p+1) 3,2+nextV zs (p+1) 3],p+2)
 else none
def nodeF(E:Int→Nat→Int→Ex × Nat × Int):List Int→Nat→Int→List Ex × Nat × Int
 | [],p,left=>([],p,left)
 |d::ds,p,left=>((E d p left).1::(nodeF E ds (E d p left).2.1 (E d p left).2.2).1,(nodeF E ds (E d p left).2.1 (E d p left).2.2).2)
def exprF(zs:List Int)(env:List (ByteArray × Int)):Nat→Int→Nat→Int→Ex × Nat × Int
 |0,dim,p,left=>leafF zs env dim p left
 |n+1,dim,p,left=>
  if left≤0 then leafF zs env dim p left else
   match prodF zs p dim with
   |none=>leafF zs env dim (p+1) (left-2)
   |some (op,ds,q)=>(.mk op 0 0 0 ByteArray.empty (nodeF (exprF zs env n) ds q (left-2)).1,(nodeF (exprF zs env n) ds q (left-2)).2)
theorem nodeF_snoc(E:Int→Nat→Int→Ex × Nat × Int)(ds:List Int)(d:Int)(p:Nat)(left:Int) :
 nodeF E (ds++[d]) p left=((nodeF E ds p left).1++[(E d (nodeF E ds p left).2.1 (nodeF E ds p left).2.2).1],(E d (nodeF E ds p left).2.1 (nodeF E ds p left).2.2).2):=by
 induction ds generalizing p left with
 |nil=>rfl
 |cons c ds ih=>simp only [List.cons_append,nodeF,ih]
theorem exprF_leaf(zs:List Int)(env:List (ByteArray × Int))(n:Nat)(dim:Int)(p:Nat)(left:Int)(h:n=0∨left≤0):exprF zs env n dim p left=leafF zs env dim p left:=by
 cases n with
 |zero=>rfl
 |succ n=>rw [exprF,if_pos (by omega)]
theorem exprF_none(zs:List Int)(env:List (ByteArray × Int))(n:Nat)(dim:Int)(p:Nat)(left:Int)(h:0<left)(hp:prodF zs p dim=none):exprF zs env (n+1) dim p left=leafF zs env dim (p+1) (left-2):=by
 rw [exprF,if_neg (by omega),hp]
theorem exprF_some(zs:List Int)(env:List (ByteArray × Int))(n:Nat)(dim:Int)(p:Nat)(left:Int)(h:0<left){op:Int}{ds:List Int}{q:Nat}(hp:prodF zs p dim=some (op,ds,q)) :
 exprF zs env (n+1) dim p left=(.mk op 0 0 0 ByteArray.empty (nodeF (exprF zs env n) ds q (left-2)).1,(nodeF (exprF zs env n) ds q (left-2)).2):=by
 rw [exprF,if_neg (by omega),hp]
def prodOk(p:Nat):Option (Int × List Int × Nat)→Prop
 |none=>True
 |some t=>p≤t.2.2∧t.2.2≤p+3∧t.2.1.length≤3
theorem prodOk_ite{p:Nat}{c:Prop}[Decidable c]{a b:Option (Int × List Int × Nat)}(ha:prodOk p a)(hb:prodOk p b):prodOk p (if c then a else b):=by
 split
 ·exact ha
 ·exact hb
theorem prodF_ok(zs:List Int)(p:Nat)(dim:Int):prodOk p (prodF zs p dim):=by
 unfold prodF
 repeat' (first|refine prodOk_ite ?_ ?_)
 all_goals simp [prodOk]
theorem prodF_bd(zs:List Int)(p:Nat)(dim:Int){op:Int}{ds:List Int}{q:Nat}(h:prodF zs p dim=some (op,ds,q)):p≤q∧q≤p+3∧ds.length≤3:=by
 have:=prodF_ok zs p dim
 rw [h]at this
 exact this
def costN:Nat→Nat
 |0=>8
 |n+1=>3*costN n+3
theorem costN_8(n:Nat):8≤costN n:=by induction n with
 |zero=>exact Nat.le_refl _
 |succ n ih=>rw [costN];omega
theorem nodeF_bd(E:Int→Nat→Int→Ex × Nat × Int)(c:Nat)(hE:∀d p left,p≤(E d p left).2.1∧(E d p left).2.1≤p+c∧left-c≤(E d p left).2.2∧(E d p left).2.2≤left)(ds:List Int):∀(p:Nat) (left:Int),
 p≤(nodeF E ds p left).2.1∧(nodeF E ds p left).2.1≤p+ds.length*c∧left-(ds.length*c:Nat)≤(nodeF E ds p left).2.2∧(nodeF E ds p left).2.2≤left:=by
 induction ds with
 |nil=>intro p left;simp [nodeF]
 |cons d ds ih=>
  intro p left
  have a:=hE d p left
  have b:=ih (E d p left).2.1 (E d p left).2.2
  simp only [nodeF,List.length_cons,Nat.add_mul,Nat.one_mul]
  omega
theorem exprF_bd(zs:List Int)(env:List (ByteArray × Int))(n:Nat):∀(dim:Int) (p:Nat) (left:Int),
 p≤(exprF zs env n dim p left).2.1∧(exprF zs env n dim p left).2.1≤p+costN n∧left-costN n≤(exprF zs env n dim p left).2.2∧(exprF zs env n dim p left).2.2≤left:=by
 induction n with
 |zero=>intro dim p left;have:=leafF_bd zs env dim p left;simp only [exprF,costN];omega
 |succ n ih=>
  intro dim p left
  have h8:=costN_8 n
  rw [exprF,costN]
  split
  ·have:=leafF_bd zs env dim p left;omega
  ·cases h:prodF zs p dim with
   |none=>have:=leafF_bd zs env dim (p+1) (left-2);simp only;omega
   |some t=>
    obtain⟨op,ds,q⟩:=t
    have a:=prodF_bd zs p dim h
    have b:=nodeF_bd (exprF zs env n) (costN n) ih ds q (left-2)
    have c:ds.length*costN n≤3*costN n:=Nat.mul_le_mul_right _ a.2.2
    simp only
    omega

def cells1(e:Ex)(v:Value):List Value:=[.int .i64 e.op,.int .i64 e.num,.int .i64 e.den,.int .i64 e.dim,.string e.name,v]
def cellsL:List (Ex × Value)→List Value
 | []=>[]
 |x::r=>cells1 x.1 x.2++cellsL r
theorem cellsL_append(a b:List (Ex × Value)):cellsL (a++b)=cellsL a++cellsL b:=by
 induction a with
 |nil=>rfl
 |cons x r ih=>simp only [List.cons_append,cellsL,ih,List.append_assoc]
theorem cellsL_get(l:List (Ex × Value))(i j:Nat)(x:Ex × Value)(h:l[i]? =some x)(hj:j<6):(cellsL l)[i*6+j]? =(cells1 x.1 x.2)[j]?:=by
 induction l generalizing i with
 |nil=>simp at h
 |cons y r ih=>
  simp only [cellsL]
  cases i with
  |zero=>
   simp only [List.getElem?_cons_zero,Option.some.injEq]at h
   subst h
   rw [List.getElem?_append_left (by simp [cells1];omega)]
   congr 1;omega
  |succ i=>
   rw [List.getElem?_append_right (by simp [cells1];omega),←ih i (by simpa using h)]
   congr 1;simp [cells1];omega

theorem RepE.mono'{S S':Nat→Prop}{w:World}{e:Ex}{v:Value}(h:RepE S w e v)(hS:∀b,S b→b<w.heap.size→S' b):RepE S' w e v:=by
 induction h with
 |mk e a cap vs hr hc hs ih=>
  refine .mk e a cap vs hr (hc.imp id ?_) ih
  rintro⟨b,off,ha,hb,hlt,hx⟩
  exact⟨b,off,ha,hS b hb hlt,hlt,hx⟩
theorem RepE.nil{S:Nat→Prop}{w:World}{e:Ex}(hr:ExRng e)(h:e.args= []):RepE S w e (.slice none 0 0):=by
 have:=RepE.mk (S:=S) (w:=w) e none 0 (fun _=>.slice none 0 0) hr (.inl (by simp [h])) (fun i hi=>by simp [h]at hi)
 simpa [h]using this

structure RowE(base:Nat)(w:World)(v:Value)(l:List (Ex × Value)):Prop where
 own:w.ownsRow base 63 6 v l.length (cellsL l)
 rep:∀x∈l,RepE (fun b=>base≤b∧v.ownBlock≠some b) w x.1 x.2
theorem RowE.nil(base:Nat)(w:World):RowE base w (.slice none 0 0) []:=⟨World.ownsRow_nil _ _ _ _,fun _ h=>by cases h⟩
theorem ownsRow_keep{w w':World}{base:Nat}{e:TypeId}{size:Nat}{v:Value}{n:Nat}{xs:List Value}(h:w.ownsRow base e size v n xs)(hw:∀k,base≤k→k<w.heap.size→w'.heap[k]? =w.heap[k]?):w'.ownsRow base e size v n xs:=by
 obtain⟨h1,h2⟩:=h
 refine⟨h1,h2.imp id ?_⟩
 rintro⟨g,cap,cur,hv,hb,hg,r⟩
 have hlt:g<w.heap.size:=(Array.getElem?_eq_some_iff.1 hg).1
 exact⟨g,cap,cur,hv,hb,by rw [hw g hb hlt];exact hg,r⟩
theorem RowE.keep{base:Nat}{w w':World}{v:Value}{l:List (Ex × Value)}(h:RowE base w v l)(hsz:w.heap.size≤w'.heap.size)(hw:∀k,base≤k→k<w.heap.size→w'.heap[k]? =w.heap[k]?):RowE base w' v l:=
 ⟨ownsRow_keep h.own hw,fun x hx=>(h.rep x hx).keep hsz fun b o hb hlt=>World.cell?_of_block (hw b hb.1 hlt)⟩
theorem RowE.lt{base:Nat}{w:World}{v:Value}{l:List (Ex × Value)}(h:RowE base w v l):∀k,v.ownBlock=some k→base≤k∧k<w.heap.size:=h.own.lt
theorem RowE.push{base m:Nat}{w w':World}{v:Value}{l:List (Ex × Value)}{e:Ex}{ve:Value}{g cap H n:Nat}{xs:List Value}(h:RowE base w v l)(he:RepE (fun b=>m≤b) w e ve)(hm:base≤m)(hv:∀k,v.ownBlock=some k→k<m)
 (hn:n=l.length+1) (hxs:xs=cellsL l++cells1 e ve)
 (ho:w'.ownsRow base 63 6 (.slice (some ⟨g,0,none⟩) n cap) n xs) (hg:w.grownBy w' v.ownBlock) (hat:v.ownBlock=some g∨g=H) (hH:w.heap.size=H) :
 RowE base w' (.slice (some ⟨g,0,none⟩) n cap) (l++[(e,ve)]):=by
 subst hH hn hxs
 refine⟨by rw [List.length_append,cellsL_append];simpa [cellsL]using ho, ?_⟩
 have key:∀(e':Ex) (u:Value),RepE (fun b=>base≤b∧v.ownBlock≠some b) w e' u→RepE (fun b=>base≤b∧(Value.slice (some ⟨g,0,none⟩) (l.length+1) cap).ownBlock≠some b) w' e' u:=by
  exact lz9
 intro x hx
 rw [List.mem_append]at hx
 rcases hx with hx|hx
 ·exact key _ _ (h.rep x hx)
 ·obtain rfl:x=(e,ve):=by simpa using hx
  exact key _ _ (he.mono fun b hb=>⟨by omega,fun e=>by have:=hv b e;omega⟩)
theorem addr_add(g i:Nat):(⟨g,0,none⟩:Addr).add i=⟨g,i,none⟩:=by unfold Addr.add;split<;>simp_all
theorem RowE.repE{base:Nat}{w:World}{v:Value}{l:List (Ex × Value)}{e:Ex}(h:RowE base w v l)(hr:ExRng e)(he:e.args=l.map (·.1)):RepE (fun b=>base≤b) w e v:=by
 have hlen:e.args.length=l.length:=by rw [he,List.length_map]
 have hget:∀i,i<l.length→l[i]? =some (e.arg i,(l.getD i default).2):=by
  intro i hi
  have h1:e.arg i=(l.getD i default).1:=by
   unfold Ex.arg
   rw [he,List.getD_eq_getElem?_getD,List.getElem?_map,List.getD_eq_getElem?_getD,List.getElem?_eq_getElem hi];rfl
  rw [h1,List.getElem?_eq_getElem hi,List.getD_eq_getElem?_getD,List.getElem?_eq_getElem hi];rfl
 have hrep:∀i,i<l.length→RepE (fun b=>base≤b) w (e.arg i) (l.getD i default).2:=fun i hi=>
  (h.rep _ (List.mem_of_getElem? (hget i hi))).mono fun b hb=>hb.1
 rcases h.own.2 with ⟨rfl,h0⟩|⟨g,cap,cur,rfl,hb,hg,_⟩
 ·have:=RepE.mk (S:=fun b=>base≤b) (w:=w) e none 0 (fun i=>(l.getD i default).2) hr (.inl (by omega)) (fun i hi=>hrep i (by omega))
  rw [hlen,h0]at this;exact this
 ·have hlt:g<w.heap.size:=(Array.getElem?_eq_some_iff.1 hg).1
  have hcell:∀i,i<l.length→∀j u,j<6→(cells1 (e.arg i) (l.getD i default).2)[j]? =some u→w.cell? ⟨g,i*6+j,none⟩=some u:=by
   intro i hi j u hj hu
   have:=World.ownsRow.cells (g:=g) h.own rfl (i*6+j) u (by rw [cellsL_get l i j _ (hget i hi) hj];exact hu)
   rw [addr_add]at this;exact this
  have:=RepE.mk (S:=fun b=>base≤b) (w:=w) e (some ⟨g,0,none⟩) cap (fun i=>(l.getD i default).2) hr (.inr ⟨g,0,rfl,hb,hlt,fun i hi=>by
   have hi':i<l.length:=by omega
   have e0:∀j,0+i*6+j=i*6+j:=fun j=>by omega
   exact⟨by rw [show 0+i*6=i*6+0 by omega];exact hcell i hi' 0 _ (by omega) rfl,by rw [e0];exact hcell i hi' 1 _ (by omega) rfl,by rw [e0];exact hcell i hi' 2 _ (by omega) rfl,
    by rw [e0];exact hcell i hi' 3 _ (by omega) rfl,by rw [e0];exact hcell i hi' 4 _ (by omega) rfl,by rw [e0];exact hcell i hi' 5 _ (by omega) rfl⟩⟩) (fun i hi=>hrep i (by omega))
  rw [hlen]at this;exact this
structure Next(g:Nat)(a b:World):Prop where
 size:a.heap.size≤b.heap.size
 blk:∀k,k<a.heap.size→k≠g→b.heap[k]? =a.heap[k]?
section
variable {g : Nat} {a b c : World}
theorem Next.refl(g:Nat)(a:World):Next g a a:=⟨Nat.le_refl _,fun _ _ _=>rfl⟩
theorem Next.alloc(h:Next g a b)(o:Obj):Next g a (b.alloc o):=⟨by have:=h.size;simp;omega,fun k hk hg=>(Below.heap_alloc b o k (Nat.lt_of_lt_of_le hk h.size)).trans (h.blk k hk hg)⟩
theorem Next.grow(h:Next g a b)(bs:Array Obj)(d:Nat):Next g a (b.grow bs d):=⟨by have:=h.size;simp;omega,fun k hk hg=>(World.heap_grow _ _ _ (Nat.lt_of_lt_of_le hk h.size)).trans (h.blk k hk hg)⟩
theorem Next.drewN(h:Next g a b)(n:Nat):Next g a (b.drewN n):=⟨h.size,h.blk⟩
theorem Next.drew(h:Next g a b):Next g a b.drew:=⟨h.size,h.blk⟩
theorem Next.grown{row:Option Nat}(h:Next g a b)(hg:b.grownBy c row)(hr:∀k,row=some k→a.heap.size≤k):Next g a c:=
 ⟨Nat.le_trans h.size hg.size,fun k hk hgk=>(hg.block k (Nat.lt_of_lt_of_le hk h.size) fun e=>by have:=hr k e.symm;omega).trans (h.blk k hk hgk)⟩
theorem Next.store(h:Next g a b)(i:Nat)(v:Value):Next g a (b.setCell ⟨g,i,none⟩ v):=⟨by have:=h.size;simp;omega,fun k hk hgk=>(Below.heap_setCell _ _ _ _ hgk).trans (h.blk k hk hgk)⟩
end
def setAll(cs:Array Value)(o:Nat):List Value→Array Value
 | []=>cs
 |v::vs=>setAll (cs.setIfInBounds o v) (o+1) vs
theorem block_setCells{b:Nat}{t:TypeId}:∀(vs:List Value) (o:Nat) (w:World) (cs:Array Value),w.heap[b]? =some (.cells cs t (0,0))→(w.setCells b o vs).heap[b]? =some (.cells (setAll cs o vs) t (0,0))
 | [],_,_,_,h=>h
 |v::vs,o,_,_,h=>block_setCells vs (o+1) _ _ (Joins.block_setCell h v)
theorem below_setCells{b B:Nat}{w0:World}(hb:B≤b):∀(vs:List Value) (o:Nat) (w:World),Below B w0 w→Below B w0 (w.setCells b o vs)
 | [],_,_,h=>h
 |v::vs,o,_,h=>below_setCells hb vs (o+1) _ (h.setCell hb v)
theorem next_setCells{b:Nat}{w0:World}:∀(vs:List Value) (o:Nat) (w:World),Next b w0 w→Next b w0 (w.setCells b o vs)
 | [],_,_,h=>h
 |v::vs,o,_,h=>next_setCells vs (o+1) _ (h.store o v)
theorem heap_new(w:World)(o:Obj)(H:Nat)(hH:w.heap.size=H):(w.alloc o).heap[H]? =some o:=by subst hH;exact heap_alloc_new w o
theorem heap_alloc_if(w:World)(o:Obj)(k:Nat):(w.alloc o).heap[k]? =if k=w.heap.size then some o else w.heap[k]?:=by
 split
 ·rename_i h;subst h;exact heap_alloc_new w o
 ·rename_i h
  show(w.heap.push o)[k]? =_
  rw [Array.getElem?_push,if_neg h]
theorem news_cells(w:World)(cs:List Value)(t:TypeId)(H:Nat)(hH:w.heap.size=H):∀(j:Nat) (v:Value),cs[j]? =some v→(w.alloc (.cells cs.toArray t)).cell? ((⟨H,0,none⟩:Addr).add j)=some v:=by
 subst hH
 intro j v hj
 rw [addr_add,World.cell?_alloc_at _ _ _ _ rfl];simpa using hj
end Go.Proofs.YthionhbjmheimaaDoor
