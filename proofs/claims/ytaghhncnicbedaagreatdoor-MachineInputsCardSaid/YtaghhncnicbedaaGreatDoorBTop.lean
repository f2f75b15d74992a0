import Derived.Test.YtaghhncnicbedaaGreatDoorBExprN
import Derived.Test.YtaghhncnicbedaaGreatDoorBEvP
import Derived.Test.YtaghhncnicbedaaGreatDoorBK
import Derived.Laws.BytesArg
import Derived.Lib.SmallJoins
import Derived.Deep.CutBlock
import Derived.Deep.CutRange
import Derived.Deep.DeepCutAuto
import Derived.Laws.OwnMore
import Derived.Deep.MidRow
set_option linter.all false
set_option maxHeartbeats 16000000
set_option maxRecDepth 1000000
namespace Go
open Go.RowKit
@[go_sem] theorem World.setCell_src_other{w:World}{s:Nat}{lv:Value}{p left:Int}{b i:Nat}(h:b≠s)(v:Value):(w.src s lv p left).setCell ⟨b,i,none⟩ v=(w.setCell ⟨b,i,none⟩ v).src s lv p left:=by
  simp only [World.src,World.setCell]
  congr 1
  apply Array.ext_getElem?
  intro k
  simp only [Array.getElem?_modify,Array.getElem?_setIfInBounds,Array.size_modify]
  by_cases hk:b=k
  ·subst hk;simp [Ne.symm h]
  ·simp [hk]
theorem RowKit.Below.src{B:Nat}{a w:World}{s:Nat}(h:Below B a w)(hB:B≤s)(lv:Value)(p left:Int):Below B a (w.src s lv p left):=
 h.trans ⟨rfl,rfl,rfl,by simp,fun k hk=>World.heap_src_other (by omega)⟩
end Go
namespace Go.Proofs.YtaghhncnicbedaaGreatDoor
open Go.RowKit

theorem leafN_size(zs:List Int)(env:List (ByteArray × Int))(p:Nat)(dim:Int):(leafN zs env p dim).1.size=1:=by
 unfold leafN
 split
 ·simp [Ex.size,Ex.sizes]
 ·split<;>simp [Ex.size,Ex.sizes]
theorem leafF_size(zs:List Int)(env:List (ByteArray × Int))(dim:Int)(p:Nat)(left:Int):(leafF zs env dim p left).1.size≤3:=by
 unfold leafF
 split
 ·simp [Ex.size,Ex.sizes,leafN_size]
 ·simp [leafN_size]
theorem nodeF_sizes(E:Int→Nat→Int→Ex × Nat × Int)(c:Nat)(hE:∀d p left,(E d p left).1.size≤c)(ds:List Int):∀(p:Nat) (left:Int),Ex.sizes (nodeF E ds p left).1≤ds.length*c:=by
 induction ds with
 |nil=>intro p left;simp [nodeF,Ex.sizes]
 |cons d ds ih=>
  intro p left
  have a:=hE d p left
  have b:=ih (E d p left).2.1 (E d p left).2.2
  simp only [nodeF,Ex.sizes,List.length_cons,Nat.add_mul,Nat.one_mul]
  omega
theorem exprF_size(zs:List Int)(env:List (ByteArray × Int))(n:Nat):∀(dim:Int) (p:Nat) (left:Int),(exprF zs env n dim p left).1.size≤costN n:=by
 induction n with
 |zero=>intro dim p left;have:=leafF_size zs env dim p left;simp only [exprF,costN];omega
 |succ n ih=>
  intro dim p left
  have h8:=costN_8 n
  rw [exprF,costN]
  split
  ·have:=leafF_size zs env dim p left;omega
  ·cases h:prodF zs p dim with
   |none=>have:=leafF_size zs env dim (p+1) (left-2);simp only;omega
   |some t=>
    obtain⟨op,ds,q⟩:=t
    have a:=prodF_bd zs p dim h
    have b:=nodeF_sizes (exprF zs env n) (costN n) ih ds q (left-2)
    have c:ds.length*costN n≤3*costN n:=Nat.mul_le_mul_right _ a.2.2
    simp only [Ex.size]
    omega
def topF(zs:List Int)(env:List (ByteArray × Int))(dim:Int):Ex:=
 if validB (exprF zs env 5 dim 0 24).1=true then(exprF zs env 5 dim 0 24).1 else(leafF zs env dim (exprF zs env 5 dim 0 24).2.1 0).1
theorem topF_yes{zs:List Int}{env:List (ByteArray × Int)}{dim:Int}{e:Ex}{r:Nat × Int}(h:exprF zs env 5 dim 0 24=(e,r))(hv:validB e=true):topF zs env dim=e:=by
 unfold topF;rw [h,if_pos hv]
theorem topF_no{zs:List Int}{env:List (ByteArray × Int)}{dim:Int}{e:Ex}{p':Nat}{l':Int}(h:exprF zs env 5 dim 0 24=(e,p',l'))(hv:validB e=false):topF zs env dim=(leafF zs env dim p' 0).1:=by
 unfold topF;rw [h,if_neg (by simp [hv])]
theorem ListAt.other{w:World}{s s':Nat}{lv:Value}{zs:List Int}(h:ListAt w s lv zs)(hs:w.heap.size≤s'):ListAt w s' lv zs:=by
 obtain⟨h0,a,cap,hv,h1⟩:=h
 refine⟨h0,a,cap,hv,h1.imp id ?_⟩
 rintro⟨b,off,ha,hb,hbs,hcc⟩
 exact⟨b,off,ha,hb,by omega,hcc⟩
theorem EnvAt.other{w:World}{s s':Nat}{v:Value}{env:List (ByteArray × Int)}(h:EnvAt w s v env)(hs:w.heap.size≤s'):EnvAt w s' v env:=by
 obtain⟨h0,hn,a,cap,hv,h1⟩:=h
 refine⟨h0,hn,a,cap,hv,h1.imp id ?_⟩
 rintro⟨b,off,ha,hb,hbs,hcc⟩
 exact⟨b,off,ha,hb,by omega,hcc⟩
theorem src_new'(w:World)(lv:Value)(p left:Int)(H:Nat)(hH:w.heap.size=H):(w.alloc (.cells #[lv,.int .i64 p,.int .i64 left] 145)).src H lv p left=w.alloc (.cells #[lv,.int .i64 p,.int .i64 left] 145):=by
 subst hH;exact World.src_new w lv p left

def MadeEx(w:World)(E:Ex)(e:Ending)(w':World):Prop:=∃v,e= .returned (exV E v)∧w.Grows w'∧RepE (fun b=>w.heap.size≤b) w' E v
theorem Expr_any(lv ev:Value)(zs:List Int)(env:List (ByteArray × Int))(dim:Int)(w:World)(hl0:ListAt w w.heap.size lv zs)(he0:EnvAt w w.heap.size ev env)(hd1:1≤dim)(hd4:dim≤4) :
 Calls Tryz.prog 31 #[lv,.int .i64 dim,ev] w (MadeEx w (topF zs env dim)):=by
 have hl:=Lib.hid (hl0.other (s':=w.heap.size+1) (by omega))
 have he:=Lib.hid (he0.other (s':=w.heap.size+1) (by omega))
 have hlf:=hl0
 obtain⟨-,la,lc,hlv,-⟩:=hlf
 subst hlv
 clear hl0 he0
 have hrb:=exprF_bd zs env 5 dim 0 24
 have hsz:=exprF_size zs env 5 dim 0 24
 have hc5:costN 5=2307:=rfl
 rw [hc5]at hrb hsz
 generalize hR:exprF zs env 5 dim 0 24=r at hrb hsz
 have HR:=Lib.hid hR
 clear hR hc5
 obtain⟨E,p',l'⟩:=r
 simp only at hrb hsz
 have HSZ:=Lib.hid (show E.size≤2305843009213693952 by omega)
 clear hsz
 go_enter Tryz.func31,Tryz.ntmps31
 go_wp2_with fail
 refine(ExprOK.call (expr_ok (w.heap.size+1) _ _ zs env 5 (by omega)) dim 0 0 24 1 _ _ HR rfl (by omega) hd1 hd4 (by simp) (src_new' _ _ _ _ _ (by simp)) (Lib.hid (by(repeat' (first|(with_reducible exact hl.out)|(with_reducible refine ListAt.alloc ?_ _)|(with_reducible refine ListAt.grow ?_ _ _)|(with_reducible refine ListAt.drewN ?_ _)|(with_reducible refine ListAt.src ?_ _ _ _))))) (Lib.hid (by(repeat' (first|(with_reducible exact he.out)|(with_reducible refine EnvAt.alloc ?_ _)|(with_reducible refine EnvAt.grow ?_ _ _)|(with_reducible refine EnvAt.drewN ?_ _)|(with_reducible refine EnvAt.src ?_ _ _ _))))) (by decide) (by decide) (by omega)).mono ?_
 rintro e' w' ⟨v,bs,d,rfl,rfl,hrep⟩
 obtain⟨va,vc,hv⟩:=hrep.form
 subst hv
 have REP:Hid (RepE (fun b=>w.heap.size+2≤b) ((((w.alloc (.cells #[.int .i64 0,.int .i64 0,.int .i64 0,.int .i64 0,.string ⟨#[]⟩,.slice none 0 0] 91)).alloc (.cells #[.slice la zs.length lc,.int .i64 0,.int .i64 24] 145)).src (w.heap.size+1) (.slice la zs.length lc) p' l').grow bs d) E (.slice va E.args.length vc)):=Lib.hid (hrep.mono fun b hb=>by simpa using hb)
 clear hrep
 cases hb:validB E
 ·have HB:=Lib.hid hb
  have HT:=Lib.hid (topF_no HR.out hb)
  clear hb
  go_wp2_with fail
  refine(ValidExpr_any _ E _ _ (Lib.hid (REP.out.alloc _)) HSZ).mono ?_
  rintro e' w' ⟨rfl,bs2,d2,rfl⟩
  simp only [HB.out]
  go_wp2_with fail
  have hlb:=leafF_size zs env dim p' 0
  generalize hL:leafF zs env dim p' 0=q at HT hlb
  have HL:=Lib.hid hL
  clear hL hlb
  obtain⟨E2,p2,l2⟩:=q
  refine(leaf_any (w.heap.size+1) (.slice la zs.length lc) zs p' _ 0 dim _ env _ rfl hd1 hd4 (by simp;omega) (by simp [go_sem]) (Lib.hid (by(repeat' (first|(with_reducible exact hl.out)|(with_reducible refine ListAt.alloc ?_ _)|(with_reducible refine ListAt.grow ?_ _ _)|(with_reducible refine ListAt.drewN ?_ _)|(with_reducible refine ListAt.src ?_ _ _ _))))) (Lib.hid (by(repeat' (first|(with_reducible exact he.out)|(with_reducible refine EnvAt.alloc ?_ _)|(with_reducible refine EnvAt.grow ?_ _ _)|(with_reducible refine EnvAt.drewN ?_ _)|(with_reducible refine EnvAt.src ?_ _ _ _))))) (by omega) (by omega) (by omega)).mono ?_
  rintro e' w' ⟨v2,bs3,d3,rfl,rfl,hrep2⟩
  obtain⟨v2a,v2c,hv2⟩:=hrep2.form
  subst hv2
  rw [HL.out]at hrep2
  simp only [HL.out]
  have H2:=Lib.hid (hrep2.eqw (w':=(((((w.alloc (.cells #[.int .i64 0,.int .i64 0,.int .i64 0,.int .i64 0,.string ⟨#[]⟩,.slice none 0 0] 91)).alloc (.cells #[.slice la zs.length lc,.int .i64 0,.int .i64 24] 145)).src (w.heap.size+1) (.slice la zs.length lc) p2 l2).grow bs d).alloc (.cells #[.int .i64 E.op,.int .i64 E.num,.int .i64 E.den,.int .i64 E.dim,.string E.name,.slice va E.args.length vc] 91)).grow (bs2++bs3) d3) (by simp [go_sem]))
  clear hrep2
  go_wp2_with fail
  go_returns
  refine⟨_,by rw [HT.out],.of_below (by(repeat' (first|(with_reducible exact Below.refl _ _)|(with_reducible assumption)|(with_reducible refine Below.grow ?_ ?_ _ _)|(with_reducible refine Below.alloc ?_ ?_ _)|(with_reducible refine Below.drewN ?_ _)|(with_reducible refine Below.drew ?_)|(with_reducible refine Below.src ?_ ?_ _ _ _)|(with_reducible refine Below.setCell ?_ ?_ _)|go_size))), ?_⟩
  rw [HT.out]
  refine(H2.out.lift0 ?_ ?_ _).mono ?_
  all_goals first
   |(intro b hb;simp at hb;omega)
   |(intro b hb;omega)
   |(simp;done)
   |(simp;omega)
 ·have HB:=Lib.hid hb
  have HT:=Lib.hid (topF_yes HR.out hb)
  clear hb
  go_wp2_with fail
  refine(ValidExpr_any _ E _ _ (Lib.hid (REP.out.alloc _)) HSZ).mono ?_
  rintro e' w' ⟨rfl,bs2,d2,rfl⟩
  simp only [HB.out]
  go_wp2_with fail
  go_returns
  refine⟨_,by rw [HT.out],.of_below (by(repeat' (first|(with_reducible exact Below.refl _ _)|(with_reducible assumption)|(with_reducible refine Below.grow ?_ ?_ _ _)|(with_reducible refine Below.alloc ?_ ?_ _)|(with_reducible refine Below.drewN ?_ _)|(with_reducible refine Below.drew ?_)|(with_reducible refine Below.src ?_ ?_ _ _ _)|(with_reducible refine Below.setCell ?_ ?_ _)|go_size))), ?_⟩
  rw [HT.out]
  refine((((REP.out.lift0 ?_ ?_ d).alloc _).grow _ _).mono ?_)
  all_goals first
   |(intro b hb;simp at hb;omega)
   |(intro b hb;omega)
   |(simp;done)
   |(simp;omega)

structure RowG(T:TypeId)(c:Nat)(base:Nat)(w:World)(v:Value)(l:List (List Value))(rs:List (Ex × Value)):Prop where
 own:w.ownsRow base T c v l.length l.flatten
 len:∀x∈l,x.length=c
 rep:∀x∈rs,RepE (fun b=>base≤b∧v.ownBlock≠some b) w x.1 x.2
section
variable {T : TypeId} {c base : Nat} {w w' : World} {v : Value} {l : List (List Value)} {rs : List (Ex × Value)}
theorem RowG.nil(T:TypeId)(c base:Nat)(w:World):RowG T c base w (.slice none 0 0) [] []:=⟨World.ownsRow_nil _ _ _ _,fun _ h=>by(cases h),fun _ h=>by(cases h)⟩
theorem RowG.keep(h:RowG T c base w v l rs)(hsz:w.heap.size≤w'.heap.size)(hw:∀k,base≤k→k<w.heap.size→w'.heap[k]? =w.heap[k]?):RowG T c base w' v l rs:=
 ⟨ownsRow_keep h.own hw,h.len,fun x hx=>(h.rep x hx).keep hsz fun b o hb hlt=>World.cell?_of_block (hw b hb.1 hlt)⟩
theorem RowG.alloc(h:RowG T c base w v l rs)(o:Obj):RowG T c base (w.alloc o) v l rs:=h.keep (by simp) fun k _ hlt=>Below.heap_alloc w o k hlt
theorem RowG.grow(h:RowG T c base w v l rs)(bs:Array Obj)(d:Nat):RowG T c base (w.grow bs d) v l rs:=h.keep (by simp) fun k _ hlt=>World.heap_grow _ _ _ hlt
theorem RowG.drewN(h:RowG T c base w v l rs)(n:Nat):RowG T c base (w.drewN n) v l rs:=h.keep (Nat.le_refl _) fun _ _ _=>rfl
theorem RowG.setCell(h:RowG T c base w v l rs){a:Addr}(ha:a.block<base)(u:Value):RowG T c base (w.setCell a u) v l rs:=
 h.keep (by simp) fun k hk _=>Below.heap_setCell _ _ _ _ (by omega)
theorem RowG.lt(h:RowG T c base w v l rs):∀k,v.ownBlock=some k→base≤k∧k<w.heap.size:=h.own.lt
theorem RowG.form(h:RowG T c base w v l rs):∃a cap,v= .slice a l.length cap:=by
 exact bz51
theorem flatten_get(l:List (List Value))(c:Nat)(h:∀x∈l,x.length=c)(i j:Nat)(hj:j<c)(hi:i<l.length):l.flatten[i*c+j]? =(l.getD i [])[j]?:=by
 induction l generalizing i with
 |nil=>simp at hi
 |cons x r ih=>
  have hx:=h x (List.mem_cons_self)
  rw [List.flatten_cons]
  cases i with
  |zero=>rw [List.getElem?_append_left (by omega)];simp
  |succ i=>
   rw [List.getElem?_append_right (by rw [hx,Nat.add_mul];omega),List.getD_cons_succ,←ih (fun y hy=>h y (List.mem_cons_of_mem _ hy)) i (by simpa using hi)]
   congr 1;rw [hx,Nat.add_mul];omega
theorem RowG.cells(h:RowG T c base w v l rs):∃a cap,v= .slice a l.length cap∧(l.length=0∨∃g,a=some ⟨g,0,none⟩∧base≤g∧g<w.heap.size∧∀i j u,i<l.length→j<c→(l.getD i [])[j]? =some u→w.cell? ⟨g,i*c+j,none⟩=some u):=by
 rcases h.own.2 with ⟨rfl,h0⟩|⟨g,cap,cur,rfl,hb,hg,_⟩
 ·exact⟨none,0,by rw [h0],.inl h0⟩
 ·refine⟨_,cap,rfl,.inr ⟨g,rfl,hb,(Array.getElem?_eq_some_iff.1 hg).1,fun i j u hi hj hu=>?_⟩⟩
  have:=World.ownsRow.cells (g:=g) h.own rfl (i*c+j) u (by rw [flatten_get l c h.len i j hj hi];exact hu)
  rw [addr_add]at this;exact this
theorem RowG.push{news:List Value}{rs2:List (Ex × Value)}{m g cap H n:Nat}{xs:List Value}(h:RowG T c base w v l rs)(hr:∀x∈rs2,RepE (fun b=>m≤b) w x.1 x.2)(hm:base≤m)(hv:∀k,v.ownBlock=some k→k<m)
 (hc:news.length=c) (hn:n=l.length+1) (hxs:xs=l.flatten++news) (ho:w'.ownsRow base T c (.slice (some ⟨g,0,none⟩) n cap) n xs) (hg:w.grownBy w' v.ownBlock) (hat:v.ownBlock=some g∨g=H) (hH:w.heap.size=H) :
 RowG T c base w' (.slice (some ⟨g,0,none⟩) n cap) (l++[news]) (rs++rs2):=by
 subst hH hn hxs
 refine⟨by rw [List.length_append,List.flatten_append];simpa using ho,fun x hx=>?_,fun x hx=>?_⟩
 ·rw [List.mem_append]at hx
  rcases hx with hx|hx
  ·exact h.len x hx
  ·obtain rfl:x=news:=by simpa using hx
   exact hc
 ·have key:∀(e':Ex) (u:Value),RepE (fun b=>base≤b∧v.ownBlock≠some b) w e' u→RepE (fun b=>base≤b∧(Value.slice (some ⟨g,0,none⟩) (l.length+1) cap).ownBlock≠some b) w' e' u:=by
   exact bz19
  rw [List.mem_append]at hx
  rcases hx with hx|hx
  ·exact key _ _ (h.rep x hx)
  ·exact key _ _ ((hr x hx).mono fun b hb=>⟨by omega,fun e=>by have:=hv b e;omega⟩)
end

structure RawV where
 frm:Int
 mode:Int
 unit:Int
 credits:List Int
 series:List Int
 lets:List (List Int)
 ifs:List (List Int)
 pays:List (List Int)
 cuts:List (List Int)
 twist:Int
def RowsAt(w:World)(v:Value)(zss:List (List Int)):Prop:=
 zss.length≤140737488355328∧∃a cap,v= .slice a zss.length cap∧(zss.length=0∨∃b off,a=some ⟨b,off,none⟩∧b<w.heap.size∧∀i,i<zss.length→∃u,w.cell? ⟨b,off+i,none⟩=some u∧IntsAt w u (zss.getD i []))
def RawAt(w:World)(cs:List Value)(R:RawV):Prop:=
 I64 R.frm∧I64 R.mode∧I64 R.unit∧I64 R.twist∧∃vc vs vl vi vp vu,cs= [.int .i64 R.frm,.int .i64 R.mode,.int .i64 R.unit,vc,vs,vl,vi,vp,vu,.int .i64 R.twist]∧
  IntsAt w vc R.credits∧IntsAt w vs R.series∧RowsAt w vl R.lets∧RowsAt w vi R.ifs∧RowsAt w vp R.pays∧RowsAt w vu R.cuts
def letN(i:Nat):ByteArray:=⟨#[(112+i % 8).toUInt8,95,(48+i / 8).toUInt8]⟩
def letD(R:RawV)(i:Nat):Int:=1+((R.lets.getD i []).length % 4:Nat)
def envF(R:RawV)(k:Nat):List (ByteArray × Int):=(List.range k).map fun i=>(letN i,letD R i)
def nLet(R:RawV):Nat:=min R.lets.length 5
def letE(R:RawV)(i:Nat):Ex:=topF (R.lets.getD i []) (envF R i) (letD R i)
def payE(R:RawV)(i:Nat):Ex:=topF (R.pays.getD i []) (envF R (nLet R)) 4
def ifE(R:RawV)(i:Nat):Ex:=topF (R.ifs.getD i []) (envF R (nLet R)) 1
def cutE(R:RawV)(i:Nat):Ex:=topF (R.cuts.getD i []) (envF R (nLet R)) 2
theorem letN_size(i:Nat):(letN i).size=3:=rfl

structure RowX(T:TypeId)(c base:Nat)(X:Nat→Prop)(w:World)(v:Value)(l:List (List Value))(rs:List (Ex × Value)):Prop where
 own:w.ownsRow base T c v l.length l.flatten
 len:∀x∈l,x.length=c
 ownX:∀k,v.ownBlock=some k→X k
 rep:∀x∈rs,RepE (fun b=>(base≤b∧X b)∧v.ownBlock≠some b) w x.1 x.2
section
variable {T : TypeId} {c base : Nat} {X X' : Nat → Prop} {w w' : World} {v : Value} {l : List (List Value)} {rs : List (Ex × Value)}
theorem RowX.nil(T:TypeId)(c base:Nat)(X:Nat→Prop)(w:World):RowX T c base X w (.slice none 0 0) [] []:=⟨World.ownsRow_nil _ _ _ _,fun _ h=>by(cases h),fun _ h=>by(cases h),fun _ h=>by(cases h)⟩
theorem RowX.toG(h:RowX T c base X w v l rs):RowG T c base w v l rs:=⟨h.own,h.len,fun x hx=>(h.rep x hx).mono fun _ hb=>⟨hb.1.1,hb.2⟩⟩
theorem RowX.keep(h:RowX T c base X w v l rs)(hsz:w.heap.size≤w'.heap.size)(hw:∀k,base≤k→X k→k<w.heap.size→w'.heap[k]? =w.heap[k]?):RowX T c base X w' v l rs:=by
 refine⟨?_,h.len,h.ownX,fun x hx=>(h.rep x hx).keep hsz fun b o hb hlt=>World.cell?_of_block (hw b hb.1.1 hb.1.2 hlt)⟩
 obtain⟨h1,h2⟩:=h.own
 refine⟨h1, ?_⟩
 rcases h2 with h2|⟨g,cap,cur,rfl,hb,hg,r⟩
 ·exact .inl h2
 ·have hlt:g<w.heap.size:=(Array.getElem?_eq_some_iff.1 hg).1
  exact .inr ⟨g,cap,cur,rfl,hb,by rw [hw g hb (h.ownX g rfl) hlt];exact hg,r⟩
theorem RowX.alloc(h:RowX T c base X w v l rs)(o:Obj):RowX T c base X (w.alloc o) v l rs:=h.keep (by simp) fun k _ _ hlt=>Below.heap_alloc w o k hlt
theorem RowX.grow(h:RowX T c base X w v l rs)(bs:Array Obj)(d:Nat):RowX T c base X (w.grow bs d) v l rs:=h.keep (by simp) fun k _ _ hlt=>World.heap_grow _ _ _ hlt
theorem RowX.drew(h:RowX T c base X w v l rs):RowX T c base X w.drew v l rs:=h.keep (Nat.le_refl _) fun _ _ _ _=>rfl
theorem RowX.setCell(h:RowX T c base X w v l rs){a:Addr}(ha:a.block<base)(u:Value):RowX T c base X (w.setCell a u) v l rs:=
 h.keep (by simp) fun k hk _ _=>Below.heap_setCell _ _ _ _ (by omega)
theorem RowX.grown{row:Option Nat}(h:RowX T c base X w v l rs)(hg:w.grownBy w' row)(hr:∀b,X b→some b≠row):RowX T c base X w' v l rs:=
 h.keep hg.size fun k _ hX hlt=>hg.block k hlt (hr k hX)
theorem RowX.mono(h:RowX T c base X w v l rs)(hX:∀b,X b→b<w.heap.size→X' b):RowX T c base X' w v l rs:=
 ⟨h.own,h.len,fun k hk=>hX k (h.ownX k hk) (h.own.lt k hk).2,fun x hx=>(h.rep x hx).mono' fun b hb hlt=>⟨⟨hb.1.1,hX b hb.1.2 hlt⟩,hb.2⟩⟩
theorem RowX.form(h:RowX T c base X w v l rs):∃a cap,v= .slice a l.length cap:=h.toG.form
theorem RowX.lt(h:RowX T c base X w v l rs):∀k,v.ownBlock=some k→base≤k∧k<w.heap.size:=h.own.lt
theorem RowX.push{news:List Value}{rs2:List (Ex × Value)}{m g cap H n:Nat}{xs:List Value}(h:RowX T c base X w v l rs)(hr:∀x∈rs2,RepE (fun b=>m≤b) w x.1 x.2)(hm:base≤m)(hXm:∀b,m≤b→X b)(hv:∀k,v.ownBlock=some k→k<m)
 (hc:news.length=c) (hn:n=l.length+1) (hxs:xs=l.flatten++news) (ho:w'.ownsRow base T c (.slice (some ⟨g,0,none⟩) n cap) n xs) (hg:w.grownBy w' v.ownBlock) (hat:v.ownBlock=some g∨g=H) (hH:w.heap.size=H) (hmH:m≤H) :
 RowX T c base X w' (.slice (some ⟨g,0,none⟩) n cap) (l++[news]) (rs++rs2):=by
 subst hH hn hxs
 refine⟨by rw [List.length_append,List.flatten_append];simpa using ho,fun x hx=>?_,fun k hk=>?_,fun x hx=>?_⟩
 ·rw [List.mem_append]at hx
  rcases hx with hx|hx
  ·exact h.len x hx
  ·obtain rfl:x=news:=by simpa using hx
   exact hc
 ·obtain rfl:g=k:=by simpa [Value.ownBlock]using hk
  rcases hat with hat|hat
  ·exact h.ownX _ hat
  ·exact hXm _ (by omega)
 ·have key:∀(e':Ex) (u:Value),RepE (fun b=>(base≤b∧X b)∧v.ownBlock≠some b) w e' u→RepE (fun b=>(base≤b∧X b)∧(Value.slice (some ⟨g,0,none⟩) (l.length+1) cap).ownBlock≠some b) w' e' u:=by
   intro e' u hu
   refine(hu.mono' (S':=fun b=>((base≤b∧X b)∧v.ownBlock≠some b)∧g≠b) ?_|>.keep hg.size ?_).mono ?_
   ·rintro b ⟨h1,h2⟩ hlt
    refine⟨⟨h1,h2⟩, ?_⟩
    rcases hat with hat|hat
    ·intro e;exact h2 (by rw [hat,e])
    ·omega
   ·rintro b o ⟨⟨_,h2⟩,_⟩ hlt
    exact World.cell?_of_block (hg.block b hlt (Ne.symm h2))
   ·rintro b ⟨⟨h1,_⟩,h3⟩
    exact⟨h1,by simpa [Value.ownBlock]using h3⟩
  rw [List.mem_append]at hx
  rcases hx with hx|hx
  ·exact key _ _ (h.rep x hx)
  ·exact key _ _ ((hr x hx).mono fun b hb=>⟨⟨by omega,hXm b hb⟩,fun e=>by have:=hv b e;omega⟩)
end
def letL(q:List (ByteArray × (Ex × Value))):List (List Value):=q.map fun t=>.string t.1::cells1 t.2.1 t.2.2
def LetQ(R:RawV)(k:Nat)(q:List (ByteArray × (Ex × Value))):Prop:=q.map (fun t=>(t.1,t.2.1))=(List.range k).map fun i=>(letN i,letE R i)
theorem LetQ.nil(R:RawV):LetQ R 0 []:=rfl
theorem LetQ.length{R:RawV}{k:Nat}{q:List (ByteArray × (Ex × Value))}(h:LetQ R k q):q.length=k:=by
 have:=congrArg List.length h
 simpa using this
theorem LetQ.push{R:RawV}{k:Nat}{q:List (ByteArray × (Ex × Value))}(h:LetQ R k q)(v:Value):LetQ R (k+1) (q++[(letN k,(letE R k,v))]):=by
 unfold LetQ at *
 exact bz53
theorem letL_push(q:List (ByteArray × (Ex × Value)))(s:ByteArray)(e:Ex)(v:Value):letL (q++[(s,(e,v))])=letL q++[.string s::cells1 e v]:=by simp [letL]
def envL(env:List (ByteArray × Int)):List (List Value):=env.map fun b=>[.string b.1,.int .i64 b.2]
theorem envL_push(env:List (ByteArray × Int))(s:ByteArray)(d:Int):envL (env++[(s,d)])=envL env++[[.string s,.int .i64 d]]:=by simp [envL]
theorem envF_size(R:RawV)(k:Nat):∀x∈envF R k,x.1.size≤140737488355328:=by
 intro x hx
 unfold envF at hx
 rw [List.mem_map]at hx
 obtain⟨i,_,rfl⟩:=hx
 show(letN i).size≤_
 rw [letN_size];omega
theorem EnvAt.of_row{w:World}{base T:Nat}{v:Value}{env:List (ByteArray × Int)}(h:RowG T 2 base w v (envL env) [])(hl:env.length≤1000)(hs:∀x∈env,x.1.size≤140737488355328):EnvAt w w.heap.size v env:=by
 obtain⟨a,cap,hv,hc⟩:=h.cells
 have hlen:(envL env).length=env.length:=by simp [envL]
 rw [hlen]at hv hc
 refine⟨hl,hs,a,cap,hv,hc.imp id ?_⟩
 rintro⟨g,ha,hb,hlt,hx⟩
 refine⟨g,0,ha,hlt,by omega,fun i hi=>?_⟩
 have hget:(envL env).getD i []= [.string (env.getD i noBind).1,.int .i64 (env.getD i noBind).2]:=by
  simp only [envL,List.getD_eq_getElem?_getD,List.getElem?_map,List.getElem?_eq_getElem hi];rfl
 refine⟨?_, ?_⟩
 ·have:=hx i 0 (.string (env.getD i noBind).1) hi (by omega) (by rw [hget];rfl)
  rw [show 0+i*2=i*2+0 by omega];exact this
 ·have:=hx i 1 (.int .i64 (env.getD i noBind).2) hi (by omega) (by rw [hget];rfl)
  rw [show 0+i*2+1=i*2+1 by omega];exact this
theorem ListAt.of_ints{w W:World}{u:Value}{zs:List Int}(h:IntsAt w u zs)(hb:Below w.heap.size w W):ListAt W W.heap.size u zs:=by
 obtain⟨h0,_,a,cap,hv,h1⟩:=h
 refine⟨h0,a,cap,hv,h1.imp id ?_⟩
 rintro⟨b,off,ha,hlt,hc⟩
 have:=hb.size
 exact⟨b,off,ha,by omega,by omega,fun i hi=>by rw [hb.cell (by exact hlt)];exact hc i hi⟩
theorem IntsAt.form{w:World}{u:Value}{zs:List Int}(h:IntsAt w u zs):∃a cap,u= .slice a zs.length cap:=by
 obtain⟨_,_,a,cap,hv,_⟩:=h
 exact⟨a,cap,hv⟩
structure OfAt(w:World)(cs:Array Value)(g:Nat)(os:Array Value)(wr:World):Prop where
 bel:Below w.heap.size w wr
 box:wr.heap[w.heap.size]? =some (.cells cs 25 (0,0))
 res:wr.heap[w.heap.size+1]? =some (.cells #[.int .i64 0,.int .i64 0,.int .i64 0,.slice none 0 0,.slice none 0 0,.slice none 0 0,.slice none 0 0,.slice none 0 0] 36 (0,0))
 out:wr.heap[g]? =some (.cells os 36 (0,0))
 gge:w.heap.size+2≤g
section
variable {w wr w1 : World} {cs os : Array Value} {g : Nat}
theorem OfAt.lt(h:OfAt w cs g os wr):g<wr.heap.size:=(Array.getElem?_eq_some_iff.1 h.out).1
theorem OfAt.lt0(h:OfAt w cs g os wr):w.heap.size+1<wr.heap.size:=(Array.getElem?_eq_some_iff.1 h.res).1
theorem OfAt.of_blocks(h:OfAt w cs g os wr)(hb:Below w.heap.size w w1)(h1:∀k,k=w.heap.size∨k=w.heap.size+1∨k=g→w1.heap[k]? =wr.heap[k]?):OfAt w cs g os w1:=
 ⟨hb,by rw [h1 _ (.inl rfl)];exact h.box,by rw [h1 _ (.inr (.inl rfl))];exact h.res,by rw [h1 _ (.inr (.inr rfl))];exact h.out,h.gge⟩
theorem OfAt.kept(h:OfAt w cs g os wr)(hb:Below w.heap.size w w1)(h1:∀k,k<wr.heap.size→k=w.heap.size∨k=w.heap.size+1∨k=g→w1.heap[k]? =wr.heap[k]?):OfAt w cs g os w1:=by
 have a:=h.lt
 have b:=h.lt0
 refine h.of_blocks hb fun k hk=>h1 k ?_ hk
 rcases hk with rfl|rfl|rfl<;>omega
theorem OfAt.alloc(h:OfAt w cs g os wr)(o:Obj):OfAt w cs g os (wr.alloc o):=
 h.kept (h.bel.alloc h.bel.size o) fun k hk _=>Below.heap_alloc wr o k hk
theorem OfAt.grow(h:OfAt w cs g os wr)(bs:Array Obj)(d:Nat):OfAt w cs g os (wr.grow bs d):=
 h.kept (h.bel.grow h.bel.size bs d) fun k hk _=>World.heap_grow _ _ _ hk
theorem OfAt.drewN(h:OfAt w cs g os wr)(n:Nat):OfAt w cs g os (wr.drewN n):=h.kept (h.bel.drewN n) fun _ _ _=>rfl
theorem OfAt.grown{row:Option Nat}(h:OfAt w cs g os wr)(hg:wr.grownBy w1 row)(hr:∀k,row=some k→g<k∧w.heap.size+2≤k):OfAt w cs g os w1:=
 h.kept (h.bel.grown hg h.bel.size fun k hk=>by have:=hr k hk;omega) fun k hk hk2=>hg.block k hk fun e=>by
  have:=hr k e.symm
  have:=h.gge
  rcases hk2 with rfl|rfl|rfl<;>omega
theorem OfAt.store(h:OfAt w cs g os wr)(i:Nat)(v:Value):OfAt w cs g (os.setIfInBounds i v) (wr.setCell ⟨g,i,none⟩ v):=
 ⟨h.bel.setCell (by have:=h.gge;show w.heap.size≤g;omega) v,by rw [Below.heap_setCell _ _ _ _ (by have:=h.gge;show w.heap.size≠g;omega)];exact h.box,by rw [Below.heap_setCell _ _ _ _ (by have:=h.gge;show w.heap.size+1≠g;omega)];exact h.res,Joins.block_setCell h.out v,h.gge⟩
end
section
variable {g : Nat} {a b c : World}
theorem RowG.next{T:TypeId}{n base:Nat}{v:Value}{l:List (List Value)}{rs:List (Ex × Value)}(h:RowG T n base a v l rs)(hn:Next g a b)(hb:g<base):RowG T n base b v l rs:=
 h.keep hn.size fun k hk hlt=>hn.blk k hlt (by omega)
end
theorem OfAt.drew{w wr:World}{cs os:Array Value}{g:Nat}(h:OfAt w cs g os wr):OfAt w cs g os wr.drew:=h.kept h.bel.drew fun _ _ _=>rfl
theorem RowG.drew{T:TypeId}{c base:Nat}{w:World}{v:Value}{l:List (List Value)}{rs:List (Ex × Value)}(h:RowG T c base w v l rs):RowG T c base w.drew v l rs:=h.keep (Nat.le_refl _) fun _ _ _=>rfl
theorem RowG.upto{T:TypeId}{c base:Nat}{w:World}{v:Value}{l:List (List Value)}{rs:List (Ex × Value)}(h:RowG T c base w v l rs):RowX T c base (· <w.heap.size) w v l rs:=
 ⟨h.own,h.len,fun k hk=>(h.lt k hk).2,fun x hx=>(h.rep x hx).mono' fun b hb hlt=>⟨⟨hb.1,hlt⟩,hb.2⟩⟩
theorem RowX.next{g T n base:Nat}{X:Nat→Prop}{a b:World}{v:Value}{l:List (List Value)}{rs:List (Ex × Value)}(h:RowX T n base X a v l rs)(hn:Next g a b)(hb:g<base):RowX T n base X b v l rs:=
 h.keep hn.size fun k hk _ hlt=>hn.blk k hlt (by omega)

abbrev GrT:=Int × (Ex × Value) × (Ex × Value)
def GrQ(R:RawV)(k:Nat)(q:List GrT):Prop:=q.map (fun t=>(t.1,t.2.1.1,t.2.2.1))=(List.range k).map fun(i:Nat)=>((i:Int)+1,ifE R i,payE R i)
theorem GrQ.length{R:RawV}{k:Nat}{q:List GrT}(h:GrQ R k q):q.length=k:=by
 have:=congrArg List.length h
 simpa using this
theorem GrQ.push{R:RawV}{k:Nat}{q:List GrT}(h:GrQ R k q)(v u:Value):GrQ R (k+1) (q++[((k:Int)+1,(ifE R k,v),(payE R k,u))]):=by
 unfold GrQ at *
 exact bz53
theorem ListAt.nil(w:World)(s:Nat):ListAt w s (.slice none 0 0) []:=⟨by simp,none,0,rfl,.inl rfl⟩
def ReQ(R:RawV)(k:Nat)(q:List (Int × (Ex × Value))):Prop:=q.map (fun t=>(t.1,t.2.1))=(List.range k).map fun(i:Nat)=>((i:Int)+1,cutE R i)
theorem ReQ.length{R:RawV}{k:Nat}{q:List (Int × (Ex × Value))}(h:ReQ R k q):q.length=k:=by
 have:=congrArg List.length h
 simpa using this
theorem ReQ.push{R:RawV}{k:Nat}{q:List (Int × (Ex × Value))}(h:ReQ R k q)(v:Value):ReQ R (k+1) (q++[((k:Int)+1,(cutE R k,v))]):=by
 unfold ReQ at *
 exact bz53

structure VerP where
 frm:Int
 mode:Int
 unit:Int
 cr:List (Int × Int)
 se:List (Int × Int × Int)
 le:List (ByteArray × Ex)
 gr:List (Int × Ex × Ex)
 re:List (Int × Ex)
section
variable {T : TypeId} {c base g n cap : Nat} {X : Nat → Prop} {w : World} {l : List (List Value)} {rs rs' : List (Ex × Value)}
theorem RowX.apart(h:RowX T c base X w (.slice (some ⟨g,0,none⟩) n cap) l rs):base≤g∧X g∧g<w.heap.size:=⟨(h.own.lt g rfl).1,h.ownX g rfl,(h.own.lt g rfl).2⟩
theorem RowX.kept{b o:Nat}{v:Value}(h:RowX T c base X w v l rs)(hb:¬(base≤b∧X b))(u:Value):RowX T c base X (w.setCell ⟨b,o,none⟩ u) v l rs:=
 h.keep (by simp) fun k hk hX _=>Below.heap_setCell _ _ _ _ (fun e=>hb ⟨(show k=b from e) ▸ hk,(show k=b from e) ▸ hX⟩)
theorem RowG.kept{b o:Nat}{v:Value}(h:RowG T c base w v l rs)(hb:b<base)(u:Value):RowG T c base (w.setCell ⟨b,o,none⟩ u) v l rs:=h.setCell hb u
theorem RowX.block{v:Value}(h:RowX T c base X w v l rs)(h0:0<l.length):∃g cap,v= .slice (some ⟨g,0,none⟩) l.length cap:=by
 rcases h.own.2 with ⟨_,h1⟩|⟨g,cap,cur,rfl,_⟩
 ·omega
 ·exact⟨g,cap,rfl⟩
theorem RowX.cellAt(h:RowX T c base X w (.slice (some ⟨g,0,none⟩) n cap) l rs)(hn:n=l.length)(i j:Nat)(hj:j<c)(hi:i<l.length):w.cell? ⟨g,i*c+j,none⟩=(l.getD i [])[j]?:=by
 subst hn
 rw [h.own.cellAt (i*c+j) (by have:=Nat.mul_le_mul_right c (show i+1≤l.length from hi);rw [Nat.add_mul]at this;omega),flatten_get l c h.len i j hj hi]
end
end Go.Proofs.YtaghhncnicbedaaGreatDoor
namespace Go.Proofs.YtaghhncnicbedaaGreatDoor
def letsG:List (ByteArray × Ex)→List (ByteArray × Int)→List (ByteArray × Int) × Int
 | [],env=>(env,0)
 |t::r,env=>
  if inpD t.1.toList≠0∨nameB t.1=false then([],5)
  else if env.any (fun p=>decide (p.1=t.1))=true then([],10)
  else if(inferE env t.2).2≠0 then([],(inferE env t.2).2)else letsG r (env++[(t.1,(inferE env t.2).1)])
def letsF(l:List (ByteArray × Ex)):List (ByteArray × Int) × Int:=if 10<l.length then([],7)else letsG l []
def needF(env:List (ByteArray × Int))(e:Ex)(want:Int):Int:=if(inferE env e).2=0∧(inferE env e).1≠want then 6 else(inferE env e).2
def dupG:List Int→List Int→Bool
 |_,[]=>false
 |pre,x::r=>pre.contains x || dupG (pre++[x]) r
def ascG:List Int→Bool
 | []=>true
 |x::r=>(match r with| []=>true|y::_=>decide (x<y))&&ascG r
def grG(env:List (ByteArray × Int)):List Int→List (Int × Ex × Ex)→Int
 |_,[]=>0
 |pre,g::r=>if pre.contains g.1=true then 10 else if needF env g.2.1 1≠0 then needF env g.2.1 1 else if needF env g.2.2 4≠0 then needF env g.2.2 4 else grG env (pre++[g.1]) r
def reG(env:List (ByteArray × Int)):List Int→List (Int × Ex)→Int
 |_,[]=>0
 |pre,g::r=>if pre.contains g.1=true then 10 else if needF env g.2 2≠0 then needF env g.2 2 else reG env (pre++[g.1]) r
def versF(V:VerP):Int:=
 if(letsF V.le).2≠0 then(letsF V.le).2
 else if dupG [] (V.cr.map Prod.fst)=true then 10
 else if ascG (V.se.map Prod.fst)=false then 1
 else if grG (letsF V.le).1 [] V.gr≠0 then grG (letsF V.le).1 [] V.gr
 else reG (letsF V.le).1 [] V.re
structure LtAt(ls:List (ByteArray × Ex))(k:Nat)(env:List (ByteArray × Int)):Prop where
 all:letsG ls []=letsG (ls.drop k) env
 len:env.length=k
 nm:env.map Prod.fst=(ls.take k).map Prod.fst
theorem LtAt.zero(ls:List (ByteArray × Ex)):LtAt ls 0 []:=⟨rfl,rfl,by simp⟩
def ltStep(env:List (ByteArray × Int))(t:ByteArray × Ex):Int:=
 if inpD t.1.toList≠0∨nameB t.1=false then 5 else if env.any (fun p=>decide (p.1=t.1))=true then 10 else(inferE env t.2).2
theorem LtAt.drop{ls:List (ByteArray × Ex)}{k:Nat}(hk:k<ls.length):ls.drop k=ls.getD k default::ls.drop (k+1):=by
 rw [List.drop_eq_getElem_cons hk,List.getD_eq_getElem?_getD,List.getElem?_eq_getElem hk];rfl
theorem LtAt.bad{ls:List (ByteArray × Ex)}{k:Nat}{env:List (ByteArray × Int)}(h:LtAt ls k env)(hk:k<ls.length)(hb:ltStep env (ls.getD k default)≠0):letsG ls []=([],ltStep env (ls.getD k default)):=by
 rw [h.all,LtAt.drop hk,letsG]
 unfold ltStep at hb ⊢
 split
 ·rfl
 ·rename_i h1
  rw [if_neg h1]at hb
  split
  ·rfl
  ·rename_i h2
   rw [if_neg h2]at hb
   rw [if_pos hb]
theorem LtAt.next{ls:List (ByteArray × Ex)}{k:Nat}{env:List (ByteArray × Int)}(h:LtAt ls k env)(hk:k<ls.length)(hb:ltStep env (ls.getD k default)=0):LtAt ls (k+1) (env++[((ls.getD k default).1,(inferE env (ls.getD k default).2).1)]):=by
 refine⟨?_,by rw [List.length_append,h.len];rfl, ?_⟩
 ·rw [h.all,LtAt.drop hk,letsG]
  unfold ltStep at hb
  split at hb
  ·cases hb
  ·rename_i h1
   rw [if_neg h1]
   split at hb
   ·cases hb
   ·rename_i h2
    rw [if_neg h2,if_neg (by simpa using hb)]
 ·rw [List.map_append,h.nm,List.take_succ_eq_append_getElem hk,List.map_append]
  simp [List.getD_eq_getElem?_getD,List.getElem?_eq_getElem hk]
theorem LtAt.done{ls:List (ByteArray × Ex)}{env:List (ByteArray × Int)}(h:LtAt ls ls.length env):letsG ls []=(env,0):=by
 rw [h.all,List.drop_length,letsG]
theorem LtAt.dup{ls:List (ByteArray × Ex)}{k:Nat}{env:List (ByteArray × Int)}(h:LtAt ls k env)(hk:k≤ls.length)(s:ByteArray):env.any (fun p=>decide (p.1=s))=(List.range k).any fun j=>decide ((ls.getD j default).1=s):=by
 have h1:env.any (fun p=>decide (p.1=s))=(env.map Prod.fst).any fun x=>decide (x=s):=by rw [List.any_map];rfl
 rw [h1,h.nm,List.any_map,Bool.eq_iff_iff,List.any_eq_true,List.any_eq_true]
 constructor
 ·rintro⟨t,ht,hs⟩
  obtain⟨j,hj,rfl⟩:=List.mem_take_iff_getElem.1 ht
  have:j<ls.length:=by omega
  exact⟨j,List.mem_range.2 (by omega),by simpa [List.getD_eq_getElem?_getD,List.getElem?_eq_getElem this]using hs⟩
 ·rintro⟨j,hj,hs⟩
  have hj:=List.mem_range.1 hj
  have:j<ls.length:=by omega
  exact⟨ls[j],List.mem_take_iff_getElem.2 ⟨j,by omega,rfl⟩,by simpa [List.getD_eq_getElem?_getD,List.getElem?_eq_getElem this]using hs⟩
theorem letsF_len{ls:List (ByteArray × Ex)}(h:ls.length≤10):letsF ls=letsG ls []:=by unfold letsF;rw [if_neg (by omega)]
mutual
theorem infer_same{a b:List (ByteArray × Int)}:∀e:Ex,(∀s,mentB s e=true→inferN b s=inferN a s)→inferF b e=inferF a e
 | .mk op n d m s l,h=>by
   rw [inferF,inferF,infers_same l (fun x hx=>h x (by rw [mentB,hx,Bool.or_true]))]
   by_cases h2:op=2
   ·subst h2;rw [h s (by simp [mentB])]
   ·exact infNode_name h2
theorem infers_same{a b:List (ByteArray × Int)}:∀l:List Ex,(∀s,mentsB s l=true→inferN b s=inferN a s)→infersF b l=infersF a l
 | [],_=>by rw [infersF,infersF]
 |e::r,h=>by rw [infersF,infersF,infer_same e (fun x hx=>h x (by rw [mentsB,hx,Bool.true_or])),infers_same r (fun x hx=>h x (by rw [mentsB,hx,Bool.or_true]))]
end
theorem formed_leaf{op n d m:Int}{s:ByteArray}{l:List Ex}(h:formedB (.mk op n d m s l)=true)(ho:op=1∨op=2∨op=3):l= []:=by
 rw [formedB_eq,Bool.and_eq_true]at h
 have h1:(l.length:Int)=argsN op:=of_decide_eq_true h.1
 have h0:argsN op=0:=by unfold argsN;rw [if_pos (by omega)]
 exact List.eq_nil_of_length_eq_zero (by omega)
theorem formed_sub{op n d m:Int}{s:ByteArray}{l:List Ex}(h:formedB (.mk op n d m s l)=true)(h1:op≠1)(h2:op≠2)(h3:op≠3):formedsB l=true:=by
 rw [formedB_eq,Bool.and_eq_true]at h
 have:=h.2
 rw [if_neg (by exact h1),if_neg (by exact h2),if_neg (by exact h3),Bool.and_eq_true]at this
 exact this.1
mutual
theorem infer_named{a:List (ByteArray × Int)}{s:ByteArray}:∀e:Ex,formedB e=true→(inferF a e).2=0→mentB s e=true→(inferN a s).2=0
 | .mk op n d m nm l,hf,hi,hm=>by
   by_cases ho:op=1∨op=2∨op=3
   ·have hl:=formed_leaf hf ho
    subst hl
    rw [mentB,mentsB,Bool.or_false,Bool.and_eq_true]at hm
    have h2:op=2:=of_decide_eq_true hm.1
    have hs:nm=s:=of_decide_eq_true hm.2
    subst h2 hs
    rw [inferF]at hi
    exact hi
   ·have h1:op≠1:=fun h=>ho (.inl h)
    have h2:op≠2:=fun h=>ho (.inr (.inl h))
    have h3:op≠3:=fun h=>ho (.inr (.inr h))
    rw [mentB,decide_eq_false h2,Bool.false_and,Bool.false_or]at hm
    refine infers_named l (formed_sub hf h1 h2 h3) ?_ hm
    rw [inferF]at hi
    unfold infNode at hi
    rw [if_neg h1,if_neg h3,if_neg h2]at hi
    by_cases hr:(infersF a l).2=0
    ·exact hr
    ·rw [if_pos hr]at hi;exact hi
theorem infers_named{a:List (ByteArray × Int)}{s:ByteArray}:∀l:List Ex,formedsB l=true→(infersF a l).2=0→mentsB s l=true→(inferN a s).2=0
 | [],_,_,hm=>by rw [mentsB]at hm;cases hm
 |e::r,hf,hi,hm=>by
  rw [formedsB,Bool.and_eq_true]at hf
  rw [infersF]at hi
  have h1:(inferF a e).2=0:=by
   by_cases h:(inferF a e).2=0
   ·exact h
   ·rw [if_pos h]at hi;exact hi
  have h2:(infersF a r).2=0:=by
   rw [if_neg (by simpa using h1)]at hi
   by_cases h:(infersF a r).2=0
   ·exact h
   ·rw [if_pos h]at hi;exact hi
  rw [mentsB,Bool.or_eq_true]at hm
  rcases hm with hm|hm
  ·exact infer_named e hf.1 h1 hm
  ·exact infers_named r hf.2 h2 hm
end
theorem lastN_snoc{α:Type}(l:List (ByteArray × α))(p:ByteArray × α)(s:ByteArray):lastN (l++[p]) s=if p.1=s then some p.2 else lastN l s:=by
 unfold lastN
 rw [List.reverse_append,List.reverse_singleton,List.singleton_append,List.find?_cons]
 by_cases h:p.1=s
 ·rw [if_pos h,decide_eq_true h];rfl
 ·rw [if_neg h,decide_eq_false h]
structure LsOk(ls:List (ByteArray × Ex))(k:Nat)(env:List (ByteArray × Int)):Prop where
 len:env.length=k
 nm:∀i,i<k→(env.getD i default).1=(ls.getD i default).1
 ty:∀i,i<k→inferE (env.take i) (ls.getD i default).2=((env.getD i default).2,0)
 word:∀i,i<k→inpD (ls.getD i default).1.toList=0∧nameB (ls.getD i default).1=true
 inj:∀i j,i<j→j<k→(ls.getD i default).1≠(ls.getD j default).1
theorem LsOk.zero(ls:List (ByteArray × Ex)):LsOk ls 0 []:=⟨rfl,fun i h=>by omega,fun i h=>by omega,fun i h=>by omega,fun i j _ h=>by omega⟩
theorem getD_snoc{α:Type}[Inhabited α]{l:List α}{x:α}{i:Nat}:(l++[x]).getD i default=if i<l.length then l.getD i default else if i=l.length then x else default:=by
 simp only [List.getD_eq_getElem?_getD]
 by_cases h:i<l.length
 ·rw [if_pos h,List.getElem?_append_left h]
 ·rw [if_neg h,List.getElem?_append_right (by omega)]
  by_cases h2:i=l.length
  ·subst h2;simp
  ·rw [if_neg h2,List.getElem?_eq_none (by simp;omega)];rfl
theorem LsOk.next{ls:List (ByteArray × Ex)}{k:Nat}{env:List (ByteArray × Int)}(h:LsOk ls k env)(ha:LtAt ls k env)(hk:k<ls.length)(hb:ltStep env (ls.getD k default)=0) :
 LsOk ls (k+1) (env++[((ls.getD k default).1,(inferE env (ls.getD k default).2).1)]):=by
 have hl:=h.len
 unfold ltStep at hb
 split at hb
 ·cases hb
 rename_i h1
 split at hb
 ·cases hb
 rename_i h2
 have hdup:=ha.dup (by omega) (ls.getD k default).1
 have hd:∀j,j<k→(ls.getD j default).1≠(ls.getD k default).1:=fun j hj he=>by
  rw [hdup]at h2
  exact h2 (List.any_eq_true.2 ⟨j,List.mem_range.2 hj,decide_eq_true he⟩)
 refine⟨by rw [List.length_append,hl];rfl,fun i hi=>?_,fun i hi=>?_,fun i hi=>?_,fun i j hij hj=>?_⟩
 ·rw [getD_snoc]
  by_cases hik:i<k
  ·rw [if_pos (by omega)];exact h.nm i hik
  ·rw [if_neg (by omega),if_pos (by omega)]
   show(ls.getD k default).1=_
   rw [show i=k by omega]
 ·by_cases hik:i<k
  ·rw [List.take_append_of_le_length (by omega),getD_snoc,if_pos (by omega)];exact h.ty i hik
  ·obtain rfl:i=k:=by omega
   rw [List.take_append_of_le_length (by omega),List.take_of_length_le (by omega),getD_snoc,if_neg (by omega),if_pos hl.symm]
   exact Prod.ext rfl hb
 ·by_cases hik:i<k
  ·exact h.word i hik
  ·obtain rfl:i=k:=by omega
   exact⟨Decidable.byContradiction fun c=>h1 (.inl c),by
    cases hn:nameB (ls.getD i default).1
    ·exact absurd (.inr hn) h1
    ·rfl⟩
 ·by_cases hjk:j<k
  ·exact h.inj i j hij hjk
  ·obtain rfl:j=k:=by omega
   exact hd i hij
theorem LsOk.of_lets{ls:List (ByteArray × Ex)}{env:List (ByteArray × Int)}(h:letsG ls []=(env,0)):LsOk ls ls.length env:=by
 have key:∀k,k≤ls.length→∃e,LtAt ls k e∧LsOk ls k e:=by
  intro k
  induction k with
  |zero=>intro _;exact⟨[],LtAt.zero ls,LsOk.zero ls⟩
  |succ k ih=>
   intro hk
   obtain⟨e,h1,h2⟩:=ih (by omega)
   have hz:ltStep e (ls.getD k default)=0:=Decidable.byContradiction fun c=>by
    have hb:=h1.bad (by omega) c
    rw [h]at hb
    exact c (Prod.mk.inj hb).2.symm
   exact⟨_,h1.next (by omega) hz,h2.next h1 (by omega) hz⟩
 obtain⟨e,h1,h2⟩:=key ls.length (Nat.le_refl _)
 have hd:=h1.done
 rw [h]at hd
 rw [(Prod.mk.inj hd).1];exact h2
theorem LsOk.last{ls:List (ByteArray × Ex)}{k:Nat}{env:List (ByteArray × Int)}(h:LsOk ls k env){j:Nat}:∀i,j<i→i≤k→lastN (env.take i) (ls.getD j default).1=some (env.getD j default).2
 |0,hj,_=>by omega
 |i+1,hj,hi=>by
  have hl:=h.len
  rw [List.take_succ_eq_append_getElem (by omega),lastN_snoc]
  have hg:env[i]'(by omega)=env.getD i default:=by rw [List.getD_eq_getElem?_getD,List.getElem?_eq_getElem (by omega)];rfl
  rw [hg,h.nm i (by omega)]
  by_cases hji:j=i
  ·subst hji;rw [if_pos rfl]
  ·rw [if_neg (fun e=>h.inj j i (by omega) (by omega) e.symm)]
   exact h.last i (by omega) (by omega)
theorem LsOk.none{ls:List (ByteArray × Ex)}{k:Nat}{env:List (ByteArray × Int)}(h:LsOk ls k env){s:ByteArray}:∀i,i≤k→(∀j,j<i→(ls.getD j default).1≠s)→lastN (env.take i) s=none
 |0,_,_=>by simp [lastN]
 |i+1,hi,hs=>by
  have hl:=h.len
  rw [List.take_succ_eq_append_getElem (by omega),lastN_snoc]
  have hg:env[i]'(by omega)=env.getD i default:=by rw [List.getD_eq_getElem?_getD,List.getElem?_eq_getElem (by omega)];rfl
  rw [hg,h.nm i (by omega),if_neg (hs i (by omega))]
  exact h.none i (by omega) fun j hj=>hs j (by omega)
theorem LsOk.named{ls:List (ByteArray × Ex)}{k:Nat}{env:List (ByteArray × Int)}(h:LsOk ls k env){s:ByteArray}{i:Nat}(hi:i≤k)(ht:(inferN (env.take i) s).2=0):inpD s.toList≠0∨∃j,j<i∧(ls.getD j default).1=s:=by
 by_cases hs:inpD s.toList=0
 ·refine .inr (Decidable.byContradiction fun c=>?_)
  have:=h.none (s:=s) i hi fun j hj e=>c ⟨j,hj,e⟩
  unfold inferN at ht
  rw [if_neg (by simpa using hs),this]at ht
  cases ht
 ·exact .inl hs
structure StOk(ls:List (ByteArray × Ex))(env:List (ByteArray × Int))(D:List Nat)(st:List (ByteArray × Val)):Prop where
 ok:∀p∈st,p.2.ok=true
 dom:∀j∈D,j<ls.length
 look:∀j∈D,lastN (dimsOf st) (ls.getD j default).1=some (env.getD j default).2
 sub:∀j,j<ls.length→(st.any fun p=>decide (p.1=(ls.getD j default).1))=D.contains j
theorem StOk.zero(ls:List (ByteArray × Ex))(env:List (ByteArray × Int)):StOk ls env [] []:=⟨fun _ h=>(by cases h),fun _ h=>(by cases h),fun _ h=>(by cases h),fun _ _=>rfl⟩
theorem dims_snoc(st:List (ByteArray × Val))(p:ByteArray × Val):dimsOf (st++[p])=dimsOf st++[(p.1,p.2.dim)]:=by simp [dimsOf]
theorem StOk.push{ls:List (ByteArray × Ex)}{env:List (ByteArray × Int)}{D:List Nat}{st:List (ByteArray × Val)}(h:StOk ls env D st)(hl:LsOk ls ls.length env){i:Nat}(hi:i<ls.length)(hD:D.contains i=false){x:Val}(hx:x.ok=true)(hd:x.dim=(env.getD i default).2) :
 StOk ls env (D++[i]) (st++[((ls.getD i default).1,x)]):=by
 have ne:∀j,j<ls.length→j≠i→(ls.getD i default).1≠(ls.getD j default).1:=fun j hj hji=>by
  rcases Nat.lt_or_gt_of_ne hji with h1|h1
  ·exact fun e=>hl.inj j i h1 hi e.symm
  ·exact hl.inj i j h1 hj
 refine⟨fun p hp=>?_,fun j hj=>?_,fun j hj=>?_,fun j hj=>?_⟩
 ·rcases List.mem_append.1 hp with hp|hp
  ·exact h.ok p hp
  ·obtain rfl:p=_:=by simpa using hp
   exact hx
 ·rcases List.mem_append.1 hj with hj|hj
  ·exact h.dom j hj
  ·obtain rfl:j=i:=by simpa using hj
   exact hi
 ·rw [dims_snoc,lastN_snoc]
  rcases List.mem_append.1 hj with hj|hj
  ·have hji:j≠i:=fun e=>by
    have hc:D.contains j=true:=List.contains_iff_mem.2 hj
    rw [e,hD]at hc;cases hc
   rw [if_neg (ne j (h.dom j hj) hji)]
   exact h.look j hj
  ·obtain rfl:j=i:=by simpa using hj
   rw [if_pos rfl,hd]
 ·rw [List.any_append,h.sub j hj]
  by_cases hji:j=i
  ·subst hji;simp
  ·have:decide ((ls.getD i default).1=(ls.getD j default).1)=false:=decide_eq_false (ne j hj hji)
   rw [List.any_cons,List.any_nil,this,Bool.or_false,Bool.or_false,Bool.eq_iff_iff,List.contains_iff_mem,List.contains_iff_mem,List.mem_append]
   simp [hji]
theorem StOk.other{ls:List (ByteArray × Ex)}{env:List (ByteArray × Int)}{D:List Nat}{st:List (ByteArray × Val)}(h:StOk ls env D st)(hl:LsOk ls ls.length env){s:ByteArray}(hs:nameB s=false){x:Val}(hx:x.ok=true):StOk ls env D (st++[(s,x)]):=by
 have ne:∀j,j<ls.length→s≠(ls.getD j default).1:=fun j hj e=>by
  have:=(hl.word j hj).2
  rw [←e,hs]at this;cases this
 refine⟨fun p hp=>?_,h.dom,fun j hj=>?_,fun j hj=>?_⟩
 ·rcases List.mem_append.1 hp with hp|hp
  ·exact h.ok p hp
  ·obtain rfl:p=_:=by simpa using hp
   exact hx
 ·rw [dims_snoc,lastN_snoc,if_neg (ne j (h.dom j hj))]
  exact h.look j hj
 ·rw [List.any_append,h.sub j hj]
  have:decide (s=(ls.getD j default).1)=false:=decide_eq_false (ne j hj)
  rw [List.any_cons,List.any_nil,this,Bool.or_false,Bool.or_false]
theorem StOk.typed{ls:List (ByteArray × Ex)}{env:List (ByteArray × Int)}{D:List Nat}{st:List (ByteArray × Val)}(h:StOk ls env D st)(hl:LsOk ls ls.length env){i:Nat}(hi:i≤ls.length){e:Ex}(hf:formedB e=true)(ht:(inferF (env.take i) e).2=0)
 (hD:∀j,j<i→mentB (ls.getD j default).1 e=true→j∈D):inferF (dimsOf st) e=inferF (env.take i) e:=by
 refine infer_same e fun s hs=>?_
 rcases hl.named hi (infer_named e hf ht hs)with h0|⟨j,hj,rfl⟩
 ·unfold inferN;rw [if_pos h0,if_pos h0]
 ·unfold inferN
  rw [if_neg (by have:=(hl.word j (by omega)).1;simpa using this),if_neg (by have:=(hl.word j (by omega)).1;simpa using this),h.look j (hD j hj hs),hl.last i hj hi]
def runU(v:Vw)(ls:List (ByteArray × Ex)):List Nat→List Nat→List (ByteArray × Val)→List Nat × List (ByteArray × Val) × Int
 | [],D,st=>(D,st,0)
 |i::r,D,st=>if D.contains i=true then runU v ls r D st
  else if(valueF v st (ls.getD i default).2).2≠0 then(D,st,(valueF v st (ls.getD i default).2).2)
  else runU v ls r (D++[i]) (st++[((ls.getD i default).1,(valueF v st (ls.getD i default).2).1)])
theorem uses_need{e:Ex}{ls:List (ByteArray × Ex)}{j:Nat}(hj:j<ls.length):j∈usesL e ls↔needB e ls j (usesG e ls (ls.length-j-1))=true:=by
 have h1:=usesG_sub (e:=e) (ls:=ls) (i:=j) (ls.length-j-1+1) j (by omega) (by omega) hj
 rw [show ls.length-j-1+1+j=ls.length by omega]at h1
 have h2:=usesG_contains (e:=e) (ls:=ls) (ls.length-j-1) (by omega)
 rw [show ls.length-(ls.length-j-1+1)=j by omega]at h2
 unfold usesL
 rw [h1,←h2,List.contains_iff_mem]
theorem uses_direct{e:Ex}{ls:List (ByteArray × Ex)}{j:Nat}(hj:j<ls.length)(h:mentB (ls.getD j default).1 e=true):j∈usesL e ls:=by
 rw [uses_need hj];unfold needB;rw [h];rfl
theorem uses_closed{e:Ex}{ls:List (ByteArray × Ex)}{i j:Nat}(hi:i∈usesL e ls)(hji:j<i)(h:mentB (ls.getD j default).1 (ls.getD i default).2=true):j∈usesL e ls:=by
 have hil:i<ls.length:=(usesG_mem ls.length (Nat.le_refl _) i hi).2
 rw [uses_need (by omega)]
 unfold needB
 rw [Bool.or_eq_true]
 refine .inr (List.any_eq_true.2 ⟨i, ?_,h⟩)
 have h1:=usesG_sub (e:=e) (ls:=ls) (i:=i) (ls.length-j-1) (j+1) (by omega) (by omega) hil
 rw [show ls.length-j-1+(j+1)=ls.length by omega]at h1
 exact h1.1 hi
theorem uses_lt{e:Ex}{ls:List (ByteArray × Ex)}{i:Nat}(hi:i∈usesL e ls):i<ls.length:=(usesG_mem ls.length (Nat.le_refl _) i hi).2
structure RunAt(v:Vw)(ls:List (ByteArray × Ex))(env:List (ByteArray × Int))(e:Ex)(D0:List Nat)(st0:List (ByteArray × Val))(k:Nat)(D:List Nat)(st:List (ByteArray × Val)):Prop where
 ok:StOk ls env D st
 pre:∀j∈(usesL e ls).take k,j∈D
 run:runU v ls (usesL e ls) D0 st0=runU v ls ((usesL e ls).drop k) D st
theorem RunAt.zero{v:Vw}{ls:List (ByteArray × Ex)}{env:List (ByteArray × Int)}(e:Ex){D:List Nat}{st:List (ByteArray × Val)}(h:StOk ls env D st):RunAt v ls env e D st 0 D st:=⟨h,fun j hj=>by simp at hj,rfl⟩
section
variable {v : Vw} {ls : List (ByteArray × Ex)} {env : List (ByteArray × Int)} {e : Ex} {D0 D : List Nat} {st0 st : List (ByteArray × Val)} {k : Nat}
theorem uses_drop(hk:k<(usesL e ls).length):(usesL e ls).drop k=(usesL e ls).getD k 0::(usesL e ls).drop (k+1):=by
 rw [List.drop_eq_getElem_cons hk,List.getD_eq_getElem?_getD,List.getElem?_eq_getElem hk];rfl
theorem uses_at(hk:k<(usesL e ls).length):(usesL e ls).getD k 0∈usesL e ls:=by
 rw [List.getD_eq_getElem?_getD,List.getElem?_eq_getElem hk];exact List.getElem_mem hk
theorem uses_take(hk:k<(usesL e ls).length):(usesL e ls).take (k+1)=(usesL e ls).take k++[(usesL e ls).getD k 0]:=by
 exact bz54
theorem uses_before(hk:k<(usesL e ls).length){j:Nat}(hj:j∈usesL e ls)(hlt:j<(usesL e ls).getD k 0):j∈(usesL e ls).take k:=by
 obtain⟨m,hm,rfl⟩:=List.mem_iff_getElem.1 hj
 have hp:=usesG_asc (e:=e) (ls:=ls) ls.length (Nat.le_refl _)
 rw [List.getD_eq_getElem?_getD,List.getElem?_eq_getElem hk]at hlt
 refine List.mem_take_iff_getElem.2 ⟨m, ?_,rfl⟩
 rcases Nat.lt_or_ge m k with h|h
 ·omega
 ·exfalso
  rcases Nat.lt_or_eq_of_le h with h|h
  ·have:=List.pairwise_iff_getElem.1 hp k m hk hm h
   simp only [Option.getD_some]at hlt
   unfold usesL at hlt
   omega
  ·subst h;simp at hlt
theorem RunAt.skip(h:RunAt v ls env e D0 st0 k D st)(hk:k<(usesL e ls).length)(hc:D.contains ((usesL e ls).getD k 0)=true):RunAt v ls env e D0 st0 (k+1) D st:=
 ⟨h.ok,fun j hj=>by
  rw [uses_take hk]at hj
  rcases List.mem_append.1 hj with hj|hj
  ·exact h.pre j hj
  ·obtain rfl:j=_:=by simpa using hj
   exact List.contains_iff_mem.1 hc,by rw [h.run,uses_drop hk,runU,if_pos hc]⟩
theorem RunAt.typed(h:RunAt v ls env e D0 st0 k D st)(hl:LsOk ls ls.length env)(hk:k<(usesL e ls).length) :
 formedB (ls.getD ((usesL e ls).getD k 0) default).2=true∧inferF (dimsOf st) (ls.getD ((usesL e ls).getD k 0) default).2=((env.getD ((usesL e ls).getD k 0) default).2,0)∧validB (ls.getD ((usesL e ls).getD k 0) default).2=true:=by
 have hu:=uses_at hk
 have hil:=uses_lt hu
 have hb:=fun j (h1:j∈usesL e ls) h2=>uses_before hk h1 h2
 generalize(usesL e ls).getD k 0=i at *
 have ht:=hl.ty i hil
 unfold inferE at ht
 split at ht
 ·rename_i hv
  have hvb:=hv.1
  have hf:formedB (ls.getD i default).2=true:=by
   unfold validB at hvb;rw [Bool.and_eq_true]at hvb;exact hvb.2
  refine⟨hf, ?_,hvb⟩
  rw [h.ok.typed hl (by omega) hf (by rw [ht]) fun j hj hm=>h.pre j (hb j (uses_closed hu hj hm) hj),ht]
 ·have:=(Prod.mk.inj ht).2
  cases this
theorem RunAt.bad(h:RunAt v ls env e D0 st0 k D st)(hk:k<(usesL e ls).length)(hc:D.contains ((usesL e ls).getD k 0)=false)(hv:(valueF v st (ls.getD ((usesL e ls).getD k 0) default).2).2≠0) :
 runU v ls (usesL e ls) D0 st0=(D,st,(valueF v st (ls.getD ((usesL e ls).getD k 0) default).2).2):=by
 rw [h.run,uses_drop hk,runU,if_neg (by rw [hc];simp),if_pos hv]
theorem RunAt.next(h:RunAt v ls env e D0 st0 k D st)(hl:LsOk ls ls.length env)(hok:v.ok=true)(hk:k<(usesL e ls).length)(hc:D.contains ((usesL e ls).getD k 0)=false)(hv:(valueF v st (ls.getD ((usesL e ls).getD k 0) default).2).2=0) :
 RunAt v ls env e D0 st0 (k+1) (D++[(usesL e ls).getD k 0]) (st++[((ls.getD ((usesL e ls).getD k 0) default).1,(valueF v st (ls.getD ((usesL e ls).getD k 0) default).2).1)]):=by
 obtain⟨hf,ht,-⟩:=h.typed hl hk
 have hval:=value_ok hok h.ok.ok _ hf (by rw [ht])
 rw [ht]at hval
 obtain⟨hx,hd⟩:=hval.good hv
 refine⟨h.ok.push hl (uses_lt (uses_at hk)) hc hx hd,fun j hj=>?_, ?_⟩
 ·rw [uses_take hk]at hj
  rcases List.mem_append.1 hj with hj|hj
  ·exact List.mem_append.2 (.inl (h.pre j hj))
  ·exact List.mem_append.2 (.inr hj)
 ·rw [h.run,uses_drop hk,runU,if_neg (by rw [hc];simp),if_neg (by simpa using hv)]
theorem RunAt.done(h:RunAt v ls env e D0 st0 (usesL e ls).length D st):runU v ls (usesL e ls) D0 st0=(D,st,0):=by
 rw [h.run,List.drop_length,runU]
theorem RunAt.last(h:RunAt v ls env e D0 st0 (usesL e ls).length D st)(hl:LsOk ls ls.length env){m:Int}(hf:formedB e=true)(ht:inferF env e=(m,0)):inferF (dimsOf st) e=(m,0):=by
 have he:env.take ls.length=env:=List.take_of_length_le (by rw [hl.len];exact Nat.le_refl _)
 have:=h.ok.typed hl (Nat.le_refl _) hf (by rw [he,ht]) fun j hj hm=>h.pre j (by rw [List.take_length];exact uses_direct hj hm)
 rw [this,he,ht]
end
end Go.Proofs.YtaghhncnicbedaaGreatDoor
