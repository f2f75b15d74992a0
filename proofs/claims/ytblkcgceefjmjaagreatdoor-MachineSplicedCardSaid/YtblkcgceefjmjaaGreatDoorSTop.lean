import Derived.Test.YtblkcgceefjmjaaGreatDoorSExpr
import Derived.Test.YtblkcgceefjmjaaGreatDoorSDec
import Derived.Test.YtblkcgceefjmjaaGreatDoorSK
import Derived.Laws.BytesArg
import Derived.Lib.SmallJoins
import Derived.Lib.IndexMore
import Derived.Lib.ItoaNum
import Derived.Lib.OthersKept
import Derived.BigRegion
import Derived.Deep.CutBlock
import Derived.Deep.CutRange
import Derived.Deep.DeepCutAuto
import Derived.Laws.OwnMore
import Derived.Deep.MidRow
set_option linter.all false
set_option maxHeartbeats 16000000
set_option maxRecDepth 1000000
namespace Go
open Go.RowKit
@[go_sem] theorem World.setCell_src_other{w:World}{s:Nat}{lv:Value}{p left:Int}{b i:Nat}(h:b≠s)(v:Value):(w.src s lv p left).setCell ⟨b,i,none⟩ v=(w.setCell ⟨b,i,none⟩ v).src s lv p left:=by
  simp only [World.src,World.setCell]
  congr 1
  apply Array.ext_getElem?
  intro k
  simp only [Array.getElem?_modify,Array.getElem?_setIfInBounds,Array.size_modify]
  by_cases hk:b=k
  ·subst hk;simp [Ne.symm h]
  ·simp [hk]
theorem RowKit.Below.src{B:Nat}{a w:World}{s:Nat}(h:Below B a w)(hB:B≤s)(lv:Value)(p left:Int):Below B a (w.src s lv p left):=
 h.trans ⟨rfl,rfl,rfl,by simp,fun k hk=>World.heap_src_other (by omega)⟩
end Go
namespace Go.Proofs.YtblkcgceefjmjaaGreatDoor
open Go.RowKit

theorem leafN_size(zs:List Int)(env:List (ByteArray × Int))(p:Nat)(dim:Int):(leafN zs env p dim).1.size=1:=by
 unfold leafN
 split
 ·simp [Ex.size,Ex.sizes]
 ·split<;>simp [Ex.size,Ex.sizes]
theorem leafF_size(zs:List Int)(env:List (ByteArray × Int))(dim:Int)(p:Nat)(left:Int):(leafF zs env dim p left).1.size≤3:=by
 unfold leafF
 split
 ·simp [Ex.size,Ex.sizes,leafN_size]
 ·simp [leafN_size]
theorem nodeF_sizes(E:Int→Nat→Int→Ex × Nat × Int)(c:Nat)(hE:∀d p left,(E d p left).1.size≤c)(ds:List Int):∀(p:Nat) (left:Int),Ex.sizes (nodeF E ds p left).1≤ds.length*c:=by
 induction ds with
 |nil=>intro p left;simp [nodeF,Ex.sizes]
 |cons d ds ih=>
  intro p left
  have a:=hE d p left
  have b:=ih (E d p left).2.1 (E d p left).2.2
  simp only [nodeF,Ex.sizes,List.length_cons,Nat.add_mul,Nat.one_mul]
  omega
theorem exprF_size(zs:List Int)(env:List (ByteArray × Int))(n:Nat):∀(dim:Int) (p:Nat) (left:Int),(exprF zs env n dim p left).1.size≤costN n:=by
 induction n with
 |zero=>intro dim p left;have:=leafF_size zs env dim p left;simp only [exprF,costN];omega
 |succ n ih=>
  intro dim p left
  have h8:=costN_8 n
  rw [exprF,costN]
  split
  ·have:=leafF_size zs env dim p left;omega
  ·cases h:prodF zs p dim with
   |none=>have:=leafF_size zs env dim (p+1) (left-2);simp only;omega
   |some t=>
    obtain⟨op,ds,q⟩:=t
    have a:=prodF_bd zs p dim h
    have b:=nodeF_sizes (exprF zs env n) (costN n) ih ds q (left-2)
    have c:ds.length*costN n≤3*costN n:=Nat.mul_le_mul_right _ a.2.2
    simp only [Ex.size]
    omega
def topF(zs:List Int)(env:List (ByteArray × Int))(dim:Int):Ex:=
 if validB (exprF zs env 5 dim 0 24).1=true then(exprF zs env 5 dim 0 24).1 else(leafF zs env dim (exprF zs env 5 dim 0 24).2.1 0).1
theorem topF_yes{zs:List Int}{env:List (ByteArray × Int)}{dim:Int}{e:Ex}{r:Nat × Int}(h:exprF zs env 5 dim 0 24=(e,r))(hv:validB e=true):topF zs env dim=e:=by
 unfold topF;rw [h,if_pos hv]
theorem topF_no{zs:List Int}{env:List (ByteArray × Int)}{dim:Int}{e:Ex}{p':Nat}{l':Int}(h:exprF zs env 5 dim 0 24=(e,p',l'))(hv:validB e=false):topF zs env dim=(leafF zs env dim p' 0).1:=by
 unfold topF;rw [h,if_neg (by simp [hv])]
theorem ListAt.other{w:World}{s s':Nat}{lv:Value}{zs:List Int}(h:ListAt w s lv zs)(hs:w.heap.size≤s'):ListAt w s' lv zs:=by
 obtain⟨h0,a,cap,hv,h1⟩:=h
 refine⟨h0,a,cap,hv,h1.imp id ?_⟩
 rintro⟨b,off,ha,hb,hbs,hcc⟩
 exact⟨b,off,ha,hb,by omega,hcc⟩
theorem EnvAt.other{w:World}{s s':Nat}{v:Value}{env:List (ByteArray × Int)}(h:EnvAt w s v env)(hs:w.heap.size≤s'):EnvAt w s' v env:=by
 obtain⟨h0,hn,a,cap,hv,h1⟩:=h
 refine⟨h0,hn,a,cap,hv,h1.imp id ?_⟩
 rintro⟨b,off,ha,hb,hbs,hcc⟩
 exact⟨b,off,ha,hb,by omega,hcc⟩
theorem src_new'(w:World)(lv:Value)(p left:Int)(H:Nat)(hH:w.heap.size=H):(w.alloc (.cells #[lv,.int .i64 p,.int .i64 left] 112)).src H lv p left=w.alloc (.cells #[lv,.int .i64 p,.int .i64 left] 112):=by
 subst hH;exact World.src_new w lv p left

def MadeEx(w:World)(E:Ex)(e:Ending)(w':World):Prop:=∃v,e= .returned (exV E v)∧w.Grows w'∧RepE (fun b=>w.heap.size≤b) w' E v
theorem Expr_any(lv ev:Value)(zs:List Int)(env:List (ByteArray × Int))(dim:Int)(w:World)(hl0:ListAt w w.heap.size lv zs)(he0:EnvAt w w.heap.size ev env)(hd1:1≤dim)(hd4:dim≤4) :
 Calls Tryz.prog 16 #[lv,.int .i64 dim,ev] w (MadeEx w (topF zs env dim)):=by
 have hl:=Lib.hid (hl0.other (s':=w.heap.size+1) (by omega))
 have he:=Lib.hid (he0.other (s':=w.heap.size+1) (by omega))
 have hlf:=hl0
 obtain⟨-,la,lc,hlv,-⟩:=hlf
 subst hlv
 clear hl0 he0
 have hrb:=exprF_bd zs env 5 dim 0 24
 have hsz:=exprF_size zs env 5 dim 0 24
 have hc5:costN 5=2307:=rfl
 rw [hc5]at hrb hsz
 generalize hR:exprF zs env 5 dim 0 24=r at hrb hsz
 have HR:=Lib.hid hR
 clear hR hc5
 obtain⟨E,p',l'⟩:=r
 simp only at hrb hsz
 have HSZ:=Lib.hid (show E.size≤2305843009213693952 by omega)
 clear hsz
 go_enter Tryz.func16,Tryz.ntmps16
 go_wp2_with fail
 refine(ExprOK.call (expr_ok (w.heap.size+1) _ _ zs env 5 (by omega)) dim 0 0 24 1 _ _ HR rfl (by omega) hd1 hd4 (by simp) (src_new' _ _ _ _ _ (by simp)) (Lib.hid (by(repeat' (first|(with_reducible exact hl.out)|(with_reducible refine ListAt.alloc ?_ _)|(with_reducible refine ListAt.grow ?_ _ _)|(with_reducible refine ListAt.drewN ?_ _)|(with_reducible refine ListAt.src ?_ _ _ _))))) (Lib.hid (by(repeat' (first|(with_reducible exact he.out)|(with_reducible refine EnvAt.alloc ?_ _)|(with_reducible refine EnvAt.grow ?_ _ _)|(with_reducible refine EnvAt.drewN ?_ _)|(with_reducible refine EnvAt.src ?_ _ _ _))))) (by decide) (by decide) (by omega)).mono ?_
 rintro e' w' ⟨v,bs,d,rfl,rfl,hrep⟩
 obtain⟨va,vc,hv⟩:=hrep.form
 subst hv
 have REP:Hid (RepE (fun b=>w.heap.size+2≤b) ((((w.alloc (.cells #[.int .i64 0,.int .i64 0,.int .i64 0,.int .i64 0,.string ⟨#[]⟩,.slice none 0 0] 27)).alloc (.cells #[.slice la zs.length lc,.int .i64 0,.int .i64 24] 112)).src (w.heap.size+1) (.slice la zs.length lc) p' l').grow bs d) E (.slice va E.args.length vc)):=Lib.hid (hrep.mono fun b hb=>by simpa using hb)
 clear hrep
 cases hb:validB E
 ·have HB:=Lib.hid hb
  have HT:=Lib.hid (topF_no HR.out hb)
  clear hb
  go_wp2_with fail
  refine(ValidExpr_any _ E _ _ (Lib.hid (REP.out.alloc _)) HSZ).mono ?_
  rintro e' w' ⟨rfl,bs2,d2,rfl⟩
  simp only [HB.out]
  go_wp2_with fail
  have hlb:=leafF_size zs env dim p' 0
  generalize hL:leafF zs env dim p' 0=q at HT hlb
  have HL:=Lib.hid hL
  clear hL hlb
  obtain⟨E2,p2,l2⟩:=q
  refine(leaf_any (w.heap.size+1) (.slice la zs.length lc) zs p' _ 0 dim _ env _ rfl hd1 hd4 (by simp;omega) (by simp [go_sem]) (Lib.hid (by(repeat' (first|(with_reducible exact hl.out)|(with_reducible refine ListAt.alloc ?_ _)|(with_reducible refine ListAt.grow ?_ _ _)|(with_reducible refine ListAt.drewN ?_ _)|(with_reducible refine ListAt.src ?_ _ _ _))))) (Lib.hid (by(repeat' (first|(with_reducible exact he.out)|(with_reducible refine EnvAt.alloc ?_ _)|(with_reducible refine EnvAt.grow ?_ _ _)|(with_reducible refine EnvAt.drewN ?_ _)|(with_reducible refine EnvAt.src ?_ _ _ _))))) (by omega) (by omega) (by omega)).mono ?_
  rintro e' w' ⟨v2,bs3,d3,rfl,rfl,hrep2⟩
  obtain⟨v2a,v2c,hv2⟩:=hrep2.form
  subst hv2
  rw [HL.out]at hrep2
  simp only [HL.out]
  have H2:=Lib.hid (hrep2.eqw (w':=(((((w.alloc (.cells #[.int .i64 0,.int .i64 0,.int .i64 0,.int .i64 0,.string ⟨#[]⟩,.slice none 0 0] 27)).alloc (.cells #[.slice la zs.length lc,.int .i64 0,.int .i64 24] 112)).src (w.heap.size+1) (.slice la zs.length lc) p2 l2).grow bs d).alloc (.cells #[.int .i64 E.op,.int .i64 E.num,.int .i64 E.den,.int .i64 E.dim,.string E.name,.slice va E.args.length vc] 27)).grow (bs2++bs3) d3) (by simp [go_sem]))
  clear hrep2
  go_wp2_with fail
  go_returns
  refine⟨_,by rw [HT.out],.of_below (by(repeat' (first|(with_reducible exact Below.refl _ _)|(with_reducible assumption)|(with_reducible refine Below.grow ?_ ?_ _ _)|(with_reducible refine Below.alloc ?_ ?_ _)|(with_reducible refine Below.drewN ?_ _)|(with_reducible refine Below.drew ?_)|(with_reducible refine Below.src ?_ ?_ _ _ _)|(with_reducible refine Below.setCell ?_ ?_ _)|go_size))), ?_⟩
  rw [HT.out]
  refine(H2.out.lift0 ?_ ?_ _).mono ?_
  all_goals first
   |(intro b hb;simp at hb;omega)
   |(intro b hb;omega)
   |(simp;done)
   |(simp;omega)
 ·have HB:=Lib.hid hb
  have HT:=Lib.hid (topF_yes HR.out hb)
  clear hb
  go_wp2_with fail
  refine(ValidExpr_any _ E _ _ (Lib.hid (REP.out.alloc _)) HSZ).mono ?_
  rintro e' w' ⟨rfl,bs2,d2,rfl⟩
  simp only [HB.out]
  go_wp2_with fail
  go_returns
  refine⟨_,by rw [HT.out],.of_below (by(repeat' (first|(with_reducible exact Below.refl _ _)|(with_reducible assumption)|(with_reducible refine Below.grow ?_ ?_ _ _)|(with_reducible refine Below.alloc ?_ ?_ _)|(with_reducible refine Below.drewN ?_ _)|(with_reducible refine Below.drew ?_)|(with_reducible refine Below.src ?_ ?_ _ _ _)|(with_reducible refine Below.setCell ?_ ?_ _)|go_size))), ?_⟩
  rw [HT.out]
  refine((((REP.out.lift0 ?_ ?_ d).alloc _).grow _ _).mono ?_)
  all_goals first
   |(intro b hb;simp at hb;omega)
   |(intro b hb;omega)
   |(simp;done)
   |(simp;omega)

structure RowG(T:TypeId)(c:Nat)(base:Nat)(w:World)(v:Value)(l:List (List Value))(rs:List (Ex × Value)):Prop where
 own:w.ownsRow base T c v l.length l.flatten
 len:∀x∈l,x.length=c
 rep:∀x∈rs,RepE (fun b=>base≤b∧v.ownBlock≠some b) w x.1 x.2
section
variable {T : TypeId} {c base : Nat} {w w' : World} {v : Value} {l : List (List Value)} {rs : List (Ex × Value)}
theorem RowG.nil(T:TypeId)(c base:Nat)(w:World):RowG T c base w (.slice none 0 0) [] []:=⟨World.ownsRow_nil _ _ _ _,fun _ h=>by(cases h),fun _ h=>by(cases h)⟩
theorem RowG.keep(h:RowG T c base w v l rs)(hsz:w.heap.size≤w'.heap.size)(hw:∀k,base≤k→k<w.heap.size→w'.heap[k]? =w.heap[k]?):RowG T c base w' v l rs:=
 ⟨ownsRow_keep h.own hw,h.len,fun x hx=>(h.rep x hx).keep hsz fun b o hb hlt=>World.cell?_of_block (hw b hb.1 hlt)⟩
theorem RowG.alloc(h:RowG T c base w v l rs)(o:Obj):RowG T c base (w.alloc o) v l rs:=h.keep (by simp) fun k _ hlt=>Below.heap_alloc w o k hlt
theorem RowG.grow(h:RowG T c base w v l rs)(bs:Array Obj)(d:Nat):RowG T c base (w.grow bs d) v l rs:=h.keep (by simp) fun k _ hlt=>World.heap_grow _ _ _ hlt
theorem RowG.drewN(h:RowG T c base w v l rs)(n:Nat):RowG T c base (w.drewN n) v l rs:=h.keep (Nat.le_refl _) fun _ _ _=>rfl
theorem RowG.setCell(h:RowG T c base w v l rs){a:Addr}(ha:a.block<base)(u:Value):RowG T c base (w.setCell a u) v l rs:=
 h.keep (by simp) fun k hk _=>Below.heap_setCell _ _ _ _ (by omega)
theorem RowG.lt(h:RowG T c base w v l rs):∀k,v.ownBlock=some k→base≤k∧k<w.heap.size:=h.own.lt
theorem RowG.form(h:RowG T c base w v l rs):∃a cap,v= .slice a l.length cap:=by
 exact sz54
theorem flatten_get(l:List (List Value))(c:Nat)(h:∀x∈l,x.length=c)(i j:Nat)(hj:j<c)(hi:i<l.length):l.flatten[i*c+j]? =(l.getD i [])[j]?:=by
 induction l generalizing i with
 |nil=>simp at hi
 |cons x r ih=>
  have hx:=h x (List.mem_cons_self)
  rw [List.flatten_cons]
  cases i with
  |zero=>rw [List.getElem?_append_left (by omega)];simp
  |succ i=>
   rw [List.getElem?_append_right (by rw [hx,Nat.add_mul];omega),List.getD_cons_succ,←ih (fun y hy=>h y (List.mem_cons_of_mem _ hy)) i (by simpa using hi)]
   congr 1;rw [hx,Nat.add_mul];omega
theorem RowG.cells(h:RowG T c base w v l rs):∃a cap,v= .slice a l.length cap∧(l.length=0∨∃g,a=some ⟨g,0,none⟩∧base≤g∧g<w.heap.size∧∀i j u,i<l.length→j<c→(l.getD i [])[j]? =some u→w.cell? ⟨g,i*c+j,none⟩=some u):=by
 rcases h.own.2 with ⟨rfl,h0⟩|⟨g,cap,cur,rfl,hb,hg,_⟩
 ·exact⟨none,0,by rw [h0],.inl h0⟩
 ·refine⟨_,cap,rfl,.inr ⟨g,rfl,hb,(Array.getElem?_eq_some_iff.1 hg).1,fun i j u hi hj hu=>?_⟩⟩
  have:=World.ownsRow.cells (g:=g) h.own rfl (i*c+j) u (by rw [flatten_get l c h.len i j hj hi];exact hu)
  rw [addr_add]at this;exact this
theorem RowG.push{news:List Value}{rs2:List (Ex × Value)}{m g cap H n:Nat}{xs:List Value}(h:RowG T c base w v l rs)(hr:∀x∈rs2,RepE (fun b=>m≤b) w x.1 x.2)(hm:base≤m)(hv:∀k,v.ownBlock=some k→k<m)
 (hc:news.length=c) (hn:n=l.length+1) (hxs:xs=l.flatten++news) (ho:w'.ownsRow base T c (.slice (some ⟨g,0,none⟩) n cap) n xs) (hg:w.grownBy w' v.ownBlock) (hat:v.ownBlock=some g∨g=H) (hH:w.heap.size=H) :
 RowG T c base w' (.slice (some ⟨g,0,none⟩) n cap) (l++[news]) (rs++rs2):=by
 subst hH hn hxs
 refine⟨by rw [List.length_append,List.flatten_append];simpa using ho,fun x hx=>?_,fun x hx=>?_⟩
 ·rw [List.mem_append]at hx
  rcases hx with hx|hx
  ·exact h.len x hx
  ·obtain rfl:x=news:=by simpa using hx
   exact hc
 ·have key:∀(e':Ex) (u:Value),RepE (fun b=>base≤b∧v.ownBlock≠some b) w e' u→RepE (fun b=>base≤b∧(Value.slice (some ⟨g,0,none⟩) (l.length+1) cap).ownBlock≠some b) w' e' u:=by
   exact sz17
  rw [List.mem_append]at hx
  rcases hx with hx|hx
  ·exact key _ _ (h.rep x hx)
  ·exact key _ _ ((hr x hx).mono fun b hb=>⟨by omega,fun e=>by have:=hv b e;omega⟩)
end

structure RawV where
 frm:Int
 mode:Int
 unit:Int
 credits:List Int
 series:List Int
 lets:List (List Int)
 ifs:List (List Int)
 pays:List (List Int)
 cuts:List (List Int)
 twist:Int
def RowsAt(w:World)(v:Value)(zss:List (List Int)):Prop:=
 zss.length≤140737488355328∧∃a cap,v= .slice a zss.length cap∧(zss.length=0∨∃b off,a=some ⟨b,off,none⟩∧b<w.heap.size∧∀i,i<zss.length→∃u,w.cell? ⟨b,off+i,none⟩=some u∧IntsAt w u (zss.getD i []))
def RawAt(w:World)(cs:List Value)(R:RawV):Prop:=
 I64 R.frm∧I64 R.mode∧I64 R.unit∧I64 R.twist∧∃vc vs vl vi vp vu,cs= [.int .i64 R.frm,.int .i64 R.mode,.int .i64 R.unit,vc,vs,vl,vi,vp,vu,.int .i64 R.twist]∧
  IntsAt w vc R.credits∧IntsAt w vs R.series∧RowsAt w vl R.lets∧RowsAt w vi R.ifs∧RowsAt w vp R.pays∧RowsAt w vu R.cuts
def letN(i:Nat):ByteArray:=⟨#[(112+i % 8).toUInt8,95,(48+i / 8).toUInt8]⟩
def letD(R:RawV)(i:Nat):Int:=1+((R.lets.getD i []).length % 4:Nat)
def envF(R:RawV)(k:Nat):List (ByteArray × Int):=(List.range k).map fun i=>(letN i,letD R i)
def nLet(R:RawV):Nat:=min R.lets.length 5
def letE(R:RawV)(i:Nat):Ex:=topF (R.lets.getD i []) (envF R i) (letD R i)
def payE(R:RawV)(i:Nat):Ex:=topF (R.pays.getD i []) (envF R (nLet R)) 4
def ifE(R:RawV)(i:Nat):Ex:=topF (R.ifs.getD i []) (envF R (nLet R)) 1
def cutE(R:RawV)(i:Nat):Ex:=topF (R.cuts.getD i []) (envF R (nLet R)) 2
theorem letN_size(i:Nat):(letN i).size=3:=rfl

structure RowX(T:TypeId)(c base:Nat)(X:Nat→Prop)(w:World)(v:Value)(l:List (List Value))(rs:List (Ex × Value)):Prop where
 own:w.ownsRow base T c v l.length l.flatten
 len:∀x∈l,x.length=c
 ownX:∀k,v.ownBlock=some k→X k
 rep:∀x∈rs,RepE (fun b=>(base≤b∧X b)∧v.ownBlock≠some b) w x.1 x.2
section
variable {T : TypeId} {c base : Nat} {X X' : Nat → Prop} {w w' : World} {v : Value} {l : List (List Value)} {rs : List (Ex × Value)}
theorem RowX.nil(T:TypeId)(c base:Nat)(X:Nat→Prop)(w:World):RowX T c base X w (.slice none 0 0) [] []:=⟨World.ownsRow_nil _ _ _ _,fun _ h=>by(cases h),fun _ h=>by(cases h),fun _ h=>by(cases h)⟩
theorem RowX.toG(h:RowX T c base X w v l rs):RowG T c base w v l rs:=⟨h.own,h.len,fun x hx=>(h.rep x hx).mono fun _ hb=>⟨hb.1.1,hb.2⟩⟩
theorem RowX.keep(h:RowX T c base X w v l rs)(hsz:w.heap.size≤w'.heap.size)(hw:∀k,base≤k→X k→k<w.heap.size→w'.heap[k]? =w.heap[k]?):RowX T c base X w' v l rs:=by
 refine⟨?_,h.len,h.ownX,fun x hx=>(h.rep x hx).keep hsz fun b o hb hlt=>World.cell?_of_block (hw b hb.1.1 hb.1.2 hlt)⟩
 obtain⟨h1,h2⟩:=h.own
 refine⟨h1, ?_⟩
 rcases h2 with h2|⟨g,cap,cur,rfl,hb,hg,r⟩
 ·exact .inl h2
 ·have hlt:g<w.heap.size:=(Array.getElem?_eq_some_iff.1 hg).1
  exact .inr ⟨g,cap,cur,rfl,hb,by rw [hw g hb (h.ownX g rfl) hlt];exact hg,r⟩
theorem RowX.alloc(h:RowX T c base X w v l rs)(o:Obj):RowX T c base X (w.alloc o) v l rs:=h.keep (by simp) fun k _ _ hlt=>Below.heap_alloc w o k hlt
theorem RowX.grow(h:RowX T c base X w v l rs)(bs:Array Obj)(d:Nat):RowX T c base X (w.grow bs d) v l rs:=h.keep (by simp) fun k _ _ hlt=>World.heap_grow _ _ _ hlt
theorem RowX.drew(h:RowX T c base X w v l rs):RowX T c base X w.drew v l rs:=h.keep (Nat.le_refl _) fun _ _ _ _=>rfl
theorem RowX.setCell(h:RowX T c base X w v l rs){a:Addr}(ha:a.block<base)(u:Value):RowX T c base X (w.setCell a u) v l rs:=
 h.keep (by simp) fun k hk _ _=>Below.heap_setCell _ _ _ _ (by omega)
theorem RowX.grown{row:Option Nat}(h:RowX T c base X w v l rs)(hg:w.grownBy w' row)(hr:∀b,X b→some b≠row):RowX T c base X w' v l rs:=
 h.keep hg.size fun k _ hX hlt=>hg.block k hlt (hr k hX)
theorem RowX.mono(h:RowX T c base X w v l rs)(hX:∀b,X b→b<w.heap.size→X' b):RowX T c base X' w v l rs:=
 ⟨h.own,h.len,fun k hk=>hX k (h.ownX k hk) (h.own.lt k hk).2,fun x hx=>(h.rep x hx).mono' fun b hb hlt=>⟨⟨hb.1.1,hX b hb.1.2 hlt⟩,hb.2⟩⟩
theorem RowX.form(h:RowX T c base X w v l rs):∃a cap,v= .slice a l.length cap:=h.toG.form
theorem RowX.lt(h:RowX T c base X w v l rs):∀k,v.ownBlock=some k→base≤k∧k<w.heap.size:=h.own.lt
theorem RowX.push{news:List Value}{rs2:List (Ex × Value)}{m g cap H n:Nat}{xs:List Value}(h:RowX T c base X w v l rs)(hr:∀x∈rs2,RepE (fun b=>m≤b) w x.1 x.2)(hm:base≤m)(hXm:∀b,m≤b→X b)(hv:∀k,v.ownBlock=some k→k<m)
 (hc:news.length=c) (hn:n=l.length+1) (hxs:xs=l.flatten++news) (ho:w'.ownsRow base T c (.slice (some ⟨g,0,none⟩) n cap) n xs) (hg:w.grownBy w' v.ownBlock) (hat:v.ownBlock=some g∨g=H) (hH:w.heap.size=H) (hmH:m≤H) :
 RowX T c base X w' (.slice (some ⟨g,0,none⟩) n cap) (l++[news]) (rs++rs2):=by
 subst hH hn hxs
 refine⟨by rw [List.length_append,List.flatten_append];simpa using ho,fun x hx=>?_,fun k hk=>?_,fun x hx=>?_⟩
 ·rw [List.mem_append]at hx
  rcases hx with hx|hx
  ·exact h.len x hx
  ·obtain rfl:x=news:=by simpa using hx
   exact hc
 ·obtain rfl:g=k:=by simpa [Value.ownBlock]using hk
  rcases hat with hat|hat
  ·exact h.ownX _ hat
  ·exact hXm _ (by omega)
 ·have key:∀(e':Ex) (u:Value),RepE (fun b=>(base≤b∧X b)∧v.ownBlock≠some b) w e' u→RepE (fun b=>(base≤b∧X b)∧(Value.slice (some ⟨g,0,none⟩) (l.length+1) cap).ownBlock≠some b) w' e' u:=by
   intro e' u hu
   refine(hu.mono' (S':=fun b=>((base≤b∧X b)∧v.ownBlock≠some b)∧g≠b) ?_|>.keep hg.size ?_).mono ?_
   ·rintro b ⟨h1,h2⟩ hlt
    refine⟨⟨h1,h2⟩, ?_⟩
    rcases hat with hat|hat
    ·intro e;exact h2 (by rw [hat,e])
    ·omega
   ·rintro b o ⟨⟨_,h2⟩,_⟩ hlt
    exact World.cell?_of_block (hg.block b hlt (Ne.symm h2))
   ·rintro b ⟨⟨h1,_⟩,h3⟩
    exact⟨h1,by simpa [Value.ownBlock]using h3⟩
  rw [List.mem_append]at hx
  rcases hx with hx|hx
  ·exact key _ _ (h.rep x hx)
  ·exact key _ _ ((hr x hx).mono fun b hb=>⟨⟨by omega,hXm b hb⟩,fun e=>by have:=hv b e;omega⟩)
end
def LetQ(R:RawV)(k:Nat)(q:List (ByteArray × (Ex × Value))):Prop:=q.map (fun t=>(t.1,t.2.1))=(List.range k).map fun i=>(letN i,letE R i)
theorem LetQ.nil(R:RawV):LetQ R 0 []:=rfl
theorem LetQ.length{R:RawV}{k:Nat}{q:List (ByteArray × (Ex × Value))}(h:LetQ R k q):q.length=k:=by
 have:=congrArg List.length h
 simpa using this
theorem LetQ.push{R:RawV}{k:Nat}{q:List (ByteArray × (Ex × Value))}(h:LetQ R k q)(v:Value):LetQ R (k+1) (q++[(letN k,(letE R k,v))]):=by
 unfold LetQ at *
 exact sz56
def envL(env:List (ByteArray × Int)):List (List Value):=env.map fun b=>[.string b.1,.int .i64 b.2]
theorem EnvAt.of_row{w:World}{base T:Nat}{v:Value}{env:List (ByteArray × Int)}(h:RowG T 2 base w v (envL env) [])(hl:env.length≤1000)(hs:∀x∈env,x.1.size≤140737488355328):EnvAt w w.heap.size v env:=by
 obtain⟨a,cap,hv,hc⟩:=h.cells
 have hlen:(envL env).length=env.length:=by simp [envL]
 rw [hlen]at hv hc
 refine⟨hl,hs,a,cap,hv,hc.imp id ?_⟩
 rintro⟨g,ha,hb,hlt,hx⟩
 refine⟨g,0,ha,hlt,by omega,fun i hi=>?_⟩
 have hget:(envL env).getD i []= [.string (env.getD i noBind).1,.int .i64 (env.getD i noBind).2]:=by
  simp only [envL,List.getD_eq_getElem?_getD,List.getElem?_map,List.getElem?_eq_getElem hi];rfl
 refine⟨?_, ?_⟩
 ·have:=hx i 0 (.string (env.getD i noBind).1) hi (by omega) (by rw [hget];rfl)
  rw [show 0+i*2=i*2+0 by omega];exact this
 ·have:=hx i 1 (.int .i64 (env.getD i noBind).2) hi (by omega) (by rw [hget];rfl)
  rw [show 0+i*2+1=i*2+1 by omega];exact this
theorem ListAt.of_ints{w W:World}{u:Value}{zs:List Int}(h:IntsAt w u zs)(hb:Below w.heap.size w W):ListAt W W.heap.size u zs:=by
 obtain⟨h0,_,a,cap,hv,h1⟩:=h
 refine⟨h0,a,cap,hv,h1.imp id ?_⟩
 rintro⟨b,off,ha,hlt,hc⟩
 have:=hb.size
 exact⟨b,off,ha,by omega,by omega,fun i hi=>by rw [hb.cell (by exact hlt)];exact hc i hi⟩
theorem IntsAt.form{w:World}{u:Value}{zs:List Int}(h:IntsAt w u zs):∃a cap,u= .slice a zs.length cap:=by
 obtain⟨_,_,a,cap,hv,_⟩:=h
 exact⟨a,cap,hv⟩
structure OfAt(w:World)(cs:Array Value)(g:Nat)(os:Array Value)(wr:World):Prop where
 bel:Below w.heap.size w wr
 box:wr.heap[w.heap.size]? =some (.cells cs 49 (0,0))
 res:wr.heap[w.heap.size+1]? =some (.cells #[.int .i64 0,.int .i64 0,.int .i64 0,.slice none 0 0,.slice none 0 0,.slice none 0 0,.slice none 0 0,.slice none 0 0] 82 (0,0))
 out:wr.heap[g]? =some (.cells os 82 (0,0))
 gge:w.heap.size+2≤g
section
variable {w wr w1 : World} {cs os : Array Value} {g : Nat}
theorem OfAt.lt(h:OfAt w cs g os wr):g<wr.heap.size:=(Array.getElem?_eq_some_iff.1 h.out).1
theorem OfAt.lt0(h:OfAt w cs g os wr):w.heap.size+1<wr.heap.size:=(Array.getElem?_eq_some_iff.1 h.res).1
theorem OfAt.of_blocks(h:OfAt w cs g os wr)(hb:Below w.heap.size w w1)(h1:∀k,k=w.heap.size∨k=w.heap.size+1∨k=g→w1.heap[k]? =wr.heap[k]?):OfAt w cs g os w1:=
 ⟨hb,by rw [h1 _ (.inl rfl)];exact h.box,by rw [h1 _ (.inr (.inl rfl))];exact h.res,by rw [h1 _ (.inr (.inr rfl))];exact h.out,h.gge⟩
theorem OfAt.kept(h:OfAt w cs g os wr)(hb:Below w.heap.size w w1)(h1:∀k,k<wr.heap.size→k=w.heap.size∨k=w.heap.size+1∨k=g→w1.heap[k]? =wr.heap[k]?):OfAt w cs g os w1:=by
 have a:=h.lt
 have b:=h.lt0
 refine h.of_blocks hb fun k hk=>h1 k ?_ hk
 rcases hk with rfl|rfl|rfl<;>omega
theorem OfAt.alloc(h:OfAt w cs g os wr)(o:Obj):OfAt w cs g os (wr.alloc o):=
 h.kept (h.bel.alloc h.bel.size o) fun k hk _=>Below.heap_alloc wr o k hk
theorem OfAt.grow(h:OfAt w cs g os wr)(bs:Array Obj)(d:Nat):OfAt w cs g os (wr.grow bs d):=
 h.kept (h.bel.grow h.bel.size bs d) fun k hk _=>World.heap_grow _ _ _ hk
theorem OfAt.drewN(h:OfAt w cs g os wr)(n:Nat):OfAt w cs g os (wr.drewN n):=h.kept (h.bel.drewN n) fun _ _ _=>rfl
theorem OfAt.grown{row:Option Nat}(h:OfAt w cs g os wr)(hg:wr.grownBy w1 row)(hr:∀k,row=some k→g<k∧w.heap.size+2≤k):OfAt w cs g os w1:=
 h.kept (h.bel.grown hg h.bel.size fun k hk=>by have:=hr k hk;omega) fun k hk hk2=>hg.block k hk fun e=>by
  have:=hr k e.symm
  have:=h.gge
  rcases hk2 with rfl|rfl|rfl<;>omega
theorem OfAt.store(h:OfAt w cs g os wr)(i:Nat)(v:Value):OfAt w cs g (os.setIfInBounds i v) (wr.setCell ⟨g,i,none⟩ v):=
 ⟨h.bel.setCell (by have:=h.gge;show w.heap.size≤g;omega) v,by rw [Below.heap_setCell _ _ _ _ (by have:=h.gge;show w.heap.size≠g;omega)];exact h.box,by rw [Below.heap_setCell _ _ _ _ (by have:=h.gge;show w.heap.size+1≠g;omega)];exact h.res,Joins.block_setCell h.out v,h.gge⟩
end
section
variable {g : Nat} {a b c : World}
theorem RowG.next{T:TypeId}{n base:Nat}{v:Value}{l:List (List Value)}{rs:List (Ex × Value)}(h:RowG T n base a v l rs)(hn:Next g a b)(hb:g<base):RowG T n base b v l rs:=
 h.keep hn.size fun k hk hlt=>hn.blk k hlt (by omega)
end
theorem OfAt.drew{w wr:World}{cs os:Array Value}{g:Nat}(h:OfAt w cs g os wr):OfAt w cs g os wr.drew:=h.kept h.bel.drew fun _ _ _=>rfl
theorem RowG.drew{T:TypeId}{c base:Nat}{w:World}{v:Value}{l:List (List Value)}{rs:List (Ex × Value)}(h:RowG T c base w v l rs):RowG T c base w.drew v l rs:=h.keep (Nat.le_refl _) fun _ _ _=>rfl
theorem RowX.next{g T n base:Nat}{X:Nat→Prop}{a b:World}{v:Value}{l:List (List Value)}{rs:List (Ex × Value)}(h:RowX T n base X a v l rs)(hn:Next g a b)(hb:g<base):RowX T n base X b v l rs:=
 h.keep hn.size fun k hk _ hlt=>hn.blk k hlt (by omega)
end Go.Proofs.YtblkcgceefjmjaaGreatDoor
namespace Go.Proofs.YtblkcgceefjmjaaGreatDoor
def fdig(d:Int):Nat→Int→Option (List Int)
 |0,r=>if r≤0 then some []else none
 |f+1,r=>if r≤0 then some []else(fdig d f (r*10 % d)).map fun l=>r*10 / d::l
def partD:List Int→Int
 | []=>0
 |x::r=>x*10 ^ r.length+partD r
theorem fdig_some{d:Int}(hd:1≤d):∀(f:Nat) (r:Int) (l:List Int),0≤r→fdig d f r=some l→partD l*d=r*10 ^ l.length∧l.length≤f
 |0,r,l,h0,h=>by
  unfold fdig at h
  split at h<;>cases h
  have:r=0:=by omega
  subst this;simp [partD]
 |f+1,r,l,h0,h=>by
  unfold fdig at h
  split at h<;>rename_i hc
  ·cases h
   have:r=0:=by omega
   subst this;simp [partD]
  ·obtain⟨q,hq,rfl⟩:=Option.map_eq_some_iff.1 h
   obtain⟨h1,h2⟩:=fdig_some hd f _ q (Int.emod_nonneg _ (by omega)) hq
   refine⟨?_,by simpa using h2⟩
   have e:=Int.mul_ediv_add_emod (r*10) d
   simp only [partD,List.length_cons]
   rw [Int.add_mul,h1,Int.pow_succ]
   generalize(10:Int) ^ q.length=t at *
   have e2:r*(t*10)=(d*(r*10 / d)+r*10 % d)*t:=by rw [e,Int.mul_comm t 10,Int.mul_assoc]
   rw [e2,Int.add_mul,Int.mul_comm d,Int.mul_right_comm]
theorem fdig_none{d:Int}(hd:1≤d):∀(f:Nat) (r:Int),0≤r→r<d→fdig d f r=none→r*10 ^ f % d≠0
 |0,r,h0,h1,h=>by
  unfold fdig at h
  split at h
  ·cases h
  ·rw [Int.pow_zero,Int.mul_one,Int.emod_eq_of_lt h0 h1];omega
 |f+1,r,h0,h1,h=>by
  unfold fdig at h
  split at h
  ·cases h
  ·have h2:=fdig_none hd f (r*10 % d) (Int.emod_nonneg _ (by omega)) (Int.emod_lt_of_pos _ (by omega)) (by simpa using h)
   intro hc
   apply h2
   rw [Int.pow_succ,Int.mul_comm ((10:Int) ^ f),←Int.mul_assoc]at hc
   rw [Int.mul_emod,Int.emod_emod,←Int.mul_emod]
   exact hc
def redP(p:Int):Nat→Int→Int→Int × Int
 |0,a,b=>(a,b)
 |f+1,a,b=>if a % p=0∧b % p=0 then redP p f (a / p) (b / p)else(a,b)
theorem redP_spec{p:Int}(hp:2≤p):∀(f:Nat) (a b:Int),1≤b→b<p ^ f→
 (redP p f a b).1*b=a*(redP p f a b).2∧¬((redP p f a b).1 % p=0∧(redP p f a b).2 % p=0)∧(redP p f a b).2 ∣ b∧1≤(redP p f a b).2∧
 ∀q:Int,¬(a % q=0∧b % q=0)→¬((redP p f a b).1 % q=0∧(redP p f a b).2 % q=0)
 |0,a,b,h1,h2=>by simp at h2;omega
 |f+1,a,b,h1,h2=>by
  unfold redP
  split<;>rename_i hc
  ·obtain⟨a',ha⟩:=Int.dvd_of_emod_eq_zero hc.1
   obtain⟨b',hb⟩:=Int.dvd_of_emod_eq_zero hc.2
   subst ha hb
   rw [Int.mul_ediv_cancel_left _ (by omega),Int.mul_ediv_cancel_left _ (by omega)]
   have hb1:1≤b':=by
    rcases Int.lt_or_le b' 1 with h|h
    ·have:p*b'≤p*0:=Int.mul_le_mul_of_nonneg_left (by omega) (by omega)
     omega
    ·exact h
   have hb2:b'<p ^ f:=by
    rw [Int.pow_succ,Int.mul_comm _ p]at h2
    exact Int.lt_of_mul_lt_mul_left h2 (by omega)
   obtain⟨e1,e2,e3,e4,e5⟩:=redP_spec hp f a' b' hb1 hb2
   refine⟨?_,e2,Int.dvd_trans e3 (Int.dvd_mul_left p b'),e4,fun q hq=>e5 q fun hc=>hq ?_⟩
   ·rw [Int.mul_left_comm,e1,Int.mul_assoc]
   ·exact⟨Int.emod_eq_zero_of_dvd (Int.dvd_trans (Int.dvd_of_emod_eq_zero hc.1) (Int.dvd_mul_left p a')),Int.emod_eq_zero_of_dvd (Int.dvd_trans (Int.dvd_of_emod_eq_zero hc.2) (Int.dvd_mul_left p b'))⟩
  ·exact⟨rfl,hc,Int.dvd_refl b,h1,fun q hq=>hq⟩
def redD(a b:Int):Int × Int:=redP 5 6 (redP 2 14 a b).1 (redP 2 14 a b).2
theorem two_five{g:Nat}{k:Nat}(h:g ∣ 10 ^ k)(h2:¬2 ∣ g)(h5:¬5 ∣ g):g=1:=by
 have c2:Nat.Coprime g 2:=by
  have hd:Nat.gcd g 2 ∣ 2:=Nat.gcd_dvd_right _ _
  have hg:Nat.gcd g 2 ∣ g:=Nat.gcd_dvd_left _ _
  have hle:=Nat.le_of_dvd (by omega) hd
  have:Nat.gcd g 2≠2:=fun e=>h2 (e ▸ hg)
  have h0:Nat.gcd g 2≠0:=fun e=>by rw [e]at hd;omega
  show Nat.gcd g 2=1
  omega
 have c5:Nat.Coprime g 5:=by
  have hd:Nat.gcd g 5 ∣ 5:=Nat.gcd_dvd_right _ _
  have hg:Nat.gcd g 5 ∣ g:=Nat.gcd_dvd_left _ _
  have hle:=Nat.le_of_dvd (by omega) hd
  have:Nat.gcd g 5≠5:=fun e=>h5 (e ▸ hg)
  show Nat.gcd g 5=1
  generalize Nat.gcd g 5=x at *
  obtain rfl|rfl|rfl|rfl|rfl:x=0∨x=1∨x=2∨x=3∨x=4:=by omega
  all_goals first|rfl|(exfalso;revert hd;decide)
 have c10:Nat.Coprime g (10 ^ k):=Nat.Coprime.pow_right k (show Nat.Coprime g (2*5)from Nat.Coprime.mul_right c2 c5)
 exact Nat.Coprime.eq_one_of_dvd c10 h
theorem redD_spec{a:Int}{k:Nat}(hk:k≤4):(redD a (10 ^ k)).1*10 ^ k=a*(redD a (10 ^ k)).2∧(redD a (10 ^ k)).2 ∣ 10 ^ k∧1≤(redD a (10 ^ k)).2∧Nat.Coprime (redD a (10 ^ k)).1.natAbs (redD a (10 ^ k)).2.natAbs:=by
 have hb:(1:Int)≤10 ^ k∧(10:Int) ^ k≤10000:=by
  obtain rfl|rfl|rfl|rfl|rfl:k=0∨k=1∨k=2∨k=3∨k=4:=by omega
  all_goals decide
 obtain⟨e1,e2,e3,e4,e5⟩:=redP_spec (p:=2) (by omega) 14 a (10 ^ k) hb.1 (by rw [show(2:Int) ^ 14=16384 by decide];omega)
 have hle:=Int.le_of_dvd (by omega) e3
 unfold redD
 obtain⟨f1,f2,f3,f4,f5⟩:=redP_spec (p:=5) (by omega) 6 (redP 2 14 a (10 ^ k)).1 (redP 2 14 a (10 ^ k)).2 e4 (by rw [show(5:Int) ^ 6=15625 by decide];omega)
 have f6:=f5 2 e2
 generalize redP 5 6 (redP 2 14 a (10 ^ k)).1 (redP 2 14 a (10 ^ k)).2=z at *
 generalize redP 2 14 a (10 ^ k)=y at *
 have hdv:z.2 ∣ 10 ^ k:=Int.dvd_trans f3 e3
 refine⟨?_,hdv,f4, ?_⟩
 ·have h:z.1*10 ^ k*y.2=a*z.2*y.2:=by
   rw [Int.mul_right_comm,f1,Int.mul_right_comm,e1,Int.mul_right_comm]
  exact Int.eq_of_mul_eq_mul_right (by omega) h
 ·have hg:Nat.gcd z.1.natAbs z.2.natAbs ∣ 10 ^ k:=by
   have h1:z.2.natAbs ∣ 10 ^ k:=by
    have:=Int.natAbs_dvd_natAbs.2 hdv
    rwa [Int.natAbs_pow]at this
   exact Nat.dvd_trans (Nat.gcd_dvd_right _ _) h1
  refine two_five hg (fun h=>f6 ?_) (fun h=>f2 ?_)
  ·exact sz29
  ·exact sz29
theorem cop_eq{an ad bn bd:Int}(h1:1≤ad)(h2:1≤bd)(p:Nat.Coprime an.natAbs ad.natAbs)(q:Nat.Coprime bn.natAbs bd.natAbs)(h:an*bd=bn*ad):an=bn∧ad=bd:=by
 exact sz13
def dec2Ok(n d m:Int):Bool:=
 match fdig d 4 (n % d)with
 |none=>false
 |some l=>decide (n / d≤999999999)&&(decide ((redD (n / d*10 ^ l.length+partD l) (10 ^ l.length)).1=n∧(redD (n / d*10 ^ l.length+partD l) (10 ^ l.length)).2=d)&&decide (2≤m∧m≤4))
theorem dec_law{n d m:Int}(h1:1≤d)(h2:d≤10000)(h3:0≤n)(h4:n≤1000000000000000):dec2Ok n d m=decOk n d m:=by
 have hr0:=Int.emod_nonneg n (show d≠0 by omega)
 have hr1:=Int.emod_lt_of_pos n (show 0<d by omega)
 have hq:=Int.mul_ediv_add_emod n d
 unfold dec2Ok
 cases hf:fdig d 4 (n % d)with
 |none=>
  have:=fdig_none h1 4 _ hr0 hr1 hf
  show false=_
  symm
  rw [Bool.eq_false_iff]
  intro hc
  simp only [decOk,Bool.and_eq_true,decide_eq_true_eq]at hc
  apply this
  have h5:(10000:Int) % d=0:=hc.1.1.1.2
  obtain⟨c,hc⟩:=Int.dvd_of_emod_eq_zero h5
  rw [show(10:Int) ^ 4=10000 by decide,hc,Int.mul_left_comm]
  exact Int.mul_emod_right d _
 |some l=>
  obtain⟨hp,hl⟩:=fdig_some h1 4 _ l hr0 hf
  obtain⟨e1,e2,e3,e4⟩:=redD_spec (a:=n / d*10 ^ l.length+partD l) hl
  have hA:(n / d*10 ^ l.length+partD l)*d=n*10 ^ l.length:=by
   rw [Int.add_mul,hp]
   conv=>rhs;rw [←hq]
   rw [Int.add_mul,Int.mul_comm d,Int.mul_right_comm]
  show(decide (n / d≤999999999)&&_)=_
  generalize redD (n / d*10 ^ l.length+partD l) (10 ^ l.length)=z at *
  rw [Bool.eq_iff_iff]
  simp only [decOk,Bool.and_eq_true,decide_eq_true_eq]
  constructor
  ·rintro⟨a,⟨rfl,rfl⟩,b,c⟩
   refine⟨⟨⟨⟨⟨vfrac_of ⟨by omega,by omega,by omega,by omega⟩ e4,h3⟩, ?_⟩,b⟩,c⟩,a⟩
   refine Int.emod_eq_zero_of_dvd (Int.dvd_trans e2 ?_)
   obtain h|h|h|h|h:l.length=0∨l.length=1∨l.length=2∨l.length=3∨l.length=4:=by omega
   all_goals rw [h];decide
  ·rintro⟨⟨⟨⟨⟨a,-⟩,-⟩,b⟩,c⟩,e⟩
   refine⟨e, ?_,b,c⟩
   have hB:(1:Int)≤10 ^ l.length:=Int.pow_pos (by omega)
   have hx:z.1*d=n*z.2:=by
    have:z.1*d*10 ^ l.length=n*z.2*10 ^ l.length:=by
     rw [Int.mul_right_comm,e1,Int.mul_right_comm,hA,Int.mul_right_comm]
    exact Int.eq_of_mul_eq_mul_right (by omega) this
   exact cop_eq e3 h1 e4 (vfrac_gcd a) hx
theorem decOk_out{n d m:Int}(h:d<1∨10000<d∨n<0∨1000000000000000<n):decOk n d m=false:=by
 rw [Bool.eq_false_iff]
 intro hc
 simp only [decOk,Bool.and_eq_true,decide_eq_true_eq]at hc
 have:=vfrac_bd hc.1.1.1.1.1
 have h5:=Int.le_of_dvd (by omega) (Int.dvd_of_emod_eq_zero hc.1.1.1.2)
 omega
theorem idx_dot:∀(a b:List UInt8),(46:UInt8)∉a→Lib.index (a++46::b) [46]=a.length
 | [],b,_=>by simp [Lib.index,List.isPrefixOf]
 |c::a,b,h=>by
  have h1:(46:UInt8)≠c:=fun e=>h (by simp [e])
  have ih:=idx_dot a b (fun e=>h (by simp [e]))
  simp only [List.cons_append,Lib.index,List.isPrefixOf,ih]
  have h2:((46:UInt8)==c)=false:=by simpa using h1
  rw [h2]
  simp
theorem idx_no:∀(a:List UInt8),(46:UInt8)∉a→Lib.index a [46]= -1
 | [],_=>by simp [Lib.index]
 |c::a,h=>by
  have h1:(46:UInt8)≠c:=fun e=>h (by simp [e])
  have ih:=idx_no a (fun e=>h (by simp [e]))
  simp only [Lib.index,List.isPrefixOf,ih]
  have h2:((46:UInt8)==c)=false:=by simpa using h1
  rw [h2]
  simp
theorem cut_dot(a b:List UInt8)(h:(46:UInt8)∉a):Lib.cut (a++46::b) [46]=(a,b,true):=by
 unfold Lib.cut
 rw [idx_dot a b h,if_pos (by omega)]
 simp
theorem cut_no(a:List UInt8)(h:(46:UInt8)∉a):Lib.cut a [46]=(a,[],false):=by
 unfold Lib.cut
 rw [idx_no a h,if_neg (by omega)]
def natG:Int→List UInt8→Option Int
 |x,[]=>some x
 |x,c::r=>if digc (c.toNat:Int)=true then natG (10*x+((c.toNat:Int)-48)) r else none
theorem natG_append:∀(a b:List UInt8) (x:Int),natG x (a++b)=(natG x a).bind fun y=>natG y b
 | [],b,x=>rfl
 |c::a,b,x=>by
  simp only [List.cons_append,natG]
  split
  ·exact natG_append a b _
  ·rfl
def dgB(x:Int):UInt8:=UInt8.ofNat (48+x.toNat)
theorem dgB_toNat{x:Int}(h0:0≤x)(h1:x≤9):((dgB x).toNat:Int)=48+x:=by
 unfold dgB
 rw [UInt8.toNat_ofNat']
 omega
theorem natG_one(x y:Int)(h0:0≤y)(h1:y≤9):natG x [dgB y]=some (10*x+y):=by
 have e:=dgB_toNat h0 h1
 simp only [natG]
 rw [e,if_pos (by simp [digc];omega)]
 congr 1
 omega
theorem natG_digs:∀(l:List Int) (x:Int),(∀y∈l,0≤y∧y≤9)→natG x (l.map dgB)=some (x*10 ^ l.length+partD l)
 | [],x,_=>by simp [natG,partD]
 |y::l,x,h=>by
  have hy:=h y (by simp)
  have ih:=natG_digs l (10*x+y) (fun z hz=>h z (by simp [hz]))
  have e:=natG_append [dgB y] (l.map dgB) x
  rw [natG_one x y hy.1 hy.2]at e
  simp only [List.map_cons]
  rw [show dgB y::l.map dgB= [dgB y]++l.map dgB from rfl,e]
  simp only [Option.bind_some]
  rw [ih]
  congr 1
  simp only [List.length_cons,partD,Int.pow_succ]
  rw [Int.add_mul,Int.mul_comm 10 x,Int.mul_assoc,Int.mul_comm 10]
  omega
theorem natG_dec(u:Nat):∀x:Int,natG x (Lib.decDigits u)=some (x*10 ^ Lib.nDigits u+u):=by
 induction u using Nat.strongRecOn with
 |_ u ih=>
  intro x
  rw [Lib.decDigits]
  by_cases h:u<10
  ·rw [dif_pos h,Lib.nDigits_small h]
   have:=natG_one x u (by omega) (by omega)
   unfold dgB at this
   rw [Int.toNat_natCast]at this
   rw [this]
   congr 1
   omega
  ·rw [dif_neg h,natG_append,ih (u / 10) (by omega),Lib.nDigits_big h]
   simp only [Option.bind_some]
   have:=natG_one (x*10 ^ Lib.nDigits (u / 10)+(u / 10:Nat)) ((u % 10:Nat):Int) (by omega) (by omega)
   unfold dgB at this
   rw [Int.toNat_natCast]at this
   rw [this]
   congr 1
   rw [Int.pow_succ,Int.mul_add,←Int.mul_assoc,Int.mul_comm 10 x,Int.mul_assoc,Int.mul_comm 10 (10 ^ _)]
   omega
theorem dec_digs(u:Nat):∀c∈Lib.decDigits u,48≤c.toNat∧c.toNat≤57:=by
 induction u using Nat.strongRecOn with
 |_ u ih=>
  intro c hc
  rw [Lib.decDigits]at hc
  by_cases h:u<10
  ·rw [dif_pos h]at hc
   simp only [List.mem_singleton]at hc
   subst hc
   rw [UInt8.toNat_ofNat']
   omega
  ·rw [dif_neg h]at hc
   rcases List.mem_append.1 hc with hc|hc
   ·exact ih (u / 10) (by omega) c hc
   ·simp only [List.mem_singleton]at hc
    subst hc
    rw [UInt8.toNat_ofNat']
    omega
theorem dec_head(u:Nat)(h:1≤u):∃c r,Lib.decDigits u=c::r∧c.toNat≠48:=by
 induction u using Nat.strongRecOn with
 |_ u ih=>
  rw [Lib.decDigits]
  by_cases h2:u<10
  ·rw [dif_pos h2]
   exact⟨_,_,rfl,by rw [UInt8.toNat_ofNat'];omega⟩
  ·rw [dif_neg h2]
   obtain⟨c,r,e,hc⟩:=ih (u / 10) (by omega) (by omega)
   rw [e]
   exact⟨c,_,rfl,hc⟩
def stripM(s:List UInt8):List UInt8 × Int:=if s.getLast? =some 100 then(s.dropLast,3)else if s.getLast? =some 109 then(s.dropLast,4)else(s,2)
def decForm(a b:List UInt8)(pt:Bool):Bool:=decide (1≤a.length)&&decide (a.length≤9)&&!(decide (1<a.length)&&decide (a.head? =some 48))&&!(pt&&(decide (b.length<1) || decide (4<b.length)))
def decP(a b:List UInt8)(pt:Bool)(m:Int):Option (Int × Int × Int):=
 if decForm a b pt=true then(natG 0 a).bind fun x=>(natG 0 b).map fun p=>((redD (x*10 ^ b.length+p) (10 ^ b.length)).1,(redD (x*10 ^ b.length+p) (10 ^ b.length)).2,m)else none
def decF(s:List UInt8):Option (Int × Int × Int):=decP (Lib.cut (stripM s).1 [46]).1 (Lib.cut (stripM s).1 [46]).2.1 (Lib.cut (stripM s).1 [46]).2.2 (stripM s).2
def dotL(l:List Int):List UInt8:=if l= []then []else 46::l.map dgB
def sufL(m:Int):List UInt8:=if m=3 then [100]else if m=4 then [109]else []
def sufM(m:Int):Int:=if m=3 then 3 else if m=4 then 4 else 2
theorem getLast_digs{s:List UInt8}(h0:s≠[])(h:∀c∈s,48≤c.toNat∧c.toNat≤57∨c=46):s.getLast?≠some 100∧s.getLast?≠some 109:=by
 have e:=List.getLast?_eq_some_getLast h0
 have hc:=h _ (List.getLast_mem h0)
 rw [e]
 constructor
 ·exact sz53
 ·exact sz53
theorem strip_suf{s:List UInt8}(h0:s≠[])(h:∀c∈s,48≤c.toNat∧c.toNat≤57∨c=46)(m:Int):stripM (s++sufL m)=(s,sufM m):=by
 obtain⟨h1,h2⟩:=getLast_digs h0 h
 unfold stripM sufL sufM
 by_cases c3:m=3
 ·subst c3
  rw [if_pos rfl,if_pos rfl]
  simp
 ·by_cases c4:m=4
  ·subst c4
   simp
  ·rw [if_neg c3,if_neg c4,if_neg c3,if_neg c4,List.append_nil,if_neg h1,if_neg h2]
theorem dgB_rng{x:Int}(h0:0≤x)(h1:x≤9):48≤(dgB x).toNat∧(dgB x).toNat≤57:=by have:=dgB_toNat h0 h1;omega
theorem body_chars{q:Nat}{l:List Int}(hl:∀y∈l,0≤y∧y≤9):∀c∈Lib.decDigits q++dotL l,48≤c.toNat∧c.toNat≤57∨c=46:=by
 intro c hc
 rcases List.mem_append.1 hc with hc|hc
 ·exact .inl (dec_digs q c hc)
 ·unfold dotL at hc
  split at hc
  ·cases hc
  ·rcases List.mem_cons.1 hc with hc|hc
   ·exact .inr hc
   ·obtain⟨y,hy,rfl⟩:=List.mem_map.1 hc
    have:=hl y hy
    exact .inl (dgB_rng this.1 this.2)
theorem nDigits_nine(q:Nat):Lib.nDigits q≤9↔q≤999999999:=by
 constructor
 ·intro h
  have h1:=Lib.lt_pow_nDigits q
  have h2:10 ^ Lib.nDigits q≤10 ^ 9:=Nat.pow_le_pow_right (by omega) h
  have h3:(10:Nat) ^ 9=1000000000:=by decide
  omega
 ·intro h
  by_cases h9:Lib.nDigits q≤9
  ·exact h9
  ·exfalso
   obtain⟨k,hk⟩:∃k,Lib.nDigits q=k+1:=⟨Lib.nDigits q-1,by have:=Lib.nDigits_pos q;omega⟩
   have hlow:∀(u:Nat) (k:Nat),Lib.nDigits u=k+2→10 ^ (k+1)≤u:=by
    intro u
    induction u using Nat.strongRecOn with
    |_ u ih=>
     intro k hk
     by_cases hs:u<10
     ·rw [Lib.nDigits_small hs]at hk;omega
     ·rw [Lib.nDigits_big hs]at hk
      cases k with
      |zero=>omega
      |succ k=>
       have:=ih (u / 10) (by omega) k (by omega)
       rw [Nat.pow_succ];omega
   have:=hlow q (Lib.nDigits q-2) (by omega)
   have h2:10 ^ 9≤10 ^ (Lib.nDigits q-2+1):=Nat.pow_le_pow_right (by omega) (by omega)
   have h3:(10:Nat) ^ 9=1000000000:=by decide
   omega
theorem dec_no_dot(q:Nat):(46:UInt8)∉Lib.decDigits q:=fun h=>by
 have:=dec_digs q _ h
 revert this;decide
theorem cut_body(q:Nat)(l:List Int):Lib.cut (Lib.decDigits q++dotL l) [46]=(Lib.decDigits q,l.map dgB,decide (l≠[])):=by
 unfold dotL
 by_cases h:l= []
 ·subst h
  rw [if_pos rfl,List.append_nil,cut_no _ (dec_no_dot q)]
  simp
 ·rw [if_neg h,cut_dot _ _ (dec_no_dot q)]
  simp [h]
theorem form_body(q:Nat)(l:List Int)(hn:l.length≤4):decForm (Lib.decDigits q) (l.map dgB) (decide (l≠[]))=decide (q≤999999999):=by
 unfold decForm
 rw [Lib.decDigits_length]
 have h1:=Lib.nDigits_pos q
 have h9:=nDigits_nine q
 have e3:(decide (1<Lib.nDigits q)&&decide ((Lib.decDigits q).head? =some 48))=false:=by
  rw [Bool.and_eq_false_iff]
  by_cases c:1<Lib.nDigits q
  ·right
   have hq:1≤q:=by
    rcases Nat.eq_zero_or_pos q with rfl|h
    ·rw [Lib.nDigits_small (by omega)]at c;omega
    ·exact h
   obtain⟨x,r,e,hx⟩:=dec_head q hq
   rw [e]
   simp only [List.head?_cons,Option.some.injEq,decide_eq_false_iff_not]
   intro k
   rw [k]at hx
   exact hx (by decide)
  ·left;simpa using c
 have e4:(decide (l≠[])&&(decide ((l.map dgB).length<1) || decide (4<(l.map dgB).length)))=false:=by
  rw [List.length_map]
  cases l with
  |nil=>rfl
  |cons a r=>simp at hn ⊢;omega
 have e9:decide (Lib.nDigits q≤9)=decide (q≤999999999):=decide_eq_decide.2 h9
 rw [e3,e4,decide_eq_true (show 1≤Lib.nDigits q from h1),e9]
 simp
theorem decF_text{q:Nat}{l:List Int}(hl:∀y∈l,0≤y∧y≤9)(hn:l.length≤4)(m:Int):decF (Lib.decDigits q++dotL l++sufL m)=
 if q≤999999999 then some ((redD (q*10 ^ l.length+partD l) (10 ^ l.length)).1,(redD (q*10 ^ l.length+partD l) (10 ^ l.length)).2,sufM m)else none:=by
 have h0:Lib.decDigits q++dotL l≠[]:=by
  have k1:=Lib.decDigits_length q
  have k2:=Lib.nDigits_pos q
  intro h
  rw [List.append_eq_nil_iff]at h
  rw [h.1]at k1
  simp at k1
  omega
 unfold decF
 rw [strip_suf h0 (body_chars hl) m]
 simp only [cut_body,decP,form_body q l hn,decide_eq_true_eq]
 have e1:=natG_dec q 0
 have e2:=natG_digs l 0 hl
 rw [Int.zero_mul,Int.zero_add]at e1 e2
 rw [e1,e2]
 simp
theorem fdig_digs{d:Int}(hd:1≤d):∀(f:Nat) (r:Int) (l:List Int),0≤r→r<d→fdig d f r=some l→∀y∈l,0≤y∧y≤9
 |0,r,l,_,_,h=>by
  unfold fdig at h
  split at h<;>cases h
  intro y hy;cases hy
 |f+1,r,l,h0,h1,h=>by
  unfold fdig at h
  split at h<;>rename_i hc
  ·cases h
   intro y hy;cases hy
  ·obtain⟨q,hq,rfl⟩:=Option.map_eq_some_iff.1 h
   intro y hy
   rcases List.mem_cons.1 hy with rfl|hy
   ·constructor
    ·exact Int.ediv_nonneg (by omega) (by omega)
    ·have:r*10 / d<10:=Int.ediv_lt_of_lt_mul (by omega) (by omega)
     omega
   ·exact fdig_digs hd f _ q (Int.emod_nonneg _ (by omega)) (Int.emod_lt_of_pos _ (by omega)) hq y hy
def dec2T(n d m:Int):List UInt8:=match fdig d 4 (n % d)with|some l=>Lib.decDigits (n / d).toNat++dotL l++sufL m|none=>[]
theorem dec2_read{n d m:Int}{l:List Int}(h1:1≤d)(h2:d≤10000)(h3:0≤n)(h4:n≤1000000000000000)(hf:fdig d 4 (n % d)=some l) :
 (decF (Lib.decDigits (n / d).toNat++dotL l++sufL m)=some (n,d,m))↔decOk n d m=true:=by
 have hr0:=Int.emod_nonneg n (show d≠0 by omega)
 have hr1:=Int.emod_lt_of_pos n (show 0<d by omega)
 have hq0:0≤n / d:=Int.ediv_nonneg h3 (by omega)
 obtain⟨-,hn⟩:=fdig_some h1 4 _ l hr0 hf
 rw [decF_text (fdig_digs h1 4 _ l hr0 hr1 hf) hn m,←dec_law h1 h2 h3 h4]
 unfold dec2Ok
 rw [hf]
 have e:(((n / d).toNat:Nat):Int)=n / d:=by omega
 rw [e]
 simp only [Bool.and_eq_true,decide_eq_true_eq]
 have hm:sufM m=m↔2≤m∧m≤4:=by
  unfold sufM
  split
  ·omega
  ·split<;>omega
 constructor
 ·intro h
  split at h<;>rename_i hc
  ·simp only [Option.some.injEq,Prod.mk.injEq]at h
   exact⟨by omega,⟨h.1,h.2.1⟩,hm.1 h.2.2⟩
  ·cases h
 ·rintro⟨a,⟨b,c⟩,k⟩
  rw [if_pos (by omega),b,c,hm.2 k]
theorem dec2_none{n d m:Int}(h1:1≤d)(h2:d≤10000)(h3:0≤n)(h4:n≤1000000000000000)(hf:fdig d 4 (n % d)=none):decOk n d m=false:=by
 rw [←dec_law h1 h2 h3 h4]
 unfold dec2Ok
 rw [hf]
end Go.Proofs.YtblkcgceefjmjaaGreatDoor
namespace Go.Proofs.YtblkcgceefjmjaaGreatDoor
open Go.RowKit
def bfrom(s:ByteArray)(k:Nat):List UInt8:=s.data.toList.drop k
theorem bfrom_step{s:ByteArray}{k:Nat}(h:k<s.size):bfrom s k=s[k]::bfrom s (k+1):=by
 unfold bfrom
 have h2:k<s.data.toList.length:=by simpa using h
 rw [List.drop_eq_getElem_cons h2]
 congr 1
theorem bfrom_end{s:ByteArray}{k:Nat}(h:s.size≤k):bfrom s k= []:=by
 unfold bfrom
 exact List.drop_eq_nil_of_le (by simpa using h)
def natV(r:Option Int):Value:=match r with|some x=>.tuple #[.int .i64 x,.bool true]|none=>.tuple #[.int .i64 0,.bool false]
theorem natG_bd:∀(l:List UInt8) (x y:Int),0≤x→natG x l=some y→x≤y∧y≤(x+1)*10 ^ l.length-1
 | [],x,y,h0,h=>by simp [natG]at h;subst h;simp
 |c::r,x,y,h0,h=>by
  simp only [natG]at h
  split at h
  ·rename_i hd
   simp only [digc,Bool.and_eq_true,decide_eq_true_eq]at hd
   have ih:=natG_bd r _ y (by omega) h
   refine⟨by omega,Int.le_trans ih.2 ?_⟩
   have hp:(0:Int)<10 ^ r.length:=Int.pow_pos (by omega)
   have e:(x+1)*10 ^ (c::r).length=((x+1)*10)*10 ^ r.length:=by rw [List.length_cons,Int.pow_succ,Int.mul_comm (10 ^ r.length) 10,Int.mul_assoc]
   rw [e]
   have:=Int.mul_le_mul_of_nonneg_right (show 10*x+((c.toNat:Int)-48)+1≤(x+1)*10 by omega) (Int.le_of_lt hp)
   omega
  ·cases h
theorem natural2_any(s:ByteArray)(w:World)(hs:s.size≤9):Calls Tryz.prog 283 #[.string s] w fun e w'=>e= .returned (natV (natG 0 s.data.toList))∧w=w':=by
 have h00:s.data.toList=bfrom s 0:=rfl
 rw [h00]
 clear h00
 go_enter Tryz.func283,Tryz.ntmps283
 go_wp2
 go_loop [2,4] (fun v2 v4=>∃k:Nat,∃x:Int,k≤s.size∧v4= .int .i64 k∧v2= .int .i64 x∧0≤x∧x<10 ^ k∧Hid (natG x (bfrom s k)=natG 0 (bfrom s 0))) (fun _ v4=>s.size-(intOf v4).toNat)
 case atStart=>exact⟨0,0,Nat.zero_le _,rfl,rfl,by omega,by simp,Lib.hid rfl⟩
 case round=>
  obtain⟨k,x,hk,rfl,rfl,hx0,hx1,hg⟩:=hrel
  have hb:(10:Int) ^ k≤1000000000:=by
   have:=Nat.pow_le_pow_right (show 1≤10 by omega) (show k≤9 by omega)
   have h2:((10 ^ k:Nat):Int)≤((10 ^ 9:Nat):Int):=by exact_mod_cast this
   simpa using h2
  have hx2:x≤1000000000:=by omega
  have HX:=Lib.hid hx1
  clear hx1 hb
  by_cases hk2:k<s.size
  ·have hst:=bfrom_step hk2
   cases hD:digc (s[k].toNat:Int)
   ·have HG:Hid (natG 0 (bfrom s 0)=none):=Lib.hid (by rw [←hg.out,hst];simp only [natG];rw [hD];rfl)
    clear hst hg
    go_wp2_with (go_at_call 274;(with_reducible refine(digit2_any _ _).mono ?_);rintro e w' ⟨rfl,rfl⟩;simp only [hD])
    go_returns
    exact⟨by rw [HG.out];rfl,rfl⟩
   ·have hd:48≤(s[k].toNat:Int)∧(s[k].toNat:Int)≤57:=by simpa [digc]using hD
    have HG:Hid (natG (10*x+((s[k].toNat:Int)-48)) (bfrom s (k+1))=natG 0 (bfrom s 0)):=Lib.hid (by rw [←hg.out,hst];simp only [natG];rw [hD];rfl)
    clear hst hg
    obtain⟨d,hdd⟩:∃d:Int,(s[k].toNat:Int)=d:=⟨_,rfl⟩
    rw [hdd]at hd hD HG
    obtain⟨hd1,hd2⟩:=hd
    have hw:IntKind.u8.wrap (d-48)=d-48:=by simp only [IntKind.wrap_u8];omega
    go_wp2_with (go_at_call 274;(with_reducible refine(digit2_any _ _).mono ?_);rintro e w' ⟨rfl,rfl⟩;simp only [hD,hdd])
    go_round
    case rel=>exact⟨k+1,_,by omega,by go_num,rfl,by omega,by rw [Int.pow_succ];have:=HX.out;omega,HG⟩
    case measure=>simp [intOf];omega
  ·have HG:Hid (natG 0 (bfrom s 0)=some x):=Lib.hid (by rw [←hg.out,bfrom_end (by omega)];rfl)
   clear hg
   obtain rfl:k=s.size:=by omega
   go_wp2_with fail
   go_returns
   exact⟨by rw [HG.out];rfl,rfl⟩

def tlD:Code→Code
 | .seq _ b=>b
 |c=>c
def decFV(r:Option (Int × Int × Int)):Value:=match r with|some t=>.tuple #[.agg #[.int .i64 t.1,.int .i64 t.2.1],.int .i64 t.2.2,.bool true]|none=>.tuple #[.agg #[.int .i64 0,.int .i64 0],.int .i64 0,.bool false]
theorem iter_grow(Y:World)(bs:Array Obj)(d:Nat)(s:ByteArray)(pos:Nat):(Y.grow bs d).iter s pos=Y.grow (bs.push (.stringIter s pos)) d:=by
 simp [World.iter,World.grow,World.alloc]
theorem grow_at(Y:World)(bs:Array Obj)(d j:Nat):(Y.grow bs d).heap[Y.heap.size+j]? =bs[j]?:=by
 simp only [World.grow]
 rw [Array.getElem?_append_right (by omega)]
 congr 1;omega
theorem iterAt_grow(Y:World)(bs:Array Obj)(d j:Nat)(s:ByteArray)(pos:Nat):(Y.grow bs d).iterAt (Y.heap.size+j) s pos=Y.grow (bs.setIfInBounds j (.stringIter s pos)) d:=by
 simp only [World.iterAt,World.grow]
 congr 1
 rw [Array.setIfInBounds_append_right (by omega)]
 congr 2;omega
theorem redP_go{p:Int}{f:Nat}{A B:Int}(h:A % p=0∧B % p=0):redP p (f+1) A B=redP p f (A / p) (B / p):=by rw [redP,if_pos h]
theorem redP_stop{p:Int}{f:Nat}{A B:Int}(h:¬(A % p=0∧B % p=0)):redP p f A B=(A,B):=by
 cases f with
 |zero=>rfl
 |succ f=>rw [redP,if_neg h]
def RedAt(p:Int)(f0:Nat)(A0 B0:Int)(f:Nat)(A B:Int):Prop:=redP p f A B=redP p f0 A0 B0∧B<p ^ f
theorem RedAt.next{p:Int}{f0:Nat}{A0 B0:Int}{f:Nat}{A B:Int}(hp:2≤p)(h:RedAt p f0 A0 B0 f A B)(hB:1≤B)(hm:A % p=0∧B % p=0):∃g,RedAt p f0 A0 B0 g (A / p) (B / p)∧1≤B / p∧B / p<B:=by
 obtain⟨h1,h2⟩:=h
 cases f with
 |zero=>simp at h2;omega
 |succ g=>
  have e:=Int.mul_ediv_add_emod B p
  rw [hm.2,Int.add_zero]at e
  have hq:1≤B / p:=by
   rcases Int.lt_or_le (B / p) 1 with h|h
   ·have:p*(B / p)≤p*0:=Int.mul_le_mul_of_nonneg_left (by omega) (by omega)
    omega
   ·exact h
  refine⟨g,⟨by rw [←h1,redP_go hm], ?_⟩,hq, ?_⟩
  ·rw [Int.pow_succ,←e,Int.mul_comm _ p]at h2
   exact Int.lt_of_mul_lt_mul_left h2 (by omega)
  ·have:2*(B / p)≤p*(B / p):=Int.mul_le_mul_of_nonneg_right hp (by omega)
   omega
theorem idx_two(w:World):(Instr.index 312 (.agg #[.int .i64 2,.int .i64 5]) (.int .i64 0)).run Tryz.prog w= .ok (.int .i64 2) w:=by simp [Instr.index,go_sem]
theorem idx_five(w:World):(Instr.index 312 (.agg #[.int .i64 2,.int .i64 5]) (.int .i64 1)).run Tryz.prog w= .ok (.int .i64 5) w:=by simp [Instr.index,go_sem]
def boxD(w0 wr:World):Nat:=match wr.cell? ⟨w0.heap.size,1,none⟩with|some (.int _ z)=>z.toNat|_=>0
theorem dec_T3(b:ByteArray)(x p m:Int)(w:World)(bs:Array Obj)(d:Nat)(hb:b.size≤4)(hasc:∀i (h:i<b.size),(b[i]'h).toNat<128)(hx0:0≤x)(hx1:x≤1000000000)(hp0:0≤p)(hp1:p≤10000)
 (u0 u1 u4 u5 u6 u8 u10 u12 u13 u14 u15 u16 u17 u18 u19 u20 u21 u22 u23 u24 u25 u26 u27 u28 u29 u30 u31 u32 u33 u34 u35 u36 u37 u38 u39 u40 u41 u42 u43 u44 u45 u46 u47 u48 u49 u50 u51 u52 u53 u54 u55 u56 u57 u58 u59 u60 u61 u62 u63 u64 u65 u66 u67 u68 u69 u70 u71 u72 u73 u74 u75 u76 u77 u78 u79 u80 u81 u82 u83 u84 u85 u86 u87 u88 u89 u90 u91 u92 u93 u94 u95 u96 u97 u98 u99 u100 u101 u102 u103 u104 u105 u106 u107 u108 u109 u110 u111 u112 u113 u114 u115 u116 u117 u118 u119 u120 u121 u122 u123 u124 u125 u126 u127 u128 u129 u130 u131 u132 u133 u134 u135 u136 u137 u138 u139 u140 u141:Value) :
 Code.wp Tryz.prog (tlD (tlD (tlD (tlD (tlD (tlD (tlD (tlD (Tryz.f258.body.getD .skip))))))))) (bodyPost Tryz.prog Tryz.f258 (fun e w'=>e= .returned (decFV (some ((redD (x*10 ^ b.size+p) (10 ^ b.size)).1,(redD (x*10 ^ b.size+p) (10 ^ b.size)).2,m)))∧w.Grows w')) {tmps:=#[u0,u1,.pointer (some ⟨w.heap.size,0,none⟩),.int .i64 m,u4,u5,u6,.string b,u8,.int .i64 x,u10,.int .i64 p,u12,u13,u14,u15,u16,u17,u18,u19,u20,u21,u22,u23,u24,u25,u26,u27,u28,u29,u30,u31,u32,u33,u34,u35,u36,u37,u38,u39,u40,u41,u42,u43,u44,u45,u46,u47,u48,u49,u50,u51,u52,u53,u54,u55,u56,u57,u58,u59,u60,u61,u62,u63,u64,u65,u66,u67,u68,u69,u70,u71,u72,u73,u74,u75,u76,u77,u78,u79,u80,u81,u82,u83,u84,u85,u86,u87,u88,u89,u90,u91,u92,u93,u94,u95,u96,u97,u98,u99,u100,u101,u102,u103,u104,u105,u106,u107,u108,u109,u110,u111,u112,u113,u114,u115,u116,u117,u118,u119,u120,u121,u122,u123,u124,u125,u126,u127,u128,u129,u130,u131,u132,u133,u134,u135,u136,u137,u138,u139,u140,u141],defers:=[]} ((w.alloc (.cells #[.int .i64 0,.int .i64 0] 24)).grow bs d):=by
 conv=>arg 2;whnf
 have HASC:=Lib.hid hasc
 clear hasc
 go_wp2_with fail
 go_loopw [9] (fun v9 wr=>∃k:Nat,∃X E:Int,∃bs' d',k≤b.size∧v9= .int .i64 X∧wr=((w.alloc (.cells #[.int .i64 0,.int .i64 E] 24)).grow bs' d')∧bs'[bs.size]? =some (.stringIter b k)∧Hid (X=x*10 ^ k∧E=10 ^ k)∧0≤X∧X≤10000000000000∧1≤E∧E≤10000) (fun _ wr=>b.size-wr.iterPos (w.heap.size+1+bs.size))
 case atStart=>exact⟨0,x,1,_,_,Nat.zero_le _,rfl,iter_grow _ _ _ _ _,by simp,Lib.hid (by simp),by omega,by omega,by omega,by omega⟩
 case round=>
  obtain⟨k,X,E,bs2,d2,hk,rfl,rfl,hit,HXE,hX0,hX1,hE0,hE1⟩:=hrel
  have hkk:((w.alloc (.cells #[.int .i64 0,.int .i64 E] 24)).grow bs2 d2).heap[w.heap.size+1+bs.size]? =some (.stringIter b k):=by
   have:=grow_at (w.alloc (.cells #[.int .i64 0,.int .i64 E] 24)) bs2 d2 bs.size
   rw [World.size_alloc]at this
   rw [this];exact hit
  by_cases hlt:k<b.size
  ·have hnext:∀ty,(Instr.next (.pointer (some ⟨w.heap.size+1+bs.size,0,none⟩)) true ty).run Tryz.prog ((w.alloc (.cells #[.int .i64 0,.int .i64 E] 24)).grow bs2 d2)=_:=fun ty=>Lib.run_next_ascii_at _ _ b k ty hkk hlt (HASC.out k hlt)
   have hia:=iterAt_grow (w.alloc (.cells #[.int .i64 0,.int .i64 E] 24)) bs2 d2 bs.size b (k+1)
   rw [World.size_alloc]at hia
   rw [hia]at hnext
   have hbl:bs.size<bs2.size:=(Array.getElem?_eq_some_iff.1 hit).1
   have hit2:(bs2.setIfInBounds bs.size (.stringIter b (k+1)))[bs.size]? =some (.stringIter b (k+1)):=by simp [hbl]
   have hpos:((w.alloc (.cells #[.int .i64 0,.int .i64 E] 24)).grow bs2 d2).iterPos (w.heap.size+1+bs.size)=k:=by simp [World.iterPos,hkk]
   generalize bs2.setIfInBounds bs.size (.stringIter b (k+1))=bs3 at hnext hit2
   have hk3:k≤3:=by omega
   have hE3:E≤1000:=by
    have:=HXE.out.2
    obtain h|h|h|h:k=0∨k=1∨k=2∨k=3:=by omega
    all_goals rw [this,h];decide
   have hX3:X≤1000000000000:=by
    have e:=HXE.out.1
    rw [←HXE.out.2]at e
    have h1:x*E≤1000000000*E:=Int.mul_le_mul_of_nonneg_right hx1 (by omega)
    omega
   have w6:IntKind.i64.wrap (10*X)=10*X:=IntWalk.i64_in _ (by omega)
   have w7:IntKind.i64.wrap (10*E)=10*E:=IntWalk.i64_in _ (by omega)
   have HIT:=Lib.hid (And.intro hit2 (And.intro hkk hpos))
   clear hit hit2 hkk hpos hia
   go_wp2_with fail
   clear hnext
   go_region
   go_wp2_with fail
   go_roundw
   case rel=>exact⟨k+1,_,_,_,_,by omega,rfl,rfl,HIT.out.1,Lib.hid ⟨by rw [Int.pow_succ,←Int.mul_assoc,←HXE.out.1,Int.mul_comm],by rw [Int.pow_succ,←HXE.out.2,Int.mul_comm]⟩,by omega,by omega,by omega,by omega⟩
   case measure=>
    have h2:∀dd,((w.alloc (.cells #[.int .i64 0,.int .i64 (10*E)] 24)).grow bs3 dd).heap[w.heap.size+1+bs.size]? =some (.stringIter b (k+1)):=fun dd=>by
     have:=grow_at (w.alloc (.cells #[.int .i64 0,.int .i64 (10*E)] 24)) bs3 dd bs.size
     rw [World.size_alloc,HIT.out.1]at this
     exact this
    have h1:=HIT.out.2.2
    rw [h1]
    simp only [World.iterPos,h2]
    omega
  ·have hnext:∀ty,(Instr.next (.pointer (some ⟨w.heap.size+1+bs.size,0,none⟩)) true ty).run Tryz.prog ((w.alloc (.cells #[.int .i64 0,.int .i64 E] 24)).grow bs2 d2)=_:=fun ty=>Lib.run_next_end_at _ _ b k ty hkk hlt
   obtain rfl:k=b.size:=by omega
   have hN:X+p≤10000000010000:=by omega
   have HXP:=Lib.hid (show X+p=x*10 ^ b.size+p by rw [HXE.out.1])
   have HE:=Lib.hid HXE.out.2
   have h214:E<2 ^ 14:=by rw [show(2:Int) ^ 14=16384 by decide];omega
   clear hkk hit HXE hlt
   go_wp2_with fail
   clear hnext
   go_loopw [114] (fun v114 wr=>∃A B:Int,∃bs' d',wr=((w.alloc (.cells #[.int .i64 A,.int .i64 B] 24)).grow bs' d')∧0≤A∧A≤100000000000000∧1≤B∧B≤10000∧
    ((v114= .int .i64 0∧A=X+p∧B=E)∨(v114= .int .i64 1∧Hid ((A,B)=redP 2 14 (X+p) E))∨(v114= .int .i64 2∧Hid ((A,B)=redD (X+p) E)))) (fun v114 _=>2-(intOf v114).toNat)
   case atStart=>exact⟨_,_,_,_,rfl,by omega,by omega,by omega,by omega,.inl ⟨rfl,rfl,rfl⟩⟩
   case round=>
    obtain⟨A0,B0,bs4,d4,rfl,hA00,hA01,hB00,hB01,hcase⟩:=hrel
    rcases hcase with ⟨rfl,rfl,rfl⟩|⟨rfl,H1⟩|⟨rfl,H2⟩
    ·have idx2:=idx_two
     have idx5:=idx_five
     go_wp2_with fail
     clear idx2 idx5
     go_loopw [117] (fun _ wr=>∃f:Nat,∃A B:Int,∃bs' d',wr=((w.alloc (.cells #[.int .i64 A,.int .i64 B] 24)).grow bs' d')∧Hid (RedAt 2 14 (X+p) B0 f A B)∧0≤A∧A≤100000000000000∧1≤B∧B≤10000) (fun _ wr=>boxD w wr)
     case atStart=>exact⟨14,_,_,_,_,rfl,Lib.hid ⟨rfl,h214⟩,by omega,by omega,by omega,by omega⟩
     case round=>
      obtain⟨f,A,B,bs3,d3,rfl,HRD,hA0,hA1,hB0,hB1⟩:=hrel
      have e0:=Int.tmod_eq_emod_of_nonneg (b:=2) (show 0≤A from hA0)
      have e1:=Int.tmod_eq_emod_of_nonneg (b:=2) (show 0≤B by omega)
      have e2:=Int.tdiv_eq_ediv_of_nonneg (b:=2) (show 0≤A from hA0)
      have e3:=Int.tdiv_eq_ediv_of_nonneg (b:=2) (show 0≤B by omega)
      have E:=Lib.hid (And.intro e0 (And.intro e1 (And.intro e2 e3)))
      by_cases ha:A % 2=0
      ·by_cases hb2:B % 2=0
       ·obtain⟨g,hg1,hg2,hg3⟩:=HRD.out.next (by omega) hB0 ⟨ha,hb2⟩
        have HG:=Lib.hid hg1
        have hq0:0≤A / 2:=by omega
        have hq1:A / 2≤100000000000000:=by omega
        have m0:(A.tmod 2==0)=true:=by rw [e0];simpa using ha
        have m1:(B.tmod 2==0)=true:=by rw [e1];simpa using hb2
        have w2:IntKind.i64.wrap (A.tdiv 2)=A / 2:=by rw [e2];exact IntWalk.i64_in _ (by omega)
        have w3:IntKind.i64.wrap (B.tdiv 2)=B / 2:=by rw [e3];exact IntWalk.i64_in _ (by omega)
        have w4:IntKind.i64.wrap (A.tmod 2)=0:=by rw [e0,ha];rfl
        have w5:IntKind.i64.wrap (B.tmod 2)=0:=by rw [e1,hb2];rfl
        clear hg1
        clear e0 e1 e2 e3
        go_wp2_with fail
        refine TG.begin 11 (fun w'=>w'.cell? ⟨w.heap.size,1,none⟩=some (.int .i64 B)) (by kernel_rfl) (by kernel_rfl) (by simp [go_sem]) (fun hS=>?_)
        refine TG.tkB 0 hS ?_
        refine TG.tkB 2 hS ?_
        refine TG.tkB 4 hS ?_
        refine TG.tkB 6 hS ?_
        refine TG.tkB 5 hS ?_
        refine TG.tkB 7 hS ?_
        refine TG.one (i:=1) (by kernel_rfl) rfl (fun K1 hK1=>?_)
        go_simp
        refine TG.go hK1 ?_ (fun hS=>?_)
        focus
         (try dsimp only)
         simp [go_sem]
        clear hK1 K1
        (try simp only [nS])
        refine TG.tkB 3 hS ?_
        refine TG.tkB 8 hS ?_
        refine TG.one (i:=9) (by kernel_rfl) rfl (fun K1 hK1=>?_)
        go_simp
        refine TG.go hK1 ?_ (fun hS=>?_)
        focus
         (try dsimp only)
         simp [go_sem]
        clear hK1 K1
        (try simp only [nS])
        refine TG.tkB 10 hS ?_
        refine TG.one (i:=11) (by kernel_rfl) rfl (fun K1 hK1=>?_)
        go_simp
        refine hK1 _ _ (fun h=>absurd rfl h) (TG.done (by kernel_rfl) ?_)
        clear hK1 K1 hS
        (try simp only [nS])
        go_wp2_with fail
        go_roundw
        case rel=>exact⟨g,_,_,_,_,rfl,HG,by omega,by omega,by omega,by omega⟩
        case measure=>simp [boxD,go_sem];omega
       ·have HX:=Lib.hid (redP_stop (p:=2) (f:=f) (A:=A) (B:=B) (fun h=>hb2 h.2))
        have m0:(A.tmod 2==0)=true:=by rw [e0];simpa using ha
        have m1:(B.tmod 2==0)=false:=by rw [e1];simpa using hb2
        have w4:IntKind.i64.wrap (A.tmod 2)=0:=by rw [e0,ha];rfl
        have w5:IntKind.i64.wrap (B.tmod 2)=B.tmod 2:=IntWalk.i64_in _ (by rw [e1];omega)
        have hbd:1≤B.tmod 2:=by rw [e1];omega
        clear e0 e1 e2 e3
        have hb3:(B % 2==0)=false:=by simpa using hb2
        go_wp2_with fail
        go_roundw
        case rel=>exact⟨_,_,_,_,rfl,by omega,by omega,by omega,by omega,.inr (.inl ⟨rfl,Lib.hid (by rw [←HRD.out.1,HX.out])⟩)⟩
        case measure=>simp [intOf]
      ·have HX:=Lib.hid (redP_stop (p:=2) (f:=f) (A:=A) (B:=B) (fun h=>ha h.1))
       have m0:(A.tmod 2==0)=false:=by rw [e0];simpa using ha
       have w4:IntKind.i64.wrap (A.tmod 2)=A.tmod 2:=IntWalk.i64_in _ (by rw [e0];omega)
       have hbd:1≤A.tmod 2:=by rw [e0];omega
       clear e0 e1 e2 e3
       have ha3:(A % 2==0)=false:=by simpa using ha
       go_wp2_with fail
       go_roundw
       case rel=>exact⟨_,_,_,_,rfl,by omega,by omega,by omega,by omega,.inr (.inl ⟨rfl,Lib.hid (by rw [←HRD.out.1,HX.out])⟩)⟩
       case measure=>simp [intOf]
    ·have idx2:=idx_two
     have idx5:=idx_five
     go_wp2_with fail
     clear idx2 idx5
     go_loopw [117] (fun _ wr=>∃f:Nat,∃A B:Int,∃bs' d',wr=((w.alloc (.cells #[.int .i64 A,.int .i64 B] 24)).grow bs' d')∧Hid (RedAt 5 6 A0 B0 f A B)∧0≤A∧A≤100000000000000∧1≤B∧B≤10000) (fun _ wr=>boxD w wr)
     case atStart=>exact⟨6,_,_,_,_,rfl,Lib.hid ⟨rfl,(by rw [show(5:Int) ^ 6=15625 by decide];omega)⟩,by omega,by omega,by omega,by omega⟩
     case round=>
      obtain⟨f,A,B,bs3,d3,rfl,HRD,hA0,hA1,hB0,hB1⟩:=hrel
      have e0:=Int.tmod_eq_emod_of_nonneg (b:=5) (show 0≤A from hA0)
      have e1:=Int.tmod_eq_emod_of_nonneg (b:=5) (show 0≤B by omega)
      have e2:=Int.tdiv_eq_ediv_of_nonneg (b:=5) (show 0≤A from hA0)
      have e3:=Int.tdiv_eq_ediv_of_nonneg (b:=5) (show 0≤B by omega)
      have E:=Lib.hid (And.intro e0 (And.intro e1 (And.intro e2 e3)))
      by_cases ha:A % 5=0
      ·by_cases hb2:B % 5=0
       ·obtain⟨g,hg1,hg2,hg3⟩:=HRD.out.next (by omega) hB0 ⟨ha,hb2⟩
        have HG:=Lib.hid hg1
        have hq0:0≤A / 5:=by omega
        have hq1:A / 5≤100000000000000:=by omega
        have m0:(A.tmod 5==0)=true:=by rw [e0];simpa using ha
        have m1:(B.tmod 5==0)=true:=by rw [e1];simpa using hb2
        have w2:IntKind.i64.wrap (A.tdiv 5)=A / 5:=by rw [e2];exact IntWalk.i64_in _ (by omega)
        have w3:IntKind.i64.wrap (B.tdiv 5)=B / 5:=by rw [e3];exact IntWalk.i64_in _ (by omega)
        have w4:IntKind.i64.wrap (A.tmod 5)=0:=by rw [e0,ha];rfl
        have w5:IntKind.i64.wrap (B.tmod 5)=0:=by rw [e1,hb2];rfl
        clear hg1
        clear e0 e1 e2 e3
        go_wp2_with fail
        refine TG.begin 11 (fun w'=>w'.cell? ⟨w.heap.size,1,none⟩=some (.int .i64 B)) (by kernel_rfl) (by kernel_rfl) (by simp [go_sem]) (fun hS=>?_)
        refine TG.tkB 0 hS ?_
        refine TG.tkB 2 hS ?_
        refine TG.tkB 4 hS ?_
        refine TG.tkB 6 hS ?_
        refine TG.tkB 5 hS ?_
        refine TG.tkB 7 hS ?_
        refine TG.one (i:=1) (by kernel_rfl) rfl (fun K1 hK1=>?_)
        go_simp
        refine TG.go hK1 ?_ (fun hS=>?_)
        focus
         (try dsimp only)
         simp [go_sem]
        clear hK1 K1
        (try simp only [nS])
        refine TG.tkB 3 hS ?_
        refine TG.tkB 8 hS ?_
        refine TG.one (i:=9) (by kernel_rfl) rfl (fun K1 hK1=>?_)
        go_simp
        refine TG.go hK1 ?_ (fun hS=>?_)
        focus
         (try dsimp only)
         simp [go_sem]
        clear hK1 K1
        (try simp only [nS])
        refine TG.tkB 10 hS ?_
        refine TG.one (i:=11) (by kernel_rfl) rfl (fun K1 hK1=>?_)
        go_simp
        refine hK1 _ _ (fun h=>absurd rfl h) (TG.done (by kernel_rfl) ?_)
        clear hK1 K1 hS
        (try simp only [nS])
        go_wp2_with fail
        go_roundw
        case rel=>exact⟨g,_,_,_,_,rfl,HG,by omega,by omega,by omega,by omega⟩
        case measure=>simp [boxD,go_sem];omega
       ·have HX:=Lib.hid (redP_stop (p:=5) (f:=f) (A:=A) (B:=B) (fun h=>hb2 h.2))
        have m0:(A.tmod 5==0)=true:=by rw [e0];simpa using ha
        have m1:(B.tmod 5==0)=false:=by rw [e1];simpa using hb2
        have w4:IntKind.i64.wrap (A.tmod 5)=0:=by rw [e0,ha];rfl
        have w5:IntKind.i64.wrap (B.tmod 5)=B.tmod 5:=IntWalk.i64_in _ (by rw [e1];omega)
        have hbd:1≤B.tmod 5:=by rw [e1];omega
        clear e0 e1 e2 e3
        have hb3:(B % 5==0)=false:=by simpa using hb2
        go_wp2_with fail
        go_roundw
        case rel=>exact⟨_,_,_,_,rfl,by omega,by omega,by omega,by omega,.inr (.inr ⟨rfl,Lib.hid (by unfold redD;rw [←H1.out,←HX.out];exact HRD.out.1)⟩)⟩
        case measure=>simp [intOf]
      ·have HX:=Lib.hid (redP_stop (p:=5) (f:=f) (A:=A) (B:=B) (fun h=>ha h.1))
       have m0:(A.tmod 5==0)=false:=by rw [e0];simpa using ha
       have w4:IntKind.i64.wrap (A.tmod 5)=A.tmod 5:=IntWalk.i64_in _ (by rw [e0];omega)
       have hbd:1≤A.tmod 5:=by rw [e0];omega
       clear e0 e1 e2 e3
       have ha3:(A % 5==0)=false:=by simpa using ha
       go_wp2_with fail
       go_roundw
       case rel=>exact⟨_,_,_,_,rfl,by omega,by omega,by omega,by omega,.inr (.inr ⟨rfl,Lib.hid (by unfold redD;rw [←H1.out,←HX.out];exact HRD.out.1)⟩)⟩
       case measure=>simp [intOf]
    ·go_wp2_with fail
     go_returns
     refine⟨?_,.of_below belB⟩
     have e:=H2.out
     rw [HXP.out,HE.out]at e
     rw [←e]
     rfl

theorem natG_ascii:∀(l:List UInt8) (x y:Int),natG x l=some y→∀c∈l,c.toNat<128
 | [],_,_,_,c,hc=>by cases hc
 |e::r,x,y,h,c,hc=>by
  simp only [natG]at h
  split at h
  ·rename_i hd
   rcases List.mem_cons.1 hc with rfl|hc
   ·simp only [digc,Bool.and_eq_true,decide_eq_true_eq]at hd;omega
   ·exact natG_ascii r _ y h c hc
  ·cases h
def decN(a b:ByteArray)(m:Int):Option (Int × Int × Int):=(natG 0 a.data.toList).bind fun x=>(natG 0 b.data.toList).map fun p=>((redD (x*10 ^ b.size+p) (10 ^ b.size)).1,(redD (x*10 ^ b.size+p) (10 ^ b.size)).2,m)
theorem dec_T2(a b:ByteArray)(m:Int)(w:World)(bs:Array Obj)(d:Nat)(ha:a.size≤9)(hb:b.size≤4)
 (u0 u1 u4 u5 u8 u9 u10 u11 u12 u13 u14 u15 u16 u17 u18 u19 u20 u21 u22 u23 u24 u25 u26 u27 u28 u29 u30 u31 u32 u33 u34 u35 u36 u37 u38 u39 u40 u41 u42 u43 u44 u45 u46 u47 u48 u49 u50 u51 u52 u53 u54 u55 u56 u57 u58 u59 u60 u61 u62 u63 u64 u65 u66 u67 u68 u69 u70 u71 u72 u73 u74 u75 u76 u77 u78 u79 u80 u81 u82 u83 u84 u85 u86 u87 u88 u89 u90 u91 u92 u93 u94 u95 u96 u97 u98 u99 u100 u101 u102 u103 u104 u105 u106 u107 u108 u109 u110 u111 u112 u113 u114 u115 u116 u117 u118 u119 u120 u121 u122 u123 u124 u125 u126 u127 u128 u129 u130 u131 u132 u133 u134 u135 u136 u137 u138 u139 u140 u141:Value) :
 Code.wp Tryz.prog (tlD (tlD (tlD (tlD (tlD (Tryz.f258.body.getD .skip)))))) (bodyPost Tryz.prog Tryz.f258 (fun e w'=>e= .returned (decFV (decN a b m))∧w.Grows w')) {tmps:=#[u0,u1,.pointer (some ⟨w.heap.size,0,none⟩),.int .i64 m,u4,u5,.string a,.string b,u8,u9,u10,u11,u12,u13,u14,u15,u16,u17,u18,u19,u20,u21,u22,u23,u24,u25,u26,u27,u28,u29,u30,u31,u32,u33,u34,u35,u36,u37,u38,u39,u40,u41,u42,u43,u44,u45,u46,u47,u48,u49,u50,u51,u52,u53,u54,u55,u56,u57,u58,u59,u60,u61,u62,u63,u64,u65,u66,u67,u68,u69,u70,u71,u72,u73,u74,u75,u76,u77,u78,u79,u80,u81,u82,u83,u84,u85,u86,u87,u88,u89,u90,u91,u92,u93,u94,u95,u96,u97,u98,u99,u100,u101,u102,u103,u104,u105,u106,u107,u108,u109,u110,u111,u112,u113,u114,u115,u116,u117,u118,u119,u120,u121,u122,u123,u124,u125,u126,u127,u128,u129,u130,u131,u132,u133,u134,u135,u136,u137,u138,u139,u140,u141],defers:=[]} ((w.alloc (.cells #[.int .i64 0,.int .i64 0] 24)).grow bs d):=by
 have HA:Hid _:=Lib.hid (fun w=>natural2_any a w (by omega))
 have HB:Hid _:=Lib.hid (fun w=>natural2_any b w (by omega))
 unfold decN
 cases hna:natG 0 a.data.toList with
 |none=>
  rw [hna]at HA
  simp only [natV,Option.bind_none]at HA ⊢
  clear hna
  cases hnb:natG 0 b.data.toList with
  |none=>
   rw [hnb]at HB
   simp only [natV]at HB
   clear hnb
   conv=>arg 2;whnf
   go_wp2_with ((go_at_call 283;first|(with_reducible refine(HA.out _).mono ?_)|(with_reducible refine(HB.out _).mono ?_));rintro e w' ⟨rfl,rfl⟩)
   go_returns
   exact⟨rfl,.of_below belB⟩
  |some p=>
   rw [hnb]at HB
   simp only [natV]at HB
   clear hnb
   conv=>arg 2;whnf
   go_wp2_with ((go_at_call 283;first|(with_reducible refine(HA.out _).mono ?_)|(with_reducible refine(HB.out _).mono ?_));rintro e w' ⟨rfl,rfl⟩)
   go_returns
   exact⟨rfl,.of_below belB⟩
 |some x=>
  have bx:=natG_bd _ 0 x (by omega) hna
  rw [hna]at HA
  simp only [natV,Option.bind_some]at HA ⊢
  clear hna
  cases hnb:natG 0 b.data.toList with
  |none=>
   rw [hnb]at HB
   simp only [natV,Option.map_none]at HB ⊢
   clear hnb
   conv=>arg 2;whnf
   go_wp2_with ((go_at_call 283;first|(with_reducible refine(HA.out _).mono ?_)|(with_reducible refine(HB.out _).mono ?_));rintro e w' ⟨rfl,rfl⟩)
   go_returns
   exact⟨rfl,.of_below belB⟩
  |some p=>
   have bp:=natG_bd _ 0 p (by omega) hnb
   have hasc:=natG_ascii _ _ _ hnb
   have hx:x≤1000000000:=by
    have h1:a.data.toList.length=a.size:=by simp
    rw [h1]at bx
    have h2:=Nat.pow_le_pow_right (show 1≤10 by omega) ha
    have h3:((10 ^ a.size:Nat):Int)≤((10 ^ 9:Nat):Int):=by exact_mod_cast h2
    simp at h3
    omega
   have hp:p≤10000:=by
    have h1:b.data.toList.length=b.size:=by simp
    rw [h1]at bp
    have h2:=Nat.pow_le_pow_right (show 1≤10 by omega) hb
    have h3:((10 ^ b.size:Nat):Int)≤((10 ^ 4:Nat):Int):=by exact_mod_cast h2
    simp at h3
    omega
   have hx0:=bx.1
   have hp0:=bp.1
   rw [hnb]at HB
   simp only [natV,Option.map_some]at HB ⊢
   clear hnb bx bp
   have hasc2:∀i (h:i<b.size),(b[i]'h).toNat<128:=fun i h=>hasc _ (by
    have:b[i]'h=b.data.toList[i]'(by simpa using h):=by simp;rfl
    rw [this];exact List.getElem_mem _)
   have HH:=Lib.hid (And.intro hasc2 (And.intro hx (And.intro hp (And.intro hx0 hp0))))
   clear hasc hasc2 hx hp hx0 hp0
   conv=>arg 2;whnf
   apply wp_seq_k
   intro K1 hK1
   have HK1:=Lib.hid hK1
   clear hK1
   go_wp2_with ((go_at_call 283;first|(with_reducible refine(HA.out _).mono ?_)|(with_reducible refine(HB.out _).mono ?_));rintro e w' ⟨rfl,rfl⟩)
   refine HK1.out _ _ ?_
   clear HK1 K1
   apply wp_seq_k
   intro K2 hK2
   have HK2:=Lib.hid hK2
   clear hK2
   go_wp2_with ((go_at_call 283;first|(with_reducible refine(HA.out _).mono ?_)|(with_reducible refine(HB.out _).mono ?_));rintro e w' ⟨rfl,rfl⟩)
   refine HK2.out _ _ ?_
   clear HK2 K2
   apply wp_seq_k
   intro K3 hK3
   have HK3:=Lib.hid hK3
   clear hK3
   go_wp2_with ((go_at_call 283;first|(with_reducible refine(HA.out _).mono ?_)|(with_reducible refine(HB.out _).mono ?_));rintro e w' ⟨rfl,rfl⟩)
   refine HK3.out _ _ ?_
   exact dec_T3 b x p m w bs _ hb HH.out.1 HH.out.2.2.2.1 HH.out.2.1 HH.out.2.2.2.2 HH.out.2.2.1 _ _ _ _ _ _ _ _ _ _ _ _ _ _ _ _ _ _ _ _ _ _ _ _ _ _ _ _ _ _ _ _ _ _ _ _ _ _ _ _ _ _ _ _ _ _ _ _ _ _ _ _ _ _ _ _ _ _ _ _ _ _ _ _ _ _ _ _ _ _ _ _ _ _ _ _ _ _ _ _ _ _ _ _ _ _ _ _ _ _ _ _ _ _ _ _ _ _ _ _ _ _ _ _ _ _ _ _ _ _ _ _ _ _ _ _ _ _ _ _ _ _ _ _ _ _ _ _ _ _ _ _ _ _ _ _ _

abbrev GrT:=Int × (Ex × Value) × (Ex × Value)
def GrQ(R:RawV)(k:Nat)(q:List GrT):Prop:=q.map (fun t=>(t.1,t.2.1.1,t.2.2.1))=(List.range k).map fun(i:Nat)=>((i:Int)+1,ifE R i,payE R i)
theorem GrQ.length{R:RawV}{k:Nat}{q:List GrT}(h:GrQ R k q):q.length=k:=by
 have:=congrArg List.length h
 simpa using this
theorem GrQ.push{R:RawV}{k:Nat}{q:List GrT}(h:GrQ R k q)(v u:Value):GrQ R (k+1) (q++[((k:Int)+1,(ifE R k,v),(payE R k,u))]):=by
 unfold GrQ at *
 exact sz56
theorem ListAt.nil(w:World)(s:Nat):ListAt w s (.slice none 0 0) []:=⟨by simp,none,0,rfl,.inl rfl⟩
def ReQ(R:RawV)(k:Nat)(q:List (Int × (Ex × Value))):Prop:=q.map (fun t=>(t.1,t.2.1))=(List.range k).map fun(i:Nat)=>((i:Int)+1,cutE R i)
theorem ReQ.length{R:RawV}{k:Nat}{q:List (Int × (Ex × Value))}(h:ReQ R k q):q.length=k:=by
 have:=congrArg List.length h
 simpa using this
theorem ReQ.push{R:RawV}{k:Nat}{q:List (Int × (Ex × Value))}(h:ReQ R k q)(v:Value):ReQ R (k+1) (q++[((k:Int)+1,(cutE R k,v))]):=by
 unfold ReQ at *
 exact sz56

theorem flatten_set(l:List (List Value))(c i j:Nat)(u:Value)(h:∀x∈l,x.length=c)(hj:j<c)(hi:i<l.length):l.flatten.set (i*c+j) u=(l.set i ((l.getD i []).set j u)).flatten:=by
 induction l generalizing i with
 |nil=>simp at hi
 |cons x r ih=>
  have hx:=h x (List.mem_cons_self)
  cases i with
  |zero=>
   simp only [List.flatten_cons,List.set_cons_zero,List.getD_cons_zero,Nat.zero_mul,Nat.zero_add]
   rw [List.set_append_left _ _ (by omega)]
  |succ i=>
   simp only [List.flatten_cons,List.set_cons_succ,List.getD_cons_succ]
   rw [List.set_append_right _ _ (by rw [hx,Nat.add_mul];omega),←ih i (fun y hy=>h y (List.mem_cons_of_mem _ hy)) (by simpa using hi)]
   congr 2;rw [hx,Nat.add_mul];omega
section
variable {T : TypeId} {c base g n cap : Nat} {X : Nat → Prop} {w : World} {l : List (List Value)} {rs rs' : List (Ex × Value)}
theorem RowX.stored(h:RowX T c base X w (.slice (some ⟨g,0,none⟩) n cap) l rs)(hn:n=l.length)(i j k:Nat)(hk:k=i*c+j)(hj:j<c)(hi:i<l.length)(u:Value)(hr:∀x∈rs',x∈rs∨RepE (fun b=>(base≤b∧X b)∧g≠b) w x.1 x.2) :
 RowX T c base X (w.setCell ⟨g,k,none⟩ u) (.slice (some ⟨g,0,none⟩) n cap) (l.set i ((l.getD i []).set j u)) rs':=by
 subst hn hk
 refine⟨?_,fun x hx=>?_,h.ownX,fun x hx=>?_⟩
 ·have:=(h.own.stored (i*c+j) u).1
  rw [flatten_set l c i j u h.len hj hi]at this
  rw [List.length_set];exact this
 ·rcases List.mem_or_eq_of_mem_set hx with hx|rfl
  ·exact h.len x hx
  ·rw [List.length_set,List.getD_eq_getElem?_getD,List.getElem?_eq_getElem hi];exact h.len _ (List.getElem_mem hi)
 ·have hrep:RepE (fun b=>(base≤b∧X b)∧g≠b) w x.1 x.2:=by
   rcases hr x hx with h2|h2
   ·exact(h.rep x h2).mono fun b hb=>⟨hb.1,fun e=>hb.2 (by rw [e];rfl)⟩
   ·exact h2
  refine(hrep.keep (by simp) fun b o hb hlt=>World.cell?_of_block (Below.heap_setCell _ _ _ _ (Ne.symm hb.2))).mono fun b hb=>⟨hb.1,fun e=>hb.2 (by simpa [Value.ownBlock]using e)⟩
theorem RowX.apart(h:RowX T c base X w (.slice (some ⟨g,0,none⟩) n cap) l rs):base≤g∧X g∧g<w.heap.size:=⟨(h.own.lt g rfl).1,h.ownX g rfl,(h.own.lt g rfl).2⟩
theorem RowX.kept{b o:Nat}{v:Value}(h:RowX T c base X w v l rs)(hb:¬(base≤b∧X b))(u:Value):RowX T c base X (w.setCell ⟨b,o,none⟩ u) v l rs:=
 h.keep (by simp) fun k hk hX _=>Below.heap_setCell _ _ _ _ (fun e=>hb ⟨(show k=b from e) ▸ hk,(show k=b from e) ▸ hX⟩)
theorem RowG.kept{b o:Nat}{v:Value}(h:RowG T c base w v l rs)(hb:b<base)(u:Value):RowG T c base (w.setCell ⟨b,o,none⟩ u) v l rs:=h.setCell hb u
theorem RowX.block{v:Value}(h:RowX T c base X w v l rs)(h0:0<l.length):∃g cap,v= .slice (some ⟨g,0,none⟩) l.length cap:=by
 rcases h.own.2 with ⟨_,h1⟩|⟨g,cap,cur,rfl,_⟩
 ·omega
 ·exact⟨g,cap,rfl⟩
theorem RowX.cellAt(h:RowX T c base X w (.slice (some ⟨g,0,none⟩) n cap) l rs)(hn:n=l.length)(i j:Nat)(hj:j<c)(hi:i<l.length):w.cell? ⟨g,i*c+j,none⟩=(l.getD i [])[j]?:=by
 subst hn
 rw [h.own.cellAt (i*c+j) (by have:=Nat.mul_le_mul_right c (show i+1≤l.length from hi);rw [Nat.add_mul]at this;omega),flatten_get l c h.len i j hj hi]
end
end Go.Proofs.YtblkcgceefjmjaaGreatDoor
