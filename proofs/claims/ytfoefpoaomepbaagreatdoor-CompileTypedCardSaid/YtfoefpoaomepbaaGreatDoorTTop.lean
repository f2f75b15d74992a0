import Derived.Test.YtfoefpoaomepbaaGreatDoorTExpr
import Derived.Test.YtfoefpoaomepbaaGreatDoorTForm
import Derived.Test.YtfoefpoaomepbaaGreatDoorTK
import Derived.Laws.BytesArg
import Derived.Lib.SmallJoins
import Derived.Deep.CutBlock
import Derived.Deep.CutRange
import Derived.Deep.DeepCutAuto
import Derived.Laws.OwnMore
import Derived.Deep.MidRow
set_option linter.all false
set_option maxHeartbeats 16000000
set_option maxRecDepth 1000000
namespace Go
open Go.RowKit
@[go_sem] theorem World.setCell_src_other{w:World}{s:Nat}{lv:Value}{p left:Int}{b i:Nat}(h:b≠s)(v:Value):(w.src s lv p left).setCell ⟨b,i,none⟩ v=(w.setCell ⟨b,i,none⟩ v).src s lv p left:=by
  simp only [World.src,World.setCell]
  congr 1
  apply Array.ext_getElem?
  intro k
  simp only [Array.getElem?_modify,Array.getElem?_setIfInBounds,Array.size_modify]
  by_cases hk:b=k
  ·subst hk;simp [Ne.symm h]
  ·simp [hk]
theorem RowKit.Below.src{B:Nat}{a w:World}{s:Nat}(h:Below B a w)(hB:B≤s)(lv:Value)(p left:Int):Below B a (w.src s lv p left):=
 h.trans ⟨rfl,rfl,rfl,by simp,fun k hk=>World.heap_src_other (by omega)⟩
end Go
namespace Go.Proofs.YtfoefpoaomepbaaGreatDoor
open Go.RowKit

theorem leafN_size(zs:List Int)(env:List (ByteArray × Int))(p:Nat)(dim:Int):(leafN zs env p dim).1.size=1:=by
 unfold leafN
 split
 ·simp [Ex.size,Ex.sizes]
 ·split<;>simp [Ex.size,Ex.sizes]
theorem leafF_size(zs:List Int)(env:List (ByteArray × Int))(dim:Int)(p:Nat)(left:Int):(leafF zs env dim p left).1.size≤3:=by
 unfold leafF
 split
 ·simp [Ex.size,Ex.sizes,leafN_size]
 ·simp [leafN_size]
theorem nodeF_sizes(E:Int→Nat→Int→Ex × Nat × Int)(c:Nat)(hE:∀d p left,(E d p left).1.size≤c)(ds:List Int):∀(p:Nat) (left:Int),Ex.sizes (nodeF E ds p left).1≤ds.length*c:=by
 induction ds with
 |nil=>intro p left;simp [nodeF,Ex.sizes]
 |cons d ds ih=>
  intro p left
  have a:=hE d p left
  have b:=ih (E d p left).2.1 (E d p left).2.2
  simp only [nodeF,Ex.sizes,List.length_cons,Nat.add_mul,Nat.one_mul]
  omega
theorem exprF_size(zs:List Int)(env:List (ByteArray × Int))(n:Nat):∀(dim:Int) (p:Nat) (left:Int),(exprF zs env n dim p left).1.size≤costN n:=by
 induction n with
 |zero=>intro dim p left;have:=leafF_size zs env dim p left;simp only [exprF,costN];omega
 |succ n ih=>
  intro dim p left
  have h8:=costN_8 n
  rw [exprF,costN]
  split
  ·have:=leafF_size zs env dim p left;omega
  ·cases h:prodF zs p dim with
   |none=>have:=leafF_size zs env dim (p+1) (left-2);simp only;omega
   |some t=>
    obtain⟨op,ds,q⟩:=t
    have a:=prodF_bd zs p dim h
    have b:=nodeF_sizes (exprF zs env n) (costN n) ih ds q (left-2)
    have c:ds.length*costN n≤3*costN n:=Nat.mul_le_mul_right _ a.2.2
    simp only [Ex.size]
    omega
def topF(zs:List Int)(env:List (ByteArray × Int))(dim:Int):Ex:=
 if validB (exprF zs env 5 dim 0 24).1=true then(exprF zs env 5 dim 0 24).1 else(leafF zs env dim (exprF zs env 5 dim 0 24).2.1 0).1
theorem topF_yes{zs:List Int}{env:List (ByteArray × Int)}{dim:Int}{e:Ex}{r:Nat × Int}(h:exprF zs env 5 dim 0 24=(e,r))(hv:validB e=true):topF zs env dim=e:=by
 unfold topF;rw [h,if_pos hv]
theorem topF_no{zs:List Int}{env:List (ByteArray × Int)}{dim:Int}{e:Ex}{p':Nat}{l':Int}(h:exprF zs env 5 dim 0 24=(e,p',l'))(hv:validB e=false):topF zs env dim=(leafF zs env dim p' 0).1:=by
 unfold topF;rw [h,if_neg (by simp [hv])]
theorem ListAt.other{w:World}{s s':Nat}{lv:Value}{zs:List Int}(h:ListAt w s lv zs)(hs:w.heap.size≤s'):ListAt w s' lv zs:=by
 obtain⟨h0,a,cap,hv,h1⟩:=h
 refine⟨h0,a,cap,hv,h1.imp id ?_⟩
 rintro⟨b,off,ha,hb,hbs,hcc⟩
 exact⟨b,off,ha,hb,by omega,hcc⟩
theorem EnvAt.other{w:World}{s s':Nat}{v:Value}{env:List (ByteArray × Int)}(h:EnvAt w s v env)(hs:w.heap.size≤s'):EnvAt w s' v env:=by
 obtain⟨h0,hn,a,cap,hv,h1⟩:=h
 refine⟨h0,hn,a,cap,hv,h1.imp id ?_⟩
 rintro⟨b,off,ha,hb,hbs,hcc⟩
 exact⟨b,off,ha,hb,by omega,hcc⟩
theorem src_new'(w:World)(lv:Value)(p left:Int)(H:Nat)(hH:w.heap.size=H):(w.alloc (.cells #[lv,.int .i64 p,.int .i64 left] 91)).src H lv p left=w.alloc (.cells #[lv,.int .i64 p,.int .i64 left] 91):=by
 subst hH;exact World.src_new w lv p left

def MadeEx(w:World)(E:Ex)(e:Ending)(w':World):Prop:=∃v,e= .returned (exV E v)∧w.Grows w'∧RepE (fun b=>w.heap.size≤b) w' E v
theorem Expr_any(lv ev:Value)(zs:List Int)(env:List (ByteArray × Int))(dim:Int)(w:World)(hl0:ListAt w w.heap.size lv zs)(he0:EnvAt w w.heap.size ev env)(hd1:1≤dim)(hd4:dim≤4) :
 Calls Tryz.prog 9 #[lv,.int .i64 dim,ev] w (MadeEx w (topF zs env dim)):=by
 have hl:=Lib.hid (hl0.other (s':=w.heap.size+1) (by omega))
 have he:=Lib.hid (he0.other (s':=w.heap.size+1) (by omega))
 have hlf:=hl0
 obtain⟨-,la,lc,hlv,-⟩:=hlf
 subst hlv
 clear hl0 he0
 have hrb:=exprF_bd zs env 5 dim 0 24
 have hsz:=exprF_size zs env 5 dim 0 24
 have hc5:costN 5=2307:=rfl
 rw [hc5]at hrb hsz
 generalize hR:exprF zs env 5 dim 0 24=r at hrb hsz
 have HR:=Lib.hid hR
 clear hR hc5
 obtain⟨E,p',l'⟩:=r
 simp only at hrb hsz
 have HSZ:=Lib.hid (show E.size≤2305843009213693952 by omega)
 clear hsz
 go_enter Tryz.func9,Tryz.ntmps9
 go_wp2_with fail
 refine(ExprOK.call (expr_ok (w.heap.size+1) _ _ zs env 5 (by omega)) dim 0 0 24 1 _ _ HR rfl (by omega) hd1 hd4 (by simp) (src_new' _ _ _ _ _ (by simp)) (Lib.hid (by(repeat' (first|(with_reducible exact hl.out)|(with_reducible refine ListAt.alloc ?_ _)|(with_reducible refine ListAt.grow ?_ _ _)|(with_reducible refine ListAt.drewN ?_ _)|(with_reducible refine ListAt.src ?_ _ _ _))))) (Lib.hid (by(repeat' (first|(with_reducible exact he.out)|(with_reducible refine EnvAt.alloc ?_ _)|(with_reducible refine EnvAt.grow ?_ _ _)|(with_reducible refine EnvAt.drewN ?_ _)|(with_reducible refine EnvAt.src ?_ _ _ _))))) (by decide) (by decide) (by omega)).mono ?_
 rintro e' w' ⟨v,bs,d,rfl,rfl,hrep⟩
 obtain⟨va,vc,hv⟩:=hrep.form
 subst hv
 have REP:Hid (RepE (fun b=>w.heap.size+2≤b) ((((w.alloc (.cells #[.int .i64 0,.int .i64 0,.int .i64 0,.int .i64 0,.string ⟨#[]⟩,.slice none 0 0] 27)).alloc (.cells #[.slice la zs.length lc,.int .i64 0,.int .i64 24] 91)).src (w.heap.size+1) (.slice la zs.length lc) p' l').grow bs d) E (.slice va E.args.length vc)):=Lib.hid (hrep.mono fun b hb=>by simpa using hb)
 clear hrep
 cases hb:validB E
 ·have HB:=Lib.hid hb
  have HT:=Lib.hid (topF_no HR.out hb)
  clear hb
  go_wp2_with fail
  refine(ValidExpr_any _ E _ _ (Lib.hid (REP.out.alloc _)) HSZ).mono ?_
  rintro e' w' ⟨rfl,bs2,d2,rfl⟩
  simp only [HB.out]
  go_wp2_with fail
  have hlb:=leafF_size zs env dim p' 0
  generalize hL:leafF zs env dim p' 0=q at HT hlb
  have HL:=Lib.hid hL
  clear hL hlb
  obtain⟨E2,p2,l2⟩:=q
  refine(leaf_any (w.heap.size+1) (.slice la zs.length lc) zs p' _ 0 dim _ env _ rfl hd1 hd4 (by simp;omega) (by simp [go_sem]) (Lib.hid (by(repeat' (first|(with_reducible exact hl.out)|(with_reducible refine ListAt.alloc ?_ _)|(with_reducible refine ListAt.grow ?_ _ _)|(with_reducible refine ListAt.drewN ?_ _)|(with_reducible refine ListAt.src ?_ _ _ _))))) (Lib.hid (by(repeat' (first|(with_reducible exact he.out)|(with_reducible refine EnvAt.alloc ?_ _)|(with_reducible refine EnvAt.grow ?_ _ _)|(with_reducible refine EnvAt.drewN ?_ _)|(with_reducible refine EnvAt.src ?_ _ _ _))))) (by omega) (by omega) (by omega)).mono ?_
  rintro e' w' ⟨v2,bs3,d3,rfl,rfl,hrep2⟩
  obtain⟨v2a,v2c,hv2⟩:=hrep2.form
  subst hv2
  rw [HL.out]at hrep2
  simp only [HL.out]
  have H2:=Lib.hid (hrep2.eqw (w':=(((((w.alloc (.cells #[.int .i64 0,.int .i64 0,.int .i64 0,.int .i64 0,.string ⟨#[]⟩,.slice none 0 0] 27)).alloc (.cells #[.slice la zs.length lc,.int .i64 0,.int .i64 24] 91)).src (w.heap.size+1) (.slice la zs.length lc) p2 l2).grow bs d).alloc (.cells #[.int .i64 E.op,.int .i64 E.num,.int .i64 E.den,.int .i64 E.dim,.string E.name,.slice va E.args.length vc] 27)).grow (bs2++bs3) d3) (by simp [go_sem]))
  clear hrep2
  go_wp2_with fail
  go_returns
  refine⟨_,by rw [HT.out],.of_below (by(repeat' (first|(with_reducible exact Below.refl _ _)|(with_reducible assumption)|(with_reducible refine Below.grow ?_ ?_ _ _)|(with_reducible refine Below.alloc ?_ ?_ _)|(with_reducible refine Below.drewN ?_ _)|(with_reducible refine Below.drew ?_)|(with_reducible refine Below.src ?_ ?_ _ _ _)|(with_reducible refine Below.setCell ?_ ?_ _)|go_size))), ?_⟩
  rw [HT.out]
  refine(H2.out.lift0 ?_ ?_ _).mono ?_
  all_goals first
   |(intro b hb;simp at hb;omega)
   |(intro b hb;omega)
   |(simp;done)
   |(simp;omega)
 ·have HB:=Lib.hid hb
  have HT:=Lib.hid (topF_yes HR.out hb)
  clear hb
  go_wp2_with fail
  refine(ValidExpr_any _ E _ _ (Lib.hid (REP.out.alloc _)) HSZ).mono ?_
  rintro e' w' ⟨rfl,bs2,d2,rfl⟩
  simp only [HB.out]
  go_wp2_with fail
  go_returns
  refine⟨_,by rw [HT.out],.of_below (by(repeat' (first|(with_reducible exact Below.refl _ _)|(with_reducible assumption)|(with_reducible refine Below.grow ?_ ?_ _ _)|(with_reducible refine Below.alloc ?_ ?_ _)|(with_reducible refine Below.drewN ?_ _)|(with_reducible refine Below.drew ?_)|(with_reducible refine Below.src ?_ ?_ _ _ _)|(with_reducible refine Below.setCell ?_ ?_ _)|go_size))), ?_⟩
  rw [HT.out]
  refine((((REP.out.lift0 ?_ ?_ d).alloc _).grow _ _).mono ?_)
  all_goals first
   |(intro b hb;simp at hb;omega)
   |(intro b hb;omega)
   |(simp;done)
   |(simp;omega)

structure RowG(T:TypeId)(c:Nat)(base:Nat)(w:World)(v:Value)(l:List (List Value))(rs:List (Ex × Value)):Prop where
 own:w.ownsRow base T c v l.length l.flatten
 len:∀x∈l,x.length=c
 rep:∀x∈rs,RepE (fun b=>base≤b∧v.ownBlock≠some b) w x.1 x.2
section
variable {T : TypeId} {c base : Nat} {w w' : World} {v : Value} {l : List (List Value)} {rs : List (Ex × Value)}
theorem RowG.nil(T:TypeId)(c base:Nat)(w:World):RowG T c base w (.slice none 0 0) [] []:=⟨World.ownsRow_nil _ _ _ _,fun _ h=>by(cases h),fun _ h=>by(cases h)⟩
theorem RowG.keep(h:RowG T c base w v l rs)(hsz:w.heap.size≤w'.heap.size)(hw:∀k,base≤k→k<w.heap.size→w'.heap[k]? =w.heap[k]?):RowG T c base w' v l rs:=
 ⟨ownsRow_keep h.own hw,h.len,fun x hx=>(h.rep x hx).keep hsz fun b o hb hlt=>World.cell?_of_block (hw b hb.1 hlt)⟩
theorem RowG.alloc(h:RowG T c base w v l rs)(o:Obj):RowG T c base (w.alloc o) v l rs:=h.keep (by simp) fun k _ hlt=>Below.heap_alloc w o k hlt
theorem RowG.grow(h:RowG T c base w v l rs)(bs:Array Obj)(d:Nat):RowG T c base (w.grow bs d) v l rs:=h.keep (by simp) fun k _ hlt=>World.heap_grow _ _ _ hlt
theorem RowG.drewN(h:RowG T c base w v l rs)(n:Nat):RowG T c base (w.drewN n) v l rs:=h.keep (Nat.le_refl _) fun _ _ _=>rfl
theorem RowG.setCell(h:RowG T c base w v l rs){a:Addr}(ha:a.block<base)(u:Value):RowG T c base (w.setCell a u) v l rs:=
 h.keep (by simp) fun k hk _=>Below.heap_setCell _ _ _ _ (by omega)
theorem RowG.lt(h:RowG T c base w v l rs):∀k,v.ownBlock=some k→base≤k∧k<w.heap.size:=h.own.lt
theorem RowG.form(h:RowG T c base w v l rs):∃a cap,v= .slice a l.length cap:=by
 exact tz55
theorem flatten_get(l:List (List Value))(c:Nat)(h:∀x∈l,x.length=c)(i j:Nat)(hj:j<c)(hi:i<l.length):l.flatten[i*c+j]? =(l.getD i [])[j]?:=by
 induction l generalizing i with
 |nil=>simp at hi
 |cons x r ih=>
  have hx:=h x (List.mem_cons_self)
  rw [List.flatten_cons]
  cases i with
  |zero=>rw [List.getElem?_append_left (by omega)];simp
  |succ i=>
   rw [List.getElem?_append_right (by rw [hx,Nat.add_mul];omega),List.getD_cons_succ,←ih (fun y hy=>h y (List.mem_cons_of_mem _ hy)) i (by simpa using hi)]
   congr 1;rw [hx,Nat.add_mul];omega
theorem RowG.cells(h:RowG T c base w v l rs):∃a cap,v= .slice a l.length cap∧(l.length=0∨∃g,a=some ⟨g,0,none⟩∧base≤g∧g<w.heap.size∧∀i j u,i<l.length→j<c→(l.getD i [])[j]? =some u→w.cell? ⟨g,i*c+j,none⟩=some u):=by
 rcases h.own.2 with ⟨rfl,h0⟩|⟨g,cap,cur,rfl,hb,hg,_⟩
 ·exact⟨none,0,by rw [h0],.inl h0⟩
 ·refine⟨_,cap,rfl,.inr ⟨g,rfl,hb,(Array.getElem?_eq_some_iff.1 hg).1,fun i j u hi hj hu=>?_⟩⟩
  have:=World.ownsRow.cells (g:=g) h.own rfl (i*c+j) u (by rw [flatten_get l c h.len i j hj hi];exact hu)
  rw [addr_add]at this;exact this
theorem RowG.push{news:List Value}{rs2:List (Ex × Value)}{m g cap H n:Nat}{xs:List Value}(h:RowG T c base w v l rs)(hr:∀x∈rs2,RepE (fun b=>m≤b) w x.1 x.2)(hm:base≤m)(hv:∀k,v.ownBlock=some k→k<m)
 (hc:news.length=c) (hn:n=l.length+1) (hxs:xs=l.flatten++news) (ho:w'.ownsRow base T c (.slice (some ⟨g,0,none⟩) n cap) n xs) (hg:w.grownBy w' v.ownBlock) (hat:v.ownBlock=some g∨g=H) (hH:w.heap.size=H) :
 RowG T c base w' (.slice (some ⟨g,0,none⟩) n cap) (l++[news]) (rs++rs2):=by
 subst hH hn hxs
 refine⟨by rw [List.length_append,List.flatten_append];simpa using ho,fun x hx=>?_,fun x hx=>?_⟩
 ·rw [List.mem_append]at hx
  rcases hx with hx|hx
  ·exact h.len x hx
  ·obtain rfl:x=news:=by simpa using hx
   exact hc
 ·have key:∀(e':Ex) (u:Value),RepE (fun b=>base≤b∧v.ownBlock≠some b) w e' u→RepE (fun b=>base≤b∧(Value.slice (some ⟨g,0,none⟩) (l.length+1) cap).ownBlock≠some b) w' e' u:=by
   exact tz21
  rw [List.mem_append]at hx
  rcases hx with hx|hx
  ·exact key _ _ (h.rep x hx)
  ·exact key _ _ ((hr x hx).mono fun b hb=>⟨by omega,fun e=>by have:=hv b e;omega⟩)
end

structure RawV where
 frm:Int
 mode:Int
 unit:Int
 credits:List Int
 series:List Int
 lets:List (List Int)
 ifs:List (List Int)
 pays:List (List Int)
 cuts:List (List Int)
 twist:Int
def RowsAt(w:World)(v:Value)(zss:List (List Int)):Prop:=
 zss.length≤140737488355328∧∃a cap,v= .slice a zss.length cap∧(zss.length=0∨∃b off,a=some ⟨b,off,none⟩∧b<w.heap.size∧∀i,i<zss.length→∃u,w.cell? ⟨b,off+i,none⟩=some u∧IntsAt w u (zss.getD i []))
def RawAt(w:World)(cs:List Value)(R:RawV):Prop:=
 I64 R.frm∧I64 R.mode∧I64 R.unit∧I64 R.twist∧∃vc vs vl vi vp vu,cs= [.int .i64 R.frm,.int .i64 R.mode,.int .i64 R.unit,vc,vs,vl,vi,vp,vu,.int .i64 R.twist]∧
  IntsAt w vc R.credits∧IntsAt w vs R.series∧RowsAt w vl R.lets∧RowsAt w vi R.ifs∧RowsAt w vp R.pays∧RowsAt w vu R.cuts
def letN(i:Nat):ByteArray:=⟨#[(112+i % 8).toUInt8,95,(48+i / 8).toUInt8]⟩
def unitOf(i:Int):Int:=if i<2 then 1 else if i=2 then 10 else if i=3 then 100 else 7
def kindOf(i:Int):Int:=if i=0 then 6 else if i=1 then 9 else if i=2 then 7 else if i=3 then 8 else if i=4 then 10 else 5
def credK(R:RawV)(i:Nat):Int:=kindOf ((i+pick (R.credits.getD 0 0) 6) % 6)
def credL(R:RawV)(i:Nat):Int:=if(R.credits.getD i 0).tmod 3=0 then pick (R.credits.getD i 0) 900+1 else 0
def serY(R:RawV)(i:Nat):Int:=1930+25*i+pick (R.series.getD i 0) 20
def serN(R:RawV)(i:Nat):Int:=mkN (pick (R.series.getD i 0) 4000+1) 1000
def serD(R:RawV)(i:Nat):Int:=mkD (pick (R.series.getD i 0) 4000+1) 1000
def letD(R:RawV)(i:Nat):Int:=1+((R.lets.getD i []).length % 4:Nat)
def envF(R:RawV)(k:Nat):List (ByteArray × Int):=(List.range k).map fun i=>(letN i,letD R i)
def nCred(R:RawV):Nat:=min R.credits.length 4
def nSer(R:RawV):Nat:=min R.series.length 6
def nLet(R:RawV):Nat:=min R.lets.length 5
def nPay(R:RawV):Nat:=min R.pays.length 3
def nCut(R:RawV):Nat:=min R.cuts.length 2
def letE(R:RawV)(i:Nat):Ex:=topF (R.lets.getD i []) (envF R i) (letD R i)
def payE(R:RawV)(i:Nat):Ex:=topF (R.pays.getD i []) (envF R (nLet R)) 4
def ifE(R:RawV)(i:Nat):Ex:=topF (R.ifs.getD i []) (envF R (nLet R)) 1
def cutE(R:RawV)(i:Nat):Ex:=topF (R.cuts.getD i []) (envF R (nLet R)) 2
theorem envF_succ(R:RawV)(k:Nat):envF R (k+1)=envF R k++[(letN k,letD R k)]:=by simp [envF,List.range_succ]
theorem envF_length(R:RawV)(k:Nat):(envF R k).length=k:=by simp [envF]
theorem letN_size(i:Nat):(letN i).size=3:=rfl
theorem three_bytes(w:World)(a b c:Int):(convert 184 9 (.slice (some ⟨w.heap.size,0,none⟩) 3 3)).run Tryz.prog (w.alloc (.cells #[.int .u8 a,.int .u8 b,.int .u8 c] 5))= .ok (.string (strOfNums [a,b,c])) (w.alloc (.cells #[.int .u8 a,.int .u8 b,.int .u8 c] 5)):=by
 refine run_convert_bytes_arg (P:=Tryz.prog) _ 184 5 Tryz.underlying184 Tryz.underlying5 w.heap.size 0 3 3 [a,b,c] rfl (fun i hi=>?_) 9 Tryz.underlying9
 obtain rfl|rfl|rfl:i=0∨i=1∨i=2:=by omega
 ·rw [World.cell?_alloc_at _ _ _ _ rfl];rfl
 ·rw [World.cell?_alloc_at _ _ _ _ rfl];rfl
 ·rw [World.cell?_alloc_at _ _ _ _ rfl];rfl
theorem letName_0(w:World):Calls Tryz.prog 62 #[.int .i64 0] w fun e w'=>e= .returned (.string (letN 0))∧w.Grows w':=by
 have kc:=three_bytes w 112 95 48
 exact tz24
theorem letName_1(w:World):Calls Tryz.prog 62 #[.int .i64 1] w fun e w'=>e= .returned (.string (letN 1))∧w.Grows w':=by
 have kc:=three_bytes w 113 95 48
 exact tz24
theorem letName_2(w:World):Calls Tryz.prog 62 #[.int .i64 2] w fun e w'=>e= .returned (.string (letN 2))∧w.Grows w':=by
 have kc:=three_bytes w 114 95 48
 exact tz24
theorem letName_3(w:World):Calls Tryz.prog 62 #[.int .i64 3] w fun e w'=>e= .returned (.string (letN 3))∧w.Grows w':=by
 have kc:=three_bytes w 115 95 48
 exact tz24
theorem letName_4(w:World):Calls Tryz.prog 62 #[.int .i64 4] w fun e w'=>e= .returned (.string (letN 4))∧w.Grows w':=by
 have kc:=three_bytes w 116 95 48
 exact tz24
theorem letName_any(k:Nat)(w:World)(hk:k<5):Calls Tryz.prog 62 #[.int .i64 k] w fun e w'=>e= .returned (.string (letN k))∧w.Grows w':=by
 obtain rfl|rfl|rfl|rfl|rfl:k=0∨k=1∨k=2∨k=3∨k=4:=by omega
 ·exact letName_0 w
 ·exact letName_1 w
 ·exact letName_2 w
 ·exact letName_3 w
 ·exact letName_4 w

structure RowX(T:TypeId)(c base:Nat)(X:Nat→Prop)(w:World)(v:Value)(l:List (List Value))(rs:List (Ex × Value)):Prop where
 own:w.ownsRow base T c v l.length l.flatten
 len:∀x∈l,x.length=c
 ownX:∀k,v.ownBlock=some k→X k
 rep:∀x∈rs,RepE (fun b=>(base≤b∧X b)∧v.ownBlock≠some b) w x.1 x.2
section
variable {T : TypeId} {c base : Nat} {X X' : Nat → Prop} {w w' : World} {v : Value} {l : List (List Value)} {rs : List (Ex × Value)}
theorem RowX.nil(T:TypeId)(c base:Nat)(X:Nat→Prop)(w:World):RowX T c base X w (.slice none 0 0) [] []:=⟨World.ownsRow_nil _ _ _ _,fun _ h=>by(cases h),fun _ h=>by(cases h),fun _ h=>by(cases h)⟩
theorem RowX.toG(h:RowX T c base X w v l rs):RowG T c base w v l rs:=⟨h.own,h.len,fun x hx=>(h.rep x hx).mono fun _ hb=>⟨hb.1.1,hb.2⟩⟩
theorem RowX.keep(h:RowX T c base X w v l rs)(hsz:w.heap.size≤w'.heap.size)(hw:∀k,base≤k→X k→k<w.heap.size→w'.heap[k]? =w.heap[k]?):RowX T c base X w' v l rs:=by
 refine⟨?_,h.len,h.ownX,fun x hx=>(h.rep x hx).keep hsz fun b o hb hlt=>World.cell?_of_block (hw b hb.1.1 hb.1.2 hlt)⟩
 obtain⟨h1,h2⟩:=h.own
 refine⟨h1, ?_⟩
 rcases h2 with h2|⟨g,cap,cur,rfl,hb,hg,r⟩
 ·exact .inl h2
 ·have hlt:g<w.heap.size:=(Array.getElem?_eq_some_iff.1 hg).1
  exact .inr ⟨g,cap,cur,rfl,hb,by rw [hw g hb (h.ownX g rfl) hlt];exact hg,r⟩
theorem RowX.alloc(h:RowX T c base X w v l rs)(o:Obj):RowX T c base X (w.alloc o) v l rs:=h.keep (by simp) fun k _ _ hlt=>Below.heap_alloc w o k hlt
theorem RowX.grow(h:RowX T c base X w v l rs)(bs:Array Obj)(d:Nat):RowX T c base X (w.grow bs d) v l rs:=h.keep (by simp) fun k _ _ hlt=>World.heap_grow _ _ _ hlt
theorem RowX.drew(h:RowX T c base X w v l rs):RowX T c base X w.drew v l rs:=h.keep (Nat.le_refl _) fun _ _ _ _=>rfl
theorem RowX.setCell(h:RowX T c base X w v l rs){a:Addr}(ha:a.block<base)(u:Value):RowX T c base X (w.setCell a u) v l rs:=
 h.keep (by simp) fun k hk _ _=>Below.heap_setCell _ _ _ _ (by omega)
theorem RowX.grown{row:Option Nat}(h:RowX T c base X w v l rs)(hg:w.grownBy w' row)(hr:∀b,X b→some b≠row):RowX T c base X w' v l rs:=
 h.keep hg.size fun k _ hX hlt=>hg.block k hlt (hr k hX)
theorem RowX.mono(h:RowX T c base X w v l rs)(hX:∀b,X b→b<w.heap.size→X' b):RowX T c base X' w v l rs:=
 ⟨h.own,h.len,fun k hk=>hX k (h.ownX k hk) (h.own.lt k hk).2,fun x hx=>(h.rep x hx).mono' fun b hb hlt=>⟨⟨hb.1.1,hX b hb.1.2 hlt⟩,hb.2⟩⟩
theorem RowX.form(h:RowX T c base X w v l rs):∃a cap,v= .slice a l.length cap:=h.toG.form
theorem RowX.lt(h:RowX T c base X w v l rs):∀k,v.ownBlock=some k→base≤k∧k<w.heap.size:=h.own.lt
theorem RowX.push{news:List Value}{rs2:List (Ex × Value)}{m g cap H n:Nat}{xs:List Value}(h:RowX T c base X w v l rs)(hr:∀x∈rs2,RepE (fun b=>m≤b) w x.1 x.2)(hm:base≤m)(hXm:∀b,m≤b→X b)(hv:∀k,v.ownBlock=some k→k<m)
 (hc:news.length=c) (hn:n=l.length+1) (hxs:xs=l.flatten++news) (ho:w'.ownsRow base T c (.slice (some ⟨g,0,none⟩) n cap) n xs) (hg:w.grownBy w' v.ownBlock) (hat:v.ownBlock=some g∨g=H) (hH:w.heap.size=H) (hmH:m≤H) :
 RowX T c base X w' (.slice (some ⟨g,0,none⟩) n cap) (l++[news]) (rs++rs2):=by
 subst hH hn hxs
 refine⟨by rw [List.length_append,List.flatten_append];simpa using ho,fun x hx=>?_,fun k hk=>?_,fun x hx=>?_⟩
 ·rw [List.mem_append]at hx
  rcases hx with hx|hx
  ·exact h.len x hx
  ·obtain rfl:x=news:=by simpa using hx
   exact hc
 ·obtain rfl:g=k:=by simpa [Value.ownBlock]using hk
  rcases hat with hat|hat
  ·exact h.ownX _ hat
  ·exact hXm _ (by omega)
 ·have key:∀(e':Ex) (u:Value),RepE (fun b=>(base≤b∧X b)∧v.ownBlock≠some b) w e' u→RepE (fun b=>(base≤b∧X b)∧(Value.slice (some ⟨g,0,none⟩) (l.length+1) cap).ownBlock≠some b) w' e' u:=by
   intro e' u hu
   refine(hu.mono' (S':=fun b=>((base≤b∧X b)∧v.ownBlock≠some b)∧g≠b) ?_|>.keep hg.size ?_).mono ?_
   ·rintro b ⟨h1,h2⟩ hlt
    refine⟨⟨h1,h2⟩, ?_⟩
    rcases hat with hat|hat
    ·intro e;exact h2 (by rw [hat,e])
    ·omega
   ·rintro b o ⟨⟨_,h2⟩,_⟩ hlt
    exact World.cell?_of_block (hg.block b hlt (Ne.symm h2))
   ·rintro b ⟨⟨h1,_⟩,h3⟩
    exact⟨h1,by simpa [Value.ownBlock]using h3⟩
  rw [List.mem_append]at hx
  rcases hx with hx|hx
  ·exact key _ _ (h.rep x hx)
  ·exact key _ _ ((hr x hx).mono fun b hb=>⟨⟨by omega,hXm b hb⟩,fun e=>by have:=hv b e;omega⟩)
end
def letL(q:List (ByteArray × (Ex × Value))):List (List Value):=q.map fun t=>.string t.1::cells1 t.2.1 t.2.2
def LetQ(R:RawV)(k:Nat)(q:List (ByteArray × (Ex × Value))):Prop:=q.map (fun t=>(t.1,t.2.1))=(List.range k).map fun i=>(letN i,letE R i)
theorem LetQ.nil(R:RawV):LetQ R 0 []:=rfl
theorem LetQ.length{R:RawV}{k:Nat}{q:List (ByteArray × (Ex × Value))}(h:LetQ R k q):q.length=k:=by
 have:=congrArg List.length h
 simpa using this
theorem LetQ.push{R:RawV}{k:Nat}{q:List (ByteArray × (Ex × Value))}(h:LetQ R k q)(v:Value):LetQ R (k+1) (q++[(letN k,(letE R k,v))]):=by
 unfold LetQ at *
 exact tz57
theorem letL_push(q:List (ByteArray × (Ex × Value)))(s:ByteArray)(e:Ex)(v:Value):letL (q++[(s,(e,v))])=letL q++[.string s::cells1 e v]:=by simp [letL]
def envL(env:List (ByteArray × Int)):List (List Value):=env.map fun b=>[.string b.1,.int .i64 b.2]
theorem envL_push(env:List (ByteArray × Int))(s:ByteArray)(d:Int):envL (env++[(s,d)])=envL env++[[.string s,.int .i64 d]]:=by simp [envL]
theorem envF_size(R:RawV)(k:Nat):∀x∈envF R k,x.1.size≤140737488355328:=by
 intro x hx
 unfold envF at hx
 rw [List.mem_map]at hx
 obtain⟨i,_,rfl⟩:=hx
 show(letN i).size≤_
 rw [letN_size];omega
theorem EnvAt.of_row{w:World}{base T:Nat}{v:Value}{env:List (ByteArray × Int)}(h:RowG T 2 base w v (envL env) [])(hl:env.length≤1000)(hs:∀x∈env,x.1.size≤140737488355328):EnvAt w w.heap.size v env:=by
 obtain⟨a,cap,hv,hc⟩:=h.cells
 have hlen:(envL env).length=env.length:=by simp [envL]
 rw [hlen]at hv hc
 refine⟨hl,hs,a,cap,hv,hc.imp id ?_⟩
 rintro⟨g,ha,hb,hlt,hx⟩
 refine⟨g,0,ha,hlt,by omega,fun i hi=>?_⟩
 have hget:(envL env).getD i []= [.string (env.getD i noBind).1,.int .i64 (env.getD i noBind).2]:=by
  simp only [envL,List.getD_eq_getElem?_getD,List.getElem?_map,List.getElem?_eq_getElem hi];rfl
 refine⟨?_, ?_⟩
 ·have:=hx i 0 (.string (env.getD i noBind).1) hi (by omega) (by rw [hget];rfl)
  rw [show 0+i*2=i*2+0 by omega];exact this
 ·have:=hx i 1 (.int .i64 (env.getD i noBind).2) hi (by omega) (by rw [hget];rfl)
  rw [show 0+i*2+1=i*2+1 by omega];exact this
theorem ListAt.of_ints{w W:World}{u:Value}{zs:List Int}(h:IntsAt w u zs)(hb:Below w.heap.size w W):ListAt W W.heap.size u zs:=by
 obtain⟨h0,_,a,cap,hv,h1⟩:=h
 refine⟨h0,a,cap,hv,h1.imp id ?_⟩
 rintro⟨b,off,ha,hlt,hc⟩
 have:=hb.size
 exact⟨b,off,ha,by omega,by omega,fun i hi=>by rw [hb.cell (by exact hlt)];exact hc i hi⟩
theorem IntsAt.form{w:World}{u:Value}{zs:List Int}(h:IntsAt w u zs):∃a cap,u= .slice a zs.length cap:=by
 obtain⟨_,_,a,cap,hv,_⟩:=h
 exact⟨a,cap,hv⟩
structure OfAt(w:World)(cs:Array Value)(g:Nat)(os:Array Value)(wr:World):Prop where
 bel:Below w.heap.size w wr
 box:wr.heap[w.heap.size]? =some (.cells cs 49 (0,0))
 res:wr.heap[w.heap.size+1]? =some (.cells #[.int .i64 0,.int .i64 0,.int .i64 0,.slice none 0 0,.slice none 0 0,.slice none 0 0,.slice none 0 0,.slice none 0 0] 82 (0,0))
 out:wr.heap[g]? =some (.cells os 82 (0,0))
 gge:w.heap.size+2≤g
section
variable {w wr w1 : World} {cs os : Array Value} {g : Nat}
theorem OfAt.lt(h:OfAt w cs g os wr):g<wr.heap.size:=(Array.getElem?_eq_some_iff.1 h.out).1
theorem OfAt.lt0(h:OfAt w cs g os wr):w.heap.size+1<wr.heap.size:=(Array.getElem?_eq_some_iff.1 h.res).1
theorem OfAt.of_blocks(h:OfAt w cs g os wr)(hb:Below w.heap.size w w1)(h1:∀k,k=w.heap.size∨k=w.heap.size+1∨k=g→w1.heap[k]? =wr.heap[k]?):OfAt w cs g os w1:=
 ⟨hb,by rw [h1 _ (.inl rfl)];exact h.box,by rw [h1 _ (.inr (.inl rfl))];exact h.res,by rw [h1 _ (.inr (.inr rfl))];exact h.out,h.gge⟩
theorem OfAt.kept(h:OfAt w cs g os wr)(hb:Below w.heap.size w w1)(h1:∀k,k<wr.heap.size→k=w.heap.size∨k=w.heap.size+1∨k=g→w1.heap[k]? =wr.heap[k]?):OfAt w cs g os w1:=by
 have a:=h.lt
 have b:=h.lt0
 refine h.of_blocks hb fun k hk=>h1 k ?_ hk
 rcases hk with rfl|rfl|rfl<;>omega
theorem OfAt.alloc(h:OfAt w cs g os wr)(o:Obj):OfAt w cs g os (wr.alloc o):=
 h.kept (h.bel.alloc h.bel.size o) fun k hk _=>Below.heap_alloc wr o k hk
theorem OfAt.grow(h:OfAt w cs g os wr)(bs:Array Obj)(d:Nat):OfAt w cs g os (wr.grow bs d):=
 h.kept (h.bel.grow h.bel.size bs d) fun k hk _=>World.heap_grow _ _ _ hk
theorem OfAt.drewN(h:OfAt w cs g os wr)(n:Nat):OfAt w cs g os (wr.drewN n):=h.kept (h.bel.drewN n) fun _ _ _=>rfl
theorem OfAt.grown{row:Option Nat}(h:OfAt w cs g os wr)(hg:wr.grownBy w1 row)(hr:∀k,row=some k→g<k∧w.heap.size+2≤k):OfAt w cs g os w1:=
 h.kept (h.bel.grown hg h.bel.size fun k hk=>by have:=hr k hk;omega) fun k hk hk2=>hg.block k hk fun e=>by
  have:=hr k e.symm
  have:=h.gge
  rcases hk2 with rfl|rfl|rfl<;>omega
theorem OfAt.store(h:OfAt w cs g os wr)(i:Nat)(v:Value):OfAt w cs g (os.setIfInBounds i v) (wr.setCell ⟨g,i,none⟩ v):=
 ⟨h.bel.setCell (by have:=h.gge;show w.heap.size≤g;omega) v,by rw [Below.heap_setCell _ _ _ _ (by have:=h.gge;show w.heap.size≠g;omega)];exact h.box,by rw [Below.heap_setCell _ _ _ _ (by have:=h.gge;show w.heap.size+1≠g;omega)];exact h.res,Joins.block_setCell h.out v,h.gge⟩
end
section
variable {g : Nat} {a b c : World}
theorem RowG.next{T:TypeId}{n base:Nat}{v:Value}{l:List (List Value)}{rs:List (Ex × Value)}(h:RowG T n base a v l rs)(hn:Next g a b)(hb:g<base):RowG T n base b v l rs:=
 h.keep hn.size fun k hk hlt=>hn.blk k hlt (by omega)
end
theorem OfAt.drew{w wr:World}{cs os:Array Value}{g:Nat}(h:OfAt w cs g os wr):OfAt w cs g os wr.drew:=h.kept h.bel.drew fun _ _ _=>rfl
theorem RowG.drew{T:TypeId}{c base:Nat}{w:World}{v:Value}{l:List (List Value)}{rs:List (Ex × Value)}(h:RowG T c base w v l rs):RowG T c base w.drew v l rs:=h.keep (Nat.le_refl _) fun _ _ _=>rfl
theorem RowG.upto{T:TypeId}{c base:Nat}{w:World}{v:Value}{l:List (List Value)}{rs:List (Ex × Value)}(h:RowG T c base w v l rs):RowX T c base (· <w.heap.size) w v l rs:=
 ⟨h.own,h.len,fun k hk=>(h.lt k hk).2,fun x hx=>(h.rep x hx).mono' fun b hb hlt=>⟨⟨hb.1,hlt⟩,hb.2⟩⟩
theorem RowX.next{g T n base:Nat}{X:Nat→Prop}{a b:World}{v:Value}{l:List (List Value)}{rs:List (Ex × Value)}(h:RowX T n base X a v l rs)(hn:Next g a b)(hb:g<base):RowX T n base X b v l rs:=
 h.keep hn.size fun k hk _ hlt=>hn.blk k hlt (by omega)

def raw10(R:RawV)(vc vs vl vi vp vu:Value):Array Value:=#[.int .i64 R.frm,.int .i64 R.mode,.int .i64 R.unit,vc,vs,vl,vi,vp,vu,.int .i64 R.twist]
theorem heap_drew'(w:World):w.drew.heap=w.heap:=rfl
def credCells(R:RawV)(k:Nat):List (List Value):=(List.range k).map fun i=>[.int .i64 (credK R i),.int .i64 (credL R i)]
theorem credCells_succ(R:RawV)(k:Nat):credCells R (k+1)=credCells R k++[[.int .i64 (credK R k),.int .i64 (credL R k)]]:=by simp [credCells,List.range_succ]
theorem credCells_length(R:RawV)(k:Nat):(credCells R k).length=k:=by simp [credCells]
theorem kinds_get(i:Int)(h0:0≤i)(h6:i<6):(#[Value.int .i64 6,.int .i64 9,.int .i64 7,.int .i64 8,.int .i64 10,.int .i64 5]:Array Value)[i.toNat]? =some (.int .i64 (kindOf i)):=by
 obtain rfl|rfl|rfl|rfl|rfl|rfl:i=0∨i=1∨i=2∨i=3∨i=4∨i=5:=by omega
 all_goals rfl
def serCells(R:RawV)(k:Nat):List (List Value):=(List.range k).map fun i=>[.int .i64 (serY R i),.int .i64 (serN R i),.int .i64 (serD R i)]
theorem serCells_succ(R:RawV)(k:Nat):serCells R (k+1)=serCells R k++[[.int .i64 (serY R k),.int .i64 (serN R k),.int .i64 (serD R k)]]:=by simp [serCells,List.range_succ]
theorem serCells_length(R:RawV)(k:Nat):(serCells R k).length=k:=by simp [serCells]
theorem infoIdx:(Tryz.prog.info? 135).map (fun i=>(i.zero,i.size,i.bytes))=some (some (.agg #[.int .i64 0,.int .i64 0,.int .i64 0]),3,24):=by kernel_rfl
theorem infoCred:(Tryz.prog.info? 133).map (fun i=>(i.zero,i.size,i.bytes))=some (some (.agg #[.int .i64 0,.int .i64 0]),2,16):=by kernel_rfl
def kindsO:Obj:=.cells #[.int .i64 6,.int .i64 9,.int .i64 7,.int .i64 8,.int .i64 10,.int .i64 5] 3
theorem OfAt.start_a(w:World)(cs os:Array Value)(A:Obj):OfAt w cs (w.heap.size+1+1+1) os ((((w.alloc (.cells cs 49)).alloc ((.cells #[.int .i64 0,.int .i64 0,.int .i64 0,.slice none 0 0,.slice none 0 0,.slice none 0 0,.slice none 0 0,.slice none 0 0] 82))).alloc A).alloc (.cells os 82)).drew:=
 ⟨by(exact belB),by rw [heap_drew'];(repeat(first|(rw [heap_alloc_if,if_pos (by simp;done)];done)|(rw [heap_alloc_if,if_neg (by simp;omega)])|(rw [heap_alloc_if,if_neg (by simp;done)]))),by rw [heap_drew'];(repeat(first|(rw [heap_alloc_if,if_pos (by simp;done)];done)|(rw [heap_alloc_if,if_neg (by simp;omega)])|(rw [heap_alloc_if,if_neg (by simp;done)]))),by rw [heap_drew'];(repeat(first|(rw [heap_alloc_if,if_pos (by simp;done)];done)|(rw [heap_alloc_if,if_neg (by simp;omega)])|(rw [heap_alloc_if,if_neg (by simp;done)]))),by omega⟩
theorem OfAt.start_b(w:World)(cs os:Array Value)(A:Obj):OfAt w cs (w.heap.size+1+1) os ((((w.alloc (.cells cs 49)).alloc ((.cells #[.int .i64 0,.int .i64 0,.int .i64 0,.slice none 0 0,.slice none 0 0,.slice none 0 0,.slice none 0 0,.slice none 0 0] 82))).alloc (.cells os 82)).alloc A).drew:=
 ⟨by(exact belB),by rw [heap_drew'];(repeat(first|(rw [heap_alloc_if,if_pos (by simp;done)];done)|(rw [heap_alloc_if,if_neg (by simp;omega)])|(rw [heap_alloc_if,if_neg (by simp;done)]))),by rw [heap_drew'];(repeat(first|(rw [heap_alloc_if,if_pos (by simp;done)];done)|(rw [heap_alloc_if,if_neg (by simp;omega)])|(rw [heap_alloc_if,if_neg (by simp;done)]))),by rw [heap_drew'];(repeat(first|(rw [heap_alloc_if,if_pos (by simp;done)];done)|(rw [heap_alloc_if,if_neg (by simp;omega)])|(rw [heap_alloc_if,if_neg (by simp;done)]))),by omega⟩
theorem arr_at(W:World)(pu:Int)(H:Nat)(hH:W.heap.size=H)(h0:0≤pu)(h5:pu<5):(W.alloc (.cells #[.int .i64 1,.int .i64 1,.int .i64 10,.int .i64 100,.int .i64 7] 3)).cell? ⟨H,pu.toNat,none⟩=some (.int .i64 (unitOf pu)):=by
 subst hH
 rw [World.cell?_alloc_at _ _ _ _ rfl]
 obtain rfl|rfl|rfl|rfl|rfl:pu=0∨pu=1∨pu=2∨pu=3∨pu=4:=by omega
 all_goals rfl
theorem infoLet:(Tryz.prog.info? 63).map (fun i=>(i.zero,i.size,i.bytes))=some (some (.agg #[.string ⟨#[]⟩,.int .i64 0,.int .i64 0,.int .i64 0,.int .i64 0,.string ⟨#[]⟩,.slice none 0 0]),7,88):=by kernel_rfl
theorem infoBind:(Tryz.prog.info? 106).map (fun i=>(i.zero,i.size,i.bytes))=some (some (.agg #[.string ⟨#[]⟩,.int .i64 0]),2,24):=by kernel_rfl
theorem Expr_any2(lv ev:Value)(zs:List Int)(env:List (ByteArray × Int))(dim:Int)(E:Ex)(w:World)(hl0:ListAt w w.heap.size lv zs)(he0:EnvAt w w.heap.size ev env)(hd1:1≤dim)(hd4:dim≤4)(hE:Hid (topF zs env dim=E)) :
 Calls Tryz.prog 9 #[lv,.int .i64 dim,ev] w (MadeEx w E):=by
 have:=Expr_any lv ev zs env dim w hl0 he0 hd1 hd4
 rw [hE.out]at this
 exact this
theorem RowG.toX{T:TypeId}{c base:Nat}{X:Nat→Prop}{w:World}{v:Value}{l:List (List Value)}(h:RowG T c base w v l [])(hX:∀k,v.ownBlock=some k→X k):RowX T c base X w v l []:=
 ⟨h.own,h.len,hX,fun x hx=>by cases hx⟩
theorem let_one(s:ByteArray)(e:Ex)(v:Value)(hv:v.oneCell'=true):∀u∈(Value.string s::cells1 e v),u.oneCell'=true:=by
 intro u hu
 rcases List.mem_cons.1 hu with rfl|hu
 ·rfl
 ·exact cells1_one _ _ hv u hu
theorem rep_one{S:Nat→Prop}{w:World}{e:Ex}{v:Value}(h:RepE S w e v):∀x∈[(e,v)],RepE S w x.1 x.2:=by
 intro x hx
 obtain rfl:x=(e,v):=by simpa using hx
 exact h
theorem apart_new{o:Option Nat}{g H:Nat}{w:World}(h:o=some g∨g=H)(hH:w.heap.size=H):∀b,o≠some b→b<w.heap.size→(o≠some b∧b≠g):=by
 intro b hb hl
 refine⟨hb,fun e=>?_⟩
 rcases h with h|h
 ·exact hb (by rw [h,e])
 ·omega
abbrev GrT:=Int × (Ex × Value) × (Ex × Value)
def grL(q:List GrT):List (List Value):=q.map fun t=>.int .i64 t.1::(cells1 t.2.1.1 t.2.1.2++cells1 t.2.2.1 t.2.2.2)
def grR(q:List GrT):List (Ex × Value):=q.flatMap fun t=>[t.2.1,t.2.2]
def GrQ(R:RawV)(k:Nat)(q:List GrT):Prop:=q.map (fun t=>(t.1,t.2.1.1,t.2.2.1))=(List.range k).map fun(i:Nat)=>((i:Int)+1,ifE R i,payE R i)
theorem GrQ.length{R:RawV}{k:Nat}{q:List GrT}(h:GrQ R k q):q.length=k:=by
 have:=congrArg List.length h
 simpa using this
theorem GrQ.push{R:RawV}{k:Nat}{q:List GrT}(h:GrQ R k q)(v u:Value):GrQ R (k+1) (q++[((k:Int)+1,(ifE R k,v),(payE R k,u))]):=by
 unfold GrQ at *
 exact tz57
theorem grL_push(q:List GrT)(t:GrT):grL (q++[t])=grL q++[.int .i64 t.1::(cells1 t.2.1.1 t.2.1.2++cells1 t.2.2.1 t.2.2.2)]:=by simp [grL]
theorem grR_push(q:List GrT)(t:GrT):grR (q++[t])=grR q++[t.2.1,t.2.2]:=by simp [grR]
theorem infoGrant:(Tryz.prog.info? 86).map (fun i=>(i.zero,i.size,i.bytes))=some (some (.agg #[.int .i64 0,.int .i64 0,.int .i64 0,.int .i64 0,.int .i64 0,.string ⟨#[]⟩,.slice none 0 0,.int .i64 0,.int .i64 0,.int .i64 0,.int .i64 0,.string ⟨#[]⟩,.slice none 0 0]),13,152):=by kernel_rfl
theorem gr_one(b:Int)(e f:Ex)(v u:Value)(hv:v.oneCell'=true)(hu:u.oneCell'=true):∀x∈(Value.int .i64 b::(cells1 e v++cells1 f u)),x.oneCell'=true:=by
 intro x hx
 rcases List.mem_cons.1 hx with rfl|hx
 ·rfl
 ·rcases List.mem_append.1 hx with hx|hx
  ·exact cells1_one _ _ hv x hx
  ·exact cells1_one _ _ hu x hx
theorem rep_two{S:Nat→Prop}{w:World}{e f:Ex}{v u:Value}(h:RepE S w e v)(h2:RepE S w f u):∀x∈[(e,v),(f,u)],RepE S w x.1 x.2:=by
 intro x hx
 simp only [List.mem_cons,List.not_mem_nil,or_false]at hx
 rcases hx with rfl|rfl
 ·exact h
 ·exact h2
theorem ListAt.nil(w:World)(s:Nat):ListAt w s (.slice none 0 0) []:=⟨by simp,none,0,rfl,.inl rfl⟩
def reL(q:List (Int × (Ex × Value))):List (List Value):=q.map fun t=>.int .i64 t.1::cells1 t.2.1 t.2.2
def ReQ(R:RawV)(k:Nat)(q:List (Int × (Ex × Value))):Prop:=q.map (fun t=>(t.1,t.2.1))=(List.range k).map fun(i:Nat)=>((i:Int)+1,cutE R i)
theorem ReQ.length{R:RawV}{k:Nat}{q:List (Int × (Ex × Value))}(h:ReQ R k q):q.length=k:=by
 have:=congrArg List.length h
 simpa using this
theorem ReQ.push{R:RawV}{k:Nat}{q:List (Int × (Ex × Value))}(h:ReQ R k q)(v:Value):ReQ R (k+1) (q++[((k:Int)+1,(cutE R k,v))]):=by
 unfold ReQ at *
 exact tz57
theorem reL_push(q:List (Int × (Ex × Value)))(b:Int)(e:Ex)(v:Value):reL (q++[(b,(e,v))])=reL q++[.int .i64 b::cells1 e v]:=by simp [reL]
theorem re_one(b:Int)(e:Ex)(v:Value)(hv:v.oneCell'=true):∀u∈(Value.int .i64 b::cells1 e v),u.oneCell'=true:=by
 intro u hu
 rcases List.mem_cons.1 hu with rfl|hu
 ·rfl
 ·exact cells1_one _ _ hv u hu
theorem infoReduce:(Tryz.prog.info? 138).map (fun i=>(i.zero,i.size,i.bytes))=some (some (.agg #[.int .i64 0,.int .i64 0,.int .i64 0,.int .i64 0,.int .i64 0,.string ⟨#[]⟩,.slice none 0 0]),7,80):=by kernel_rfl
def tlC:Code→Code
 | .seq _ b=>b
 |c=>c

structure VerP where
 frm:Int
 mode:Int
 unit:Int
 cr:List (Int × Int)
 se:List (Int × Int × Int)
 le:List (ByteArray × Ex)
 gr:List (Int × Ex × Ex)
 re:List (Int × Ex)
def crL(l:List (Int × Int)):List (List Value):=l.map fun t=>[.int .i64 t.1,.int .i64 t.2]
def seL(l:List (Int × Int × Int)):List (List Value):=l.map fun t=>[.int .i64 t.1,.int .i64 t.2.1,.int .i64 t.2.2]
def madeP(R:RawV):VerP:=
 ⟨pick R.frm 73049,pick R.mode 4+1,unitOf (pick R.unit 5),(List.range (nCred R)).map fun i=>(credK R i,credL R i),(List.range (nSer R)).map fun i=>(serY R i,serN R i,serD R i),
  (List.range (nLet R)).map fun i=>(letN i,letE R i),(List.range (nPay R)).map fun(i:Nat)=>((i:Int)+1,ifE R i,payE R i),(List.range (nCut R)).map fun(i:Nat)=>((i:Int)+1,cutE R i)⟩
def laterE:Ex:=.mk 2 0 0 0 ⟨#[108,97,116,101,114]⟩ []
def ageN:ByteArray:=⟨#[97,103,101]⟩
def twistP(n:Int)(V:VerP):VerP:=
 if n=0 then {V with gr:=match V.gr with|t::r=>(t.1,t.2.1,t.2.1)::r| []=>[]}
 else if n=1 then {V with gr:=match V.gr with|t::u::r=>t::(t.1,u.2)::r|l=>l}
 else if n=2 then {V with le:=match V.le with|t::u::r=>t::(t.1,u.2)::r|l=>l}
 else if n=3 then {V with le:=match V.le with|t::r=>(t.1,laterE)::r| []=>[]}
 else if n=4 then {V with se:=match V.se with|t::u::r=>t::(t.1,u.2)::r|l=>l}
 else if n=5 then {V with cr:=match V.cr with|t::u::r=>t::(t.1,u.2)::r|l=>l}
 else {V with le:=match V.le with|t::r=>(ageN,t.2)::r| []=>[]}
def ofP(R:RawV):VerP:=if R.twist=0 then madeP R else if R.twist.tmod 8=0 then twistP (pick (R.twist.tdiv 8) 7) (madeP R)else madeP R

structure VerQ(B:Nat)(w:World)(cr:List (Int × Int))(se:List (Int × Int × Int))(ql:List (ByteArray × (Ex × Value)))(qg:List GrT)(qr:List (Int × (Ex × Value)))(v3 v4 v5 v6 v7:Value)(H1 H2 H3 H4 H5:Nat):Prop where
 ord:B≤H1∧H1≤H2∧H2≤H3∧H3≤H4∧H4≤H5
 r1:RowX 133 2 H1 (· <H2) w v3 (crL cr) []
 r2:RowX 135 3 H2 (· <H3) w v4 (seL se) []
 r3:RowX 63 7 H3 (· <H4) w v5 (letL ql) (ql.map (·.2))
 r4:RowX 86 13 H4 (· <H5) w v6 (grL qg) (grR qg)
 r5:RowG 138 7 H5 w v7 (reL qr) (qr.map (·.2))
def VerAt(B:Nat)(w:World)(V:VerP)(v3 v4 v5 v6 v7:Value):Prop:=
 ∃ql qg qr H1 H2 H3 H4 H5,ql.map (fun t=>(t.1,t.2.1))=V.le∧qg.map (fun t=>(t.1,t.2.1.1,t.2.2.1))=V.gr∧qr.map (fun t=>(t.1,t.2.1))=V.re∧VerQ B w V.cr V.se ql qg qr v3 v4 v5 v6 v7 H1 H2 H3 H4 H5
def OfPost(R:RawV)(w:World)(e:Ending)(w':World):Prop:=
 ∃v3 v4 v5 v6 v7,e= .returned (.agg #[.int .i64 (ofP R).frm,.int .i64 (ofP R).mode,.int .i64 (ofP R).unit,v3,v4,v5,v6,v7])∧w.Grows w'∧VerAt w.heap.size w' (ofP R) v3 v4 v5 v6 v7

theorem crL_made(R:RawV):crL (madeP R).cr=credCells R (nCred R):=by simp [crL,madeP,credCells]
theorem seL_made(R:RawV):seL (madeP R).se=serCells R (nSer R):=by simp [seL,madeP,serCells]
theorem twistP_frm(n:Int)(V:VerP):(twistP n V).frm=V.frm∧(twistP n V).mode=V.mode∧(twistP n V).unit=V.unit:=by
 unfold twistP
 repeat' split
 all_goals exact⟨rfl,rfl,rfl⟩
theorem made_lens(R:RawV):(madeP R).cr.length≤1000∧(madeP R).se.length≤1000∧(madeP R).le.length≤1000∧(madeP R).gr.length≤1000:=by
 simp only [madeP,List.length_map,List.length_range]
 unfold nCred nSer nLet nPay
 omega
theorem ofP_0{R:RawV}(h:R.twist=0):ofP R=madeP R:=by unfold ofP;rw [if_pos h]
theorem ofP_1{R:RawV}(h:¬R.twist=0)(h2:¬R.twist.tmod 8=0):ofP R=madeP R:=by unfold ofP;rw [if_neg h,if_neg h2]
theorem ofP_2{R:RawV}(h:¬R.twist=0)(h2:R.twist.tmod 8=0):ofP R=twistP (pick (R.twist.tdiv 8) 7) (madeP R):=by unfold ofP;rw [if_neg h,if_pos h2]
theorem there_of_block{w:World}{b:Nat}{cs:Array Value}{t:TypeId}(hb:w.heap[b]? =some (.cells cs t (0,0)))(n:Nat)(hn:cs.size=n):w.there b 0 n:=fun j hj=>by
 rw [Nat.zero_add,cell_of_row _ _ _ _ _ _ hb,Array.getElem?_eq_getElem (by omega)]
 exact⟨rfl,Joins.unfrozen_of_block hb j⟩
theorem info34:(Tryz.prog.info? 82).map (·.size)=some 8:=by kernel_rfl
theorem tdiv8_in{z:Int}(h:I64 z):IntKind.i64.wrap (z.tdiv 8)=z.tdiv 8:=IntWalk.i64_in _ (by
 obtain⟨a,b⟩:=h
 rcases Int.le_total 0 z with hz|hz
 ·rw [Int.tdiv_eq_ediv_of_nonneg hz];omega
 ·have e:z.tdiv 8= -((-z).tdiv 8):=by rw [Int.neg_tdiv,Int.neg_neg]
  rw [e,Int.tdiv_eq_ediv_of_nonneg (by omega)];omega)
theorem flatten_set(l:List (List Value))(c i j:Nat)(u:Value)(h:∀x∈l,x.length=c)(hj:j<c)(hi:i<l.length):l.flatten.set (i*c+j) u=(l.set i ((l.getD i []).set j u)).flatten:=by
 induction l generalizing i with
 |nil=>simp at hi
 |cons x r ih=>
  have hx:=h x (List.mem_cons_self)
  cases i with
  |zero=>
   simp only [List.flatten_cons,List.set_cons_zero,List.getD_cons_zero,Nat.zero_mul,Nat.zero_add]
   rw [List.set_append_left _ _ (by omega)]
  |succ i=>
   simp only [List.flatten_cons,List.set_cons_succ,List.getD_cons_succ]
   rw [List.set_append_right _ _ (by rw [hx,Nat.add_mul];omega),←ih i (fun y hy=>h y (List.mem_cons_of_mem _ hy)) (by simpa using hi)]
   congr 2;rw [hx,Nat.add_mul];omega
section
variable {T : TypeId} {c base g n cap : Nat} {X : Nat → Prop} {w : World} {l : List (List Value)} {rs rs' : List (Ex × Value)}
theorem RowX.stored(h:RowX T c base X w (.slice (some ⟨g,0,none⟩) n cap) l rs)(hn:n=l.length)(i j k:Nat)(hk:k=i*c+j)(hj:j<c)(hi:i<l.length)(u:Value)(hr:∀x∈rs',x∈rs∨RepE (fun b=>(base≤b∧X b)∧g≠b) w x.1 x.2) :
 RowX T c base X (w.setCell ⟨g,k,none⟩ u) (.slice (some ⟨g,0,none⟩) n cap) (l.set i ((l.getD i []).set j u)) rs':=by
 subst hn hk
 refine⟨?_,fun x hx=>?_,h.ownX,fun x hx=>?_⟩
 ·have:=(h.own.stored (i*c+j) u).1
  rw [flatten_set l c i j u h.len hj hi]at this
  rw [List.length_set];exact this
 ·rcases List.mem_or_eq_of_mem_set hx with hx|rfl
  ·exact h.len x hx
  ·rw [List.length_set,List.getD_eq_getElem?_getD,List.getElem?_eq_getElem hi];exact h.len _ (List.getElem_mem hi)
 ·have hrep:RepE (fun b=>(base≤b∧X b)∧g≠b) w x.1 x.2:=by
   rcases hr x hx with h2|h2
   ·exact(h.rep x h2).mono fun b hb=>⟨hb.1,fun e=>hb.2 (by rw [e];rfl)⟩
   ·exact h2
  refine(hrep.keep (by simp) fun b o hb hlt=>World.cell?_of_block (Below.heap_setCell _ _ _ _ (Ne.symm hb.2))).mono fun b hb=>⟨hb.1,fun e=>hb.2 (by simpa [Value.ownBlock]using e)⟩
theorem RowX.apart(h:RowX T c base X w (.slice (some ⟨g,0,none⟩) n cap) l rs):base≤g∧X g∧g<w.heap.size:=⟨(h.own.lt g rfl).1,h.ownX g rfl,(h.own.lt g rfl).2⟩
theorem RowX.kept{b o:Nat}{v:Value}(h:RowX T c base X w v l rs)(hb:¬(base≤b∧X b))(u:Value):RowX T c base X (w.setCell ⟨b,o,none⟩ u) v l rs:=
 h.keep (by simp) fun k hk hX _=>Below.heap_setCell _ _ _ _ (fun e=>hb ⟨(show k=b from e) ▸ hk,(show k=b from e) ▸ hX⟩)
theorem RowG.kept{b o:Nat}{v:Value}(h:RowG T c base w v l rs)(hb:b<base)(u:Value):RowG T c base (w.setCell ⟨b,o,none⟩ u) v l rs:=h.setCell hb u
theorem RowX.block{v:Value}(h:RowX T c base X w v l rs)(h0:0<l.length):∃g cap,v= .slice (some ⟨g,0,none⟩) l.length cap:=by
 rcases h.own.2 with ⟨_,h1⟩|⟨g,cap,cur,rfl,_⟩
 ·omega
 ·exact⟨g,cap,rfl⟩
theorem RowX.cellAt(h:RowX T c base X w (.slice (some ⟨g,0,none⟩) n cap) l rs)(hn:n=l.length)(i j:Nat)(hj:j<c)(hi:i<l.length):w.cell? ⟨g,i*c+j,none⟩=(l.getD i [])[j]?:=by
 subst hn
 rw [h.own.cellAt (i*c+j) (by have:=Nat.mul_le_mul_right c (show i+1≤l.length from hi);rw [Nat.add_mul]at this;omega),flatten_get l c h.len i j hj hi]
end
theorem RepE.drew{S:Nat→Prop}{w:World}{e:Ex}{v:Value}(h:RepE S w e v):RepE S w.drew e v:=h.keep (Nat.le_refl _) fun _ _ _ _=>rfl
theorem RowE.grow{m:Nat}{w:World}{v:Value}{l:List (Ex × Value)}(h:RowE m w v l)(bs:Array Obj)(d:Nat):RowE m (w.grow bs d) v l:=h.keep (by simp) fun k _ hlt=>World.heap_grow w bs d hlt
theorem cell_blk{w w':World}{b:Nat}(h:w'.heap[b]? =w.heap[b]?)(o:Nat):w'.cell? ⟨b,o,none⟩=w.cell? ⟨b,o,none⟩:=World.cell?_of_block h
theorem Ex.arg_take(e:Ex)(k:Nat)(hk:k<e.args.length):e.args.take (k+1)=e.args.take k++[e.arg k]:=Ex.take_succ e.args k hk
theorem cclone_walk(n:Nat):∀(e:Ex),e.size≤n→∀(S:Nat→Prop) (v:Value) (w:World),RepE S w e v→Hid (e.size≤1000000)→Calls Tryz.prog 36 #[exV e v] w (MadeEx w e):=by
 induction n with
 |zero=>intro e he;have:=e.size_pos;omega
 |succ n ih=>
  intro e he S v w h hbig
  have IH:=Lib.hid ih
  clear ih
  obtain⟨i0,hi,hz0,hz1,hz2⟩:=info_parts infoExpr
  cases h with
  |mk _ a cap vs hr hc hs=>
   have hlen:e.args.length≤1000000:=by have:=hbig.out;have:=e.size_eq;have:=Ex.length_sizes e.args;omega
   have Hr:=Lib.hid hr
   have Hs:=Lib.hid hs
   have He:=Lib.hid he
   have Hc:=Lib.hid hc
   clear hr hs he hc
   go_enter Tryz.func36,Tryz.ntmps36
   go_wp2_with fail
   go_loopw [11] (fun v11 wr=>∃k:Nat,∃l:List (Ex × Value),∃va:Value,∃bs d,k≤e.args.length∧v11= .int .i64 k∧Hid (l.map (·.1)=e.args.take k)∧l.length=k∧
    wr=((w.alloc (.cells #[.int .i64 e.op,.int .i64 e.num,.int .i64 e.den,.int .i64 e.dim,.string e.name,va] 27)).alloc ((.cells #[.int .i64 0,.int .i64 0,.int .i64 0,.int .i64 0,.string ⟨#[]⟩,.slice none 0 0] 27))).grow bs d∧RowE (w.heap.size+2) wr va l) (fun v11 _=>e.args.length-(intOf v11).toNat)
   case atStart=>exact⟨0,[],.slice none 0 0,#[],_,by omega,rfl,Lib.hid rfl,rfl,World.grow_self _,.nil _ _⟩
   case round=>
    obtain⟨k,l,va,bs,d,hk,rfl,HN,hll,rfl,hrow⟩:=hrel
    by_cases hlt:k<e.args.length
    ·rcases Hc.out with h0|⟨b,off,rfl,hS,hbw,hx⟩
     ·omega
     ·obtain⟨x0,x1,x2,x3,x4,x5⟩:=hx k hlt
      clear hx
      have hlt1:(k:Int)<(e.args.length:Int):=by omega
      have hr1:=Hs.out k hlt
      obtain⟨ka,kc,hvk⟩:=hr1.form0
      rw [hvk]at hr1 x5
      have HR1:=Lib.hid hr1
      clear hvk hr1
      have HA:=Lib.hid (e.size_arg k hlt)
      have HZ:=Lib.hid (show(e.arg k).size≤n by have:=He.out;have:=HA.out;omega)
      have HB:=Lib.hid (show(e.arg k).size≤1000000 by have:=hbig.out;have:=HA.out;omega)
      have HT:=Lib.hid (e.arg_take k hlt)
      generalize e.arg k=y at *
      have HROW:=Lib.hid hrow
      have hvb:=hrow.lt
      have HVB:=Lib.hid hvb
      obtain⟨aa,acap,hva⟩:=hrow.form
      rw [hll]at hva
      subst hva
      have HLL:=Lib.hid hll
      clear hrow hvb hll
      go_wp2_with fail
      refine TG.begin 7 (fun w'=>w'.cell? ⟨w.heap.size,5,none⟩=some (.slice aa k acap)∧w'.cell? ⟨w.heap.size+1+1+bs.size,0,none⟩=some (.int .i64 y.op)∧w'.cell? ⟨w.heap.size+1+1+bs.size,1,none⟩=some (.int .i64 y.num)∧w'.cell? ⟨w.heap.size+1+1+bs.size,2,none⟩=some (.int .i64 y.den)∧w'.cell? ⟨w.heap.size+1+1+bs.size,3,none⟩=some (.int .i64 y.dim)∧w'.cell? ⟨w.heap.size+1+1+bs.size,4,none⟩=some (.string y.name)∧w'.cell? ⟨w.heap.size+1+1+bs.size,5,none⟩=some (.slice ka y.args.length kc)) (by kernel_rfl) (by kernel_rfl) ?_ (fun hS=>?_)
      focus(refine⟨?_, ?_, ?_, ?_, ?_, ?_, ?_⟩<;>simp [go_sem])
      refine TG.tkB 0 hS ?_
      refine TG.tkB 1 hS ?_
      refine TG.tkB 2 hS ?_
      refine TG.one (i:=3) (by kernel_rfl) rfl (fun K1 hK1=>?_)
      go_simp
      go_at_call 36
      refine(IH.out y HZ.out S (.slice ka y.args.length kc) _ (by(repeat' (first|(with_reducible exact HR1.out)|(with_reducible refine RepE.alloc ?_ _)|(with_reducible refine RepE.grow ?_ _ _)|(with_reducible refine RepE.drewN ?_ _)|(with_reducible refine RepE.drew ?_)))) HB).mono ?_
      rintro e' w' ⟨ve,rfl,⟨bs2,d2,rfl⟩,hrep⟩
      obtain⟨v1a,v1c,hv1⟩:=hrep.form
      subst hv1
      have H1:=Lib.hid ((hrep.eqw (w':=(((((w.alloc (.cells #[.int .i64 e.op,.int .i64 e.num,.int .i64 e.den,.int .i64 e.dim,.string e.name,.slice aa k acap] 27)).alloc (.cells #[.int .i64 0,.int .i64 0,.int .i64 0,.int .i64 0,.string ⟨#[]⟩,.slice none 0 0] 27)).grow bs d).alloc (.cells #[.int .i64 y.op,.int .i64 y.num,.int .i64 y.den,.int .i64 y.dim,.string y.name,.slice ka y.args.length kc] 27))).grow bs2 d2) (by simp)).mono (S':=fun b=>w.heap.size+1+1+bs.size+1≤b) (fun b hb=>by simpa using hb))
      clear hrep
      (try simp only [World.drew_grow])
      refine TG.go hK1 ?_ (fun hS=>?_)
      focus
       (try dsimp only)
       (refine⟨?_, ?_, ?_, ?_, ?_, ?_, ?_⟩<;>simp [go_sem])
      clear hK1 K1
      (try simp only [nS])
      refine TG.one (i:=4) (by kernel_rfl) rfl (fun K1 hK1=>?_)
      go_simp
      refine TG.go hK1 ?_ (fun hS=>?_)
      focus
       (try dsimp only)
       (refine⟨?_, ?_, ?_, ?_, ?_, ?_, ?_⟩<;>simp [go_sem])
      clear hK1 K1
      (try simp only [nS])
      refine TG.one (i:=5) (by kernel_rfl) rfl (fun K1 hK1=>?_)
      refine step_append_lies _ rfl _ _ 25 rfl (w.heap.size+2) 27 i0 _ 6 72 Tryz.underlying25 hi hz0 hz1 hz2 rfl (by decide) _ _ _ rfl (((HROW.out.alloc ((.cells #[.int .i64 y.op,.int .i64 y.num,.int .i64 y.den,.int .i64 y.dim,.string y.name,.slice ka y.args.length kc] 27))).grow bs2 d2).alloc ((.cells #[.int .i64 y.op,.int .i64 y.num,.int .i64 y.den,.int .i64 y.dim,.string y.name,.slice v1a y.args.length v1c] 27))).own ⟨w.heap.size+1+1+bs.size+1+bs2.size,0,none⟩ 1 1 [.int .i64 y.op,.int .i64 y.num,.int .i64 y.den,.int .i64 y.dim,.string y.name,.slice v1a y.args.length v1c] rfl rfl ?_ ?_ (by decide) ?_ ?_ ?_ (w.heap.size+1+1+bs.size+1+bs2.size+1) (by simp) ?_
      focus exact fun j u hu=>news_cells _ [.int .i64 y.op,.int .i64 y.num,.int .i64 y.den,.int .i64 y.dim,.string y.name,.slice v1a y.args.length v1c] 27 _ (by simp) j u hu
      focus exact cells1_one y _ rfl
      focus(have:=HLL.out;unfold maxLen;omega)
      focus(have:=HLL.out;omega)
      focus(simp;omega)
      intro g' cap w1 hown' hgrow hat hlt'
      have R1:=RowE.push (m:=w.heap.size+1+1+bs.size+1) (((HROW.out.alloc ((.cells #[.int .i64 y.op,.int .i64 y.num,.int .i64 y.den,.int .i64 y.dim,.string y.name,.slice ka y.args.length kc] 27))).grow bs2 d2).alloc ((.cells #[.int .i64 y.op,.int .i64 y.num,.int .i64 y.den,.int .i64 y.dim,.string y.name,.slice v1a y.args.length v1c] 27))) (H1.out.alloc ((.cells #[.int .i64 y.op,.int .i64 y.num,.int .i64 y.den,.int .i64 y.dim,.string y.name,.slice v1a y.args.length v1c] 27))) (by omega) (fun j hj=>by have:=(HVB.out j hj).2;simp at this;omega) (by rw [HLL.out]) rfl hown' hgrow hat (by simp)
      have G1:=World.Grows.of_below (w:=((w.alloc (.cells #[.int .i64 e.op,.int .i64 e.num,.int .i64 e.den,.int .i64 e.dim,.string e.name,.slice aa k acap] 27)).alloc (.cells #[.int .i64 0,.int .i64 0,.int .i64 0,.int .i64 0,.string ⟨#[]⟩,.slice none 0 0] 27))) (((((Below.refl _ _).grow (Nat.le_refl _) bs d).alloc (by simp) ((.cells #[.int .i64 y.op,.int .i64 y.num,.int .i64 y.den,.int .i64 y.dim,.string y.name,.slice ka y.args.length kc] 27))).grow (by simp;omega) bs2 d2).alloc (by simp;omega) ((.cells #[.int .i64 y.op,.int .i64 y.num,.int .i64 y.den,.int .i64 y.dim,.string y.name,.slice v1a y.args.length v1c] 27))|>.grown hgrow (by simp;omega) (fun j hj=>by have:=(HVB.out j hj).1;simpa using this))
      have hne:=fun(b:Nat) (hb:b<w.heap.size+2∨b=w.heap.size+1+1+bs.size) (hbl:b<w.heap.size+1+1+bs.size+1) (o:Nat)=>cell_blk (hgrow.block b (by simp;omega) (fun e=>by have:=HVB.out _ e.symm;simp at this;omega)) o
      have s0:w1.cell? ⟨w.heap.size,5,none⟩=some (.slice aa k acap):=(hne _ (.inl (by omega)) (by omega) 5).trans (by simp [go_sem])
      have s1:w1.cell? ⟨w.heap.size+1+1+bs.size,0,none⟩=some (.int .i64 y.op):=(hne _ (.inr rfl) (by omega) 0).trans (by simp [go_sem])
      have s2:w1.cell? ⟨w.heap.size+1+1+bs.size,1,none⟩=some (.int .i64 y.num):=(hne _ (.inr rfl) (by omega) 1).trans (by simp [go_sem])
      have s3:w1.cell? ⟨w.heap.size+1+1+bs.size,2,none⟩=some (.int .i64 y.den):=(hne _ (.inr rfl) (by omega) 2).trans (by simp [go_sem])
      have s4:w1.cell? ⟨w.heap.size+1+1+bs.size,3,none⟩=some (.int .i64 y.dim):=(hne _ (.inr rfl) (by omega) 3).trans (by simp [go_sem])
      have s5:w1.cell? ⟨w.heap.size+1+1+bs.size,4,none⟩=some (.string y.name):=(hne _ (.inr rfl) (by omega) 4).trans (by simp [go_sem])
      have s6:w1.cell? ⟨w.heap.size+1+1+bs.size,5,none⟩=some (.slice ka y.args.length kc):=(hne _ (.inr rfl) (by omega) 5).trans (by simp [go_sem])
      clear hown' hgrow hat hlt' hne
      obtain⟨bs3,d3,rfl⟩:=G1
      have HR9:=Lib.hid R1
      clear R1
      (try simp only [nS])
      refine TG.go hK1 ?_ (fun hS=>?_)
      focus exact⟨s0,s1,s2,s3,s4,s5,s6⟩
      clear hK1 K1 s0 s1 s2 s3 s4 s5 s6
      (try simp only [nS])
      refine TG.tkB 6 hS ?_
      refine TG.one (i:=7) (by kernel_rfl) rfl (fun K1 hK1=>?_)
      go_simp
      refine hK1 _ _ (fun h=>absurd rfl h) (TG.done (by kernel_rfl) ?_)
      clear hK1 K1 hS
      (try simp only [nS])
      go_wp2_with fail
      go_roundw
      case rel=>exact⟨k+1,l++[(y,.slice v1a y.args.length v1c)],_,bs3,d3,by omega,by go_num,Lib.hid (by rw [List.map_append,HN.out,HT.out];rfl),by simp;exact HLL.out,rfl,HR9.out.lift0 (by simp) (by simp) d3⟩
      case measure=>simp [intOf];omega
    ·obtain rfl:k=e.args.length:=by omega
     have HROW:=Lib.hid hrow
     have HN2:=Lib.hid (HN.out.trans (List.take_length))
     obtain⟨aa,acap,rfl⟩:=hrow.form
     clear hrow HN
     go_wp2_with fail
     go_returns
     have R3:=(HROW.out.lift0 (A':=(w.alloc (.cells #[.int .i64 e.op,.int .i64 e.num,.int .i64 e.den,.int .i64 e.dim,.string e.name,.slice aa l.length acap] 27)).alloc (.cells #[.int .i64 e.op,.int .i64 e.num,.int .i64 e.den,.int .i64 e.dim,.string e.name,.slice aa l.length acap] 27)) (by simp) (by simp) d).repE (e:=e) Hr.out HN2.out.symm
     rw [hll]at R3
     exact⟨_,rfl,.of_below belB,R3.mono fun b hb=>by show w.heap.size≤b;omega⟩
theorem cclone_any{S:Nat→Prop}{e:Ex}{v:Value}{w:World}(h:RepE S w e v)(hb:Hid (e.size≤1000000)):Calls Tryz.prog 36 #[exV e v] w (MadeEx w e):=cclone_walk e.size e (Nat.le_refl _) S v w h hb
end Go.Proofs.YtfoefpoaomepbaaGreatDoor
