import Derived.Test.YtcfpoofhokbhlaaGreatDoorVExpr
import Derived.Test.YtcfpoofhokbhlaaGreatDoorVForm
set_option linter.all false
set_option maxHeartbeats 16000000
set_option maxRecDepth 1000000
namespace Go
open Go.RowKit
@[go_sem] theorem World.setCell_src_other{w:World}{s:Nat}{lv:Value}{p left:Int}{b i:Nat}(h:b≠s)(v:Value):(w.src s lv p left).setCell ⟨b,i,none⟩ v=(w.setCell ⟨b,i,none⟩ v).src s lv p left:=by
  simp only [World.src,World.setCell]
  congr 1
  apply Array.ext_getElem?;intro k;simp only [Array.getElem?_modify,Array.getElem?_setIfInBounds,Array.size_modify];by_cases hk:b=k
  ·subst hk;simp [Ne.symm h]
  ·simp [hk]
theorem RowKit.Below.src{B:Nat}{a w:World}{s:Nat}(h:Below B a w)(hB:B<=s)(lv:Value)(p left:Int):Below B a (w.src s lv p left):=
 h.trans ⟨rfl,rfl,rfl,by simp,fun k hk=>World.heap_src_other ze⟩
end Go
namespace Go.Proofs.YtcfpoofhokbhlaaGreatDoor
open Tryz List
open Go.RowKit

theorem uG(zs:List Int)(env:List (ByteArray × Int))(p:Nat)(dim:Int):(fG zs env p dim).1.size=1:=by
 unfold fG
 split
 ·simp [Ex.size,Ex.sizes]
 ·split<;>simp [Ex.size,Ex.sizes]
theorem jB(zs:List Int)(env:List (ByteArray × Int))(dim:Int)(p:Nat)(left:Int):(dU zs env dim p left).1.size<=3:=by
 unfold dU
 split
 ·simp [Ex.size,Ex.sizes,uG]
 ·simp [uG]
theorem BD(E:Int->Nat->Int->Ex × Nat × Int)(c:Nat)(hE:∀d p left,(E d p left).1.size<=c)(ds:List Int):∀(p:Nat) (left:Int),Ex.sizes (bM E ds p left).1<=ds.length*c:=by
 induction ds with
 |nil=>intro p left;simp [bM,Ex.sizes]
 |cons d ds ih=>
  intro p left;have a:=hE d p left;have b:=ih (E d p left).2.1 (E d p left).2.2;simp only [bM,Ex.sizes,length_cons,Nat.add_mul,Nat.one_mul];omega
theorem uQ(zs:List Int)(env:List (ByteArray × Int))(n:Nat):∀(dim:Int) (p:Nat) (left:Int),(aP zs env n dim p left).1.size<=aO n:=by
 induction n with
 |zero=>intro dim p left;have:=jB zs env dim p left;simp only [aP,aO];omega
 |succ n ih=>
  intro dim p left;have h8:=df n;rw [aP,aO]
  split
  ·have:=jB zs env dim p left;omega
  ·cases h:bL zs p dim with
   |none=>have:=jB zs env dim (p+1) (left-2);simp only;omega
   |some t=>
    obtain⟨op,ds,q⟩:=t;have a:=Bw zs p dim h;have b:=BD (aP zs env n) (aO n) ih ds q (left-2);have c:ds.length*aO n<=3*aO n:=Nat.mul_le_mul_right _ a.2.2;simp only [Ex.size];omega
def lJ(zs:List Int)(env:List (ByteArray × Int))(dim:Int):Ex:=
 if cB (aP zs env 5 dim 0 24).1=true then(aP zs env 5 dim 0 24).1 else(dU zs env dim (aP zs env 5 dim 0 24).2.1 0).1
theorem Ky{zs:List Int}{env:List (ByteArray × Int)}{dim:Int}{e:Ex}{r:Nat × Int}(h:aP zs env 5 dim 0 24=(e,r))(hv:cB e=true):lJ zs env dim=e:=by
 unfold lJ;rw [h,if_pos hv]
theorem NA{zs:List Int}{env:List (ByteArray × Int)}{dim:Int}{e:Ex}{p':Nat}{l':Int}(h:aP zs env 5 dim 0 24=(e,p',l'))(hv:cB e=false):lJ zs env dim=(dU zs env dim p' 0).1:=by
 unfold lJ;rw [h,if_neg (by simp [hv])]
theorem aH.other{w:World}{s s':Nat}{lv:Value}{zs:List Int}(h:aH w s lv zs)(hs:w.heap.size<=s'):aH w s' lv zs:=by
 obtain⟨h0,a,cap,hv,h1⟩:=h;refine⟨h0,a,cap,hv,h1.imp id ?_⟩;rintro⟨b,off,ha,hb,hbs,hcc⟩;exact⟨b,off,ha,hb,by omega,hcc⟩
theorem aZ.other{w:World}{s s':Nat}{v:Value}{env:List (ByteArray × Int)}(h:aZ w s v env)(hs:w.heap.size<=s'):aZ w s' v env:=by
 obtain⟨h0,hn,a,cap,hv,h1⟩:=h;refine⟨h0,hn,a,cap,hv,h1.imp id ?_⟩;rintro⟨b,off,ha,hb,hbs,hcc⟩;exact⟨b,off,ha,hb,by omega,hcc⟩
theorem KL(w:World)(lv:Value)(p left:Int)(H:Nat)(hH:w.heap.size=H):(w.alloc (.cells #[lv,.int .i64 p,.int .i64 left] 95)).src H lv p left=w.alloc (.cells #[lv,.int .i64 p,.int .i64 left] 95):=by
 subst hH;exact World.src_new w lv p left

def MU(w:World)(E:Ex)(e:Ending)(w':World):Prop:=∃v,e= .returned (exV E v)/\w.Grows w'/\aB (fun b=>w.heap.size<=b) w' E v
theorem MX(lv ev:Value)(zs:List Int)(env:List (ByteArray × Int))(dim:Int)(w:World)(hl0:aH w w.heap.size lv zs)(he0:aZ w w.heap.size ev env)(hd1:1<=dim)(hd4:dim<=4) :
 Calls prog 14 #[lv,.int .i64 dim,ev] w (MU w (lJ zs env dim)):=by
 have hl:=yq (hl0.other (s':=w.heap.size+1) ze);have he:=yq (he0.other (s':=w.heap.size+1) ze);have hlf:=hl0;obtain⟨-,la,lc,hlv,-⟩:=hlf;subst hlv;clear hl0 he0;have hrb:=uS zs env 5 dim 0 24;have hsz:=uQ zs env 5 dim 0 24;have hc5:aO 5=2307:=rfl;rw [hc5]at hrb hsz;generalize hR:aP zs env 5 dim 0 24=r at hrb hsz;have HR:=yq hR;clear hR hc5;obtain⟨E,p',l'⟩:=r;simp only at hrb hsz;have HSZ:=yq (show E.size<=2305843009213693952 by omega);clear hsz
 go_enter func14,ntmps14
 go_wp2_with fail
 refine(cK.call (O6 (w.heap.size+1) _ _ zs env 5 ze) dim 0 0 24 1 _ _ HR rfl ze hd1 hd4 zg (KL _ _ _ _ _ zg) (yq zu) (yq zx) zo zo ze).mono ?_;rintro e' w' ⟨v,bs,d,rfl,rfl,hrep⟩;obtain⟨va,vc,hv⟩:=hrep.form;subst hv;have REP:Hid (aB (fun b=>w.heap.size+2<=b) ((((w.alloc (.cells #[.int .i64 0,.int .i64 0,.int .i64 0,.int .i64 0,.string ⟨#[]⟩,.slice none 0 0] 69)).alloc (.cells #[.slice la zs.length lc,.int .i64 0,.int .i64 24] 95)).src (w.heap.size+1) (.slice la zs.length lc) p' l').grow bs d) E (.slice va E.args.length vc)):=yq (hrep.mono fun b hb=>by simpa using hb);clear hrep;cases hb:cB E
 ·have HB:=yq hb;have HT:=yq (NA HR.out hb);clear hb
  go_wp2_with fail
  refine gvq (ky _ E _ _ (yq (REP.out.alloc _)) HSZ) ?_;intro bs2 d2;simp only [HB.out]
  go_wp2_with fail
  have hlb:=jB zs env dim p' 0;generalize hL:dU zs env dim p' 0=q at HT hlb;have HL:=yq hL;clear hL hlb;obtain⟨E2,p2,l2⟩:=q;refine(kK (w.heap.size+1) (.slice la zs.length lc) zs p' _ 0 dim _ env _ rfl hd1 hd4 zp zE (yq zu) (yq zx) ze ze ze).mono ?_;rintro e' w' ⟨v2,bs3,d3,rfl,rfl,hrep2⟩;obtain⟨v2a,v2c,hv2⟩:=hrep2.form;subst hv2;rw [HL.out]at hrep2;simp only [HL.out];have H2:=yq (hrep2.eqw (w':=(((((w.alloc (.cells #[.int .i64 0,.int .i64 0,.int .i64 0,.int .i64 0,.string ⟨#[]⟩,.slice none 0 0] 69)).alloc (.cells #[.slice la zs.length lc,.int .i64 0,.int .i64 24] 95)).src (w.heap.size+1) (.slice la zs.length lc) p2 l2).grow bs d).alloc (.cells #[.int .i64 E.op,.int .i64 E.num,.int .i64 E.den,.int .i64 E.dim,.string E.name,.slice va E.args.length vc] 69)).grow (bs2++bs3) d3) zE);clear hrep2
  go_wp2_with fail
  go_returns
  refine⟨_,by rw [HT.out],.of_below yW, ?_⟩;rw [HT.out];refine(H2.out.lift0 ?_ ?_ _).mono ?_
  all_goals first
   |(intro b hb;simp at hb;omega)
   |(intro b hb;omega)
   |(simp;done)
   |(simp;omega)
 ·have HB:=yq hb;have HT:=yq (Ky HR.out hb);clear hb
  go_wp2_with fail
  refine gvq (ky _ E _ _ (yq (REP.out.alloc _)) HSZ) ?_;intro bs2 d2;simp only [HB.out]
  go_wp2_with fail
  go_returns
  refine⟨_,by rw [HT.out],.of_below yW, ?_⟩;rw [HT.out];refine((((REP.out.lift0 ?_ ?_ d).alloc _).grow _ _).mono ?_)
  all_goals first
   |(intro b hb;simp at hb;omega)
   |(intro b hb;omega)
   |(simp;done)
   |(simp;omega)

structure bV(T:TypeId)(c:Nat)(base:Nat)(w:World)(v:Value)(l:List (List Value))(rs:List (Ex × Value)):Prop where
 own:w.ownsRow base T c v l.length l.flatten
 len:∀x∈l,x.length=c
 rep:∀x∈rs,aB (fun b=>base<=b/\v.ownBlock≠some b) w x.1 x.2
section
variable {T : TypeId} {c base : Nat} {w w' : World} {v : Value} {l : List (List Value)} {rs : List (Ex × Value)}
theorem bV.nil(T:TypeId)(c base:Nat)(w:World):bV T c base w (.slice none 0 0) [] []:=⟨World.ownsRow_nil _ _ _ _,fun _ h=>by(cases h),fun _ h=>by(cases h)⟩
theorem bV.keep(h:bV T c base w v l rs)(hsz:w.heap.size<=w'.heap.size)(hw:∀k,base<=k->k<w.heap.size->w'.heap[k]? =w.heap[k]?):bV T c base w' v l rs:=
 ⟨jh h.own hw,h.len,fun x hx=>(h.rep x hx).keep hsz fun b o hb hlt=>World.cell?_of_block (hw b hb.1 hlt)⟩
theorem bV.alloc(h:bV T c base w v l rs)(o:Obj):bV T c base (w.alloc o) v l rs:=h.keep zg fun k _ hlt=>Below.heap_alloc w o k hlt
theorem bV.grow(h:bV T c base w v l rs)(bs:Array Obj)(d:Nat):bV T c base (w.grow bs d) v l rs:=h.keep zg fun k _ hlt=>World.heap_grow _ _ _ hlt
theorem bV.drewN(h:bV T c base w v l rs)(n:Nat):bV T c base (w.drewN n) v l rs:=h.keep (Nat.le_refl _) fun _ _ _=>rfl
theorem bV.setCell(h:bV T c base w v l rs){a:Addr}(ha:a.block<base)(u:Value):bV T c base (w.setCell a u) v l rs:=
 h.keep zg fun k hk _=>Below.heap_setCell _ _ _ _ ze
theorem bV.lt(h:bV T c base w v l rs):∀k,v.ownBlock=some k->base<=k/\k<w.heap.size:=h.own.lt
theorem bV.form(h:bV T c base w v l rs):∃a cap,v= .slice a l.length cap:=by
 exact Rn
theorem rH(l:List (List Value))(c:Nat)(h:∀x∈l,x.length=c)(i j:Nat)(hj:j<c)(hi:i<l.length):l.flatten[i*c+j]? =(l.getD i [])[j]?:=by
 induction l generalizing i with
 |nil=>simp at hi
 |cons x r ih=>
  have hx:=h x (mem_cons_self);rw [flatten_cons]
  cases i with
  |zero=>rw [getElem?_append_left ze];simp
  |succ i=>
   rw [getElem?_append_right (by rw [hx,Nat.add_mul];omega),getD_cons_succ,<-ih (fun y hy=>h y (mem_cons_of_mem _ hy)) i yo]
   congr 1;rw [hx,Nat.add_mul];omega
theorem bV.cells(h:bV T c base w v l rs):∃a cap,v= .slice a l.length cap/\(l.length=0\/∃g,a=some ⟨g,0,none⟩/\base<=g/\g<w.heap.size/\∀i j u,i<l.length->j<c->(l.getD i [])[j]? =some u->w.cell? ⟨g,i*c+j,none⟩=some u):=by
 rcases h.own.2 with ⟨rfl,h0⟩|⟨g,cap,cur,rfl,hb,hg,_⟩
 ·exact⟨none,0,by rw [h0],.inl h0⟩
 ·refine⟨_,cap,rfl,.inr ⟨g,rfl,hb,(Array.getElem?_eq_some_iff.1 hg).1,fun i j u hi hj hu=>?_⟩⟩;have:=World.ownsRow.cells (g:=g) h.own rfl (i*c+j) u (by rw [rH l c h.len i j hj hi];exact hu);rw [addr_add]at this;exact this
theorem bV.push{news:List Value}{rs2:List (Ex × Value)}{m g cap H n:Nat}{xs:List Value}(h:bV T c base w v l rs)(hr:∀x∈rs2,aB (fun b=>m<=b) w x.1 x.2)(hm:base<=m)(hv:∀k,v.ownBlock=some k->k<m)
 (hc:news.length=c) (hn:n=l.length+1) (hxs:xs=l.flatten++news) (ho:w'.ownsRow base T c (.slice (some ⟨g,0,none⟩) n cap) n xs) (hg:w.grownBy w' v.ownBlock) (hat:v.ownBlock=some g\/g=H) (hH:w.heap.size=H) :
 bV T c base w' (.slice (some ⟨g,0,none⟩) n cap) (l++[news]) (rs++rs2):=by
 subst hH hn hxs;refine⟨by rw [length_append,flatten_append];simpa using ho,fun x hx=>?_,fun x hx=>?_⟩
 ·rw [mem_append]at hx;rcases hx with hx|hx
  ·exact h.len x hx
  ·obtain rfl:x=news:=by simpa using hx
   exact hc
 ·have key:∀(e':Ex) (u:Value),aB (fun b=>base<=b/\v.ownBlock≠some b) w e' u->aB (fun b=>base<=b/\(Value.slice (some ⟨g,0,none⟩) (l.length+1) cap).ownBlock≠some b) w' e' u:=by
   exact RS
  rw [mem_append]at hx;rcases hx with hx|hx
  ·exact key _ _ (h.rep x hx)
  ·exact key _ _ ((hr x hx).mono fun b hb=>⟨by omega,fun e=>by have:=hv b e;omega⟩)
end

structure cO where
 frm:Int
 mode:Int
 unit:Int
 credits:List Int
 series:List Int
 lets:List (List Int)
 ifs:List (List Int)
 pays:List (List Int)
 cuts:List (List Int)
 twist:Int
def eQ(w:World)(v:Value)(zss:List (List Int)):Prop:=
 zss.length<=140737488355328/\∃a cap,v= .slice a zss.length cap/\(zss.length=0\/∃b off,a=some ⟨b,off,none⟩/\b<w.heap.size/\∀i,i<zss.length->∃u,w.cell? ⟨b,off+i,none⟩=some u/\ax w u (zss.getD i []))
def nP(w:World)(cs:List Value)(R:cO):Prop:=
 I64 R.frm/\I64 R.mode/\I64 R.unit/\I64 R.twist/\∃vc vs vl vi vp vu,cs= [.int .i64 R.frm,.int .i64 R.mode,.int .i64 R.unit,vc,vs,vl,vi,vp,vu,.int .i64 R.twist]/\
  ax w vc R.credits/\ax w vs R.series/\eQ w vl R.lets/\eQ w vi R.ifs/\eQ w vp R.pays/\eQ w vu R.cuts
def iq(i:Nat):ByteArray:=⟨#[(112+i % 8).toUInt8,95,(48+i / 8).toUInt8]⟩
def aV(i:Int):Int:=if i<2 then 1 else if i=2 then 10 else if i=3 then 100 else 7
def kindOf(i:Int):Int:=if i=0 then 6 else if i=1 then 9 else if i=2 then 7 else if i=3 then 8 else if i=4 then 10 else 5
def C9(R:cO)(i:Nat):Int:=kindOf ((i+pick (R.credits.getD 0 0) 6) % 6)
def C8(R:cO)(i:Nat):Int:=if(R.credits.getD i 0).tmod 3=0 then pick (R.credits.getD i 0) 900+1 else 0
def NF(R:cO)(i:Nat):Int:=1930+25*i+pick (R.series.getD i 0) 20
def NG(R:cO)(i:Nat):Int:=mkN (pick (R.series.getD i 0) 4000+1) 1000
def NH(R:cO)(i:Nat):Int:=mkD (pick (R.series.getD i 0) 4000+1) 1000
def IJ(R:cO)(i:Nat):Int:=1+((R.lets.getD i []).length % 4:Nat)
def fD(R:cO)(k:Nat):List (ByteArray × Int):=(List.range k).map fun i=>(iq i,IJ R i)
def gZ(R:cO):Nat:=min R.credits.length 4
def l6(R:cO):Nat:=min R.series.length 6
def fP(R:cO):Nat:=min R.lets.length 5
def vK(R:cO):Nat:=min R.pays.length 3
def BH(R:cO):Nat:=min R.cuts.length 2
def nU(R:cO)(i:Nat):Ex:=lJ (R.lets.getD i []) (fD R i) (IJ R i)
def bT(R:cO)(i:Nat):Ex:=lJ (R.pays.getD i []) (fD R (fP R)) 4
def ifE(R:cO)(i:Nat):Ex:=lJ (R.ifs.getD i []) (fD R (fP R)) 1
def eF(R:cO)(i:Nat):Ex:=lJ (R.cuts.getD i []) (fD R (fP R)) 2
theorem Jd(R:cO)(k:Nat):fD R (k+1)=fD R k++[(iq k,IJ R k)]:=by simp [fD,range_succ]
theorem mr(R:cO)(k:Nat):(fD R k).length=k:=by simp [fD]
theorem wN(i:Nat):(iq i).size=3:=rfl
theorem iM(w:World)(a b c:Int):(convert 92 9 (.slice (some ⟨w.heap.size,0,none⟩) 3 3)).run prog (w.alloc (.cells #[.int .u8 a,.int .u8 b,.int .u8 c] 5))= .ok (.string (strOfNums [a,b,c])) (w.alloc (.cells #[.int .u8 a,.int .u8 b,.int .u8 c] 5)):=by
 refine run_convert_bytes_arg (P:=prog) _ 92 5 underlying92 underlying5 w.heap.size 0 3 3 [a,b,c] rfl (fun i hi=>?_) 9 underlying9;obtain rfl|rfl|rfl:i=0\/i=1\/i=2:=by omega
 ·rw [World.cell?_alloc_at _ _ _ _ rfl];rfl
 ·rw [World.cell?_alloc_at _ _ _ _ rfl];rfl
 ·rw [World.cell?_alloc_at _ _ _ _ rfl];rfl
theorem IG(w:World):Calls prog 13 #[.int .i64 0] w fun e w'=>e= .returned (.string (iq 0))/\w.Grows w':=by
 have kc:=iM w 112 95 48;exact Ka
theorem IE(w:World):Calls prog 13 #[.int .i64 1] w fun e w'=>e= .returned (.string (iq 1))/\w.Grows w':=by
 have kc:=iM w 113 95 48;exact Ka
theorem IC(w:World):Calls prog 13 #[.int .i64 2] w fun e w'=>e= .returned (.string (iq 2))/\w.Grows w':=by
 have kc:=iM w 114 95 48;exact Ka
theorem IB(w:World):Calls prog 13 #[.int .i64 3] w fun e w'=>e= .returned (.string (iq 3))/\w.Grows w':=by
 have kc:=iM w 115 95 48;exact Ka
theorem IA(w:World):Calls prog 13 #[.int .i64 4] w fun e w'=>e= .returned (.string (iq 4))/\w.Grows w':=by
 have kc:=iM w 116 95 48;exact Ka
theorem rA(k:Nat)(w:World)(hk:k<5):Calls prog 13 #[.int .i64 k] w fun e w'=>e= .returned (.string (iq k))/\w.Grows w':=by
 obtain rfl|rfl|rfl|rfl|rfl:k=0\/k=1\/k=2\/k=3\/k=4:=by omega
 ·exact IG w
 ·exact IE w
 ·exact IC w
 ·exact IB w
 ·exact IA w

structure bv(T:TypeId)(c base:Nat)(X:Nat->Prop)(w:World)(v:Value)(l:List (List Value))(rs:List (Ex × Value)):Prop where
 own:w.ownsRow base T c v l.length l.flatten
 len:∀x∈l,x.length=c
 ownX:∀k,v.ownBlock=some k->X k
 rep:∀x∈rs,aB (fun b=>(base<=b/\X b)/\v.ownBlock≠some b) w x.1 x.2
section
variable {T : TypeId} {c base : Nat} {X X' : Nat -> Prop} {w w' : World} {v : Value} {l : List (List Value)} {rs : List (Ex × Value)}
theorem bv.nil(T:TypeId)(c base:Nat)(X:Nat->Prop)(w:World):bv T c base X w (.slice none 0 0) [] []:=⟨World.ownsRow_nil _ _ _ _,fun _ h=>by(cases h),fun _ h=>by(cases h),fun _ h=>by(cases h)⟩
theorem bv.toG(h:bv T c base X w v l rs):bV T c base w v l rs:=⟨h.own,h.len,fun x hx=>(h.rep x hx).mono fun _ hb=>⟨hb.1.1,hb.2⟩⟩
theorem bv.keep(h:bv T c base X w v l rs)(hsz:w.heap.size<=w'.heap.size)(hw:∀k,base<=k->X k->k<w.heap.size->w'.heap[k]? =w.heap[k]?):bv T c base X w' v l rs:=by
 refine⟨?_,h.len,h.ownX,fun x hx=>(h.rep x hx).keep hsz fun b o hb hlt=>World.cell?_of_block (hw b hb.1.1 hb.1.2 hlt)⟩;obtain⟨h1,h2⟩:=h.own;refine⟨h1, ?_⟩;rcases h2 with h2|⟨g,cap,cur,rfl,hb,hg,r⟩
 ·exact .inl h2
 ·have hlt:g<w.heap.size:=(Array.getElem?_eq_some_iff.1 hg).1;exact .inr ⟨g,cap,cur,rfl,hb,by rw [hw g hb (h.ownX g rfl) hlt];exact hg,r⟩
theorem bv.alloc(h:bv T c base X w v l rs)(o:Obj):bv T c base X (w.alloc o) v l rs:=h.keep zg fun k _ _ hlt=>Below.heap_alloc w o k hlt
theorem bv.grow(h:bv T c base X w v l rs)(bs:Array Obj)(d:Nat):bv T c base X (w.grow bs d) v l rs:=h.keep zg fun k _ _ hlt=>World.heap_grow _ _ _ hlt
theorem bv.drew(h:bv T c base X w v l rs):bv T c base X w.drew v l rs:=h.keep (Nat.le_refl _) fun _ _ _ _=>rfl
theorem bv.setCell(h:bv T c base X w v l rs){a:Addr}(ha:a.block<base)(u:Value):bv T c base X (w.setCell a u) v l rs:=
 h.keep zg fun k hk _ _=>Below.heap_setCell _ _ _ _ ze
theorem bv.grown{row:Option Nat}(h:bv T c base X w v l rs)(hg:w.grownBy w' row)(hr:∀b,X b->some b≠row):bv T c base X w' v l rs:=
 h.keep hg.size fun k _ hX hlt=>hg.block k hlt (hr k hX)
theorem bv.mono(h:bv T c base X w v l rs)(hX:∀b,X b->b<w.heap.size->X' b):bv T c base X' w v l rs:=
 ⟨h.own,h.len,fun k hk=>hX k (h.ownX k hk) (h.own.lt k hk).2,fun x hx=>(h.rep x hx).mono' fun b hb hlt=>⟨⟨hb.1.1,hX b hb.1.2 hlt⟩,hb.2⟩⟩
theorem bv.form(h:bv T c base X w v l rs):∃a cap,v= .slice a l.length cap:=h.toG.form
theorem bv.lt(h:bv T c base X w v l rs):∀k,v.ownBlock=some k->base<=k/\k<w.heap.size:=h.own.lt
theorem bv.push{news:List Value}{rs2:List (Ex × Value)}{m g cap H n:Nat}{xs:List Value}(h:bv T c base X w v l rs)(hr:∀x∈rs2,aB (fun b=>m<=b) w x.1 x.2)(hm:base<=m)(hXm:∀b,m<=b->X b)(hv:∀k,v.ownBlock=some k->k<m)
 (hc:news.length=c) (hn:n=l.length+1) (hxs:xs=l.flatten++news) (ho:w'.ownsRow base T c (.slice (some ⟨g,0,none⟩) n cap) n xs) (hg:w.grownBy w' v.ownBlock) (hat:v.ownBlock=some g\/g=H) (hH:w.heap.size=H) (hmH:m<=H) :
 bv T c base X w' (.slice (some ⟨g,0,none⟩) n cap) (l++[news]) (rs++rs2):=by
 subst hH hn hxs;refine⟨by rw [length_append,flatten_append];simpa using ho,fun x hx=>?_,fun k hk=>?_,fun x hx=>?_⟩
 ·rw [mem_append]at hx;rcases hx with hx|hx
  ·exact h.len x hx
  ·obtain rfl:x=news:=by simpa using hx
   exact hc
 ·obtain rfl:g=k:=by simpa [Value.ownBlock]using hk
  rcases hat with hat|hat
  ·exact h.ownX _ hat
  ·exact hXm _ ze
 ·have key:∀(e':Ex) (u:Value),aB (fun b=>(base<=b/\X b)/\v.ownBlock≠some b) w e' u->aB (fun b=>(base<=b/\X b)/\(Value.slice (some ⟨g,0,none⟩) (l.length+1) cap).ownBlock≠some b) w' e' u:=by
   intro e' u hu;refine(hu.mono' (S':=fun b=>((base<=b/\X b)/\v.ownBlock≠some b)/\g≠b) ?_|>.keep hg.size ?_).mono ?_
   ·rintro b ⟨h1,h2⟩ hlt;refine⟨⟨h1,h2⟩, ?_⟩;rcases hat with hat|hat
    ·intro e;exact h2 (by rw [hat,e])
    ·omega
   ·rintro b o ⟨⟨_,h2⟩,_⟩ hlt;exact World.cell?_of_block (hg.block b hlt (Ne.symm h2))
   ·rintro b ⟨⟨h1,_⟩,h3⟩;exact⟨h1,by simpa [Value.ownBlock]using h3⟩
  rw [mem_append]at hx;rcases hx with hx|hx
  ·exact key _ _ (h.rep x hx)
  ·exact key _ _ ((hr x hx).mono fun b hb=>⟨⟨by omega,hXm b hb⟩,fun e=>by have:=hv b e;omega⟩)
end
def fQ(q:List (ByteArray × (Ex × Value))):List (List Value):=q.map fun t=>.string t.1::bH t.2.1 t.2.2
def qX(R:cO)(k:Nat)(q:List (ByteArray × (Ex × Value))):Prop:=q.map (fun t=>(t.1,t.2.1))=(List.range k).map fun i=>(iq i,nU R i)
theorem qX.nil(R:cO):qX R 0 []:=rfl
theorem qX.length{R:cO}{k:Nat}{q:List (ByteArray × (Ex × Value))}(h:qX R k q):q.length=k:=by
 have:=congrArg List.length h;simpa using this
theorem qX.push{R:cO}{k:Nat}{q:List (ByteArray × (Ex × Value))}(h:qX R k q)(v:Value):qX R (k+1) (q++[(iq k,(nU R k,v))]):=by
 unfold qX at *;exact Qf
theorem II(q:List (ByteArray × (Ex × Value)))(s:ByteArray)(e:Ex)(v:Value):fQ (q++[(s,(e,v))])=fQ q++[.string s::bH e v]:=by simp [fQ]
def jH(env:List (ByteArray × Int)):List (List Value):=env.map fun b=>[.string b.1,.int .i64 b.2]
theorem Jc(env:List (ByteArray × Int))(s:ByteArray)(d:Int):jH (env++[(s,d)])=jH env++[[.string s,.int .i64 d]]:=by simp [jH]
theorem jl(R:cO)(k:Nat):∀x∈fD R k,x.1.size<=140737488355328:=by
 intro x hx;unfold fD at hx;rw [mem_map]at hx;obtain⟨i,_,rfl⟩:=hx;show(iq i).size<=_;rw [wN];omega
theorem aZ.of_row{w:World}{base T:Nat}{v:Value}{env:List (ByteArray × Int)}(h:bV T 2 base w v (jH env) [])(hl:env.length<=1000)(hs:∀x∈env,x.1.size<=140737488355328):aZ w w.heap.size v env:=by
 obtain⟨a,cap,hv,hc⟩:=h.cells;have hlen:(jH env).length=env.length:=by simp [jH]
 rw [hlen]at hv hc;refine⟨hl,hs,a,cap,hv,hc.imp id ?_⟩;rintro⟨g,ha,hb,hlt,hx⟩;refine⟨g,0,ha,hlt,by omega,fun i hi=>?_⟩
 have hget:(jH env).getD i []= [.string (env.getD i jy).1,.int .i64 (env.getD i jy).2]:=by
  simp only [jH,getD_eq_getElem?_getD,getElem?_map,getElem?_eq_getElem hi];rfl
 refine⟨?_, ?_⟩
 ·have:=hx i 0 (.string (env.getD i jy).1) hi ze (by rw [hget];rfl);rw [show 0+i*2=i*2+0 by omega];exact this
 ·have:=hx i 1 (.int .i64 (env.getD i jy).2) hi ze (by rw [hget];rfl);rw [show 0+i*2+1=i*2+1 by omega];exact this
theorem aH.of_ints{w W:World}{u:Value}{zs:List Int}(h:ax w u zs)(hb:Below w.heap.size w W):aH W W.heap.size u zs:=by
 obtain⟨h0,_,a,cap,hv,h1⟩:=h;refine⟨h0,a,cap,hv,h1.imp id ?_⟩;rintro⟨b,off,ha,hlt,hc⟩;have:=hb.size;exact⟨b,off,ha,by omega,by omega,fun i hi=>by rw [hb.cell (by exact hlt)];exact hc i hi⟩
theorem ax.form{w:World}{u:Value}{zs:List Int}(h:ax w u zs):∃a cap,u= .slice a zs.length cap:=by
 obtain⟨_,_,a,cap,hv,_⟩:=h;exact⟨a,cap,hv⟩
structure dQ(w:World)(cs:Array Value)(g:Nat)(os:Array Value)(wr:World):Prop where
 bel:Below w.heap.size w wr
 box:wr.heap[w.heap.size]? =some (.cells cs 25 (0,0))
 res:wr.heap[w.heap.size+1]? =some (.cells #[.int .i64 0,.int .i64 0,.int .i64 0,.slice none 0 0,.slice none 0 0,.slice none 0 0,.slice none 0 0,.slice none 0 0] 36 (0,0))
 out:wr.heap[g]? =some (.cells os 36 (0,0))
 gge:w.heap.size+2<=g
section
variable {w wr w1 : World} {cs os : Array Value} {g : Nat}
theorem dQ.lt(h:dQ w cs g os wr):g<wr.heap.size:=(Array.getElem?_eq_some_iff.1 h.out).1
theorem dQ.lt0(h:dQ w cs g os wr):w.heap.size+1<wr.heap.size:=(Array.getElem?_eq_some_iff.1 h.res).1
theorem dQ.of_blocks(h:dQ w cs g os wr)(hb:Below w.heap.size w w1)(h1:∀k,k=w.heap.size\/k=w.heap.size+1\/k=g->w1.heap[k]? =wr.heap[k]?):dQ w cs g os w1:=
 ⟨hb,by rw [h1 _ (.inl rfl)];exact h.box,by rw [h1 _ (.inr (.inl rfl))];exact h.res,by rw [h1 _ (.inr (.inr rfl))];exact h.out,h.gge⟩
theorem dQ.kept(h:dQ w cs g os wr)(hb:Below w.heap.size w w1)(h1:∀k,k<wr.heap.size->k=w.heap.size\/k=w.heap.size+1\/k=g->w1.heap[k]? =wr.heap[k]?):dQ w cs g os w1:=by
 have a:=h.lt;have b:=h.lt0;refine h.of_blocks hb fun k hk=>h1 k ?_ hk;rcases hk with rfl|rfl|rfl<;>omega
theorem dQ.alloc(h:dQ w cs g os wr)(o:Obj):dQ w cs g os (wr.alloc o):=
 h.kept (h.bel.alloc h.bel.size o) fun k hk _=>Below.heap_alloc wr o k hk
theorem dQ.grow(h:dQ w cs g os wr)(bs:Array Obj)(d:Nat):dQ w cs g os (wr.grow bs d):=
 h.kept (h.bel.grow h.bel.size bs d) fun k hk _=>World.heap_grow _ _ _ hk
theorem dQ.drewN(h:dQ w cs g os wr)(n:Nat):dQ w cs g os (wr.drewN n):=h.kept (h.bel.drewN n) fun _ _ _=>rfl
theorem dQ.grown{row:Option Nat}(h:dQ w cs g os wr)(hg:wr.grownBy w1 row)(hr:∀k,row=some k->g<k/\w.heap.size+2<=k):dQ w cs g os w1:=
 h.kept (h.bel.grown hg h.bel.size fun k hk=>by have:=hr k hk;omega) fun k hk hk2=>hg.block k hk fun e=>by
  have:=hr k e.symm;have:=h.gge;rcases hk2 with rfl|rfl|rfl<;>omega
theorem dQ.store(h:dQ w cs g os wr)(i:Nat)(v:Value):dQ w cs g (os.setIfInBounds i v) (wr.setCell ⟨g,i,none⟩ v):=
 ⟨h.bel.setCell (by have:=h.gge;show w.heap.size<=g;omega) v,by rw [Below.heap_setCell _ _ _ _ (by have:=h.gge;show w.heap.size≠g;omega)];exact h.box,by rw [Below.heap_setCell _ _ _ _ (by have:=h.gge;show w.heap.size+1≠g;omega)];exact h.res,Joins.block_setCell h.out v,h.gge⟩
end
section
variable {g : Nat} {a b c : World}
theorem bV.next{T:TypeId}{n base:Nat}{v:Value}{l:List (List Value)}{rs:List (Ex × Value)}(h:bV T n base a v l rs)(hn:Next g a b)(hb:g<base):bV T n base b v l rs:=
 h.keep hn.size fun k hk hlt=>hn.blk k hlt ze
end
theorem dQ.drew{w wr:World}{cs os:Array Value}{g:Nat}(h:dQ w cs g os wr):dQ w cs g os wr.drew:=h.kept h.bel.drew fun _ _ _=>rfl
theorem bV.drew{T:TypeId}{c base:Nat}{w:World}{v:Value}{l:List (List Value)}{rs:List (Ex × Value)}(h:bV T c base w v l rs):bV T c base w.drew v l rs:=h.keep (Nat.le_refl _) fun _ _ _=>rfl
theorem bV.upto{T:TypeId}{c base:Nat}{w:World}{v:Value}{l:List (List Value)}{rs:List (Ex × Value)}(h:bV T c base w v l rs):bv T c base (· <w.heap.size) w v l rs:=
 ⟨h.own,h.len,fun k hk=>(h.lt k hk).2,fun x hx=>(h.rep x hx).mono' fun b hb hlt=>⟨⟨hb.1,hlt⟩,hb.2⟩⟩
theorem bv.next{g T n base:Nat}{X:Nat->Prop}{a b:World}{v:Value}{l:List (List Value)}{rs:List (Ex × Value)}(h:bv T n base X a v l rs)(hn:Next g a b)(hb:g<base):bv T n base X b v l rs:=
 h.keep hn.size fun k hk _ hlt=>hn.blk k hlt ze

def fo(R:cO)(vc vs vl vi vp vu:Value):Array Value:=#[.int .i64 R.frm,.int .i64 R.mode,.int .i64 R.unit,vc,vs,vl,vi,vp,vu,.int .i64 R.twist]
theorem iJ(w:World):w.drew.heap=w.heap:=rfl
def bE(R:cO)(k:Nat):List (List Value):=(List.range k).map fun i=>[.int .i64 (C9 R i),.int .i64 (C8 R i)]
theorem uZ(R:cO)(k:Nat):bE R (k+1)=bE R k++[[.int .i64 (C9 R k),.int .i64 (C8 R k)]]:=by simp [bE,range_succ]
theorem qO(R:cO)(k:Nat):(bE R k).length=k:=by simp [bE]
theorem IR(i:Int)(h0:0<=i)(h6:i<6):(#[Value.int .i64 6,.int .i64 9,.int .i64 7,.int .i64 8,.int .i64 10,.int .i64 5]:Array Value)[i.toNat]? =some (.int .i64 (kindOf i)):=by
 obtain rfl|rfl|rfl|rfl|rfl|rfl:i=0\/i=1\/i=2\/i=3\/i=4\/i=5:=by omega
 all_goals rfl
def bS(R:cO)(k:Nat):List (List Value):=(List.range k).map fun i=>[.int .i64 (NF R i),.int .i64 (NG R i),.int .i64 (NH R i)]
theorem vH(R:cO)(k:Nat):bS R (k+1)=bS R k++[[.int .i64 (NF R k),.int .i64 (NG R k),.int .i64 (NH R k)]]:=by simp [bS,range_succ]
theorem rV(R:cO)(k:Nat):(bS R k).length=k:=by simp [bS]
theorem o9:(prog.info? 64).map (fun i=>(i.zero,i.size,i.bytes))=some (some (.agg #[.int .i64 0,.int .i64 0,.int .i64 0]),3,24):=by kernel_rfl
theorem mf:(prog.info? 60).map (fun i=>(i.zero,i.size,i.bytes))=some (some (.agg #[.int .i64 0,.int .i64 0]),2,16):=by kernel_rfl
def Q4:Obj:=.cells #[.int .i64 6,.int .i64 9,.int .i64 7,.int .i64 8,.int .i64 10,.int .i64 5] 3
theorem dQ.start_a(w:World)(cs os:Array Value)(A:Obj):dQ w cs (w.heap.size+1+1+1) os ((((w.alloc (.cells cs 25)).alloc ((.cells #[.int .i64 0,.int .i64 0,.int .i64 0,.slice none 0 0,.slice none 0 0,.slice none 0 0,.slice none 0 0,.slice none 0 0] 36))).alloc A).alloc (.cells os 36)).drew:=
 ⟨by(exact af),by rw [iJ];(repeat(first|(rw [aA,if_pos zH];done)|(rw [aA,if_neg zp])|(rw [aA,if_neg zH]))),by rw [iJ];(repeat(first|(rw [aA,if_pos zH];done)|(rw [aA,if_neg zp])|(rw [aA,if_neg zH]))),by rw [iJ];(repeat(first|(rw [aA,if_pos zH];done)|(rw [aA,if_neg zp])|(rw [aA,if_neg zH]))),by omega⟩
theorem dQ.start_b(w:World)(cs os:Array Value)(A:Obj):dQ w cs (w.heap.size+1+1) os ((((w.alloc (.cells cs 25)).alloc ((.cells #[.int .i64 0,.int .i64 0,.int .i64 0,.slice none 0 0,.slice none 0 0,.slice none 0 0,.slice none 0 0,.slice none 0 0] 36))).alloc (.cells os 36)).alloc A).drew:=
 ⟨by(exact af),by rw [iJ];(repeat(first|(rw [aA,if_pos zH];done)|(rw [aA,if_neg zp])|(rw [aA,if_neg zH]))),by rw [iJ];(repeat(first|(rw [aA,if_pos zH];done)|(rw [aA,if_neg zp])|(rw [aA,if_neg zH]))),by rw [iJ];(repeat(first|(rw [aA,if_pos zH];done)|(rw [aA,if_neg zp])|(rw [aA,if_neg zH]))),by omega⟩
theorem MF(W:World)(pu:Int)(H:Nat)(hH:W.heap.size=H)(h0:0<=pu)(h5:pu<5):(W.alloc (.cells #[.int .i64 1,.int .i64 1,.int .i64 10,.int .i64 100,.int .i64 7] 3)).cell? ⟨H,pu.toNat,none⟩=some (.int .i64 (aV pu)):=by
 subst hH;rw [World.cell?_alloc_at _ _ _ _ rfl];obtain rfl|rfl|rfl|rfl|rfl:pu=0\/pu=1\/pu=2\/pu=3\/pu=4:=by omega
 all_goals rfl
theorem o8:(prog.info? 72).map (fun i=>(i.zero,i.size,i.bytes))=some (some (.agg #[.string ⟨#[]⟩,.int .i64 0,.int .i64 0,.int .i64 0,.int .i64 0,.string ⟨#[]⟩,.slice none 0 0]),7,88):=by kernel_rfl
theorem mg:(prog.info? 74).map (fun i=>(i.zero,i.size,i.bytes))=some (some (.agg #[.string ⟨#[]⟩,.int .i64 0]),2,24):=by kernel_rfl
theorem jo(lv ev:Value)(zs:List Int)(env:List (ByteArray × Int))(dim:Int)(E:Ex)(w:World)(hl0:aH w w.heap.size lv zs)(he0:aZ w w.heap.size ev env)(hd1:1<=dim)(hd4:dim<=4)(hE:Hid (lJ zs env dim=E)) :
 Calls prog 14 #[lv,.int .i64 dim,ev] w (MU w E):=by
 have:=MX lv ev zs env dim w hl0 he0 hd1 hd4;rw [hE.out]at this;exact this
theorem bV.toX{T:TypeId}{c base:Nat}{X:Nat->Prop}{w:World}{v:Value}{l:List (List Value)}(h:bV T c base w v l [])(hX:∀k,v.ownBlock=some k->X k):bv T c base X w v l []:=
 ⟨h.own,h.len,hX,fun x hx=>by cases hx⟩
theorem OP(s:ByteArray)(e:Ex)(v:Value)(hv:v.oneCell'=true):∀u∈(Value.string s::bH e v),u.oneCell'=true:=by
 intro u hu;rcases mem_cons.1 hu with rfl|hu
 ·rfl
 ·exact jJ _ _ hv u hu
theorem FT{S:Nat->Prop}{w:World}{e:Ex}{v:Value}(h:aB S w e v):∀x∈[(e,v)],aB S w x.1 x.2:=by
 intro x hx;obtain rfl:x=(e,v):=by simpa using hx
 exact h
theorem JJ{o:Option Nat}{g H:Nat}{w:World}(h:o=some g\/g=H)(hH:w.heap.size=H):∀b,o≠some b->b<w.heap.size->(o≠some b/\b≠g):=by
 intro b hb hl;refine⟨hb,fun e=>?_⟩;rcases h with h|h
 ·exact hb (by rw [h,e])
 ·omega
abbrev GrT:=Int × (Ex × Value) × (Ex × Value)
def grL(q:List GrT):List (List Value):=q.map fun t=>.int .i64 t.1::(bH t.2.1.1 t.2.1.2++bH t.2.2.1 t.2.2.2)
def grR(q:List GrT):List (Ex × Value):=q.flatMap fun t=>[t.2.1,t.2.2]
def GrQ(R:cO)(k:Nat)(q:List GrT):Prop:=q.map (fun t=>(t.1,t.2.1.1,t.2.2.1))=(List.range k).map fun(i:Nat)=>((i:Int)+1,ifE R i,bT R i)
theorem GrQ.length{R:cO}{k:Nat}{q:List GrT}(h:GrQ R k q):q.length=k:=by
 have:=congrArg List.length h;simpa using this
theorem GrQ.push{R:cO}{k:Nat}{q:List GrT}(h:GrQ R k q)(v u:Value):GrQ R (k+1) (q++[((k:Int)+1,(ifE R k,v),(bT R k,u))]):=by
 unfold GrQ at *;exact Qf
theorem Ct(q:List GrT)(t:GrT):grL (q++[t])=grL q++[.int .i64 t.1::(bH t.2.1.1 t.2.1.2++bH t.2.2.1 t.2.2.2)]:=by simp [grL]
theorem Cs(q:List GrT)(t:GrT):grR (q++[t])=grR q++[t.2.1,t.2.2]:=by simp [grR]
theorem kL:(prog.info? 76).map (fun i=>(i.zero,i.size,i.bytes))=some (some (.agg #[.int .i64 0,.int .i64 0,.int .i64 0,.int .i64 0,.int .i64 0,.string ⟨#[]⟩,.slice none 0 0,.int .i64 0,.int .i64 0,.int .i64 0,.int .i64 0,.string ⟨#[]⟩,.slice none 0 0]),13,152):=by kernel_rfl
theorem LK(b:Int)(e f:Ex)(v u:Value)(hv:v.oneCell'=true)(hu:u.oneCell'=true):∀x∈(Value.int .i64 b::(bH e v++bH f u)),x.oneCell'=true:=by
 intro x hx;rcases mem_cons.1 hx with rfl|hx
 ·rfl
 ·rcases mem_append.1 hx with hx|hx
  ·exact jJ _ _ hv x hx
  ·exact jJ _ _ hu x hx
theorem FR{S:Nat->Prop}{w:World}{e f:Ex}{v u:Value}(h:aB S w e v)(h2:aB S w f u):∀x∈[(e,v),(f,u)],aB S w x.1 x.2:=by
 intro x hx;simp only [mem_cons,not_mem_nil,or_false]at hx;rcases hx with rfl|rfl
 ·exact h
 ·exact h2
theorem aH.nil(w:World)(s:Nat):aH w s (.slice none 0 0) []:=⟨by simp,none,0,rfl,.inl rfl⟩
def reL(q:List (Int × (Ex × Value))):List (List Value):=q.map fun t=>.int .i64 t.1::bH t.2.1 t.2.2
def ReQ(R:cO)(k:Nat)(q:List (Int × (Ex × Value))):Prop:=q.map (fun t=>(t.1,t.2.1))=(List.range k).map fun(i:Nat)=>((i:Int)+1,eF R i)
theorem ReQ.length{R:cO}{k:Nat}{q:List (Int × (Ex × Value))}(h:ReQ R k q):q.length=k:=by
 have:=congrArg List.length h;simpa using this
theorem ReQ.push{R:cO}{k:Nat}{q:List (Int × (Ex × Value))}(h:ReQ R k q)(v:Value):ReQ R (k+1) (q++[((k:Int)+1,(eF R k,v))]):=by
 unfold ReQ at *;exact Qf
theorem KS(q:List (Int × (Ex × Value)))(b:Int)(e:Ex)(v:Value):reL (q++[(b,(e,v))])=reL q++[.int .i64 b::bH e v]:=by simp [reL]
theorem QR(b:Int)(e:Ex)(v:Value)(hv:v.oneCell'=true):∀u∈(Value.int .i64 b::bH e v),u.oneCell'=true:=by
 intro u hu;rcases mem_cons.1 hu with rfl|hu
 ·rfl
 ·exact jJ _ _ hv u hu
theorem jF:(prog.info? 78).map (fun i=>(i.zero,i.size,i.bytes))=some (some (.agg #[.int .i64 0,.int .i64 0,.int .i64 0,.int .i64 0,.int .i64 0,.string ⟨#[]⟩,.slice none 0 0]),7,80):=by kernel_rfl
def tlC:Code->Code
 | .seq _ b=>b
 |c=>c

structure dH where
 frm:Int
 mode:Int
 unit:Int
 cr:List (Int × Int)
 se:List (Int × Int × Int)
 le:List (ByteArray × Ex)
 gr:List (Int × Ex × Ex)
 re:List (Int × Ex)
def crL(l:List (Int × Int)):List (List Value):=l.map fun t=>[.int .i64 t.1,.int .i64 t.2]
def seL(l:List (Int × Int × Int)):List (List Value):=l.map fun t=>[.int .i64 t.1,.int .i64 t.2.1,.int .i64 t.2.2]
def fB(R:cO):dH:=
 ⟨pick R.frm 73049,pick R.mode 4+1,aV (pick R.unit 5),(List.range (gZ R)).map fun i=>(C9 R i,C8 R i),(List.range (l6 R)).map fun i=>(NF R i,NG R i,NH R i),
  (List.range (fP R)).map fun i=>(iq i,nU R i),(List.range (vK R)).map fun(i:Nat)=>((i:Int)+1,ifE R i,bT R i),(List.range (BH R)).map fun(i:Nat)=>((i:Int)+1,eF R i)⟩
def qA:Ex:=.mk 2 0 0 0 ⟨#[108,97,116,101,114]⟩ []
def MI:ByteArray:=⟨#[97,103,101]⟩
def bG(n:Int)(V:dH):dH:=
 if n=0 then {V with gr:=match V.gr with|t::r=>(t.1,t.2.1,t.2.1)::r| []=>[]}
 else if n=1 then {V with gr:=match V.gr with|t::u::r=>t::(t.1,u.2)::r|l=>l}
 else if n=2 then {V with le:=match V.le with|t::u::r=>t::(t.1,u.2)::r|l=>l}
 else if n=3 then {V with le:=match V.le with|t::r=>(t.1,qA)::r| []=>[]}
 else if n=4 then {V with se:=match V.se with|t::u::r=>t::(t.1,u.2)::r|l=>l}
 else if n=5 then {V with cr:=match V.cr with|t::u::r=>t::(t.1,u.2)::r|l=>l}
 else {V with le:=match V.le with|t::r=>(MI,t.2)::r| []=>[]}
def ofP(R:cO):dH:=if R.twist=0 then fB R else if R.twist.tmod 8=0 then bG (pick (R.twist.tdiv 8) 7) (fB R)else fB R

structure qV(B:Nat)(w:World)(cr:List (Int × Int))(se:List (Int × Int × Int))(ql:List (ByteArray × (Ex × Value)))(qg:List GrT)(qr:List (Int × (Ex × Value)))(v3 v4 v5 v6 v7:Value)(H1 H2 H3 H4 H5:Nat):Prop where
 ord:B<=H1/\H1<=H2/\H2<=H3/\H3<=H4/\H4<=H5
 r1:bv 60 2 H1 (· <H2) w v3 (crL cr) []
 r2:bv 64 3 H2 (· <H3) w v4 (seL se) []
 r3:bv 72 7 H3 (· <H4) w v5 (fQ ql) (ql.map (·.2))
 r4:bv 76 13 H4 (· <H5) w v6 (grL qg) (grR qg)
 r5:bV 78 7 H5 w v7 (reL qr) (qr.map (·.2))
def cz(B:Nat)(w:World)(V:dH)(v3 v4 v5 v6 v7:Value):Prop:=
 ∃ql qg qr H1 H2 H3 H4 H5,ql.map (fun t=>(t.1,t.2.1))=V.le/\qg.map (fun t=>(t.1,t.2.1.1,t.2.2.1))=V.gr/\qr.map (fun t=>(t.1,t.2.1))=V.re/\qV B w V.cr V.se ql qg qr v3 v4 v5 v6 v7 H1 H2 H3 H4 H5
def ja(R:cO)(w:World)(e:Ending)(w':World):Prop:=
 ∃v3 v4 v5 v6 v7,e= .returned (.agg #[.int .i64 (ofP R).frm,.int .i64 (ofP R).mode,.int .i64 (ofP R).unit,v3,v4,v5,v6,v7])/\w.Grows w'/\cz w.heap.size w' (ofP R) v3 v4 v5 v6 v7

theorem Mq(R:cO):crL (fB R).cr=bE R (gZ R):=by simp [crL,fB,bE]
theorem KN(R:cO):seL (fB R).se=bS R (l6 R):=by simp [seL,fB,bS]
theorem DV(n:Int)(V:dH):(bG n V).frm=V.frm/\(bG n V).mode=V.mode/\(bG n V).unit=V.unit:=by
 unfold bG
 repeat' split
 all_goals exact⟨rfl,rfl,rfl⟩
theorem Io(R:cO):(fB R).cr.length<=1000/\(fB R).se.length<=1000/\(fB R).le.length<=1000/\(fB R).gr.length<=1000:=by
 simp only [fB,length_map,length_range];unfold gZ l6 fP vK;omega
theorem Sr{R:cO}(h:R.twist=0):ofP R=fB R:=by unfold ofP;rw [if_pos h]
theorem Sq{R:cO}(h:¬R.twist=0)(h2:¬R.twist.tmod 8=0):ofP R=fB R:=by unfold ofP;rw [if_neg h,if_neg h2]
theorem Sn{R:cO}(h:¬R.twist=0)(h2:R.twist.tmod 8=0):ofP R=bG (pick (R.twist.tdiv 8) 7) (fB R):=by unfold ofP;rw [if_neg h,if_pos h2]
theorem jv{w:World}{b:Nat}{cs:Array Value}{t:TypeId}(hb:w.heap[b]? =some (.cells cs t (0,0)))(n:Nat)(hn:cs.size=n):w.there b 0 n:=fun j hj=>by
 rw [Nat.zero_add,cell_of_row _ _ _ _ _ _ hb,Array.getElem?_eq_getElem ze];exact⟨rfl,Joins.unfrozen_of_block hb j⟩
theorem lg:(prog.info? 36).map (·.size)=some 8:=by kernel_rfl
theorem KC{z:Int}(h:I64 z):IntKind.i64.wrap (z.tdiv 8)=z.tdiv 8:=IntWalk.i64_in _ (by
 obtain⟨a,b⟩:=h;rcases Int.le_total 0 z with hz|hz
 ·rw [Int.tdiv_eq_ediv_of_nonneg hz];omega
 ·have e:z.tdiv 8= -((-z).tdiv 8):=by rw [Int.neg_tdiv,Int.neg_neg]
  rw [e,Int.tdiv_eq_ediv_of_nonneg ze];omega)
theorem CK(l:List (List Value))(c i j:Nat)(u:Value)(h:∀x∈l,x.length=c)(hj:j<c)(hi:i<l.length):l.flatten.set (i*c+j) u=(l.set i ((l.getD i []).set j u)).flatten:=by
 induction l generalizing i with
 |nil=>simp at hi
 |cons x r ih=>
  have hx:=h x (mem_cons_self)
  cases i with
  |zero=>
   simp only [flatten_cons,set_cons_zero,getD_cons_zero,Nat.zero_mul,Nat.zero_add];rw [set_append_left _ _ ze]
  |succ i=>
   simp only [flatten_cons,set_cons_succ,getD_cons_succ];rw [set_append_right _ _ (by rw [hx,Nat.add_mul];omega),<-ih i (fun y hy=>h y (mem_cons_of_mem _ hy)) yo]
   congr 2;rw [hx,Nat.add_mul];omega
section
variable {T : TypeId} {c base g n cap : Nat} {X : Nat -> Prop} {w : World} {l : List (List Value)} {rs rs' : List (Ex × Value)}
theorem bv.stored(h:bv T c base X w (.slice (some ⟨g,0,none⟩) n cap) l rs)(hn:n=l.length)(i j k:Nat)(hk:k=i*c+j)(hj:j<c)(hi:i<l.length)(u:Value)(hr:∀x∈rs',x∈rs\/aB (fun b=>(base<=b/\X b)/\g≠b) w x.1 x.2) :
 bv T c base X (w.setCell ⟨g,k,none⟩ u) (.slice (some ⟨g,0,none⟩) n cap) (l.set i ((l.getD i []).set j u)) rs':=by
 subst hn hk;refine⟨?_,fun x hx=>?_,h.ownX,fun x hx=>?_⟩
 ·have:=(h.own.stored (i*c+j) u).1;rw [CK l c i j u h.len hj hi]at this;rw [length_set];exact this
 ·rcases mem_or_eq_of_mem_set hx with hx|rfl
  ·exact h.len x hx
  ·rw [length_set,getD_eq_getElem?_getD,getElem?_eq_getElem hi];exact h.len _ (getElem_mem hi)
 ·have hrep:aB (fun b=>(base<=b/\X b)/\g≠b) w x.1 x.2:=by
   rcases hr x hx with h2|h2
   ·exact(h.rep x h2).mono fun b hb=>⟨hb.1,fun e=>hb.2 (by rw [e];rfl)⟩
   ·exact h2
  refine(hrep.keep zg fun b o hb hlt=>World.cell?_of_block (Below.heap_setCell _ _ _ _ (Ne.symm hb.2))).mono fun b hb=>⟨hb.1,fun e=>hb.2 (by simpa [Value.ownBlock]using e)⟩
theorem bv.apart(h:bv T c base X w (.slice (some ⟨g,0,none⟩) n cap) l rs):base<=g/\X g/\g<w.heap.size:=⟨(h.own.lt g rfl).1,h.ownX g rfl,(h.own.lt g rfl).2⟩
theorem bv.kept{b o:Nat}{v:Value}(h:bv T c base X w v l rs)(hb:¬(base<=b/\X b))(u:Value):bv T c base X (w.setCell ⟨b,o,none⟩ u) v l rs:=
 h.keep zg fun k hk hX _=>Below.heap_setCell _ _ _ _ (fun e=>hb ⟨(show k=b from e) ▸ hk,(show k=b from e) ▸ hX⟩)
theorem bV.kept{b o:Nat}{v:Value}(h:bV T c base w v l rs)(hb:b<base)(u:Value):bV T c base (w.setCell ⟨b,o,none⟩ u) v l rs:=h.setCell hb u
theorem bv.block{v:Value}(h:bv T c base X w v l rs)(h0:0<l.length):∃g cap,v= .slice (some ⟨g,0,none⟩) l.length cap:=by
 rcases h.own.2 with ⟨_,h1⟩|⟨g,cap,cur,rfl,_⟩
 ·omega
 ·exact⟨g,cap,rfl⟩
theorem bv.cellAt(h:bv T c base X w (.slice (some ⟨g,0,none⟩) n cap) l rs)(hn:n=l.length)(i j:Nat)(hj:j<c)(hi:i<l.length):w.cell? ⟨g,i*c+j,none⟩=(l.getD i [])[j]?:=by
 subst hn;rw [h.own.cellAt (i*c+j) (by have:=Nat.mul_le_mul_right c (show i+1<=l.length from hi);rw [Nat.add_mul]at this;omega),rH l c h.len i j hj hi]
end
end Go.Proofs.YtcfpoofhokbhlaaGreatDoor
