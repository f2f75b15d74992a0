import Derived.Test.YtfoefpoaomepbaaGreatDoorGEvP
import Derived.Test.YtfoefpoaomepbaaGreatDoorGExpr
set_option linter.all false
set_option maxHeartbeats 16000000
set_option maxRecDepth 1000000
namespace Go.Proofs.YtfoefpoaomepbaaGreatDoor
open Tryz List
open Go.RowKit
theorem Co(w:World):Calls prog 191 #[] w fun e w'=>e= .returned (.agg Cr)/\w.Grows w':=by
 go_enter func191,ntmps191
 go_wp2_with fail
 exact uH
def rT(w:World)(v:Value)(l:List Ins):Prop:=
 l.length<=1000000/\∃a cap,v= .slice a l.length cap/\(l.length=0\/∃b off,a=some ⟨b,off,none⟩/\b<w.heap.size/\∀i,i<l.length->(I64 (l.getD i default).n/\I64 (l.getD i default).d)/\w.cell? ⟨b,off+i*4,none⟩=some (.int .i64 (l.getD i default).op)/\
  w.cell? ⟨b,off+i*4+1,none⟩=some (.int .i64 (l.getD i default).a)/\w.cell? ⟨b,off+i*4+2,none⟩=some (.int .i64 (l.getD i default).n)/\w.cell? ⟨b,off+i*4+3,none⟩=some (.int .i64 (l.getD i default).d))
def FC(w:World)(v:Value)(sl:List ByteArray):Prop:=
 sl.length<=1000000/\(∀s∈sl,s.size<=maxLen)/\∃a cap,sl.length<=cap/\v= .slice a sl.length cap/\(sl.length=0\/∃b off,a=some ⟨b,off,none⟩/\b<w.heap.size/\∀i,i<sl.length->w.cell? ⟨b,off+i,none⟩=some (.string (sl.getD i ByteArray.empty)))
theorem rT.grows{w w':World}{v:Value}{l:List Ins}(h:rT w v l)(hg:w.Grows w'):rT w' v l:=by
 obtain⟨h0,a,cap,hv,h1⟩:=h;refine⟨h0,a,cap,hv,h1.imp id ?_⟩;rintro⟨b,off,ha,hb,hc⟩;have hs:=hg.below.size;have e:∀o,w'.cell? ⟨b,o,none⟩=w.cell? ⟨b,o,none⟩:=fun o=>World.cell?_of_block (hg.below.block b hb);refine⟨b,off,ha,by omega,fun i hi=>?_⟩;obtain⟨k0,k1,k2,k3,k4⟩:=hc i hi;exact⟨k0,(e _).trans k1,(e _).trans k2,(e _).trans k3,(e _).trans k4⟩
theorem FC.grows{w w':World}{v:Value}{sl:List ByteArray}(h:FC w v sl)(hg:w.Grows w'):FC w' v sl:=by
 obtain⟨h0,h00,a,cap,hcp,hv,h1⟩:=h;refine⟨h0,h00,a,cap,hcp,hv,h1.imp id ?_⟩;rintro⟨b,off,ha,hb,hc⟩;have hs:=hg.below.size;exact SN
def gG(l:List Ins):List Value:=l.flatMap fun x=>[.int .i64 x.op,.int .i64 x.a,.int .i64 x.n,.int .i64 x.d]
theorem uA(l:List Ins):(gG l).length=l.length*4:=by
 induction l with
 |nil=>rfl
 |cons x r ih=>unfold gG at *;rw [flatMap_cons,length_append,ih,length_cons];simp;omega
theorem Mc(a b:List Ins):gG (a++b)=gG a++gG b:=by unfold gG;rw [flatMap_append]
theorem qB(l:List Ins)(x:Ins):gG (l++[x])=gG l++[.int .i64 x.op,.int .i64 x.a,.int .i64 x.n,.int .i64 x.d]:=by rw [Mc];rfl
def eP(l:List Ins)(i:Nat)(z:Int):List Ins:=l.set i {l.getD i default with a:=z}
theorem iA(l:List Ins)(i:Nat)(z:Int):(eP l i z).length=l.length:=by unfold eP;rw [length_set]
theorem L8(l:List Ins)(i:Nat)(z:Int)(hi:i<l.length):(gG l).set (i*4+1) (.int .i64 z)=gG (eP l i z):=by
 induction l generalizing i with
 |nil=>simp at hi
 |cons x r ih=>
  cases i with
  |zero=>rfl
  |succ i=>
   have h1:gG (x::r)= [.int .i64 x.op,.int .i64 x.a,.int .i64 x.n,.int .i64 x.d]++gG r:=rfl;have h2:eP (x::r) (i+1) z=x::eP r i z:=rfl;rw [h1,h2,show(i+1)*4+1=4+(i*4+1)by omega,set_append_right _ _ zd];show _++(gG r).set (4+(i*4+1)-4) _=_;rw [Nat.add_sub_cancel_left,ih i yc];rfl
theorem tu(l:List Ins)(x:Ins)(r:List Ins)(z:Int):eP (l++x::r) l.length z=l++ {x with a:=z} ::r:=by
 unfold eP;simp [getD_eq_getElem?_getD]
def kW(base:Nat)(w:World)(v:Value)(l:List Ins):Prop:=w.ownsRow base 119 4 v l.length (gG l)
theorem kW.form{base:Nat}{w:World}{v:Value}{l:List Ins}(h:kW base w v l):∃a c,v= .slice a l.length c:=by
 obtain⟨-,⟨rfl,h0⟩|⟨g,cap,cur,rfl,-⟩⟩:=h
 ·exact⟨_,_,by rw [h0]⟩
 ·exact⟨_,_,rfl⟩
structure Ext(w w':World)(v v':Value):Prop where
 g:w.grownBy w' v.ownBlock
 at_:v'.ownBlock=v.ownBlock\/∃b,v'.ownBlock=some b/\w.heap.size<=b
theorem jG{w w1 w2:World}{row:Option Nat}(hg:w.Grows w1)(h:w1.grownBy w2 row):w.grownBy w2 row:=
 ⟨h.os.trans hg.below.os,h.tape.trans hg.below.tape,h.output.trans hg.below.output,Nat.le_trans hg.below.size h.size,fun k hk hn=>(h.block k (Nat.lt_of_lt_of_le hk hg.below.size) hn).trans (hg.below.block k hk)⟩
theorem Ext.grows{w w1 w2:World}{v v':Value}(hg:w.Grows w1)(h:Ext w1 w2 v v'):Ext w w2 v v':=
 ⟨jG hg h.g,h.at_.imp id fun⟨b,e,hb⟩=>⟨b,e,Nat.le_trans hg.below.size hb⟩⟩
theorem Ext.trans{w w1 w2:World}{v v1 v2:Value}(h:Ext w w1 v v1)(h2:Ext w1 w2 v1 v2):Ext w w2 v v2:=by
 refine⟨⟨h2.g.os.trans h.g.os,h2.g.tape.trans h.g.tape,h2.g.output.trans h.g.output,Nat.le_trans h.g.size h2.g.size,fun k hk hn=>?_⟩, ?_⟩
 ·refine(h2.g.block k (Nat.lt_of_lt_of_le hk h.g.size) fun e=>?_).trans (h.g.block k hk hn);rcases h.at_ with e1|⟨b,e1,hb⟩
  ·exact hn (e.trans e1)
  ·rw [e1]at e;cases e;omega
 ·rcases h2.at_ with e2|⟨b,e2,hb⟩
  ·exact SK
  ·exact .inr ⟨b,e2,Nat.le_trans h.g.size hb⟩
theorem Ext.of{w w1:World}{v:Value}(hg:w.Grows w1):Ext w w1 v v:=⟨⟨hg.below.os,hg.below.tape,hg.below.output,hg.below.size,fun k hk _=>hg.below.block k hk⟩,.inl rfl⟩
theorem Ext.app{w W w1:World}{v:Value}{g n c H:Nat}(hg:w.Grows W)(h:W.grownBy w1 v.ownBlock)(ha:v.ownBlock=some g\/g=H)(hH:w.heap.size<=H):Ext w w1 v (.slice (some ⟨g,0,none⟩) n c):=
 ⟨jG hg h,by
  rcases ha with e|e
  ·exact .inl e.symm
  ·exact .inr ⟨g,rfl,by omega⟩⟩
def Sg(S:Nat->Prop)(w:World)(v:Value)(sl:List ByteArray):Prop:=
 sl.length<=1000/\(∀s∈sl,s.size<=maxLen)/\∃a cap,sl.length<=cap/\v= .slice a sl.length cap/\(sl.length=0\/∃b off,a=some ⟨b,off,none⟩/\S b/\b<w.heap.size/\∀i,i<sl.length->w.cell? ⟨b,off+i,none⟩=some (.string (sl.getD i ByteArray.empty)))
structure Bj(S:Nat->Prop)(N base:Nat)(w:World)(v vs:Value)(l:List Ins)(sl:List ByteArray):Prop where
 row:kW base w v l
 lt:∀b,S b->b<N
 sz:N<=w.heap.size
 ap:∀b,S b->some b≠v.ownBlock
 bs:base<=w.heap.size
 sl:Sg S w vs sl
section
variable {S : Nat -> Prop} {N base : Nat} {w w' : World} {v v' vs ve : Value} {l l' : List Ins} {sl : List ByteArray} {e : Ex}
theorem Bj.step(h:Bj S N base w v vs l sl)(hx:Ext w w' v v')(hr:kW base w' v' l'):Bj S N base w' v' vs l' sl:=by
 refine⟨hr,h.lt,Nat.le_trans h.sz hx.g.size,fun b hb e=>?_,Nat.le_trans h.bs hx.g.size, ?_⟩
 ·rcases hx.at_ with e1|⟨b',e1,hb'⟩
  ·exact h.ap b hb (e.trans e1)
  ·rw [e1]at e;cases e;have:=h.lt _ hb;have:=h.sz;omega
 ·obtain⟨h1,h2,a,cap,h3,h4,h5⟩:=h.sl;refine⟨h1,h2,a,cap,h3,h4,h5.imp id ?_⟩;rintro⟨b,off,ha,hS,hb,hc⟩;exact⟨b,off,ha,hS,Nat.lt_of_lt_of_le hb hx.g.size,fun i hi=>(World.cell?_of_block (a:=⟨b,off+i,none⟩) (hx.g.block b hb (h.ap b hS))).trans (hc i hi)⟩
theorem Bj.ex(h:Bj S N base w v vs l sl)(hx:Ext w w' v v')(hr:ax S w e ve):ax S w' e ve:=
 hr.keep hx.g.size fun b o hS hb=>World.cell?_of_block (a:=⟨b,o,none⟩) (hx.g.block b hb (h.ap b hS))
theorem Bj.far(hx:Ext w w' v v'){b:Nat}(hb:b<w.heap.size)(hn:some b≠v.ownBlock):w'.heap[b]? =w.heap[b]?/\some b≠v'.ownBlock:=by
 refine⟨hx.g.block b hb hn,fun e=>?_⟩;rcases hx.at_ with e1|⟨b',e1,hb'⟩
 ·exact hn (e.trans e1)
 ·rw [e1]at e;cases e;omega
theorem Bj.new(h:Bj S N base w v vs l sl):some w.heap.size≠v.ownBlock:=fun e=>by
 have:=(h.row.lt _ e.symm).2;omega
theorem kW.grows(h:kW base w v l)(hg:w.Grows w'):kW base w' v l:=
 h.kept (row:=none) ⟨hg.below.os,hg.below.tape,hg.below.output,hg.below.size,fun k hk _=>hg.below.block k hk⟩ (by cases h':v.ownBlock<;>simp)
end
theorem Rk:(prog.info? 119).map (fun i=>(i.zero,i.size,i.bytes))=some (some (.agg #[.int .i64 0,.int .i64 0,.int .i64 0,.int .i64 0]),4,32):=by kernel_rfl
theorem QW{sl:List ByteArray}{s:ByteArray}{k:Nat}(hk:k<sl.length)(he:sl.getD k ByteArray.empty=s)(hn:∀j,j<k->sl.getD j ByteArray.empty≠s):slK sl s=k:=by
 have g:∀j (h:j<sl.length),sl.getD j ByteArray.empty=sl[j]:=fun j h=>by rw [getD_eq_getElem?_getD,getElem?_eq_getElem h];rfl
 have:sl.findIdx? (fun x=>decide (x=s))=some k:=findIdx?_eq_some_iff_getElem.2 ⟨hk,by simpa using(g k hk).symm.trans he,fun j hj=>by
  have:=hn j hj;rw [g j zb]at this
  simpa using this⟩
 unfold slK;rw [this];rfl
theorem Hz{a b:ByteArray}(h:a≠b):(a.toList==b.toList)=false:=by
 have back:∀x:ByteArray,x=⟨x.toList.toArray⟩:=fun x=>by apply ByteArray.ext;rw [ByteArray.toList_eq]
 rw [beq_eq_false_iff_ne];exact fun e=>h ((back _).trans ((congrArg (fun l:List UInt8=>(⟨l.toArray⟩:ByteArray)) e).trans (back _).symm))
theorem Fs(κ:ByteArray->Nat)(l:List Ex):(bP κ l).length=l.length:=by
 induction l with
 |nil=>simp [bP]
 |cons e r ih=>simp [bP,ih]
theorem uX(κ:ByteArray->Nat)(l:List Ex)(k:Nat)(h:k<l.length):(bP κ l)[k]? =some (codeF κ (l.getD k default)):=by
 induction l generalizing k with
 |nil=>simp at h
 |cons e r ih=>
  rw [bP]
  cases k with
  |zero=>rfl
  |succ k=>exact ih k zy
theorem wK:∀(fs:List (Nat->List Ins)) (k i:Nat) (f:Nat->List Ins),fs[k]? =some f->fw (fs.take (k+1)) i=fw (fs.take k) i++f (i+(fw (fs.take k) i).length)
 | [],_,_,_,h=>by simp at h
 |g::r,0,i,f,h=>by simp at h;subst h;simp [fw]
 |g::r,k+1,i,f,h=>by
  rw [take_succ_cons,take_succ_cons,fw,fw,wK r k _ f zy,append_assoc,length_append];simp [Nat.add_assoc]
theorem wL:∀(fs:List (Nat->List Ins)) (k i:Nat),(fw (fs.take k) i).length<=(fw fs i).length
 | [],k,i=>by simp
 |g::r,0,i=>by simp [fw]
 |g::r,k+1,i=>by
  rw [take_succ_cons,fw,fw,length_append,length_append];have:=wL r k (i+(g i).length);omega
theorem ax.args9{S:Nat->Prop}{w:World}{e:Ex}{a:Option Addr}{cap:Nat}(h:ax S w e (.slice a e.args.length cap))(hn:0<e.args.length):∃b off,a=some ⟨b,off,none⟩/\b<w.heap.size/\
 ∀k,k<e.args.length->∃ak ck,FI w b (off+k*6) (e.arg k) (.slice ak (e.arg k).args.length ck)/\ax S w (e.arg k) (.slice ak (e.arg k).args.length ck):=by
 generalize hv:Value.slice a e.args.length cap=v at h
 cases h with
 |mk _ a' cap' vs hr hc hs=>
  cases hv;rcases hc with h0|⟨b,off,rfl,-,hb,hx⟩
  ·omega
  ·refine⟨b,off,rfl,hb,fun k hk=>?_⟩;obtain⟨ak,ck,hvk⟩:=(hs k hk).form0;exact⟨ak,ck,hvk ▸ hx k hk,hvk ▸ hs k hk⟩
section
variable {S : Nat -> Prop} {N base : Nat} {Wb wr w1 W : World} {v vr vs : Value} {L : List Ins} {sl : List ByteArray} {e : Ex} {ea : Option Addr} {ec : Nat}
end
theorem Qp(l Ac Bc Cc:List Ins)(i1 i2 i3:Nat)(h1:i1=(l++Ac).length)(h2:i2=(l++Ac++[(⟨22,0,0,0⟩:Ins)]++Bc).length) :
 eP (eP (l++Ac++[(⟨22,0,0,0⟩:Ins)]++Bc++[(⟨21,0,0,0⟩:Ins)]) i1 ((l++Ac++[(⟨22,0,0,0⟩:Ins)]++Bc++[(⟨21,0,0,0⟩:Ins)]).length:Nat)++Cc) i2 i3=
  l++(Ac++⟨22,((l.length+Ac.length+1+Bc.length+1:Nat):Int),0,0⟩::(Bc++⟨21,i3,0,0⟩::Cc)):=by
 have e1:eP (l++Ac++[(⟨22,0,0,0⟩:Ins)]++Bc++[(⟨21,0,0,0⟩:Ins)]) i1 ((l++Ac++[(⟨22,0,0,0⟩:Ins)]++Bc++[(⟨21,0,0,0⟩:Ins)]).length:Nat)=l++Ac++⟨22,((l.length+Ac.length+1+Bc.length+1:Nat):Int),0,0⟩::(Bc++[(⟨21,0,0,0⟩:Ins)]):=by
  have:=tu (l++Ac) ⟨22,0,0,0⟩ (Bc++[(⟨21,0,0,0⟩:Ins)]) ((l++Ac++[(⟨22,0,0,0⟩:Ins)]++Bc++[(⟨21,0,0,0⟩:Ins)]).length:Nat);rw [<-h1]at this;simp only [append_assoc,cons_append,nil_append]at this ⊢;rw [this];simp only [length_append,length_cons,length_nil]
  congr 4
  omega
 rw [e1];have:=tu (l++Ac++⟨22,((l.length+Ac.length+1+Bc.length+1:Nat):Int),0,0⟩::Bc) ⟨21,0,0,0⟩ Cc (i3:Int);rw [show(l++Ac++⟨22,((l.length+Ac.length+1+Bc.length+1:Nat):Int),0,0⟩::Bc).length=i2 by rw [h2];simp]at this;simp only [append_assoc,cons_append,nil_append]at this ⊢;rw [this]
end Go.Proofs.YtfoefpoaomepbaaGreatDoor
namespace Go
open Go.RowKit
@[go_sem] theorem World.setCell_src_other{w:World}{s:Nat}{lv:Value}{p left:Int}{b i:Nat}(h:b≠s)(v:Value):(w.src s lv p left).setCell ⟨b,i,none⟩ v=(w.setCell ⟨b,i,none⟩ v).src s lv p left:=by
  simp only [World.src,World.setCell]
  congr 1
  apply Array.ext_getElem?;intro k;simp only [Array.getElem?_modify,Array.getElem?_setIfInBounds,Array.size_modify];by_cases hk:b=k
  ·subst hk;simp [Ne.symm h]
  ·simp [hk]
theorem RowKit.Below.src{B:Nat}{a w:World}{s:Nat}(h:Below B a w)(hB:B<=s)(lv:Value)(p left:Int):Below B a (w.src s lv p left):=
 h.trans ⟨rfl,rfl,rfl,by simp,fun k hk=>World.heap_src_other zb⟩
end Go
namespace Go.Proofs.YtfoefpoaomepbaaGreatDoor
open Tryz List
open Go.RowKit

theorem uq(zs:List Int)(env:List (ByteArray × Int))(p:Nat)(dim:Int):(eQ zs env p dim).1.size=1:=by
 unfold eQ
 split
 ·simp [Ex.size,Ex.sizes]
 ·split<;>simp [Ex.size,Ex.sizes]
theorem jb(zs:List Int)(env:List (ByteArray × Int))(dim:Int)(p:Nat)(left:Int):(dD zs env dim p left).1.size<=3:=by
 unfold dD
 split
 ·simp [Ex.size,Ex.sizes,uq]
 ·simp [uq]
theorem BQ(E:Int->Nat->Int->Ex × Nat × Int)(c:Nat)(hE:∀d p left,(E d p left).1.size<=c)(ds:List Int):∀(p:Nat) (left:Int),Ex.sizes (bD E ds p left).1<=ds.length*c:=by
 induction ds with
 |nil=>intro p left;simp [bD,Ex.sizes]
 |cons d ds ih=>
  intro p left;have a:=hE d p left;have b:=ih (E d p left).2.1 (E d p left).2.2;simp only [bD,Ex.sizes,length_cons,Nat.add_mul,Nat.one_mul];omega
theorem uL(zs:List Int)(env:List (ByteArray × Int))(n:Nat):∀(dim:Int) (p:Nat) (left:Int),(aM zs env n dim p left).1.size<=aK n:=by
 induction n with
 |zero=>intro dim p left;have:=jb zs env dim p left;simp only [aM,aK];omega
 |succ n ih=>
  intro dim p left;have h8:=bV n;rw [aM,aK]
  split
  ·have:=jb zs env dim p left;omega
  ·cases h:bC zs p dim with
   |none=>have:=jb zs env dim (p+1) (left-2);simp only;omega
   |some t=>
    obtain⟨op,ds,q⟩:=t;have a:=BK zs p dim h;have b:=BQ (aM zs env n) (aK n) ih ds q (left-2);have c:ds.length*aK n<=3*aK n:=Nat.mul_le_mul_right _ a.2.2;simp only [Ex.size];omega
def jW(zs:List Int)(env:List (ByteArray × Int))(dim:Int):Ex:=
 if bB (aM zs env 5 dim 0 24).1=true then(aM zs env 5 dim 0 24).1 else(dD zs env dim (aM zs env 5 dim 0 24).2.1 0).1
theorem KG{zs:List Int}{env:List (ByteArray × Int)}{dim:Int}{e:Ex}{r:Nat × Int}(h:aM zs env 5 dim 0 24=(e,r))(hv:bB e=true):jW zs env dim=e:=by
 unfold jW;rw [h,if_pos hv]
theorem N7{zs:List Int}{env:List (ByteArray × Int)}{dim:Int}{e:Ex}{p':Nat}{l':Int}(h:aM zs env 5 dim 0 24=(e,p',l'))(hv:bB e=false):jW zs env dim=(dD zs env dim p' 0).1:=by
 unfold jW;rw [h,if_neg (by simp [hv])]
theorem aF.other{w:World}{s s':Nat}{lv:Value}{zs:List Int}(h:aF w s lv zs)(hs:w.heap.size<=s'):aF w s' lv zs:=by
 obtain⟨h0,a,cap,hv,h1⟩:=h;refine⟨h0,a,cap,hv,h1.imp id ?_⟩;rintro⟨b,off,ha,hb,hbs,hcc⟩;exact⟨b,off,ha,hb,by omega,hcc⟩
theorem aU.other{w:World}{s s':Nat}{v:Value}{env:List (ByteArray × Int)}(h:aU w s v env)(hs:w.heap.size<=s'):aU w s' v env:=by
 obtain⟨h0,hn,a,cap,hv,h1⟩:=h;refine⟨h0,hn,a,cap,hv,h1.imp id ?_⟩;rintro⟨b,off,ha,hb,hbs,hcc⟩;exact⟨b,off,ha,hb,by omega,hcc⟩
theorem KP(w:World)(lv:Value)(p left:Int)(H:Nat)(hH:w.heap.size=H):(w.alloc (.cells #[lv,.int .i64 p,.int .i64 left] 91)).src H lv p left=w.alloc (.cells #[lv,.int .i64 p,.int .i64 left] 91):=by
 subst hH;exact World.src_new w lv p left

def mI(w:World)(E:Ex)(e:Ending)(w':World):Prop:=∃v,e= .returned (exV E v)/\w.Grows w'/\ax (fun b=>w.heap.size<=b) w' E v
theorem NE(lv ev:Value)(zs:List Int)(env:List (ByteArray × Int))(dim:Int)(w:World)(hl0:aF w w.heap.size lv zs)(he0:aU w w.heap.size ev env)(hd1:1<=dim)(hd4:dim<=4) :
 Calls prog 9 #[lv,.int .i64 dim,ev] w (mI w (jW zs env dim)):=by
 have hl:=yq (hl0.other (s':=w.heap.size+1) zb);have he:=yq (he0.other (s':=w.heap.size+1) zb);have hlf:=hl0;obtain⟨-,la,lc,hlv,-⟩:=hlf;subst hlv;clear hl0 he0;have hrb:=uN zs env 5 dim 0 24;have hsz:=uL zs env 5 dim 0 24;have hc5:aK 5=2307:=rfl;rw [hc5]at hrb hsz;generalize hR:aM zs env 5 dim 0 24=r at hrb hsz;have HR:=yq hR;clear hR hc5;obtain⟨E,p',l'⟩:=r;simp only at hrb hsz;have HSZ:=yq (show E.size<=2305843009213693952 by omega);clear hsz
 go_enter func9,ntmps9
 go_wp2_with fail
 refine(bS.call (PL (w.heap.size+1) _ _ zs env 5 zb) dim 0 0 24 1 _ _ HR rfl zb hd1 hd4 zd (KP _ _ _ _ _ zd) (yq zn) (yq zv) zf zf zb).mono ?_;rintro e' w' ⟨v,bs,d,rfl,rfl,hrep⟩;obtain⟨va,vc,hv⟩:=hrep.form;subst hv;have REP:Hid (ax (fun b=>w.heap.size+2<=b) ((((w.alloc (.cells #[.int .i64 0,.int .i64 0,.int .i64 0,.int .i64 0,.string ⟨#[]⟩,.slice none 0 0] 27)).alloc (.cells #[.slice la zs.length lc,.int .i64 0,.int .i64 24] 91)).src (w.heap.size+1) (.slice la zs.length lc) p' l').grow bs d) E (.slice va E.args.length vc)):=yq (hrep.mono fun b hb=>by simpa using hb);clear hrep;cases hb:bB E
 ·have HB:=yq hb;have HT:=yq (N7 HR.out hb);clear hb
  go_wp2_with fail
  refine gv (iw _ E _ _ (yq (REP.out.alloc _)) HSZ) ?_;intro bs2 d2;simp only [HB.out]
  go_wp2_with fail
  have hlb:=jb zs env dim p' 0;generalize hL:dD zs env dim p' 0=q at HT hlb;have HL:=yq hL;clear hL hlb;obtain⟨E2,p2,l2⟩:=q;refine(kw (w.heap.size+1) (.slice la zs.length lc) zs p' _ 0 dim _ env _ rfl hd1 hd4 zg zD (yq zn) (yq zv) zb zb zb).mono ?_;rintro e' w' ⟨v2,bs3,d3,rfl,rfl,hrep2⟩;obtain⟨v2a,v2c,hv2⟩:=hrep2.form;subst hv2;rw [HL.out]at hrep2;simp only [HL.out];have H2:=yq (hrep2.eqw (w':=(((((w.alloc (.cells #[.int .i64 0,.int .i64 0,.int .i64 0,.int .i64 0,.string ⟨#[]⟩,.slice none 0 0] 27)).alloc (.cells #[.slice la zs.length lc,.int .i64 0,.int .i64 24] 91)).src (w.heap.size+1) (.slice la zs.length lc) p2 l2).grow bs d).alloc (.cells #[.int .i64 E.op,.int .i64 E.num,.int .i64 E.den,.int .i64 E.dim,.string E.name,.slice va E.args.length vc] 27)).grow (bs2++bs3) d3) zD);clear hrep2
  go_wp2_with fail
  go_returns
  refine⟨_,by rw [HT.out],.of_below yF, ?_⟩;rw [HT.out];refine(H2.out.lift0 ?_ ?_ _).mono ?_
  all_goals first
   |(intro b hb;simp at hb;omega)
   |(intro b hb;omega)
   |(simp;done)
   |(simp;omega)
 ·have HB:=yq hb;have HT:=yq (KG HR.out hb);clear hb
  go_wp2_with fail
  refine gv (iw _ E _ _ (yq (REP.out.alloc _)) HSZ) ?_;intro bs2 d2;simp only [HB.out]
  go_wp2_with fail
  go_returns
  refine⟨_,by rw [HT.out],.of_below yF, ?_⟩;rw [HT.out];refine((((REP.out.lift0 ?_ ?_ d).alloc _).grow _ _).mono ?_)
  all_goals first
   |(intro b hb;simp at hb;omega)
   |(intro b hb;omega)
   |(simp;done)
   |(simp;omega)

structure bI(T:TypeId)(c:Nat)(base:Nat)(w:World)(v:Value)(l:List (List Value))(rs:List (Ex × Value)):Prop where
 own:w.ownsRow base T c v l.length l.flatten
 len:∀x∈l,x.length=c
 rep:∀x∈rs,ax (fun b=>base<=b/\v.ownBlock≠some b) w x.1 x.2
section
variable {T : TypeId} {c base : Nat} {w w' : World} {v : Value} {l : List (List Value)} {rs : List (Ex × Value)}
theorem bI.nil(T:TypeId)(c base:Nat)(w:World):bI T c base w (.slice none 0 0) [] []:=⟨World.ownsRow_nil _ _ _ _,fun _ h=>by(cases h),fun _ h=>by(cases h)⟩
theorem bI.keep(h:bI T c base w v l rs)(hsz:w.heap.size<=w'.heap.size)(hw:∀k,base<=k->k<w.heap.size->w'.heap[k]? =w.heap[k]?):bI T c base w' v l rs:=
 ⟨gu h.own hw,h.len,fun x hx=>(h.rep x hx).keep hsz fun b o hb hlt=>World.cell?_of_block (hw b hb.1 hlt)⟩
theorem bI.alloc(h:bI T c base w v l rs)(o:Obj):bI T c base (w.alloc o) v l rs:=h.keep zd fun k _ hlt=>Below.heap_alloc w o k hlt
theorem bI.grow(h:bI T c base w v l rs)(bs:Array Obj)(d:Nat):bI T c base (w.grow bs d) v l rs:=h.keep zd fun k _ hlt=>World.heap_grow _ _ _ hlt
theorem bI.drewN(h:bI T c base w v l rs)(n:Nat):bI T c base (w.drewN n) v l rs:=h.keep (Nat.le_refl _) fun _ _ _=>rfl
theorem bI.setCell(h:bI T c base w v l rs){a:Addr}(ha:a.block<base)(u:Value):bI T c base (w.setCell a u) v l rs:=
 h.keep zd fun k hk _=>Below.heap_setCell _ _ _ _ zb
theorem bI.lt(h:bI T c base w v l rs):∀k,v.ownBlock=some k->base<=k/\k<w.heap.size:=h.own.lt
theorem bI.form(h:bI T c base w v l rs):∃a cap,v= .slice a l.length cap:=by
 exact SX
theorem rJ(l:List (List Value))(c:Nat)(h:∀x∈l,x.length=c)(i j:Nat)(hj:j<c)(hi:i<l.length):l.flatten[i*c+j]? =(l.getD i [])[j]?:=by
 induction l generalizing i with
 |nil=>simp at hi
 |cons x r ih=>
  have hx:=h x (mem_cons_self);rw [flatten_cons]
  cases i with
  |zero=>rw [getElem?_append_left zb];simp
  |succ i=>
   rw [getElem?_append_right (by rw [hx,Nat.add_mul];omega),getD_cons_succ,<-ih (fun y hy=>h y (mem_cons_of_mem _ hy)) i yc]
   congr 1;rw [hx,Nat.add_mul];omega
theorem bI.cells(h:bI T c base w v l rs):∃a cap,v= .slice a l.length cap/\(l.length=0\/∃g,a=some ⟨g,0,none⟩/\base<=g/\g<w.heap.size/\∀i j u,i<l.length->j<c->(l.getD i [])[j]? =some u->w.cell? ⟨g,i*c+j,none⟩=some u):=by
 rcases h.own.2 with ⟨rfl,h0⟩|⟨g,cap,cur,rfl,hb,hg,_⟩
 ·exact⟨none,0,by rw [h0],.inl h0⟩
 ·refine⟨_,cap,rfl,.inr ⟨g,rfl,hb,(Array.getElem?_eq_some_iff.1 hg).1,fun i j u hi hj hu=>?_⟩⟩;have:=World.ownsRow.cells (g:=g) h.own rfl (i*c+j) u (by rw [rJ l c h.len i j hj hi];exact hu);rw [addr_add]at this;exact this
theorem bI.push{news:List Value}{rs2:List (Ex × Value)}{m g cap H n:Nat}{xs:List Value}(h:bI T c base w v l rs)(hr:∀x∈rs2,ax (fun b=>m<=b) w x.1 x.2)(hm:base<=m)(hv:∀k,v.ownBlock=some k->k<m)
 (hc:news.length=c) (hn:n=l.length+1) (hxs:xs=l.flatten++news) (ho:w'.ownsRow base T c (.slice (some ⟨g,0,none⟩) n cap) n xs) (hg:w.grownBy w' v.ownBlock) (hat:v.ownBlock=some g\/g=H) (hH:w.heap.size=H) :
 bI T c base w' (.slice (some ⟨g,0,none⟩) n cap) (l++[news]) (rs++rs2):=by
 subst hH hn hxs;refine⟨by rw [length_append,flatten_append];simpa using ho,fun x hx=>?_,fun x hx=>?_⟩
 ·rw [mem_append]at hx;rcases hx with hx|hx
  ·exact h.len x hx
  ·obtain rfl:x=news:=by simpa using hx
   exact hc
 ·have key:∀(e':Ex) (u:Value),ax (fun b=>base<=b/\v.ownBlock≠some b) w e' u->ax (fun b=>base<=b/\(Value.slice (some ⟨g,0,none⟩) (l.length+1) cap).ownBlock≠some b) w' e' u:=by
   exact TA
  rw [mem_append]at hx;rcases hx with hx|hx
  ·exact key _ _ (h.rep x hx)
  ·exact key _ _ ((hr x hx).mono fun b hb=>⟨by omega,fun e=>by have:=hv b e;omega⟩)
end

structure bW where
 frm:Int
 mode:Int
 unit:Int
 credits:List Int
 series:List Int
 lets:List (List Int)
 ifs:List (List Int)
 pays:List (List Int)
 cuts:List (List Int)
 twist:Int
def dM(w:World)(v:Value)(zss:List (List Int)):Prop:=
 zss.length<=140737488355328/\∃a cap,v= .slice a zss.length cap/\(zss.length=0\/∃b off,a=some ⟨b,off,none⟩/\b<w.heap.size/\∀i,i<zss.length->∃u,w.cell? ⟨b,off+i,none⟩=some u/\aD w u (zss.getD i []))
def qa(w:World)(cs:List Value)(R:bW):Prop:=
 I64 R.frm/\I64 R.mode/\I64 R.unit/\I64 R.twist/\∃vc vs vl vi vp vu,cs= [.int .i64 R.frm,.int .i64 R.mode,.int .i64 R.unit,vc,vs,vl,vi,vp,vu,.int .i64 R.twist]/\
  aD w vc R.credits/\aD w vs R.series/\dM w vl R.lets/\dM w vi R.ifs/\dM w vp R.pays/\dM w vu R.cuts
def fV(i:Nat):ByteArray:=⟨#[(112+i % 8).toUInt8,95,(48+i / 8).toUInt8]⟩
def aS(i:Int):Int:=if i<2 then 1 else if i=2 then 10 else if i=3 then 100 else 7
def kindOf(i:Int):Int:=if i=0 then 6 else if i=1 then 9 else if i=2 then 7 else if i=3 then 8 else if i=4 then 10 else 5
def Dp(R:bW)(i:Nat):Int:=kindOf ((i+pick (R.credits.getD 0 0) 6) % 6)
def Dn(R:bW)(i:Nat):Int:=if(R.credits.getD i 0).tmod 3=0 then pick (R.credits.getD i 0) 900+1 else 0
def Ob(R:bW)(i:Nat):Int:=1930+25*i+pick (R.series.getD i 0) 20
def Oc(R:bW)(i:Nat):Int:=mkN (pick (R.series.getD i 0) 4000+1) 1000
def Od(R:bW)(i:Nat):Int:=mkD (pick (R.series.getD i 0) 4000+1) 1000
def Jf(R:bW)(i:Nat):Int:=1+((R.lets.getD i []).length % 4:Nat)
def eF(R:bW)(k:Nat):List (ByteArray × Int):=(List.range k).map fun i=>(fV i,Jf R i)
def gy(R:bW):Nat:=min R.credits.length 4
def lX(R:bW):Nat:=min R.series.length 6
def eZ(R:bW):Nat:=min R.lets.length 5
def vP(R:bW):Nat:=min R.pays.length 3
def BX(R:bW):Nat:=min R.cuts.length 2
def om(R:bW)(i:Nat):Ex:=jW (R.lets.getD i []) (eF R i) (Jf R i)
def au(R:bW)(i:Nat):Ex:=jW (R.pays.getD i []) (eF R (eZ R)) 4
def ifE(R:bW)(i:Nat):Ex:=jW (R.ifs.getD i []) (eF R (eZ R)) 1
def dJ(R:bW)(i:Nat):Ex:=jW (R.cuts.getD i []) (eF R (eZ R)) 2
theorem JC(R:bW)(k:Nat):eF R (k+1)=eF R k++[(fV k,Jf R k)]:=by simp [eF,range_succ]
theorem mh(R:bW)(k:Nat):(eF R k).length=k:=by simp [eF]
theorem wZ(i:Nat):(fV i).size=3:=rfl
theorem iy(w:World)(a b c:Int):(convert 184 9 (.slice (some ⟨w.heap.size,0,none⟩) 3 3)).run prog (w.alloc (.cells #[.int .u8 a,.int .u8 b,.int .u8 c] 5))= .ok (.string (strOfNums [a,b,c])) (w.alloc (.cells #[.int .u8 a,.int .u8 b,.int .u8 c] 5)):=by
 refine run_convert_bytes_arg (P:=prog) _ 184 5 underlying184 underlying5 w.heap.size 0 3 3 [a,b,c] rfl (fun i hi=>?_) 9 underlying9;obtain rfl|rfl|rfl:i=0\/i=1\/i=2:=by omega
 ·rw [World.cell?_alloc_at _ _ _ _ rfl];rfl
 ·rw [World.cell?_alloc_at _ _ _ _ rfl];rfl
 ·rw [World.cell?_alloc_at _ _ _ _ rfl];rfl
theorem Jd(w:World):Calls prog 62 #[.int .i64 0] w fun e w'=>e= .returned (.string (fV 0))/\w.Grows w':=by
 have kc:=iy w 112 95 48;exact Mt
theorem Jc(w:World):Calls prog 62 #[.int .i64 1] w fun e w'=>e= .returned (.string (fV 1))/\w.Grows w':=by
 have kc:=iy w 113 95 48;exact Mt
theorem Jb(w:World):Calls prog 62 #[.int .i64 2] w fun e w'=>e= .returned (.string (fV 2))/\w.Grows w':=by
 have kc:=iy w 114 95 48;exact Mt
theorem Ja(w:World):Calls prog 62 #[.int .i64 3] w fun e w'=>e= .returned (.string (fV 3))/\w.Grows w':=by
 have kc:=iy w 115 95 48;exact Mt
theorem I9(w:World):Calls prog 62 #[.int .i64 4] w fun e w'=>e= .returned (.string (fV 4))/\w.Grows w':=by
 have kc:=iy w 116 95 48;exact Mt
theorem rC(k:Nat)(w:World)(hk:k<5):Calls prog 62 #[.int .i64 k] w fun e w'=>e= .returned (.string (fV k))/\w.Grows w':=by
 obtain rfl|rfl|rfl|rfl|rfl:k=0\/k=1\/k=2\/k=3\/k=4:=by omega
 ·exact Jd w
 ·exact Jc w
 ·exact Jb w
 ·exact Ja w
 ·exact I9 w

structure aY(T:TypeId)(c base:Nat)(X:Nat->Prop)(w:World)(v:Value)(l:List (List Value))(rs:List (Ex × Value)):Prop where
 own:w.ownsRow base T c v l.length l.flatten
 len:∀x∈l,x.length=c
 ownX:∀k,v.ownBlock=some k->X k
 rep:∀x∈rs,ax (fun b=>(base<=b/\X b)/\v.ownBlock≠some b) w x.1 x.2
section
variable {T : TypeId} {c base : Nat} {X X' : Nat -> Prop} {w w' : World} {v : Value} {l : List (List Value)} {rs : List (Ex × Value)}
theorem aY.nil(T:TypeId)(c base:Nat)(X:Nat->Prop)(w:World):aY T c base X w (.slice none 0 0) [] []:=⟨World.ownsRow_nil _ _ _ _,fun _ h=>by(cases h),fun _ h=>by(cases h),fun _ h=>by(cases h)⟩
theorem aY.toG(h:aY T c base X w v l rs):bI T c base w v l rs:=⟨h.own,h.len,fun x hx=>(h.rep x hx).mono fun _ hb=>⟨hb.1.1,hb.2⟩⟩
theorem aY.keep(h:aY T c base X w v l rs)(hsz:w.heap.size<=w'.heap.size)(hw:∀k,base<=k->X k->k<w.heap.size->w'.heap[k]? =w.heap[k]?):aY T c base X w' v l rs:=by
 refine⟨?_,h.len,h.ownX,fun x hx=>(h.rep x hx).keep hsz fun b o hb hlt=>World.cell?_of_block (hw b hb.1.1 hb.1.2 hlt)⟩;obtain⟨h1,h2⟩:=h.own;refine⟨h1, ?_⟩;rcases h2 with h2|⟨g,cap,cur,rfl,hb,hg,r⟩
 ·exact .inl h2
 ·have hlt:g<w.heap.size:=(Array.getElem?_eq_some_iff.1 hg).1;exact .inr ⟨g,cap,cur,rfl,hb,by rw [hw g hb (h.ownX g rfl) hlt];exact hg,r⟩
theorem aY.alloc(h:aY T c base X w v l rs)(o:Obj):aY T c base X (w.alloc o) v l rs:=h.keep zd fun k _ _ hlt=>Below.heap_alloc w o k hlt
theorem aY.grow(h:aY T c base X w v l rs)(bs:Array Obj)(d:Nat):aY T c base X (w.grow bs d) v l rs:=h.keep zd fun k _ _ hlt=>World.heap_grow _ _ _ hlt
theorem aY.drew(h:aY T c base X w v l rs):aY T c base X w.drew v l rs:=h.keep (Nat.le_refl _) fun _ _ _ _=>rfl
theorem aY.setCell(h:aY T c base X w v l rs){a:Addr}(ha:a.block<base)(u:Value):aY T c base X (w.setCell a u) v l rs:=
 h.keep zd fun k hk _ _=>Below.heap_setCell _ _ _ _ zb
theorem aY.grown{row:Option Nat}(h:aY T c base X w v l rs)(hg:w.grownBy w' row)(hr:∀b,X b->some b≠row):aY T c base X w' v l rs:=
 h.keep hg.size fun k _ hX hlt=>hg.block k hlt (hr k hX)
theorem aY.mono(h:aY T c base X w v l rs)(hX:∀b,X b->b<w.heap.size->X' b):aY T c base X' w v l rs:=
 ⟨h.own,h.len,fun k hk=>hX k (h.ownX k hk) (h.own.lt k hk).2,fun x hx=>(h.rep x hx).mono' fun b hb hlt=>⟨⟨hb.1.1,hX b hb.1.2 hlt⟩,hb.2⟩⟩
theorem aY.form(h:aY T c base X w v l rs):∃a cap,v= .slice a l.length cap:=h.toG.form
theorem aY.lt(h:aY T c base X w v l rs):∀k,v.ownBlock=some k->base<=k/\k<w.heap.size:=h.own.lt
theorem aY.push{news:List Value}{rs2:List (Ex × Value)}{m g cap H n:Nat}{xs:List Value}(h:aY T c base X w v l rs)(hr:∀x∈rs2,ax (fun b=>m<=b) w x.1 x.2)(hm:base<=m)(hXm:∀b,m<=b->X b)(hv:∀k,v.ownBlock=some k->k<m)
 (hc:news.length=c) (hn:n=l.length+1) (hxs:xs=l.flatten++news) (ho:w'.ownsRow base T c (.slice (some ⟨g,0,none⟩) n cap) n xs) (hg:w.grownBy w' v.ownBlock) (hat:v.ownBlock=some g\/g=H) (hH:w.heap.size=H) (hmH:m<=H) :
 aY T c base X w' (.slice (some ⟨g,0,none⟩) n cap) (l++[news]) (rs++rs2):=by
 subst hH hn hxs;refine⟨by rw [length_append,flatten_append];simpa using ho,fun x hx=>?_,fun k hk=>?_,fun x hx=>?_⟩
 ·rw [mem_append]at hx;rcases hx with hx|hx
  ·exact h.len x hx
  ·obtain rfl:x=news:=by simpa using hx
   exact hc
 ·obtain rfl:g=k:=by simpa [Value.ownBlock]using hk
  rcases hat with hat|hat
  ·exact h.ownX _ hat
  ·exact hXm _ zb
 ·have key:∀(e':Ex) (u:Value),ax (fun b=>(base<=b/\X b)/\v.ownBlock≠some b) w e' u->ax (fun b=>(base<=b/\X b)/\(Value.slice (some ⟨g,0,none⟩) (l.length+1) cap).ownBlock≠some b) w' e' u:=by
   intro e' u hu;refine(hu.mono' (S':=fun b=>((base<=b/\X b)/\v.ownBlock≠some b)/\g≠b) ?_|>.keep hg.size ?_).mono ?_
   ·rintro b ⟨h1,h2⟩ hlt;refine⟨⟨h1,h2⟩, ?_⟩;rcases hat with hat|hat
    ·intro e;exact h2 (by rw [hat,e])
    ·omega
   ·rintro b o ⟨⟨_,h2⟩,_⟩ hlt;exact World.cell?_of_block (hg.block b hlt (Ne.symm h2))
   ·rintro b ⟨⟨h1,_⟩,h3⟩;exact⟨h1,by simpa [Value.ownBlock]using h3⟩
  rw [mem_append]at hx;rcases hx with hx|hx
  ·exact key _ _ (h.rep x hx)
  ·exact key _ _ ((hr x hx).mono fun b hb=>⟨⟨by omega,hXm b hb⟩,fun e=>by have:=hv b e;omega⟩)
end
def fe(q:List (ByteArray × (Ex × Value))):List (List Value):=q.map fun t=>.string t.1::aZ t.2.1 t.2.2
def qW(R:bW)(k:Nat)(q:List (ByteArray × (Ex × Value))):Prop:=q.map (fun t=>(t.1,t.2.1))=(List.range k).map fun i=>(fV i,om R i)
theorem qW.nil(R:bW):qW R 0 []:=rfl
theorem qW.length{R:bW}{k:Nat}{q:List (ByteArray × (Ex × Value))}(h:qW R k q):q.length=k:=by
 have:=congrArg List.length h;simpa using this
theorem qW.push{R:bW}{k:Nat}{q:List (ByteArray × (Ex × Value))}(h:qW R k q)(v:Value):qW R (k+1) (q++[(fV k,(om R k,v))]):=by
 unfold qW at *;exact Rp
theorem Je(q:List (ByteArray × (Ex × Value)))(s:ByteArray)(e:Ex)(v:Value):fe (q++[(s,(e,v))])=fe q++[.string s::aZ e v]:=by simp [fe]
def ji(env:List (ByteArray × Int)):List (List Value):=env.map fun b=>[.string b.1,.int .i64 b.2]
theorem JB(env:List (ByteArray × Int))(s:ByteArray)(d:Int):ji (env++[(s,d)])=ji env++[[.string s,.int .i64 d]]:=by simp [ji]
theorem iU(R:bW)(k:Nat):∀x∈eF R k,x.1.size<=140737488355328:=by
 intro x hx;unfold eF at hx;rw [mem_map]at hx;obtain⟨i,_,rfl⟩:=hx;show(fV i).size<=_;rw [wZ];omega
theorem aU.of_row{w:World}{base T:Nat}{v:Value}{env:List (ByteArray × Int)}(h:bI T 2 base w v (ji env) [])(hl:env.length<=1000)(hs:∀x∈env,x.1.size<=140737488355328):aU w w.heap.size v env:=by
 obtain⟨a,cap,hv,hc⟩:=h.cells;have hlen:(ji env).length=env.length:=by simp [ji]
 rw [hlen]at hv hc;refine⟨hl,hs,a,cap,hv,hc.imp id ?_⟩;rintro⟨g,ha,hb,hlt,hx⟩;refine⟨g,0,ha,hlt,by omega,fun i hi=>?_⟩
 have hget:(ji env).getD i []= [.string (env.getD i iZ).1,.int .i64 (env.getD i iZ).2]:=by
  simp only [ji,getD_eq_getElem?_getD,getElem?_map,getElem?_eq_getElem hi];rfl
 refine⟨?_, ?_⟩
 ·have:=hx i 0 (.string (env.getD i iZ).1) hi zb (by rw [hget];rfl);rw [show 0+i*2=i*2+0 by omega];exact this
 ·have:=hx i 1 (.int .i64 (env.getD i iZ).2) hi zb (by rw [hget];rfl);rw [show 0+i*2+1=i*2+1 by omega];exact this
theorem aF.of_ints{w W:World}{u:Value}{zs:List Int}(h:aD w u zs)(hb:Below w.heap.size w W):aF W W.heap.size u zs:=by
 obtain⟨h0,_,a,cap,hv,h1⟩:=h;refine⟨h0,a,cap,hv,h1.imp id ?_⟩;rintro⟨b,off,ha,hlt,hc⟩;have:=hb.size;exact⟨b,off,ha,by omega,by omega,fun i hi=>by rw [hb.cell (by exact hlt)];exact hc i hi⟩
theorem aD.form{w:World}{u:Value}{zs:List Int}(h:aD w u zs):∃a cap,u= .slice a zs.length cap:=by
 obtain⟨_,_,a,cap,hv,_⟩:=h;exact⟨a,cap,hv⟩
structure dx(w:World)(cs:Array Value)(g:Nat)(os:Array Value)(wr:World):Prop where
 bel:Below w.heap.size w wr
 box:wr.heap[w.heap.size]? =some (.cells cs 49 (0,0))
 res:wr.heap[w.heap.size+1]? =some (.cells #[.int .i64 0,.int .i64 0,.int .i64 0,.slice none 0 0,.slice none 0 0,.slice none 0 0,.slice none 0 0,.slice none 0 0] 82 (0,0))
 out:wr.heap[g]? =some (.cells os 82 (0,0))
 gge:w.heap.size+2<=g
section
variable {w wr w1 : World} {cs os : Array Value} {g : Nat}
theorem dx.lt(h:dx w cs g os wr):g<wr.heap.size:=(Array.getElem?_eq_some_iff.1 h.out).1
theorem dx.lt0(h:dx w cs g os wr):w.heap.size+1<wr.heap.size:=(Array.getElem?_eq_some_iff.1 h.res).1
theorem dx.of_blocks(h:dx w cs g os wr)(hb:Below w.heap.size w w1)(h1:∀k,k=w.heap.size\/k=w.heap.size+1\/k=g->w1.heap[k]? =wr.heap[k]?):dx w cs g os w1:=
 ⟨hb,by rw [h1 _ (.inl rfl)];exact h.box,by rw [h1 _ (.inr (.inl rfl))];exact h.res,by rw [h1 _ (.inr (.inr rfl))];exact h.out,h.gge⟩
theorem dx.kept(h:dx w cs g os wr)(hb:Below w.heap.size w w1)(h1:∀k,k<wr.heap.size->k=w.heap.size\/k=w.heap.size+1\/k=g->w1.heap[k]? =wr.heap[k]?):dx w cs g os w1:=by
 have a:=h.lt;have b:=h.lt0;refine h.of_blocks hb fun k hk=>h1 k ?_ hk;rcases hk with rfl|rfl|rfl<;>omega
theorem dx.alloc(h:dx w cs g os wr)(o:Obj):dx w cs g os (wr.alloc o):=
 h.kept (h.bel.alloc h.bel.size o) fun k hk _=>Below.heap_alloc wr o k hk
theorem dx.grow(h:dx w cs g os wr)(bs:Array Obj)(d:Nat):dx w cs g os (wr.grow bs d):=
 h.kept (h.bel.grow h.bel.size bs d) fun k hk _=>World.heap_grow _ _ _ hk
theorem dx.drewN(h:dx w cs g os wr)(n:Nat):dx w cs g os (wr.drewN n):=h.kept (h.bel.drewN n) fun _ _ _=>rfl
theorem dx.grown{row:Option Nat}(h:dx w cs g os wr)(hg:wr.grownBy w1 row)(hr:∀k,row=some k->g<k/\w.heap.size+2<=k):dx w cs g os w1:=
 h.kept (h.bel.grown hg h.bel.size fun k hk=>by have:=hr k hk;omega) fun k hk hk2=>hg.block k hk fun e=>by
  have:=hr k e.symm;have:=h.gge;rcases hk2 with rfl|rfl|rfl<;>omega
theorem dx.store(h:dx w cs g os wr)(i:Nat)(v:Value):dx w cs g (os.setIfInBounds i v) (wr.setCell ⟨g,i,none⟩ v):=
 ⟨h.bel.setCell (by have:=h.gge;show w.heap.size<=g;omega) v,by rw [Below.heap_setCell _ _ _ _ (by have:=h.gge;show w.heap.size≠g;omega)];exact h.box,by rw [Below.heap_setCell _ _ _ _ (by have:=h.gge;show w.heap.size+1≠g;omega)];exact h.res,Joins.block_setCell h.out v,h.gge⟩
end
section
variable {g : Nat} {a b c : World}
theorem bI.next{T:TypeId}{n base:Nat}{v:Value}{l:List (List Value)}{rs:List (Ex × Value)}(h:bI T n base a v l rs)(hn:Next g a b)(hb:g<base):bI T n base b v l rs:=
 h.keep hn.size fun k hk hlt=>hn.blk k hlt zb
end
theorem dx.drew{w wr:World}{cs os:Array Value}{g:Nat}(h:dx w cs g os wr):dx w cs g os wr.drew:=h.kept h.bel.drew fun _ _ _=>rfl
theorem bI.drew{T:TypeId}{c base:Nat}{w:World}{v:Value}{l:List (List Value)}{rs:List (Ex × Value)}(h:bI T c base w v l rs):bI T c base w.drew v l rs:=h.keep (Nat.le_refl _) fun _ _ _=>rfl
theorem bI.upto{T:TypeId}{c base:Nat}{w:World}{v:Value}{l:List (List Value)}{rs:List (Ex × Value)}(h:bI T c base w v l rs):aY T c base (· <w.heap.size) w v l rs:=
 ⟨h.own,h.len,fun k hk=>(h.lt k hk).2,fun x hx=>(h.rep x hx).mono' fun b hb hlt=>⟨⟨hb.1,hlt⟩,hb.2⟩⟩
theorem aY.next{g T n base:Nat}{X:Nat->Prop}{a b:World}{v:Value}{l:List (List Value)}{rs:List (Ex × Value)}(h:aY T n base X a v l rs)(hn:Next g a b)(hb:g<base):aY T n base X b v l rs:=
 h.keep hn.size fun k hk _ hlt=>hn.blk k hlt zb

def dS(R:bW)(vc vs vl vi vp vu:Value):Array Value:=#[.int .i64 R.frm,.int .i64 R.mode,.int .i64 R.unit,vc,vs,vl,vi,vp,vu,.int .i64 R.twist]
theorem gW(w:World):w.drew.heap=w.heap:=rfl
def bf(R:bW)(k:Nat):List (List Value):=(List.range k).map fun i=>[.int .i64 (Dp R i),.int .i64 (Dn R i)]
theorem uW(R:bW)(k:Nat):bf R (k+1)=bf R k++[[.int .i64 (Dp R k),.int .i64 (Dn R k)]]:=by simp [bf,range_succ]
theorem qQ(R:bW)(k:Nat):(bf R k).length=k:=by simp [bf]
theorem Ji(i:Int)(h0:0<=i)(h6:i<6):(#[Value.int .i64 6,.int .i64 9,.int .i64 7,.int .i64 8,.int .i64 10,.int .i64 5]:Array Value)[i.toNat]? =some (.int .i64 (kindOf i)):=by
 obtain rfl|rfl|rfl|rfl|rfl|rfl:i=0\/i=1\/i=2\/i=3\/i=4\/i=5:=by omega
 all_goals rfl
def bH(R:bW)(k:Nat):List (List Value):=(List.range k).map fun i=>[.int .i64 (Ob R i),.int .i64 (Oc R i),.int .i64 (Od R i)]
theorem vM(R:bW)(k:Nat):bH R (k+1)=bH R k++[[.int .i64 (Ob R k),.int .i64 (Oc R k),.int .i64 (Od R k)]]:=by simp [bH,range_succ]
theorem rV(R:bW)(k:Nat):(bH R k).length=k:=by simp [bH]
theorem pF:(prog.info? 135).map (fun i=>(i.zero,i.size,i.bytes))=some (some (.agg #[.int .i64 0,.int .i64 0,.int .i64 0]),3,24):=by kernel_rfl
theorem l9:(prog.info? 133).map (fun i=>(i.zero,i.size,i.bytes))=some (some (.agg #[.int .i64 0,.int .i64 0]),2,16):=by kernel_rfl
def Rf:Obj:=.cells #[.int .i64 6,.int .i64 9,.int .i64 7,.int .i64 8,.int .i64 10,.int .i64 5] 3
theorem dx.start_a(w:World)(cs os:Array Value)(A:Obj):dx w cs (w.heap.size+1+1+1) os ((((w.alloc (.cells cs 49)).alloc ((.cells #[.int .i64 0,.int .i64 0,.int .i64 0,.slice none 0 0,.slice none 0 0,.slice none 0 0,.slice none 0 0,.slice none 0 0] 82))).alloc A).alloc (.cells os 82)).drew:=
 ⟨by(exact af),by rw [gW];(repeat(first|(rw [aB,if_pos zz];done)|(rw [aB,if_neg zg])|(rw [aB,if_neg zz]))),by rw [gW];(repeat(first|(rw [aB,if_pos zz];done)|(rw [aB,if_neg zg])|(rw [aB,if_neg zz]))),by rw [gW];(repeat(first|(rw [aB,if_pos zz];done)|(rw [aB,if_neg zg])|(rw [aB,if_neg zz]))),by omega⟩
theorem dx.start_b(w:World)(cs os:Array Value)(A:Obj):dx w cs (w.heap.size+1+1) os ((((w.alloc (.cells cs 49)).alloc ((.cells #[.int .i64 0,.int .i64 0,.int .i64 0,.slice none 0 0,.slice none 0 0,.slice none 0 0,.slice none 0 0,.slice none 0 0] 82))).alloc (.cells os 82)).alloc A).drew:=
 ⟨by(exact af),by rw [gW];(repeat(first|(rw [aB,if_pos zz];done)|(rw [aB,if_neg zg])|(rw [aB,if_neg zz]))),by rw [gW];(repeat(first|(rw [aB,if_pos zz];done)|(rw [aB,if_neg zg])|(rw [aB,if_neg zz]))),by rw [gW];(repeat(first|(rw [aB,if_pos zz];done)|(rw [aB,if_neg zg])|(rw [aB,if_neg zz]))),by omega⟩
theorem Nj(W:World)(pu:Int)(H:Nat)(hH:W.heap.size=H)(h0:0<=pu)(h5:pu<5):(W.alloc (.cells #[.int .i64 1,.int .i64 1,.int .i64 10,.int .i64 100,.int .i64 7] 3)).cell? ⟨H,pu.toNat,none⟩=some (.int .i64 (aS pu)):=by
 subst hH;rw [World.cell?_alloc_at _ _ _ _ rfl];obtain rfl|rfl|rfl|rfl|rfl:pu=0\/pu=1\/pu=2\/pu=3\/pu=4:=by omega
 all_goals rfl
theorem pE:(prog.info? 63).map (fun i=>(i.zero,i.size,i.bytes))=some (some (.agg #[.string ⟨#[]⟩,.int .i64 0,.int .i64 0,.int .i64 0,.int .i64 0,.string ⟨#[]⟩,.slice none 0 0]),7,88):=by kernel_rfl
theorem ma:(prog.info? 106).map (fun i=>(i.zero,i.size,i.bytes))=some (some (.agg #[.string ⟨#[]⟩,.int .i64 0]),2,24):=by kernel_rfl
theorem iV(lv ev:Value)(zs:List Int)(env:List (ByteArray × Int))(dim:Int)(E:Ex)(w:World)(hl0:aF w w.heap.size lv zs)(he0:aU w w.heap.size ev env)(hd1:1<=dim)(hd4:dim<=4)(hE:Hid (jW zs env dim=E)) :
 Calls prog 9 #[lv,.int .i64 dim,ev] w (mI w E):=by
 have:=NE lv ev zs env dim w hl0 he0 hd1 hd4;rw [hE.out]at this;exact this
theorem bI.toX{T:TypeId}{c base:Nat}{X:Nat->Prop}{w:World}{v:Value}{l:List (List Value)}(h:bI T c base w v l [])(hX:∀k,v.ownBlock=some k->X k):aY T c base X w v l []:=
 ⟨h.own,h.len,hX,fun x hx=>by cases hx⟩
theorem Pb(s:ByteArray)(e:Ex)(v:Value)(hv:v.oneCell'=true):∀u∈(Value.string s::aZ e v),u.oneCell'=true:=by
 intro u hu;rcases mem_cons.1 hu with rfl|hu
 ·rfl
 ·exact eT _ _ hv u hu
theorem Gc{S:Nat->Prop}{w:World}{e:Ex}{v:Value}(h:ax S w e v):∀x∈[(e,v)],ax S w x.1 x.2:=by
 intro x hx;obtain rfl:x=(e,v):=by simpa using hx
 exact h
theorem J6{o:Option Nat}{g H:Nat}{w:World}(h:o=some g\/g=H)(hH:w.heap.size=H):∀b,o≠some b->b<w.heap.size->(o≠some b/\b≠g):=by
 intro b hb hl;refine⟨hb,fun e=>?_⟩;rcases h with h|h
 ·exact hb (by rw [h,e])
 ·omega
abbrev GrT:=Int × (Ex × Value) × (Ex × Value)
def grL(q:List GrT):List (List Value):=q.map fun t=>.int .i64 t.1::(aZ t.2.1.1 t.2.1.2++aZ t.2.2.1 t.2.2.2)
def grR(q:List GrT):List (Ex × Value):=q.flatMap fun t=>[t.2.1,t.2.2]
def GrQ(R:bW)(k:Nat)(q:List GrT):Prop:=q.map (fun t=>(t.1,t.2.1.1,t.2.2.1))=(List.range k).map fun(i:Nat)=>((i:Int)+1,ifE R i,au R i)
theorem GrQ.length{R:bW}{k:Nat}{q:List GrT}(h:GrQ R k q):q.length=k:=by
 have:=congrArg List.length h;simpa using this
theorem GrQ.push{R:bW}{k:Nat}{q:List GrT}(h:GrQ R k q)(v u:Value):GrQ R (k+1) (q++[((k:Int)+1,(ifE R k,v),(au R k,u))]):=by
 unfold GrQ at *;exact Rp
theorem CF(q:List GrT)(t:GrT):grL (q++[t])=grL q++[.int .i64 t.1::(aZ t.2.1.1 t.2.1.2++aZ t.2.2.1 t.2.2.2)]:=by simp [grL]
theorem CE(q:List GrT)(t:GrT):grR (q++[t])=grR q++[t.2.1,t.2.2]:=by simp [grR]
theorem ky:(prog.info? 86).map (fun i=>(i.zero,i.size,i.bytes))=some (some (.agg #[.int .i64 0,.int .i64 0,.int .i64 0,.int .i64 0,.int .i64 0,.string ⟨#[]⟩,.slice none 0 0,.int .i64 0,.int .i64 0,.int .i64 0,.int .i64 0,.string ⟨#[]⟩,.slice none 0 0]),13,152):=by kernel_rfl
theorem Mx(b:Int)(e f:Ex)(v u:Value)(hv:v.oneCell'=true)(hu:u.oneCell'=true):∀x∈(Value.int .i64 b::(aZ e v++aZ f u)),x.oneCell'=true:=by
 intro x hx;rcases mem_cons.1 hx with rfl|hx
 ·rfl
 ·rcases mem_append.1 hx with hx|hx
  ·exact eT _ _ hv x hx
  ·exact eT _ _ hu x hx
theorem Gb{S:Nat->Prop}{w:World}{e f:Ex}{v u:Value}(h:ax S w e v)(h2:ax S w f u):∀x∈[(e,v),(f,u)],ax S w x.1 x.2:=by
 intro x hx;simp only [mem_cons,not_mem_nil,or_false]at hx;rcases hx with rfl|rfl
 ·exact h
 ·exact h2
theorem aF.nil(w:World)(s:Nat):aF w s (.slice none 0 0) []:=⟨by simp,none,0,rfl,.inl rfl⟩
def reL(q:List (Int × (Ex × Value))):List (List Value):=q.map fun t=>.int .i64 t.1::aZ t.2.1 t.2.2
def ReQ(R:bW)(k:Nat)(q:List (Int × (Ex × Value))):Prop:=q.map (fun t=>(t.1,t.2.1))=(List.range k).map fun(i:Nat)=>((i:Int)+1,dJ R i)
theorem ReQ.length{R:bW}{k:Nat}{q:List (Int × (Ex × Value))}(h:ReQ R k q):q.length=k:=by
 have:=congrArg List.length h;simpa using this
theorem ReQ.push{R:bW}{k:Nat}{q:List (Int × (Ex × Value))}(h:ReQ R k q)(v:Value):ReQ R (k+1) (q++[((k:Int)+1,(dJ R k,v))]):=by
 unfold ReQ at *;exact Rp
theorem Lh(q:List (Int × (Ex × Value)))(b:Int)(e:Ex)(v:Value):reL (q++[(b,(e,v))])=reL q++[.int .i64 b::aZ e v]:=by simp [reL]
theorem Q5(b:Int)(e:Ex)(v:Value)(hv:v.oneCell'=true):∀u∈(Value.int .i64 b::aZ e v),u.oneCell'=true:=by
 intro u hu;rcases mem_cons.1 hu with rfl|hu
 ·rfl
 ·exact eT _ _ hv u hu
theorem je:(prog.info? 138).map (fun i=>(i.zero,i.size,i.bytes))=some (some (.agg #[.int .i64 0,.int .i64 0,.int .i64 0,.int .i64 0,.int .i64 0,.string ⟨#[]⟩,.slice none 0 0]),7,80):=by kernel_rfl
def tlC:Code->Code
 | .seq _ b=>b
 |c=>c

structure dK where
 frm:Int
 mode:Int
 unit:Int
 cr:List (Int × Int)
 se:List (Int × Int × Int)
 le:List (ByteArray × Ex)
 gr:List (Int × Ex × Ex)
 re:List (Int × Ex)
def crL(l:List (Int × Int)):List (List Value):=l.map fun t=>[.int .i64 t.1,.int .i64 t.2]
def seL(l:List (Int × Int × Int)):List (List Value):=l.map fun t=>[.int .i64 t.1,.int .i64 t.2.1,.int .i64 t.2.2]
def dZ(R:bW):dK:=
 ⟨pick R.frm 73049,pick R.mode 4+1,aS (pick R.unit 5),(List.range (gy R)).map fun i=>(Dp R i,Dn R i),(List.range (lX R)).map fun i=>(Ob R i,Oc R i,Od R i),
  (List.range (eZ R)).map fun i=>(fV i,om R i),(List.range (vP R)).map fun(i:Nat)=>((i:Int)+1,ifE R i,au R i),(List.range (BX R)).map fun(i:Nat)=>((i:Int)+1,dJ R i)⟩
def qA:Ex:=.mk 2 0 0 0 ⟨#[108,97,116,101,114]⟩ []
def Nn:ByteArray:=⟨#[97,103,101]⟩
def bu(n:Int)(V:dK):dK:=
 if n=0 then {V with gr:=match V.gr with|t::r=>(t.1,t.2.1,t.2.1)::r| []=>[]}
 else if n=1 then {V with gr:=match V.gr with|t::u::r=>t::(t.1,u.2)::r|l=>l}
 else if n=2 then {V with le:=match V.le with|t::u::r=>t::(t.1,u.2)::r|l=>l}
 else if n=3 then {V with le:=match V.le with|t::r=>(t.1,qA)::r| []=>[]}
 else if n=4 then {V with se:=match V.se with|t::u::r=>t::(t.1,u.2)::r|l=>l}
 else if n=5 then {V with cr:=match V.cr with|t::u::r=>t::(t.1,u.2)::r|l=>l}
 else {V with le:=match V.le with|t::r=>(Nn,t.2)::r| []=>[]}
def ofP(R:bW):dK:=if R.twist=0 then dZ R else if R.twist.tmod 8=0 then bu (pick (R.twist.tdiv 8) 7) (dZ R)else dZ R

structure qU(B:Nat)(w:World)(cr:List (Int × Int))(se:List (Int × Int × Int))(ql:List (ByteArray × (Ex × Value)))(qg:List GrT)(qr:List (Int × (Ex × Value)))(v3 v4 v5 v6 v7:Value)(H1 H2 H3 H4 H5:Nat):Prop where
 ord:B<=H1/\H1<=H2/\H2<=H3/\H3<=H4/\H4<=H5
 r1:aY 133 2 H1 (· <H2) w v3 (crL cr) []
 r2:aY 135 3 H2 (· <H3) w v4 (seL se) []
 r3:aY 63 7 H3 (· <H4) w v5 (fe ql) (ql.map (·.2))
 r4:aY 86 13 H4 (· <H5) w v6 (grL qg) (grR qg)
 r5:bI 138 7 H5 w v7 (reL qr) (qr.map (·.2))
def bK(B:Nat)(w:World)(V:dK)(v3 v4 v5 v6 v7:Value):Prop:=
 ∃ql qg qr H1 H2 H3 H4 H5,ql.map (fun t=>(t.1,t.2.1))=V.le/\qg.map (fun t=>(t.1,t.2.1.1,t.2.2.1))=V.gr/\qr.map (fun t=>(t.1,t.2.1))=V.re/\qU B w V.cr V.se ql qg qr v3 v4 v5 v6 v7 H1 H2 H3 H4 H5
def OfPost(R:bW)(w:World)(e:Ending)(w':World):Prop:=
 ∃v3 v4 v5 v6 v7,e= .returned (.agg #[.int .i64 (ofP R).frm,.int .i64 (ofP R).mode,.int .i64 (ofP R).unit,v3,v4,v5,v6,v7])/\w.Grows w'/\bK w.heap.size w' (ofP R) v3 v4 v5 v6 v7

theorem MW(R:bW):crL (dZ R).cr=bf R (gy R):=by simp [crL,dZ,bf]
theorem KR(R:bW):seL (dZ R).se=bH R (lX R):=by simp [seL,dZ,bH]
theorem D5(n:Int)(V:dK):(bu n V).frm=V.frm/\(bu n V).mode=V.mode/\(bu n V).unit=V.unit:=by
 unfold bu
 repeat' split
 all_goals exact⟨rfl,rfl,rfl⟩
theorem IV(R:bW):(dZ R).cr.length<=1000/\(dZ R).se.length<=1000/\(dZ R).le.length<=1000/\(dZ R).gr.length<=1000:=by
 simp only [dZ,length_map,length_range];unfold gy lX eZ vP;omega
theorem SC{R:bW}(h:R.twist=0):ofP R=dZ R:=by unfold ofP;rw [if_pos h]
theorem SB{R:bW}(h:¬R.twist=0)(h2:¬R.twist.tmod 8=0):ofP R=dZ R:=by unfold ofP;rw [if_neg h,if_neg h2]
theorem SA{R:bW}(h:¬R.twist=0)(h2:R.twist.tmod 8=0):ofP R=bu (pick (R.twist.tdiv 8) 7) (dZ R):=by unfold ofP;rw [if_neg h,if_pos h2]
theorem iX{w:World}{b:Nat}{cs:Array Value}{t:TypeId}(hb:w.heap[b]? =some (.cells cs t (0,0)))(n:Nat)(hn:cs.size=n):w.there b 0 n:=fun j hj=>by
 rw [Nat.zero_add,cell_of_row _ _ _ _ _ _ hb,Array.getElem?_eq_getElem zb];exact⟨rfl,Joins.unfrozen_of_block hb j⟩
theorem kQ:(prog.info? 82).map (·.size)=some 8:=by kernel_rfl
theorem KI{z:Int}(h:I64 z):IntKind.i64.wrap (z.tdiv 8)=z.tdiv 8:=IntWalk.i64_in _ (by
 obtain⟨a,b⟩:=h;rcases Int.le_total 0 z with hz|hz
 ·rw [Int.tdiv_eq_ediv_of_nonneg hz];omega
 ·have e:z.tdiv 8= -((-z).tdiv 8):=by rw [Int.neg_tdiv,Int.neg_neg]
  rw [e,Int.tdiv_eq_ediv_of_nonneg zb];omega)
theorem De(l:List (List Value))(c i j:Nat)(u:Value)(h:∀x∈l,x.length=c)(hj:j<c)(hi:i<l.length):l.flatten.set (i*c+j) u=(l.set i ((l.getD i []).set j u)).flatten:=by
 induction l generalizing i with
 |nil=>simp at hi
 |cons x r ih=>
  have hx:=h x (mem_cons_self)
  cases i with
  |zero=>
   simp only [flatten_cons,set_cons_zero,getD_cons_zero,Nat.zero_mul,Nat.zero_add];rw [set_append_left _ _ zb]
  |succ i=>
   simp only [flatten_cons,set_cons_succ,getD_cons_succ];rw [set_append_right _ _ (by rw [hx,Nat.add_mul];omega),<-ih i (fun y hy=>h y (mem_cons_of_mem _ hy)) yc]
   congr 2;rw [hx,Nat.add_mul];omega
section
variable {T : TypeId} {c base g n cap : Nat} {X : Nat -> Prop} {w : World} {l : List (List Value)} {rs rs' : List (Ex × Value)}
theorem aY.stored(h:aY T c base X w (.slice (some ⟨g,0,none⟩) n cap) l rs)(hn:n=l.length)(i j k:Nat)(hk:k=i*c+j)(hj:j<c)(hi:i<l.length)(u:Value)(hr:∀x∈rs',x∈rs\/ax (fun b=>(base<=b/\X b)/\g≠b) w x.1 x.2) :
 aY T c base X (w.setCell ⟨g,k,none⟩ u) (.slice (some ⟨g,0,none⟩) n cap) (l.set i ((l.getD i []).set j u)) rs':=by
 subst hn hk;refine⟨?_,fun x hx=>?_,h.ownX,fun x hx=>?_⟩
 ·have:=(h.own.stored (i*c+j) u).1;rw [De l c i j u h.len hj hi]at this;rw [length_set];exact this
 ·rcases mem_or_eq_of_mem_set hx with hx|rfl
  ·exact h.len x hx
  ·rw [length_set,getD_eq_getElem?_getD,getElem?_eq_getElem hi];exact h.len _ (getElem_mem hi)
 ·have hrep:ax (fun b=>(base<=b/\X b)/\g≠b) w x.1 x.2:=by
   rcases hr x hx with h2|h2
   ·exact(h.rep x h2).mono fun b hb=>⟨hb.1,fun e=>hb.2 (by rw [e];rfl)⟩
   ·exact h2
  refine(hrep.keep zd fun b o hb hlt=>World.cell?_of_block (Below.heap_setCell _ _ _ _ (Ne.symm hb.2))).mono fun b hb=>⟨hb.1,fun e=>hb.2 (by simpa [Value.ownBlock]using e)⟩
theorem aY.apart(h:aY T c base X w (.slice (some ⟨g,0,none⟩) n cap) l rs):base<=g/\X g/\g<w.heap.size:=⟨(h.own.lt g rfl).1,h.ownX g rfl,(h.own.lt g rfl).2⟩
theorem aY.kept{b o:Nat}{v:Value}(h:aY T c base X w v l rs)(hb:¬(base<=b/\X b))(u:Value):aY T c base X (w.setCell ⟨b,o,none⟩ u) v l rs:=
 h.keep zd fun k hk hX _=>Below.heap_setCell _ _ _ _ (fun e=>hb ⟨(show k=b from e) ▸ hk,(show k=b from e) ▸ hX⟩)
theorem bI.kept{b o:Nat}{v:Value}(h:bI T c base w v l rs)(hb:b<base)(u:Value):bI T c base (w.setCell ⟨b,o,none⟩ u) v l rs:=h.setCell hb u
theorem aY.block{v:Value}(h:aY T c base X w v l rs)(h0:0<l.length):∃g cap,v= .slice (some ⟨g,0,none⟩) l.length cap:=by
 rcases h.own.2 with ⟨_,h1⟩|⟨g,cap,cur,rfl,_⟩
 ·omega
 ·exact⟨g,cap,rfl⟩
theorem aY.cellAt(h:aY T c base X w (.slice (some ⟨g,0,none⟩) n cap) l rs)(hn:n=l.length)(i j:Nat)(hj:j<c)(hi:i<l.length):w.cell? ⟨g,i*c+j,none⟩=(l.getD i [])[j]?:=by
 subst hn;rw [h.own.cellAt (i*c+j) (by have:=Nat.mul_le_mul_right c (show i+1<=l.length from hi);rw [Nat.add_mul]at this;omega),rJ l c h.len i j hj hi]
end
def pK(l:List ByteArray)(s:ByteArray):Int:=if(l.any fun x=>decide (x=s))=true then(slK l s:Int)else -1
theorem Gx{l:List ByteArray}{s:ByteArray}{k:Nat}(hk:k<l.length)(he:l.getD k ByteArray.empty=s)(hn:∀j,j<k->l.getD j ByteArray.empty≠s):pK l s=k:=by
 have hm:s∈l:=by rw [<-he,getD_eq_getElem?_getD,getElem?_eq_getElem hk];exact getElem_mem hk
 unfold pK;rw [if_pos (any_eq_true.2 ⟨s,hm,by simp⟩),QW hk he hn]
theorem Gw{l:List ByteArray}{s:ByteArray}(hn:∀j,j<l.length->l.getD j ByteArray.empty≠s):pK l s= -1:=by
 unfold pK;rw [if_neg];intro ha;obtain⟨x,hm,hx⟩:=any_eq_true.1 ha;obtain⟨j,hj,e⟩:=mem_iff_getElem.1 hm;exact hn j hj (by rw [getD_eq_getElem?_getD,getElem?_eq_getElem hj];exact e.trans (by simpa using hx))
def rQ(w:World)(v:Value)(l:List ByteArray):Prop:=l.length<=1000/\∃a c,v= .slice a l.length c/\(l.length=0\/∃b off,a=some ⟨b,off,none⟩/\b<w.heap.size/\∀i,i<l.length->w.cell? ⟨b,off+i,none⟩=some (.string (l.getD i ByteArray.empty)))
theorem kD(l:List ByteArray)(s:ByteArray)(v:Value)(w:World)(h:rQ w v l):Calls prog 71 #[v,.string s] w fun e w'=>e= .returned (.int .i64 (pK l s))/\w.Grows w':=by
 obtain⟨hl,a,c,rfl,hc⟩:=h;have HC:=yq hc;clear hc
 go_enter func71,ntmps71
 go_wp2_with fail
 go_loopw [4,5,8] (fun _ _ v8 wr=>∃k:Nat,k<=l.length/\v8= .int .i64 k/\Hid (∀j,j<k->l.getD j ByteArray.empty≠s)/\w.Grows wr) (fun _ _ v8 _=>l.length-(intOf v8).toNat)
 case atStart=>exact⟨0,by omega,rfl,yq (fun j hj=>by omega),.refl _⟩
 case round=>
  obtain⟨k,hk,rfl,HN,hg⟩:=hrel;have HG:=yq hg;by_cases hlt:k<l.length
  ·obtain h0|⟨b,off,rfl,hbw,hcs⟩:=HC.out
   ·omega
   have x0:=(hg.below.cell (p:=⟨b,off+k,none⟩) hbw).trans (hcs k hlt);have hbr:b<wr.heap.size:=Nat.lt_of_lt_of_le hbw hg.below.size;have d1:(k:Int)<(l.length:Int):=by omega
   have HLT:=yq hlt;by_cases he:l.getD k ByteArray.empty=s
   ·have HK:=yq (Gx hlt he HN.out);rw [he]at x0;clear hg hlt hk he HN hcs HC
    go_wp2_with fail
    go_returns
    exact⟨by rw [HK.out];rfl,HG.out⟩
   ·have HNN:Hid (∀j,j<k+1->l.getD j ByteArray.empty≠s):=yq (fun j hj=>by
     by_cases e:j=k
     ·subst e;exact he
     ·exact HN.out j zb)
    have q:=Hz (fun e=>he (Eq.symm e));generalize l.getD k ByteArray.empty=nm at *;clear hg hlt hk he HN hcs
    go_wp2_with fail
    go_roundw
    case rel=>exact⟨k+1,HLT.out,by go_num,HNN,HG.out⟩
    case measure=>simp [intOf];have:=HLT.out;omega
  ·obtain rfl:k=l.length:=by omega
   have HK:=yq (Gw HN.out);clear hg hlt hk HN
   go_wp2_with fail
   go_returns
   exact⟨by rw [HK.out];rfl,HG.out⟩
theorem EL:(prog.info? 3).map (fun i=>(i.zero,i.size,i.bytes))=some (some (.int .i64 0),1,8):=by kernel_rfl
theorem LZ(U:List Int):∀u∈U.map (Value.int .i64),u.oneCell'=true:=by
 intro u hu;obtain⟨k,-,rfl⟩:=mem_map.1 hu;rfl
theorem mW{w:World}{B:Nat}{e:TypeId}{z n:Nat}{v:Value}{xs:List Value}(h:w.ownsRow B e z v n xs):(v= .slice none 0 0/\n=0)\/∃g cap,v= .slice (some ⟨g,0,none⟩) n cap/\B<=g/\g<w.heap.size/\n<=cap:=by
 obtain⟨-,h|⟨g,cap,cur,rfl,hb,hg,hn,-⟩⟩:=h
 ·exact .inl h
 ·exact .inr ⟨g,cap,rfl,hb,(Array.getElem?_eq_some_iff.1 hg).1,hn⟩
theorem vR(w:World)(r:Option Nat):w.grownBy w r:=⟨rfl,rfl,rfl,Nat.le_refl _,fun _ _ _=>rfl⟩
theorem dU{ops:Array Oper}{rest:List Oper}{o:Oper}{a:Act}{w:World}{Q:Exit->Act->World->Prop}(hgd:o.guard=none)(s x:Operand)
 (ho:o.op= .call {callee:=.builtin .append,args:=#[s,x],argTypes:=#[22,22]})
 {base base':Nat} {v u:Value} {A B:List Int} (hs:a.eval s=v) (hx:a.eval x=u) (hA:w.ownsRow base 3 1 v A.length (A.map (Value.int .i64))) (hB:w.ownsRow base' 3 1 u B.length (B.map (Value.int .i64))) (hn:A.length<=1000/\B.length<=1000) (hbase:base<=w.heap.size)
 (h:∀v' w',w'.ownsRow base 3 1 v' (A++B).length ((A++B).map (Value.int .i64))->w.grownBy w' v.ownBlock->wpList prog ops Q rest (a.put o.dst v') w'):wpList prog ops Q (o::rest) a w:=by
 obtain⟨i0,hi,hz0,hz1,hz2⟩:=info_parts EL;rcases mW hB with ⟨rfl,h0⟩|⟨g,cap,rfl,hbg,hgl,hc⟩
 ·refine wpList_append_own_none hgd s x 22 ho base 3 i0 1 underlying22 hi v _ _ hs hA hx (h v w ?_ (vR _ _));have:B= []:=eq_nil_of_length_eq_zero h0;subst this;simpa using hA
 ·refine wpList_append_own _ hgd s x 22 ho base 3 i0 (.int .i64 0) 1 8 underlying22 hi hz0 hz1 hz2 rfl zf v A.length _ hs hA ⟨g,0,none⟩ B.length cap _ hx zd (fun j z hz=>?_) (LZ B) ym zb hbase (fun v' w' h1 h2 _=>h v' w' (by rw [length_append,map_append];exact h1) h2);have hj:=(List.getElem?_eq_some_iff.1 hz).1;rw [show(⟨g,0,none⟩:Addr).add j=⟨g,j,none⟩by unfold Addr.add;split<;>simp_all,hB.cellAt j ye];exact hz
structure bE(P:Nat->Prop)(w w':World):Prop where
 os:w'.os=w.os
 tape:w'.tape=w.tape
 output:w'.output=w.output
 size:w.heap.size<=w'.heap.size
 block:∀k,k<w.heap.size->¬P k->w'.heap[k]? =w.heap[k]?
section
variable {P Q : Nat -> Prop} {a b c w w' : World}
theorem bE.refl(P:Nat->Prop)(w:World):bE P w w:=⟨rfl,rfl,rfl,Nat.le_refl _,fun _ _ _=>rfl⟩
theorem bE.mono(h:bE Q a b)(hQ:∀i,i<a.heap.size->Q i->P i):bE P a b:=⟨h.os,h.tape,h.output,h.size,fun i hi hn=>h.block i hi (fun q=>hn (hQ i hi q))⟩
theorem bE.trans(h:bE P a b)(k:bE P b c):bE P a c:=⟨k.os.trans h.os,k.tape.trans h.tape,k.output.trans h.output,Nat.le_trans h.size k.size,fun i hi hn=>(k.block i (Nat.lt_of_lt_of_le hi h.size) hn).trans (h.block i hi hn)⟩
theorem bE.grows(hg:w.Grows w'):bE P w w':=⟨hg.below.os,hg.below.tape,hg.below.output,hg.below.size,fun k hk _=>hg.below.block k hk⟩
theorem bE.setCell(w:World)(N o:Nat)(u:Value)(hP:P N):bE P w (w.setCell ⟨N,o,none⟩ u):=
 ⟨rfl,rfl,rfl,by simp [World.setCell],fun k _ hn=>Below.heap_setCell _ _ _ _ (fun e=>hn (by have e':k=N:=e;exact e' ▸ hP))⟩
theorem bE.grown{row:Option Nat}(hg:w.grownBy w' row)(hP:∀k,row=some k->P k):bE P w w':=⟨hg.os,hg.tape,hg.output,hg.size,fun k hk hn=>hg.block k hk (fun e=>hn (hP k e.symm))⟩
theorem bE.below{B:Nat}{a:World}(h:bE P w w')(hb:Below B a w)(hB:B<=w.heap.size)(hP:∀k,P k->B<=k):Below B a w':=
 hb.trans ⟨h.os,h.tape,h.output,h.size,fun k hk=>h.block k zb (fun p=>by have:=hP k p;omega)⟩
theorem bE.cell(h:bE P w w'){k:Nat}(hk:k<w.heap.size)(hn:¬P k)(o:Nat):w'.cell? ⟨k,o,none⟩=w.cell? ⟨k,o,none⟩:=World.cell?_of_block (h.block k hk hn)
theorem bE.frozen(h:bE P w w'){k:Nat}(hk:k<w.heap.size)(hn:¬P k)(o:Nat):w'.frozen? ⟨k,o,none⟩=w.frozen? ⟨k,o,none⟩:=World.frozen?_of_block (h.block k hk hn)
theorem bE.row(h:bE P w w'){B:Nat}{e:TypeId}{sz n:Nat}{v:Value}{xs:List Value}(ho:w.ownsRow B e sz v n xs)(hn:∀k,v.ownBlock=some k->¬P k):w'.ownsRow B e sz v n xs:=by
 refine⟨ho.1, ?_⟩;rcases ho.2 with hh|⟨g,cap,cur,rfl,hb,hgg,rest⟩
 ·exact .inl hh
 ·exact .inr ⟨g,cap,cur,rfl,hb,by rw [h.block g (Array.getElem?_eq_some_iff.1 hgg).1 (hn g rfl)];exact hgg,rest⟩
end
def bX(w:World)(N off:Nat)(L:List Value):Prop:=∀i u,L[i]? =some u->w.cell? ⟨N,off+i,none⟩=some u
section
variable {w w' : World} {N off : Nat} {L : List Value}
theorem bX.get(h:bX w N off L){i:Nat}(hi:i<L.length):w.cell? ⟨N,off+i,none⟩=some L[i]:=h i _ (getElem?_eq_getElem hi)
theorem bX.same(h:bX w N off L)(he:∀o,w'.cell? ⟨N,o,none⟩=w.cell? ⟨N,o,none⟩):bX w' N off L:=fun i u hu=>(he _).trans (h i u hu)
theorem bX.set(h:bX w N off L)(i:Nat)(u:Value)(hi:i<L.length):bX (w.setCell ⟨N,off+i,none⟩ u) N off (L.set i u):=fun j x hx=>by
 rw [getElem?_set]at hx;by_cases e:i=j
 ·subst e;rw [if_pos rfl,if_pos hi]at hx;rw [World.cell?_setCell_same _ _ _ (h.get hi)];exact hx
 ·rw [if_neg e]at hx;rw [World.cell?_setCell_other _ _ _ _ zS];exact h j x hx
theorem bX.other(h:bX w N off L){M o:Nat}(u:Value)(hne:M≠N\/o<off\/off+L.length<=o):bX (w.setCell ⟨M,o,none⟩ u) N off L:=fun j x hx=>by
 have hj:j<L.length:=(List.getElem?_eq_some_iff.1 hx).1;rw [World.cell?_setCell_other _ _ _ _ zS];exact h j x hx
end
theorem Ev{w:World}{z:Array Value}{n sz j:Nat}{e:TypeId}(hz:z.size=sz)(hsz:0<sz)(hj:j<n):bX (w.alloc (.cells (madeCells z (n*sz)) e)) w.heap.size (j*sz) z.toList:=by
 intro i u hu;have hi:i<sz:=by have:=(List.getElem?_eq_some_iff.1 hu).1;simp at this;omega
 have h1:j*sz+i<n*sz:=by
  have:(j+1)*sz<=n*sz:=Nat.mul_le_mul_right _ hj;rw [Nat.add_mul]at this;omega
 have h2:(j*sz+i) % sz=i:=by rw [Nat.mul_comm,Nat.mul_add_mod,Nat.mod_eq_of_lt hi]
 have h3:(madeCells z (n*sz))[j*sz+i]? =some u:=by
  unfold madeCells;rw [Array.getElem?_map,Array.getElem?_range,if_pos h1];simp only [Option.map_some,hz,h2];rw [Array.getElem?_toList]at hu;rw [getElem!_def,hu]
 rw [cell_of_row _ _ _ _ _ _ (heap_alloc_new w _)];exact h3
theorem vN{P:Program}(t e:TypeId)(z:Value)(size bytes:Nat)(ht:P.underlying t=some (.slice e))(hinfo:(P.info? e).map (fun i=>(i.zero,i.size,i.bytes))=some (some z,size,bytes))(n:Nat)(hbytes:bytes*(n+1)<=281474976710656)(h63:n+1<=9223372036854775807)(w:World) :
 (Instr.makeSlice t (.int .i64 ((n:Int)+1)) (.int .i64 ((n:Int)+1))).run P w= .ok (.slice (some ⟨w.heap.size,0,none⟩) (n+1) (n+1)) (w.alloc (.cells (madeCells z.cells ((n+1)*size)) e)):=by
 obtain⟨i,hi,hzz⟩:=Option.map_eq_some_iff.1 hinfo;simp only [Prod.mk.injEq]at hzz;obtain⟨hz,hs,hb⟩:=hzz
 have hb':(i.bytes:Int)*((n:Int)+1)<=281474976710656:=by
  rw [hb];have h:((bytes*(n+1):Nat):Int)<=281474976710656:=by omega
  rwa [Int.natCast_mul,Int.natCast_add]at h
 have hr:=run_make (P:=P) w t e i z ht hi hz .i64 .i64 ((n:Int)+1) ((n:Int)+1) zb (Int.le_refl _) hb' zb;have e1:((n:Int)+1).toNat=n+1:=by omega
 rw [e1,hs]at hr;exact hr
structure Upd(P:Nat->Prop)(w w':World)(N off:Nat)(L:List Value):Prop where
 mods:bE P w w'
 cells:bX w' N off L
 out:∀i,i<off\/off+L.length<=i->w'.cell? ⟨N,i,none⟩=w.cell? ⟨N,i,none⟩
 frz:∀i,w'.frozen? ⟨N,i,none⟩=w.frozen? ⟨N,i,none⟩
section
variable {P : Nat -> Prop} {w w' w'' : World} {N off : Nat} {L : List Value}
theorem Upd.refl(h:bX w N off L):Upd P w w N off L:=⟨.refl _ _,h,fun _ _=>rfl,fun _=>rfl⟩
theorem Upd.set(h:Upd P w w' N off L)(i:Nat)(u:Value)(hi:i<L.length)(hP:P N):Upd P w (w'.setCell ⟨N,off+i,none⟩ u) N off (L.set i u):=
 ⟨h.mods.trans (bE.setCell _ _ _ _ hP),h.cells.set i u hi,fun j hj=>by
  rw [length_set]at hj
  rw [World.cell?_setCell_other _ _ _ _ zS];exact h.out j hj,fun j=>(World.frozen?_setCell _ _ _ _).trans (h.frz j)⟩
theorem Upd.block(h:Upd P w w' N off L)(hm:bE P w' w'')(e:w''.heap[N]? =w'.heap[N]?):Upd P w w'' N off L:=
 ⟨h.mods.trans hm,h.cells.same fun o=>World.cell?_of_block (a:=⟨N,o,none⟩) e,fun j hj=>(World.cell?_of_block (a:=⟨N,j,none⟩) e).trans (h.out j hj),fun j=>(World.frozen?_of_block (a:=⟨N,j,none⟩) e).trans (h.frz j)⟩
theorem Upd.grows(h:Upd P w w' N off L)(hN:N<w.heap.size)(hg:w'.Grows w''):Upd P w w'' N off L:=
 h.block (.grows hg) (hg.below.block N (Nat.lt_of_lt_of_le hN h.mods.size))
theorem Upd.pre(hg:w.Grows w')(hN:N<w.heap.size)(h:Upd P w' w'' N off L):Upd P w w'' N off L:=by
 have e:=hg.below.block N hN;exact⟨(bE.grows hg).trans h.mods,h.cells,fun j hj=>(h.out j hj).trans (World.cell?_of_block (a:=⟨N,j,none⟩) e),fun j=>(h.frz j).trans (World.frozen?_of_block (a:=⟨N,j,none⟩) e)⟩
end
theorem ax.drew{S:Nat->Prop}{w:World}{e:Ex}{v:Value}(h:ax S w e v):ax S w.drew e v:=h.keep (Nat.le_refl _) fun _ _ _ _=>rfl
theorem eB.grow{m:Nat}{w:World}{v:Value}{l:List (Ex × Value)}(h:eB m w v l)(bs:Array Obj)(d:Nat):eB m (w.grow bs d) v l:=h.keep zd fun k _ hlt=>World.heap_grow w bs d hlt
theorem M7{w w':World}{b:Nat}(h:w'.heap[b]? =w.heap[b]?)(o:Nat):w'.cell? ⟨b,o,none⟩=w.cell? ⟨b,o,none⟩:=World.cell?_of_block h
theorem Ex.arg_take(e:Ex)(k:Nat)(hk:k<e.args.length):e.args.take (k+1)=e.args.take k++[e.arg k]:=Ex.take_succ e.args k hk
theorem Dt(n:Nat):∀(e:Ex),e.size<=n->∀(S:Nat->Prop) (v:Value) (w:World),ax S w e v->Hid (e.size<=1000000)->Calls prog 36 #[exV e v] w (mI w e):=by
 induction n with
 |zero=>intro e he;have:=e.size_pos;omega
 |succ n ih=>
  intro e he S v w h hbig;have IH:=yq ih;clear ih;obtain⟨i0,hi,hz0,hz1,hz2⟩:=info_parts uC
  cases h with
  |mk _ a cap vs hr hc hs=>
   have hlen:e.args.length<=1000000:=by have:=hbig.out;have:=e.size_eq;have:=Ex.length_sizes e.args;omega
   have Hr:=yq hr;have Hs:=yq hs;have He:=yq he;have Hc:=yq hc;clear hr hs he hc
   go_enter func36,ntmps36
   go_wp2_with fail
   go_loopw [11] (fun v11 wr=>∃k:Nat,∃l:List (Ex × Value),∃va:Value,∃bs d,k<=e.args.length/\v11= .int .i64 k/\Hid (l.map (·.1)=e.args.take k)/\l.length=k/\
    wr=((w.alloc (.cells #[.int .i64 e.op,.int .i64 e.num,.int .i64 e.den,.int .i64 e.dim,.string e.name,va] 27)).alloc ((.cells #[.int .i64 0,.int .i64 0,.int .i64 0,.int .i64 0,.string ⟨#[]⟩,.slice none 0 0] 27))).grow bs d/\eB (w.heap.size+2) wr va l) (fun v11 _=>e.args.length-(intOf v11).toNat)
   case atStart=>exact⟨0,[],.slice none 0 0,#[],_,by omega,rfl,yq rfl,rfl,World.grow_self _,.nil _ _⟩
   case round=>
    obtain⟨k,l,va,bs,d,hk,rfl,HN,hll,rfl,hrow⟩:=hrel;by_cases hlt:k<e.args.length
    ·rcases Hc.out with h0|⟨b,off,rfl,hS,hbw,hx⟩
     ·omega
     ·obtain⟨x0,x1,x2,x3,x4,x5⟩:=hx k hlt;clear hx;have hlt1:(k:Int)<(e.args.length:Int):=by omega
      have hr1:=Hs.out k hlt;obtain⟨ka,kc,hvk⟩:=hr1.form0;rw [hvk]at hr1 x5;have HR1:=yq hr1;clear hvk hr1;have HA:=yq (e.size_arg k hlt);have HZ:=yq (show(e.arg k).size<=n by have:=He.out;have:=HA.out;omega);have HB:=yq (show(e.arg k).size<=1000000 by have:=hbig.out;have:=HA.out;omega);have HT:=yq (e.arg_take k hlt);generalize e.arg k=y at *;have HROW:=yq hrow;have hvb:=hrow.lt;have HVB:=yq hvb;obtain⟨aa,acap,hva⟩:=hrow.form;rw [hll]at hva;subst hva;have HLL:=yq hll;clear hrow hvb hll
      go_wp2_with fail
      refine TG.begin 7 (fun w'=>w'.cell? ⟨w.heap.size,5,none⟩=some (.slice aa k acap)/\w'.cell? ⟨w.heap.size+1+1+bs.size,0,none⟩=some (.int .i64 y.op)/\w'.cell? ⟨w.heap.size+1+1+bs.size,1,none⟩=some (.int .i64 y.num)/\w'.cell? ⟨w.heap.size+1+1+bs.size,2,none⟩=some (.int .i64 y.den)/\w'.cell? ⟨w.heap.size+1+1+bs.size,3,none⟩=some (.int .i64 y.dim)/\w'.cell? ⟨w.heap.size+1+1+bs.size,4,none⟩=some (.string y.name)/\w'.cell? ⟨w.heap.size+1+1+bs.size,5,none⟩=some (.slice ka y.args.length kc)) ze ze ?_ (fun hS=>?_);focus(refine⟨?_, ?_, ?_, ?_, ?_, ?_, ?_⟩<;>simp [go_sem])
      refine TG.tkB 0 hS ?_;refine TG.tkB 1 hS ?_;refine TG.tkB 2 hS ?_;refine TG.one (i:=3) ze rfl (fun K1 hK1=>?_)
      go_simp
      go_at_call 36
      refine(IH.out y HZ.out S (.slice ka y.args.length kc) _ (by(repeat' (first|(with_reducible exact HR1.out)|(with_reducible refine ax.alloc ?_ _)|(with_reducible refine ax.grow ?_ _ _)|(with_reducible refine ax.drewN ?_ _)|(with_reducible refine ax.drew ?_)))) HB).mono ?_;rintro e' w' ⟨ve,rfl,⟨bs2,d2,rfl⟩,hrep⟩;obtain⟨v1a,v1c,hv1⟩:=hrep.form;subst hv1;have H1:=yq ((hrep.eqw (w':=(((((w.alloc (.cells #[.int .i64 e.op,.int .i64 e.num,.int .i64 e.den,.int .i64 e.dim,.string e.name,.slice aa k acap] 27)).alloc (.cells #[.int .i64 0,.int .i64 0,.int .i64 0,.int .i64 0,.string ⟨#[]⟩,.slice none 0 0] 27)).grow bs d).alloc (.cells #[.int .i64 y.op,.int .i64 y.num,.int .i64 y.den,.int .i64 y.dim,.string y.name,.slice ka y.args.length kc] 27))).grow bs2 d2) zd).mono (S':=fun b=>w.heap.size+1+1+bs.size+1<=b) (fun b hb=>by simpa using hb));clear hrep
      (try simp only [World.drew_grow])
      refine TG.go hK1 ?_ (fun hS=>?_)
      focus
       (try dsimp only)
       (refine⟨?_, ?_, ?_, ?_, ?_, ?_, ?_⟩<;>simp [go_sem])
      clear hK1 K1
      (try simp only [nS])
      refine TG.one (i:=4) ze rfl (fun K1 hK1=>?_)
      go_simp
      refine TG.go hK1 ?_ (fun hS=>?_)
      focus
       (try dsimp only)
       (refine⟨?_, ?_, ?_, ?_, ?_, ?_, ?_⟩<;>simp [go_sem])
      clear hK1 K1
      (try simp only [nS])
      refine TG.one (i:=5) ze rfl (fun K1 hK1=>?_);refine step_append_lies _ rfl _ _ 25 rfl (w.heap.size+2) 27 i0 _ 6 72 underlying25 hi hz0 hz1 hz2 rfl zf _ _ _ rfl (((HROW.out.alloc ((.cells #[.int .i64 y.op,.int .i64 y.num,.int .i64 y.den,.int .i64 y.dim,.string y.name,.slice ka y.args.length kc] 27))).grow bs2 d2).alloc ((.cells #[.int .i64 y.op,.int .i64 y.num,.int .i64 y.den,.int .i64 y.dim,.string y.name,.slice v1a y.args.length v1c] 27))).own ⟨w.heap.size+1+1+bs.size+1+bs2.size,0,none⟩ 1 1 [.int .i64 y.op,.int .i64 y.num,.int .i64 y.den,.int .i64 y.dim,.string y.name,.slice v1a y.args.length v1c] rfl rfl ?_ ?_ zf ?_ ?_ ?_ (w.heap.size+1+1+bs.size+1+bs2.size+1) zd ?_;focus exact fun j u hu=>news_cells _ [.int .i64 y.op,.int .i64 y.num,.int .i64 y.den,.int .i64 y.dim,.string y.name,.slice v1a y.args.length v1c] 27 _ zd j u hu
      focus exact eT y _ rfl
      focus(have:=HLL.out;unfold maxLen;omega)
      focus(have:=HLL.out;omega)
      focus(simp;omega)
      intro g' cap w1 hown' hgrow hat hlt';have R1:=eB.push (m:=w.heap.size+1+1+bs.size+1) (((HROW.out.alloc ((.cells #[.int .i64 y.op,.int .i64 y.num,.int .i64 y.den,.int .i64 y.dim,.string y.name,.slice ka y.args.length kc] 27))).grow bs2 d2).alloc ((.cells #[.int .i64 y.op,.int .i64 y.num,.int .i64 y.den,.int .i64 y.dim,.string y.name,.slice v1a y.args.length v1c] 27))) (H1.out.alloc ((.cells #[.int .i64 y.op,.int .i64 y.num,.int .i64 y.den,.int .i64 y.dim,.string y.name,.slice v1a y.args.length v1c] 27))) zb (fun j hj=>by have:=(HVB.out j hj).2;simp at this;omega) (by rw [HLL.out]) rfl hown' hgrow hat zd;have G1:=World.Grows.of_below (w:=((w.alloc (.cells #[.int .i64 e.op,.int .i64 e.num,.int .i64 e.den,.int .i64 e.dim,.string e.name,.slice aa k acap] 27)).alloc (.cells #[.int .i64 0,.int .i64 0,.int .i64 0,.int .i64 0,.string ⟨#[]⟩,.slice none 0 0] 27))) (((((Below.refl _ _).grow (Nat.le_refl _) bs d).alloc zd ((.cells #[.int .i64 y.op,.int .i64 y.num,.int .i64 y.den,.int .i64 y.dim,.string y.name,.slice ka y.args.length kc] 27))).grow zg bs2 d2).alloc zg ((.cells #[.int .i64 y.op,.int .i64 y.num,.int .i64 y.den,.int .i64 y.dim,.string y.name,.slice v1a y.args.length v1c] 27))|>.grown hgrow zg (fun j hj=>by have:=(HVB.out j hj).1;simpa using this));have hne:=fun(b:Nat) (hb:b<w.heap.size+2\/b=w.heap.size+1+1+bs.size) (hbl:b<w.heap.size+1+1+bs.size+1) (o:Nat)=>M7 (hgrow.block b zg (fun e=>by have:=HVB.out _ e.symm;simp at this;omega)) o;have s0:w1.cell? ⟨w.heap.size,5,none⟩=some (.slice aa k acap):=(hne _ (.inl zb) zb 5).trans zD;have s1:w1.cell? ⟨w.heap.size+1+1+bs.size,0,none⟩=some (.int .i64 y.op):=(hne _ (.inr rfl) zb 0).trans zD;have s2:w1.cell? ⟨w.heap.size+1+1+bs.size,1,none⟩=some (.int .i64 y.num):=(hne _ (.inr rfl) zb 1).trans zD;have s3:w1.cell? ⟨w.heap.size+1+1+bs.size,2,none⟩=some (.int .i64 y.den):=(hne _ (.inr rfl) zb 2).trans zD;have s4:w1.cell? ⟨w.heap.size+1+1+bs.size,3,none⟩=some (.int .i64 y.dim):=(hne _ (.inr rfl) zb 3).trans zD;have s5:w1.cell? ⟨w.heap.size+1+1+bs.size,4,none⟩=some (.string y.name):=(hne _ (.inr rfl) zb 4).trans zD;have s6:w1.cell? ⟨w.heap.size+1+1+bs.size,5,none⟩=some (.slice ka y.args.length kc):=(hne _ (.inr rfl) zb 5).trans zD;clear hown' hgrow hat hlt' hne;obtain⟨bs3,d3,rfl⟩:=G1;have HR9:=yq R1;clear R1
      (try simp only [nS])
      refine TG.go hK1 ?_ (fun hS=>?_);focus exact⟨s0,s1,s2,s3,s4,s5,s6⟩
      clear hK1 K1 s0 s1 s2 s3 s4 s5 s6
      (try simp only [nS])
      refine TG.tkB 6 hS ?_;refine TG.one (i:=7) ze rfl (fun K1 hK1=>?_)
      go_simp
      refine hK1 _ _ (fun h=>absurd rfl h) (TG.done ze ?_);clear hK1 K1 hS
      (try simp only [nS])
      go_wp2_with fail
      go_roundw
      case rel=>exact⟨k+1,l++[(y,.slice v1a y.args.length v1c)],_,bs3,d3,by omega,by go_num,yq (by rw [map_append,HN.out,HT.out];rfl),by simp;exact HLL.out,rfl,HR9.out.lift0 zd zd d3⟩
      case measure=>simp [intOf];omega
    ·obtain rfl:k=e.args.length:=by omega
     have HROW:=yq hrow;have HN2:=yq (HN.out.trans (take_length));obtain⟨aa,acap,rfl⟩:=hrow.form;clear hrow HN
     go_wp2_with fail
     go_returns
     have R3:=(HROW.out.lift0 (A':=(w.alloc (.cells #[.int .i64 e.op,.int .i64 e.num,.int .i64 e.den,.int .i64 e.dim,.string e.name,.slice aa l.length acap] 27)).alloc (.cells #[.int .i64 e.op,.int .i64 e.num,.int .i64 e.den,.int .i64 e.dim,.string e.name,.slice aa l.length acap] 27)) zd zd d).repE (e:=e) Hr.out HN2.out.symm;rw [hll]at R3;exact⟨_,rfl,.of_below af,R3.mono fun b hb=>by show w.heap.size<=b;omega⟩
theorem Fx{S:Nat->Prop}{e:Ex}{v:Value}{w:World}(h:ax S w e v)(hb:Hid (e.size<=1000000)):Calls prog 36 #[exV e v] w (mI w e):=Dt e.size e (Nat.le_refl _) S v w h hb
end Go.Proofs.YtfoefpoaomepbaaGreatDoor
