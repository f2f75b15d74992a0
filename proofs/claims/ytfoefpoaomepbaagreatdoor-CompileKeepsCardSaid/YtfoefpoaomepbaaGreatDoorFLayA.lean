import Derived.Test.YtfoefpoaomepbaaGreatDoorFCodP
import Derived.Test.YtfoefpoaomepbaaGreatDoorFExprN
import Derived.Test.YtfoefpoaomepbaaGreatDoorFK
import Derived.Deep.AppendLies
import Derived.Laws.OwnMore
import Derived.Deep.MidRow
set_option linter.all false
set_option maxHeartbeats 16000000
set_option maxRecDepth 1000000
namespace Go.Proofs.YtfoefpoaomepbaaGreatDoor
open Go.RowKit
def inpI(s:ByteArray):Int:=match inpK s with|some k=>(k:Int)|none=>-1
theorem inpK_at{s:ByteArray}{k:Nat}(hk:k<11)(hs:inpNm k=s):inpK s=some k:=by
 subst hs
 have key:∀k,k<11→inpK (inpNm k)=some k:=by decide+kernel
 exact key k hk
end Go.Proofs.YtfoefpoaomepbaaGreatDoor
namespace Go
section
variable {P : Program} {ops : Array Oper} {Q : Exit → Act → World → Prop} {S : World → Prop} {T : List Nat} {f : Nat} {oi : Oper} {v : Value} {listed : Array Bool} {a a' : Act} {w : World}
end
def Rel(Y:World)(row:Option Nat)(w:World):Prop:=Y.heap.size≤w.heap.size∧∀k,k<Y.heap.size→some k≠row→w.heap[k]? =Y.heap[k]?
section
variable {Y w w' : World} {row : Option Nat}
theorem Rel.refl(Y:World)(row:Option Nat):Rel Y row Y:=⟨Nat.le_refl _,fun _ _ _=>rfl⟩
theorem Rel.grows(h:Rel Y row w)(hg:w.Grows w'):Rel Y row w':=⟨Nat.le_trans h.1 hg.below.size,fun k h1 h2=>(hg.below.block k (Nat.lt_of_lt_of_le h1 h.1)).trans (h.2 k h1 h2)⟩
theorem Rel.grown(h:Rel Y row w)(hg:w.grownBy w' row):Rel Y row w':=⟨Nat.le_trans h.1 hg.size,fun k h1 h2=>(hg.block k (Nat.lt_of_lt_of_le h1 h.1) h2).trans (h.2 k h1 h2)⟩
theorem Rel.cell(h:Rel Y row w){b o:Nat}(hb:b<Y.heap.size)(hr:some b≠row):w.cell? ⟨b,o,none⟩=Y.cell? ⟨b,o,none⟩:=World.cell?_of_block (h.2 b hb hr)
end
end Go
namespace Go.Proofs.YtfoefpoaomepbaaGreatDoor
open Go.RowKit
theorem inputs2_any(w:World):Calls Tryz.prog 191 #[] w fun e w'=>e= .returned (.agg inpA)∧w.Grows w':=by
 go_enter Tryz.func191,Tryz.ntmps191
 go_wp2_with fail
 exact fz27
def InsAt(w:World)(v:Value)(l:List Ins):Prop:=
 l.length≤1000000∧∃a cap,v= .slice a l.length cap∧(l.length=0∨∃b off,a=some ⟨b,off,none⟩∧b<w.heap.size∧∀i,i<l.length→(I64 (l.getD i default).n∧I64 (l.getD i default).d)∧w.cell? ⟨b,off+i*4,none⟩=some (.int .i64 (l.getD i default).op)∧
  w.cell? ⟨b,off+i*4+1,none⟩=some (.int .i64 (l.getD i default).a)∧w.cell? ⟨b,off+i*4+2,none⟩=some (.int .i64 (l.getD i default).n)∧w.cell? ⟨b,off+i*4+3,none⟩=some (.int .i64 (l.getD i default).d))
def SlAt(w:World)(v:Value)(sl:List ByteArray):Prop:=
 sl.length≤1000000∧(∀s∈sl,s.size≤maxLen)∧∃a cap,sl.length≤cap∧v= .slice a sl.length cap∧(sl.length=0∨∃b off,a=some ⟨b,off,none⟩∧b<w.heap.size∧∀i,i<sl.length→w.cell? ⟨b,off+i,none⟩=some (.string (sl.getD i ByteArray.empty)))
theorem InsAt.grows{w w':World}{v:Value}{l:List Ins}(h:InsAt w v l)(hg:w.Grows w'):InsAt w' v l:=by
 obtain⟨h0,a,cap,hv,h1⟩:=h
 refine⟨h0,a,cap,hv,h1.imp id ?_⟩
 rintro⟨b,off,ha,hb,hc⟩
 have hs:=hg.below.size
 have e:∀o,w'.cell? ⟨b,o,none⟩=w.cell? ⟨b,o,none⟩:=fun o=>World.cell?_of_block (hg.below.block b hb)
 refine⟨b,off,ha,by omega,fun i hi=>?_⟩
 obtain⟨k0,k1,k2,k3,k4⟩:=hc i hi
 exact⟨k0,(e _).trans k1,(e _).trans k2,(e _).trans k3,(e _).trans k4⟩
theorem SlAt.grows{w w':World}{v:Value}{sl:List ByteArray}(h:SlAt w v sl)(hg:w.Grows w'):SlAt w' v sl:=by
 obtain⟨h0,h00,a,cap,hcp,hv,h1⟩:=h
 refine⟨h0,h00,a,cap,hcp,hv,h1.imp id ?_⟩
 rintro⟨b,off,ha,hb,hc⟩
 have hs:=hg.below.size
 exact fz77
def insV(l:List Ins):List Value:=l.flatMap fun x=>[.int .i64 x.op,.int .i64 x.a,.int .i64 x.n,.int .i64 x.d]
theorem insV_len(l:List Ins):(insV l).length=l.length*4:=by
 induction l with
 |nil=>rfl
 |cons x r ih=>unfold insV at *;rw [List.flatMap_cons,List.length_append,ih,List.length_cons];simp;omega
theorem insV_app(a b:List Ins):insV (a++b)=insV a++insV b:=by unfold insV;rw [List.flatMap_append]
theorem insV_snoc(l:List Ins)(x:Ins):insV (l++[x])=insV l++[.int .i64 x.op,.int .i64 x.a,.int .i64 x.n,.int .i64 x.d]:=by rw [insV_app];rfl
def setA(l:List Ins)(i:Nat)(z:Int):List Ins:=l.set i {l.getD i default with a:=z}
theorem setA_len(l:List Ins)(i:Nat)(z:Int):(setA l i z).length=l.length:=by unfold setA;rw [List.length_set]
theorem insV_set(l:List Ins)(i:Nat)(z:Int)(hi:i<l.length):(insV l).set (i*4+1) (.int .i64 z)=insV (setA l i z):=by
 induction l generalizing i with
 |nil=>simp at hi
 |cons x r ih=>
  cases i with
  |zero=>rfl
  |succ i=>
   have h1:insV (x::r)= [.int .i64 x.op,.int .i64 x.a,.int .i64 x.n,.int .i64 x.d]++insV r:=rfl
   have h2:setA (x::r) (i+1) z=x::setA r i z:=rfl
   rw [h1,h2,show(i+1)*4+1=4+(i*4+1)by omega,List.set_append_right _ _ (by simp)]
   show _++(insV r).set (4+(i*4+1)-4) _=_
   rw [Nat.add_sub_cancel_left,ih i (by simpa using hi)]
   rfl
theorem setA_mid(l:List Ins)(x:Ins)(r:List Ins)(z:Int):setA (l++x::r) l.length z=l++ {x with a:=z} ::r:=by
 unfold setA
 simp [List.getD_eq_getElem?_getD]
def LRow(base:Nat)(w:World)(v:Value)(l:List Ins):Prop:=w.ownsRow base 119 4 v l.length (insV l)
theorem LRow.form{base:Nat}{w:World}{v:Value}{l:List Ins}(h:LRow base w v l):∃a c,v= .slice a l.length c:=by
 obtain⟨-,⟨rfl,h0⟩|⟨g,cap,cur,rfl,-⟩⟩:=h
 ·exact⟨_,_,by rw [h0]⟩
 ·exact⟨_,_,rfl⟩
structure Ext(w w':World)(v v':Value):Prop where
 g:w.grownBy w' v.ownBlock
 at_:v'.ownBlock=v.ownBlock∨∃b,v'.ownBlock=some b∧w.heap.size≤b
theorem grown_grows{w w1 w2:World}{row:Option Nat}(hg:w.Grows w1)(h:w1.grownBy w2 row):w.grownBy w2 row:=
 ⟨h.os.trans hg.below.os,h.tape.trans hg.below.tape,h.output.trans hg.below.output,Nat.le_trans hg.below.size h.size,fun k hk hn=>(h.block k (Nat.lt_of_lt_of_le hk hg.below.size) hn).trans (hg.below.block k hk)⟩
theorem Ext.grows{w w1 w2:World}{v v':Value}(hg:w.Grows w1)(h:Ext w1 w2 v v'):Ext w w2 v v':=
 ⟨grown_grows hg h.g,h.at_.imp id fun⟨b,e,hb⟩=>⟨b,e,Nat.le_trans hg.below.size hb⟩⟩
theorem Ext.trans{w w1 w2:World}{v v1 v2:Value}(h:Ext w w1 v v1)(h2:Ext w1 w2 v1 v2):Ext w w2 v v2:=by
 refine⟨⟨h2.g.os.trans h.g.os,h2.g.tape.trans h.g.tape,h2.g.output.trans h.g.output,Nat.le_trans h.g.size h2.g.size,fun k hk hn=>?_⟩, ?_⟩
 ·refine(h2.g.block k (Nat.lt_of_lt_of_le hk h.g.size) fun e=>?_).trans (h.g.block k hk hn)
  rcases h.at_ with e1|⟨b,e1,hb⟩
  ·exact hn (e.trans e1)
  ·rw [e1]at e;cases e;omega
 ·rcases h2.at_ with e2|⟨b,e2,hb⟩
  ·exact fz78
  ·exact .inr ⟨b,e2,Nat.le_trans h.g.size hb⟩
theorem Ext.of{w w1:World}{v:Value}(hg:w.Grows w1):Ext w w1 v v:=⟨⟨hg.below.os,hg.below.tape,hg.below.output,hg.below.size,fun k hk _=>hg.below.block k hk⟩,.inl rfl⟩
theorem Ext.app{w W w1:World}{v:Value}{g n c H:Nat}(hg:w.Grows W)(h:W.grownBy w1 v.ownBlock)(ha:v.ownBlock=some g∨g=H)(hH:w.heap.size≤H):Ext w w1 v (.slice (some ⟨g,0,none⟩) n c):=
 ⟨grown_grows hg h,by
  rcases ha with e|e
  ·exact .inl e.symm
  ·exact .inr ⟨g,rfl,by omega⟩⟩
def SlIn(S:Nat→Prop)(w:World)(v:Value)(sl:List ByteArray):Prop:=
 sl.length≤1000∧(∀s∈sl,s.size≤maxLen)∧∃a cap,sl.length≤cap∧v= .slice a sl.length cap∧(sl.length=0∨∃b off,a=some ⟨b,off,none⟩∧S b∧b<w.heap.size∧∀i,i<sl.length→w.cell? ⟨b,off+i,none⟩=some (.string (sl.getD i ByteArray.empty)))
structure LPre(S:Nat→Prop)(N base:Nat)(w:World)(v vs:Value)(l:List Ins)(sl:List ByteArray):Prop where
 row:LRow base w v l
 lt:∀b,S b→b<N
 sz:N≤w.heap.size
 ap:∀b,S b→some b≠v.ownBlock
 bs:base≤w.heap.size
 sl:SlIn S w vs sl
section
variable {S : Nat → Prop} {N base : Nat} {w w' : World} {v v' vs ve : Value} {l l' : List Ins} {sl : List ByteArray} {e : Ex}
theorem LPre.step(h:LPre S N base w v vs l sl)(hx:Ext w w' v v')(hr:LRow base w' v' l'):LPre S N base w' v' vs l' sl:=by
 refine⟨hr,h.lt,Nat.le_trans h.sz hx.g.size,fun b hb e=>?_,Nat.le_trans h.bs hx.g.size, ?_⟩
 ·rcases hx.at_ with e1|⟨b',e1,hb'⟩
  ·exact h.ap b hb (e.trans e1)
  ·rw [e1]at e;cases e;have:=h.lt _ hb;have:=h.sz;omega
 ·obtain⟨h1,h2,a,cap,h3,h4,h5⟩:=h.sl
  refine⟨h1,h2,a,cap,h3,h4,h5.imp id ?_⟩
  rintro⟨b,off,ha,hS,hb,hc⟩
  exact⟨b,off,ha,hS,Nat.lt_of_lt_of_le hb hx.g.size,fun i hi=>(World.cell?_of_block (a:=⟨b,off+i,none⟩) (hx.g.block b hb (h.ap b hS))).trans (hc i hi)⟩
theorem LPre.ex(h:LPre S N base w v vs l sl)(hx:Ext w w' v v')(hr:RepE S w e ve):RepE S w' e ve:=
 hr.keep hx.g.size fun b o hS hb=>World.cell?_of_block (a:=⟨b,o,none⟩) (hx.g.block b hb (h.ap b hS))
theorem LPre.far(hx:Ext w w' v v'){b:Nat}(hb:b<w.heap.size)(hn:some b≠v.ownBlock):w'.heap[b]? =w.heap[b]?∧some b≠v'.ownBlock:=by
 refine⟨hx.g.block b hb hn,fun e=>?_⟩
 rcases hx.at_ with e1|⟨b',e1,hb'⟩
 ·exact hn (e.trans e1)
 ·rw [e1]at e;cases e;omega
theorem LPre.new(h:LPre S N base w v vs l sl):some w.heap.size≠v.ownBlock:=fun e=>by
 have:=(h.row.lt _ e.symm).2;omega
theorem LRow.grows(h:LRow base w v l)(hg:w.Grows w'):LRow base w' v l:=
 h.kept (row:=none) ⟨hg.below.os,hg.below.tape,hg.below.output,hg.below.size,fun k hk _=>hg.below.block k hk⟩ (by cases h':v.ownBlock<;>simp)
end
def LayP(base:Nat)(w:World)(v:Value)(l':List Ins)(e:Ending)(w':World):Prop:=∃v',e= .returned v'∧LRow base w' v' l'∧Ext w w' v v'
theorem infoIn:(Tryz.prog.info? 119).map (fun i=>(i.zero,i.size,i.bytes))=some (some (.agg #[.int .i64 0,.int .i64 0,.int .i64 0,.int .i64 0]),4,32):=by kernel_rfl
theorem slK_at{sl:List ByteArray}{s:ByteArray}{k:Nat}(hk:k<sl.length)(he:sl.getD k ByteArray.empty=s)(hn:∀j,j<k→sl.getD j ByteArray.empty≠s):slK sl s=k:=by
 have g:∀j (h:j<sl.length),sl.getD j ByteArray.empty=sl[j]:=fun j h=>by rw [List.getD_eq_getElem?_getD,List.getElem?_eq_getElem h];rfl
 have:sl.findIdx? (fun x=>decide (x=s))=some k:=List.findIdx?_eq_some_iff_getElem.2 ⟨hk,by simpa using(g k hk).symm.trans he,fun j hj=>by
  have:=hn j hj
  rw [g j (by omega)]at this
  simpa using this⟩
 unfold slK
 rw [this];rfl
theorem toList_ne{a b:ByteArray}(h:a≠b):(a.toList==b.toList)=false:=by
 have back:∀x:ByteArray,x=⟨x.toList.toArray⟩:=fun x=>by apply ByteArray.ext;rw [ByteArray.toList_eq]
 rw [beq_eq_false_iff_ne]
 exact fun e=>h ((back _).trans ((congrArg (fun l:List UInt8=>(⟨l.toArray⟩:ByteArray)) e).trans (back _).symm))
def LayOK(sl:List ByteArray)(e:Ex):Prop:=∀(S:Nat→Prop) (N base:Nat) (w:World) (v vs ve:Value) (l:List Ins),LPre S N base w v vs l sl→RepE S w e ve→l.length+(codeF (slK sl) e l.length).length≤1000000→Calls Tryz.prog 99999 #[v,exV e ve,vs] w (LayP base w v (l++codeF (slK sl) e l.length))
theorem codesF_len(κ:ByteArray→Nat)(l:List Ex):(codesF κ l).length=l.length:=by
 induction l with
 |nil=>simp [codesF]
 |cons e r ih=>simp [codesF,ih]
theorem codesF_get(κ:ByteArray→Nat)(l:List Ex)(k:Nat)(h:k<l.length):(codesF κ l)[k]? =some (codeF κ (l.getD k default)):=by
 induction l generalizing k with
 |nil=>simp at h
 |cons e r ih=>
  rw [codesF]
  cases k with
  |zero=>rfl
  |succ k=>exact ih k (by simpa using h)
theorem seqC_take:∀(fs:List (Nat→List Ins)) (k i:Nat) (f:Nat→List Ins),fs[k]? =some f→seqC (fs.take (k+1)) i=seqC (fs.take k) i++f (i+(seqC (fs.take k) i).length)
 | [],_,_,_,h=>by simp at h
 |g::r,0,i,f,h=>by simp at h;subst h;simp [seqC]
 |g::r,k+1,i,f,h=>by
  rw [List.take_succ_cons,List.take_succ_cons,seqC,seqC,seqC_take r k _ f (by simpa using h),List.append_assoc,List.length_append]
  simp [Nat.add_assoc]
theorem seqC_lenT:∀(fs:List (Nat→List Ins)) (k i:Nat),(seqC (fs.take k) i).length≤(seqC fs i).length
 | [],k,i=>by simp
 |g::r,0,i=>by simp [seqC]
 |g::r,k+1,i=>by
  rw [List.take_succ_cons,seqC,seqC,List.length_append,List.length_append]
  have:=seqC_lenT r k (i+(g i).length)
  omega
theorem box_far{w w':World}{v v':Value}{o:Obj}(hx:Ext (w.alloc o) w' v v')(hn:some w.heap.size≠v.ownBlock):w'.heap[w.heap.size]? =some o:=
 (LPre.far hx (by simp) hn).1.trans (heap_alloc_new _ _)
theorem RepE.args9{S:Nat→Prop}{w:World}{e:Ex}{a:Option Addr}{cap:Nat}(h:RepE S w e (.slice a e.args.length cap))(hn:0<e.args.length):∃b off,a=some ⟨b,off,none⟩∧b<w.heap.size∧
 ∀k,k<e.args.length→∃ak ck,ExAt w b (off+k*6) (e.arg k) (.slice ak (e.arg k).args.length ck)∧RepE S w (e.arg k) (.slice ak (e.arg k).args.length ck):=by
 generalize hv:Value.slice a e.args.length cap=v at h
 cases h with
 |mk _ a' cap' vs hr hc hs=>
  cases hv
  rcases hc with h0|⟨b,off,rfl,-,hb,hx⟩
  ·omega
  ·refine⟨b,off,rfl,hb,fun k hk=>?_⟩
   obtain⟨ak,ck,hvk⟩:=(hs k hk).form0
   exact⟨ak,ck,hvk ▸ hx k hk,hvk ▸ hs k hk⟩
structure St9(S:Nat→Prop)(N base:Nat)(Wb wr:World)(v vr vs:Value)(L:List Ins)(sl:List ByteArray)(e:Ex)(ea:Option Addr)(ec:Nat):Prop where
 pre:LPre S N base wr vr vs L sl
 ext:Ext Wb wr v vr
 ex:RepE S wr e (.slice ea e.args.length ec)
def St9P(S:Nat→Prop)(N base:Nat)(Wb:World)(v vs:Value)(L:List Ins)(sl:List ByteArray)(e:Ex)(ea:Option Addr)(ec:Nat)(r:Ending)(w':World):Prop:=∃a c,r= .returned (.slice a L.length c)∧St9 S N base Wb w' v (.slice a L.length c) vs L sl e ea ec
section
variable {S : Nat → Prop} {N base : Nat} {Wb wr w1 W : World} {v vr vs : Value} {L : List Ins} {sl : List ByteArray} {e : Ex} {ea : Option Addr} {ec : Nat}
theorem St9.next{v1:Value}{L1:List Ins}(h:St9 S N base Wb wr v vr vs L sl e ea ec)(hx:Ext wr w1 vr v1)(hr:LRow base w1 v1 L1):St9 S N base Wb w1 v v1 vs L1 sl e ea ec:=
 ⟨h.pre.step hx hr,h.ext.trans hx,h.pre.ex hx h.ex⟩
theorem St9.call(h:St9 S N base Wb wr v vr vs L sl e ea ec)(k:Nat)(va:Value)(hva:RepE S wr (e.arg k) va)(hk:LayOK sl (e.arg k))(hl:L.length+(codeF (slK sl) (e.arg k) L.length).length≤1000000) :
 Calls Tryz.prog 99999 #[vr,exV (e.arg k) va,vs] wr (St9P S N base Wb v vs (L++codeF (slK sl) (e.arg k) L.length) sl e ea ec):=
 (hk S N base wr vr vs va L h.pre hva hl).mono fun r w' ⟨v',he,hr,hx⟩=>by
  obtain⟨a,c,rfl⟩:=hr.form
  exact⟨a,c,he,h.next hx hr⟩
theorem St9.app(h:St9 S N base Wb wr v vr vs L sl e ea ec)(x:Ins){g n c H:Nat}(hn:n=L.length+1)(hg:wr.Grows W)(hgr:W.grownBy w1 vr.ownBlock)(ha:vr.ownBlock=some g∨g=H)(hH:wr.heap.size≤H)
 (ho:w1.ownsRow base 119 4 (.slice (some ⟨g,0,none⟩) n c) n (insV L++[.int .i64 x.op,.int .i64 x.a,.int .i64 x.n,.int .i64 x.d])):St9 S N base Wb w1 v (.slice (some ⟨g,0,none⟩) n c) vs (L++[x]) sl e ea ec:=by
 subst hn
 refine h.next (Ext.app hg hgr ha hH) ?_
 rw [←insV_snoc]at ho
 unfold LRow
 rw [List.length_append]
 exact ho
theorem St9.store{g n c:Nat}(h:St9 S N base Wb wr v (.slice (some ⟨g,0,none⟩) n c) vs L sl e ea ec)(hn:n=L.length)(i:Nat)(hi:i<L.length)(z:Int):St9 S N base Wb (wr.setCell ⟨g,i*4+1,none⟩ (.int .i64 z)) v (.slice (some ⟨g,0,none⟩) n c) vs (setA L i z) sl e ea ec:=by
 subst hn
 have hr:=h.pre.row
 unfold LRow at hr
 obtain⟨h1,h2⟩:=hr.stored (i*4+1) (.int .i64 z)
 refine h.next ⟨h2,.inl rfl⟩ ?_
 unfold LRow
 rw [←insV_set L i z hi,setA_len]
 exact h1
theorem St9.box{w0:World}{o:Obj}(h:St9 S N base (w0.alloc o) wr v vr vs L sl e ea ec)(hn:some w0.heap.size≠v.ownBlock):wr.heap[w0.heap.size]? =some o:=box_far h.ext hn
theorem St9.cell{g n c:Nat}(h:St9 S N base Wb wr v (.slice (some ⟨g,0,none⟩) n c) vs L sl e ea ec)(hn:n=L.length)(i:Nat)(hi:i<L.length):(∃u,wr.cell? ⟨g,i*4+1,none⟩=some u)∧wr.frozen? ⟨g,i*4+1,none⟩=false:=by
 subst hn
 have hr:=h.pre.row
 exact fz50
theorem St9.arg(h:St9 S N base Wb wr v vr vs L sl e ea ec)(hn:0<e.args.length):∃b off,ea=some ⟨b,off,none⟩∧b<wr.heap.size∧
 ∀k,k<e.args.length→∃ak ck,ExAt wr b (off+k*6) (e.arg k) (.slice ak (e.arg k).args.length ck)∧RepE S wr (e.arg k) (.slice ak (e.arg k).args.length ck):=h.ex.args9 hn
end
theorem br_list(l Ac Bc Cc:List Ins)(i1 i2 i3:Nat)(h1:i1=(l++Ac).length)(h2:i2=(l++Ac++[(⟨22,0,0,0⟩:Ins)]++Bc).length) :
 setA (setA (l++Ac++[(⟨22,0,0,0⟩:Ins)]++Bc++[(⟨21,0,0,0⟩:Ins)]) i1 ((l++Ac++[(⟨22,0,0,0⟩:Ins)]++Bc++[(⟨21,0,0,0⟩:Ins)]).length:Nat)++Cc) i2 i3=
  l++(Ac++⟨22,((l.length+Ac.length+1+Bc.length+1:Nat):Int),0,0⟩::(Bc++⟨21,i3,0,0⟩::Cc)):=by
 have e1:setA (l++Ac++[(⟨22,0,0,0⟩:Ins)]++Bc++[(⟨21,0,0,0⟩:Ins)]) i1 ((l++Ac++[(⟨22,0,0,0⟩:Ins)]++Bc++[(⟨21,0,0,0⟩:Ins)]).length:Nat)=l++Ac++⟨22,((l.length+Ac.length+1+Bc.length+1:Nat):Int),0,0⟩::(Bc++[(⟨21,0,0,0⟩:Ins)]):=by
  have:=setA_mid (l++Ac) ⟨22,0,0,0⟩ (Bc++[(⟨21,0,0,0⟩:Ins)]) ((l++Ac++[(⟨22,0,0,0⟩:Ins)]++Bc++[(⟨21,0,0,0⟩:Ins)]).length:Nat)
  rw [←h1]at this
  simp only [List.append_assoc,List.cons_append,List.nil_append]at this ⊢
  rw [this]
  simp only [List.length_append,List.length_cons,List.length_nil]
  congr 4
  omega
 rw [e1]
 have:=setA_mid (l++Ac++⟨22,((l.length+Ac.length+1+Bc.length+1:Nat):Int),0,0⟩::Bc) ⟨21,0,0,0⟩ Cc (i3:Int)
 rw [show(l++Ac++⟨22,((l.length+Ac.length+1+Bc.length+1:Nat):Int),0,0⟩::Bc).length=i2 by rw [h2];simp]at this
 simp only [List.append_assoc,List.cons_append,List.nil_append]at this ⊢
 rw [this]

structure VerP where
 frm:Int
 mode:Int
 unit:Int
 cr:List (Int × Int)
 se:List (Int × Int × Int)
 le:List (ByteArray × Ex)
 gr:List (Int × Ex × Ex)
 re:List (Int × Ex)
def crL(l:List (Int × Int)):List (List Value):=l.map fun t=>[.int .i64 t.1,.int .i64 t.2]
def seL(l:List (Int × Int × Int)):List (List Value):=l.map fun t=>[.int .i64 t.1,.int .i64 t.2.1,.int .i64 t.2.2]
def madeP(R:RawV):VerP:=
 ⟨pick R.frm 73049,pick R.mode 4+1,unitOf (pick R.unit 5),(List.range (nCred R)).map fun i=>(credK R i,credL R i),(List.range (nSer R)).map fun i=>(serY R i,serN R i,serD R i),
  (List.range (nLet R)).map fun i=>(letN i,letE R i),(List.range (nPay R)).map fun(i:Nat)=>((i:Int)+1,ifE R i,payE R i),(List.range (nCut R)).map fun(i:Nat)=>((i:Int)+1,cutE R i)⟩
def laterE:Ex:=.mk 2 0 0 0 ⟨#[108,97,116,101,114]⟩ []
def ageN:ByteArray:=⟨#[97,103,101]⟩
def twistP(n:Int)(V:VerP):VerP:=
 if n=0 then {V with gr:=match V.gr with|t::r=>(t.1,t.2.1,t.2.1)::r| []=>[]}
 else if n=1 then {V with gr:=match V.gr with|t::u::r=>t::(t.1,u.2)::r|l=>l}
 else if n=2 then {V with le:=match V.le with|t::u::r=>t::(t.1,u.2)::r|l=>l}
 else if n=3 then {V with le:=match V.le with|t::r=>(t.1,laterE)::r| []=>[]}
 else if n=4 then {V with se:=match V.se with|t::u::r=>t::(t.1,u.2)::r|l=>l}
 else if n=5 then {V with cr:=match V.cr with|t::u::r=>t::(t.1,u.2)::r|l=>l}
 else {V with le:=match V.le with|t::r=>(ageN,t.2)::r| []=>[]}
def ofP(R:RawV):VerP:=if R.twist=0 then madeP R else if R.twist.tmod 8=0 then twistP (pick (R.twist.tdiv 8) 7) (madeP R)else madeP R

structure VerQ(B:Nat)(w:World)(cr:List (Int × Int))(se:List (Int × Int × Int))(ql:List (ByteArray × (Ex × Value)))(qg:List GrT)(qr:List (Int × (Ex × Value)))(v3 v4 v5 v6 v7:Value)(H1 H2 H3 H4 H5:Nat):Prop where
 ord:B≤H1∧H1≤H2∧H2≤H3∧H3≤H4∧H4≤H5
 r1:RowX 133 2 H1 (· <H2) w v3 (crL cr) []
 r2:RowX 135 3 H2 (· <H3) w v4 (seL se) []
 r3:RowX 63 7 H3 (· <H4) w v5 (letL ql) (ql.map (·.2))
 r4:RowX 86 13 H4 (· <H5) w v6 (grL qg) (grR qg)
 r5:RowG 138 7 H5 w v7 (reL qr) (qr.map (·.2))
def VerAt(B:Nat)(w:World)(V:VerP)(v3 v4 v5 v6 v7:Value):Prop:=
 ∃ql qg qr H1 H2 H3 H4 H5,ql.map (fun t=>(t.1,t.2.1))=V.le∧qg.map (fun t=>(t.1,t.2.1.1,t.2.2.1))=V.gr∧qr.map (fun t=>(t.1,t.2.1))=V.re∧VerQ B w V.cr V.se ql qg qr v3 v4 v5 v6 v7 H1 H2 H3 H4 H5
def OfPost(R:RawV)(w:World)(e:Ending)(w':World):Prop:=
 ∃v3 v4 v5 v6 v7,e= .returned (.agg #[.int .i64 (ofP R).frm,.int .i64 (ofP R).mode,.int .i64 (ofP R).unit,v3,v4,v5,v6,v7])∧w.Grows w'∧VerAt w.heap.size w' (ofP R) v3 v4 v5 v6 v7

theorem crL_made(R:RawV):crL (madeP R).cr=credCells R (nCred R):=by simp [crL,madeP,credCells]
theorem seL_made(R:RawV):seL (madeP R).se=serCells R (nSer R):=by simp [seL,madeP,serCells]
theorem twistP_frm(n:Int)(V:VerP):(twistP n V).frm=V.frm∧(twistP n V).mode=V.mode∧(twistP n V).unit=V.unit:=by
 unfold twistP
 repeat' split
 all_goals exact⟨rfl,rfl,rfl⟩
theorem made_lens(R:RawV):(madeP R).cr.length≤1000∧(madeP R).se.length≤1000∧(madeP R).le.length≤1000∧(madeP R).gr.length≤1000:=by
 simp only [madeP,List.length_map,List.length_range]
 unfold nCred nSer nLet nPay
 omega
theorem ofP_0{R:RawV}(h:R.twist=0):ofP R=madeP R:=by unfold ofP;rw [if_pos h]
theorem ofP_1{R:RawV}(h:¬R.twist=0)(h2:¬R.twist.tmod 8=0):ofP R=madeP R:=by unfold ofP;rw [if_neg h,if_neg h2]
theorem ofP_2{R:RawV}(h:¬R.twist=0)(h2:R.twist.tmod 8=0):ofP R=twistP (pick (R.twist.tdiv 8) 7) (madeP R):=by unfold ofP;rw [if_neg h,if_pos h2]
theorem there_of_block{w:World}{b:Nat}{cs:Array Value}{t:TypeId}(hb:w.heap[b]? =some (.cells cs t (0,0)))(n:Nat)(hn:cs.size=n):w.there b 0 n:=fun j hj=>by
 rw [Nat.zero_add,cell_of_row _ _ _ _ _ _ hb,Array.getElem?_eq_getElem (by omega)]
 exact⟨rfl,Joins.unfrozen_of_block hb j⟩
theorem info34:(Tryz.prog.info? 82).map (·.size)=some 8:=by kernel_rfl
theorem tdiv8_in{z:Int}(h:I64 z):IntKind.i64.wrap (z.tdiv 8)=z.tdiv 8:=IntWalk.i64_in _ (by
 obtain⟨a,b⟩:=h
 rcases Int.le_total 0 z with hz|hz
 ·rw [Int.tdiv_eq_ediv_of_nonneg hz];omega
 ·have e:z.tdiv 8= -((-z).tdiv 8):=by rw [Int.neg_tdiv,Int.neg_neg]
  rw [e,Int.tdiv_eq_ediv_of_nonneg (by omega)];omega)
theorem flatten_set(l:List (List Value))(c i j:Nat)(u:Value)(h:∀x∈l,x.length=c)(hj:j<c)(hi:i<l.length):l.flatten.set (i*c+j) u=(l.set i ((l.getD i []).set j u)).flatten:=by
 induction l generalizing i with
 |nil=>simp at hi
 |cons x r ih=>
  have hx:=h x (List.mem_cons_self)
  cases i with
  |zero=>
   simp only [List.flatten_cons,List.set_cons_zero,List.getD_cons_zero,Nat.zero_mul,Nat.zero_add]
   rw [List.set_append_left _ _ (by omega)]
  |succ i=>
   simp only [List.flatten_cons,List.set_cons_succ,List.getD_cons_succ]
   rw [List.set_append_right _ _ (by rw [hx,Nat.add_mul];omega),←ih i (fun y hy=>h y (List.mem_cons_of_mem _ hy)) (by simpa using hi)]
   congr 2;rw [hx,Nat.add_mul];omega
section
variable {T : TypeId} {c base g n cap : Nat} {X : Nat → Prop} {w : World} {l : List (List Value)} {rs rs' : List (Ex × Value)}
theorem RowX.stored(h:RowX T c base X w (.slice (some ⟨g,0,none⟩) n cap) l rs)(hn:n=l.length)(i j k:Nat)(hk:k=i*c+j)(hj:j<c)(hi:i<l.length)(u:Value)(hr:∀x∈rs',x∈rs∨RepE (fun b=>(base≤b∧X b)∧g≠b) w x.1 x.2) :
 RowX T c base X (w.setCell ⟨g,k,none⟩ u) (.slice (some ⟨g,0,none⟩) n cap) (l.set i ((l.getD i []).set j u)) rs':=by
 subst hn hk
 refine⟨?_,fun x hx=>?_,h.ownX,fun x hx=>?_⟩
 ·have:=(h.own.stored (i*c+j) u).1
  rw [flatten_set l c i j u h.len hj hi]at this
  rw [List.length_set];exact this
 ·rcases List.mem_or_eq_of_mem_set hx with hx|rfl
  ·exact h.len x hx
  ·rw [List.length_set,List.getD_eq_getElem?_getD,List.getElem?_eq_getElem hi];exact h.len _ (List.getElem_mem hi)
 ·have hrep:RepE (fun b=>(base≤b∧X b)∧g≠b) w x.1 x.2:=by
   rcases hr x hx with h2|h2
   ·exact(h.rep x h2).mono fun b hb=>⟨hb.1,fun e=>hb.2 (by rw [e];rfl)⟩
   ·exact h2
  refine(hrep.keep (by simp) fun b o hb hlt=>World.cell?_of_block (Below.heap_setCell _ _ _ _ (Ne.symm hb.2))).mono fun b hb=>⟨hb.1,fun e=>hb.2 (by simpa [Value.ownBlock]using e)⟩
theorem RowX.apart(h:RowX T c base X w (.slice (some ⟨g,0,none⟩) n cap) l rs):base≤g∧X g∧g<w.heap.size:=⟨(h.own.lt g rfl).1,h.ownX g rfl,(h.own.lt g rfl).2⟩
theorem RowX.kept{b o:Nat}{v:Value}(h:RowX T c base X w v l rs)(hb:¬(base≤b∧X b))(u:Value):RowX T c base X (w.setCell ⟨b,o,none⟩ u) v l rs:=
 h.keep (by simp) fun k hk hX _=>Below.heap_setCell _ _ _ _ (fun e=>hb ⟨(show k=b from e) ▸ hk,(show k=b from e) ▸ hX⟩)
theorem RowG.kept{b o:Nat}{v:Value}(h:RowG T c base w v l rs)(hb:b<base)(u:Value):RowG T c base (w.setCell ⟨b,o,none⟩ u) v l rs:=h.setCell hb u
theorem RowX.block{v:Value}(h:RowX T c base X w v l rs)(h0:0<l.length):∃g cap,v= .slice (some ⟨g,0,none⟩) l.length cap:=by
 rcases h.own.2 with ⟨_,h1⟩|⟨g,cap,cur,rfl,_⟩
 ·omega
 ·exact⟨g,cap,rfl⟩
theorem RowX.cellAt(h:RowX T c base X w (.slice (some ⟨g,0,none⟩) n cap) l rs)(hn:n=l.length)(i j:Nat)(hj:j<c)(hi:i<l.length):w.cell? ⟨g,i*c+j,none⟩=(l.getD i [])[j]?:=by
 subst hn
 rw [h.own.cellAt (i*c+j) (by have:=Nat.mul_le_mul_right c (show i+1≤l.length from hi);rw [Nat.add_mul]at this;omega),flatten_get l c h.len i j hj hi]
end
end Go.Proofs.YtfoefpoaomepbaaGreatDoor
namespace Go.Proofs.YtfoefpoaomepbaaGreatDoor
def letsG:List (ByteArray × Ex)→List (ByteArray × Int)→List (ByteArray × Int) × Int
 | [],env=>(env,0)
 |t::r,env=>
  if inpD t.1.toList≠0∨nameB t.1=false then([],5)
  else if env.any (fun p=>decide (p.1=t.1))=true then([],10)
  else if(inferE env t.2).2≠0 then([],(inferE env t.2).2)else letsG r (env++[(t.1,(inferE env t.2).1)])
def letsF(l:List (ByteArray × Ex)):List (ByteArray × Int) × Int:=if 10<l.length then([],7)else letsG l []
def needF(env:List (ByteArray × Int))(e:Ex)(want:Int):Int:=if(inferE env e).2=0∧(inferE env e).1≠want then 6 else(inferE env e).2
def dupG:List Int→List Int→Bool
 |_,[]=>false
 |pre,x::r=>pre.contains x || dupG (pre++[x]) r
def ascG:List Int→Bool
 | []=>true
 |x::r=>(match r with| []=>true|y::_=>decide (x<y))&&ascG r
def grG(env:List (ByteArray × Int)):List Int→List (Int × Ex × Ex)→Int
 |_,[]=>0
 |pre,g::r=>if pre.contains g.1=true then 10 else if needF env g.2.1 1≠0 then needF env g.2.1 1 else if needF env g.2.2 4≠0 then needF env g.2.2 4 else grG env (pre++[g.1]) r
def reG(env:List (ByteArray × Int)):List Int→List (Int × Ex)→Int
 |_,[]=>0
 |pre,g::r=>if pre.contains g.1=true then 10 else if needF env g.2 2≠0 then needF env g.2 2 else reG env (pre++[g.1]) r
def versF(V:VerP):Int:=
 if(letsF V.le).2≠0 then(letsF V.le).2
 else if dupG [] (V.cr.map Prod.fst)=true then 10
 else if ascG (V.se.map Prod.fst)=false then 1
 else if grG (letsF V.le).1 [] V.gr≠0 then grG (letsF V.le).1 [] V.gr
 else reG (letsF V.le).1 [] V.re
structure LtAt(ls:List (ByteArray × Ex))(k:Nat)(env:List (ByteArray × Int)):Prop where
 all:letsG ls []=letsG (ls.drop k) env
 len:env.length=k
 nm:env.map Prod.fst=(ls.take k).map Prod.fst
theorem LtAt.zero(ls:List (ByteArray × Ex)):LtAt ls 0 []:=⟨rfl,rfl,by simp⟩
def ltStep(env:List (ByteArray × Int))(t:ByteArray × Ex):Int:=
 if inpD t.1.toList≠0∨nameB t.1=false then 5 else if env.any (fun p=>decide (p.1=t.1))=true then 10 else(inferE env t.2).2
theorem LtAt.drop{ls:List (ByteArray × Ex)}{k:Nat}(hk:k<ls.length):ls.drop k=ls.getD k default::ls.drop (k+1):=by
 rw [List.drop_eq_getElem_cons hk,List.getD_eq_getElem?_getD,List.getElem?_eq_getElem hk];rfl
theorem LtAt.bad{ls:List (ByteArray × Ex)}{k:Nat}{env:List (ByteArray × Int)}(h:LtAt ls k env)(hk:k<ls.length)(hb:ltStep env (ls.getD k default)≠0):letsG ls []=([],ltStep env (ls.getD k default)):=by
 rw [h.all,LtAt.drop hk,letsG]
 unfold ltStep at hb ⊢
 split
 ·rfl
 ·rename_i h1
  rw [if_neg h1]at hb
  split
  ·rfl
  ·rename_i h2
   rw [if_neg h2]at hb
   rw [if_pos hb]
theorem LtAt.next{ls:List (ByteArray × Ex)}{k:Nat}{env:List (ByteArray × Int)}(h:LtAt ls k env)(hk:k<ls.length)(hb:ltStep env (ls.getD k default)=0):LtAt ls (k+1) (env++[((ls.getD k default).1,(inferE env (ls.getD k default).2).1)]):=by
 refine⟨?_,by rw [List.length_append,h.len];rfl, ?_⟩
 ·rw [h.all,LtAt.drop hk,letsG]
  unfold ltStep at hb
  split at hb
  ·cases hb
  ·rename_i h1
   rw [if_neg h1]
   split at hb
   ·cases hb
   ·rename_i h2
    rw [if_neg h2,if_neg (by simpa using hb)]
 ·rw [List.map_append,h.nm,List.take_succ_eq_append_getElem hk,List.map_append]
  simp [List.getD_eq_getElem?_getD,List.getElem?_eq_getElem hk]
theorem LtAt.done{ls:List (ByteArray × Ex)}{env:List (ByteArray × Int)}(h:LtAt ls ls.length env):letsG ls []=(env,0):=by
 rw [h.all,List.drop_length,letsG]
theorem LtAt.dup{ls:List (ByteArray × Ex)}{k:Nat}{env:List (ByteArray × Int)}(h:LtAt ls k env)(hk:k≤ls.length)(s:ByteArray):env.any (fun p=>decide (p.1=s))=(List.range k).any fun j=>decide ((ls.getD j default).1=s):=by
 have h1:env.any (fun p=>decide (p.1=s))=(env.map Prod.fst).any fun x=>decide (x=s):=by rw [List.any_map];rfl
 rw [h1,h.nm,List.any_map,Bool.eq_iff_iff,List.any_eq_true,List.any_eq_true]
 constructor
 ·rintro⟨t,ht,hs⟩
  obtain⟨j,hj,rfl⟩:=List.mem_take_iff_getElem.1 ht
  have:j<ls.length:=by omega
  exact⟨j,List.mem_range.2 (by omega),by simpa [List.getD_eq_getElem?_getD,List.getElem?_eq_getElem this]using hs⟩
 ·rintro⟨j,hj,hs⟩
  have hj:=List.mem_range.1 hj
  have:j<ls.length:=by omega
  exact⟨ls[j],List.mem_take_iff_getElem.2 ⟨j,by omega,rfl⟩,by simpa [List.getD_eq_getElem?_getD,List.getElem?_eq_getElem this]using hs⟩
theorem letsF_len{ls:List (ByteArray × Ex)}(h:ls.length≤10):letsF ls=letsG ls []:=by unfold letsF;rw [if_neg (by omega)]
theorem infNode_name{op m:Int}{a b:Int × Int}{r:List Int × Int}(h:op≠2):infNode op m a r=infNode op m b r:=by
 unfold infNode
 by_cases c:op=1
 ·rw [if_pos c,if_pos c]
 ·rw [if_neg c,if_neg c]
  by_cases c3:op=3
  ·rw [if_pos c3,if_pos c3]
  ·rw [if_neg c3,if_neg c3,if_neg h,if_neg h]
mutual
theorem infer_same{a b:List (ByteArray × Int)}:∀e:Ex,(∀s,mentB s e=true→inferN b s=inferN a s)→inferF b e=inferF a e
 | .mk op n d m s l,h=>by
   rw [inferF,inferF,infers_same l (fun x hx=>h x (by rw [mentB,hx,Bool.or_true]))]
   by_cases h2:op=2
   ·subst h2;rw [h s (by simp [mentB])]
   ·exact infNode_name h2
theorem infers_same{a b:List (ByteArray × Int)}:∀l:List Ex,(∀s,mentsB s l=true→inferN b s=inferN a s)→infersF b l=infersF a l
 | [],_=>by rw [infersF,infersF]
 |e::r,h=>by rw [infersF,infersF,infer_same e (fun x hx=>h x (by rw [mentsB,hx,Bool.true_or])),infers_same r (fun x hx=>h x (by rw [mentsB,hx,Bool.or_true]))]
end
theorem formed_leaf{op n d m:Int}{s:ByteArray}{l:List Ex}(h:formedB (.mk op n d m s l)=true)(ho:op=1∨op=2∨op=3):l= []:=by
 rw [formedB_eq,Bool.and_eq_true]at h
 have h1:(l.length:Int)=argsN op:=of_decide_eq_true h.1
 have h0:argsN op=0:=by unfold argsN;rw [if_pos (by omega)]
 exact List.eq_nil_of_length_eq_zero (by omega)
theorem formed_sub{op n d m:Int}{s:ByteArray}{l:List Ex}(h:formedB (.mk op n d m s l)=true)(h1:op≠1)(h2:op≠2)(h3:op≠3):formedsB l=true:=by
 rw [formedB_eq,Bool.and_eq_true]at h
 have:=h.2
 rw [if_neg (by exact h1),if_neg (by exact h2),if_neg (by exact h3),Bool.and_eq_true]at this
 exact this.1
mutual
theorem infer_named{a:List (ByteArray × Int)}{s:ByteArray}:∀e:Ex,formedB e=true→(inferF a e).2=0→mentB s e=true→(inferN a s).2=0
 | .mk op n d m nm l,hf,hi,hm=>by
   by_cases ho:op=1∨op=2∨op=3
   ·have hl:=formed_leaf hf ho
    subst hl
    rw [mentB,mentsB,Bool.or_false,Bool.and_eq_true]at hm
    have h2:op=2:=of_decide_eq_true hm.1
    have hs:nm=s:=of_decide_eq_true hm.2
    subst h2 hs
    rw [inferF]at hi
    exact hi
   ·have h1:op≠1:=fun h=>ho (.inl h)
    have h2:op≠2:=fun h=>ho (.inr (.inl h))
    have h3:op≠3:=fun h=>ho (.inr (.inr h))
    rw [mentB,decide_eq_false h2,Bool.false_and,Bool.false_or]at hm
    refine infers_named l (formed_sub hf h1 h2 h3) ?_ hm
    rw [inferF]at hi
    unfold infNode at hi
    rw [if_neg h1,if_neg h3,if_neg h2]at hi
    by_cases hr:(infersF a l).2=0
    ·exact hr
    ·rw [if_pos hr]at hi;exact hi
theorem infers_named{a:List (ByteArray × Int)}{s:ByteArray}:∀l:List Ex,formedsB l=true→(infersF a l).2=0→mentsB s l=true→(inferN a s).2=0
 | [],_,_,hm=>by rw [mentsB]at hm;cases hm
 |e::r,hf,hi,hm=>by
  rw [formedsB,Bool.and_eq_true]at hf
  rw [infersF]at hi
  have h1:(inferF a e).2=0:=by
   by_cases h:(inferF a e).2=0
   ·exact h
   ·rw [if_pos h]at hi;exact hi
  have h2:(infersF a r).2=0:=by
   rw [if_neg (by simpa using h1)]at hi
   by_cases h:(infersF a r).2=0
   ·exact h
   ·rw [if_pos h]at hi;exact hi
  rw [mentsB,Bool.or_eq_true]at hm
  rcases hm with hm|hm
  ·exact infer_named e hf.1 h1 hm
  ·exact infers_named r hf.2 h2 hm
end
theorem lastN_snoc{α:Type}(l:List (ByteArray × α))(p:ByteArray × α)(s:ByteArray):lastN (l++[p]) s=if p.1=s then some p.2 else lastN l s:=by
 unfold lastN
 rw [List.reverse_append,List.reverse_singleton,List.singleton_append,List.find?_cons]
 by_cases h:p.1=s
 ·rw [if_pos h,decide_eq_true h];rfl
 ·rw [if_neg h,decide_eq_false h]
structure LsOk(ls:List (ByteArray × Ex))(k:Nat)(env:List (ByteArray × Int)):Prop where
 len:env.length=k
 nm:∀i,i<k→(env.getD i default).1=(ls.getD i default).1
 ty:∀i,i<k→inferE (env.take i) (ls.getD i default).2=((env.getD i default).2,0)
 word:∀i,i<k→inpD (ls.getD i default).1.toList=0∧nameB (ls.getD i default).1=true
 inj:∀i j,i<j→j<k→(ls.getD i default).1≠(ls.getD j default).1
theorem LsOk.zero(ls:List (ByteArray × Ex)):LsOk ls 0 []:=⟨rfl,fun i h=>by omega,fun i h=>by omega,fun i h=>by omega,fun i j _ h=>by omega⟩
theorem getD_snoc{α:Type}[Inhabited α]{l:List α}{x:α}{i:Nat}:(l++[x]).getD i default=if i<l.length then l.getD i default else if i=l.length then x else default:=by
 simp only [List.getD_eq_getElem?_getD]
 by_cases h:i<l.length
 ·rw [if_pos h,List.getElem?_append_left h]
 ·rw [if_neg h,List.getElem?_append_right (by omega)]
  by_cases h2:i=l.length
  ·subst h2;simp
  ·rw [if_neg h2,List.getElem?_eq_none (by simp;omega)];rfl
theorem LsOk.next{ls:List (ByteArray × Ex)}{k:Nat}{env:List (ByteArray × Int)}(h:LsOk ls k env)(ha:LtAt ls k env)(hk:k<ls.length)(hb:ltStep env (ls.getD k default)=0) :
 LsOk ls (k+1) (env++[((ls.getD k default).1,(inferE env (ls.getD k default).2).1)]):=by
 have hl:=h.len
 unfold ltStep at hb
 split at hb
 ·cases hb
 rename_i h1
 split at hb
 ·cases hb
 rename_i h2
 have hdup:=ha.dup (by omega) (ls.getD k default).1
 have hd:∀j,j<k→(ls.getD j default).1≠(ls.getD k default).1:=fun j hj he=>by
  rw [hdup]at h2
  exact h2 (List.any_eq_true.2 ⟨j,List.mem_range.2 hj,decide_eq_true he⟩)
 refine⟨by rw [List.length_append,hl];rfl,fun i hi=>?_,fun i hi=>?_,fun i hi=>?_,fun i j hij hj=>?_⟩
 ·rw [getD_snoc]
  by_cases hik:i<k
  ·rw [if_pos (by omega)];exact h.nm i hik
  ·rw [if_neg (by omega),if_pos (by omega)]
   show(ls.getD k default).1=_
   rw [show i=k by omega]
 ·by_cases hik:i<k
  ·rw [List.take_append_of_le_length (by omega),getD_snoc,if_pos (by omega)];exact h.ty i hik
  ·obtain rfl:i=k:=by omega
   rw [List.take_append_of_le_length (by omega),List.take_of_length_le (by omega),getD_snoc,if_neg (by omega),if_pos hl.symm]
   exact Prod.ext rfl hb
 ·by_cases hik:i<k
  ·exact h.word i hik
  ·obtain rfl:i=k:=by omega
   exact⟨Decidable.byContradiction fun c=>h1 (.inl c),by
    cases hn:nameB (ls.getD i default).1
    ·exact absurd (.inr hn) h1
    ·rfl⟩
 ·by_cases hjk:j<k
  ·exact h.inj i j hij hjk
  ·obtain rfl:j=k:=by omega
   exact hd i hij
theorem LsOk.of_lets{ls:List (ByteArray × Ex)}{env:List (ByteArray × Int)}(h:letsG ls []=(env,0)):LsOk ls ls.length env:=by
 have key:∀k,k≤ls.length→∃e,LtAt ls k e∧LsOk ls k e:=by
  intro k
  induction k with
  |zero=>intro _;exact⟨[],LtAt.zero ls,LsOk.zero ls⟩
  |succ k ih=>
   intro hk
   obtain⟨e,h1,h2⟩:=ih (by omega)
   have hz:ltStep e (ls.getD k default)=0:=Decidable.byContradiction fun c=>by
    have hb:=h1.bad (by omega) c
    rw [h]at hb
    exact c (Prod.mk.inj hb).2.symm
   exact⟨_,h1.next (by omega) hz,h2.next h1 (by omega) hz⟩
 obtain⟨e,h1,h2⟩:=key ls.length (Nat.le_refl _)
 have hd:=h1.done
 rw [h]at hd
 rw [(Prod.mk.inj hd).1];exact h2
theorem LsOk.last{ls:List (ByteArray × Ex)}{k:Nat}{env:List (ByteArray × Int)}(h:LsOk ls k env){j:Nat}:∀i,j<i→i≤k→lastN (env.take i) (ls.getD j default).1=some (env.getD j default).2
 |0,hj,_=>by omega
 |i+1,hj,hi=>by
  have hl:=h.len
  rw [List.take_succ_eq_append_getElem (by omega),lastN_snoc]
  have hg:env[i]'(by omega)=env.getD i default:=by rw [List.getD_eq_getElem?_getD,List.getElem?_eq_getElem (by omega)];rfl
  rw [hg,h.nm i (by omega)]
  by_cases hji:j=i
  ·subst hji;rw [if_pos rfl]
  ·rw [if_neg (fun e=>h.inj j i (by omega) (by omega) e.symm)]
   exact h.last i (by omega) (by omega)
theorem LsOk.none{ls:List (ByteArray × Ex)}{k:Nat}{env:List (ByteArray × Int)}(h:LsOk ls k env){s:ByteArray}:∀i,i≤k→(∀j,j<i→(ls.getD j default).1≠s)→lastN (env.take i) s=none
 |0,_,_=>by simp [lastN]
 |i+1,hi,hs=>by
  have hl:=h.len
  rw [List.take_succ_eq_append_getElem (by omega),lastN_snoc]
  have hg:env[i]'(by omega)=env.getD i default:=by rw [List.getD_eq_getElem?_getD,List.getElem?_eq_getElem (by omega)];rfl
  rw [hg,h.nm i (by omega),if_neg (hs i (by omega))]
  exact h.none i (by omega) fun j hj=>hs j (by omega)
theorem LsOk.named{ls:List (ByteArray × Ex)}{k:Nat}{env:List (ByteArray × Int)}(h:LsOk ls k env){s:ByteArray}{i:Nat}(hi:i≤k)(ht:(inferN (env.take i) s).2=0):inpD s.toList≠0∨∃j,j<i∧(ls.getD j default).1=s:=by
 by_cases hs:inpD s.toList=0
 ·refine .inr (Decidable.byContradiction fun c=>?_)
  have:=h.none (s:=s) i hi fun j hj e=>c ⟨j,hj,e⟩
  unfold inferN at ht
  rw [if_neg (by simpa using hs),this]at ht
  cases ht
 ·exact .inl hs
structure StOk(ls:List (ByteArray × Ex))(env:List (ByteArray × Int))(D:List Nat)(st:List (ByteArray × Val)):Prop where
 ok:∀p∈st,p.2.ok=true
 dom:∀j∈D,j<ls.length
 look:∀j∈D,lastN (dimsOf st) (ls.getD j default).1=some (env.getD j default).2
 sub:∀j,j<ls.length→(st.any fun p=>decide (p.1=(ls.getD j default).1))=D.contains j
theorem StOk.zero(ls:List (ByteArray × Ex))(env:List (ByteArray × Int)):StOk ls env [] []:=⟨fun _ h=>(by cases h),fun _ h=>(by cases h),fun _ h=>(by cases h),fun _ _=>rfl⟩
theorem dims_snoc(st:List (ByteArray × Val))(p:ByteArray × Val):dimsOf (st++[p])=dimsOf st++[(p.1,p.2.dim)]:=by simp [dimsOf]
theorem StOk.push{ls:List (ByteArray × Ex)}{env:List (ByteArray × Int)}{D:List Nat}{st:List (ByteArray × Val)}(h:StOk ls env D st)(hl:LsOk ls ls.length env){i:Nat}(hi:i<ls.length)(hD:D.contains i=false){x:Val}(hx:x.ok=true)(hd:x.dim=(env.getD i default).2) :
 StOk ls env (D++[i]) (st++[((ls.getD i default).1,x)]):=by
 have ne:∀j,j<ls.length→j≠i→(ls.getD i default).1≠(ls.getD j default).1:=fun j hj hji=>by
  rcases Nat.lt_or_gt_of_ne hji with h1|h1
  ·exact fun e=>hl.inj j i h1 hi e.symm
  ·exact hl.inj i j h1 hj
 refine⟨fun p hp=>?_,fun j hj=>?_,fun j hj=>?_,fun j hj=>?_⟩
 ·rcases List.mem_append.1 hp with hp|hp
  ·exact h.ok p hp
  ·obtain rfl:p=_:=by simpa using hp
   exact hx
 ·rcases List.mem_append.1 hj with hj|hj
  ·exact h.dom j hj
  ·obtain rfl:j=i:=by simpa using hj
   exact hi
 ·rw [dims_snoc,lastN_snoc]
  rcases List.mem_append.1 hj with hj|hj
  ·have hji:j≠i:=fun e=>by
    have hc:D.contains j=true:=List.contains_iff_mem.2 hj
    rw [e,hD]at hc;cases hc
   rw [if_neg (ne j (h.dom j hj) hji)]
   exact h.look j hj
  ·obtain rfl:j=i:=by simpa using hj
   rw [if_pos rfl,hd]
 ·rw [List.any_append,h.sub j hj]
  by_cases hji:j=i
  ·subst hji;simp
  ·have:decide ((ls.getD i default).1=(ls.getD j default).1)=false:=decide_eq_false (ne j hj hji)
   rw [List.any_cons,List.any_nil,this,Bool.or_false,Bool.or_false,Bool.eq_iff_iff,List.contains_iff_mem,List.contains_iff_mem,List.mem_append]
   simp [hji]
theorem StOk.other{ls:List (ByteArray × Ex)}{env:List (ByteArray × Int)}{D:List Nat}{st:List (ByteArray × Val)}(h:StOk ls env D st)(hl:LsOk ls ls.length env){s:ByteArray}(hs:nameB s=false){x:Val}(hx:x.ok=true):StOk ls env D (st++[(s,x)]):=by
 have ne:∀j,j<ls.length→s≠(ls.getD j default).1:=fun j hj e=>by
  have:=(hl.word j hj).2
  rw [←e,hs]at this;cases this
 refine⟨fun p hp=>?_,h.dom,fun j hj=>?_,fun j hj=>?_⟩
 ·rcases List.mem_append.1 hp with hp|hp
  ·exact h.ok p hp
  ·obtain rfl:p=_:=by simpa using hp
   exact hx
 ·rw [dims_snoc,lastN_snoc,if_neg (ne j (h.dom j hj))]
  exact h.look j hj
 ·rw [List.any_append,h.sub j hj]
  have:decide (s=(ls.getD j default).1)=false:=decide_eq_false (ne j hj)
  rw [List.any_cons,List.any_nil,this,Bool.or_false,Bool.or_false]
theorem StOk.typed{ls:List (ByteArray × Ex)}{env:List (ByteArray × Int)}{D:List Nat}{st:List (ByteArray × Val)}(h:StOk ls env D st)(hl:LsOk ls ls.length env){i:Nat}(hi:i≤ls.length){e:Ex}(hf:formedB e=true)(ht:(inferF (env.take i) e).2=0)
 (hD:∀j,j<i→mentB (ls.getD j default).1 e=true→j∈D):inferF (dimsOf st) e=inferF (env.take i) e:=by
 refine infer_same e fun s hs=>?_
 rcases hl.named hi (infer_named e hf ht hs)with h0|⟨j,hj,rfl⟩
 ·unfold inferN;rw [if_pos h0,if_pos h0]
 ·unfold inferN
  rw [if_neg (by have:=(hl.word j (by omega)).1;simpa using this),if_neg (by have:=(hl.word j (by omega)).1;simpa using this),h.look j (hD j hj hs),hl.last i hj hi]
end Go.Proofs.YtfoefpoaomepbaaGreatDoor
namespace Go.Proofs.YtfoefpoaomepbaaGreatDoor
open Go.RowKit
def idxS(l:List ByteArray)(s:ByteArray):Int:=if(l.any fun x=>decide (x=s))=true then(slK l s:Int)else -1
theorem idxS_at{l:List ByteArray}{s:ByteArray}{k:Nat}(hk:k<l.length)(he:l.getD k ByteArray.empty=s)(hn:∀j,j<k→l.getD j ByteArray.empty≠s):idxS l s=k:=by
 have hm:s∈l:=by rw [←he,List.getD_eq_getElem?_getD,List.getElem?_eq_getElem hk];exact List.getElem_mem hk
 unfold idxS
 rw [if_pos (List.any_eq_true.2 ⟨s,hm,by simp⟩),slK_at hk he hn]
theorem idxS_no{l:List ByteArray}{s:ByteArray}(hn:∀j,j<l.length→l.getD j ByteArray.empty≠s):idxS l s= -1:=by
 unfold idxS
 rw [if_neg]
 intro ha
 obtain⟨x,hm,hx⟩:=List.any_eq_true.1 ha
 obtain⟨j,hj,e⟩:=List.mem_iff_getElem.1 hm
 exact hn j hj (by rw [List.getD_eq_getElem?_getD,List.getElem?_eq_getElem hj];exact e.trans (by simpa using hx))
def TxtAt(w:World)(v:Value)(l:List ByteArray):Prop:=l.length≤1000∧∃a c,v= .slice a l.length c∧(l.length=0∨∃b off,a=some ⟨b,off,none⟩∧b<w.heap.size∧∀i,i<l.length→w.cell? ⟨b,off+i,none⟩=some (.string (l.getD i ByteArray.empty)))
theorem index_any(l:List ByteArray)(s:ByteArray)(v:Value)(w:World)(h:TxtAt w v l):Calls Tryz.prog 71 #[v,.string s] w fun e w'=>e= .returned (.int .i64 (idxS l s))∧w.Grows w':=by
 obtain⟨hl,a,c,rfl,hc⟩:=h
 have HC:=Lib.hid hc
 clear hc
 go_enter Tryz.func71,Tryz.ntmps71
 go_wp2_with fail
 go_loopw [4,5,8] (fun _ _ v8 wr=>∃k:Nat,k≤l.length∧v8= .int .i64 k∧Hid (∀j,j<k→l.getD j ByteArray.empty≠s)∧w.Grows wr) (fun _ _ v8 _=>l.length-(intOf v8).toNat)
 case atStart=>exact⟨0,by omega,rfl,Lib.hid (fun j hj=>by omega),.refl _⟩
 case round=>
  obtain⟨k,hk,rfl,HN,hg⟩:=hrel
  have HG:=Lib.hid hg
  by_cases hlt:k<l.length
  ·obtain h0|⟨b,off,rfl,hbw,hcs⟩:=HC.out
   ·omega
   have x0:=(hg.below.cell (p:=⟨b,off+k,none⟩) hbw).trans (hcs k hlt)
   have hbr:b<wr.heap.size:=Nat.lt_of_lt_of_le hbw hg.below.size
   have d1:(k:Int)<(l.length:Int):=by omega
   have HLT:=Lib.hid hlt
   by_cases he:l.getD k ByteArray.empty=s
   ·have HK:=Lib.hid (idxS_at hlt he HN.out)
    rw [he]at x0
    clear hg hlt hk he HN hcs HC
    go_wp2_with fail
    go_returns
    exact⟨by rw [HK.out];rfl,HG.out⟩
   ·have HNN:Hid (∀j,j<k+1→l.getD j ByteArray.empty≠s):=Lib.hid (fun j hj=>by
     by_cases e:j=k
     ·subst e;exact he
     ·exact HN.out j (by omega))
    have q:=toList_ne (fun e=>he (Eq.symm e))
    generalize l.getD k ByteArray.empty=nm at *
    clear hg hlt hk he HN hcs
    go_wp2_with fail
    go_roundw
    case rel=>exact⟨k+1,HLT.out,by go_num,HNN,HG.out⟩
    case measure=>simp [intOf];have:=HLT.out;omega
  ·obtain rfl:k=l.length:=by omega
   have HK:=Lib.hid (idxS_no HN.out)
   clear hg hlt hk HN
   go_wp2_with fail
   go_returns
   exact⟨by rw [HK.out];rfl,HG.out⟩
end Go.Proofs.YtfoefpoaomepbaaGreatDoor
