import Derived.Test.YteildlpchhlchaaGreatDoorRMchC
set_option linter.all false
set_option maxHeartbeats 16000000
set_option maxRecDepth 1000000
namespace Go.Proofs.YteildlpchhlchaaGreatDoor
open Tryz List
open Go.RowKit
def aU(l:List Ins):List Value:=l.flatMap fun x=>[.int .i64 x.op,.int .i64 x.a,.int .i64 x.n,.int .i64 x.d]
theorem kD(l:List Ins):(aU l).length=l.length*4:=by
 induction l with
 |nil=>rfl
 |cons x r ih=>unfold aU at *;rw [flatMap_cons,length_append,ih,length_cons];simp;omega
theorem lV(a b:List Ins):aU (a++b)=aU a++aU b:=by unfold aU;rw [flatMap_append]
theorem iD(l:List Ins)(x:Ins):aU (l++[x])=aU l++[.int .i64 x.op,.int .i64 x.a,.int .i64 x.n,.int .i64 x.d]:=by rw [lV];rfl
def gG(l:List Ins)(i:Nat)(z:Int):List Ins:=l.set i {l.getD i default with a:=z}
theorem iN(l:List Ins)(i:Nat)(z:Int):(gG l i z).length=l.length:=by unfold gG;rw [length_set]
theorem Cg(l:List Ins)(i:Nat)(z:Int)(hi:i<l.length):(aU l).set (i*4+1) (.int .i64 z)=aU (gG l i z):=by
 induction l generalizing i with
 |nil=>simp at hi
 |cons x r ih=>
  cases i with
  |zero=>rfl
  |succ i=>
   have h1:aU (x::r)= [.int .i64 x.op,.int .i64 x.a,.int .i64 x.n,.int .i64 x.d]++aU r:=rfl;have h2:gG (x::r) (i+1) z=x::gG r i z:=rfl;rw [h1,h2,show(i+1)*4+1=4+(i*4+1)by omega,set_append_right _ _ ze];show _++(aU r).set (4+(i*4+1)-4) _=_;rw [Nat.add_sub_cancel_left,ih i zG];rfl
theorem rV(l:List Ins)(x:Ins)(r:List Ins)(z:Int):gG (l++x::r) l.length z=l++ {x with a:=z} ::r:=by
 unfold gG;simp [getD_eq_getElem?_getD]
def eH(base:Nat)(w:World)(v:Value)(l:List Ins):Prop:=w.ownsRow base 118 4 v l.length (aU l)
theorem eH.form{base:Nat}{w:World}{v:Value}{l:List Ins}(h:eH base w v l):∃a c,v= .slice a l.length c:=by
 obtain⟨-,⟨rfl,h0⟩|⟨g,cap,cur,rfl,-⟩⟩:=h
 ·exact⟨_,_,by rw [h0]⟩
 ·exact⟨_,_,rfl⟩
structure Ext(w w':World)(v v':Value):Prop where
 g:w.grownBy w' v.ownBlock
 at_:v'.ownBlock=v.ownBlock\/∃b,v'.ownBlock=some b/\w.heap.size<=b
theorem lZ{w w1 w2:World}{row:Option Nat}(hg:w.Grows w1)(h:w1.grownBy w2 row):w.grownBy w2 row:=
 ⟨h.os.trans hg.below.os,h.tape.trans hg.below.tape,h.output.trans hg.below.output,Nat.le_trans hg.below.size h.size,fun k hk hn=>(h.block k (Nat.lt_of_lt_of_le hk hg.below.size) hn).trans (hg.below.block k hk)⟩
theorem Ext.grows{w w1 w2:World}{v v':Value}(hg:w.Grows w1)(h:Ext w1 w2 v v'):Ext w w2 v v':=
 ⟨lZ hg h.g,h.at_.imp id fun⟨b,e,hb⟩=>⟨b,e,Nat.le_trans hg.below.size hb⟩⟩
theorem Ext.trans{w w1 w2:World}{v v1 v2:Value}(h:Ext w w1 v v1)(h2:Ext w1 w2 v1 v2):Ext w w2 v v2:=by
 refine⟨⟨h2.g.os.trans h.g.os,h2.g.tape.trans h.g.tape,h2.g.output.trans h.g.output,Nat.le_trans h.g.size h2.g.size,fun k hk hn=>?_⟩, ?_⟩
 ·refine(h2.g.block k (Nat.lt_of_lt_of_le hk h.g.size) fun e=>?_).trans (h.g.block k hk hn);rcases h.at_ with e1|⟨b,e1,hb⟩
  ·exact hn (e.trans e1)
  ·rw [e1]at e;cases e;omega
 ·rcases h2.at_ with e2|⟨b,e2,hb⟩
  ·rcases h.at_ with e1|⟨b,e1,hb⟩
   ·exact .inl (e2.trans e1)
   ·exact .inr ⟨b,e2.trans e1,hb⟩
  ·exact .inr ⟨b,e2,Nat.le_trans h.g.size hb⟩
theorem Ext.of{w w1:World}{v:Value}(hg:w.Grows w1):Ext w w1 v v:=⟨⟨hg.below.os,hg.below.tape,hg.below.output,hg.below.size,fun k hk _=>hg.below.block k hk⟩,.inl rfl⟩
theorem Ext.app{w W w1:World}{v:Value}{g n c H:Nat}(hg:w.Grows W)(h:W.grownBy w1 v.ownBlock)(ha:v.ownBlock=some g\/g=H)(hH:w.heap.size<=H):Ext w w1 v (.slice (some ⟨g,0,none⟩) n c):=
 ⟨lZ hg h,by
  rcases ha with e|e
  ·exact .inl e.symm
  ·exact .inr ⟨g,rfl,by omega⟩⟩
def SH(S:Nat->Prop)(w:World)(v:Value)(sl:List ByteArray):Prop:=
 sl.length<=1000/\(∀s∈sl,s.size<=maxLen)/\∃a cap,sl.length<=cap/\v= .slice a sl.length cap/\(sl.length=0\/∃b off,a=some ⟨b,off,none⟩/\S b/\b<w.heap.size/\∀i,i<sl.length->w.cell? ⟨b,off+i,none⟩=some (.string (sl.getD i ByteArray.empty)))
structure jF(S:Nat->Prop)(N base:Nat)(w:World)(v vs:Value)(l:List Ins)(sl:List ByteArray):Prop where
 row:eH base w v l
 lt:∀b,S b->b<N
 sz:N<=w.heap.size
 ap:∀b,S b->some b≠v.ownBlock
 bs:base<=w.heap.size
 sl:SH S w vs sl
section
variable {S : Nat -> Prop} {N base : Nat} {w w' : World} {v v' vs ve : Value} {l l' : List Ins} {sl : List ByteArray} {e : Ex}
theorem jF.step(h:jF S N base w v vs l sl)(hx:Ext w w' v v')(hr:eH base w' v' l'):jF S N base w' v' vs l' sl:=by
 refine⟨hr,h.lt,Nat.le_trans h.sz hx.g.size,fun b hb e=>?_,Nat.le_trans h.bs hx.g.size, ?_⟩
 ·rcases hx.at_ with e1|⟨b',e1,hb'⟩
  ·exact h.ap b hb (e.trans e1)
  ·rw [e1]at e;cases e;have:=h.lt _ hb;have:=h.sz;omega
 ·obtain⟨h1,h2,a,cap,h3,h4,h5⟩:=h.sl;refine⟨h1,h2,a,cap,h3,h4,h5.imp id ?_⟩;rintro⟨b,off,ha,hS,hb,hc⟩;exact⟨b,off,ha,hS,Nat.lt_of_lt_of_le hb hx.g.size,fun i hi=>(World.cell?_of_block (a:=⟨b,off+i,none⟩) (hx.g.block b hb (h.ap b hS))).trans (hc i hi)⟩
theorem jF.ex(h:jF S N base w v vs l sl)(hx:Ext w w' v v')(hr:aT S w e ve):aT S w' e ve:=
 hr.keep hx.g.size fun b o hS hb=>World.cell?_of_block (a:=⟨b,o,none⟩) (hx.g.block b hb (h.ap b hS))
theorem jF.far(hx:Ext w w' v v'){b:Nat}(hb:b<w.heap.size)(hn:some b≠v.ownBlock):w'.heap[b]? =w.heap[b]?/\some b≠v'.ownBlock:=by
 refine⟨hx.g.block b hb hn,fun e=>?_⟩;rcases hx.at_ with e1|⟨b',e1,hb'⟩
 ·exact hn (e.trans e1)
 ·rw [e1]at e;cases e;omega
theorem jF.new(h:jF S N base w v vs l sl):some w.heap.size≠v.ownBlock:=fun e=>by
 have:=(h.row.lt _ e.symm).2;omega
theorem eH.grows(h:eH base w v l)(hg:w.Grows w'):eH base w' v l:=
 h.kept (row:=none) ⟨hg.below.os,hg.below.tape,hg.below.output,hg.below.size,fun k hk _=>hg.below.block k hk⟩ (by cases h':v.ownBlock<;>simp)
end
def mi(base:Nat)(w:World)(v:Value)(l':List Ins)(e:Ending)(w':World):Prop:=∃v',e= .returned v'/\eH base w' v' l'/\Ext w w' v v'
theorem fq:(prog.info? 118).map (fun i=>(i.zero,i.size,i.bytes))=some (some (.agg #[.int .i64 0,.int .i64 0,.int .i64 0,.int .i64 0]),4,32):=by kernel_rfl
theorem Oi{S:Nat->Prop}{N base:Nat}{w:World}{v vs ve:Value}{l:List Ins}{sl:List ByteArray}(n d m:Int)(s:ByteArray)(h:jF S N base w v vs l sl)(hl:l.length<=1000000) :
 Calls prog 64 #[v,.agg #[.int .i64 1,.int .i64 n,.int .i64 d,.int .i64 m,.string s,ve],vs] w (mi base w v (l++[⟨1,m,n,d⟩])):=by
 obtain⟨i0,hi,hz1,hz2,hz3⟩:=info_parts fq;have HP:=yq h;have HL:=yq hl;clear h hl
 go_enter func64,ntmps64
 go_wp2_with (first
  |(go_at_call 121;refine gvq (jo _ _) ?_;intro bs d;(try simp only [HII.out]))
  |(at_builtin;refine wpList_append_lies _ rfl _ _ 55 rfl base 118 i0 _ 4 32 underlying55 hi hz1 hz2 hz3 rfl zf v l.length (aU l) rfl (HP.out.row.grows (af)) ⟨_,0,none⟩ 1 1 [.int .i64 1,.int .i64 m,.int .i64 n,.int .i64 d] rfl rfl ?c1 ?c2 zf ?c3 ?c4 ?c5 _ rfl ?_))
 case c1=>exact ax _ [.int .i64 1,.int .i64 m,.int .i64 n,.int .i64 d] _ _ ze
 case c2=>intro u hu;simp at hu;rcases hu with rfl|rfl|rfl|rfl<;>rfl
 case c3=>unfold maxLen;have:=HL.out;omega
 case c4=>have:=HL.out;omega
 case c5=>first|(have:=HP.out.bs;simp;omega)|(have:=HP.out.bs;have:=HGW.out.below.size;simp;omega)
 intro g cap w1 hown hgrow hgg hgl
 have HR:Hid (mi base w v (l++[⟨1,m,n,d⟩]) (.returned (.slice (some ⟨g,0,none⟩) (l.length+1) cap)) w1):=yq (by
  refine⟨_,rfl, ?_, ?_⟩
  ·have h:=hown;rw [show aU l++[.int .i64 1,.int .i64 m,.int .i64 n,.int .i64 d]=aU (l++[⟨1,m,n,d⟩])from(iD l ⟨1,m,n,d⟩).symm]at h;unfold eH;rw [length_append];exact h
  ·refine Ext.app (af) hgrow hgg ?_
   first|omega|(simp<;>omega)|(have:=HGW.out.below.size;first|omega|(simp<;>omega)))
 clear hown hgrow hgg hgl
 go_wp2_with fail
 go_returns
 first|exact HR.out|(rw [HK.out];exact HR.out)
theorem K8{S:Nat->Prop}{N base:Nat}{w:World}{v vs ve:Value}{l:List Ins}{sl:List ByteArray}(n d m:Int)(s:ByteArray)(h:jF S N base w v vs l sl)(hl:l.length<=1000000) :
 Calls prog 64 #[v,.agg #[.int .i64 3,.int .i64 n,.int .i64 d,.int .i64 m,.string s,ve],vs] w (mi base w v (l++[⟨5,n,0,0⟩])):=by
 obtain⟨i0,hi,hz1,hz2,hz3⟩:=info_parts fq;have HP:=yq h;have HL:=yq hl;clear h hl
 go_enter func64,ntmps64
 go_wp2_with (first
  |(go_at_call 121;refine gvq (jo _ _) ?_;intro bs d;(try simp only [HII.out]))
  |(at_builtin;refine wpList_append_lies _ rfl _ _ 55 rfl base 118 i0 _ 4 32 underlying55 hi hz1 hz2 hz3 rfl zf v l.length (aU l) rfl (HP.out.row.grows (af)) ⟨_,0,none⟩ 1 1 [.int .i64 5,.int .i64 n,.int .i64 0,.int .i64 0] rfl rfl ?c1 ?c2 zf ?c3 ?c4 ?c5 _ rfl ?_))
 case c1=>exact ax _ [.int .i64 5,.int .i64 n,.int .i64 0,.int .i64 0] _ _ ze
 case c2=>intro u hu;simp at hu;rcases hu with rfl|rfl|rfl|rfl<;>rfl
 case c3=>unfold maxLen;have:=HL.out;omega
 case c4=>have:=HL.out;omega
 case c5=>first|(have:=HP.out.bs;simp;omega)|(have:=HP.out.bs;have:=HGW.out.below.size;simp;omega)
 intro g cap w1 hown hgrow hgg hgl
 have HR:Hid (mi base w v (l++[⟨5,n,0,0⟩]) (.returned (.slice (some ⟨g,0,none⟩) (l.length+1) cap)) w1):=yq (by
  refine⟨_,rfl, ?_, ?_⟩
  ·have h:=hown;rw [show aU l++[.int .i64 5,.int .i64 n,.int .i64 0,.int .i64 0]=aU (l++[⟨5,n,0,0⟩])from(iD l ⟨5,n,0,0⟩).symm]at h;unfold eH;rw [length_append];exact h
  ·refine Ext.app (af) hgrow hgg ?_
   first|omega|(simp<;>omega)|(have:=HGW.out.below.size;first|omega|(simp<;>omega)))
 clear hown hgrow hgg hgl
 go_wp2_with fail
 go_returns
 first|exact HR.out|(rw [HK.out];exact HR.out)
theorem Oj{S:Nat->Prop}{N base:Nat}{w:World}{v vs ve:Value}{l:List Ins}{sl:List ByteArray}(n d m:Int)(s:ByteArray)(k:Nat)(hk:mU s=some k)(h:jF S N base w v vs l sl)(hl:l.length<=1000000) :
 Calls prog 64 #[v,.agg #[.int .i64 2,.int .i64 n,.int .i64 d,.int .i64 m,.string s,ve],vs] w (mi base w v (l++[⟨2,k,0,0⟩])):=by
 obtain⟨i0,hi,hz1,hz2,hz3⟩:=info_parts fq;have HP:=yq h;have HL:=yq hl;have HII:Hid (Ao s=(k:Int)):=yq (by unfold Ao;rw [hk]);have d1:(0:Int)<=(k:Int):=by omega
 clear h hl hk
 go_enter func64,ntmps64
 go_wp2_with (first
  |(go_at_call 121;refine gvq (jo _ _) ?_;intro bs d;(try simp only [HII.out]))
  |(at_builtin;refine wpList_append_lies _ rfl _ _ 55 rfl base 118 i0 _ 4 32 underlying55 hi hz1 hz2 hz3 rfl zf v l.length (aU l) rfl (HP.out.row.grows (af)) ⟨_,0,none⟩ 1 1 [.int .i64 2,.int .i64 (k:Int),.int .i64 0,.int .i64 0] rfl rfl ?c1 ?c2 zf ?c3 ?c4 ?c5 _ rfl ?_))
 case c1=>exact ax _ [.int .i64 2,.int .i64 (k:Int),.int .i64 0,.int .i64 0] _ _ ze
 case c2=>intro u hu;simp at hu;rcases hu with rfl|rfl|rfl|rfl<;>rfl
 case c3=>unfold maxLen;have:=HL.out;omega
 case c4=>have:=HL.out;omega
 case c5=>first|(have:=HP.out.bs;simp;omega)|(have:=HP.out.bs;have:=HGW.out.below.size;simp;omega)
 intro g cap w1 hown hgrow hgg hgl
 have HR:Hid (mi base w v (l++[⟨2,(k:Int),0,0⟩]) (.returned (.slice (some ⟨g,0,none⟩) (l.length+1) cap)) w1):=yq (by
  refine⟨_,rfl, ?_, ?_⟩
  ·have h:=hown;rw [show aU l++[.int .i64 2,.int .i64 (k:Int),.int .i64 0,.int .i64 0]=aU (l++[⟨2,(k:Int),0,0⟩])from(iD l ⟨2,(k:Int),0,0⟩).symm]at h;unfold eH;rw [length_append];exact h
  ·refine Ext.app (af) hgrow hgg ?_
   first|omega|(simp<;>omega)|(have:=HGW.out.below.size;first|omega|(simp<;>omega)))
 clear hown hgrow hgg hgl
 go_wp2_with fail
 go_returns
 first|exact HR.out|(rw [HK.out];exact HR.out)
theorem PZ{sl:List ByteArray}{s:ByteArray}{k:Nat}(hk:k<sl.length)(he:sl.getD k ByteArray.empty=s)(hn:∀j,j<k->sl.getD j ByteArray.empty≠s):slK sl s=k:=by
 have g:∀j (h:j<sl.length),sl.getD j ByteArray.empty=sl[j]:=fun j h=>by rw [getD_eq_getElem?_getD,getElem?_eq_getElem h];rfl
 have:sl.findIdx? (fun x=>decide (x=s))=some k:=findIdx?_eq_some_iff_getElem.2 ⟨hk,by simpa using(g k hk).symm.trans he,fun j hj=>by
  have:=hn j hj;rw [g j zb]at this
  simpa using this⟩
 unfold slK;rw [this];rfl
theorem Gs{a b:ByteArray}(h:a≠b):(a.toList==b.toList)=false:=by
 have back:∀x:ByteArray,x=⟨x.toList.toArray⟩:=fun x=>by apply ByteArray.ext;rw [ByteArray.toList_eq]
 rw [beq_eq_false_iff_ne];exact fun e=>h ((back _).trans ((congrArg (fun l:List UInt8=>(⟨l.toArray⟩:ByteArray)) e).trans (back _).symm))
theorem K7{S:Nat->Prop}{N base:Nat}{w:World}{v vs ve:Value}{l:List Ins}{sl:List ByteArray}(n d0 m:Int)(s:ByteArray)(hk:mU s=none)(hs:s∈sl)(h:jF S N base w v vs l sl)(hl:l.length<=1000000) :
 Calls prog 64 #[v,.agg #[.int .i64 2,.int .i64 n,.int .i64 d0,.int .i64 m,.string s,ve],vs] w (mi base w v (l++[⟨3,slK sl s,0,0⟩])):=by
 obtain⟨i0,hi,hz1,hz2,hz3⟩:=info_parts fq;have HP:=yq h;have HL:=yq hl;have HII:Hid (Ao s= -1):=yq (by unfold Ao;rw [hk]);have HS:=yq hs;obtain⟨h1000,-,sa,sc,hcap,rfl,hcells⟩:=h.sl;have HC:=yq hcells;have H1:=yq h1000;clear h hl hk hs hcells hcap h1000
 go_enter func64,ntmps64
 go_wp2_with (go_at_call 121;refine gvq (jo _ _) ?_;intro bs d;simp only [HII.out])
 go_loopw [6,8] (fun _ v8 wr=>∃k:Nat,k<=sl.length/\v8= .int .i64 k/\Hid (∀j,j<k->sl.getD j ByteArray.empty≠s)/\World.Grows (w.alloc (.cells #[.int .i64 2,.int .i64 n,.int .i64 d0,.int .i64 m,.string s,ve] 27)) wr) (fun _ v8 _=>sl.length-(intOf v8).toNat)
 case atStart=>exact⟨0,by omega,rfl,yq (fun j hj=>by omega),af⟩
 case round=>
  obtain⟨k,hk,rfl,HN,hg⟩:=hrel;have hgw:w.Grows wr:=gqq af hg;have HG:=yq hg;have HGW:=yq hgw;have hb:=(hg.below.block w.heap.size ze).trans (heap_alloc_new _ _);have hl:=(Array.getElem?_eq_some_iff.1 hb).1;have x4:=cell_of_row wr _ 4 _ _ _ hb
  have hlt:k<sl.length:=by
   rcases Nat.lt_or_ge k sl.length with h|h
   ·exact h
   ·exfalso;obtain⟨j,hj,e⟩:=mem_iff_getElem.1 HS.out;exact HN.out j zb (by rw [getD_eq_getElem?_getD,getElem?_eq_getElem hj];exact e)
  obtain h0|⟨b,off,rfl,-,hbw,hc⟩:=HC.out
  ·omega
  have x0:=(hgw.below.cell (p:=⟨b,off+k,none⟩) hbw).trans (hc k hlt);have hbr:b<wr.heap.size:=Nat.lt_of_lt_of_le hbw hgw.below.size;have d1:(k:Int)<(sl.length:Int):=by omega
  have HLT:=yq hlt;have h1000:=H1.out;by_cases he:sl.getD k ByteArray.empty=s
  ·have HK:=yq (PZ hlt he HN.out);rw [he]at x0;clear hb hg hgw hlt hk he HN hc HS HC
   go_wp2_with fail
   go_region
   go_wp2_with (first
    |(go_at_call 121;refine gvq (jo _ _) ?_;intro bs d;(try simp only [HII.out]))
    |(at_builtin;refine wpList_append_lies _ rfl _ _ 55 rfl base 118 i0 _ 4 32 underlying55 hi hz1 hz2 hz3 rfl zf v l.length (aU l) rfl (HP.out.row.grows (gqq HGW.out af)) ⟨_,0,none⟩ 1 1 [.int .i64 3,.int .i64 (k:Int),.int .i64 0,.int .i64 0] rfl rfl ?c1 ?c2 zf ?c3 ?c4 ?c5 _ rfl ?_))
   case c1=>exact ax _ [.int .i64 3,.int .i64 (k:Int),.int .i64 0,.int .i64 0] _ _ ze
   case c2=>intro u hu;simp at hu;rcases hu with rfl|rfl|rfl|rfl<;>rfl
   case c3=>unfold maxLen;have:=HL.out;omega
   case c4=>have:=HL.out;omega
   case c5=>first|(have:=HP.out.bs;simp;omega)|(have:=HP.out.bs;have:=HGW.out.below.size;simp;omega)
   intro g cap w1 hown hgrow hgg hgl
   have HR:Hid (mi base w v (l++[⟨3,(k:Int),0,0⟩]) (.returned (.slice (some ⟨g,0,none⟩) (l.length+1) cap)) w1):=yq (by
    refine⟨_,rfl, ?_, ?_⟩
    ·have h:=hown;rw [show aU l++[.int .i64 3,.int .i64 (k:Int),.int .i64 0,.int .i64 0]=aU (l++[⟨3,(k:Int),0,0⟩])from(iD l ⟨3,(k:Int),0,0⟩).symm]at h;unfold eH;rw [length_append];exact h
    ·refine Ext.app (gqq HGW.out af) hgrow hgg ?_
     first|omega|(simp<;>omega)|(have:=HGW.out.below.size;first|omega|(simp<;>omega)))
   clear hown hgrow hgg hgl
   go_wp2_with fail
   go_returns
   first|exact HR.out|(rw [HK.out];exact HR.out)
  ·have HNN:Hid (∀j,j<k+1->sl.getD j ByteArray.empty≠s):=yq (fun j hj=>by
    by_cases e:j=k
    ·subst e;exact he
    ·exact HN.out j zb)
   have q:=Gs he;generalize sl.getD k ByteArray.empty=nm at *;clear hb hg hgw hlt hk he HN hc
   go_wp2_with fail
   go_region
   go_wp2_with fail
   go_roundw
   case rel=>exact⟨k+1,HLT.out,by go_num,HNN,gqq HG.out af⟩
   case measure=>simp [intOf];have:=HLT.out;omega
def uw(sl:List ByteArray)(e:Ex):Prop:=∀(S:Nat->Prop) (N base:Nat) (w:World) (v vs ve:Value) (l:List Ins),jF S N base w v vs l sl->aT S w e ve->l.length+(codeF (slK sl) e l.length).length<=1000000->Calls prog 64 #[v,exV e ve,vs] w (mi base w v (l++codeF (slK sl) e l.length))
theorem ER(κ:ByteArray->Nat)(l:List Ex):(di κ l).length=l.length:=by
 induction l with
 |nil=>simp [di]
 |cons e r ih=>simp [di,ih]
theorem tZ(κ:ByteArray->Nat)(l:List Ex)(k:Nat)(h:k<l.length):(di κ l)[k]? =some (codeF κ (l.getD k default)):=by
 induction l generalizing k with
 |nil=>simp at h
 |cons e r ih=>
  rw [di]
  cases k with
  |zero=>rfl
  |succ k=>exact ih k zy
theorem vD:∀(fs:List (Nat->List Ins)) (k i:Nat) (f:Nat->List Ins),fs[k]? =some f->gN (fs.take (k+1)) i=gN (fs.take k) i++f (i+(gN (fs.take k) i).length)
 | [],_,_,_,h=>by simp at h
 |g::r,0,i,f,h=>by simp at h;subst h;simp [gN]
 |g::r,k+1,i,f,h=>by
  rw [take_succ_cons,take_succ_cons,gN,gN,vD r k _ f zy,append_assoc,length_append];simp [Nat.add_assoc]
theorem vF:∀(fs:List (Nat->List Ins)) (k i:Nat),(gN (fs.take k) i).length<=(gN fs i).length
 | [],k,i=>by simp
 |g::r,0,i=>by simp [gN]
 |g::r,k+1,i=>by
  rw [take_succ_cons,gN,gN,length_append,length_append];have:=vF r k (i+(g i).length);omega
theorem Gd{w w':World}{v v':Value}{o:Obj}(hx:Ext (w.alloc o) w' v v')(hn:some w.heap.size≠v.ownBlock):w'.heap[w.heap.size]? =some o:=
 (jF.far hx ze hn).1.trans (heap_alloc_new _ _)
theorem aT.args9{S:Nat->Prop}{w:World}{e:Ex}{a:Option Addr}{cap:Nat}(h:aT S w e (.slice a e.args.length cap))(hn:0<e.args.length):∃b off,a=some ⟨b,off,none⟩/\b<w.heap.size/\
 ∀k,k<e.args.length->∃ak ck,Fg w b (off+k*6) (e.arg k) (.slice ak (e.arg k).args.length ck)/\aT S w (e.arg k) (.slice ak (e.arg k).args.length ck):=by
 generalize hv:Value.slice a e.args.length cap=v at h
 cases h with
 |mk _ a' cap' vs hr hc hs=>
  cases hv;rcases hc with h0|⟨b,off,rfl,-,hb,hx⟩
  ·omega
  ·refine⟨b,off,rfl,hb,fun k hk=>?_⟩;obtain⟨ak,ck,hvk⟩:=(hs k hk).form0;exact⟨ak,ck,hvk ▸ hx k hk,hvk ▸ hs k hk⟩
theorem Oh{S:Nat->Prop}{N base:Nat}{w:World}{v vs ve:Value}{l:List Ins}{sl:List ByteArray}(e:Ex)(ho:0<=e.op/\e.op<=100)(o1:e.op≠1)(o2:e.op≠2)(o3:e.op≠3)(o17:e.op≠17)(o18:e.op≠18)(o21:e.op≠21)
 (hIH:∀k,k<e.args.length->uw sl (e.arg k)) (h:jF S N base w v vs l sl) (hr:aT S w e ve) (hl:l.length+(gN (di (slK sl) e.args) l.length).length+1<=1000000) (hal:e.args.length<=1000) :
 Calls prog 64 #[v,exV e ve,vs] w (mi base w v (l++(gN (di (slK sl) e.args) l.length++[⟨qQ e.op,0,0,0⟩]))):=by
 obtain⟨i0,hi,hz1,hz2,hz3⟩:=info_parts fq;obtain⟨ea,ec,rfl⟩:=hr.form0;have hpb:jF S N base ((w.alloc (.cells #[.int .i64 e.op,.int .i64 e.num,.int .i64 e.den,.int .i64 e.dim,.string e.name,.slice ea e.args.length ec] 27))) v vs l sl:=h.step (Ext.of af) (h.row.grows af);have hrb:aT S ((w.alloc (.cells #[.int .i64 e.op,.int .i64 e.num,.int .i64 e.den,.int .i64 e.dim,.string e.name,.slice ea e.args.length ec] 27))) e (.slice ea e.args.length ec):=hr.grows af;have HPB:=yq hpb;have HRB:=yq hrb;have HNW:=yq h.new;have HL:=yq hl;have HIH:=yq hIH;have HP:=yq h;have q1:(e.op==1)=false:=by simpa using o1
 have q2:(e.op==2)=false:=by simpa using o2
 have q3:(e.op==3)=false:=by simpa using o3
 have q17:(e.op==17)=false:=by simpa using o17
 have q18:(e.op==18)=false:=by simpa using o18
 have q21:(e.op==21)=false:=by simpa using o21
 have HO:=yq ho;clear hIH h hr hl o1 o2 o3 o17 o18 o21 hpb hrb ho;unfold exV
 go_enter func64,ntmps64
 go_wp2_with fail
 go_loopw [0,11] (fun v0 v11 wr=>∃k:Nat,k<=e.args.length/\v11= .int .i64 k/\Hid (eH base wr v0 (l++gN ((di (slK sl) e.args).take k) l.length))/\Hid (Ext ((w.alloc (.cells #[.int .i64 e.op,.int .i64 e.num,.int .i64 e.den,.int .i64 e.dim,.string e.name,.slice ea e.args.length ec] 27))) wr v v0)) (fun _ v11 _=>e.args.length-(intOf v11).toNat)
 case atStart=>exact⟨0,by omega,rfl,yq (by simpa [gN]using HPB.out.row),yq (Ext.of af)⟩
 case round=>
  obtain⟨k,hk,rfl,HROW,HX⟩:=hrel;have hbx:=Gd HX.out HNW.out;have x0:=cell_of_row wr _ 0 _ _ _ hbx;have x5:=cell_of_row wr _ 5 _ _ _ hbx;have hbl:=(Array.getElem?_eq_some_iff.1 hbx).1;have hpr:jF S N base wr u0 vs _ sl:=HPB.out.step HX.out HROW.out;have hrr:aT S wr e (.slice ea e.args.length ec):=HPB.out.ex HX.out HRB.out;have HPR:=yq hpr;clear hbx;by_cases hlt:k<e.args.length
  ·have d1:(k:Int)<(e.args.length:Int):=by omega
   obtain⟨b,off,rfl,hb,hx⟩:=hrr.args9 zb;obtain⟨ak,ck,⟨y0,y1,y2,y3,y4,y5⟩,hra⟩:=hx k hlt;have hcl:=tZ (slK sl) e.args k hlt;have hst:=vD _ k l.length _ hcl;have hsl:=vF (di (slK sl) e.args) (k+1) l.length;rw [hst,length_append]at hsl;have hlen:(l++gN ((di (slK sl) e.args).take k) l.length).length=l.length+(gN ((di (slK sl) e.args).take k) l.length).length:=length_append;have HC:=yq (HIH.out k hlt S N base wr u0 vs _ _ hpr hra (by rw [hlen];have:=HL.out;show _+(codeF (slK sl) (e.args.getD k default) _).length<=_;omega))
   have heq:(l++gN ((di (slK sl) e.args).take k) l.length)++codeF (slK sl) (e.arg k) (l++gN ((di (slK sl) e.args).take k) l.length).length=l++gN ((di (slK sl) e.args).take (k+1)) l.length:=by
    rw [hst,hlen,append_assoc];rfl
   have HLT:=yq hlt;rw [heq]at HC;unfold exV at HC;generalize e.arg k=a at *;clear hpr hrr hx hcl hst hsl hlen hk hlt hra heq
   go_wp2_with (go_at_call 64;refine HC.out.mono ?_;rintro e' w2 ⟨v2,rfl,hr2,hx2⟩;have HR2:=yq hr2;have HX2:=yq hx2;clear hr2 hx2)
   go_roundw
   case rel=>exact⟨k+1,HLT.out,by go_num,HR2,yq (HX.out.trans HX2.out)⟩
   case measure=>simp [intOf];have:=HLT.out;omega
  ·obtain rfl:k=e.args.length:=by omega
   have hfin:gN ((di (slK sl) e.args).take e.args.length) l.length=gN (di (slK sl) e.args) l.length:=by rw [take_of_length_le (Nat.le_of_eq (ER _ _))]
   rw [hfin]at HROW HPR;have hLl:(l++gN (di (slK sl) e.args) l.length).length<=999999:=by rw [length_append];have:=HL.out;omega
   have HLL:=yq hLl;generalize hLe:l++gN (di (slK sl) e.args) l.length=L at HROW HPR HLL;have HLE:=yq hLe;clear hpr hrr hk hlt hfin hLl hLe
   go_wp2_with (first
    |(go_at_call 122;refine gw (G8 _ HO.out _) ?_)
    |(at_builtin;refine wpList_append_lies _ rfl _ _ 55 rfl base 118 i0 _ 4 32 underlying55 hi hz1 hz2 hz3 rfl zf u0 L.length (aU L) rfl (HROW.out.grows af) ⟨_,0,none⟩ 1 1 [.int .i64 (qQ e.op),.int .i64 0,.int .i64 0,.int .i64 0] rfl rfl ?c1 ?c2 zf ?c3 ?c4 ?c5 _ rfl ?_))
   case c1=>exact ax _ [.int .i64 (qQ e.op),.int .i64 0,.int .i64 0,.int .i64 0] _ _ ze
   case c2=>intro u hu;simp at hu;rcases hu with rfl|rfl|rfl|rfl<;>rfl
   case c3=>unfold maxLen;have:=HLL.out;omega
   case c4=>have:=HLL.out;omega
   case c5=>have:=HPR.out.bs;simp;omega
   intro g cap w1 hown hgrow hgg hgl
   have HR:Hid (mi base w v (L++[⟨qQ e.op,0,0,0⟩]) (.returned (.slice (some ⟨g,0,none⟩) (L.length+1) cap)) w1):=yq (by
    refine⟨_,rfl, ?_, ?_⟩
    ·have h:=hown;rw [show aU L++[.int .i64 (qQ e.op),.int .i64 0,.int .i64 0,.int .i64 0]=aU (L++[⟨qQ e.op,0,0,0⟩])from(iD L ⟨qQ e.op,0,0,0⟩).symm]at h;unfold eH;rw [length_append];exact h
    ·refine Ext.grows (w1:=((w.alloc (.cells #[.int .i64 e.op,.int .i64 e.num,.int .i64 e.den,.int .i64 e.dim,.string e.name,.slice ea e.args.length ec] 27)))) af (HX.out.trans (Ext.app af hgrow hgg ?_))
     first|omega|(simp<;>omega))
   clear hown hgrow hgg hgl
   go_wp2_with fail
   go_returns
   rw [<-append_assoc,HLE.out];exact HR.out
structure St9(S:Nat->Prop)(N base:Nat)(Wb wr:World)(v vr vs:Value)(L:List Ins)(sl:List ByteArray)(e:Ex)(ea:Option Addr)(ec:Nat):Prop where
 pre:jF S N base wr vr vs L sl
 ext:Ext Wb wr v vr
 ex:aT S wr e (.slice ea e.args.length ec)
def TC(S:Nat->Prop)(N base:Nat)(Wb:World)(v vs:Value)(L:List Ins)(sl:List ByteArray)(e:Ex)(ea:Option Addr)(ec:Nat)(r:Ending)(w':World):Prop:=∃a c,r= .returned (.slice a L.length c)/\St9 S N base Wb w' v (.slice a L.length c) vs L sl e ea ec
section
variable {S : Nat -> Prop} {N base : Nat} {Wb wr w1 W : World} {v vr vs : Value} {L : List Ins} {sl : List ByteArray} {e : Ex} {ea : Option Addr} {ec : Nat}
theorem St9.next{v1:Value}{L1:List Ins}(h:St9 S N base Wb wr v vr vs L sl e ea ec)(hx:Ext wr w1 vr v1)(hr:eH base w1 v1 L1):St9 S N base Wb w1 v v1 vs L1 sl e ea ec:=
 ⟨h.pre.step hx hr,h.ext.trans hx,h.pre.ex hx h.ex⟩
theorem St9.call(h:St9 S N base Wb wr v vr vs L sl e ea ec)(k:Nat)(va:Value)(hva:aT S wr (e.arg k) va)(hk:uw sl (e.arg k))(hl:L.length+(codeF (slK sl) (e.arg k) L.length).length<=1000000) :
 Calls prog 64 #[vr,exV (e.arg k) va,vs] wr (TC S N base Wb v vs (L++codeF (slK sl) (e.arg k) L.length) sl e ea ec):=
 (hk S N base wr vr vs va L h.pre hva hl).mono fun r w' ⟨v',he,hr,hx⟩=>by
  obtain⟨a,c,rfl⟩:=hr.form;exact⟨a,c,he,h.next hx hr⟩
theorem St9.app(h:St9 S N base Wb wr v vr vs L sl e ea ec)(x:Ins){g n c H:Nat}(hn:n=L.length+1)(hg:wr.Grows W)(hgr:W.grownBy w1 vr.ownBlock)(ha:vr.ownBlock=some g\/g=H)(hH:wr.heap.size<=H)
 (ho:w1.ownsRow base 118 4 (.slice (some ⟨g,0,none⟩) n c) n (aU L++[.int .i64 x.op,.int .i64 x.a,.int .i64 x.n,.int .i64 x.d])):St9 S N base Wb w1 v (.slice (some ⟨g,0,none⟩) n c) vs (L++[x]) sl e ea ec:=by
 subst hn;refine h.next (Ext.app hg hgr ha hH) ?_;rw [<-iD]at ho;unfold eH;rw [length_append];exact ho
theorem St9.store{g n c:Nat}(h:St9 S N base Wb wr v (.slice (some ⟨g,0,none⟩) n c) vs L sl e ea ec)(hn:n=L.length)(i:Nat)(hi:i<L.length)(z:Int):St9 S N base Wb (wr.setCell ⟨g,i*4+1,none⟩ (.int .i64 z)) v (.slice (some ⟨g,0,none⟩) n c) vs (gG L i z) sl e ea ec:=by
 subst hn;have hr:=h.pre.row;unfold eH at hr;obtain⟨h1,h2⟩:=hr.stored (i*4+1) (.int .i64 z);refine h.next ⟨h2,.inl rfl⟩ ?_;unfold eH;rw [<-Cg L i z hi,iN];exact h1
theorem St9.box{w0:World}{o:Obj}(h:St9 S N base (w0.alloc o) wr v vr vs L sl e ea ec)(hn:some w0.heap.size≠v.ownBlock):wr.heap[w0.heap.size]? =some o:=Gd h.ext hn
theorem St9.cell{g n c:Nat}(h:St9 S N base Wb wr v (.slice (some ⟨g,0,none⟩) n c) vs L sl e ea ec)(hn:n=L.length)(i:Nat)(hi:i<L.length):(∃u,wr.cell? ⟨g,i*4+1,none⟩=some u)/\wr.frozen? ⟨g,i*4+1,none⟩=false:=by
 subst hn;have hr:=h.pre.row;exact RI
theorem St9.arg(h:St9 S N base Wb wr v vr vs L sl e ea ec)(hn:0<e.args.length):∃b off,ea=some ⟨b,off,none⟩/\b<wr.heap.size/\
 ∀k,k<e.args.length->∃ak ck,Fg wr b (off+k*6) (e.arg k) (.slice ak (e.arg k).args.length ck)/\aT S wr (e.arg k) (.slice ak (e.arg k).args.length ck):=h.ex.args9 hn
end
theorem Pb(l Ac Bc Cc:List Ins)(i1 i2 i3:Nat)(h1:i1=(l++Ac).length)(h2:i2=(l++Ac++[(⟨22,0,0,0⟩:Ins)]++Bc).length) :
 gG (gG (l++Ac++[(⟨22,0,0,0⟩:Ins)]++Bc++[(⟨21,0,0,0⟩:Ins)]) i1 ((l++Ac++[(⟨22,0,0,0⟩:Ins)]++Bc++[(⟨21,0,0,0⟩:Ins)]).length:Nat)++Cc) i2 i3=
  l++(Ac++⟨22,((l.length+Ac.length+1+Bc.length+1:Nat):Int),0,0⟩::(Bc++⟨21,i3,0,0⟩::Cc)):=by
 have e1:gG (l++Ac++[(⟨22,0,0,0⟩:Ins)]++Bc++[(⟨21,0,0,0⟩:Ins)]) i1 ((l++Ac++[(⟨22,0,0,0⟩:Ins)]++Bc++[(⟨21,0,0,0⟩:Ins)]).length:Nat)=l++Ac++⟨22,((l.length+Ac.length+1+Bc.length+1:Nat):Int),0,0⟩::(Bc++[(⟨21,0,0,0⟩:Ins)]):=by
  have:=rV (l++Ac) ⟨22,0,0,0⟩ (Bc++[(⟨21,0,0,0⟩:Ins)]) ((l++Ac++[(⟨22,0,0,0⟩:Ins)]++Bc++[(⟨21,0,0,0⟩:Ins)]).length:Nat);rw [<-h1]at this;simp only [append_assoc,cons_append,nil_append]at this ⊢;rw [this];simp only [length_append,length_cons,length_nil]
  congr 4
  omega
 rw [e1];have:=rV (l++Ac++⟨22,((l.length+Ac.length+1+Bc.length+1:Nat):Int),0,0⟩::Bc) ⟨21,0,0,0⟩ Cc (i3:Int);rw [show(l++Ac++⟨22,((l.length+Ac.length+1+Bc.length+1:Nat):Int),0,0⟩::Bc).length=i2 by rw [h2];simp]at this;simp only [append_assoc,cons_append,nil_append]at this ⊢;rw [this]
theorem Mc{P:Program}{c:Code}{Q:Exit->Act->World->Prop}{a:Act}{w:World}(S:World->Prop)(h:S w)(k:∀W,S W->c.wp P Q a W):c.wp P Q a w:=k w h
theorem QM{S:Nat->Prop}{N base:Nat}{w:World}{v vs ve:Value}{l:List Ins}{sl:List ByteArray}(e:Ex)(hop:e.op=21)(hal:e.args.length=3)
 (hIH:∀k,k<e.args.length->uw sl (e.arg k)) (h:jF S N base w v vs l sl) (hr:aT S w e ve)
 (L1 L2 L3 L4 L5 L6:List Ins) (hL1:L1=l++codeF (slK sl) (e.arg 0) l.length) (hL2:L2=L1++[⟨22,0,0,0⟩]) (hL3:L3=L2++codeF (slK sl) (e.arg 1) L2.length) (hL4:L4=L3++[⟨21,0,0,0⟩]) (hL5:L5=gG L4 L1.length L4.length) (hL6:L6=L5++codeF (slK sl) (e.arg 2) L5.length) (hl:L6.length<=1000000) :
 Calls prog 64 #[v,exV e ve,vs] w (mi base w v (gG L6 L3.length L6.length)):=by
 obtain⟨i0,hi,hz1,hz2,hz3⟩:=info_parts fq;obtain⟨ea,ec,rfl⟩:=hr.form0;have n1:L1.length=l.length+(codeF (slK sl) (e.arg 0) l.length).length:=by rw [hL1,length_append]
 have n2:L2.length=L1.length+1:=by rw [hL2,length_append];rfl
 have n3:L3.length=L2.length+(codeF (slK sl) (e.arg 1) L2.length).length:=by rw [hL3,length_append]
 have n4:L4.length=L3.length+1:=by rw [hL4,length_append];rfl
 have n5:L5.length=L4.length:=by rw [hL5,iN]
 have n6:L6.length=L5.length+(codeF (slK sl) (e.arg 2) L5.length).length:=by rw [hL6,length_append]
 have h0:St9 S N base ((w.alloc (.cells #[.int .i64 e.op,.int .i64 e.num,.int .i64 e.den,.int .i64 e.dim,.string e.name,.slice ea e.args.length ec] 27))) ((w.alloc (.cells #[.int .i64 e.op,.int .i64 e.num,.int .i64 e.den,.int .i64 e.dim,.string e.name,.slice ea e.args.length ec] 27))) v v vs l sl e ea ec:=⟨h.step (Ext.of af) (h.row.grows af),Ext.of af,hr.grows af⟩;obtain⟨b,off,rfl,hbw,hx0⟩:=hr.args9 zb;obtain⟨ak0,ck0,⟨y00,y10,y20,y30,y40,y50⟩,hra0⟩:=hx0 0 zb;simp only [Nat.zero_mul,Nat.add_zero]at y00 y10 y20 y30 y40 y50;have HC0:=yq (h0.call 0 _ (hra0.grows af) (hIH 0 zb) zb);rw [<-hL1]at HC0;have HNW:=yq h.new;have HAN:Hid (0<e.args.length):=yq zb;have HAE:=yq hal;have HIH:=yq hIH;have HLN:Hid (l.length<=L1.length/\L1.length+1=L2.length/\L2.length<=L3.length/\L3.length+1=L4.length/\L4.length=L5.length/\L5.length<=L6.length/\L6.length<=1000000):=yq zb;have HL2:=yq hL2;have HL3:=yq hL3;have HL4:=yq hL4;have HL5:=yq hL5;have HL6:=yq hL6;have dA0:(0:Int)<(e.args.length:Int):=by omega
 have dA1:(1:Int)<(e.args.length:Int):=by omega
 have dA2:(2:Int)<(e.args.length:Int):=by omega
 have d13:(L1.length:Int)<(L3.length:Int)+1:=by omega
 unfold exV at HC0;have q1:(e.op==1)=false:=by rw [hop];rfl
 have q2:(e.op==2)=false:=by rw [hop];rfl
 have q3:(e.op==3)=false:=by rw [hop];rfl
 have q17:(e.op==17)=false:=by rw [hop];rfl
 have q18:(e.op==18)=false:=by rw [hop];rfl
 have q21:(e.op==21)=true:=by rw [hop];rfl
 clear h hr hIH n1 n2 n3 n4 n5 n6 h0 hx0 hra0 hL1 hL2 hL3 hL4 hL5 hL6 hl hal hop;unfold exV
 go_enter func64,ntmps64
 go_upto_region 20 with ((go_at_call 64;refine HC0.out.mono ?_;rintro e' w1 ⟨a1,c1,rfl,h1⟩;have H1:=yq h1;clear h1);(have hbx1:=H1.out.box HNW.out;have x01:=cell_of_row w1 _ 0 _ _ _ hbx1;have x51:=cell_of_row w1 _ 5 _ _ _ hbx1;have hbl1:=(Array.getElem?_eq_some_iff.1 hbx1).1;clear hbx1))
 go_upto_region 22 with ((at_builtin;refine wpList_append_lies _ rfl _ _ 55 rfl base 118 i0 _ 4 32 underlying55 hi hz1 hz2 hz3 rfl zf (.slice a1 L1.length c1) L1.length (aU L1) rfl (H1.out.pre.row.grows af) ⟨_,0,none⟩ 1 1 [.int .i64 22,.int .i64 0,.int .i64 0,.int .i64 0] rfl rfl (ax _ [.int .i64 22,.int .i64 0,.int .i64 0,.int .i64 0] _ _ ze) zv zf zH zn yS _ rfl ?_;intro g2 c2 w2 hown hgrow hgg hgl;have h2:=H1.out.app ⟨22,0,0,0⟩ (n:=L1.length+1) rfl af hgrow hgg zI hown;rw [<-HL2.out]at h2;have H2:=yq h2;clear hown hgrow hgg hgl h2))
 (have hbx2:=H2.out.box HNW.out;have x02:=cell_of_row w2 _ 0 _ _ _ hbx2;have x52:=cell_of_row w2 _ 5 _ _ _ hbx2;have hbl2:=(Array.getElem?_eq_some_iff.1 hbx2).1;clear hbx2)
 (obtain⟨b',off',hea,hb2,hx2⟩:=H2.out.arg HAN.out;cases hea;obtain⟨ak2,ck2,⟨y02,y12,y22,y32,y42,y52⟩,hra2⟩:=hx2 1 zJ;clear hx2;simp only [Nat.one_mul,Nat.reduceMul,Nat.add_assoc,Nat.reduceAdd]at y02 y12 y22 y32 y42 y52)
 have HC2:=yq (H2.out.call 1 _ hra2 (HIH.out 1 zJ) xG);rw [<-HL3.out]at HC2;unfold exV at HC2;clear hra2
 go_upto_region 26 with ((go_at_call 64;refine HC2.out.mono ?_;rintro e' w3 ⟨a3,c3,rfl,h3⟩;have H3:=yq h3;clear h3))
 go_upto_region 28 with ((at_builtin;refine wpList_append_lies _ rfl _ _ 55 rfl base 118 i0 _ 4 32 underlying55 hi hz1 hz2 hz3 rfl zf (.slice a3 L3.length c3) L3.length (aU L3) rfl (H3.out.pre.row.grows af) ⟨_,0,none⟩ 1 1 [.int .i64 21,.int .i64 0,.int .i64 0,.int .i64 0] rfl rfl (ax _ [.int .i64 21,.int .i64 0,.int .i64 0,.int .i64 0] _ _ ze) zv zf zH zn yT _ rfl ?_;intro g4 c4 w4 hown hgrow hgg hgl;have h4:=H3.out.app ⟨21,0,0,0⟩ (n:=L3.length+1) rfl af hgrow hgg zI hown;rw [<-HL4.out]at h4;have H4:=yq h4;clear hown hgrow hgg hgl h4))
 (have hbx4:=H4.out.box HNW.out;have x04:=cell_of_row w4 _ 0 _ _ _ hbx4;have x54:=cell_of_row w4 _ 5 _ _ _ hbx4;have hbl4:=(Array.getElem?_eq_some_iff.1 hbx4).1;clear hbx4)
 obtain⟨⟨u41,z4⟩,f4⟩:=H4.out.cell zn L1.length zn
 go_upto_region 29 with fail
 refine Mc (fun W=>St9 S N base ((w.alloc (.cells #[.int .i64 e.op,.int .i64 e.num,.int .i64 e.den,.int .i64 e.dim,.string e.name,.slice (some ⟨b,off,none⟩) e.args.length ec] 27))) W v (.slice (some ⟨g4,0,none⟩) (L3.length+1) c4) vs L5 sl e (some ⟨b,off,none⟩) ec) (by
  have h5:=H4.out.store zn L1.length zn ((L3.length:Int)+1);rw [show gG L4 L1.length ((L3.length:Int)+1)=L5 from by rw [HL5.out,<-HLN.out.2.2.2.1];rfl]at h5
  exact h5) ?_
 intro w5 h5;have H5:=yq h5;clear h5 z4 f4 x04 x54 hbl4
 (have hbx5:=H5.out.box HNW.out;have x05:=cell_of_row w5 _ 0 _ _ _ hbx5;have x55:=cell_of_row w5 _ 5 _ _ _ hbx5;have hbl5:=(Array.getElem?_eq_some_iff.1 hbx5).1;clear hbx5)
 (obtain⟨b',off',hea,hb5,hx5⟩:=H5.out.arg HAN.out;cases hea;obtain⟨ak5,ck5,⟨y05,y15,y25,y35,y45,y55⟩,hra5⟩:=hx5 2 zJ;clear hx5;simp only [Nat.one_mul,Nat.reduceMul,Nat.add_assoc,Nat.reduceAdd]at y05 y15 y25 y35 y45 y55)
 have HC5:=yq (H5.out.call 2 _ hra5 (HIH.out 2 zJ) xH);rw [<-HL6.out]at HC5;unfold exV at HC5;clear hra5
 go_upto_region 35 with ((go_at_call 64;refine HC5.out.mono ?_;rintro e' w6 ⟨a6,c6,rfl,h6⟩;have H6:=yq h6;clear h6))
 obtain⟨g6,cap6,e6,-,-⟩:=World.ownsRow.form H6.out.pre.row zn;cases e6;have d36:(L3.length:Int)<(L6.length:Int):=by have:=HLN.out;omega
 obtain⟨⟨u61,z6⟩,f6⟩:=H6.out.cell rfl L3.length zn;have hbl6:=World.block_lt_of_cell? _ _ z6
 have HF:Hid (mi base w v (gG L6 L3.length L6.length) (.returned (.slice (some ⟨g6,0,none⟩) L6.length c6)) (w6.setCell ⟨g6,L3.length*4+1,none⟩ (.int .i64 (L6.length:Int)))):=yq (by
  have h7:=H6.out.store rfl L3.length zn (L6.length:Int)
  exact⟨_,rfl,h7.pre.row,Ext.grows (w1:=((w.alloc (.cells #[.int .i64 e.op,.int .i64 e.num,.int .i64 e.den,.int .i64 e.dim,.string e.name,.slice (some ⟨b,off,none⟩) e.args.length ec] 27)))) af h7.ext⟩)
 go_wp2_with fail
 go_returns
 exact HF.out
theorem Ol{S:Nat->Prop}{N base:Nat}{w:World}{v vs ve:Value}{l:List Ins}{sl:List ByteArray}(e:Ex)(hop:e.op=17)(hal:e.args.length=2)
 (hIH:∀k,k<e.args.length->uw sl (e.arg k)) (h:jF S N base w v vs l sl) (hr:aT S w e ve)
 (L1 L2 L3 L4 L5 L6:List Ins) (hL1:L1=l++codeF (slK sl) (e.arg 0) l.length) (hL2:L2=L1++[⟨22,0,0,0⟩]) (hL3:L3=L2++codeF (slK sl) (e.arg 1) L2.length) (hL4:L4=L3++[⟨21,0,0,0⟩]) (hL5:L5=gG L4 L1.length L4.length) (hL6:L6=L5++[⟨24,0,0,0⟩]) (hl:L6.length<=1000000) :
 Calls prog 64 #[v,exV e ve,vs] w (mi base w v (gG L6 L3.length L6.length)):=by
 obtain⟨i0,hi,hz1,hz2,hz3⟩:=info_parts fq;obtain⟨ea,ec,rfl⟩:=hr.form0;have n1:L1.length=l.length+(codeF (slK sl) (e.arg 0) l.length).length:=by rw [hL1,length_append]
 have n2:L2.length=L1.length+1:=by rw [hL2,length_append];rfl
 have n3:L3.length=L2.length+(codeF (slK sl) (e.arg 1) L2.length).length:=by rw [hL3,length_append]
 have n4:L4.length=L3.length+1:=by rw [hL4,length_append];rfl
 have n5:L5.length=L4.length:=by rw [hL5,iN]
 have n6:L6.length=L5.length+1:=by rw [hL6,length_append];rfl
 have h0:St9 S N base ((w.alloc (.cells #[.int .i64 e.op,.int .i64 e.num,.int .i64 e.den,.int .i64 e.dim,.string e.name,.slice ea e.args.length ec] 27))) ((w.alloc (.cells #[.int .i64 e.op,.int .i64 e.num,.int .i64 e.den,.int .i64 e.dim,.string e.name,.slice ea e.args.length ec] 27))) v v vs l sl e ea ec:=⟨h.step (Ext.of af) (h.row.grows af),Ext.of af,hr.grows af⟩;obtain⟨b,off,rfl,hbw,hx0⟩:=hr.args9 zb;obtain⟨ak0,ck0,⟨y00,y10,y20,y30,y40,y50⟩,hra0⟩:=hx0 0 zb;simp only [Nat.zero_mul,Nat.add_zero]at y00 y10 y20 y30 y40 y50;have HC0:=yq (h0.call 0 _ (hra0.grows af) (hIH 0 zb) zb);rw [<-hL1]at HC0;have HNW:=yq h.new;have HAN:Hid (0<e.args.length):=yq zb;have HAE:=yq hal;have HIH:=yq hIH;have HLN:Hid (l.length<=L1.length/\L1.length+1=L2.length/\L2.length<=L3.length/\L3.length+1=L4.length/\L4.length=L5.length/\L5.length+1=L6.length/\L6.length<=1000000):=yq zb;have HL2:=yq hL2;have HL3:=yq hL3;have HL4:=yq hL4;have HL5:=yq hL5;have HL6:=yq hL6;have dA0:(0:Int)<(e.args.length:Int):=by omega
 have dA1:(1:Int)<(e.args.length:Int):=by omega
 have d13:(L1.length:Int)<(L3.length:Int)+1:=by omega
 unfold exV at HC0;have q1:(e.op==1)=false:=by rw [hop];rfl
 have q2:(e.op==2)=false:=by rw [hop];rfl
 have q3:(e.op==3)=false:=by rw [hop];rfl
 have q17:(e.op==17)=true:=by rw [hop];rfl
 have q18:(e.op==18)=false:=by rw [hop];rfl
 have q21:(e.op==21)=false:=by rw [hop];rfl
 clear h hr hIH n1 n2 n3 n4 n5 n6 h0 hx0 hra0 hL1 hL2 hL3 hL4 hL5 hL6 hl hal hop;unfold exV
 go_enter func64,ntmps64
 go_upto_region 20 with ((go_at_call 64;refine HC0.out.mono ?_;rintro e' w1 ⟨a1,c1,rfl,h1⟩;have H1:=yq h1;clear h1);(have hbx1:=H1.out.box HNW.out;have x01:=cell_of_row w1 _ 0 _ _ _ hbx1;have x51:=cell_of_row w1 _ 5 _ _ _ hbx1;have hbl1:=(Array.getElem?_eq_some_iff.1 hbx1).1;clear hbx1))
 go_upto_region 22 with ((at_builtin;refine wpList_append_lies _ rfl _ _ 55 rfl base 118 i0 _ 4 32 underlying55 hi hz1 hz2 hz3 rfl zf (.slice a1 L1.length c1) L1.length (aU L1) rfl (H1.out.pre.row.grows af) ⟨_,0,none⟩ 1 1 [.int .i64 22,.int .i64 0,.int .i64 0,.int .i64 0] rfl rfl (ax _ [.int .i64 22,.int .i64 0,.int .i64 0,.int .i64 0] _ _ ze) zv zf zH zn yS _ rfl ?_;intro g2 c2 w2 hown hgrow hgg hgl;have h2:=H1.out.app ⟨22,0,0,0⟩ (n:=L1.length+1) rfl af hgrow hgg zI hown;rw [<-HL2.out]at h2;have H2:=yq h2;clear hown hgrow hgg hgl h2))
 (have hbx2:=H2.out.box HNW.out;have x02:=cell_of_row w2 _ 0 _ _ _ hbx2;have x52:=cell_of_row w2 _ 5 _ _ _ hbx2;have hbl2:=(Array.getElem?_eq_some_iff.1 hbx2).1;clear hbx2)
 (obtain⟨b',off',hea,hb2,hx2⟩:=H2.out.arg HAN.out;cases hea;obtain⟨ak2,ck2,⟨y02,y12,y22,y32,y42,y52⟩,hra2⟩:=hx2 1 zJ;clear hx2;simp only [Nat.one_mul,Nat.reduceMul,Nat.add_assoc,Nat.reduceAdd]at y02 y12 y22 y32 y42 y52)
 have HC2:=yq (H2.out.call 1 _ hra2 (HIH.out 1 zJ) xG);rw [<-HL3.out]at HC2;unfold exV at HC2;clear hra2
 go_upto_region 26 with ((go_at_call 64;refine HC2.out.mono ?_;rintro e' w3 ⟨a3,c3,rfl,h3⟩;have H3:=yq h3;clear h3))
 go_upto_region 28 with ((at_builtin;refine wpList_append_lies _ rfl _ _ 55 rfl base 118 i0 _ 4 32 underlying55 hi hz1 hz2 hz3 rfl zf (.slice a3 L3.length c3) L3.length (aU L3) rfl (H3.out.pre.row.grows af) ⟨_,0,none⟩ 1 1 [.int .i64 21,.int .i64 0,.int .i64 0,.int .i64 0] rfl rfl (ax _ [.int .i64 21,.int .i64 0,.int .i64 0,.int .i64 0] _ _ ze) zv zf zH zn yT _ rfl ?_;intro g4 c4 w4 hown hgrow hgg hgl;have h4:=H3.out.app ⟨21,0,0,0⟩ (n:=L3.length+1) rfl af hgrow hgg zI hown;rw [<-HL4.out]at h4;have H4:=yq h4;clear hown hgrow hgg hgl h4))
 (have hbx4:=H4.out.box HNW.out;have x04:=cell_of_row w4 _ 0 _ _ _ hbx4;have x54:=cell_of_row w4 _ 5 _ _ _ hbx4;have hbl4:=(Array.getElem?_eq_some_iff.1 hbx4).1;clear hbx4)
 obtain⟨⟨u41,z4⟩,f4⟩:=H4.out.cell zn L1.length zn
 go_upto_region 29 with fail
 refine Mc (fun W=>St9 S N base ((w.alloc (.cells #[.int .i64 e.op,.int .i64 e.num,.int .i64 e.den,.int .i64 e.dim,.string e.name,.slice (some ⟨b,off,none⟩) e.args.length ec] 27))) W v (.slice (some ⟨g4,0,none⟩) (L3.length+1) c4) vs L5 sl e (some ⟨b,off,none⟩) ec) (by
  have h5:=H4.out.store zn L1.length zn ((L3.length:Int)+1);rw [show gG L4 L1.length ((L3.length:Int)+1)=L5 from by rw [HL5.out,<-HLN.out.2.2.2.1];rfl]at h5
  exact h5) ?_
 intro w5 h5;have H5:=yq h5;clear h5 z4 f4 x04 x54 hbl4 dA0 dA1
 (have hbx5:=H5.out.box HNW.out;have x05:=cell_of_row w5 _ 0 _ _ _ hbx5;have x55:=cell_of_row w5 _ 5 _ _ _ hbx5;have hbl5:=(Array.getElem?_eq_some_iff.1 hbx5).1;clear hbx5)
 go_upto_region 35 with ((at_builtin;refine wpList_append_lies _ rfl _ _ 55 rfl base 118 i0 _ 4 32 underlying55 hi hz1 hz2 hz3 rfl zf (.slice (some ⟨g4,0,none⟩) (L3.length+1) c4) L5.length (aU L5) rfl (H5.out.pre.row.grows af) ⟨_,0,none⟩ 1 1 [.int .i64 24,.int .i64 0,.int .i64 0,.int .i64 0] rfl rfl (ax _ [.int .i64 24,.int .i64 0,.int .i64 0,.int .i64 0] _ _ ze) zv zf zH zn (by have:=H5.out.pre.bs;simp;omega) _ rfl ?_;intro g6 c6 w6 hown hgrow hgg hgl;have h6:=H5.out.app ⟨24,0,0,0⟩ (n:=L5.length+1) rfl af hgrow hgg zI hown;rw [<-HL6.out]at h6;have H6:=yq h6;clear hown hgrow hgg hgl h6))
 have hn6:L5.length+1=L6.length:=HLN.out.2.2.2.2.2.1;rw [hn6]at H6 ⊢;clear hn6;generalize(some (⟨g6,0,none⟩:Addr))=a6 at *;obtain⟨g6,cap6,e6,-,-⟩:=World.ownsRow.form H6.out.pre.row zn;cases e6;have d36:(L3.length:Int)<(L6.length:Int):=by have:=HLN.out;omega
 obtain⟨⟨u61,z6⟩,f6⟩:=H6.out.cell rfl L3.length zn;have hbl6:=World.block_lt_of_cell? _ _ z6
 have HF:Hid (mi base w v (gG L6 L3.length L6.length) (.returned (.slice (some ⟨g6,0,none⟩) L6.length c6)) (w6.setCell ⟨g6,L3.length*4+1,none⟩ (.int .i64 (L6.length:Int)))):=yq (by
  have h7:=H6.out.store rfl L3.length zn (L6.length:Int)
  exact⟨_,rfl,h7.pre.row,Ext.grows (w1:=((w.alloc (.cells #[.int .i64 e.op,.int .i64 e.num,.int .i64 e.den,.int .i64 e.dim,.string e.name,.slice (some ⟨b,off,none⟩) e.args.length ec] 27)))) af h7.ext⟩)
 go_wp2_with fail
 go_returns
 exact HF.out
theorem QL{S:Nat->Prop}{N base:Nat}{w:World}{v vs ve:Value}{l:List Ins}{sl:List ByteArray}(e:Ex)(hop:e.op=18)(hal:e.args.length=2)
 (hIH:∀k,k<e.args.length->uw sl (e.arg k)) (h:jF S N base w v vs l sl) (hr:aT S w e ve)
 (L1 L2 L3 L4 L5 L6:List Ins) (hL1:L1=l++codeF (slK sl) (e.arg 0) l.length) (hL2:L2=L1++[⟨22,0,0,0⟩]) (hL3:L3=L2++[⟨23,0,0,0⟩]) (hL4:L4=L3++[⟨21,0,0,0⟩]) (hL5:L5=gG L4 L1.length L4.length) (hL6:L6=L5++codeF (slK sl) (e.arg 1) L5.length) (hl:L6.length<=1000000) :
 Calls prog 64 #[v,exV e ve,vs] w (mi base w v (gG L6 L3.length L6.length)):=by
 obtain⟨i0,hi,hz1,hz2,hz3⟩:=info_parts fq;obtain⟨ea,ec,rfl⟩:=hr.form0;have n1:L1.length=l.length+(codeF (slK sl) (e.arg 0) l.length).length:=by rw [hL1,length_append]
 have n2:L2.length=L1.length+1:=by rw [hL2,length_append];rfl
 have n3:L3.length=L2.length+1:=by rw [hL3,length_append];rfl
 have n4:L4.length=L3.length+1:=by rw [hL4,length_append];rfl
 have n5:L5.length=L4.length:=by rw [hL5,iN]
 have n6:L6.length=L5.length+(codeF (slK sl) (e.arg 1) L5.length).length:=by rw [hL6,length_append]
 have h0:St9 S N base ((w.alloc (.cells #[.int .i64 e.op,.int .i64 e.num,.int .i64 e.den,.int .i64 e.dim,.string e.name,.slice ea e.args.length ec] 27))) ((w.alloc (.cells #[.int .i64 e.op,.int .i64 e.num,.int .i64 e.den,.int .i64 e.dim,.string e.name,.slice ea e.args.length ec] 27))) v v vs l sl e ea ec:=⟨h.step (Ext.of af) (h.row.grows af),Ext.of af,hr.grows af⟩;obtain⟨b,off,rfl,hbw,hx0⟩:=hr.args9 zb;obtain⟨ak0,ck0,⟨y00,y10,y20,y30,y40,y50⟩,hra0⟩:=hx0 0 zb;simp only [Nat.zero_mul,Nat.add_zero]at y00 y10 y20 y30 y40 y50;have HC0:=yq (h0.call 0 _ (hra0.grows af) (hIH 0 zb) zb);rw [<-hL1]at HC0;have HNW:=yq h.new;have HAN:Hid (0<e.args.length):=yq zb;have HAE:=yq hal;have HIH:=yq hIH;have HLN:Hid (l.length<=L1.length/\L1.length+1=L2.length/\L2.length+1=L3.length/\L3.length+1=L4.length/\L4.length=L5.length/\L5.length<=L6.length/\L6.length<=1000000):=yq zb;have HL2:=yq hL2;have HL3:=yq hL3;have HL4:=yq hL4;have HL5:=yq hL5;have HL6:=yq hL6;have dA0:(0:Int)<(e.args.length:Int):=by omega
 have dA1:(1:Int)<(e.args.length:Int):=by omega
 have d13:(L1.length:Int)<(L3.length:Int)+1:=by omega
 unfold exV at HC0;have q1:(e.op==1)=false:=by rw [hop];rfl
 have q2:(e.op==2)=false:=by rw [hop];rfl
 have q3:(e.op==3)=false:=by rw [hop];rfl
 have q17:(e.op==17)=false:=by rw [hop];rfl
 have q18:(e.op==18)=true:=by rw [hop];rfl
 have q21:(e.op==21)=false:=by rw [hop];rfl
 clear h hr hIH n1 n2 n3 n4 n5 n6 h0 hx0 hra0 hL1 hL2 hL3 hL4 hL5 hL6 hl hal hop;unfold exV
 go_enter func64,ntmps64
 go_upto_region 20 with ((go_at_call 64;refine HC0.out.mono ?_;rintro e' w1 ⟨a1,c1,rfl,h1⟩;have H1:=yq h1;clear h1);(have hbx1:=H1.out.box HNW.out;have x01:=cell_of_row w1 _ 0 _ _ _ hbx1;have x51:=cell_of_row w1 _ 5 _ _ _ hbx1;have hbl1:=(Array.getElem?_eq_some_iff.1 hbx1).1;clear hbx1))
 go_upto_region 22 with ((at_builtin;refine wpList_append_lies _ rfl _ _ 55 rfl base 118 i0 _ 4 32 underlying55 hi hz1 hz2 hz3 rfl zf (.slice a1 L1.length c1) L1.length (aU L1) rfl (H1.out.pre.row.grows af) ⟨_,0,none⟩ 1 1 [.int .i64 22,.int .i64 0,.int .i64 0,.int .i64 0] rfl rfl (ax _ [.int .i64 22,.int .i64 0,.int .i64 0,.int .i64 0] _ _ ze) zv zf zH zn yS _ rfl ?_;intro g2 c2 w2 hown hgrow hgg hgl;have h2:=H1.out.app ⟨22,0,0,0⟩ (n:=L1.length+1) rfl af hgrow hgg zI hown;rw [<-HL2.out]at h2;have H2:=yq h2;clear hown hgrow hgg hgl h2))
 (have hbx2:=H2.out.box HNW.out;have x02:=cell_of_row w2 _ 0 _ _ _ hbx2;have x52:=cell_of_row w2 _ 5 _ _ _ hbx2;have hbl2:=(Array.getElem?_eq_some_iff.1 hbx2).1;clear hbx2)
 go_upto_region 26 with ((at_builtin;refine wpList_append_lies _ rfl _ _ 55 rfl base 118 i0 _ 4 32 underlying55 hi hz1 hz2 hz3 rfl zf (.slice (some ⟨g2,0,none⟩) (L1.length+1) c2) L2.length (aU L2) rfl (H2.out.pre.row.grows af) ⟨_,0,none⟩ 1 1 [.int .i64 23,.int .i64 0,.int .i64 0,.int .i64 0] rfl rfl (ax _ [.int .i64 23,.int .i64 0,.int .i64 0,.int .i64 0] _ _ ze) zv zf zH zn (by have:=H2.out.pre.bs;simp;omega) _ rfl ?_;intro g3 c3 w3 hown hgrow hgg hgl;have h3:=H2.out.app ⟨23,0,0,0⟩ (n:=L2.length+1) rfl af hgrow hgg zI hown;rw [<-HL3.out]at h3;have H3:=yq h3;clear hown hgrow hgg hgl h3))
 have hn3:L2.length+1=L3.length:=HLN.out.2.2.1;rw [hn3]at H3 ⊢;clear hn3;generalize(some (⟨g3,0,none⟩:Addr))=a3 at *
 go_upto_region 28 with ((at_builtin;refine wpList_append_lies _ rfl _ _ 55 rfl base 118 i0 _ 4 32 underlying55 hi hz1 hz2 hz3 rfl zf (.slice a3 L3.length c3) L3.length (aU L3) rfl (H3.out.pre.row.grows af) ⟨_,0,none⟩ 1 1 [.int .i64 21,.int .i64 0,.int .i64 0,.int .i64 0] rfl rfl (ax _ [.int .i64 21,.int .i64 0,.int .i64 0,.int .i64 0] _ _ ze) zv zf zH zn yT _ rfl ?_;intro g4 c4 w4 hown hgrow hgg hgl;have h4:=H3.out.app ⟨21,0,0,0⟩ (n:=L3.length+1) rfl af hgrow hgg zI hown;rw [<-HL4.out]at h4;have H4:=yq h4;clear hown hgrow hgg hgl h4))
 (have hbx4:=H4.out.box HNW.out;have x04:=cell_of_row w4 _ 0 _ _ _ hbx4;have x54:=cell_of_row w4 _ 5 _ _ _ hbx4;have hbl4:=(Array.getElem?_eq_some_iff.1 hbx4).1;clear hbx4)
 obtain⟨⟨u41,z4⟩,f4⟩:=H4.out.cell zn L1.length zn
 go_upto_region 29 with fail
 refine Mc (fun W=>St9 S N base ((w.alloc (.cells #[.int .i64 e.op,.int .i64 e.num,.int .i64 e.den,.int .i64 e.dim,.string e.name,.slice (some ⟨b,off,none⟩) e.args.length ec] 27))) W v (.slice (some ⟨g4,0,none⟩) (L3.length+1) c4) vs L5 sl e (some ⟨b,off,none⟩) ec) (by
  have h5:=H4.out.store zn L1.length zn ((L3.length:Int)+1);rw [show gG L4 L1.length ((L3.length:Int)+1)=L5 from by rw [HL5.out,<-HLN.out.2.2.2.1];rfl]at h5
  exact h5) ?_
 intro w5 h5;have H5:=yq h5;clear h5 z4 f4 x04 x54 hbl4
 (have hbx5:=H5.out.box HNW.out;have x05:=cell_of_row w5 _ 0 _ _ _ hbx5;have x55:=cell_of_row w5 _ 5 _ _ _ hbx5;have hbl5:=(Array.getElem?_eq_some_iff.1 hbx5).1;clear hbx5)
 (obtain⟨b',off',hea,hb5,hx5⟩:=H5.out.arg HAN.out;cases hea;obtain⟨ak5,ck5,⟨y05,y15,y25,y35,y45,y55⟩,hra5⟩:=hx5 1 zJ;clear hx5;simp only [Nat.one_mul,Nat.reduceMul,Nat.add_assoc,Nat.reduceAdd]at y05 y15 y25 y35 y45 y55)
 have HC5:=yq (H5.out.call 1 _ hra5 (HIH.out 1 zJ) xH);rw [<-HL6.out]at HC5;unfold exV at HC5;clear hra5
 go_upto_region 35 with ((go_at_call 64;refine HC5.out.mono ?_;rintro e' w6 ⟨a6,c6,rfl,h6⟩;have H6:=yq h6;clear h6))
 obtain⟨g6,cap6,e6,-,-⟩:=World.ownsRow.form H6.out.pre.row zn;cases e6;have d36:(L3.length:Int)<(L6.length:Int):=by have:=HLN.out;omega
 obtain⟨⟨u61,z6⟩,f6⟩:=H6.out.cell rfl L3.length zn;have hbl6:=World.block_lt_of_cell? _ _ z6
 have HF:Hid (mi base w v (gG L6 L3.length L6.length) (.returned (.slice (some ⟨g6,0,none⟩) L6.length c6)) (w6.setCell ⟨g6,L3.length*4+1,none⟩ (.int .i64 (L6.length:Int)))):=yq (by
  have h7:=H6.out.store rfl L3.length zn (L6.length:Int)
  exact⟨_,rfl,h7.pre.row,Ext.grows (w1:=((w.alloc (.cells #[.int .i64 e.op,.int .i64 e.num,.int .i64 e.den,.int .i64 e.dim,.string e.name,.slice (some ⟨b,off,none⟩) e.args.length ec] 27)))) af h7.ext⟩)
 go_wp2_with fail
 go_returns
 exact HF.out
theorem uj(l:List Ins)(A B C:Nat->List Ins)(L1 L2 L3 L4 L5 L6:List Ins)(hL1:L1=l++A l.length)(hL2:L2=L1++[⟨22,0,0,0⟩])(hL3:L3=L2++B L2.length)(hL4:L4=L3++[⟨21,0,0,0⟩])(hL5:L5=gG L4 L1.length L4.length)(hL6:L6=L5++C L5.length) :
 gG L6 L3.length L6.length=l++brC A B C l.length/\L6.length=l.length+(brC A B C l.length).length:=by
 have n1:L1.length=l.length+(A l.length).length:=by rw [hL1,length_append]
 have n2:L2.length=l.length+(A l.length).length+1:=by rw [hL2,length_append,n1];rfl
 rw [n2]at hL3;have n3:L3.length=l.length+(A l.length).length+1+(B (l.length+(A l.length).length+1)).length:=by rw [hL3,length_append,n2]
 have n4:L4.length=l.length+(A l.length).length+1+(B (l.length+(A l.length).length+1)).length+1:=by rw [hL4,length_append,n3];rfl
 have n5:L5.length=l.length+(A l.length).length+1+(B (l.length+(A l.length).length+1)).length+1:=by rw [hL5,iN,n4]
 rw [n5]at hL6;have n6:L6.length=l.length+(A l.length).length+1+(B (l.length+(A l.length).length+1)).length+1+(C (l.length+(A l.length).length+1+(B (l.length+(A l.length).length+1)).length+1)).length:=by rw [hL6,length_append,n5]
 have key:=Pb l (A l.length) (B (l.length+(A l.length).length+1)) (C (l.length+(A l.length).length+1+(B (l.length+(A l.length).length+1)).length+1)) L1.length L3.length L6.length (by rw [hL1]) (by rw [hL3,hL2,hL1]);have e4:L4=l++A l.length++[⟨22,0,0,0⟩]++B (l.length+(A l.length).length+1)++[⟨21,0,0,0⟩]:=by rw [hL4,hL3,hL2,hL1]
 rw [<-e4,<-hL5,<-hL6]at key;refine⟨?_, ?_⟩
 ·rw [key,n6];rfl
 ·have:=congrArg List.length key;rw [iN,length_append]at this;rw [this];unfold brC;simp only [length_append,length_cons]
theorem Mm{n:Nat}{op:Int}(h:(n:Int)=aY op):1<=op/\op<=21/\n<=3:=by
 unfold aY at h
 (repeat' split at h)<;>omega
def Px(sl:List ByteArray)(e:Ex):Prop:=aM e=true->(∀s,jk s e=true->mU s=none->s∈sl)->uw sl e
theorem iG(κ:ByteArray->Nat)(xs:List Ex)(k:Nat)(h:k<xs.length):(di κ xs).getD k (fun _=>[])=codeF κ (xs.getD k default):=by
 rw [getD_eq_getElem?_getD,tZ κ xs k h];rfl
theorem K6{sl:List ByteArray}{op nn d mm:Int}{s:ByteArray}{xs:List Ex}(ih:∀a∈xs,Px sl a):Px sl (.mk op nn d mm s xs):=by
 intro hf hn S N base w v vs ve l hp hr hl;have hnames:∀a∈xs,∀u,jk u a=true->mU u=none->u∈sl:=fun a ha u h1 h2=>hn u (by rw [jk,BR ha h1];simp) h2;rw [aM,Bool.and_eq_true,decide_eq_true_eq]at hf;obtain⟨hlen,hf⟩:=hf;have hl0:l.length<=1000000:=by omega
 rw [codeF]at hl ⊢;unfold oW at hl ⊢;by_cases h1:op=1
 ·subst h1;exact Oi nn d mm s hp hl0
 by_cases h2:op=2
 ·subst h2;rw [if_neg zf,if_pos rfl];unfold KR
  cases hk:mU s with
  |some k=>exact Oj nn d mm s k hk hp hl0
  |none=>exact K7 nn d mm s hk (hn s (by rw [jk];simp) hk) hp hl0
 by_cases h3:op=3
 ·subst h3;exact K8 nn d mm s hp hl0
 simp only [if_neg h1,if_neg h2,if_neg h3]at hf hl ⊢;have hfa:=qF (Bool.and_eq_true_iff.1 hf).1
 have hIH:∀k,k<xs.length->uw sl (xs.getD k default):=fun k hk=>by
  have hm:xs.getD k default∈xs:=by rw [getD_eq_getElem?_getD,getElem?_eq_getElem hk];exact getElem_mem hk
  exact ih _ hm (hfa _ hm) (hnames _ hm)
 have hop:=Mm hlen;by_cases h17:op=17
 ·subst h17;have hx:xs.length=2:=by have:aY 17=2:=rfl;omega
  simp only [if_pos]at hl ⊢;rw [iG _ _ 0 zb,iG _ _ 1 zb]at hl ⊢;obtain⟨e1,e2⟩:=uj l (codeF (slK sl) (xs.getD 0 default)) (codeF (slK sl) (xs.getD 1 default)) (fun _=>[⟨24,0,0,0⟩]) _ _ _ _ _ _ rfl rfl rfl rfl rfl rfl;rw [<-e1];exact Ol (.mk 17 nn d mm s xs) rfl hx hIH hp hr _ _ _ _ _ _ rfl rfl rfl rfl rfl rfl (by rw [e2];exact hl)
 by_cases h18:op=18
 ·subst h18;have hx:xs.length=2:=by have:aY 18=2:=rfl;omega
  simp only [if_neg h17,if_pos]at hl ⊢;rw [iG _ _ 0 zb,iG _ _ 1 zb]at hl ⊢;obtain⟨e1,e2⟩:=uj l (codeF (slK sl) (xs.getD 0 default)) (fun _=>[⟨23,0,0,0⟩]) (codeF (slK sl) (xs.getD 1 default)) _ _ _ _ _ _ rfl rfl rfl rfl rfl rfl;rw [<-e1];exact QL (.mk 18 nn d mm s xs) rfl hx hIH hp hr _ _ _ _ _ _ rfl rfl rfl rfl rfl rfl (by rw [e2];exact hl)
 by_cases h21:op=21
 ·subst h21;have hx:xs.length=3:=by have:aY 21=3:=rfl;omega
  simp only [if_neg h17,if_neg h18,if_pos]at hl ⊢;rw [iG _ _ 0 zb,iG _ _ 1 zb,iG _ _ 2 zb]at hl ⊢;obtain⟨e1,e2⟩:=uj l (codeF (slK sl) (xs.getD 0 default)) (codeF (slK sl) (xs.getD 1 default)) (codeF (slK sl) (xs.getD 2 default)) _ _ _ _ _ _ rfl rfl rfl rfl rfl rfl;rw [<-e1];exact QM (.mk 21 nn d mm s xs) rfl hx hIH hp hr _ _ _ _ _ _ rfl rfl rfl rfl rfl rfl (by rw [e2];exact hl)
 simp only [if_neg h17,if_neg h18,if_neg h21]at hl ⊢;exact Oh (.mk op nn d mm s xs) (by show 0<=op/\op<=100;omega) h1 h2 h3 h17 h18 h21 hIH hp hr (by rw [length_append]at hl;exact hl) (by show xs.length<=1000;omega)
mutual
theorem Ca{sl:List ByteArray}:∀e:Ex,Px sl e
 | .mk _ _ _ _ _ xs=>K6 (wh xs)
theorem wh{sl:List ByteArray}:∀xs:List Ex,∀a∈xs,Px sl a
 | [],_,ha=>by cases ha
 |e::r,a,ha=>by
  rcases mem_cons.1 ha with h|ha
  ·rw [h];exact Ca e
  ·exact wh r a ha
end
end Go.Proofs.YteildlpchhlchaaGreatDoor
