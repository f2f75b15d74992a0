import Derived.Test.YtlheailebbngiaaGreatDoorGStpP
import Derived.Test.YtlheailebbngiaaGreatDoorGAw8
import Derived.Test.YtlheailebbngiaaGreatDoorGGrP
set_option linter.all false
set_option maxHeartbeats 16000000
set_option maxRecDepth 1000000
namespace Go.Proofs.YtlheailebbngiaaGreatDoor
open Go.Proofs.Tryz List
open Go.RowKit
def jQ(l:List (ByteArray × Val)):List Value:=l.flatMap fun p=>[.string p.1,.int .i64 p.2.dim,.bool p.2.yes,.int .i64 p.2.n,.int .i64 p.2.d]
theorem Jj(l:List (ByteArray × Val)):(jQ l).length=l.length*5:=by
 induction l with
 |nil=>rfl
 |cons p r ih=>unfold jQ at *;rw [flatMap_cons,length_append,ih];simp;omega
theorem Jk(l:List (ByteArray × Val)):∀i,i<l.length->(jQ l)[i*5]? =some (.string (stN l i))/\(jQ l)[i*5+1]? =some (.int .i64 (stV l i).dim)/\(jQ l)[i*5+2]? =some (.bool (stV l i).yes)/\(jQ l)[i*5+3]? =some (.int .i64 (stV l i).n)/\(jQ l)[i*5+4]? =some (.int .i64 (stV l i).d):=by
 induction l with
 |nil=>intro i hi;simp at hi
 |cons p r ih=>
  intro i hi
  cases i with
  |zero=>exact⟨rfl,rfl,rfl,rfl,rfl⟩
  |succ i=>
   have h:=ih i (by simpa using hi)
   have e:∀j,(jQ (p::r))[(i+1)*5+j]? =(jQ r)[i*5+j]?:=fun j=>by
    rw [show(i+1)*5+j=i*5+j+5 by omega];rfl
   have e0:=e 0;rw [Nat.add_zero,Nat.add_zero]at e0;rw [e0,e 1,e 2,e 3,e 4];exact h
theorem ji(l:List (ByteArray × Val))(p:ByteArray × Val):jQ (l++[p])=jQ l++[.string p.1,.int .i64 p.2.dim,.bool p.2.yes,.int .i64 p.2.n,.int .i64 p.2.d]:=by
 unfold jQ;simp
theorem bi.of_own{w:World}{base:Nat}{v:Value}{l:List (ByteArray × Val)}(h:w.ownsRow base 68 5 v l.length (jQ l))(hl:l.length<=1000):bi w v l:=by
 obtain⟨-,⟨rfl,h0⟩|⟨g,cap,cur,rfl,hb,hg,h2,h3,h4,h5⟩⟩:=id h
 ·exact⟨by omega,none,0,by rw [h0],.inl h0⟩
 ·refine⟨by omega,_,cap,rfl,.inr ⟨g,0,rfl,(Array.getElem?_eq_some_iff.1 hg).1,fun i hi=>?_⟩⟩;obtain⟨g0,g1,g2,g3,g4⟩:=Jk l i hi;have hL:=Jj l;rw [Nat.zero_add];exact⟨(h.cellAt (i*5) ze).trans g0,(h.cellAt (i*5+1) ze).trans g1,(h.cellAt (i*5+2) ze).trans g2,(h.cellAt (i*5+3) ze).trans g3,(h.cellAt (i*5+4) ze).trans g4⟩
theorem JP:(prog.info? 68).map (fun i=>(i.zero,i.size,i.bytes))=some (some (.agg #[.string ⟨#[]⟩,.int .i64 0,.bool false,.int .i64 0,.int .i64 0]),5,48):=by kernel_rfl
def sG(ls:List (ByteArray × Ex)):Prop:=∀t∈ls,t.1.size<=140737488355328/\t.2.size<=1000000
def lC(r:List (ByteArray × Int) × Int)(w:World)(e:Ending)(w':World):Prop:=∃x,e= .returned (.tuple #[x,.int .i64 r.2])/\w.Grows w'/\aU w' x r.1
theorem lC.bad{r:List (ByteArray × Int) × Int}{c:Int}{w w':World}(h:r=([],c))(hg:w.Grows w'):lC r w (.returned (.tuple #[.slice none 0 0,.int .i64 c])) w':=by
 subst h;exact⟨_,rfl,hg,by simp,none,0,rfl,.inl rfl⟩
theorem qW{env:List (ByteArray × Int)}{s:ByteArray}{e:Ex}(h:bT s.toList≠0\/eY s=false):fU env (s,e)=5:=by unfold fU;rw [if_pos h]
theorem tY{env:List (ByteArray × Int)}{s:ByteArray}{e:Ex}(h:bT s.toList=0)(h2:eY s=true)(h3:env.any (fun p=>decide (p.1=s))=true):fU env (s,e)=10:=by
 unfold fU;rw [if_neg (by rw [h2];simp [h]),if_pos h3]
theorem tX{env:List (ByteArray × Int)}{s:ByteArray}{e:Ex}(h:bT s.toList=0)(h2:eY s=true)(h3:env.any (fun p=>decide (p.1=s))=false):fU env (s,e)=(aT env e).2:=by
 unfold fU;rw [if_neg (by rw [h2];simp [h]),if_neg (by rw [h3];simp)]
theorem fZ{α:Type}[Inhabited α]{l:List α}{k:Nat}(h:k<l.length):l.getD k default∈l:=by
 rw [getD_eq_getElem?_getD,getElem?_eq_getElem h];exact getElem_mem h
theorem sZ{k:Nat}{p:Nat->Bool}(h:∀j,j<k->p j=false):(List.range k).any p=false:=by
 rw [Bool.eq_false_iff];intro hc;obtain⟨j,hj,hp⟩:=any_eq_true.1 hc;rw [h j (mem_range.1 hj)]at hp;cases hp
theorem sW{k:Nat}{p:Nat->Bool}(j:Nat)(h:j<k)(hp:p j=true):(List.range k).any p=true:=any_eq_true.2 ⟨j,mem_range.2 h,hp⟩
theorem PV(env:List (ByteArray × Int))(s:ByteArray):((List.range env.length).any fun k=>decide (bdN env k=s))=env.any fun p=>decide (p.1=s):=by
 rw [Bool.eq_iff_iff,any_eq_true,any_eq_true];constructor
 ·rintro⟨k,hk,hp⟩;have hk:=mem_range.1 hk;refine⟨env[k],getElem_mem hk, ?_⟩;unfold bdN at hp;simpa [getD_eq_getElem?_getD,getElem?_eq_getElem hk]using hp
 ·rintro⟨p,hp,hs⟩;obtain⟨k,hk,rfl⟩:=mem_iff_getElem.1 hp;refine⟨k,mem_range.2 hk, ?_⟩;unfold bdN;simpa [getD_eq_getElem?_getD,getElem?_eq_getElem hk]using hs
open Go.RowKit Go.ChangeShapes Go.WideShapes Go.Deep
section
variable {H : Type} {enc : TypeId × Value -> H} {P : Program} {w : World}
theorem eU.of_trod{t e q:TypeId}{fuel:Nat}{v:Value}{x:DataW H × List MemPlace}(ht:P.underlying t=some (.slice e))(he:P.underlying e=some (.slice q))(hq:P.underlying q=some (.int .i64))(ce:P.cellsOf e=1)(cq:P.cellsOf q=1)(be:P.bytesOf e=24)(bq:P.bytesOf q=8)
 (h:DataW.trod enc P w 0 (fun _=>true) true fuel t [v]=some x) (hf:fits P t x.1):∃zss,eU w v zss:=by
 rcases open_int_rows ht he hq ce cq h with ⟨hcs,_⟩|⟨a,len,cap,A,L,C,Z,hcs,_,hl,hm,hx,hr⟩
 ·simp at hcs;subst hcs;exact⟨[],by simp,none,0,rfl,.inl rfl⟩
 ·simp at hcs;subst hcs
  have h8:len<=140737488355328:=by
   have h9:=hf ((len+(cap-len))*24) (by rw [hx];simp [DataW.weights,ht,be]);omega
  have hrow:∀r,r<len->ay w (.slice (A r) (L r) (C r)) ((Z r).take (L r)):=by
   intro r hrl;obtain⟨h1,h2,h3,h4,h5,h6,h7⟩:=hr r ze;refine ay.of_cells h2 h4 h5 ?_ (fun e=>by have:=h6 e;omega) (fun x' hx' i hi=>(h7 x' hx').2 i hi)
   cases hA:A r with
   |none=>have:=h6 hA;omega
   |some y=>
    have h9:=hf ((L r+(C r-L r))*8) (by
     rw [hx];simp only [DataW.weights,ht,mem_cons,mem_append];right;left
     have key:∀(l:List Nat),r∈l->(L r+(C r-L r))*8∈DataW.weightsAll P e (l.map fun r=>(intRow (H:=H) .i64 (A r) (L r) (Z r))):=by
      intro l
      induction l with
      |nil=>intro h;cases h
      |cons y' l ih=>
       intro h;simp only [map_cons,DataW.weightsAll,mem_append];rcases mem_cons.1 h with rfl|h
       ·left;simp [intRow,hA,DataW.weights,he,lits,bq,h4,Nat.min_eq_left h2]
       ·exact .inr (ih h)
     exact key _ (mem_range.2 hrl))
    omega
  refine⟨(List.range len).map fun r=>(Z r).take (L r),by simpa using h8,some a,cap,by simp, ?_⟩;by_cases h0:len=0
  ·left;simp [h0]
  ·right;obtain⟨b,off,spot⟩:=a;have h1:=(hr 0 ze).1;have hspot:spot=none:=by simpa [Addr.add]using World.cell?_spot h1
   subst hspot
   have h2:∀i,i<cap->w.cell? ⟨b,off+i,none⟩=some (.slice (A i) (L i) (C i)):=fun i hi=>by
    rw [<-E8];exact(hr i hi).1
   refine⟨b,off,rfl,E5 (h2 0 ze),fun i hi=>?_⟩;have hi':i<len:=by simpa using hi
   refine⟨_,h2 i ze, ?_⟩;have:((List.range len).map fun r=>(Z r).take (L r)).getD i []=(Z i).take (L i):=by simp [getD_eq_getElem?_getD,hi']
   rw [this];exact hrow i hi'
end
theorem Oi{α:Type}{cs:Array α}(h:cs.size=10):∃c0 c1 c2 c3 c4 c5 c6 c7 c8 c9,cs=#[c0,c1,c2,c3,c4,c5,c6,c7,c8,c9]:=by
 obtain⟨l⟩:=cs
 match l,h with
 | [c0,c1,c2,c3,c4,c5,c6,c7,c8,c9],_=>exact⟨c0,c1,c2,c3,c4,c5,c6,c7,c8,c9,rfl⟩
theorem c25:(prog).cellsOf 72=10:=by kernel_rfl
theorem pJ.of_trod{H:Type}{enc:TypeId × Value->H}{w:World}{r:Reach}{b0:Nat}{v:Value}{d:DataW H}{p:List MemPlace}(hv:Value.okWide prog w r b0 72 v)
 (h:DataW.Trod enc prog w 0 (fun _=>true) true 72 v d p) (hf:fits prog 72 d) :
 ∃R cs,v= .agg cs/\pJ w cs.toList R:=by
 have ht:=underlying72;obtain⟨cs,rfl,hsz⟩:=okWide_struct ht hv;obtain⟨c0,c1,c2,c3',c4,c5,c6,c7,c8,c9,rfl⟩:=Oi (hsz.trans c25);obtain⟨fuel,h⟩:=h;obtain⟨xs,n,_,hx,_,hlen,hF⟩:=DataW.trod_struct ht h;simp only [Prod.mk.injEq]at hx;obtain⟨rfl,-⟩:=hx;have k0:=hF 0 _ rfl;have k1:=hF 1 _ rfl;have k2:=hF 2 _ rfl;have k3:=hF 3 _ rfl;have k4:=hF 4 _ rfl;have k5:=hF 5 _ rfl;have k6:=hF 6 _ rfl;have k7:=hF 7 _ rfl;have k8:=hF 8 _ rfl;have k9:=hF 9 _ rfl;simp only [Value.cells,drop_zero,drop_succ_cons,take_succ_cons,take_zero]at k0 k1 k2 k3 k4 k5 k6 k7 k8 k9
 match xs,hlen with
 | [y0,y1,y2,y3,y4,y5,y6,y7,y8,y9],_=>
   obtain⟨n0,rfl,w0⟩:=eP k0;obtain⟨n1,rfl,w1⟩:=eP k1;obtain⟨n2,rfl,w2⟩:=eP k2;obtain⟨n9,rfl,w9⟩:=eP k9;obtain⟨z3,w3⟩:=ay.of_trod underlying24 underlying3 c3 b3 k3 (gN ht hf (i:=3) rfl rfl);obtain⟨z4,w4⟩:=ay.of_trod underlying24 underlying3 c3 b3 k4 (gN ht hf (i:=4) rfl rfl);obtain⟨z5,w5⟩:=eU.of_trod underlying70 underlying24 underlying3 c22 c3 b22 b3 k5 (gN ht hf (i:=5) rfl rfl);obtain⟨z6,w6⟩:=eU.of_trod underlying70 underlying24 underlying3 c22 c3 b22 b3 k6 (gN ht hf (i:=6) rfl rfl);obtain⟨z7,w7⟩:=eU.of_trod underlying70 underlying24 underlying3 c22 c3 b22 b3 k7 (gN ht hf (i:=7) rfl rfl);obtain⟨z8,w8⟩:=eU.of_trod underlying70 underlying24 underlying3 c22 c3 b22 b3 k8 (gN ht hf (i:=8) rfl rfl);exact⟨⟨n0,n1,n2,z3,z4,z5,z6,z7,z8,n9⟩,_,rfl,w0,w1,w2,w9,c3',c4,c5,c6,c7,c8,rfl,w3,w4,w5,w6,w7,w8⟩
end Go.Proofs.YtlheailebbngiaaGreatDoor
