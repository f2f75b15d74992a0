import Derived.Test.YtlheailebbngiaaGreatDoorRFd2
import Derived.Test.YtlheailebbngiaaGreatDoorRFrAll
import Derived.Test.YtlheailebbngiaaGreatDoorRows
import Derived.Below
import Derived.Handed
import Derived.LaidLaws
import Derived.LaidSub
import Derived.Lay
import Derived.Stop.LaidErr
import Derived.MakeChecks
import Derived.Lib.LaidTab
set_option linter.all false
set_option maxHeartbeats 16000000
set_option maxRecDepth 1000000
namespace Go.Proofs.YtlheailebbngiaaGreatDoor
open Go.Proofs.Tryz List
theorem cz(v:Vw)(env:List (ByteArray × Val))(l:List Ex)(k:Nat)(hk:k<l.length):(gu v env l).getD k (.zero,0)=ai v env (l.getD k default):=by
 induction l generalizing k with
 |nil=>simp at hk
 |cons e r ih=>
  rw [gu]
  cases k with
  |zero=>rfl
  |succ k=>simpa using ih k (by simpa using hk)
theorem FZ{env:List (ByteArray × Int)}{e:Ex}(hi:(aD env e).2=0)(h1:¬e.op=1)(h2:¬e.op=2)(h3:¬e.op=3):∀k,k<e.args.length->pG env (e.arg k)=0:=by
 intro k
 induction k using Nat.strongRecOn with
 |ind k ih=>
  intro hk;by_cases hb:pG env (e.arg k)=0
  ·exact hb
  ·have:=yP env e h1 h2 h3 k hk (fun j hj=>ih j hj ze) hb;rw [this]at hi;exact absurd hi hb
theorem Ar{v:Vw}(hv:v.ok=true){env:List (ByteArray × Val)}(hE:∀p∈env,p.2.ok=true){e:Ex}(hf:aN e=true)(hi:(aD (aR env) e).2=0)(h1:¬e.op=1)(h2:¬e.op=2)(h3:¬e.op=3) :
 ∃ds:List Int,e.args.length=ds.length/\(ds.length:Int)=bi e.op/\4<=e.op/\e.op<=21/\ax e.op ds≠0/\
  ∀k,k<e.args.length->aN (e.arg k)=true/\(aD (aR env) (e.arg k)).2=0/\okR (ds.getD k 0) (ai v env (e.arg k)):=by
 obtain⟨hal,ho4,ho21,hfs⟩:=qH hf h1 h2 h3;have hall:=FZ hi h1 h2 h3;have hop:=D9 (aR env) e h1 h2 h3 hall;refine⟨fI (aR env) e e.args.length,by simp [fI],by simpa [fI]using hal,ho4,ho21, ?_,fun k hk=>⟨gQ hfs k hk,hall k hk, ?_⟩⟩
 ·intro h0;rw [hop,if_pos h0]at hi;simp at hi
 ·have:=lZ hv hE (e.arg k) (gQ hfs k hk) (hall k hk)
  have hd:(fI (aR env) e e.args.length).getD k 0=(aD (aR env) (e.arg k)).1:=by
   unfold fI Ex.arg;rw [take_length,getD_eq_getElem?_getD,getElem?_map,getElem?_eq_getElem hk,getD_eq_getElem?_getD,getElem?_eq_getElem hk];rfl
  rw [hd];exact this
theorem cmp_eq{a b c d:Int}(ha:az a b=true)(hb:az c d=true)(h:gJ a b c d=0):a=c/\b=d:=by
 refine Fy ha hb ?_;unfold gJ at h
 (repeat' split at h)<;>omega
theorem sN{a b c d:Int}(ha:az a b=true)(hb:az c d=true):fJ a b c d=(gJ a b c d,0):=by
 unfold fJ;rw [ha,hb];rfl
theorem yX{op:Int}{x y:Val}(ho:op=7\/op=8\/op=9\/op=10\/op=19\/op=20\/(11<=op/\op<=16))(hr:ax op [x.dim,y.dim]≠0):x.dim≠1/\y.dim≠1:=by
 have h9:op=9\/op=10\/((op=7\/op=8\/op=19\/op=20)\/(11<=op/\op<=16)):=by omega
 rcases h9 with rfl|rfl|h|h
 ·rw [xR]at hr
  (repeat' split at hr)<;>omega
 ·rw [xS]at hr
  (repeat' split at hr)<;>omega
 ·rw [sK _ _ h]at hr
  (repeat' split at hr)<;>omega
 ·rw [sJ _ _ h]at hr
  (repeat' split at hr)<;>omega
theorem Nv{op:Int}{x y:Val}(ho:11<=op/\op<=16)(hx:x.ok=true)(hy:y.ok=true)(hr:ax op [x.dim,y.dim]≠0) :
 op2 op x y=(.truth (r9 op (fJ x.n x.d y.n y.d).1),0)/\(fJ x.n x.d y.n y.d).2=0:=by
 have hd:=yX (.inr (.inr (.inr (.inr (.inr (.inr ho)))))) hr;rw [sN (Val.ok_num hx hd.1).2.2.2 (Val.ok_num hy hd.2).2.2.2];refine⟨?_,rfl⟩;unfold op2;rw [if_neg ze,if_neg ze,if_neg ze,if_neg ze,if_neg ze,if_neg ze]
theorem P8{op:Int}{x y:Val}(ho:op=7\/op=8\/op=9\/op=10\/op=19\/op=20)(hx:x.ok=true)(hy:y.ok=true)(hr:ax op [x.dim,y.dim]≠0) :
 op2 op x y=eQ (Cj op x.dim y.dim) (arF op x.n x.d y.n y.d):=by
 have hd:=yX ze hr;have hx:=(Val.ok_num hx hd.1).2.2.2;have hy:=(Val.ok_num hy hd.2).2.2.2;rcases ho with rfl|rfl|rfl|rfl|rfl|rfl
 ·rfl
 ·rfl
 ·have:ax 9 [x.dim,y.dim]=Cj 9 x.dim y.dim:=by
   rw [xR]at hr ⊢;unfold Cj
   (repeat' split at hr)<;>simp_all
  show eQ (ax 9 [x.dim,y.dim]) _=_;rw [this];rfl
 ·have:ax 10 [x.dim,y.dim]=Cj 10 x.dim y.dim:=by
   rw [xS]at hr ⊢;unfold Cj
   (repeat' split at hr)<;>simp_all
  show eQ (ax 10 [x.dim,y.dim]) _=_;rw [this];rfl
 ·show(if gJ x.n x.d y.n y.d<=0 then Val.num x.dim x.n x.d else .num x.dim y.n y.d,0)=eQ x.dim (if(fJ x.n x.d y.n y.d).1<0 then(x.n,x.d,(fJ x.n x.d y.n y.d).2)else(y.n,y.d,(fJ x.n x.d y.n y.d).2));rw [sN hx hy];have he:=cmp_eq hx hy;generalize gJ x.n x.d y.n y.d=c at *;dsimp only;by_cases h1:c<0
  ·rw [if_pos h1,if_pos ze];rfl
  ·rw [if_neg h1];by_cases h2:c<=0
   ·obtain⟨h3,h4⟩:=he ze;rw [if_pos h2,h3,h4];rfl
   ·rw [if_neg h2];rfl
 ·show(if 0<=gJ x.n x.d y.n y.d then Val.num x.dim x.n x.d else .num x.dim y.n y.d,0)=eQ x.dim (if(fJ x.n x.d y.n y.d).1<0 then(y.n,y.d,(fJ x.n x.d y.n y.d).2)else(x.n,x.d,(fJ x.n x.d y.n y.d).2));rw [sN hx hy];generalize gJ x.n x.d y.n y.d=c at *;dsimp only;by_cases h1:c<0
  ·rw [if_pos h1,if_neg ze];rfl
  ·rw [if_neg h1,if_pos ze];rfl
theorem Val.ok_rng{x:Val}(h:x.ok=true):vV x:=by
 unfold vV I64;by_cases hd:x.dim=1
 ·unfold Val.ok at h;rw [if_pos hd,decide_eq_true_eq]at h;omega
 ·have:=aF (Val.ok_num h hd).2.2.2;omega
def vW(l:List Int):Prop:=l.Pairwise fun a b=>b<=a
theorem wV(x:Int)(l:List Int):(pq x l).Perm (x::l):=by
 induction l with
 |nil=>exact List.Perm.refl _
 |cons y r ih=>
  unfold pq
  split
  ·exact(ih.cons y).trans (List.Perm.swap x y r)
  ·exact List.Perm.refl _
theorem Hr{x:Int}{l:List Int}(h:vW l):vW (pq x l):=by
 induction l with
 |nil=>simp [pq,vW]
 |cons y r ih=>
  obtain⟨h1,h2⟩:=pairwise_cons.1 h;unfold pq
  split<;>rename_i hc
  ·refine pairwise_cons.2 ⟨fun z hz=>?_,ih h2⟩;rcases mem_cons.1 ((wV x r).mem_iff.1 hz)with rfl|hz
   ·exact hc
   ·exact h1 z hz
  ·refine pairwise_cons.2 ⟨fun z hz=>?_,h⟩;rcases mem_cons.1 hz with rfl|hz
   ·omega
   ·have:=h1 z hz;omega
theorem O8(l:List Int):∀a:List Int,vW a->vW (l.foldl (fun a x=>pq x a) a)/\(l.foldl (fun a x=>pq x a) a).Perm (a++l):=by
 induction l with
 |nil=>intro a h;exact⟨h,by simp⟩
 |cons x r ih=>
  intro a h;obtain⟨h1,h2⟩:=ih _ (Hr (x:=x) h);refine⟨h1,h2.trans ?_⟩;exact((wV x a).append_right r).trans perm_middle.symm
theorem tL(l:List Int):vW (kJ l):=(O8 l [] List.Pairwise.nil).1
theorem kW(l:List Int):(kJ l).Perm l:=(O8 l [] List.Pairwise.nil).2
theorem Ir{a b:List Int}(ha:vW a)(hb:vW b)(h:a.Perm b):a=b:=
 List.Perm.eq_of_pairwise (le:=fun x y:Int=>y<=x) (fun x y _ _ h1 h2=>by omega) ha hb h
theorem EL(a b:List Int):(a++b).sum=a.sum+b.sum:=by
 induction a with
 |nil=>simp
 |cons x r ih=>simp only [cons_append,sum_cons,ih];omega
theorem Mx(a:List Int):a.reverse.sum=a.sum:=by
 induction a with
 |nil=>rfl
 |cons x r ih=>simp only [reverse_cons,EL,ih,sum_cons,sum_nil];omega
theorem II{ss l:List Int}(hp:ss.Perm l)(hs:ss.Pairwise (·<=·))(n:Nat):(ss.drop (ss.length-n)).sum=((kJ l).take n).sum:=by
 have e:ss.reverse=kJ l:=Ir (pairwise_reverse.2 hs) (tL l) ((reverse_perm ss).trans (hp.trans (kW l).symm));rw [<-e,take_reverse,Mx]
theorem Kg{n d:Int}(h1:0<=n)(h2:1<=d)(he:mkE n d=0):mkN n d*d=n*mkD n d:=by
 have hg:0<Nat.gcd n.natAbs d.natAbs:=Nat.gcd_pos_of_pos_right _ ze;unfold mkE at he;unfold mkN mkD;rw [if_neg ze]at he ⊢;rw [if_neg ze];unfold kK at he;unfold ku mf
 split at he<;>rename_i hc
 ·simp at he
 rw [if_neg hc,if_neg hc,decide_eq_false ze,decide_eq_false ze];simp only [bne_self_eq_false,Bool.false_eq_true,if_false];obtain⟨a,rfl⟩:=Int.eq_ofNat_of_zero_le h1;obtain⟨b,rfl⟩:=Int.eq_ofNat_of_zero_le (show 0<=d by omega);simp only [Int.natAbs_natCast]at hg ⊢;rw [<-Int.natCast_mul,<-Int.natCast_mul]
 congr 1
 obtain⟨p,hp⟩:=Nat.gcd_dvd_left a b;obtain⟨q,hq⟩:=Nat.gcd_dvd_right a b;generalize Nat.gcd a b=g at *;subst hp hq;rw [Nat.mul_div_cancel_left _ hg,Nat.mul_div_cancel_left _ hg,Nat.mul_left_comm,Nat.mul_comm g p,Nat.mul_assoc,Nat.mul_comm p];rw [Nat.mul_comm q p,Nat.mul_left_comm]
theorem A8{n d:Int}(h:d≠0)(he:mkE n d=0):az (mkN n d) (mkD n d)=true:=by
 rcases O0 h (n:=n)with ⟨_,h2⟩|⟨_,_,h3⟩
 ·exact h2
 ·simp only [he]at h3;omega
theorem wU{x:Int}:∀(l:List Int) (at_:Nat),vW l->at_<=l.length->(at_=0\/x<=l.getD (at_-1) 0)->(∀j,at_<=j->j<l.length->l.getD j 0<x)->pq x l=l.take at_++x::l.drop at_
 | [],at_,_,h,_,_=>by simp [pq]
 |y::r,0,_,_,_,h=>by
  have:=h 0 ze zg;unfold pq;simp at this;rw [if_neg ze];simp
 |y::r,a+1,hd,hl,h1,h2=>by
  obtain⟨g1,g2⟩:=pairwise_cons.1 hd
  have hle:x<=y:=by
   rcases h1 with h1|h1
   ·omega
   ·rcases Nat.eq_zero_or_pos a with rfl|ha
    ·simpa using h1
    ·have hm:(y::r).getD a 0∈r:=by
      obtain⟨b,rfl⟩:∃b,a=b+1:=⟨a-1,by omega⟩;rw [length_cons]at hl;rw [getD_cons_succ,getD_eq_getElem?_getD,getElem?_eq_getElem (show b<r.length by omega)];exact getElem_mem _
     have:=g1 _ hm;simp only [Nat.add_sub_cancel]at h1;omega
  unfold pq;rw [if_pos hle,take_succ_cons,drop_succ_cons,cons_append]
  congr 1
  refine wU r a g2 (by simpa using hl) ?_ (fun j hj hjl=>?_)
  ·rcases Nat.eq_zero_or_pos a with rfl|ha
   ·exact .inl rfl
   ·right;rcases h1 with h1|h1
    ·omega
    ·obtain⟨b,rfl⟩:∃b,a=b+1:=⟨a-1,by omega⟩;simpa using h1
  ·have:=h2 (j+1) ze (by simpa using hjl);simpa using this
abbrev iQ(l:List Int)(k:Nat):List Int:=kJ (l.take k)
theorem Dg(l:List Int)(k:Nat)(hk:k<l.length):iQ l (k+1)=pq (l.getD k 0) (iQ l k):=by
 unfold iQ kJ;rw [take_succ_eq_append_getElem hk,foldl_append,getD_eq_getElem?_getD,getElem?_eq_getElem hk];rfl
theorem wF(l:List Int)(k:Nat)(hk:k<=l.length):(iQ l k).length=k:=by
 have:=(kW (l.take k)).length_eq;rw [this,length_take];omega
theorem Dh(l:List Int)(k:Nat):vW (iQ l k):=tL _
theorem ni(l:List Int):iQ l l.length=kJ l:=by unfold iQ;rw [take_length]
theorem Aw(l:List Int)(k at_:Nat)(hk:k<l.length)(ha:at_<=k)(h1:at_=0\/l.getD k 0<=(iQ l k).getD (at_-1) 0)(h2:∀j,at_<=j->j<k->(iQ l k).getD j 0<l.getD k 0) :
 iQ l (k+1)=(iQ l k).take at_++l.getD k 0::(iQ l k).drop at_:=by
 have hn:=wF l k ze;rw [Dg l k hk];exact wU _ _ (Dh l k) ze h1 (fun j hj hjl=>h2 j hj ze)
abbrev kV(l:List Int)(j:Nat):Int:=(l.take j).sum
theorem wC(l:List Int)(j:Nat)(hj:j<l.length):kV l (j+1)=kV l j+l.getD j 0:=by
 unfold kV;rw [take_succ_eq_append_getElem hj,EL,getD_eq_getElem?_getD,getElem?_eq_getElem hj];simp
theorem kG{l:List Int}(h:bI l=true):l.length<=200/\∀x∈l,0<=x/\x<=1000000000000:=by
 unfold bI at h;simp only [Bool.and_eq_true,decide_eq_true_eq,all_eq_true]at h;exact h
theorem JI{l:List Int}(h:∀x∈l,0<=x/\x<=1000000000000):0<=l.sum/\l.sum<=1000000000000*l.length:=by
 induction l with
 |nil=>simp
 |cons x r ih=>
  have h1:=h x zg;have h2:=ih (fun y hy=>h y (by simp [hy]));rw [sum_cons,length_cons]
  push_cast
  omega
theorem EM{l s:List Int}(h:bI l=true)(hp:s.Perm l)(j:Nat):0<=kV s j/\kV s j<=200000000000000:=by
 have hm:=kG h;have:=JI (l:=s.take j) (fun x hx=>hm.2 x (hp.mem_iff.1 (mem_of_mem_take hx)))
 have hl:(s.take j).length<=200:=by
  have:=hp.length_eq;rw [length_take];omega
 unfold kV;omega
theorem Fx{l s:List Int}(h:bI l=true)(hp:s.Perm l)(j:Nat):0<=s.getD j 0/\s.getD j 0<=1000000000000:=by
 rw [getD_eq_getElem?_getD]
 cases hx:s[j]? with
 |none=>simp
 |some y=>exact(kG h).2 y (hp.mem_iff.1 (List.mem_of_getElem? hx))
theorem wM{n d:Int}(h1:0<=n)(h2:n<=1000000000000000)(h3:1<=d)(h4:d<=1000000000):mkE n d=0:=by
 unfold mkE kK;rw [if_neg ze,if_neg];have a:=Nat.div_le_self n.natAbs (Nat.gcd n.natAbs d.natAbs);have b:=Nat.div_le_self d.natAbs (Nat.gcd n.natAbs d.natAbs);omega
structure VwR where
 age:Int
 year:Int
 children:Int
 base:Int
 den:Int
 days:List Int
 years:List Int
def VwR.d(R:VwR)(i:Nat):Int:=if i<R.days.length then pick (R.days.getD i 0) 20000 else 0
def lX(R:VwR):Vw:=⟨pick R.age 110,1900+pick R.year 200,pick R.children 8,R.d 0,R.d 1,R.d 2,R.d 3,R.d 4,R.d 5,R.d 6,mkN (pick R.base 1000000) (pick R.den 12+1),mkD (pick R.base 1000000) (pick R.den 12+1),(R.years.take 20).map fun z=>pick z 5000000⟩
theorem VwR.d_bd(R:VwR)(i:Nat):0<=R.d i/\R.d i<20000:=by
 unfold VwR.d
 split
 ·exact dO _ 20000 ze
 ·omega
theorem Ha{a b d n:Int}(h0:0<=a)(hb:0<=b)(hd:1<=d)(h:a*d=n*b)(hn:n<=1000000000000):a<=1000000000000*b:=by
 have h1:a*1<=a*d:=Int.mul_le_mul_of_nonneg_left hd h0;have h2:n*b<=1000000000000*b:=Int.mul_le_mul_of_nonneg_right hn hb;omega
theorem uo{n d:Int}(h1:0<=n)(h2:1<=d):0<=mkN n d:=by
 unfold mkN ku;rw [if_neg ze,decide_eq_false ze,decide_eq_false ze]
 split
 ·omega
 ·simp only [bne_self_eq_false,Bool.false_eq_true,if_false];exact Int.natCast_nonneg _
theorem Jn(R:VwR):(lX R).ok=true:=by
 have a:=dO R.age 110 ze;have b:=dO R.year 200 ze;have c:=dO R.children 8 ze;have n:=dO R.base 1000000 ze;have d:=dO R.den 12 ze;have e:=wM n.1 ze (show 1<=pick R.den 12+1 by omega) ze;have v:=A8 (show pick R.den 12+1≠0 by omega) e;have m:=Kg n.1 (show 1<=pick R.den 12+1 by omega) e;have nn:=uo n.1 (show 1<=pick R.den 12+1 by omega);have vb:=aF v;have le:=Ha nn ze (show 1<=pick R.den 12+1 by omega) m ze
 have dd:∀i,eD (R.d i)=true:=fun i=>by
  have:=R.d_bd i;unfold eD;exact decide_eq_true ze
 have yy:bI ((R.years.take 20).map fun z=>pick z 5000000)=true:=by
  unfold bI;rw [decide_eq_true (by rw [length_map,length_take];omega),Bool.true_and,all_eq_true];intro x hx;obtain⟨z,-,rfl⟩:=mem_map.1 hx;have:=dO z 5000000 ze;exact decide_eq_true ze
 unfold Vw.ok lX;dsimp only;rw [decide_eq_true ⟨by omega,by omega,by omega,by omega,by omega,by omega⟩,dd,dd,dd,dd,dd,dd,dd,v,decide_eq_true ⟨nn,le⟩,yy];rfl
theorem FU(R:VwR):(lX R).years.length<=20:=by
 show((R.years.take 20).map fun z=>pick z 5000000).length<=20;rw [length_map,length_take];omega
open Go.ChangeShapes Go.WideShapes Go.ChangeAt Go.RowKit
abbrev gG:List (String × DataW Unit):=[("math/bits.deBruijn32tab",Rows.laid_math_bits_deBruijn32tab),("math/bits.deBruijn64tab",Rows.laid_math_bits_deBruijn64tab),("internal/strconv.uint64pow10",Rows.laid_internal_strconv_uint64pow10)]
theorem Dl:(Rows.laid_internal_strconv_uint64pow10:DataW Unit)=Lib.tabData .u64 Lib.pow10Tab:=by kernel_rfl
theorem Bf{W:World}(h:laidMetH prog gG W):laidMet prog gG W:=by
 rwa [MakeChecks.laidMetH_plain _ _ _ zf]at h
theorem nV{H:Type}{enc:TypeId × Value->H}{P:Program}{W W':World}(hl:laidOutB P=true)(hb:Below W.heap.size W W'):∀(ts:List TypeId) (vs:List Value) (ds:List (DataW H)) (ps:List MemPlace),(∀t∈ts,P.readableRec t=true/\t<P.types.size)->
 DataW.TrodAll enc P W 0 (fun _=>true) true ts vs ds ps->(∀x∈ps,x.block<W.heap.size)->DataW.TrodAll enc P W' 0 (fun b=>decide (b<W.heap.size)) true ts vs ds ps
 | [],[],[],_,_,h,_=>h
 |t::ts,v::vs,d::ds,ps,hr,h,hlt=>by
  obtain⟨p,q,h1,h2,rfl⟩:=h
  exact⟨p,q,Below.trod hl (hr t mem_cons_self).1 (hr t mem_cons_self).2 h1 hb fun x hx=>hlt x (mem_append_left _ hx),
   nV hl hb ts vs ds q (fun t ht=>hr t (mem_cons_of_mem _ ht)) h2 fun x hx=>hlt x (mem_append_right _ hx),rfl⟩
 | [],_::_,_,_,_,h,_=>h.elim
 | [],[],_::_,_,_,h,_=>h.elim
 |_::_,[],_,_,_,h,_=>h.elim
 |_::_,_::_,[],_,_,h,_=>h.elim
def Aj{H:Type}(enc:TypeId × Value->H)(P:Program)(f:FuncId)(ts:List TypeId):Prop:=
 ∀(W:World) (base:Nat) (args:Array Value) (ds:List (DataW H)) (p:List MemPlace),laidMetH P gG W->(∀(j:Nat) t v,ts[j]? =some t->args[j]? =some v->Value.okWide P W .any base t v)->
  DataW.TrodAll enc P W 0 (fun _=>true) true ts args.toList ds p->(∀(j:Nat) t d,ts[j]? =some t->ds[j]? =some d->fits P t d)->
  Calls P f args W fun e W'=>e= .returned (.bool true)/\Below W.heap.size W W'
theorem Kj{H:Type}{enc:TypeId × Value->H}{P:Program}{fn:Func}{s:ChangeSpec}{W W':World}{args:Array Value}{ds gs:List (DataW H)}{before:List MemPlace}(hl:laidOutB P=true)
 (hr:fn.params.toList.all (fun t=>P.readableRec t&&decide (t<P.types.size))=true) (hres:fn.resultTypes=#[4]) (hu:P.underlying 4=some .bool) (hvars:s.vars= [])
 (hspec:∀ds:List (DataW H),ds.length=fn.params.size->s.fn H (ds++[])= {results:=[.lit (.bool true)],args:=ds})
 (hW:DataW.Whole enc P fn.params.toList s.vars false W args.toList ds gs before) (hb:Below W.heap.size W W'):s.post enc P fn false true false false W args (.bool true) W':=by
 have hW':=hW;obtain⟨p,q,hA,hV,rfl,hfz,hnd⟩:=hW;rw [hvars]at hV;obtain⟨rfl,rfl⟩:=trodVars_none hV
 have hlen:∀(ts:List TypeId) (vs:List Value) (ds:List (DataW H)) (ps:List MemPlace),DataW.TrodAll enc P W 0 (fun _=>true) true ts vs ds ps->ds.length=ts.length:=by
  intro ts
  induction ts with
  |nil=>intro vs ds ps h;cases vs<;>cases ds<;>simp_all [DataW.TrodAll]
  |cons t ts ih=>
   intro vs ds ps h
   cases vs with
   |nil=>exact h.elim
   |cons v vs=>
    cases ds with
    |nil=>exact h.elim
    |cons d ds=>
     obtain⟨_,_,_,h2,_⟩:=h;simp [ih _ _ _ h2]
 have hds:ds.length=fn.params.size:=by rw [hlen _ _ _ _ hA];simp
 have hs:=hspec ds hds;have hlt:∀x∈p,x.block<W.heap.size:=fun x hx=>by have:=hW'.lt x (by simpa using hx);simpa using this
 refine⟨ds,[],p++[],[],p,[],hW', ?_, ?_, ?_,hb.frame _,fun h=>by cases h⟩
 ·rw [hs,hres];exact trodAll_mk1 (shut_bool hu _)
 ·rw [hs];refine nV hl hb _ _ _ _ (fun t ht=>?_) hA hlt;have:=all_eq_true.1 hr t ht;simpa using this
 ·rw [hs,hvars];rfl
theorem Be{H:Type}{enc:TypeId × Value->H}{C:Checked}{os:Os}{f:FuncId}{fn:Func}{s:ChangeSpec}{conds:List PathCond}(own:ownKnob C.prog.godebug=none)(started:os.Started)(noInit:C.prog.inits.idxOf? f=none)(hfn:C.prog.funcs[f]? =some fn)
 (witness:∃(w:World) (tape:Tape) (i:Input),w.os=os/\(w.forCall tape i).Shaped C.prog/\i.vars= []/\Input.okWide C.prog (w.forCall tape i) .any w.heap.size f i/\
  ((s.pre enc C.prog fn conds false (w.forCall tape i).memory i.args/\laidMetH C.prog gG (w.forCall tape i).memory)/\sizedMet enc C.prog fn (OpenSpec.ofChange s) false (w.forCall tape i).memory i.args)/\({}:Assume).holds C.prog (lone (Frame.enter C.prog f i.args .normal) [] (w.forCall tape i)))
 (hl:laidOutB C.prog=true) (hr:fn.params.toList.all (fun t=>C.prog.readableRec t&&decide (t<C.prog.types.size))=true) (hres:fn.resultTypes=#[4]) (hu:C.prog.underlying 4=some .bool) (hvars:s.vars= [])
 (hspec:∀ds:List (DataW H),ds.length=fn.params.size->s.fn H (ds++[])= {results:=[.lit (.bool true)],args:=ds}) (walk:Aj enc C.prog f fn.params.toList) :
 ReturnsInHanded {} C os f .any (fun w args=>(s.pre enc C.prog fn conds false w args/\laidMetH C.prog gG w)/\sizedMet enc C.prog fn (OpenSpec.ofChange s) false w args) (s.post enc C.prog fn false true false false):=by
 refine returnsInHanded_of_change_and (C:=C) (X:=fun w _=>laidMetH C.prog gG w) (fun _ _ _ hh h=>h.of_heap hh) own started noInit hfn witness ?_;intro W base args ds gs before hval hW _ hsz hL _;have hW':=hW;obtain⟨p,q,hA,hV,rfl,hfz,hnd⟩:=hW;have e:s.vars= []:=hvars;rw [e]at hV;obtain⟨rfl,rfl⟩:=trodVars_none hV;refine(walk W base args ds p hL (fun j t v ht ha=>hval j t v (by simpa using ht) ha) hA (fun j t d ht hd n hn=>?_)).mono fun e W' ⟨he,hb⟩=>⟨_,he,Kj hl hr hres hu hvars hspec hW' hb⟩;have:=all_eq_true.1 hsz n (DataW.weights_mem_each (j:=j) (by rw [getElem?_append_left (List.getElem?_eq_some_iff.1 ht).1];exact ht) (by rw [append_nil];exact hd) n hn);exact of_decide_eq_true this
theorem own:ownKnob prog.godebug=none:=by kernel_rfl
theorem laidOut:laidOutB prog=true:=by kernel_rfl
theorem Bg(os:Os)(args:Array Value):laidMetH prog gG ((World.laidAll prog os gG).forCall (fun _ _=>0) ⟨#[],args,[]⟩).memory:=by
 rw [MakeChecks.laidMetH_plain _ _ _ zf];exact laidMet_laidAll args zf zf
theorem rz{W:World}(h:laidMetH prog gG W):Tab W:=by
 have h2:=(Bf h).tail.tail;rw [Dl]at h2;exact Lib.tabIs_of_head (P:=prog) (g:=2) (t:=261) (n:=20) (e:=155) zf zf zf zf zf zf h2
end Go.Proofs.YtlheailebbngiaaGreatDoor
