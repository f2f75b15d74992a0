import Derived.Test.YtlheailebbngiaaGreatDoorGTypV
import Derived.Test.YtlheailebbngiaaGreatDoorGUseP
set_option linter.all false
set_option maxHeartbeats 16000000
set_option maxRecDepth 1000000
namespace Go.Proofs.YtlheailebbngiaaGreatDoor
open Go.Proofs.Tryz List
mutual
theorem uw{a b:List (ByteArray × Int)}:∀e:Ex,(∀s,bS s e=true->eF b s=eF a s)->aD b e=aD a e
 | .mk op n d m s l,h=>by
   rw [aD,aD,qY l (fun x hx=>h x (by rw [bS,hx,Bool.or_true]))];by_cases h2:op=2
   ·subst h2;rw [h s (by simp [bS])]
   ·exact xL h2
theorem qY{a b:List (ByteArray × Int)}:∀l:List Ex,(∀s,dR s l=true->eF b s=eF a s)->aW b l=aW a l
 | [],_=>by rw [aW,aW]
 |e::r,h=>by rw [aW,aW,uw e (fun x hx=>h x (by rw [dR,hx,Bool.true_or])),qY r (fun x hx=>h x (by rw [dR,hx,Bool.or_true]))]
end
theorem Bt{op n d m:Int}{s:ByteArray}{l:List Ex}(h:aL (.mk op n d m s l)=true)(ho:op=1\/op=2\/op=3):l= []:=by
 rw [eT,Bool.and_eq_true]at h;have h1:(l.length:Int)=aX op:=of_decide_eq_true h.1;have h0:aX op=0:=by unfold aX;rw [if_pos ze]
 exact eq_nil_of_length_eq_zero ze
theorem DD{op n d m:Int}{s:ByteArray}{l:List Ex}(h:aL (.mk op n d m s l)=true)(h1:op≠1)(h2:op≠2)(h3:op≠3):aV l=true:=by
 rw [eT,Bool.and_eq_true]at h;have:=h.2;rw [if_neg (by exact h1),if_neg (by exact h2),if_neg (by exact h3),Bool.and_eq_true]at this;exact this.1
mutual
theorem qZ{a:List (ByteArray × Int)}{s:ByteArray}:∀e:Ex,aL e=true->(aD a e).2=0->bS s e=true->(eF a s).2=0
 | .mk op n d m nm l,hf,hi,hm=>by
   by_cases ho:op=1\/op=2\/op=3
   ·have hl:=Bt hf ho;subst hl;rw [bS,dR,Bool.or_false,Bool.and_eq_true]at hm;have h2:op=2:=of_decide_eq_true hm.1;have hs:nm=s:=of_decide_eq_true hm.2;subst h2 hs;rw [aD]at hi;exact hi
   ·have h1:op≠1:=fun h=>ho (.inl h);have h2:op≠2:=fun h=>ho (.inr (.inl h));have h3:op≠3:=fun h=>ho (.inr (.inr h));rw [bS,decide_eq_false h2,Bool.false_and,Bool.false_or]at hm;refine o7 l (DD hf h1 h2 h3) ?_ hm;rw [aD]at hi;unfold fA at hi;rw [if_neg h1,if_neg h3,if_neg h2]at hi;by_cases hr:(aW a l).2=0
    ·exact hr
    ·rw [if_pos hr]at hi;exact hi
theorem o7{a:List (ByteArray × Int)}{s:ByteArray}:∀l:List Ex,aV l=true->(aW a l).2=0->dR s l=true->(eF a s).2=0
 | [],_,_,hm=>by rw [dR]at hm;cases hm
 |e::r,hf,hi,hm=>by
  rw [aV,Bool.and_eq_true]at hf;rw [aW]at hi
  have h1:(aD a e).2=0:=by
   by_cases h:(aD a e).2=0
   ·exact h
   ·rw [if_pos h]at hi;exact hi
  have h2:(aW a r).2=0:=by
   rw [if_neg (by simpa using h1)]at hi;by_cases h:(aW a r).2=0
   ·exact h
   ·rw [if_pos h]at hi;exact hi
  rw [dR,Bool.or_eq_true]at hm;rcases hm with hm|hm
  ·exact qZ e hf.1 h1 hm
  ·exact o7 r hf.2 h2 hm
end
theorem kY{α:Type}(l:List (ByteArray × α))(p:ByteArray × α)(s:ByteArray):dO (l++[p]) s=if p.1=s then some p.2 else dO l s:=by
 unfold dO;rw [reverse_append,reverse_singleton,singleton_append,find?_cons];by_cases h:p.1=s
 ·rw [if_pos h,decide_eq_true h];rfl
 ·rw [if_neg h,decide_eq_false h]
structure iy(ls:List (ByteArray × Ex))(k:Nat)(env:List (ByteArray × Int)):Prop where
 len:env.length=k
 nm:∀i,i<k->(env.getD i default).1=(ls.getD i default).1
 ty:∀i,i<k->aT (env.take i) (ls.getD i default).2=((env.getD i default).2,0)
 word:∀i,i<k->bT (ls.getD i default).1.toList=0/\eY (ls.getD i default).1=true
 inj:∀i j,i<j->j<k->(ls.getD i default).1≠(ls.getD j default).1
theorem iy.zero(ls:List (ByteArray × Ex)):iy ls 0 []:=⟨rfl,fun i h=>by omega,fun i h=>by omega,fun i h=>by omega,fun i j _ h=>by omega⟩
theorem qz{α:Type}[Inhabited α]{l:List α}{x:α}{i:Nat}:(l++[x]).getD i default=if i<l.length then l.getD i default else if i=l.length then x else default:=by
 simp only [getD_eq_getElem?_getD];by_cases h:i<l.length
 ·rw [if_pos h,getElem?_append_left h]
 ·rw [if_neg h,getElem?_append_right ze];by_cases h2:i=l.length
  ·subst h2;simp
  ·rw [if_neg h2,getElem?_eq_none zp];rfl
theorem iy.next{ls:List (ByteArray × Ex)}{k:Nat}{env:List (ByteArray × Int)}(h:iy ls k env)(ha:kw ls k env)(hk:k<ls.length)(hb:fU env (ls.getD k default)=0) :
 iy ls (k+1) (env++[((ls.getD k default).1,(aT env (ls.getD k default).2).1)]):=by
 have hl:=h.len;unfold fU at hb
 split at hb
 ·cases hb
 rename_i h1
 split at hb
 ·cases hb
 rename_i h2
 have hdup:=ha.dup ze (ls.getD k default).1
 have hd:∀j,j<k->(ls.getD j default).1≠(ls.getD k default).1:=fun j hj he=>by
  rw [hdup]at h2;exact h2 (any_eq_true.2 ⟨j,mem_range.2 hj,decide_eq_true he⟩)
 refine⟨by rw [length_append,hl];rfl,fun i hi=>?_,fun i hi=>?_,fun i hi=>?_,fun i j hij hj=>?_⟩
 ·rw [qz];by_cases hik:i<k
  ·rw [if_pos ze];exact h.nm i hik
  ·rw [if_neg ze,if_pos ze];show(ls.getD k default).1=_;rw [show i=k by omega]
 ·by_cases hik:i<k
  ·rw [take_append_of_le_length ze,qz,if_pos ze];exact h.ty i hik
  ·obtain rfl:i=k:=by omega
   rw [take_append_of_le_length ze,take_of_length_le ze,qz,if_neg ze,if_pos hl.symm];exact Prod.ext rfl hb
 ·by_cases hik:i<k
  ·exact h.word i hik
  ·obtain rfl:i=k:=by omega
   exact⟨Decidable.byContradiction fun c=>h1 (.inl c),by
    cases hn:eY (ls.getD i default).1
    ·exact absurd (.inr hn) h1
    ·rfl⟩
 ·by_cases hjk:j<k
  ·exact h.inj i j hij hjk
  ·obtain rfl:j=k:=by omega
   exact hd i hij
theorem iy.of_lets{ls:List (ByteArray × Ex)}{env:List (ByteArray × Int)}(h:gZ ls []=(env,0)):iy ls ls.length env:=by
 have key:∀k,k<=ls.length->∃e,kw ls k e/\iy ls k e:=by
  intro k
  induction k with
  |zero=>intro _;exact⟨[],kw.zero ls,iy.zero ls⟩
  |succ k ih=>
   intro hk;obtain⟨e,h1,h2⟩:=ih ze
   have hz:fU e (ls.getD k default)=0:=Decidable.byContradiction fun c=>by
    have hb:=h1.bad ze c;rw [h]at hb;exact c (Prod.mk.inj hb).2.symm
   exact⟨_,h1.next ze hz,h2.next h1 ze hz⟩
 obtain⟨e,h1,h2⟩:=key ls.length (Nat.le_refl _);have hd:=h1.done;rw [h]at hd;rw [(Prod.mk.inj hd).1];exact h2
theorem iy.last{ls:List (ByteArray × Ex)}{k:Nat}{env:List (ByteArray × Int)}(h:iy ls k env){j:Nat}:∀i,j<i->i<=k->dO (env.take i) (ls.getD j default).1=some (env.getD j default).2
 |0,hj,_=>by omega
 |i+1,hj,hi=>by
  have hl:=h.len;rw [take_succ_eq_append_getElem ze,kY];have hg:env[i]' ze=env.getD i default:=by rw [getD_eq_getElem?_getD,getElem?_eq_getElem ze];rfl
  rw [hg,h.nm i ze];by_cases hji:j=i
  ·subst hji;rw [if_pos rfl]
  ·rw [if_neg (fun e=>h.inj j i ze ze e.symm)];exact h.last i ze ze
theorem iy.none{ls:List (ByteArray × Ex)}{k:Nat}{env:List (ByteArray × Int)}(h:iy ls k env){s:ByteArray}:∀i,i<=k->(∀j,j<i->(ls.getD j default).1≠s)->dO (env.take i) s=none
 |0,_,_=>by simp [dO]
 |i+1,hi,hs=>by
  have hl:=h.len;rw [take_succ_eq_append_getElem ze,kY];have hg:env[i]' ze=env.getD i default:=by rw [getD_eq_getElem?_getD,getElem?_eq_getElem ze];rfl
  rw [hg,h.nm i ze,if_neg (hs i ze)];exact h.none i ze fun j hj=>hs j ze
theorem iy.named{ls:List (ByteArray × Ex)}{k:Nat}{env:List (ByteArray × Int)}(h:iy ls k env){s:ByteArray}{i:Nat}(hi:i<=k)(ht:(eF (env.take i) s).2=0):bT s.toList≠0\/∃j,j<i/\(ls.getD j default).1=s:=by
 by_cases hs:bT s.toList=0
 ·refine .inr (Decidable.byContradiction fun c=>?_);have:=h.none (s:=s) i hi fun j hj e=>c ⟨j,hj,e⟩;unfold eF at ht;rw [if_neg (by simpa using hs),this]at ht;cases ht
 ·exact .inl hs
structure lu(ls:List (ByteArray × Ex))(env:List (ByteArray × Int))(D:List Nat)(st:List (ByteArray × Val)):Prop where
 ok:∀p∈st,p.2.ok=true
 dom:∀j∈D,j<ls.length
 look:∀j∈D,dO (aQ st) (ls.getD j default).1=some (env.getD j default).2
 sub:∀j,j<ls.length->(st.any fun p=>decide (p.1=(ls.getD j default).1))=D.contains j
theorem lu.zero(ls:List (ByteArray × Ex))(env:List (ByteArray × Int)):lu ls env [] []:=⟨fun _ h=>(by cases h),fun _ h=>(by cases h),fun _ h=>(by cases h),fun _ _=>rfl⟩
theorem wU(st:List (ByteArray × Val))(p:ByteArray × Val):aQ (st++[p])=aQ st++[(p.1,p.2.dim)]:=by simp [aQ]
theorem lu.push{ls:List (ByteArray × Ex)}{env:List (ByteArray × Int)}{D:List Nat}{st:List (ByteArray × Val)}(h:lu ls env D st)(hl:iy ls ls.length env){i:Nat}(hi:i<ls.length)(hD:D.contains i=false){x:Val}(hx:x.ok=true)(hd:x.dim=(env.getD i default).2) :
 lu ls env (D++[i]) (st++[((ls.getD i default).1,x)]):=by
 have ne:∀j,j<ls.length->j≠i->(ls.getD i default).1≠(ls.getD j default).1:=fun j hj hji=>by
  rcases Nat.lt_or_gt_of_ne hji with h1|h1
  ·exact fun e=>hl.inj j i h1 hi e.symm
  ·exact hl.inj i j h1 hj
 refine⟨fun p hp=>?_,fun j hj=>?_,fun j hj=>?_,fun j hj=>?_⟩
 ·rcases mem_append.1 hp with hp|hp
  ·exact h.ok p hp
  ·obtain rfl:p=_:=by simpa using hp
   exact hx
 ·rcases mem_append.1 hj with hj|hj
  ·exact h.dom j hj
  ·obtain rfl:j=i:=by simpa using hj
   exact hi
 ·rw [wU,kY];rcases mem_append.1 hj with hj|hj
  ·have hji:j≠i:=fun e=>by
    have hc:D.contains j=true:=contains_iff_mem.2 hj;rw [e,hD]at hc;cases hc
   rw [if_neg (ne j (h.dom j hj) hji)];exact h.look j hj
  ·obtain rfl:j=i:=by simpa using hj
   rw [if_pos rfl,hd]
 ·rw [any_append,h.sub j hj];by_cases hji:j=i
  ·subst hji;simp
  ·have:decide ((ls.getD i default).1=(ls.getD j default).1)=false:=decide_eq_false (ne j hj hji);rw [any_cons,any_nil,this,Bool.or_false,Bool.or_false,Bool.eq_iff_iff,contains_iff_mem,contains_iff_mem,mem_append];simp [hji]
theorem lu.other{ls:List (ByteArray × Ex)}{env:List (ByteArray × Int)}{D:List Nat}{st:List (ByteArray × Val)}(h:lu ls env D st)(hl:iy ls ls.length env){s:ByteArray}(hs:eY s=false){x:Val}(hx:x.ok=true):lu ls env D (st++[(s,x)]):=by
 have ne:∀j,j<ls.length->s≠(ls.getD j default).1:=fun j hj e=>by
  have:=(hl.word j hj).2;rw [<-e,hs]at this;cases this
 refine⟨fun p hp=>?_,h.dom,fun j hj=>?_,fun j hj=>?_⟩
 ·rcases mem_append.1 hp with hp|hp
  ·exact h.ok p hp
  ·obtain rfl:p=_:=by simpa using hp
   exact hx
 ·rw [wU,kY,if_neg (ne j (h.dom j hj))];exact h.look j hj
 ·rw [any_append,h.sub j hj];have:decide (s=(ls.getD j default).1)=false:=decide_eq_false (ne j hj);rw [any_cons,any_nil,this,Bool.or_false,Bool.or_false]
theorem lu.typed{ls:List (ByteArray × Ex)}{env:List (ByteArray × Int)}{D:List Nat}{st:List (ByteArray × Val)}(h:lu ls env D st)(hl:iy ls ls.length env){i:Nat}(hi:i<=ls.length){e:Ex}(hf:aL e=true)(ht:(aD (env.take i) e).2=0)
 (hD:∀j,j<i->bS (ls.getD j default).1 e=true->j∈D):aD (aQ st) e=aD (env.take i) e:=by
 refine uw e fun s hs=>?_;rcases hl.named hi (qZ e hf ht hs)with h0|⟨j,hj,rfl⟩
 ·unfold eF;rw [if_pos h0,if_pos h0]
 ·unfold eF;rw [if_neg (by have:=(hl.word j ze).1;simpa using this),if_neg (by have:=(hl.word j ze).1;simpa using this),h.look j (hD j hj hs),hl.last i hj hi]
open Go.RowKit
structure Ce(w:World)(b o:Nat)(c:Value)(e:Ex)(u:Value):Prop where
 nm:w.cell? ⟨b,o,none⟩=some c
 c0:w.cell? ⟨b,o+1,none⟩=some (.int .i64 e.op)
 c1:w.cell? ⟨b,o+2,none⟩=some (.int .i64 e.num)
 c2:w.cell? ⟨b,o+3,none⟩=some (.int .i64 e.den)
 c3:w.cell? ⟨b,o+4,none⟩=some (.int .i64 e.dim)
 c4:w.cell? ⟨b,o+5,none⟩=some (.string e.name)
 c5:w.cell? ⟨b,o+6,none⟩=some u
 rep:aC (fun _=>True) w e u
theorem Ce.same{w w':World}{b o:Nat}{c:Value}{e:Ex}{u:Value}(h:Ce w b o c e u)(hg:w.Grows w')(hb:b<w.heap.size):Ce w' b o c e u:=by
 have k:∀o,w'.cell? ⟨b,o,none⟩=w.cell? ⟨b,o,none⟩:=fun o=>World.cell?_of_block (hg.below.block b hb);exact⟨by rw [k];exact h.nm,by rw [k];exact h.c0,by rw [k];exact h.c1,by rw [k];exact h.c2,by rw [k];exact h.c3,by rw [k];exact h.c4,by rw [k];exact h.c5,h.rep.grows hg⟩
def gI(w:World)(v:Value)(ls:List (ByteArray × Ex)):Prop:=
 ls.length<=1000/\∃a cap,v= .slice a ls.length cap/\(ls.length=0\/∃b off,a=some ⟨b,off,none⟩/\b<w.heap.size/\∀i,i<ls.length->∃u,Ce w b (off+i*7) (.string (ls.getD i default).1) (ls.getD i default).2 u)
theorem gI.grows{w w':World}{v:Value}{ls:List (ByteArray × Ex)}(h:gI w v ls)(hg:w.Grows w'):gI w' v ls:=by
 exact QB
theorem xE{α β:Type}{f:α->β}{l:List α}{L:List β}(h:l.map f=L){k:Nat}(hk:k<L.length):∃x,l[k]? =some x/\L[k]? =some (f x):=by
 subst h;have hk':k<l.length:=by simpa using hk
 exact⟨l[k],getElem?_eq_getElem hk',by rw [getElem?_map,getElem?_eq_getElem hk'];rfl⟩
theorem cO.lets{B:Nat}{w:World}{V:dK}{v3 v4 v5 v6 v7:Value}(h:cO B w V v3 v4 v5 v6 v7)(hl:V.le.length<=1000):gI w v5 V.le:=by
 obtain⟨ql,qg,qr,H1,H2,H3,H4,H5,e1,e2,e3,ord,r1,r2,r3,r4,r5⟩:=h;obtain⟨a,cap,hv,hc⟩:=r3.toG.cells;have hlen:(fP ql).length=V.le.length:=by rw [<-e1];simp [fP]
 rw [hlen]at hv hc;refine⟨hl,a,cap,hv,hc.imp id ?_⟩;rintro⟨g,ha,hb,hlt,hx⟩;refine⟨g,0,ha,hlt,fun i hi=>?_⟩;obtain⟨⟨s,e,v⟩,hta,htl⟩:=xE e1 hi;have hget:(fP ql).getD i []= .string s::bL e v:=by simp [fP,getD_eq_getElem?_getD,getElem?_map,hta]
 have hle:V.le.getD i default=(s,e):=by rw [getD_eq_getElem?_getD,htl];rfl
 have h7:=fun j u hj hu=>hx i j u hi hj (by rw [hget];exact hu);rw [hle,show 0+i*7=i*7 by omega];exact⟨v,h7 0 _ ze rfl,h7 1 _ ze rfl,h7 2 _ ze rfl,h7 3 _ ze rfl,h7 4 _ ze rfl,h7 5 _ ze rfl,h7 6 _ ze rfl,(r3.rep (e,v) (mem_map.2 ⟨_,List.mem_of_getElem? hta,rfl⟩)).mono fun _ _=>trivial⟩
def jN(c:Nat)(w:World)(v:Value)(l:List Int):Prop:=
 l.length<=1000/\∃a cap,v= .slice a l.length cap/\(l.length=0\/∃b off,a=some ⟨b,off,none⟩/\b<w.heap.size/\∀i,i<l.length->w.cell? ⟨b,off+i*c,none⟩=some (.int .i64 (l.getD i 0)))
structure Ou(w:World)(b o:Nat)(t:Int × Ex × Ex)(u v:Value):Prop where
 nm:w.cell? ⟨b,o,none⟩=some (.int .i64 t.1)
 c0:w.cell? ⟨b,o+1,none⟩=some (.int .i64 t.2.1.op)
 c1:w.cell? ⟨b,o+2,none⟩=some (.int .i64 t.2.1.num)
 c2:w.cell? ⟨b,o+3,none⟩=some (.int .i64 t.2.1.den)
 c3:w.cell? ⟨b,o+4,none⟩=some (.int .i64 t.2.1.dim)
 c4:w.cell? ⟨b,o+5,none⟩=some (.string t.2.1.name)
 c5:w.cell? ⟨b,o+6,none⟩=some u
 e0:w.cell? ⟨b,o+7,none⟩=some (.int .i64 t.2.2.op)
 e1:w.cell? ⟨b,o+8,none⟩=some (.int .i64 t.2.2.num)
 e2:w.cell? ⟨b,o+9,none⟩=some (.int .i64 t.2.2.den)
 e3:w.cell? ⟨b,o+10,none⟩=some (.int .i64 t.2.2.dim)
 e4:w.cell? ⟨b,o+11,none⟩=some (.string t.2.2.name)
 e5:w.cell? ⟨b,o+12,none⟩=some v
 rep:aC (fun _=>True) w t.2.1 u
 rep2:aC (fun _=>True) w t.2.2 v
instance:Inhabited (Int × Ex × Ex):=⟨(0,default,default)⟩
def iR(w:World)(v:Value)(l:List (Int × Ex × Ex)):Prop:=
 l.length<=1000/\∃a cap,v= .slice a l.length cap/\(l.length=0\/∃b off,a=some ⟨b,off,none⟩/\b<w.heap.size/\∀i,i<l.length->∃u u',Ou w b (off+i*13) (l.getD i default) u u')
def om(w:World)(v:Value)(l:List (Int × Ex)):Prop:=
 l.length<=1000/\∃a cap,v= .slice a l.length cap/\(l.length=0\/∃b off,a=some ⟨b,off,none⟩/\b<w.heap.size/\∀i,i<l.length->∃u,Ce w b (off+i*7) (.int .i64 (l.getD i default).1) (l.getD i default).2 u)
theorem Ou.same{w w':World}{b o:Nat}{t:Int × Ex × Ex}{u v:Value}(h:Ou w b o t u v)(hg:w.Grows w')(hb:b<w.heap.size):Ou w' b o t u v:=by
 have k:∀o,w'.cell? ⟨b,o,none⟩=w.cell? ⟨b,o,none⟩:=fun o=>World.cell?_of_block (hg.below.block b hb);exact⟨by rw [k];exact h.nm,by rw [k];exact h.c0,by rw [k];exact h.c1,by rw [k];exact h.c2,by rw [k];exact h.c3,by rw [k];exact h.c4,by rw [k];exact h.c5,by rw [k];exact h.e0,by rw [k];exact h.e1,by rw [k];exact h.e2,by rw [k];exact h.e3,by rw [k];exact h.e4,by rw [k];exact h.e5,h.rep.grows hg,h.rep2.grows hg⟩
theorem jN.grows{c:Nat}{w w':World}{v:Value}{l:List Int}(h:jN c w v l)(hg:w.Grows w'):jN c w' v l:=by
 obtain⟨h0,a,cap,hv,h1⟩:=h;refine⟨h0,a,cap,hv,h1.imp id ?_⟩;rintro⟨b,off,ha,hb,hc⟩;have:=hg.below.size;exact⟨b,off,ha,by omega,fun i hi=>(World.cell?_of_block (hg.below.block b hb)).trans (hc i hi)⟩
theorem iR.grows{w w':World}{v:Value}{l:List (Int × Ex × Ex)}(h:iR w v l)(hg:w.Grows w'):iR w' v l:=by
 obtain⟨h0,a,cap,hv,h1⟩:=h;refine⟨h0,a,cap,hv,h1.imp id ?_⟩;rintro⟨b,off,ha,hb,hc⟩;have:=hg.below.size;exact⟨b,off,ha,by omega,fun i hi=>by obtain⟨u,u',hu⟩:=hc i hi;exact⟨u,u',hu.same hg hb⟩⟩
theorem om.grows{w w':World}{v:Value}{l:List (Int × Ex)}(h:om w v l)(hg:w.Grows w'):om w' v l:=by
 exact QB
structure yN(w:World)(V:dK)(v3 v4 v5 v6 v7:Value):Prop where
 cr:jN 2 w v3 (V.cr.map Prod.fst)
 se:jN 3 w v4 (V.se.map Prod.fst)
 le:gI w v5 V.le
 gr:iR w v6 V.gr
 re:om w v7 V.re
theorem yN.grows{w w':World}{V:dK}{v3 v4 v5 v6 v7:Value}(h:yN w V v3 v4 v5 v6 v7)(hg:w.Grows w'):yN w' V v3 v4 v5 v6 v7:=⟨h.cr.grows hg,h.se.grows hg,h.le.grows hg,h.gr.grows hg,h.re.grows hg⟩
theorem cO.nums{T:TypeId}{c base:Nat}{w:World}{v:Value}{l:List (List Value)}{rs:List (Ex × Value)}{ns:List Int}(h:bX T c base w v l rs)(hc:0<c)(hl:l.length=ns.length)(h1000:ns.length<=1000)(h0:∀i,i<ns.length->(l.getD i [])[0]? =some (.int .i64 (ns.getD i 0))):jN c w v ns:=by
 obtain⟨a,cap,hv,hx⟩:=h.cells;rw [hl]at hv hx;refine⟨h1000,a,cap,hv,hx.imp id ?_⟩;rintro⟨g,ha,hb,hlt,hx⟩;exact⟨g,0,ha,hlt,fun i hi=>by rw [Nat.zero_add];exact hx i 0 _ hi hc (h0 i hi)⟩
theorem cO.verC{B:Nat}{w:World}{V:dK}{v3 v4 v5 v6 v7:Value}(h:cO B w V v3 v4 v5 v6 v7)(hl:V.cr.length<=1000/\V.se.length<=1000/\V.le.length<=1000/\V.gr.length<=1000/\V.re.length<=1000):yN w V v3 v4 v5 v6 v7:=by
 have hle:=h.lets hl.2.2.1;obtain⟨ql,qg,qr,H1,H2,H3,H4,H5,e1,e2,e3,ord,r1,r2,r3,r4,r5⟩:=h;refine⟨cO.nums r1.toG ze zO zp (fun i hi=>?_),cO.nums r2.toG ze zP zp (fun i hi=>?_),hle, ?_, ?_⟩
 ·rw [length_map]at hi;simp [crL,getD_eq_getElem?_getD,getElem?_map,getElem?_eq_getElem hi]
 ·rw [length_map]at hi;simp [seL,getD_eq_getElem?_getD,getElem?_map,getElem?_eq_getElem hi]
 ·obtain⟨a,cap,hv,hc⟩:=r4.toG.cells;have hlen:(grL qg).length=V.gr.length:=by rw [<-e2];simp [grL]
  rw [hlen]at hv hc;refine⟨hl.2.2.2.1,a,cap,hv,hc.imp id ?_⟩;rintro⟨g,ha,hb,hlt,hx⟩;refine⟨g,0,ha,hlt,fun i hi=>?_⟩;obtain⟨⟨n,⟨e,v⟩,⟨e',v'⟩⟩,hta,htl⟩:=xE e2 hi;have hget:(grL qg).getD i []= .int .i64 n::(bL e v++bL e' v'):=by simp [grL,getD_eq_getElem?_getD,getElem?_map,hta]
  have hle:V.gr.getD i default=(n,e,e'):=by rw [getD_eq_getElem?_getD,htl];rfl
  have h7:=fun j u hj hu=>hx i j u hi hj (by rw [hget];exact hu);have hm:=List.mem_of_getElem? hta;rw [hle,show 0+i*13=i*13 by omega]
  exact⟨v,v',h7 0 _ ze rfl,h7 1 _ ze rfl,h7 2 _ ze rfl,h7 3 _ ze rfl,h7 4 _ ze rfl,h7 5 _ ze rfl,h7 6 _ ze rfl,h7 7 _ ze rfl,h7 8 _ ze rfl,h7 9 _ ze rfl,h7 10 _ ze rfl,h7 11 _ ze rfl,h7 12 _ ze rfl,
   (r4.rep (e,v) (by unfold grR;exact mem_flatMap.2 ⟨_,hm,by simp⟩)).mono fun _ _=>trivial,(r4.rep (e',v') (by unfold grR;exact mem_flatMap.2 ⟨_,hm,by simp⟩)).mono fun _ _=>trivial⟩
 ·obtain⟨a,cap,hv,hc⟩:=r5.cells;have hlen:(reL qr).length=V.re.length:=by rw [<-e3];simp [reL]
  rw [hlen]at hv hc;refine⟨hl.2.2.2.2,a,cap,hv,hc.imp id ?_⟩;rintro⟨g,ha,hb,hlt,hx⟩;refine⟨g,0,ha,hlt,fun i hi=>?_⟩;obtain⟨⟨n,e,v⟩,hta,htl⟩:=xE e3 hi;have hget:(reL qr).getD i []= .int .i64 n::bL e v:=by simp [reL,getD_eq_getElem?_getD,getElem?_map,hta]
  have hle:V.re.getD i default=(n,e):=by rw [getD_eq_getElem?_getD,htl];rfl
  have h7:=fun j u hj hu=>hx i j u hi hj (by rw [hget];exact hu);rw [hle,show 0+i*7=i*7 by omega];exact⟨v,h7 0 _ ze rfl,h7 1 _ ze rfl,h7 2 _ ze rfl,h7 3 _ ze rfl,h7 4 _ ze rfl,h7 5 _ ze rfl,h7 6 _ ze rfl,(r5.rep (e,v) (mem_map.2 ⟨_,List.mem_of_getElem? hta,rfl⟩)).mono fun _ _=>trivial⟩
def iA(c:Nat)(w:World)(v:Value)(n:Nat):Prop:=
 ∃a cap,v= .slice a n cap/\(n=0\/∃b off,a=some ⟨b,off,none⟩/\b<w.heap.size/\∀i,i<n->∀j,j<c->∃z,w.cell? ⟨b,off+i*c+j,none⟩=some (.int .i64 z))
theorem iA.grows{c:Nat}{w w':World}{v:Value}{n:Nat}(h:iA c w v n)(hg:w.Grows w'):iA c w' v n:=by
 obtain⟨a,cap,hv,h1⟩:=h;refine⟨a,cap,hv,h1.imp id ?_⟩;rintro⟨b,off,ha,hb,hc⟩;have:=hg.below.size;exact⟨b,off,ha,by omega,fun i hi j hj=>(hc i hi j hj).imp fun z hz=>(World.cell?_of_block (hg.below.block b hb)).trans hz⟩
theorem iA.of{T:TypeId}{c base:Nat}{w:World}{v:Value}{l:List (List Value)}{rs:List (Ex × Value)}{n:Nat}(h:bX T c base w v l rs)(hl:l.length=n)(h0:∀i,i<n->∀j,j<c->∃z,(l.getD i [])[j]? =some (.int .i64 z)):iA c w v n:=by
 obtain⟨a,cap,hv,hx⟩:=h.cells;rw [hl]at hv hx;refine⟨a,cap,hv,hx.imp id ?_⟩;rintro⟨g,ha,hb,hlt,hx⟩;exact⟨g,0,ha,hlt,fun i hi j hj=>(h0 i hi j hj).imp fun z hz=>by rw [Nat.zero_add];exact hx i j _ hi hj hz⟩
theorem cO.numsX{B:Nat}{w:World}{V:dK}{v3 v4 v5 v6 v7:Value}(h:cO B w V v3 v4 v5 v6 v7):iA 2 w v3 V.cr.length/\iA 3 w v4 V.se.length:=by
 obtain⟨ql,qg,qr,H1,H2,H3,H4,H5,e1,e2,e3,ord,r1,r2,r3,r4,r5⟩:=h;refine⟨iA.of r1.toG zO fun i hi j hj=>?_,iA.of r2.toG zP fun i hi j hj=>?_⟩
 ·have hg:(crL V.cr).getD i []= [.int .i64 (V.cr[i]).1,.int .i64 (V.cr[i]).2]:=by simp [crL,getD_eq_getElem?_getD,getElem?_map,getElem?_eq_getElem hi]
  rw [hg];rcases(show j=0\/j=1 by omega)with rfl|rfl
  ·exact⟨_,rfl⟩
  ·exact⟨_,rfl⟩
 ·have hg:(seL V.se).getD i []= [.int .i64 (V.se[i]).1,.int .i64 (V.se[i]).2.1,.int .i64 (V.se[i]).2.2]:=by simp [seL,getD_eq_getElem?_getD,getElem?_map,getElem?_eq_getElem hi]
  rw [hg];rcases(show j=0\/j=1\/j=2 by omega)with rfl|rfl|rfl
  ·exact⟨_,rfl⟩
  ·exact⟨_,rfl⟩
  ·exact⟨_,rfl⟩
def kQ(v:Value):Prop:=∀a n c,v= .slice a n c->n<=c
theorem bX.capOk{T:TypeId}{c base:Nat}{w:World}{v:Value}{l:List (List Value)}{rs:List (Ex × Value)}(h:bX T c base w v l rs):kQ v:=by
 intro a n k hv;rcases h.own.2 with ⟨rfl,-⟩|⟨g,cap,cur,rfl,-,-,hle,-⟩
 ·simp only [Value.slice.injEq]at hv;omega
 ·simp only [Value.slice.injEq]at hv;omega
theorem cO.caps{B:Nat}{w:World}{V:dK}{v3 v4 v5 v6 v7:Value}(h:cO B w V v3 v4 v5 v6 v7):kQ v3/\kQ v6/\kQ v7:=by
 obtain⟨ql,qg,qr,H1,H2,H3,H4,H5,e1,e2,e3,ord,r1,r2,r3,r4,r5⟩:=h;exact⟨r1.toG.capOk,r4.toG.capOk,r5.capOk⟩
def vD(c:Nat)(g:FuncId)(lb:Array Value)(p:Nat->Bool)(w:World)(v:Value)(n:Nat):Prop:=
 n<=1000/\∃a cap,v= .slice a n cap/\(n=0\/∃b off,a=some ⟨b,off,none⟩/\b<w.heap.size/\∀k,k<n->∃L:List Value,L.length=c/\(∀(j:Nat) (x:Value),L[j]? =some x->w.cell? ⟨b,off+k*c+j,none⟩=some x)/\
  ∀w',w.Grows w'->Calls prog g (#[.agg L.toArray]++lb) w' fun r w''=>r= .returned (.bool (p k))/\w'.Grows w'')
theorem JX(g:FuncId)(lb:Array Value)(eg:∀args w,(callFunc g args).run prog w= .ok (.enter g args) w)(p:Nat->Bool)(v:Value)(n:Nat)(w:World)(h:vD 2 g lb p w v n) :
 Calls prog 196 #[v,.func (.func g) #[] lb] w fun r w'=>(∃z,r= .returned (.int .i64 z)/\Cj n p z)/\w.Grows w':=by
 obtain⟨hlen,a,cap,rfl,hc⟩:=h;have Hc:=zh hc;clear hc
 go_enter func196,ntmps196
 go_wp2_with fail
 go_loopw [5,8] (fun _ v8 wr=>∃k:Nat,k<=n/\v8= .int .i64 k/\Hid (∀j,j<k->p j=false)/\w.Grows wr) (fun _ v8 _=>n-(intOf v8).toNat)
 case atStart=>exact⟨0,by omega,rfl,zh (fun j hj=>by omega),.refl _⟩
 case round=>
  obtain⟨k,hk,rfl,hno,hgr⟩:=hrel;have HG:=zh hgr;by_cases hlt2:k<n
  ·rcases Hc.out with h0|⟨b,off,rfl,hbw,hx⟩
   ·omega
   ·obtain⟨L,hL,hcell,hcl⟩:=hx k hlt2
    obtain⟨x0,x1,rfl⟩:∃x0 x1,L= [x0,x1]:=by
     match L,hL with
     | [x0,x1],_=>exact⟨_,_,rfl⟩
    have y0:wr.cell? ⟨b,off+k*2,none⟩=some x0:=by rw [hgr.below.cell (p:=⟨b,off+k*2,none⟩) hbw];exact hcell 0 _ rfl
    have y1:wr.cell? ⟨b,off+k*2+1,none⟩=some x1:=by rw [hgr.below.cell (p:=⟨b,off+k*2+1,none⟩) hbw];exact hcell 1 _ rfl
    have hcall:=hcl _ hgr;clear hx hcell hcl hL;have d1:(k:Int)<(n:Int):=by omega
    have HLT:=zh hlt2;clear hgr
    cases hq:p k with
    |true=>
     rw [hq]at hcall;have HQ:=zh hq;clear hq;have HCL:=zh hcall;clear hcall
     go_wp2_with (go_at_fn g;refine HCL.out.mono ?_;rintro e' w' ⟨rfl,hg2⟩;have HG2:=zh hg2;clear hg2)
     go_returns
     exact⟨⟨_,rfl,.inr ⟨k,HLT.out,rfl,HQ.out⟩⟩,World.Grows.trans HG.out HG2.out⟩
    |false=>
     rw [hq]at hcall;have HQ:=zh hq;clear hq;have HCL:=zh hcall;clear hcall
     go_wp2_with (go_at_fn g;refine HCL.out.mono ?_;rintro e' w' ⟨rfl,hg2⟩;have HG2:=zh hg2;clear hg2)
     go_roundw
     case rel=>exact⟨k+1,by omega,by go_num,zh (fun j hj=>by
      by_cases ej:j=k
      ·subst ej;exact HQ.out
      ·exact hno.out j ze),World.Grows.trans HG.out HG2.out⟩
     case measure=>simp [intOf];omega
  ·obtain rfl:k=n:=by omega
   clear hgr
   go_wp2_with fail
   go_returns
   exact⟨⟨_,rfl,.inl ⟨rfl,hno.out⟩⟩,HG.out⟩
theorem J4(g:FuncId)(lb:Array Value)(eg:∀args w,(callFunc g args).run prog w= .ok (.enter g args) w)(p:Nat->Bool)(v:Value)(n:Nat)(w:World)(h:vD 2 g lb p w v n) :
 Calls prog 158 #[v,.func (.func g) #[] lb] w fun r w'=>r= .returned (.bool ((List.range n).any p))/\w.Grows w':=by
 have HI:=zh (JX g lb eg p v n w h);obtain⟨-,a,cap,rfl,-⟩:=h;generalize hX:(List.range n).any p=X;have HX:=zh hX;clear hX
 go_enter func158,ntmps158
 go_wp2_with (go_at_call 196;refine HI.out.mono ?_;rintro e' w' ⟨⟨z,rfl,hz⟩,bs2,d2,rfl⟩;have HZ:=zh hz.any;clear hz)
 go_returns
 exact⟨au zV,.of_below af⟩
theorem Bb(g:FuncId)(lb:Array Value)(eg:∀args w,(callFunc g args).run prog w= .ok (.enter g args) w)(p:Nat->Bool)(v:Value)(n:Nat)(w:World)(h:vD 13 g lb p w v n) :
 Calls prog 85 #[v,.func (.func g) #[] lb] w fun r w'=>(∃z,r= .returned (.int .i64 z)/\Cj n p z)/\w.Grows w':=by
 obtain⟨hlen,a,cap,rfl,hc⟩:=h;have Hc:=zh hc;clear hc
 go_enter func85,ntmps85
 go_wp2_with fail
 go_loopw [5,8] (fun _ v8 wr=>∃k:Nat,k<=n/\v8= .int .i64 k/\Hid (∀j,j<k->p j=false)/\w.Grows wr) (fun _ v8 _=>n-(intOf v8).toNat)
 case atStart=>exact⟨0,by omega,rfl,zh (fun j hj=>by omega),.refl _⟩
 case round=>
  obtain⟨k,hk,rfl,hno,hgr⟩:=hrel;have HG:=zh hgr;by_cases hlt2:k<n
  ·rcases Hc.out with h0|⟨b,off,rfl,hbw,hx⟩
   ·omega
   ·obtain⟨L,hL,hcell,hcl⟩:=hx k hlt2
    obtain⟨x0,x1,x2,x3,x4,x5,x6,x7,x8,x9,x10,x11,x12,rfl⟩:∃x0 x1 x2 x3 x4 x5 x6 x7 x8 x9 x10 x11 x12,L= [x0,x1,x2,x3,x4,x5,x6,x7,x8,x9,x10,x11,x12]:=by
     match L,hL with
     | [x0,x1,x2,x3,x4,x5,x6,x7,x8,x9,x10,x11,x12],_=>exact⟨_,_,_,_,_,_,_,_,_,_,_,_,_,rfl⟩
    have y0:wr.cell? ⟨b,off+k*13,none⟩=some x0:=by rw [hgr.below.cell (p:=⟨b,off+k*13,none⟩) hbw];exact hcell 0 _ rfl
    have y1:wr.cell? ⟨b,off+k*13+1,none⟩=some x1:=by rw [hgr.below.cell (p:=⟨b,off+k*13+1,none⟩) hbw];exact hcell 1 _ rfl
    have y2:wr.cell? ⟨b,off+k*13+2,none⟩=some x2:=by rw [hgr.below.cell (p:=⟨b,off+k*13+2,none⟩) hbw];exact hcell 2 _ rfl
    have y3:wr.cell? ⟨b,off+k*13+3,none⟩=some x3:=by rw [hgr.below.cell (p:=⟨b,off+k*13+3,none⟩) hbw];exact hcell 3 _ rfl
    have y4:wr.cell? ⟨b,off+k*13+4,none⟩=some x4:=by rw [hgr.below.cell (p:=⟨b,off+k*13+4,none⟩) hbw];exact hcell 4 _ rfl
    have y5:wr.cell? ⟨b,off+k*13+5,none⟩=some x5:=by rw [hgr.below.cell (p:=⟨b,off+k*13+5,none⟩) hbw];exact hcell 5 _ rfl
    have y6:wr.cell? ⟨b,off+k*13+6,none⟩=some x6:=by rw [hgr.below.cell (p:=⟨b,off+k*13+6,none⟩) hbw];exact hcell 6 _ rfl
    have y7:wr.cell? ⟨b,off+k*13+7,none⟩=some x7:=by rw [hgr.below.cell (p:=⟨b,off+k*13+7,none⟩) hbw];exact hcell 7 _ rfl
    have y8:wr.cell? ⟨b,off+k*13+8,none⟩=some x8:=by rw [hgr.below.cell (p:=⟨b,off+k*13+8,none⟩) hbw];exact hcell 8 _ rfl
    have y9:wr.cell? ⟨b,off+k*13+9,none⟩=some x9:=by rw [hgr.below.cell (p:=⟨b,off+k*13+9,none⟩) hbw];exact hcell 9 _ rfl
    have y10:wr.cell? ⟨b,off+k*13+10,none⟩=some x10:=by rw [hgr.below.cell (p:=⟨b,off+k*13+10,none⟩) hbw];exact hcell 10 _ rfl
    have y11:wr.cell? ⟨b,off+k*13+11,none⟩=some x11:=by rw [hgr.below.cell (p:=⟨b,off+k*13+11,none⟩) hbw];exact hcell 11 _ rfl
    have y12:wr.cell? ⟨b,off+k*13+12,none⟩=some x12:=by rw [hgr.below.cell (p:=⟨b,off+k*13+12,none⟩) hbw];exact hcell 12 _ rfl
    have hcall:=hcl _ hgr;clear hx hcell hcl hL;have d1:(k:Int)<(n:Int):=by omega
    have HLT:=zh hlt2;clear hgr
    cases hq:p k with
    |true=>
     rw [hq]at hcall;have HQ:=zh hq;clear hq;have HCL:=zh hcall;clear hcall
     go_wp2_with (go_at_fn g;refine HCL.out.mono ?_;rintro e' w' ⟨rfl,hg2⟩;have HG2:=zh hg2;clear hg2)
     go_returns
     exact⟨⟨_,rfl,.inr ⟨k,HLT.out,rfl,HQ.out⟩⟩,World.Grows.trans HG.out HG2.out⟩
    |false=>
     rw [hq]at hcall;have HQ:=zh hq;clear hq;have HCL:=zh hcall;clear hcall
     go_wp2_with (go_at_fn g;refine HCL.out.mono ?_;rintro e' w' ⟨rfl,hg2⟩;have HG2:=zh hg2;clear hg2)
     go_roundw
     case rel=>exact⟨k+1,by omega,by go_num,zh (fun j hj=>by
      by_cases ej:j=k
      ·subst ej;exact HQ.out
      ·exact hno.out j ze),World.Grows.trans HG.out HG2.out⟩
     case measure=>simp [intOf];omega
  ·obtain rfl:k=n:=by omega
   clear hgr
   go_wp2_with fail
   go_returns
   exact⟨⟨_,rfl,.inl ⟨rfl,hno.out⟩⟩,HG.out⟩
theorem J3(g:FuncId)(lb:Array Value)(eg:∀args w,(callFunc g args).run prog w= .ok (.enter g args) w)(p:Nat->Bool)(v:Value)(n:Nat)(w:World)(h:vD 13 g lb p w v n) :
 Calls prog 160 #[v,.func (.func g) #[] lb] w fun r w'=>r= .returned (.bool ((List.range n).any p))/\w.Grows w':=by
 have HI:=zh (Bb g lb eg p v n w h);obtain⟨-,a,cap,rfl,-⟩:=h;generalize hX:(List.range n).any p=X;have HX:=zh hX;clear hX
 go_enter func160,ntmps160
 go_wp2_with (go_at_call 85;refine HI.out.mono ?_;rintro e' w' ⟨⟨z,rfl,hz⟩,bs2,d2,rfl⟩;have HZ:=zh hz.any;clear hz)
 go_returns
 exact⟨au zV,.of_below af⟩
theorem JU(g:FuncId)(lb:Array Value)(eg:∀args w,(callFunc g args).run prog w= .ok (.enter g args) w)(p:Nat->Bool)(v:Value)(n:Nat)(w:World)(h:vD 7 g lb p w v n) :
 Calls prog 78 #[v,.func (.func g) #[] lb] w fun r w'=>(∃z,r= .returned (.int .i64 z)/\Cj n p z)/\w.Grows w':=by
 obtain⟨hlen,a,cap,rfl,hc⟩:=h;have Hc:=zh hc;clear hc
 go_enter func78,ntmps78
 go_wp2_with fail
 go_loopw [5,8] (fun _ v8 wr=>∃k:Nat,k<=n/\v8= .int .i64 k/\Hid (∀j,j<k->p j=false)/\w.Grows wr) (fun _ v8 _=>n-(intOf v8).toNat)
 case atStart=>exact⟨0,by omega,rfl,zh (fun j hj=>by omega),.refl _⟩
 case round=>
  obtain⟨k,hk,rfl,hno,hgr⟩:=hrel;have HG:=zh hgr;by_cases hlt2:k<n
  ·rcases Hc.out with h0|⟨b,off,rfl,hbw,hx⟩
   ·omega
   ·obtain⟨L,hL,hcell,hcl⟩:=hx k hlt2
    obtain⟨x0,x1,x2,x3,x4,x5,x6,rfl⟩:∃x0 x1 x2 x3 x4 x5 x6,L= [x0,x1,x2,x3,x4,x5,x6]:=by
     match L,hL with
     | [x0,x1,x2,x3,x4,x5,x6],_=>exact⟨_,_,_,_,_,_,_,rfl⟩
    have y0:wr.cell? ⟨b,off+k*7,none⟩=some x0:=by rw [hgr.below.cell (p:=⟨b,off+k*7,none⟩) hbw];exact hcell 0 _ rfl
    have y1:wr.cell? ⟨b,off+k*7+1,none⟩=some x1:=by rw [hgr.below.cell (p:=⟨b,off+k*7+1,none⟩) hbw];exact hcell 1 _ rfl
    have y2:wr.cell? ⟨b,off+k*7+2,none⟩=some x2:=by rw [hgr.below.cell (p:=⟨b,off+k*7+2,none⟩) hbw];exact hcell 2 _ rfl
    have y3:wr.cell? ⟨b,off+k*7+3,none⟩=some x3:=by rw [hgr.below.cell (p:=⟨b,off+k*7+3,none⟩) hbw];exact hcell 3 _ rfl
    have y4:wr.cell? ⟨b,off+k*7+4,none⟩=some x4:=by rw [hgr.below.cell (p:=⟨b,off+k*7+4,none⟩) hbw];exact hcell 4 _ rfl
    have y5:wr.cell? ⟨b,off+k*7+5,none⟩=some x5:=by rw [hgr.below.cell (p:=⟨b,off+k*7+5,none⟩) hbw];exact hcell 5 _ rfl
    have y6:wr.cell? ⟨b,off+k*7+6,none⟩=some x6:=by rw [hgr.below.cell (p:=⟨b,off+k*7+6,none⟩) hbw];exact hcell 6 _ rfl
    have hcall:=hcl _ hgr;clear hx hcell hcl hL;have d1:(k:Int)<(n:Int):=by omega
    have HLT:=zh hlt2;clear hgr
    cases hq:p k with
    |true=>
     rw [hq]at hcall;have HQ:=zh hq;clear hq;have HCL:=zh hcall;clear hcall
     go_wp2_with (go_at_fn g;refine HCL.out.mono ?_;rintro e' w' ⟨rfl,hg2⟩;have HG2:=zh hg2;clear hg2)
     go_returns
     exact⟨⟨_,rfl,.inr ⟨k,HLT.out,rfl,HQ.out⟩⟩,World.Grows.trans HG.out HG2.out⟩
    |false=>
     rw [hq]at hcall;have HQ:=zh hq;clear hq;have HCL:=zh hcall;clear hcall
     go_wp2_with (go_at_fn g;refine HCL.out.mono ?_;rintro e' w' ⟨rfl,hg2⟩;have HG2:=zh hg2;clear hg2)
     go_roundw
     case rel=>exact⟨k+1,by omega,by go_num,zh (fun j hj=>by
      by_cases ej:j=k
      ·subst ej;exact HQ.out
      ·exact hno.out j ze),World.Grows.trans HG.out HG2.out⟩
     case measure=>simp [intOf];omega
  ·obtain rfl:k=n:=by omega
   clear hgr
   go_wp2_with fail
   go_returns
   exact⟨⟨_,rfl,.inl ⟨rfl,hno.out⟩⟩,HG.out⟩
theorem J2(g:FuncId)(lb:Array Value)(eg:∀args w,(callFunc g args).run prog w= .ok (.enter g args) w)(p:Nat->Bool)(v:Value)(n:Nat)(w:World)(h:vD 7 g lb p w v n) :
 Calls prog 163 #[v,.func (.func g) #[] lb] w fun r w'=>r= .returned (.bool ((List.range n).any p))/\w.Grows w':=by
 have HI:=zh (JU g lb eg p v n w h);obtain⟨-,a,cap,rfl,-⟩:=h;generalize hX:(List.range n).any p=X;have HX:=zh hX;clear hX
 go_enter func163,ntmps163
 go_wp2_with (go_at_call 78;refine HI.out.mono ?_;rintro e' w' ⟨⟨z,rfl,hz⟩,bs2,d2,rfl⟩;have HZ:=zh hz.any;clear hz)
 go_returns
 exact⟨au zV,.of_below af⟩
end Go.Proofs.YtlheailebbngiaaGreatDoor
