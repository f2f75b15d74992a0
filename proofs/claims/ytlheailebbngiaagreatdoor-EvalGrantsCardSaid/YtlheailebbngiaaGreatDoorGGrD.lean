import Derived.Test.YtlheailebbngiaaGreatDoorGGrP
import Derived.Test.YtlheailebbngiaaGreatDoorGOf2
set_option linter.all false
set_option maxHeartbeats 16000000
set_option maxRecDepth 1000000
namespace Go.Proofs.YtlheailebbngiaaGreatDoor
open Go.Proofs.Tryz List
def gQ(v:Vw)(ls:List (ByteArray × Ex)):List Nat->List Nat->List (ByteArray × Val)->List Nat × List (ByteArray × Val) × Int
 | [],D,st=>(D,st,0)
 |i::r,D,st=>if D.contains i=true then gQ v ls r D st
  else if(ai v st (ls.getD i default).2).2≠0 then(D,st,(ai v st (ls.getD i default).2).2)
  else gQ v ls r (D++[i]) (st++[((ls.getD i default).1,(ai v st (ls.getD i default).2).1)])
theorem vL{e:Ex}{ls:List (ByteArray × Ex)}{j:Nat}(hj:j<ls.length):j∈az e ls↔jy e ls j (bM e ls (ls.length-j-1))=true:=by
 have h1:=kD (e:=e) (ls:=ls) (i:=j) (ls.length-j-1+1) j ze ze hj;rw [show ls.length-j-1+1+j=ls.length by omega]at h1;have h2:=jq (e:=e) (ls:=ls) (ls.length-j-1) ze;rw [show ls.length-(ls.length-j-1+1)=j by omega]at h2;unfold az;rw [h1,<-h2,contains_iff_mem]
theorem yU{e:Ex}{ls:List (ByteArray × Ex)}{j:Nat}(hj:j<ls.length)(h:bS (ls.getD j default).1 e=true):j∈az e ls:=by
 rw [vL hj];unfold jy;rw [h];rfl
theorem yV{e:Ex}{ls:List (ByteArray × Ex)}{i j:Nat}(hi:i∈az e ls)(hji:j<i)(h:bS (ls.getD j default).1 (ls.getD i default).2=true):j∈az e ls:=by
 have hil:i<ls.length:=(fK ls.length (Nat.le_refl _) i hi).2;rw [vL ze];unfold jy;rw [Bool.or_eq_true];refine .inr (any_eq_true.2 ⟨i, ?_,h⟩);have h1:=kD (e:=e) (ls:=ls) (i:=i) (ls.length-j-1) (j+1) ze ze hil;rw [show ls.length-j-1+(j+1)=ls.length by omega]at h1;exact h1.1 hi
theorem rV{e:Ex}{ls:List (ByteArray × Ex)}{i:Nat}(hi:i∈az e ls):i<ls.length:=(fK ls.length (Nat.le_refl _) i hi).2
structure eu(v:Vw)(ls:List (ByteArray × Ex))(env:List (ByteArray × Int))(e:Ex)(D0:List Nat)(st0:List (ByteArray × Val))(k:Nat)(D:List Nat)(st:List (ByteArray × Val)):Prop where
 ok:lu ls env D st
 pre:∀j∈(az e ls).take k,j∈D
 run:gQ v ls (az e ls) D0 st0=gQ v ls ((az e ls).drop k) D st
theorem eu.zero{v:Vw}{ls:List (ByteArray × Ex)}{env:List (ByteArray × Int)}(e:Ex){D:List Nat}{st:List (ByteArray × Val)}(h:lu ls env D st):eu v ls env e D st 0 D st:=⟨h,fun j hj=>by simp at hj,rfl⟩
section
variable {v : Vw} {ls : List (ByteArray × Ex)} {env : List (ByteArray × Int)} {e : Ex} {D0 D : List Nat} {st0 st : List (ByteArray × Val)} {k : Nat}
theorem pV(hk:k<(az e ls).length):(az e ls).drop k=(az e ls).getD k 0::(az e ls).drop (k+1):=by
 exact Pt
theorem rW(hk:k<(az e ls).length):(az e ls).getD k 0∈az e ls:=by
 rw [getD_eq_getElem?_getD,getElem?_eq_getElem hk];exact getElem_mem hk
theorem vK(hk:k<(az e ls).length):(az e ls).take (k+1)=(az e ls).take k++[(az e ls).getD k 0]:=by
 exact Pv
theorem yX(hk:k<(az e ls).length){j:Nat}(hj:j∈az e ls)(hlt:j<(az e ls).getD k 0):j∈(az e ls).take k:=by
 obtain⟨m,hm,rfl⟩:=mem_iff_getElem.1 hj;have hp:=pW (e:=e) (ls:=ls) ls.length (Nat.le_refl _);rw [getD_eq_getElem?_getD,getElem?_eq_getElem hk]at hlt;refine mem_take_iff_getElem.2 ⟨m, ?_,rfl⟩;rcases Nat.lt_or_ge m k with h|h
 ·omega
 ·exfalso;rcases Nat.lt_or_eq_of_le h with h|h
  ·have:=pairwise_iff_getElem.1 hp k m hk hm h;simp only [Option.getD_some]at hlt;unfold az at hlt;omega
  ·subst h;simp at hlt
theorem eu.skip(h:eu v ls env e D0 st0 k D st)(hk:k<(az e ls).length)(hc:D.contains ((az e ls).getD k 0)=true):eu v ls env e D0 st0 (k+1) D st:=
 ⟨h.ok,fun j hj=>by
  rw [vK hk]at hj;rcases mem_append.1 hj with hj|hj
  ·exact h.pre j hj
  ·obtain rfl:j=_:=by simpa using hj
   exact contains_iff_mem.1 hc,by rw [h.run,pV hk,gQ,if_pos hc]⟩
theorem eu.typed(h:eu v ls env e D0 st0 k D st)(hl:iy ls ls.length env)(hk:k<(az e ls).length) :
 aL (ls.getD ((az e ls).getD k 0) default).2=true/\aD (aQ st) (ls.getD ((az e ls).getD k 0) default).2=((env.getD ((az e ls).getD k 0) default).2,0)/\cK (ls.getD ((az e ls).getD k 0) default).2=true:=by
 have hu:=rW hk;have hil:=rV hu;have hb:=fun j (h1:j∈az e ls) h2=>yX hk h1 h2;generalize(az e ls).getD k 0=i at *;have ht:=hl.ty i hil;unfold aT at ht
 split at ht
 ·rename_i hv
  have hvb:=hv.1
  have hf:aL (ls.getD i default).2=true:=by
   unfold cK at hvb;rw [Bool.and_eq_true]at hvb;exact hvb.2
  refine⟨hf, ?_,hvb⟩;rw [h.ok.typed hl ze hf (by rw [ht]) fun j hj hm=>h.pre j (hb j (yV hu hj hm) hj),ht]
 ·have:=(Prod.mk.inj ht).2;cases this
theorem eu.bad(h:eu v ls env e D0 st0 k D st)(hk:k<(az e ls).length)(hc:D.contains ((az e ls).getD k 0)=false)(hv:(ai v st (ls.getD ((az e ls).getD k 0) default).2).2≠0) :
 gQ v ls (az e ls) D0 st0=(D,st,(ai v st (ls.getD ((az e ls).getD k 0) default).2).2):=by
 rw [h.run,pV hk,gQ,if_neg (by rw [hc];simp),if_pos hv]
theorem eu.next(h:eu v ls env e D0 st0 k D st)(hl:iy ls ls.length env)(hok:v.ok=true)(hk:k<(az e ls).length)(hc:D.contains ((az e ls).getD k 0)=false)(hv:(ai v st (ls.getD ((az e ls).getD k 0) default).2).2=0) :
 eu v ls env e D0 st0 (k+1) (D++[(az e ls).getD k 0]) (st++[((ls.getD ((az e ls).getD k 0) default).1,(ai v st (ls.getD ((az e ls).getD k 0) default).2).1)]):=by
 obtain⟨hf,ht,-⟩:=h.typed hl hk;have hval:=lU hok h.ok.ok _ hf (by rw [ht]);rw [ht]at hval;obtain⟨hx,hd⟩:=hval.good hv;refine⟨h.ok.push hl (rV (rW hk)) hc hx hd,fun j hj=>?_, ?_⟩
 ·rw [vK hk]at hj;rcases mem_append.1 hj with hj|hj
  ·exact mem_append.2 (.inl (h.pre j hj))
  ·exact mem_append.2 (.inr hj)
 ·rw [h.run,pV hk,gQ,if_neg (by rw [hc];simp),if_neg (by simpa using hv)]
theorem eu.done(h:eu v ls env e D0 st0 (az e ls).length D st):gQ v ls (az e ls) D0 st0=(D,st,0):=by
 rw [h.run,drop_length,gQ]
theorem eu.last(h:eu v ls env e D0 st0 (az e ls).length D st)(hl:iy ls ls.length env){m:Int}(hf:aL e=true)(ht:aD env e=(m,0)):aD (aQ st) e=(m,0):=by
 have he:env.take ls.length=env:=take_of_length_le (by rw [hl.len];exact Nat.le_refl _);have:=h.ok.typed hl (Nat.le_refl _) hf (by rw [he,ht]) fun j hj hm=>h.pre j (by rw [take_length];exact yU hj hm);rw [this,he,ht]
end
def fo(v:Vw)(ls:List (ByteArray × Ex))(e:Ex)(nm:ByteArray)(D:List Nat)(st:List (ByteArray × Val)):List Nat × List (ByteArray × Val) × Int:=
 if(gQ v ls (az e ls) D st).2.2≠0 then gQ v ls (az e ls) D st
 else if(ai v (gQ v ls (az e ls) D st).2.1 e).2≠0 then((gQ v ls (az e ls) D st).1,(gQ v ls (az e ls) D st).2.1,(ai v (gQ v ls (az e ls) D st).2.1 e).2)
 else((gQ v ls (az e ls) D st).1,(gQ v ls (az e ls) D st).2.1++[(nm,(ai v (gQ v ls (az e ls) D st).2.1 e).1)],0)
def ifN:ByteArray:=⟨#[105,102]⟩
def kT:ByteArray:=⟨#[112,97,121]⟩
def byN:ByteArray:=⟨#[98,121]⟩
theorem oQ:eY ifN=false/\eY kT=false/\eY byN=false:=by decide+kernel
theorem wG{env:List (ByteArray × Int)}{e:Ex}{m:Int}(h:aT env e=(m,0)):cK e=true/\aL e=true/\aD env e=(m,0):=by
 unfold aT at h
 split at h
 ·rename_i hv
  have hvb:=hv.1;refine⟨hvb, ?_,h⟩;unfold cK at hvb;rw [Bool.and_eq_true]at hvb;exact hvb.2
 ·have:=(Prod.mk.inj h).2;cases this
theorem xB{env:List (ByteArray × Int)}{e:Ex}{want:Int}(h:dZ env e want=0):aT env e=(want,0):=by
 unfold dZ at h
 split at h
 ·cases h
 ·rename_i h1
  refine Prod.ext (Decidable.byContradiction fun c=>h1 ⟨h,c⟩) h
theorem Bc{env:List (ByteArray × Int)}:∀(l:List (Int × Ex × Ex)) (pre:List Int),grG env pre l=0->∀g∈l,aT env g.2.1=(1,0)/\aT env g.2.2=(4,0)
 | [],_,_,_,h=>by cases h
 |g::r,pre,h,x,hx=>by
  rw [grG]at h
  split at h
  ·cases h
  split at h
  ·rename_i h1;exact absurd h h1
  rename_i h1
  split at h
  ·rename_i h2;exact absurd h h2
  rename_i h2
  rcases mem_cons.1 hx with rfl|hx
  ·exact⟨xB (Decidable.byContradiction h1),xB (Decidable.byContradiction h2)⟩
  ·exact Bc r _ h x hx
theorem Ad{env:List (ByteArray × Int)}:∀(l:List (Int × Ex)) (pre:List Int),reG env pre l=0->∀g∈l,aT env g.2=(2,0)
 | [],_,_,_,h=>by cases h
 |g::r,pre,h,x,hx=>by
  rw [reG]at h
  split at h
  ·cases h
  split at h
  ·rename_i h1;exact absurd h h1
  rename_i h1
  rcases mem_cons.1 hx with rfl|hx
  ·exact xB (Decidable.byContradiction h1)
  ·exact Ad r _ h x hx
structure Fa(V:dK)(env:List (ByteArray × Int)):Prop where
 ls:iy V.le V.le.length env
 gr:∀g∈V.gr,aT env g.2.1=(1,0)/\aT env g.2.2=(4,0)
 re:∀g∈V.re,aT env g.2=(2,0)
theorem Fa.of{V:dK}(h:bH V=0):Fa V (dN V.le).1:=by
 unfold bH at h
 split at h
 ·rename_i h1;exact absurd h h1
 rename_i h1
 split at h
 ·cases h
 split at h
 ·cases h
 split at h
 ·rename_i h2;exact absurd h h2
 rename_i h2
 have h0:(dN V.le).2=0:=Decidable.byContradiction h1;have hg:grG (dN V.le).1 [] V.gr=0:=Decidable.byContradiction h2;refine⟨?_,Bc _ _ hg,Ad _ _ h⟩
 have hl:V.le.length<=10:=by
  unfold dN at h0
  split at h0
  ·cases h0
  ·omega
 rw [qi hl]at h0 ⊢;exact iy.of_lets (Prod.ext rfl h0)
def wB(st:List (ByteArray × Val)):Val:=(st.getLastD (⟨#[]⟩,.zero)).2
theorem kX(st:List (ByteArray × Val))(p:ByteArray × Val):wB (st++[p])=p.2:=by
 unfold wB;simp
def ib(v:Vw)(ls:List (ByteArray × Ex))(g:Int × Ex × Ex):(Bool × Int × Int) × List (ByteArray × Val) × Int:=
 if(fo v ls g.2.1 ifN [] []).2.2≠0 then((false,0,0),[],(fo v ls g.2.1 ifN [] []).2.2)
 else if(wB (fo v ls g.2.1 ifN [] []).2.1).yes=false then((false,0,1),(fo v ls g.2.1 ifN [] []).2.1,0)
 else if(fo v ls g.2.2 kT (fo v ls g.2.1 ifN [] []).1 (fo v ls g.2.1 ifN [] []).2.1).2.2≠0 then((false,0,0),[],(fo v ls g.2.2 kT (fo v ls g.2.1 ifN [] []).1 (fo v ls g.2.1 ifN [] []).2.1).2.2)
 else((true,if(wB (fo v ls g.2.2 kT (fo v ls g.2.1 ifN [] []).1 (fo v ls g.2.1 ifN [] []).2.1).2.1).n<0 then(0,1)else((wB (fo v ls g.2.2 kT (fo v ls g.2.1 ifN [] []).1 (fo v ls g.2.1 ifN [] []).2.1).2.1).n,(wB (fo v ls g.2.2 kT (fo v ls g.2.1 ifN [] []).1 (fo v ls g.2.1 ifN [] []).2.1).2.1).d)),(fo v ls g.2.2 kT (fo v ls g.2.1 ifN [] []).1 (fo v ls g.2.1 ifN [] []).2.1).2.1,0)
def gF(V:dK)(b:Int)(v:Vw):(Bool × Int × Int) × List (ByteArray × Val) × Int:=
 if v.ok=false then((false,0,0),[],1)else if bH V≠0 then((false,0,0),[],bH V)
 else match V.gr.find? fun g=>decide (g.1=b)with
 |none=>((false,0,0),[],9)
 |some g=>ib v V.le g
section
variable {v : Vw} {ls : List (ByteArray × Ex)} {e : Ex} {nm : ByteArray} {D0 D D2 : List Nat} {st0 st st2 : List (ByteArray × Val)} {c : Int} {x p : Val} {g : Int × Ex × Ex}
theorem Ky(h:(gQ v ls (az e ls) D0 st0).2.2=c)(hc:c≠0):(fo v ls e nm D0 st0).2.2=c:=by
 subst h;unfold fo;rw [if_pos hc]
theorem Kw(h:gQ v ls (az e ls) D0 st0=(D,st,0))(hv:(ai v st e).2=c)(hc:c≠0):(fo v ls e nm D0 st0).2.2=c:=by
 subst hv;unfold fo;rw [h,if_neg zg,if_pos hc]
theorem Kv(h:gQ v ls (az e ls) D0 st0=(D,st,0))(hv:ai v st e=(x,0)):fo v ls e nm D0 st0=(D,st++[(nm,x)],0):=by
 unfold fo;rw [h,if_neg zg,hv,if_neg zg]
theorem Kc(h:(fo v ls g.2.1 ifN [] []).2.2=c)(hc:c≠0):ib v ls g=((false,0,0),[],c):=by
 subst h;unfold ib;rw [if_pos hc]
theorem OB(h:fo v ls g.2.1 ifN [] []=(D,st++[(ifN,x)],0))(hx:x.yes=false):ib v ls g=((false,0,1),st++[(ifN,x)],0):=by
 unfold ib;rw [h,if_neg zg,kX,if_pos hx]
theorem Kb(h:fo v ls g.2.1 ifN [] []=(D,st++[(ifN,x)],0))(hx:x.yes=true)(h2:(fo v ls g.2.2 kT D (st++[(ifN,x)])).2.2=c)(hc:c≠0):ib v ls g=((false,0,0),[],c):=by
 subst h2;unfold ib;rw [h,if_neg zg,kX,if_neg (by rw [hx];simp),if_pos hc]
theorem OA(h:fo v ls g.2.1 ifN [] []=(D,st++[(ifN,x)],0))(hx:x.yes=true)(h2:fo v ls g.2.2 kT D (st++[(ifN,x)])=(D2,st2++[(kT,p)],0)):ib v ls g=((true,if p.n<0 then(0,1)else(p.n,p.d)),st2++[(kT,p)],0):=by
 unfold ib;rw [h,if_neg zg,kX,if_neg (by rw [hx];simp),h2,if_neg zg,kX]
end
theorem xQ{β:Type}[Inhabited (Int × β)]{l:List (Int × β)}{b:Int}:∀k,k<=l.length->(∀j,j<k->(l.getD j default).1≠b)->l.find? (fun g=>decide (g.1=b))=(l.drop k).find? fun g=>decide (g.1=b)
 |0,_,_=>rfl
 |k+1,hk,hn=>by
  have hk':k<l.length:=by omega
  rw [xQ k ze fun j hj=>hn j ze,jH hk',find?_cons,decide_eq_false (hn k ze)]
theorem wM{β:Type}[Inhabited (Int × β)]{l:List (Int × β)}{b:Int}{k:Nat}(hk:k<l.length)(hn:∀j,j<k->(l.getD j default).1≠b)(hb:(l.getD k default).1=b):l.find? (fun g=>decide (g.1=b))=some (l.getD k default):=by
 rw [xQ k ze hn,jH hk,find?_cons,decide_eq_true hb]
theorem wN{β:Type}[Inhabited (Int × β)]{l:List (Int × β)}{b:Int}(hn:∀j,j<l.length->(l.getD j default).1≠b):l.find? (fun g=>decide (g.1=b))=none:=by
 rw [xQ l.length (Nat.le_refl _) hn,drop_length];rfl
theorem Bh{V:dK}{b:Int}{v:Vw}(h:v.ok=false):gF V b v=((false,0,0),[],1):=by unfold gF;rw [if_pos h]
theorem EO{V:dK}{b:Int}{v:Vw}(h:v.ok=true)(h2:bH V≠0):gF V b v=((false,0,0),[],bH V):=by unfold gF;rw [if_neg (by rw [h];simp),if_pos h2]
theorem Bi{V:dK}{b:Int}{v:Vw}{g:Int × Ex × Ex}(h:v.ok=true)(h2:bH V=0)(hf:V.gr.find? (fun g=>decide (g.1=b))=some g):gF V b v=ib v V.le g:=by unfold gF;rw [if_neg (by rw [h];simp),if_neg (by simpa using h2),hf]
theorem Bj{V:dK}{b:Int}{v:Vw}(h:v.ok=true)(h2:bH V=0)(hf:V.gr.find? (fun g=>decide (g.1=b))=none):gF V b v=((false,0,0),[],9):=by unfold gF;rw [if_neg (by rw [h];simp),if_neg (by simpa using h2),hf]
theorem eu.of_run{v:Vw}{ls:List (ByteArray × Ex)}{env:List (ByteArray × Int)}{e:Ex}{D0 D:List Nat}{st0 st:List (ByteArray × Val)}(h:lu ls env D0 st0)(hl:iy ls ls.length env)(hok:v.ok=true)(hr:gQ v ls (az e ls) D0 st0=(D,st,0)):eu v ls env e D0 st0 (az e ls).length D st:=by
 have key:∀k,k<=(az e ls).length->∃D st,eu v ls env e D0 st0 k D st:=by
  intro k
  induction k with
  |zero=>intro _;exact⟨D0,st0,eu.zero e h⟩
  |succ k ih=>
   intro hk;obtain⟨D1,st1,h1⟩:=ih ze;cases hc:D1.contains ((az e ls).getD k 0)
   ·by_cases hv:(ai v st1 (ls.getD ((az e ls).getD k 0) default).2).2=0
    ·exact⟨_,_,h1.next hl hok ze hc hv⟩
    ·have hb:=h1.bad ze hc hv;rw [hr]at hb;exact absurd (Prod.mk.inj (Prod.mk.inj hb).2).2.symm hv
   ·exact⟨_,_,h1.skip ze hc⟩
 obtain⟨D1,st1,h1⟩:=key _ (Nat.le_refl _);have hd:=h1.done;rw [hr]at hd;simp only [Prod.mk.injEq,and_true]at hd;obtain⟨rfl,rfl⟩:=hd;exact h1
open Go.RowKit
theorem Oq(R:df)(vc vs vl vi vp vu:Value)(w:World)(h1:I64 R.frm)(h2:I64 R.mode)(h3:I64 R.unit)(h4:I64 R.twist)
 (hC:ay w vc R.credits) (hS:ay w vs R.series) (hL:eU w vl R.lets) (hI:eU w vi R.ifs) (hP:eU w vp R.pays) (hU:eU w vu R.cuts) :
 Calls prog 36 #[.agg #[.int .i64 R.frm,.int .i64 R.mode,.int .i64 R.unit,vc,vs,vl,vi,vp,vu,.int .i64 R.twist]] w (ja R w):=by

 obtain⟨i0,hi,hz0,hz1,hz2⟩:=info_parts l8;obtain⟨i1,hj,hj0,hj1,hj2⟩:=info_parts oZ;obtain⟨i2,hq,hq0,hq1,hq2⟩:=info_parts oW;obtain⟨i3,hr,hr0,hr1,hr2⟩:=info_parts l9;obtain⟨i4,ht,ht0,ht1,ht2⟩:=info_parts kH;obtain⟨i5,hv,hv0,hv1,hv2⟩:=info_parts jE;obtain⟨hcl,-,ca,ccap,rfl,hcc⟩:=hC;have HCC:=zh hcc;obtain⟨hsl,-,sa,scap,rfl,hsc⟩:=hS;have HSC:=zh hsc;obtain⟨hll,la,lcap,rfl,hlc⟩:=hL;have HLC:=zh hlc;obtain⟨hil,ia,icap,rfl,hic⟩:=hI;have HIC:=zh hic;obtain⟨hpl,pa,pcap,rfl,hpc⟩:=hP;have HPC:=zh hpc;obtain⟨hul,ua,ucap,rfl,huc⟩:=hU;have HUC:=zh huc;clear hcc hsc hlc hic hpc huc
 go_enter func36,ntmps36
 go_upto_region 1 with fail
 go_cut [3]from 17 (fun v3 wx=>∃g,v3= .pointer (some ⟨g,0,none⟩)/\dX w (fu R (.slice ca R.credits.length ccap) (.slice sa R.series.length scap) (.slice la R.lets.length lcap) (.slice ia R.ifs.length icap) (.slice pa R.pays.length pcap) (.slice ua R.cuts.length ucap)) g #[.int .i64 (pick R.frm 73049),.int .i64 (pick R.mode 4+1),.int .i64 (aY (pick R.unit 5)),.slice none 0 0,.slice none 0 0,.slice none 0 0,.slice none 0 0,.slice none 0 0] wx)
 case first=>
  obtain⟨hp0,hp5⟩:=dL R.unit 5 ze;have hpm:=dL R.mode 4 ze;have hM:IntKind.i64.wrap (pick R.mode 4+1)=pick R.mode 4+1:=IntWalk.i64_in _ ze;clear hpm;have hA:=KU ((w.alloc ((.cells #[.int .i64 R.frm,.int .i64 R.mode,.int .i64 R.unit,(.slice ca R.credits.length ccap),(.slice sa R.series.length scap),(.slice la R.lets.length lcap),(.slice ia R.ifs.length icap),(.slice pa R.pays.length pcap),(.slice ua R.cuts.length ucap),.int .i64 R.twist] 72))).alloc ((.cells #[.int .i64 0,.int .i64 0,.int .i64 0,.slice none 0 0,.slice none 0 0,.slice none 0 0,.slice none 0 0,.slice none 0 0] 81))) (pick R.unit 5) (w.heap.size+1+1) zg hp0 hp5;have hB:=KU (((w.alloc ((.cells #[.int .i64 R.frm,.int .i64 R.mode,.int .i64 R.unit,(.slice ca R.credits.length ccap),(.slice sa R.series.length scap),(.slice la R.lets.length lcap),(.slice ia R.ifs.length icap),(.slice pa R.pays.length pcap),(.slice ua R.cuts.length ucap),.int .i64 R.twist] 72))).alloc ((.cells #[.int .i64 0,.int .i64 0,.int .i64 0,.slice none 0 0,.slice none 0 0,.slice none 0 0,.slice none 0 0,.slice none 0 0] 81))).alloc ((.cells #[.int .i64 0,.int .i64 0,.int .i64 0,.slice none 0 0,.slice none 0 0,.slice none 0 0,.slice none 0 0,.slice none 0 0] 81))) (pick R.unit 5) (w.heap.size+1+1+1) zg hp0 hp5;refine TG.begin 16 (fun w'=>w'.cell? ⟨w.heap.size,0,none⟩=some (.int .i64 R.frm)/\w'.cell? ⟨w.heap.size,1,none⟩=some (.int .i64 R.mode)/\w'.cell? ⟨w.heap.size,2,none⟩=some (.int .i64 R.unit)) zf zf zF (fun hS=>?_);refine TG.tkB 0 hS ?_;refine TG.tkB 1 hS ?_;refine TG.takeC (i:=2) (v:=(.int .i64 (pick R.frm 73049))) (fn:=15) (args:=#[.int .i64 R.frm,.int .i64 73049]) rfl zf zf zf zo (fun _ _ _ h=>h) rfl hS ?_ ?_ ?_
  focus
   intro wS hSw
   (try dsimp only at hSw)
   go_simp
  focus exact fun wS _=>(bN _ _ _ ze)
  (try simp only [nS])
  refine TG.tkB 3 hS ?_;refine TG.tkB 4 hS ?_;refine TG.takeC (i:=5) (v:=(.int .i64 (pick R.mode 4))) (fn:=15) (args:=#[.int .i64 R.mode,.int .i64 4]) rfl zf zf zf zo (fun _ _ _ h=>h) rfl hS ?_ ?_ ?_
  focus
   intro wS hSw
   (try dsimp only at hSw)
   go_simp
  focus exact fun wS _=>(bN _ _ _ ze)
  (try simp only [nS])
  refine TG.tkB 6 hS ?_;refine TG.tkB 8 hS ?_;refine TG.tkB 9 hS ?_;refine TG.takeC (i:=10) (v:=(.int .i64 (pick R.unit 5))) (fn:=15) (args:=#[.int .i64 R.unit,.int .i64 5]) rfl zf zf zf zo (fun _ _ _ h=>h) rfl hS ?_ ?_ ?_
  focus
   intro wS hSw
   (try dsimp only at hSw)
   go_simp
  focus exact fun wS _=>(bN _ _ _ ze)
  (try simp only [nS])
  refine TG.two (i:=7) (k:=15) zf rfl rfl (fun K1 hK1=>?_) (fun K1 hK1=>?_)
  ·go_simp
   refine TG.go hK1 ?_ (fun hS=>?_)
   focus
    (try dsimp only)
    go_keep
   clear hK1 K1
   (try simp only [nS])
   refine TG.tkB 11 hS ?_;refine TG.two (i:=12) (k:=15) zf rfl rfl (fun K1 hK1=>?_) (fun K1 hK1=>?_)
   focus
    go_simp
    refine TG.go hK1 ?_ (fun hS=>?_)
    focus
     (try dsimp only)
     go_keep
    clear hK1 K1
    (try simp only [nS])
    refine TG.tkB 13 hS ?_;refine TG.tkB 14 hS ?_;refine TG.one (i:=15) zf rfl (fun K1 hK1=>?_)
    go_simp
    refine TG.go hK1 ?_ (fun hS=>?_)
    focus
     (try dsimp only)
     go_keep
    clear hK1 K1
    (try simp only [nS])
   rotate_left
   focus
    go_simp
    refine TG.go hK1 ?_ (fun hS=>?_)
    focus
     (try dsimp only)
     go_keep
    clear hK1 K1
    (try simp only [nS])
    refine TG.one (i:=12) zf rfl (fun K1 hK1=>?_)
    go_simp
    refine TG.go hK1 ?_ (fun hS=>?_)
    focus
     (try dsimp only)
     go_keep
    clear hK1 K1
    (try simp only [nS])
    refine TG.tkB 13 hS ?_;refine TG.tkB 14 hS ?_
   rotate_left
   all_goals
    refine TG.one (i:=16) zf rfl (fun K1 hK1=>?_)
    go_simp
    refine hK1 _ _ (fun h=>absurd rfl h) (TG.done zf ?_);clear hK1 K1 hS
    (try simp only [nS])
    go_wp2_with fail
    go_meet
    exact⟨_,rfl,dX.start_a _ _ _ _⟩
  ·go_simp
   refine TG.go hK1 ?_ (fun hS=>?_)
   focus
    (try dsimp only)
    go_keep
   clear hK1 K1
   (try simp only [nS])
   refine TG.one (i:=7) zf rfl (fun K1 hK1=>?_)
   go_simp
   refine TG.go hK1 ?_ (fun hS=>?_)
   focus
    (try dsimp only)
    go_keep
   clear hK1 K1
   (try simp only [nS])
   refine TG.tkB 11 hS ?_;refine TG.one (i:=12) zf rfl (fun K1 hK1=>?_)
   go_simp
   refine TG.go hK1 ?_ (fun hS=>?_)
   focus
    (try dsimp only)
    go_keep
   clear hK1 K1
   (try simp only [nS])
   refine TG.tkB 13 hS ?_;refine TG.tkB 14 hS ?_;refine TG.one (i:=16) zf rfl (fun K1 hK1=>?_)
   go_simp
   refine hK1 _ _ (fun h=>absurd rfl h) (TG.done zf ?_);clear hK1 K1 hS
   (try simp only [nS])
   go_wp2_with fail
   go_meet
   exact⟨_,rfl,dX.start_b _ _ _ _⟩
 obtain⟨g,rfl,hof⟩:=hcut;have hgl:=hof.lt;have HOF:=zh hof;clear hof
 go_upto_block 0 with fail
 go_cut []from 17 (fun wx=>∃vcr H1,dX w (fu R (.slice ca R.credits.length ccap) (.slice sa R.series.length scap) (.slice la R.lets.length lcap) (.slice ia R.ifs.length icap) (.slice pa R.pays.length pcap) (.slice ua R.cuts.length ucap)) g #[.int .i64 (pick R.frm 73049),.int .i64 (pick R.mode 4+1),.int .i64 (aY (pick R.unit 5)),vcr,.slice none 0 0,.slice none 0 0,.slice none 0 0,.slice none 0 0] wx/\(g<H1/\H1<=wx.heap.size)/\bX 129 2 H1 wx vcr (bG R (gY R)) [])
 case first=>
  go_wp2_with fail
  go_loopw [5] (fun v5 wr=>∃k:Nat,∃vcr:Value,k<=R.credits.length/\k<=4/\v5= .int .i64 k/\dX w (fu R (.slice ca R.credits.length ccap) (.slice sa R.series.length scap) (.slice la R.lets.length lcap) (.slice ia R.ifs.length icap) (.slice pa R.pays.length pcap) (.slice ua R.cuts.length ucap)) g #[.int .i64 (pick R.frm 73049),.int .i64 (pick R.mode 4+1),.int .i64 (aY (pick R.unit 5)),vcr,.slice none 0 0,.slice none 0 0,.slice none 0 0,.slice none 0 0] wr/\wr.heap[wc.heap.size]? =some Pp/\bX 129 2 (wc.heap.size+1) wr vcr (bG R k) []) (fun v5 _=>4-(intOf v5).toNat)
  case atStart=>exact⟨0,_,by omega,by omega,rfl,HOF.out.alloc _,bK _ _ _ rfl,.nil _ _ _ _⟩
  case round=>
   obtain⟨k,vcr,hk,hk4,rfl,hof,hkd,hrow⟩:=hrel;have hbx:wr.cell? ⟨w.heap.size,3,none⟩=some (.slice ca R.credits.length ccap):=cell_of_row _ _ _ _ _ _ hof.box;have hoc:wr.cell? ⟨g,3,none⟩=some vcr:=cell_of_row _ _ _ _ _ _ hof.out;have hof1:wr.frozen? ⟨g,3,none⟩=false:=Joins.unfrozen_of_block hof.out 3;have hl0:=hof.lt0;have hl1:w.heap.size<wr.heap.size:=by omega
   have hl2:=hof.lt;have hl3:wc.heap.size<wr.heap.size:=(Array.getElem?_eq_some_iff.1 hkd).1;have HKD:=zh hkd;have HOFR:=zh hof;have HROW:=zh hrow;have HCL:=zh (qI R k);obtain⟨aa,acap,rfl⟩:=hrow.form;clear hof hkd hrow hl0;by_cases hlt:k<R.credits.length
   ·by_cases hlt4:k<4
    ·rcases HCC.out with h0|⟨b,off,rfl,hb,hx⟩
     ·omega
     ·have hx0:=hx 0 ze;have hxk:=hx k hlt;have hkb:b<wr.heap.size:=by omega
      have hy0:wr.cell? ⟨b,off,none⟩=some (.int .i64 (R.credits.getD 0 0)):=by rw [HOFR.out.bel.cell (by exact hb)];exact hx0
      have hyk:wr.cell? ⟨b,off+k,none⟩=some (.int .i64 (R.credits.getD k 0)):=by rw [HOFR.out.bel.cell (by exact hb)];exact hxk
      clear hx0 hxk hx;have d1:(k:Int)<(R.credits.length:Int):=by omega
      have d2:(k:Int)<4:=by omega
      have d3:(0:Int)<(R.credits.length:Int):=by omega
      have hp0:=dL (R.credits.getD 0 0) 6 ze;have HSU:=zh (uJ R k)
      have hkk:wr.cell? ⟨wc.heap.size,(((k:Int)+pick (R.credits.getD 0 0) 6) % 6).toNat,none⟩=some (.int .i64 (BN R k)):=by
       rw [cell_of_row _ _ _ _ _ _ HKD.out];exact Gs _ ze ze
      have hpk:=dL (R.credits.getD k 0) 900 ze;have HKV:Hid (BM R k=if(R.credits.getD k 0).tmod 3=0 then pick (R.credits.getD k 0) 900+1 else 0):=zh rfl;generalize hz0:R.credits.getD 0 0=z0 at *;generalize hzk:R.credits.getD k 0=zk at *;generalize hpv:pick z0 6=pv at *;have HPV:=zh hpv;generalize hkv:BN R k=kv at *;generalize hlv:BM R k=lv at *;clear hz0 hzk hkv hlv hpv;obtain⟨hp1,hp2⟩:=hp0;have HGE:=zh (HOF.out.gge);have hsz1:wc.heap.size+1<=wr.heap.size:=by omega
      by_cases ht:zk.tmod 3=0
      focus
       rw [if_pos ht]at HKV
       go_wp2_with (first
        |(go_at_call 15;refine(bN _ _ _ ze).mono ?_;rintro e w' ⟨rfl,rfl⟩;try simp only [HPV.out])
        |(at_builtin;refine wpList_append_lies _ rfl _ _ 75 rfl (wc.heap.size+1) 129 i0 _ 2 16 underlying75 hi hz0 hz1 hz2 rfl zo _ _ _ rfl ((HROW.out.alloc _).alloc _).own ⟨wr.heap.size+1,0,none⟩ 1 1 [.int .i64 kv,.int .i64 (pick zk 900+1)] rfl rfl ?c1 ?c2 zo ?c3 ?c4 ?c5 (wr.heap.size+2) zg ?_))
       case c1=>exact aR _ [.int .i64 kv,.int .i64 (pick zk 900+1)] _ _ zg
       case c2=>intro u hu;simp at hu;rcases hu with rfl|rfl<;>rfl
       case c3=>have:=HCL.out;unfold maxLen;omega
       case c4=>have:=HCL.out;omega
       case c5=>simp;omega
       intro g' cap w1 hown' hgrow hat hlt';have R1:=bX.push (rs2:=[]) (m:=wr.heap.size) ((HROW.out.alloc _).alloc _) (fun x hx=>by cases hx) hsz1 (fun j hj=>(HROW.out.lt j hj).2) rfl rfl rfl hown' hgrow hat zg;have O1:=((HOFR.out.alloc (.cells #[.int .i64 kv,.int .i64 (pick zk 900+1)] 129)).alloc (.cells #[.int .i64 kv,.int .i64 (pick zk 900+1)] 129)).grown hgrow (fun j hj=>by have:=(HROW.out.lt j hj).1;have:=HGE.out;omega)
      rotate_left
      focus
       rw [if_neg ht]at HKV
       go_wp2_with (first
        |(go_at_call 15;refine(bN _ _ _ ze).mono ?_;rintro e w' ⟨rfl,rfl⟩;try simp only [HPV.out])
        |(at_builtin;refine wpList_append_lies _ rfl _ _ 75 rfl (wc.heap.size+1) 129 i0 _ 2 16 underlying75 hi hz0 hz1 hz2 rfl zo _ _ _ rfl ((HROW.out.alloc _).alloc _).own ⟨wr.heap.size+1,0,none⟩ 1 1 [.int .i64 kv,.int .i64 (0)] rfl rfl ?c1 ?c2 zo ?c3 ?c4 ?c5 (wr.heap.size+2) zg ?_))
       case c1=>exact aR _ [.int .i64 kv,.int .i64 (0)] _ _ zg
       case c2=>intro u hu;simp at hu;rcases hu with rfl|rfl<;>rfl
       case c3=>have:=HCL.out;unfold maxLen;omega
       case c4=>have:=HCL.out;omega
       case c5=>simp;omega
       intro g' cap w1 hown' hgrow hat hlt';have R1:=bX.push (rs2:=[]) (m:=wr.heap.size) ((HROW.out.alloc _).alloc _) (fun x hx=>by cases hx) hsz1 (fun j hj=>(HROW.out.lt j hj).2) rfl rfl rfl hown' hgrow hat zg;have O1:=((HOFR.out.alloc (.cells #[.int .i64 kv,.int .i64 (0)] 129)).alloc (.cells #[.int .i64 kv,.int .i64 (0)] 129)).grown hgrow (fun j hj=>by have:=(HROW.out.lt j hj).1;have:=HGE.out;omega)
      rotate_left
      all_goals
       have K1:=(hgrow.block wc.heap.size zp (fun e=>by have:=(HROW.out.lt _ e.symm).1;omega)).trans ((Below.heap_alloc _ _ _ zp).trans ((Below.heap_alloc _ _ _ hl3).trans HKD.out));have hoc2:w1.cell? ⟨g,3,none⟩=some (.slice aa (bG R k).length acap):=cell_of_row _ _ _ _ _ _ O1.out;have hof2:w1.frozen? ⟨g,3,none⟩=false:=Joins.unfrozen_of_block O1.out 3;have R2:=zh (R1.setCell (a:=⟨g,3,none⟩) (show g<wc.heap.size+1 by omega) (.slice (some ⟨g',0,none⟩) ((bG R k).length+1) cap));have O2:=zh (O1.store 3 (.slice (some ⟨g',0,none⟩) ((bG R k).length+1) cap));have K2:=zh ((Below.heap_setCell w1 ⟨g,3,none⟩ (.slice (some ⟨g',0,none⟩) ((bG R k).length+1) cap) wc.heap.size (by show wc.heap.size≠g;omega)).trans K1);clear hown' hgrow hat hlt' R1 O1 K1
       go_wp2_with fail
       go_roundw
       case rel=>exact⟨k+1,_,by omega,by omega,by go_num,O2.out,K2.out,by rw [HSU.out,HKV.out];exact R2.out⟩
       case measure=>simp [intOf];omega
    ·go_wp2_with fail
     go_meet
     exact⟨_,wc.heap.size+1,HOFR.out,⟨by omega,by omega⟩,by rw [show gY R=k by unfold gY;omega];exact HROW.out⟩
   ·go_wp2_with fail
    go_meet
    exact⟨_,wc.heap.size+1,HOFR.out,⟨by omega,by omega⟩,by rw [show gY R=k by unfold gY;omega];exact HROW.out⟩
 obtain⟨vcr,H1,hof,⟨hgH1,hH1⟩,hrow1⟩:=hcut;have HROW1:=zh hrow1.upto;have HOF1:=zh hof;have hgl1:=hof.lt;clear HOF hgl hof hrow1
 go_step
 exact Ld R w h1 h2 h3 h4 ca sa la ia pa ua ccap scap lcap icap pcap ucap hcl hsl hll hil hpl hul HCC HSC HLC HIC HPC HUC g _ wc vcr H1 hgH1 hH1 HROW1 HOF1 hgl1 _ _ _ _ _ _ _ _ _ _ _ _ _ _ _ _ _ _ _ _ _ _ _ _ _ _ _ _ _ _ _ _ _ _ _ _ _ _ _ _ _ _ _ _ _ _ _ _ _ _ _ _ _ _ _ _ _ _ _ _ _ _ _ _ _ _ _ _ _ _ _ _ _ _ _ _ _ _ _ _ _ _ _ _ _ _ _ _ _ _ _ _ _ _ _ _ _ _ _ _ _ _ _ _ _ _ _ _ _ _ _ _ _ _ _ _ _ _ _ _ _ _ _ _ _ _ _ _ _ _ _ _ _ _ _ _ _ _ _ _ _ _ _ _ _ _ _ _ _ _ _ _ _ _ _ _ _ _ _ _ _ _ _ _ _ _ _ _ _ _ _ _ _ _ _ _ _ _ _ _ _ _ _ _ _ _ _ _ _ _ _ _ _ _ _ _ _ _ _ _ _ _ _ _ _ _ _ _ _ _ _ _ _ _ _ _ _ _ _ _ _ _ _ _ _
theorem MV:Hid Ef:=zh (by
 intro R cs w hR;obtain⟨h1,h2,h3,h4,vc,vs,vl,vi,vp,vu,he,hC,hS,hL,hI,hP,hU⟩:=hR;obtain⟨l⟩:=cs;simp only at he;subst he
 exact Oq R vc vs vl vi vp vu w h1 h2 h3 h4 hC hS hL hI hP hU)
end Go.Proofs.YtlheailebbngiaaGreatDoor
