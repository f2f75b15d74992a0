import Derived.Test.YtfoefpoaomepbaaGreatDoorGGrG
set_option linter.all false
set_option maxHeartbeats 16000000
set_option maxRecDepth 1000000
namespace Go.Proofs.YtfoefpoaomepbaaGreatDoor
open Go.Proofs.Tryz Tryz List
section
variable {sl : List ByteArray}
theorem kK{s:ByteArray}(h:s∈sl):slK sl s<sl.length/\sl.getD (slK sl s) ByteArray.empty=s:=by
 unfold slK
 cases k:sl.findIdx? (fun x=>decide (x=s))with
 |none=>
  have:=findIdx?_eq_none_iff.1 k s h;simp at this
 |some i=>
  obtain⟨h1,h2,-⟩:=findIdx?_eq_some_iff_getElem.1 k;refine⟨h1, ?_⟩;show sl.getD i _=s;rw [getD_eq_getElem?_getD,getElem?_eq_getElem h1];simpa using h2
theorem Ae{s t:ByteArray}(h:s∈sl)(h2:t∈sl)(e:slK sl s=slK sl t):s=t:=by
 rw [<-(kK h).2,e,(kK h2).2]
end
def eG(sl:List ByteArray)(ls:List (ByteArray × Ex))(env:List (ByteArray × Int))(i:Nat):Dfn:={κ:=slK sl,e:=aN (ls.getD i default).2,k:=slK sl (ls.getD i default).1,m:=(env.getD i default).2,env:=env.take i}
def AR(sl:List ByteArray)(env:List (ByteArray × Int))(e:Ex)(nm:ByteArray)(m:Int):Dfn:={κ:=slK sl,e:=aN e,k:=slK sl nm,m:=m,env:=env}
def NH(ls:List (ByteArray × Ex)):List Nat->List Nat->Prop
 |_,[]=>True
 |D,i::r=>(i<ls.length/\D.contains i=false/\∀j,j<i->aP (ls.getD j default).1 (ls.getD i default).2=true->j∈D)/\NH ls (D++[i]) r
theorem A7{ls:List (ByteArray × Ex)}:∀(U D:List Nat),U.Pairwise (· < ·)->(∀i∈U,i<ls.length/\i∉D)->(∀i∈U,∀j,j<i->aP (ls.getD j default).1 (ls.getD i default).2=true->j∈D\/j∈U)->NH ls D U
 | [],_,_,_,_=>trivial
 |i::r,D,hp,hl,hc=>by
  obtain⟨p1,p2⟩:=pairwise_cons.1 hp;refine⟨⟨(hl i zd).1, ?_,fun j hj hm=>?_⟩,A7 r (D++[i]) p2 (fun k hk=>⟨(hl k zT).1,fun h=>?_⟩) (fun k hk j hj hm=>?_)⟩
  ·rw [Bool.eq_false_iff];intro h;exact(hl i zd).2 (contains_iff_mem.1 h)
  ·rcases hc i zd j hj hm with h|h
   ·exact h
   ·rcases mem_cons.1 h with rfl|h
    ·omega
    ·have:=p1 j h;omega
  ·rcases mem_append.1 h with h|h
   ·exact(hl k zT).2 h
   ·obtain rfl:k=i:=by simpa using h
    have:=p1 k hk;omega
  ·rcases hc k zT j hj hm with h|h
   ·exact .inl (mem_append.2 (.inl h))
   ·rcases mem_cons.1 h with rfl|h
    ·exact .inl zd
    ·exact .inr h
theorem JU(e:Ex)(ls:List (ByteArray × Ex)):NH ls [] (usesL e ls):=
 A7 _ _ (jU ls.length (Nat.le_refl _)) (fun i hi=>⟨uses_lt hi,by simp⟩) fun i hi j hj hm=>.inr (jB hi hj hm)
section
variable {sl : List ByteArray} {ls : List (ByteArray × Ex)} {env : List (ByteArray × Int)} (hl : iP ls ls.length env)
structure gN(sl:List ByteArray)(ls:List (ByteArray × Ex))(env:List (ByteArray × Int))(D:List Nat)(sett:List Bool)(dims:List Int):Prop where
 l1:sett.length=12
 l2:dims.length=12
 dom:∀j∈D,j<ls.length/\(ls.getD j default).1∈sl
 st:∀j∈D,sett.getD (slK sl (ls.getD j default).1) false=true/\dims.getD (slK sl (ls.getD j default).1) 0=(env.getD j default).2
theorem gN.zero:gN sl ls env [] (List.replicate 12 false) (List.replicate 12 0):=⟨by simp,by simp,fun _ h=>(by cases h),fun _ h=>(by cases h)⟩
theorem kF{α:Type}{l:List α}{k j:Nat}{x d:α}(hk:k<l.length):(l.set k x).getD j d=if k=j then x else l.getD j d:=by
 rw [getD_eq_getElem?_getD,getElem?_set];by_cases h:k=j
 ·subst h;simp [hk]
 ·rw [if_neg h,if_neg h,getD_eq_getElem?_getD]
include hl in
theorem gN.push{D:List Nat}{sett:List Bool}{dims:List Int}(h:gN sl ls env D sett dims)(hs:sl.length<=12){i:Nat}(hi:i<ls.length)(hn:(ls.getD i default).1∈sl) :
 gN sl ls env (D++[i]) (sett.set (slK sl (ls.getD i default).1) true) (dims.set (slK sl (ls.getD i default).1) (env.getD i default).2):=by
 have hk:=(kK hn).1;refine⟨by rw [length_set,h.l1],by rw [length_set,h.l2],fun j hj=>?_,fun j hj=>?_⟩
 ·rcases mem_append.1 hj with hj|hj
  ·exact h.dom j hj
  ·obtain rfl:j=i:=by simpa using hj
   exact⟨hi,hn⟩
 ·rw [kF (by rw [h.l1];omega),kF (by rw [h.l2];omega)];by_cases e:slK sl (ls.getD i default).1=slK sl (ls.getD j default).1
  ·rw [if_pos e,if_pos e]
   have hj':j<ls.length/\(ls.getD j default).1∈sl:=by
    rcases mem_append.1 hj with hj|hj
    ·exact h.dom j hj
    ·obtain rfl:j=i:=by simpa using hj
     exact⟨hi,hn⟩
   have en:=Ae hn hj'.2 e
   have:i=j:=by
    rcases Nat.lt_trichotomy i j with c|c|c
    ·exact absurd en (hl.inj i j c hj'.1)
    ·exact c
    ·exact absurd en.symm (hl.inj j i c hi)
   subst this;exact⟨rfl,rfl⟩
  ·rw [if_neg e,if_neg e];rcases mem_append.1 hj with hj|hj
   ·exact h.st j hj
   ·obtain rfl:j=i:=by simpa using hj
    exact absurd rfl e
include hl in
theorem Ak{D:List Nat}{sett:List Bool}{dims:List Int}(h:gN sl ls env D sett dims){i:Nat}(hi:i<=ls.length){e:Ex}(hf:ay e=true)(ht:(az (env.take i) e).2=0)(hD:∀j,j<i->aP (ls.getD j default).1 e=true->j∈D) :
 T9 (slK sl) (aN e) (env.take i) sl.length sett dims:=fun s hs hk=>by
 have hm:=nD e hs;rcases hl.named hi (jF e hf ht hm)with h0|⟨j,hj,rfl⟩
 ·exact absurd (qD hk) h0
 ·have hj':=hD j hj hm;refine⟨(kK (h.dom j hj').2).1,(h.st j hj').1, ?_⟩;rw [(h.st j hj').2];unfold fB;rw [if_neg (by have:=(hl.word j zb).1;simpa using this),hl.last i hj hi]
theorem jV{env':List (ByteArray × Int)}{e:Ex}{m:Int}(h:aQ env' e=(m,0)):ay (aN e)=true/\az env' (aN e)=(m,0)/\(aN e).depth<=24/\(aN e).size<=60/\bB e=true/\ay e=true/\az env' e=(m,0):=by
 obtain⟨h1,h2,h3⟩:=Jk h;have h4:=EW h1;unfold bB at h4;simp only [Bool.and_eq_true,decide_eq_true_eq]at h4;exact⟨h4.2,by rw [uK,h3],by omega,by omega,h1,h2,h3⟩
include hl in
theorem uR(hs:sl.length<=12):∀(U D:List Nat) (sett:List Bool) (dims:List Int) (q:List Dfn),gN sl ls env D sett dims->NH ls D U->(∀i∈U,(ls.getD i default).1∈sl)->
 (∀sett' dims',gN sl ls env (D++U) sett' dims'->jR sl.length sett' dims' q)->jR sl.length sett dims (U.map (eG sl ls env)++q)
 | [],D,sett,dims,q,h,_,_,hq=>hq _ _ (by rw [append_nil];exact h)
 |i::r,D,sett,dims,q,h,⟨⟨c1,c2,c3⟩,c4⟩,hn,hq=>by
  obtain⟨t1,t2,t3,-,-,t6,t7⟩:=jV (hl.ty i c1);refine⟨⟨t1,t2,t3,(kK (hn i zd)).1,Ak hl h zb t6 (by rw [t7]) c3⟩, ?_⟩;exact uR hs r (D++[i]) _ _ q (h.push hl hs c1 (hn i zd)) c4 (fun k hk=>hn k zT) (fun s d hsd=>hq s d (by simpa using hsd))
end
section
variable {ls : List (ByteArray × Ex)} {env : List (ByteArray × Int)} (hl : iP ls ls.length env) (h10 : ls.length <= 10) {e : Ex} {m : Int} (he : aQ env e = (m, 0))
include hl in
theorem IM{i:Nat}(hi:i<ls.length):isWord (ls.getD i default).1=true:=by
 have:=(hl.word i hi).2;unfold dI at this;exact(Bool.and_eq_true_iff.1 this).1
include hl in
theorem jD:∀U:List Nat,U.Pairwise (· < ·)->(∀i∈U,i<ls.length)->(U.map fun i=>(ls.getD i default).1).Nodup
 | [],_,_=>by simp
 |i::r,hp,hu=>by
  obtain⟨p1,p2⟩:=pairwise_cons.1 hp;rw [map_cons,nodup_cons];refine⟨fun h=>?_,jD r p2 fun k hk=>hu k zT⟩;obtain⟨j,hj,ej⟩:=mem_map.1 h;exact hl.inj i j (p1 j hj) (hu j (by simp [hj])) ej.symm
end
section
variable {sl : List ByteArray} {ls : List (ByteArray × Ex)} {env : List (ByteArray × Int)} (hl : iP ls ls.length env)
include hl in
theorem gN.defs(hs:sl.length<=12):∀(U D:List Nat) (sett:List Bool) (dims:List Int),gN sl ls env D sett dims->(∀i∈U,i<ls.length/\(ls.getD i default).1∈sl)->
 gN sl ls env (D++U) (qm sett (U.map (eG sl ls env))) (rZ dims (U.map (eG sl ls env)))
 | [],D,sett,dims,h,_=>by rw [append_nil];exact h
 |i::r,D,sett,dims,h,hu=>by
  have:=gN.defs hs r (D++[i]) _ _ (h.push hl hs (hu i zd).1 (hu i zd).2) (fun k hk=>hu k zT);rw [append_assoc]at this;exact this
theorem Ic(sett:List Bool)(a:List Dfn)(d:Dfn):qm sett (a++[d])=(qm sett a).set d.k true:=by unfold qm;rw [foldl_append];rfl
theorem JH(dims:List Int)(a:List Dfn)(d:Dfn):rZ dims (a++[d])=(rZ dims a).set d.k d.m:=by unfold rZ;rw [foldl_append];rfl
include hl in
theorem gN.other{D:List Nat}{sett:List Bool}{dims:List Int}(h:gN sl ls env D sett dims)(hs:sl.length<=12){s:ByteArray}(hn:s∈sl)(hw:dI s=false)(m:Int) :
 gN sl ls env D (sett.set (slK sl s) true) (dims.set (slK sl s) m)/\(sett.set (slK sl s) true).getD (slK sl s) false=true/\(dims.set (slK sl s) m).getD (slK sl s) 0=m:=by
 have hk:=(kK hn).1;refine⟨⟨by rw [length_set,h.l1],by rw [length_set,h.l2],h.dom,fun j hj=>?_⟩, ?_, ?_⟩
 ·have hne:slK sl s≠slK sl (ls.getD j default).1:=fun e=>by
   have:=Ae hn (h.dom j hj).2 e;have h2:=(hl.word j (h.dom j hj).1).2;rw [<-this,hw]at h2;cases h2
  rw [kF (by rw [h.l1];omega),kF (by rw [h.l2];omega),if_neg hne,if_neg hne];exact h.st j hj
 ·rw [kF (by rw [h.l1];omega),if_pos rfl]
 ·rw [kF (by rw [h.l2];omega),if_pos rfl]
end
def slotG(e f:Ex)(ls:List (ByteArray × Ex)):List ByteArray:=((List.range ls.length).filter fun i=>(usesL e ls).contains i || (usesL f ls).contains i).map (fun i=>(ls.getD i default).1)++[ifN,payN]
def useP(e f:Ex)(ls:List (ByteArray × Ex)):List Nat:=(usesL f ls).filter fun i=>!(usesL e ls).contains i
def fM(e f:Ex)(ls:List (ByteArray × Ex))(env:List (ByteArray × Int)):List Dfn:=(usesL e ls).map (eG (slotG e f ls) ls env)++[AR (slotG e f ls) env e ifN 1]
def lh(e f:Ex)(ls:List (ByteArray × Ex))(env:List (ByteArray × Int)):List Dfn:=(useP e f ls).map (eG (slotG e f ls) ls env)++[AR (slotG e f ls) env f payN 4]
def Pz(e f:Ex)(ls:List (ByteArray × Ex))(_:Nat):List Ins:=[⟨3,(slK (slotG e f ls) ifN:Nat),0,0⟩]
def uZ(e f:Ex)(ls:List (ByteArray × Ex))(env:List (ByteArray × Int)):List Ins:=aj (fM e f ls env) 0++dB (Pz e f ls) (lh e f ls env) (aj (fM e f ls env) 0).length
section
variable {ls : List (ByteArray × Ex)} {env : List (ByteArray × Int)} (hl : iP ls ls.length env) (h10 : ls.length <= 10) {e f : Ex} (he : aQ env e = (1, 0)) (hf : aQ env f = (4, 0))
theorem mU{i:Nat}(h:i∈usesL e ls):(ls.getD i default).1∈slotG e f ls:=
 mem_append.2 (.inl (mem_map.2 ⟨i,mem_filter.2 ⟨mem_range.2 (uses_lt h),by rw [contains_iff_mem.2 h];rfl⟩,rfl⟩))
theorem oZ{i:Nat}(h:i∈usesL f ls):(ls.getD i default).1∈slotG e f ls:=
 mem_append.2 (.inl (mem_map.2 ⟨i,mem_filter.2 ⟨mem_range.2 (uses_lt h),by rw [contains_iff_mem.2 h,Bool.or_true]⟩,rfl⟩))
theorem lS:ifN∈slotG e f ls:=by unfold slotG;simp
theorem qj:payN∈slotG e f ls:=by unfold slotG;simp
theorem useP_mem{i:Nat}(h:i∈useP e f ls):i∈usesL f ls/\i∉usesL e ls:=by
 obtain⟨h1,h2⟩:=mem_filter.1 h;exact⟨h1,fun c=>by rw [contains_iff_mem.2 c]at h2;cases h2⟩
theorem useP_or{i:Nat}(h:i∈usesL f ls):i∈usesL e ls\/i∈useP e f ls:=by
 by_cases c:i∈usesL e ls
 ·exact .inl c
 ·exact .inr (mem_filter.2 ⟨h,by rw [Bool.not_eq_true',Bool.eq_false_iff];exact fun h2=>c (contains_iff_mem.1 h2)⟩)
theorem Bp:(useP e f ls).Pairwise (· < ·):=(jU ls.length (Nat.le_refl _)).filter _
theorem Hw:NH ls (usesL e ls) (useP e f ls):=
 A7 _ _ Bp (fun i hi=>⟨uses_lt (useP_mem hi).1,(useP_mem hi).2⟩) fun i hi j hj hm=>useP_or (jB (useP_mem hi).1 hj hm)
include hl h10 in
theorem slotG_words:eO (slotG e f ls)=true/\(slotG e f ls).length<=12:=by
 have hfl:((List.range ls.length).filter fun i=>(usesL e ls).contains i || (usesL f ls).contains i).length<=ls.length:=Nat.le_trans (length_filter_le _ _) zd;have hu:∀i∈((List.range ls.length).filter fun i=>(usesL e ls).contains i || (usesL f ls).contains i),i<ls.length:=fun i hi=>mem_range.1 (mem_filter.1 hi).1
 have hlen:(slotG e f ls).length<=12:=by
  unfold slotG;rw [length_append,length_map];simp only [length_cons,length_nil];omega
 refine⟨?_,hlen⟩;unfold eO;rw [Bool.and_eq_true,Bool.and_eq_true,decide_eq_true_eq,decide_eq_true_eq,all_eq_true];refine⟨⟨hlen,fun s hs=>?_⟩, ?_⟩
 ·rcases mem_append.1 hs with h|h
  ·obtain⟨i,hi,rfl⟩:=mem_map.1 h;exact IM hl (hu i hi)
  ·have key:∀s∈[ifN,payN],isWord s=true:=by decide+kernel
   exact key s h
 ·unfold slotG;rw [nodup_append];refine⟨jD hl _ (List.Pairwise.filter _ pairwise_lt_range) hu,by decide+kernel,fun a ha b hb=>?_⟩;obtain⟨i,hi,rfl⟩:=mem_map.1 ha
  have hb2:dI b=false:=by
   have key:∀s∈[ifN,payN],dI s=false:=by decide+kernel
   exact key b hb
  intro c;have:=(hl.word i (hu i hi)).2;rw [c,hb2]at this;cases this
theorem kS{κ:ByteArray->Nat}{env':List (ByteArray × Int)}{e:Ex}{m:Int}(h:aQ env' e=(m,0))(i:Nat):(codeF κ (aN e) i).length<=180:=by
 obtain⟨u1,-,-,u4,-⟩:=jV h;have:=Dq (κ:=κ) (aN e) u1 i;omega
include hl h10 he hf in
theorem codeG_len:(uZ e f ls env).length<=4000:=by
 have a1:(aj (fM e f ls env) 0).length<=181*(fM e f ls env).length:=qN _ _ fun d hd i=>by
  rcases mem_append.1 hd with hd|hd
  ·obtain⟨j,hj,rfl⟩:=mem_map.1 hd;exact kS (hl.ty j (uses_lt hj)) i
  ·obtain rfl:d=_:=by simpa using hd
   exact kS he i
 have a2:=fun k=>(show(aj (lh e f ls env) k).length<=181*(lh e f ls env).length from qN _ _ fun d hd i=>by
  rcases mem_append.1 hd with hd|hd
  ·obtain⟨j,hj,rfl⟩:=mem_map.1 hd;exact kS (hl.ty j (uses_lt (useP_mem hj).1)) i
  ·obtain rfl:d=_:=by simpa using hd
   exact kS hf i)
 have n1:(fM e f ls env).length<=11:=by
  have:=usesG_length (e:=e) (ls:=ls) ls.length;unfold fM usesL;simp only [length_append,length_map,length_cons,length_nil];omega
 have n2:(lh e f ls env).length<=11:=by
  have h1:(useP e f ls).length<=(usesL f ls).length:=length_filter_le _ _;have:=usesG_length (e:=f) (ls:=ls) ls.length;unfold usesL at h1;unfold lh;simp only [length_append,length_map,length_cons,length_nil];omega
 have a3:=a2 ((aj (fM e f ls env) 0).length+1+1)
 have e1:(uZ e f ls env).length=(aj (fM e f ls env) 0).length+(1+((aj (lh e f ls env) ((aj (fM e f ls env) 0).length+1+1)).length+1)):=by
  unfold uZ dB;rw [length_append,length_append,length_cons];rfl
 rw [e1];omega
include hl h10 he hf in
theorem codeG_ver:∃d:Int,verA (uZ e f ls env) (slotG e f ls)=(d,0):=by
 obtain⟨hw,hn⟩:=slotG_words hl h10 (e:=e) (f:=f);obtain⟨t1,t2,t3,t4,-,t6,t7⟩:=jV he;obtain⟨u1,u2,u3,u4,-,u6,u7⟩:=jV hf;have htk:env.take ls.length=env:=take_of_length_le (by rw [hl.len];exact Nat.le_refl _);have hs1:=gN.defs hl hn (usesL e ls) [] _ _ gN.zero (fun i hi=>⟨uses_lt hi,mU hi⟩);rw [nil_append]at hs1;obtain⟨hs2,hs3,hs4⟩:=hs1.other hl hn lS uz.1 1;have es:qm (List.replicate 12 false) (fM e f ls env)=(qm (List.replicate 12 false) ((usesL e ls).map (eG (slotG e f ls) ls env))).set (slK (slotG e f ls) ifN) true:=Ic _ _ _;have ed:rZ (List.replicate 12 0) (fM e f ls env)=(rZ (List.replicate 12 0) ((usesL e ls).map (eG (slotG e f ls) ls env))).set (slK (slotG e f ls) ifN) 1:=JH _ _ _;rw [<-es,<-ed]at hs2;rw [<-es]at hs3;rw [<-ed]at hs4
 have h3:((fM e f ls env++lh e f ls env).map Dfn.k).Nodup:=by
  have e1:(fM e f ls env++lh e f ls env).map Dfn.k=(((usesL e ls).map (fun i=>(ls.getD i default).1)++[ifN])++((useP e f ls).map (fun i=>(ls.getD i default).1)++[payN])).map (slK (slotG e f ls)):=by
   unfold fM lh;simp only [map_append,map_map,map_cons,map_nil];rfl
  rw [e1]
  have hnd:(((usesL e ls).map (fun i=>(ls.getD i default).1)++[ifN])++((useP e f ls).map (fun i=>(ls.getD i default).1)++[payN])).Nodup:=by
   have nw:∀i,i<ls.length->(ls.getD i default).1≠ifN/\(ls.getD i default).1≠payN:=fun i hi=>by
    have:=(hl.word i hi).2;refine⟨fun c=>?_,fun c=>?_⟩
    ·rw [c,uz.1]at this;cases this
    ·rw [c,uz.2.1]at this;cases this
   have ip:ifN≠payN:=by decide+kernel
   rw [nodup_append,nodup_append,nodup_append];refine⟨⟨jD hl _ (jU ls.length (Nat.le_refl _)) (fun i hi=>uses_lt hi),by simp,fun a ha b hb=>?_⟩,⟨jD hl _ Bp (fun i hi=>uses_lt (useP_mem hi).1),by simp,fun a ha b hb=>?_⟩,fun a ha b hb=>?_⟩
   ·obtain rfl:b=ifN:=by simpa using hb
    obtain⟨i,hi,rfl⟩:=mem_map.1 ha;exact(nw i (uses_lt hi)).1
   ·obtain rfl:b=payN:=by simpa using hb
    obtain⟨i,hi,rfl⟩:=mem_map.1 ha;exact(nw i (uses_lt (useP_mem hi).1)).2
   ·rcases mem_append.1 ha with ha|ha<;>rcases mem_append.1 hb with hb|hb
    ·obtain⟨i,hi,rfl⟩:=mem_map.1 ha;obtain⟨j,hj,rfl⟩:=mem_map.1 hb;have hil:=uses_lt hi;have hjl:=uses_lt (useP_mem hj).1;intro c;rcases Nat.lt_trichotomy i j with h|h|h
     ·exact hl.inj i j h hjl c
     ·subst h;exact(useP_mem hj).2 hi
     ·exact hl.inj j i h hil c.symm
    ·obtain rfl:b=payN:=by simpa using hb
     obtain⟨i,hi,rfl⟩:=mem_map.1 ha;exact(nw i (uses_lt hi)).2
    ·obtain rfl:a=ifN:=by simpa using ha
     obtain⟨j,hj,rfl⟩:=mem_map.1 hb;exact fun c=>(nw j (uses_lt (useP_mem hj).1)).1 c.symm
    ·obtain rfl:a=ifN:=by simpa using ha
     obtain rfl:b=payN:=by simpa using hb
     exact ip
  have hsub:∀s∈(((usesL e ls).map (fun i=>(ls.getD i default).1)++[ifN])++((useP e f ls).map (fun i=>(ls.getD i default).1)++[payN])),s∈slotG e f ls:=fun s hs=>by
   rcases mem_append.1 hs with hs|hs<;>rcases mem_append.1 hs with hs|hs
   ·obtain⟨i,hi,rfl⟩:=mem_map.1 hs;exact mU hi
   ·obtain rfl:s=ifN:=by simpa using hs
    exact lS
   ·obtain⟨i,hi,rfl⟩:=mem_map.1 hs;exact oZ (useP_mem hi).1
   ·obtain rfl:s=payN:=by simpa using hs
    exact qj
  generalize(((usesL e ls).map (fun i=>(ls.getD i default).1)++[ifN])++((useP e f ls).map (fun i=>(ls.getD i default).1)++[payN]))=L at *;clear e1
  induction L with
  |nil=>simp
  |cons a r ih=>
   rw [nodup_cons]at hnd;rw [map_cons,nodup_cons];refine⟨fun c=>?_,ih hnd.2 (fun s hs=>hsub s (by simp [hs]))⟩;obtain⟨b,hb,eb⟩:=mem_map.1 c;rw [Ae (hsub b (by simp [hb])) (hsub a zd) eb]at hb;exact hnd.1 hb
 have h4:jR (slotG e f ls).length (List.replicate 12 false) (List.replicate 12 0) (fM e f ls env):=by
  refine uR hl hn _ _ _ _ _ gN.zero (JU e ls) (fun i hi=>mU hi) fun s d hsd=>?_;rw [nil_append]at hsd;refine⟨⟨t1,t2,t3,(kK lS).1, ?_⟩,trivial⟩;have:=Ak hl hsd (Nat.le_refl _) t6 (by rw [htk,t7]) fun j hj hm=>jA hj hm;rw [htk]at this;exact this
 have h5:jR (slotG e f ls).length (qm (List.replicate 12 false) (fM e f ls env)) (rZ (List.replicate 12 0) (fM e f ls env)) (lh e f ls env):=by
  refine uR hl hn _ _ _ _ _ hs2 Hw (fun i hi=>oZ (useP_mem hi).1) fun s d hsd=>?_;refine⟨⟨u1,u2,u3,(kK qj).1, ?_⟩,trivial⟩
  have:=Ak hl hsd (Nat.le_refl _) u6 (by rw [htk,u7]) fun j hj hm=>by
   rcases useP_or (e:=e) (jA hj hm)with h|h
   ·exact mem_append.2 (.inl h)
   ·exact mem_append.2 (.inr h)
  rw [htk]at this;exact this
 have hki:=(kK (lS (e:=e) (f:=f) (ls:=ls))).1;have hlen:=codeG_len hl h10 he hf
 have hgv:∀i,Ver (qm (List.replicate 12 false) (fM e f ls env)) (rZ (List.replicate 12 0) (fM e f ls env)) (Pz e f ls i) i [] [1]:=fun i=>by
  unfold Pz;refine Ver.one ?_ zf (by show(3:Int)≠21;decide) (by show(3:Int)≠22;decide);unfold eU;dsimp only;rw [if_neg zf,if_neg zf,if_neg zf,if_neg zf,if_pos rfl,Int.toNat_natCast,hs3,if_pos rfl,hs4];rfl
 obtain⟨d,hd,-⟩:=Eu (p:=fM e f ls env) (q:=lh e f ls env) (g:=Pz e f ls) (sl:=slotG e f ls) hlen hw h3 h4 hgv (fun i=>⟨_,_,rfl,by show(3:Int)≠21;decide⟩) (fun i n hi=>⟨.one (xY (.inl rfl) hki),rfl⟩) (by unfold lh;simp) h5;exact⟨d,hd⟩
end
open Go.RowKit
theorem aD.growsG{w w':World}{v:Value}{zs:List Int}(h:aD w v zs)(hg:w.Grows w'):aD w' v zs:=by
 obtain⟨bs,d,rfl⟩:=hg;exact h.grow bs d
theorem aD.list{w:World}{v:Value}{zs:List Int}{s:Nat}(h:aD w v zs)(hs:w.heap.size<=s):aF w s v zs:=by
 obtain⟨h0,-,a,cap,hv,h1⟩:=h;refine⟨h0,a,cap,hv,h1.imp id ?_⟩;rintro⟨b,off,ha,hb,hc⟩;exact⟨b,off,ha,hb,by omega,hc⟩
theorem mQ(zs:List Int)(env:List (ByteArray × Int))(dim:Int):(jW zs env dim).size<=1000000:=by
 have h1:=uL zs env 5 dim 0 24;have h2:=jb zs env dim (aM zs env 5 dim 0 24).2.1 0;have hc5:aK 5=2307:=rfl;unfold jW
 split<;>omega
def vL(l:List (ByteArray × Val)):List Value:=l.flatMap fun p=>[.string p.1,.int .i64 p.2.dim,.bool p.2.yes,.int .i64 p.2.n,.int .i64 p.2.d]
theorem KM(l:List (ByteArray × Val)):(vL l).length=l.length*5:=by
 induction l with
 |nil=>rfl
 |cons p r ih=>unfold vL at *;rw [flatMap_cons,length_append,ih];simp;omega
theorem KN(l:List (ByteArray × Val)):∀i,i<l.length->(vL l)[i*5]? =some (.string (stN l i))/\(vL l)[i*5+1]? =some (.int .i64 (stV l i).dim)/\(vL l)[i*5+2]? =some (.bool (stV l i).yes)/\(vL l)[i*5+3]? =some (.int .i64 (stV l i).n)/\(vL l)[i*5+4]? =some (.int .i64 (stV l i).d):=by
 induction l with
 |nil=>intro i hi;simp at hi
 |cons p r ih=>
  intro i hi
  cases i with
  |zero=>exact⟨rfl,rfl,rfl,rfl,rfl⟩
  |succ i=>
   have h:=ih i yc
   have e:∀j,(vL (p::r))[(i+1)*5+j]? =(vL r)[i*5+j]?:=fun j=>by
    rw [show(i+1)*5+j=i*5+j+5 by omega];rfl
   have e0:=e 0;rw [Nat.add_zero,Nat.add_zero]at e0;rw [e0,e 1,e 2,e 3,e 4];exact h
theorem lG.of_own{w:World}{base:Nat}{v:Value}{l:List (ByteArray × Val)}(h:w.ownsRow base 70 5 v l.length (vL l))(hl:l.length<=1000):lG w v l:=by
 obtain⟨-,⟨rfl,h0⟩|⟨g,cap,cur,rfl,hb,hg,h2,h3,h4,h5⟩⟩:=id h
 ·exact⟨by omega,none,0,by rw [h0],.inl h0⟩
 ·refine⟨by omega,_,cap,rfl,.inr ⟨g,0,rfl,(Array.getElem?_eq_some_iff.1 hg).1,fun i hi=>?_⟩⟩;obtain⟨g0,g1,g2,g3,g4⟩:=KN l i hi;have hL:=KM l;rw [Nat.zero_add];exact⟨(h.cellAt (i*5) zb).trans g0,(h.cellAt (i*5+1) zb).trans g1,(h.cellAt (i*5+2) zb).trans g2,(h.cellAt (i*5+3) zb).trans g3,(h.cellAt (i*5+4) zb).trans g4⟩
def StpP(l:List (ByteArray × Val))(w:World)(e:Ending)(w':World):Prop:=∃v,e= .returned v/\w.Grows w'/\lG w' v l
section
variable {B H : Nat} {W w w' : World} {v : Value}
end
theorem lG.same{w w':World}{v:Value}{st:List (ByteArray × Val)}(h:lG w v st)(hs:w.heap.size<=w'.heap.size)(hk:∀k,v.ownBlock=some k->w'.heap[k]? =w.heap[k]?):lG w' v st:=by
 obtain⟨h0,a,cap,rfl,h1⟩:=h;refine⟨h0,a,cap,rfl,h1.imp id ?_⟩;rintro⟨b,off,rfl,hb,hc⟩;refine⟨b,off,rfl,Nat.lt_of_lt_of_le hb hs,fun j hj=>?_⟩;have e:∀o,w'.cell? ⟨b,o,none⟩=w.cell? ⟨b,o,none⟩:=fun o=>World.cell?_of_block (hk b rfl);obtain⟨c0,c1,c2,c3,c4⟩:=hc j hj;exact⟨(e _).trans c0,(e _).trans c1,(e _).trans c2,(e _).trans c3,(e _).trans c4⟩
theorem bO.alloc{T:List Tk}{g c n p:Nat}{a:Option Addr}{w:World}(h:bO T g a c n p w)(o:Obj):bO T g a c n p (w.alloc o):=h.grows growsR
theorem bO.grow{T:List Tk}{g c n p:Nat}{a:Option Addr}{w:World}(h:bO T g a c n p w)(bs:Array Obj)(d:Nat):bO T g a c n p (w.grow bs d):=h.grows growsR
theorem bO.to{T:List Tk}{g c n p:Nat}{a:Option Addr}{w:World}(h:bO T g a c n p w)(q:Nat):bO T g a c n q (w.setCell ⟨g,1,none⟩ (.int .i64 (q:Nat))):=by
 obtain⟨h0,b,rfl,hb,hc⟩:=h.tk;have hne:=h.ne b rfl;have hw:(w.setCell ⟨g,1,none⟩ (.int .i64 (q:Nat))).heap[b]? =w.heap[b]?:=Below.heap_setCell _ _ _ _ hne;refine⟨?_,⟨h0,b,rfl,by simpa using hb,fun k hk=>?_⟩,h.ne⟩
 ·have:=Joins.block_setCell (i:=1) h.rd (.int .i64 (q:Nat));simpa using this
 ·exact Tp
theorem jC(w:World)(g:Nat)(v v':Value):(w.setCell ⟨g,1,none⟩ v).setCell ⟨g,1,none⟩ v'=w.setCell ⟨g,1,none⟩ v':=by
 simp only [World.setCell]
 congr 1
 apply Array.ext_getElem?;intro k;simp only [Array.getElem?_modify];by_cases hk:g=k
 ·subst hk
  cases w.heap[g]? with
  |none=>simp
  |some o=>cases o<;>simp
 ·simp [hk]
def ExQ(g q:Nat)(E:Ex)(X:World)(e:Ending)(w':World):Prop:=∃v bs d,e= .returned (.agg #[.int .i64 E.op,.int .i64 E.num,.int .i64 E.den,.int .i64 E.dim,.string E.name,v])/\w'=(X.setCell ⟨g,1,none⟩ (.int .i64 (q:Nat))).grow bs d/\ax (X.heap.size<=·) w' E v
def ExO(T:List Tk)(g c n:Nat)(a:Option Addr)(lev:Int)(p q:Nat)(E:Ex):Prop:=∀X,bO T g a c n p X->Calls prog 81 #[.pointer (some ⟨g,0,none⟩),.int .i64 lev] X (ExQ g q E X)
def FcO(T:List Tk)(g c n:Nat)(a:Option Addr)(p q:Nat)(E:Ex):Prop:=∀X,bO T g a c n p X->Calls prog 130 #[.pointer (some ⟨g,0,none⟩)] X (ExQ g q E X)
theorem ExQ.of{g q:Nat}{E:Ex}{X w':World}{v:Value}(hw:(X.setCell ⟨g,1,none⟩ (.int .i64 (q:Nat))).Grows w')(hr:ax (X.heap.size<=·) w' E v):ExQ g q E X (.returned (.agg #[.int .i64 E.op,.int .i64 E.num,.int .i64 E.den,.int .i64 E.dim,.string E.name,v])) w':=by
 obtain⟨bs,d,rfl⟩:=hw;exact⟨v,bs,d,rfl,rfl,hr⟩
theorem Fe(T:List Tk)(g c n p q:Nat)(a:Option Addr)(E:Ex)(HF:Hid (FcO T g c n a p q E)):ExO T g c n a 7 p q E:=by
 intro w h;have HR:=yq h;have c0:=cell_of_row w g 0 _ _ _ h.rd;have c3:=cell_of_row w g 3 _ _ _ h.rd;have hf:=fun j=>Joins.unfrozen_of_block h.rd j;have hg:=h.lt;clear h
 go_enter func81,ntmps81
 go_wp2_with (go_at_call 130;refine(HF.out _ (HR.out.alloc _)).mono ?_;rintro e' w' ⟨v,bs,d,rfl,rfl,HRP⟩;obtain⟨va,vc,rfl⟩:=ax.form HRP;have HRP:=yq HRP)
 go_returns
 exact ExQ.of growsR ((HRP.out.lift0 zd zd d).mono fun b hb=>by simp at hb;omega)
attribute [local go_sem] jC
theorem bO.drew{T:List Tk}{g c n p:Nat}{a:Option Addr}{w:World}(h:bO T g a c n p w):bO T g a c n p w.drew:=h.keep (Nat.le_refl _) fun _ _=>rfl
theorem Qq(w:World)(g:Nat)(v v':Value)(z z' o o':Obj)(bs bs2 bs3:Array Obj)(d d2 d' d3 b:Nat)(h:w.heap.size+1<=b)(hne:b≠w.heap.size+1+bs.size)(hlt:b<w.heap.size+1+bs.size+1+bs2.size) :
 (((((w.setCell ⟨g,1,none⟩ v').alloc z').grow bs d').alloc o').grow (bs2++bs3) d3).heap[b]? =(((((w.setCell ⟨g,1,none⟩ v).alloc z).grow bs d).alloc o).grow bs2 d2).heap[b]?:=by
 have e1:∀u,(w.setCell ⟨g,1,none⟩ u).heap.size=w.heap.size:=fun u=>World.size_setCell _ _ _;simp only [World.grow,World.alloc,Array.getElem?_append,Array.getElem?_push,Array.size_append,Array.size_push,e1]
 repeat' split
 all_goals first|rfl|omega
theorem ax.boxed{w:World}{g:Nat}{v:Value}{z o:Obj}{bs bs2:Array Obj}{d d2:Nat}{e:Ex}{u:Value}(h:ax (fun b=>w.heap.size+1<=b/\b≠w.heap.size+1+bs.size) (((((w.setCell ⟨g,1,none⟩ v).alloc z).grow bs d).alloc o).grow bs2 d2) e u)(v':Value)(z' o':Obj)(d' d3:Nat)(bs3:Array Obj) :
 ax (fun b=>w.heap.size+1<=b/\b≠w.heap.size+1+bs.size) (((((w.setCell ⟨g,1,none⟩ v').alloc z').grow bs d').alloc o').grow (bs2++bs3) d3) e u:=
 h.keep yb fun b o hb hlt=>World.cell?_of_block (Qq w g _ _ _ _ _ _ bs bs2 bs3 _ _ _ _ b hb.1 hb.2 (by simpa using hlt))
theorem Mw{A W:World}{C:Prop}(h:A.Grows W)(hc:C):∃bs d,W=A.grow bs d/\C:=by
 obtain⟨bs,d,rfl⟩:=h;exact⟨bs,d,rfl,hc⟩
def Chn(T:List Tk)(g c n:Nat)(a:Option Addr)(lev:Int):Nat->Nat->Ex->Nat->Ex->Prop
 |0,q,E,q',E'=>q=q'/\E=E'/\∀j,j<12->nJ T q lev j=false
 |m+1,q,E,q',E'=>∃(k q2:Nat) (E2:Ex),k<12/\nJ T q lev k=true/\(∀j,j<k->nJ T q lev j=false)/\q<q2/\ExO T g c n a (lev+1) (q+1) q2 E2/\Chn T g c n a lev m q2 (.mk (7+k) 0 0 0 ByteArray.empty [E,E2]) q' E'
theorem DK.no{T:List Tk}{p:Nat}{lv r:Int}(h:DK T p lv r)(hn:∀j,j<12->nJ T p lv j=false):r=0:=by
 rcases h with h|⟨k,hk,_,hh,_⟩
 ·exact h.1
 ·rw [hn k hk]at hh;cases hh
theorem DK.yes{T:List Tk}{p k:Nat}{lv r:Int}(h:DK T p lv r)(hk:k<12)(hh:nJ T p lv k=true)(hn:∀j,j<k->nJ T p lv j=false):r=7+k:=by
 rcases h with h|⟨j,hj,e,hh2,hn2⟩
 ·rw [h.2 k hk]at hh;cases hh
 ·rcases Nat.lt_trichotomy j k with h|h|h
  ·rw [hn j h]at hh2;cases hh2
  ·rw [e,h]
  ·rw [hn2 k h]at hh;cases hh
theorem Ro{T:List Tk}{p k:Nat}{lv:Int}(h:nJ T p lv k=true):p<T.length:=by
 unfold nJ isB at h;simp at h;exact h.2.1
theorem R5(T:List Tk)(g c n p:Nat)(a:Option Addr)(lv:Int)(w:World)(h:bO T g a c n p w)(hn:∀j,j<12->nJ T p lv j=false):Calls prog 131 #[.pointer (some ⟨g,0,none⟩),.int .i64 lv] w fun e w'=>e= .returned (.int .i64 0)/\w.Grows w':=
 (vv T g c n p a lv w h).mono fun e w' h=>by obtain⟨r,he,hb,hw⟩:=h;rw [hb.no hn]at he;exact⟨he,hw⟩
theorem Qt(T:List Tk)(g c n p k:Nat)(a:Option Addr)(lv:Int)(w:World)(h:bO T g a c n p w)(hk:k<12)(hh:nJ T p lv k=true)(hn:∀j,j<k->nJ T p lv j=false):Calls prog 131 #[.pointer (some ⟨g,0,none⟩),.int .i64 lv] w fun e w'=>e= .returned (.int .i64 (7+(k:Int)))/\w.Grows w':=
 (vv T g c n p a lv w h).mono fun e w' h=>by obtain⟨r,he,hb,hw⟩:=h;rw [hb.yes hk hh hn]at he;exact⟨he,hw⟩
theorem gZ(T:List Tk)(g c n p q q9 m:Nat)(a:Option Addr)(lev:Int)(E E9:Ex)(hl:1<=lev/\lev<=6)(h3:(lev==3)=false)(h4:m=0\/(lev==4)=false)(HS:Hid (ExO T g c n a (lev+1) p q E))(HC:Hid (Chn T g c n a lev m q E q9 E9)):ExO T g c n a lev p q9 E9:=by
 intro w h;have HR:=yq h;have HRQ:=yq h;have HR1:=yq h;have c0:=cell_of_row w g 0 _ _ _ h.rd;have c1:=cell_of_row w g 1 _ _ _ h.rd;have c2:=cell_of_row w g 2 _ _ _ h.rd;have c3:=cell_of_row w g 3 _ _ _ h.rd;have hf:=fun j=>Joins.unfrozen_of_block h.rd j;have hg:=h.lt;have h0:(lev==0)=false:=by simp;omega
 have h7:(lev==7)=false:=by simp;omega
 have H4:=yq h4;clear h h4
 go_enter func81,ntmps81
 go_wp2_with (go_at_call 81;refine(HS.out _ (yf)).mono ?_;rintro e' w' ⟨v,bs,d,rfl,rfl,HRP⟩;obtain⟨va,vc,rfl⟩:=ax.form HRP;have HRP:=yq HRP)
 have HQ0:Hid (ax (fun b=>w.heap.size+1<=b/\b≠w.heap.size+1+bs.size) ((((w.setCell ⟨g,1,none⟩ (.int .i64 (q:Nat))).alloc ((.cells #[.int .i64 0,.int .i64 0,.int .i64 0,.int .i64 0,.string ⟨#[]⟩,.slice none 0 0] 27))).grow bs d).alloc (.cells #[.int .i64 E.op,.int .i64 E.num,.int .i64 E.den,.int .i64 E.dim,.string E.name,.slice va E.args.length vc] 27)) E (.slice va E.args.length vc)):=yq (((HRP.out.lift0 (A':=(w.setCell ⟨g,1,none⟩ (.int .i64 (q:Nat))).alloc ((.cells #[.int .i64 0,.int .i64 0,.int .i64 0,.int .i64 0,.string ⟨#[]⟩,.slice none 0 0] 27))) zd zd d).mono' (S':=fun b=>w.heap.size+1<=b/\b≠w.heap.size+1+bs.size) fun b hb hlt=>by simp at hb hlt;omega).alloc _);clear HRP
 go_loopw [] (fun wr=>∃(m q:Nat) (E:Ex) (va:Option Addr) (vc:Nat) (bs2:Array Obj) (d2:Nat),wr=((((w.setCell ⟨g,1,none⟩ (.int .i64 (q:Nat))).alloc ((.cells #[.int .i64 0,.int .i64 0,.int .i64 0,.int .i64 0,.string ⟨#[]⟩,.slice none 0 0] 27))).grow bs d).alloc (.cells #[.int .i64 E.op,.int .i64 E.num,.int .i64 E.den,.int .i64 E.dim,.string E.name,.slice va E.args.length vc] 27)).grow bs2 d2/\Hid (ax (fun b=>w.heap.size+1<=b/\b≠w.heap.size+1+bs.size) wr E (.slice va E.args.length vc))/\Hid (Chn T g c n a lev m q E q9 E9)/\Hid (m=0\/(lev==4)=false)) (fun wr=>T.length-(intOf ((wr.cell? ⟨g,1,none⟩).getD undef)).toNat)
 case atStart=>exact⟨m,q,E,va,vc,#[],_,World.grow_self _,HQ0,HC,H4⟩
 case round=>
  clear HC H4 HQ0 HS;obtain⟨m,q,E,va,vc,bs2,d2,rfl,HRP,HC,H4⟩:=hrel;have HRQ:=yq (HR.out.to q)
  cases m with
  |zero=>
   obtain⟨rfl,rfl,hno⟩:=HC.out;have HB:=yq (fun X (hX:bO T g a c n q X)=>R5 T g c n q a lev X hX hno);clear HC hno
   go_wp2_with (go_at_call 131;refine gv (HB.out _ (yf)) ?_;intro bs3 d3)
   go_returns
   exact ExQ.of growsR ((HRP.out.boxed _ _ _ _ _ bs3).mono fun b hb=>by have:=hb.1;omega)
  |succ m=>
   obtain⟨k,q2,E2,hk,hh,hn,hq2,HE,HC2⟩:=HC.out;have HB:=yq (fun X (hX:bO T g a c n q X)=>Qt T g c n q k a lev X hX hk hh hn);have HQ2:=yq hq2;have HQT:=yq (Ro hh);have HEX:=yq HE;have HC9:=yq HC2;have h44:(lev==4)=false:=H4.out.resolve_left zb;have HR1:Hid (bO T g a c n (q+1) (w.setCell ⟨g,1,none⟩ (.int .i64 ((q:Int)+1)))):=yq (HR.out.to (q+1));have h80:q<=8000:=by have:=HR.out.tk.1;have:=HQT.out;omega
   clear HC hh hn hq2 HE HC2
   go_wp2_with (go_at_call 131;refine gv (HB.out _ (yf)) ?_;intro bs3 d3)
   refine TG.begin 8 (fun w'=>w'.cell? ⟨w.heap.size+1+bs.size,0,none⟩=some (.int .i64 E.op)/\w'.cell? ⟨w.heap.size+1+bs.size,1,none⟩=some (.int .i64 E.num)/\w'.cell? ⟨w.heap.size+1+bs.size,2,none⟩=some (.int .i64 E.den)/\w'.cell? ⟨w.heap.size+1+bs.size,3,none⟩=some (.int .i64 E.dim)/\w'.cell? ⟨w.heap.size+1+bs.size,4,none⟩=some (.string E.name)/\w'.cell? ⟨w.heap.size+1+bs.size,5,none⟩=some (.slice va E.args.length vc)) ze ze ?_ (fun hS=>?_);focus(refine⟨?_, ?_, ?_, ?_, ?_, ?_⟩<;>simp [go_sem])
   refine TG.tkB 0 hS ?_;refine TG.tkB 1 hS ?_;refine TG.tkB 2 hS ?_;refine TG.tkB 3 hS ?_;refine TG.tkB 4 hS ?_;refine TG.one (i:=5) ze rfl (fun K1 hK1=>?_)
   go_simp
   rw [show IntKind.i64.wrap (lev+1)=lev+1 from IntWalk.i64_in _ zb]
   go_at_call 81
   refine(HEX.out _ (yf)).mono ?_;rintro e' w' ⟨v2,bs4,d4,rfl,rfl,HRP2⟩;obtain⟨va2,vc2,rfl⟩:=ax.form HRP2;have HRP2:=yq HRP2;have H2:=yq ((HRP2.out.lift0 (A':=(((((w.setCell ⟨g,1,none⟩ (.int .i64 (q2:Nat))).alloc ((.cells #[.int .i64 0,.int .i64 0,.int .i64 0,.int .i64 0,.string ⟨#[]⟩,.slice none 0 0] 27))).grow bs d).alloc (.cells #[.int .i64 E.op,.int .i64 E.num,.int .i64 E.den,.int .i64 E.dim,.string E.name,.slice va E.args.length vc] 27)).grow (bs2++bs3) (d3+1))) zd zd d4).mono' (S':=fun b=>w.heap.size+1<=b/\b≠w.heap.size+1+bs.size) fun b hb hlt=>by simp at hb hlt;omega);clear HRP2;refine TG.go hK1 ?_ (fun hS=>?_)
   focus
    (try dsimp only)
    (refine⟨?_, ?_, ?_, ?_, ?_, ?_⟩<;>simp [go_sem])
   clear hK1 K1
   (try simp only [nS])
   refine TG.one (i:=6) ze rfl (fun K1 hK1=>?_)
   go_simp
   refine TG.go hK1 ?_ (fun hS=>?_)
   focus
    (try dsimp only)
    (refine⟨?_, ?_, ?_, ?_, ?_, ?_⟩<;>simp [go_sem])
   clear hK1 K1
   (try simp only [nS])
   refine TG.tkB 7 hS ?_;refine TG.one (i:=8) ze rfl (fun K1 hK1=>?_)
   go_simp
   refine hK1 _ _ (fun h=>absurd rfl h) (TG.done ze ?_);clear hK1 K1 hS
   (try simp only [nS])
   go_wp2_with fail
   go_roundw
   case rel=>
    have R1:=(HRP.out.boxed (.int .i64 (q2:Nat)) ((.cells #[.int .i64 0,.int .i64 0,.int .i64 0,.int .i64 0,.string ⟨#[]⟩,.slice none 0 0] 27)) ((.cells #[.int .i64 (7+(k:Int)),.int .i64 0,.int .i64 0,.int .i64 0,.string ⟨#[]⟩,.slice (some ⟨w.heap.size+1+bs.size+1+(bs2.size+(bs3.size+bs4.size)),0,none⟩) 2 2] 27)) d d4 (bs3++bs4)).alloc ((.cells #[.int .i64 E.op,.int .i64 E.num,.int .i64 E.den,.int .i64 E.dim,.string E.name,.slice va E.args.length vc,.int .i64 E2.op,.int .i64 E2.num,.int .i64 E2.den,.int .i64 E2.dim,.string E2.name,.slice va2 E2.args.length vc2] 27));have R2:=((H2.out.eqw (w':=((((w.setCell ⟨g,1,none⟩ (.int .i64 (q2:Nat))).alloc ((.cells #[.int .i64 0,.int .i64 0,.int .i64 0,.int .i64 0,.string ⟨#[]⟩,.slice none 0 0] 27))).grow bs d).alloc (.cells #[.int .i64 E.op,.int .i64 E.num,.int .i64 E.den,.int .i64 E.dim,.string E.name,.slice va E.args.length vc] 27)).grow (bs2++(bs3++bs4)) d4) zd).boxed (.int .i64 (q2:Nat)) ((.cells #[.int .i64 0,.int .i64 0,.int .i64 0,.int .i64 0,.string ⟨#[]⟩,.slice none 0 0] 27)) ((.cells #[.int .i64 (7+(k:Int)),.int .i64 0,.int .i64 0,.int .i64 0,.string ⟨#[]⟩,.slice (some ⟨w.heap.size+1+bs.size+1+(bs2.size+(bs3.size+bs4.size)),0,none⟩) 2 2] 27)) d d4 #[]).alloc ((.cells #[.int .i64 E.op,.int .i64 E.num,.int .i64 E.den,.int .i64 E.dim,.string E.name,.slice va E.args.length vc,.int .i64 E2.op,.int .i64 E2.num,.int .i64 E2.den,.int .i64 E2.dim,.string E2.name,.slice va2 E2.args.length vc2] 27));rw [Array.append_empty]at R2;have R3:=ax.pair (7+k) zb (b:=w.heap.size+1+bs.size+1+(bs2.size+(bs3.size+bs4.size))) ⟨by omega,by omega⟩ (heap_new _ _ _ zd) R1 R2;exact⟨m,q2,.mk (7+k) 0 0 0 ByteArray.empty [E,E2],_,2,Mw (A:=(((w.setCell ⟨g,1,none⟩ (.int .i64 (q2:Nat))).alloc ((.cells #[.int .i64 0,.int .i64 0,.int .i64 0,.int .i64 0,.string ⟨#[]⟩,.slice none 0 0] 27))).grow bs d).alloc ((.cells #[.int .i64 (7+(k:Int)),.int .i64 0,.int .i64 0,.int .i64 0,.string ⟨#[]⟩,.slice (some ⟨w.heap.size+1+bs.size+1+(bs2.size+(bs3.size+bs4.size)),0,none⟩) 2 2] 27))) growsR ⟨yq R3,HC9,yq (.inr h44)⟩⟩
   case measure=>
    have:=HQ2.out;have:=HQT.out;simp [go_sem,intOf,c1,hg];omega
attribute [local go_sem] jC
theorem Ov(w:World)(g:Nat)(v:Value)(z z':Obj)(bs bs2:Array Obj)(d d2 d3 b:Nat)(h:w.heap.size+1+bs.size<=b) :
 (((w.setCell ⟨g,1,none⟩ v).alloc z').grow (bs++bs2) d3).heap[b]? =((((w.alloc z).grow bs d).setCell ⟨g,1,none⟩ v).grow bs2 d2).heap[b]?:=by
 rw [World.grow,World.grow];have e1:((w.setCell ⟨g,1,none⟩ v).alloc z').heap.size=w.heap.size+1:=by simp
 have e2:(((w.alloc z).grow bs d).setCell ⟨g,1,none⟩ v).heap.size=w.heap.size+1+bs.size:=by simp
 simp only [];rw [Array.getElem?_append_right zb,Array.getElem?_append_right zb,Array.getElem?_append_right zb,e1,e2]
 congr 1
 omega
theorem oV(T:List Tk)(g c n p:Nat)(a:Option Addr)(s:ByteArray)(w:World)(h:bO T g a c n p w)(hb:isB T p s=false):Calls prog 128 #[.pointer (some ⟨g,0,none⟩),.string s] w fun e w'=>e= .returned (.bool false)/\w.Grows w':=by
 have HI:=yq (EG T g c n p a s w h);rw [hb]at HI;have hg:=h.lt;clear h
 go_enter func128,ntmps128
 go_wp2_with (go_at_call 164;refine gv (HI.out) ?_;intro bs d)
 exact uH
theorem RN(T:List Tk)(g c n p q:Nat)(a:Option Addr)(E:Ex)(hb:isB T p ⟨#[110,111,116]⟩=false)(HS:Hid (ExO T g c n a 4 p q E)):ExO T g c n a 3 p q E:=by
 intro w h;have HR:=yq h;have HR1:=yq h;have c0:=cell_of_row w g 0 _ _ _ h.rd;have c1:=cell_of_row w g 1 _ _ _ h.rd;have c2:=cell_of_row w g 2 _ _ _ h.rd;have c3:=cell_of_row w g 3 _ _ _ h.rd;have hf:=fun j=>Joins.unfrozen_of_block h.rd j;have hg:=h.lt;have HT:=yq (fun X (hX:bO T g a c n p X)=>oV T g c n p a ⟨#[110,111,116]⟩ X hX hb);exact TH
theorem RO(T:List Tk)(g c n p q:Nat)(a:Option Addr)(E:Ex)(hb:isB T p ⟨#[105,102]⟩=false)(HS:Hid (ExO T g c n a 1 p q E)):ExO T g c n a 0 p q E:=by
 intro w h;have HR:=yq h;have HR1:=yq h;have c0:=cell_of_row w g 0 _ _ _ h.rd;have c1:=cell_of_row w g 1 _ _ _ h.rd;have c2:=cell_of_row w g 2 _ _ _ h.rd;have c3:=cell_of_row w g 3 _ _ _ h.rd;have hf:=fun j=>Joins.unfrozen_of_block h.rd j;have hg:=h.lt;have HT:=yq (fun X (hX:bO T g a c n p X)=>oV T g c n p a ⟨#[105,102]⟩ X hX hb);exact TH
attribute [local go_sem] jC
theorem Az(T:List Tk)(g c n p:Nat)(a:Option Addr)(k:Int)(b:Bool)(w:World)(h:bO T g a c n p w)(hb:lw T p k=b):Calls prog 166 #[.pointer (some ⟨g,0,none⟩),.int .i64 k] w fun e w'=>e= .returned (.bool b)/\w.Grows w':=hb ▸ LX T g c n p a k w h
theorem Gq{T:List Tk}{p:Nat}{k:Int}(h:lw T p k=true):p<T.length:=by
 unfold lw at h;simp at h;exact h.1
theorem LD(T:List Tk)(g c n p:Nat)(a:Option Addr)(t:ByteArray)(w:World)(h:bO T g a c n p w)(hk:lw T p 1=true)(ht:(T.getD p default).2.1=t)(hz:t.size<=maxLen)(hn:dI t=true):Calls prog 170 #[.pointer (some ⟨g,0,none⟩)] w fun e w'=>e= .returned (.string t)/\∃bs d,w'=(w.setCell ⟨g,1,none⟩ (.int .i64 ((p+1:Nat)))).grow bs d:=by
 have HR:=yq h;have c0:=cell_of_row w g 0 _ _ _ h.rd;have c1:=cell_of_row w g 1 _ _ _ h.rd;have hf:=fun j=>Joins.unfrozen_of_block h.rd j;have hg:=h.lt;have hlt:=Gq hk;have HK:=yq (fun X (hX:bO T g a c n p X)=>Az T g c n p a 1 true X hX hk);have HN:=yq (fun X=>oL t X hz);rw [hn]at HN;obtain⟨h8,b,rfl,hb,hc⟩:=h.tk;have hne:=h.ne b rfl;obtain⟨-,e1,-⟩:=hc p hlt;rw [ht]at e1;have hp1:(p:Int)<(T.length:Int):=by omega
 have hp8:p<=8000:=by omega
 have HR1:Hid (bO T g (some ⟨b,0,none⟩) c n (p+1) (w.setCell ⟨g,1,none⟩ (.int .i64 ((p:Int)+1)))):=yq (HR.out.to (p+1));clear h hc hk ht
 go_enter func170,ntmps170
 go_wp2_with (first|(go_at_call 166;refine gv (HK.out _ (zE)) ?_;intro bs0 d0)|(go_at_call 44;refine gw (HN.out _) ?_))
 refine TG.begin 17 (fun w'=>w'.cell? ⟨g,0,none⟩=some (.slice (some ⟨b,0,none⟩) T.length c)/\w'.cell? ⟨g,1,none⟩=some (.int .i64 (p:Nat))/\w'.cell? ⟨b,p*3+1,none⟩=some (.string t)) ze ze ?_ (fun hS=>?_);focus(refine⟨?_, ?_, ?_⟩<;>simp [go_sem,c0,c1,e1])
 refine TG.tkB 0 hS ?_;refine TG.one (i:=1) ze rfl (fun K1 hK1=>?_)
 go_simp
 go_at_call 166
 refine gv (HK.out _ (zE)) ?_;intro bs0 d0
 (try simp only [World.drew_grow])
 refine TG.go hK1 ?_ (fun hS=>?_)
 focus
  (try dsimp only)
  (refine⟨?_, ?_, ?_⟩<;>simp [go_sem,c0,c1,e1,hg,hb])
 clear hK1 K1
 (try simp only [nS])
 refine TG.tkB 2 hS ?_;refine TG.tkB 3 hS ?_;refine TG.tkB 4 hS ?_;refine TG.tkB 5 hS ?_;refine TG.tkB 6 hS ?_;refine TG.tkB 7 hS ?_;refine TG.tkB 8 hS ?_;refine TG.tkB 9 hS ?_;refine TG.tkB 10 hS ?_;refine TG.tkB 11 hS ?_;refine TG.tkB 12 hS ?_;refine TG.tkB 13 hS ?_;refine TG.tkB 14 hS ?_;refine TG.takeC (i:=15) (v:=.bool true) (fn:=44) (args:=#[.string t]) rfl ze ze ze zf (fun _ _ _ h=>h) rfl hS ?_ ?_ ?_
 focus
  intro wS hSw
  (try dsimp only at hSw)
  go_simp
 focus exact fun wS _=>HN.out wS
 (try simp only [nS])
 refine TG.tkB 16 hS ?_;refine TG.one (i:=17) ze rfl (fun K1 hK1=>?_)
 go_simp
 refine hK1 _ _ (fun h=>absurd rfl h) (TG.done ze ?_);clear hK1 K1 hS
 (try simp only [nS])
 go_wp2_with fail
 have f0:(w.setCell ⟨g,1,none⟩ (.int .i64 ((p:Int)+1))).cell? ⟨b,p*3+1,none⟩=some (.string t):=by rw [World.cell?_of_block (Below.heap_setCell _ _ _ _ hne)];exact e1
 go_quiet (fail)
 go_wp2_with fail
 go_returns
 exact⟨rfl,(growsR:World.Grows (w.setCell ⟨g,1,none⟩ (.int .i64 ((p:Int)+1))) _)⟩
theorem LY(T:List Tk)(g c n p:Nat)(a:Option Addr)(s:ByteArray)(w:World)(h:bO T g a c n p w)(hb:isB T p s=false):Calls prog 164 #[.pointer (some ⟨g,0,none⟩),.string s] w fun e w'=>e= .returned (.bool false)/\w.Grows w':=hb ▸ EG T g c n p a s w h
theorem KT(t:ByteArray)(hz:t.size<=1000):fE (.mk 2 0 0 0 t []):=fE.lit 0 0 0 zb zb zb 2 zb t zb [] zd
def Lu(T:List Tk)(p:Nat):Bool:=!isB T p ⟨#[45]⟩&&!isB T p ⟨#[40]⟩&&!isB T p ⟨#[98,101,115,116]⟩&&!isB T p ⟨#[102,108,111,111,114]⟩&&!isB T p ⟨#[109,105,110]⟩&&!isB T p ⟨#[109,97,120]⟩
theorem MH(T:List Tk)(g c n p:Nat)(a:Option Addr)(t:ByteArray)(hk2:lw T p 2=false)(hk:lw T p 1=true)(ht:(T.getD p default).2.1=t)(hz:t.size<=1000)(hn:dI t=true)(hw:Lu T p=true):FcO T g c n a p (p+1) (.mk 2 0 0 0 t []):=by
 intro w h;have HR:=yq h;have HR1:=yq h;have hg:=h.lt;have HK:=yq (fun X (hX:bO T g a c n p X)=>Az T g c n p a 2 false X hX hk2);have HN:=yq (fun X (hX:bO T g a c n p X)=>LD T g c n p a t X hX hk ht ym hn)
 have hw2:((((isB T p ⟨#[45]⟩=false/\isB T p ⟨#[40]⟩=false)/\isB T p ⟨#[98,101,115,116]⟩=false)/\isB T p ⟨#[102,108,111,111,114]⟩=false)/\isB T p ⟨#[109,105,110]⟩=false)/\isB T p ⟨#[109,97,120]⟩=false:=by
  unfold Lu at hw;simpa only [Bool.and_eq_true,Bool.not_eq_true']using hw
 obtain⟨⟨⟨⟨⟨b1,b2⟩,b3⟩,b4⟩,b5⟩,b6⟩:=hw2;have T1:=yq (fun X (hX:bO T g a c n p X)=>oV T g c n p a ⟨#[45]⟩ X hX b1);have T2:=yq (fun X (hX:bO T g a c n p X)=>oV T g c n p a ⟨#[40]⟩ X hX b2);have T3:=yq (fun X (hX:bO T g a c n p X)=>oV T g c n p a ⟨#[98,101,115,116]⟩ X hX b3);have I1:=yq (fun X (hX:bO T g a c n p X)=>LY T g c n p a ⟨#[102,108,111,111,114]⟩ X hX b4);have I2:=yq (fun X (hX:bO T g a c n p X)=>LY T g c n p a ⟨#[109,105,110]⟩ X hX b5);have I3:=yq (fun X (hX:bO T g a c n p X)=>LY T g c n p a ⟨#[109,97,120]⟩ X hX b6);clear h hk2 hk ht hw b1 b2 b3 b4 b5 b6
 go_enter func130,ntmps130
 go_wp2_with ((first|(go_at_call 166;refine gv (HK.out _ (zE)) ?_;intro bs0 d0)|(go_at_call 128;(first|with_reducible refine(T1.out _ (zE)).mono ?_|with_reducible refine(T2.out _ (zE)).mono ?_|with_reducible refine(T3.out _ (zE)).mono ?_);rintro e' w' ⟨rfl,bs0,d0,rfl⟩)|(go_at_call 164;(first|with_reducible refine(I1.out _ (zE)).mono ?_|with_reducible refine(I2.out _ (zE)).mono ?_|with_reducible refine(I3.out _ (zE)).mono ?_);rintro e' w' ⟨rfl,bs0,d0,rfl⟩)|(go_at_call 170;refine gv (HN.out _ (zE)) ?_;intro bs9 d9)))
 go_returns
 exact ExQ.of (E:=.mk 2 0 0 0 t []) (growsR:World.Grows (w.setCell ⟨g,1,none⟩ (.int .i64 ((p:Int)+1))) _) (.nil (KT t hz) rfl)
attribute [local go_sem] jC
theorem Oi(m:Int)(hm:0<=m/\m<=1000):fE (.mk 1 m 1 2 ByteArray.empty []):=fE.lit m 1 2 zb zb zb 1 zb ByteArray.empty zf [] zd
def DcP(t:ByteArray)(m:Int):Prop:=∀w,Calls prog 167 #[.string t] w fun e w'=>e= .returned (.tuple #[.agg #[.int .i64 m,.int .i64 1],.int .i64 2,.bool true])/\w.Grows w'
theorem GG(T:List Tk)(g c n p:Nat)(a:Option Addr)(t:ByteArray)(m:Int)(hm:0<=m/\m<=1000)(hk2:lw T p 2=true)(ht:(T.getD p default).2.1=t)(HD:Hid (DcP t m)):FcO T g c n a p (p+1) (.mk 1 m 1 2 ByteArray.empty []):=by
 intro w h;have HR:=yq h;have HR1:=yq h;have c0:=cell_of_row w g 0 _ _ _ h.rd;have c1:=cell_of_row w g 1 _ _ _ h.rd;have hf:=fun j=>Joins.unfrozen_of_block h.rd j;have hg:=h.lt;have hlt:=Gq hk2;have HK:=yq (fun X (hX:bO T g a c n p X)=>Az T g c n p a 2 true X hX hk2);obtain⟨h8,b,rfl,hb,hc⟩:=h.tk;have hne:=h.ne b rfl;obtain⟨-,e1,-⟩:=hc p hlt;rw [ht]at e1;have hp1:(p:Int)<(T.length:Int):=by omega
 have hp8:p<=8000:=by omega
 clear h hc hk2 ht
 go_enter func130,ntmps130
 go_wp2_with (go_at_call 166;refine gv (HK.out _ (zE)) ?_;intro bs0 d0)
 refine TS.begin [19] (fun w'=>w'.cell? ⟨g,0,none⟩=some (.slice (some ⟨b,0,none⟩) T.length c)/\w'.cell? ⟨g,1,none⟩=some (.int .i64 (p:Nat))/\w'.cell? ⟨b,p*3+1,none⟩=some (.string t)) ze ze ?_ (fun hS=>?_);focus(refine⟨?_, ?_, ?_⟩<;>simp [go_sem,c0,c1,e1,hg,hb])
 refine TS.takeV (i:=0) (v:=?_) rfl ze ze ze zf (fun _ _ _ h=>h) rfl hS ?_ ?_
 rotate_left
 focus
  intro wS hSw
  (try dsimp only at hSw)
  go_simp
  rfl
 (try simp only [nS])
 refine TS.takeV (i:=1) (v:=?_) rfl ze ze ze zf (fun _ _ _ h=>h) rfl hS ?_ ?_
 rotate_left
 focus
  intro wS hSw
  (try dsimp only at hSw)
  go_simp
  rfl
 (try simp only [nS])
 refine TS.takeV (i:=2) (v:=?_) rfl ze ze ze zf (fun _ _ _ h=>h) rfl hS ?_ ?_
 rotate_left
 focus
  intro wS hSw
  (try dsimp only at hSw)
  go_simp
  rfl
 (try simp only [nS])
 refine TS.takeV (i:=3) (v:=?_) rfl ze ze ze zf (fun _ _ _ h=>h) rfl hS ?_ ?_
 rotate_left
 focus
  intro wS hSw
  (try dsimp only at hSw)
  go_simp
  rfl
 (try simp only [nS])
 refine TS.takeV (i:=4) (v:=?_) rfl ze ze ze zf (fun _ _ _ h=>h) rfl hS ?_ ?_
 rotate_left
 focus
  intro wS hSw
  (try dsimp only at hSw)
  go_simp
  rfl
 (try simp only [nS])
 refine TS.takeV (i:=5) (v:=?_) rfl ze ze ze zf (fun _ _ _ h=>h) rfl hS ?_ ?_
 rotate_left
 focus
  intro wS hSw
  (try dsimp only at hSw)
  go_simp
  rfl
 (try simp only [nS])
 refine TS.takeV (i:=6) (v:=?_) rfl ze ze ze zf (fun _ _ _ h=>h) rfl hS ?_ ?_
 rotate_left
 focus
  intro wS hSw
  (try dsimp only at hSw)
  go_simp
  rfl
 (try simp only [nS])
 refine TS.takeV (i:=7) (v:=?_) rfl ze ze ze zf (fun _ _ _ h=>h) rfl hS ?_ ?_
 rotate_left
 focus
  intro wS hSw
  (try dsimp only at hSw)
  go_simp
  rfl
 (try simp only [nS])
 refine TS.takeV (i:=8) (v:=?_) rfl ze ze ze zf (fun _ _ _ h=>h) rfl hS ?_ ?_
 rotate_left
 focus
  intro wS hSw
  (try dsimp only at hSw)
  go_simp
  rfl
 (try simp only [nS])
 refine TS.takeV (i:=9) (v:=?_) rfl ze ze ze zf (fun _ _ _ h=>h) rfl hS ?_ ?_
 rotate_left
 focus
  intro wS hSw
  (try dsimp only at hSw)
  go_simp
  rfl
 (try simp only [nS])
 refine TS.takeV (i:=10) (v:=?_) rfl ze ze ze zf (fun _ _ _ h=>h) rfl hS ?_ ?_
 rotate_left
 focus
  intro wS hSw
  (try dsimp only at hSw)
  go_simp
  rfl
 (try simp only [nS])
 refine TS.two (i:=11) (k:=16) ze rfl rfl (fun K1 hK1=>?_) (fun K1 hK1=>?_)
 case refine_1=>
  go_simp
  go_at_call 167
  refine gv (HD.out _) ?_;intro bs1 d1
  (try simp only [World.drew_grow])
  refine TS.go hK1 ?_ (fun hS=>?_)
  focus
   (try dsimp only)
   (refine⟨?_, ?_, ?_⟩<;>simp [go_sem,c0,c1,e1,hg,hb])
  clear hK1 K1
  (try simp only [nS])
  refine TS.takeV (i:=12) (v:=?_) rfl ze ze ze zf (fun _ _ _ h=>h) rfl hS ?_ ?_
  rotate_left
  focus
   intro wS hSw
   (try dsimp only at hSw)
   go_simp
   rfl
  (try simp only [nS])
  refine TS.takeV (i:=13) (v:=?_) rfl ze ze ze zf (fun _ _ _ h=>h) rfl hS ?_ ?_
  rotate_left
  focus
   intro wS hSw
   (try dsimp only at hSw)
   go_simp
   rfl
  (try simp only [nS])
  refine TS.takeV (i:=14) (v:=?_) rfl ze ze ze zf (fun _ _ _ h=>h) rfl hS ?_ ?_
  rotate_left
  focus
   intro wS hSw
   (try dsimp only at hSw)
   go_simp
   rfl
  (try simp only [nS])
  refine TS.takeV (i:=15) (v:=?_) rfl ze ze ze zf (fun _ _ _ h=>h) rfl hS ?_ ?_
  rotate_left
  focus
   intro wS hSw
   (try dsimp only at hSw)
   go_simp
   rfl
  (try simp only [nS])
  refine TS.one (i:=16) ze rfl (fun K1 hK1=>?_)
  go_simp
  refine TS.go hK1 ?_ (fun hS=>?_)
  focus
   (try dsimp only)
   (refine⟨?_, ?_, ?_⟩<;>simp [go_sem,c0,c1,e1,hg,hb])
  clear hK1 K1;exact TF
 case refine_2=>
  go_simp
  refine TS.go hK1 ?_ (fun hS=>?_)
  focus
   (try dsimp only)
   (refine⟨?_, ?_, ?_⟩<;>simp [go_sem,c0,c1,e1,hg,hb])
  clear hK1 K1
  (try simp only [nS])
  refine TS.one (i:=11) ze rfl (fun K1 hK1=>?_)
  go_simp
  go_at_call 167
  refine gv (HD.out _) ?_;intro bs1 d1
  (try simp only [World.drew_grow])
  refine TS.go hK1 ?_ (fun hS=>?_)
  focus
   (try dsimp only)
   (refine⟨?_, ?_, ?_⟩<;>simp [go_sem,c0,c1,e1,hg,hb])
  clear hK1 K1
  (try simp only [nS])
  refine TS.takeV (i:=12) (v:=?_) rfl ze ze ze zf (fun _ _ _ h=>h) rfl hS ?_ ?_
  rotate_left
  focus
   intro wS hSw
   (try dsimp only at hSw)
   go_simp
   rfl
  (try simp only [nS])
  refine TS.takeV (i:=13) (v:=?_) rfl ze ze ze zf (fun _ _ _ h=>h) rfl hS ?_ ?_
  rotate_left
  focus
   intro wS hSw
   (try dsimp only at hSw)
   go_simp
   rfl
  (try simp only [nS])
  refine TS.takeV (i:=14) (v:=?_) rfl ze ze ze zf (fun _ _ _ h=>h) rfl hS ?_ ?_
  rotate_left
  focus
   intro wS hSw
   (try dsimp only at hSw)
   go_simp
   rfl
  (try simp only [nS])
  refine TS.takeV (i:=15) (v:=?_) rfl ze ze ze zf (fun _ _ _ h=>h) rfl hS ?_ ?_
  rotate_left
  focus
   intro wS hSw
   (try dsimp only at hSw)
   go_simp
   rfl
  exact TF
theorem KH:∀(T:List Tk) (k:Nat),k<T.length->(tkV T)[k*3]? =some (.int .i64 (T.getD k default).1)/\(tkV T)[k*3+1]? =some (.string (T.getD k default).2.1)/\(tkV T)[k*3+2]? =some (.int .i64 ((T.getD k default).2.2:Nat))
 | [],_,h=>absurd h zd
 |t::T,0,_=>⟨rfl,rfl,rfl⟩
 |t::T,k+1,h=>by
  have ih:=KH T k zy;have e:tkV (t::T)=tkC t++tkV T:=rfl;have e3:(tkC t).length=3:=rfl;have a0:(k+1)*3=3+k*3:=by omega
  have a1:3+k*3+1=3+(k*3+1):=by omega
  have a2:3+k*3+2=3+(k*3+2):=by omega
  rw [e,a0,a1,a2,getElem?_append_right zb,getElem?_append_right zb,getElem?_append_right zb,e3,Nat.add_sub_cancel_left,Nat.add_sub_cancel_left,Nat.add_sub_cancel_left,getD_cons_succ];exact ih
theorem OQ{w:World}{base:Nat}{T:TypeId}{c n:Nat}{v:Value}{xs:List Value}(h:w.ownsRow base T c v n xs)(hn:0<n):∃g cap,v= .slice (some ⟨g,0,none⟩) n cap/\g<w.heap.size:=by
 rcases h.2 with ⟨_,h0⟩|⟨g,cap',cur,hv,hb,hg,_⟩
 ·omega
 ·exact⟨g,cap',hv,(Array.getElem?_eq_some_iff.1 hg).1⟩
theorem QA.own{w:World}{base:Nat}{v:Value}{T:List Tk}(h:w.ownsRow base 197 3 v T.length (tkV T))(h8:T.length<=8000)(hn:0<T.length):∃b cap,v= .slice (some ⟨b,0,none⟩) T.length cap/\QA w (some ⟨b,0,none⟩) T:=by
 obtain⟨b,cap,rfl,hb⟩:=OQ h hn;refine⟨b,cap,rfl,h8,b,rfl,hb,fun k hk=>?_⟩;obtain⟨e0,e1,e2⟩:=KH T k hk;exact⟨(h.cellAt _ zb).trans e0,(h.cellAt _ zb).trans e1,(h.cellAt _ zb).trans e2⟩
theorem Jr{A:World}{bs:Array Obj}{d g:Nat}{v:Value}(h:A.heap.size<=g)(bs2:Array Obj)(d2:Nat):A.Grows (((A.grow bs d).setCell ⟨g,1,none⟩ v).grow bs2 d2):=.of_below ((((Below.refl _ _).grow (Nat.le_refl _) bs d).setCell h v).grow zd bs2 d2)
def PxQ(E:Ex)(w:World)(e:Ending)(w':World):Prop:=∃v,e= .returned (.tuple #[.agg #[.int .i64 E.op,.int .i64 E.num,.int .i64 E.den,.int .i64 E.dim,.string E.name,v],.int .i64 0,.int .i64 0])/\w.Grows w'/\ax (w.heap.size<=·) w' E v
theorem Iu(s:ByteArray)(T:List Tk)(E:Ex)(w:World)(h8:T.length<=8000)(hn:0<T.length)(hd:E.depth<=10)(hs:E.size<=60)(HB:Hid (∀w,Calls prog 80 #[.string s] w (Ub T s.size w)))(HE:Hid (∀g c a,ExO T g c s.size a 0 0 T.length E)):Calls prog 33 #[.string s] w (PxQ E w):=by
 have hd1:¬(10:Int)<(E.depth:Int):=by omega
 have hs1:¬(60:Int)<(E.size:Int):=by omega
 have HDW:=yq (fun S v W (h:ax S W E v)=>kX S E.size E (Nat.le_refl _) v W h (yq zb));have HSW:=yq (fun S v W (h:ax S W E v)=>nE S E.size E (Nat.le_refl _) v W h (yq zb));unfold exV at HDW HSW
 go_enter func33,ntmps33
 go_upto_region 4 with (go_at_call 80;refine(HB.out _).mono ?_;rintro e' w' ⟨v,g,rfl,⟨bs,d,rfl⟩,hgB,hgR,hown,hvg⟩)
 obtain⟨b,cap,rfl,htk⟩:=QA.own hown h8 hn;have HR:Hid (bO T g (some ⟨b,0,none⟩) cap s.size 0 ((w.alloc ((.cells #[.int .i64 0,.int .i64 0,.int .i64 0,.int .i64 0,.string ⟨#[]⟩,.slice none 0 0] 27))).grow bs d)):=yq ⟨hgR,htk,fun b' hb' e=>hvg (by subst e;simpa [Value.ownBlock]using hb')⟩;have HEX:=yq (HE.out g cap (some ⟨b,0,none⟩));have HGB:=yq hgB;clear hown hgR htk hvg hgB
 go_upto_region 5 with (go_at_call 81;refine(HEX.out _ HR.out).mono ?_;rintro e' w' ⟨v2,bs2,d2,rfl,hw',HRP⟩;have HRq:bO T g (some ⟨b,0,none⟩) cap s.size T.length w':=(hw' ▸ (HR.out.to T.length).grow bs2 d2);have hG:(w.alloc ((.cells #[.int .i64 0,.int .i64 0,.int .i64 0,.int .i64 0,.string ⟨#[]⟩,.slice none 0 0] 27))).Grows w':=(hw' ▸ Jr HGB.out bs2 d2);obtain⟨bs',d',hX⟩:=hG;clear hw';subst hX;obtain⟨va,vc,rfl⟩:=ax.form HRP;have HRP:=yq (HRP.mono (S':=fun x=>w.heap.size+1<=x) (fun b hb=>by simp at hb;omega)))
 have c0:=cell_of_row _ g 0 _ _ _ HRq.rd;have c1:=cell_of_row _ g 1 _ _ _ HRq.rd;have c2:=cell_of_row _ g 2 _ _ _ HRq.rd;have c3:=cell_of_row _ g 3 _ _ _ HRq.rd;have hg:g<w.heap.size+1+bs'.size:=by simpa using HRq.lt
 go_quiet (fail)
 go_wp2_with (first|(go_at_call 76;refine gv (HDW.out (fun x=>w.heap.size+1<=x) _ _ (yG)) ?_;intro bs8 d8)|(go_at_call 17;refine gv (HSW.out (fun x=>w.heap.size+1<=x) _ _ (yG)) ?_;intro bs9 d9))
 go_returns
 exact⟨_,rfl,growsR,((((HRP.out.lift0 (A':=w.alloc (.cells #[.int .i64 E.op,.int .i64 E.num,.int .i64 E.den,.int .i64 E.dim,.string E.name,.slice va E.args.length vc] 27)) zd zd d').alloc _).grow _ _).mono fun b hb=>by omega)⟩
def tx0:ByteArray:=⟨#[50,32,42,32,51,32,43,32,97,103,101]⟩
def T0:List Tk:=[(2,⟨#[50]⟩,0),(4,⟨#[42]⟩,2),(2,⟨#[51]⟩,4),(4,⟨#[43]⟩,6),(1,⟨#[97,103,101]⟩,8)]
def Sw(k:Nat):Nat:=if k=0 then 0 else if k=1 then 1 else if k=2 then 3 else if k=3 then 5 else if k=4 then 7 else 11
def EA(m:Int):Ex:=.mk 1 m 1 2 ByteArray.empty []
def Np:Ex:=.mk 2 0 0 0 ⟨#[97,103,101]⟩ []
def E0:Ex:=.mk 7 0 0 0 ByteArray.empty [.mk 9 0 0 0 ByteArray.empty [EA 2,EA 3],Np]
theorem E8:tx0.extract 0 1=⟨#[50]⟩/\tx0.extract 2 3=⟨#[42]⟩/\tx0.extract 4 5=⟨#[51]⟩/\tx0.extract 6 7=⟨#[43]⟩/\tx0.extract 8 11=⟨#[97,103,101]⟩:=⟨by kernel_rfl,by kernel_rfl,by kernel_rfl,by kernel_rfl,by kernel_rfl⟩
theorem sk0(p q:Nat)(hq:q<=tx0.size)(hpq:q=p\/(q=p+1/\byt tx0 p=32))(hend:q=tx0.size\/(q<tx0.size/\nV (byt tx0 q))):Hid (∀w,Calls prog 195 #[.string tx0,.int .i64 p] w fun e w'=>e= .returned (.int .i64 q)/\w=w'):=yq fun w=>KQ tx0 p q w zf hq hpq hend
theorem nx0:NxP tx0 0 2 ⟨#[50]⟩ 0 1:=by
 have h:=BS tx0 0 0 zf zf zf (sk0 0 0 zf zp (.inr ⟨by decide,by unfold nV;decide+kernel⟩)) zp zp (yq fun w=>tF tx0 0 1 true w zf zf zp zp) (yq fun w=>by rw [E8.1];exact mZ ⟨#[50]⟩ w rfl zp ze ze);rw [E8.1]at h;exact h
theorem nx1:NxP tx0 1 4 ⟨#[42]⟩ 2 3:=by
 have h:=wT tx0 1 2 zf zf zf (sk0 1 2 zf zp (.inr ⟨by decide,by unfold nV;decide+kernel⟩)) zp zp zp (yq fun w=>Bw tx0 2 w zf zf zp zp zp zp);rw [E8.2.1]at h;exact h
theorem nx2:NxP tx0 3 2 ⟨#[51]⟩ 4 5:=by
 have h:=BS tx0 3 4 zf zf zf (sk0 3 4 zf zp (.inr ⟨by decide,by unfold nV;decide+kernel⟩)) zp zp (yq fun w=>tF tx0 4 1 true w zf zf zp zp) (yq fun w=>by rw [E8.2.2.1];exact mZ ⟨#[51]⟩ w rfl zp ze ze);rw [E8.2.2.1]at h;exact h
theorem nx3:NxP tx0 5 4 ⟨#[43]⟩ 6 7:=by
 have h:=wT tx0 5 6 zf zf zf (sk0 5 6 zf zp (.inr ⟨by decide,by unfold nV;decide+kernel⟩)) zp zp zp (yq fun w=>Bw tx0 6 w zf zf zp zp zp zp);rw [E8.2.2.2.1]at h;exact h
theorem nx4:NxP tx0 7 1 ⟨#[97,103,101]⟩ 8 11:=by
 have h:=IK tx0 7 8 3 zf zf zf zf (sk0 7 8 zf zp (.inr ⟨by decide,by unfold nV;decide+kernel⟩)) zp (yq fun w=>tF tx0 8 3 false w zf zf zp zp);rw [E8.2.2.2.2]at h;exact h
theorem nx5:NxP tx0 11 0 ⟨#[]⟩ tx0.size tx0.size:=LA tx0 11 zf zf (sk0 11 11 zf (.inl rfl) (.inl rfl))
theorem UH(w:World):Calls prog 127 #[.string tx0] w (Sm T0 w):=by
 refine Qy tx0 T0 Sw w zf zf rfl (fun k=>?_) (yq fun k hk=>?_) (yq fun k hk=>?_) (yq nx5)
 ·unfold Sw;repeat' split
  all_goals omega
 ·have hk5:k<5:=hk;rcases(show k=0\/k=1\/k=2\/k=3\/k=4 by omega)with rfl|rfl|rfl|rfl|rfl
  ·exact nx0
  ·exact nx1
  ·exact nx2
  ·exact nx3
  ·exact nx4
 ·have hk5:k<5:=hk;rcases(show k=0\/k=1\/k=2\/k=3\/k=4 by omega)with rfl|rfl|rfl|rfl|rfl<;>decide
theorem TK(m:Int)(c:ByteArray)(hz:c.size=1)(hn:byt c 0=48+m)(h0:0<=m/\m<=9)(hex:c.extract 0 1=c)(hap:c++(⟨#[]⟩:ByteArray)=c)(hmk:mkN m 1=m/\mkD m 1=1/\mkE m 1=0):Hid (DcP c m):=yq fun w=>Dk c m w hz hn h0 hex hap (yq fun w=>(il m 1 w zb zb zb zb).mono fun e w' h=>by
 obtain⟨he,hg⟩:=h;rw [hmk.1,hmk.2.1,hmk.2.2]at he
 exact⟨he,hg⟩)
section
variable (g c n : Nat) (a : Option Addr)
theorem ex6:ExO T0 g c n a 6 0 3 (.mk 9 0 0 0 ByteArray.empty [EA 2,EA 3]):=
 gZ T0 g c n 0 1 3 1 a 6 (EA 2) _ zf zf (.inr zf) (yq (Fe T0 g c n 0 1 a _ (yq (GG T0 g c n 0 a ⟨#[50]⟩ 2 zf zp rfl (TK 2 ⟨#[50]⟩ rfl zp zf ze ze zp)))))
  (yq ⟨2,3,EA 3,by decide,by decide+kernel,by decide+kernel,by decide,Fe T0 g c n 2 3 a _ (yq (GG T0 g c n 2 a ⟨#[51]⟩ 3 zf zp rfl (TK 3 ⟨#[51]⟩ rfl zp zf ze ze zp))),rfl,rfl,by decide+kernel⟩)
theorem exA:ExO T0 g c n a 6 4 5 Np:=
 gZ T0 g c n 4 5 5 0 a 6 Np _ zf zf (.inl rfl) (yq (Fe T0 g c n 4 5 a _ (yq (MH T0 g c n 4 a ⟨#[97,103,101]⟩ zp zp rfl zf zp zp)))) (yq ⟨rfl,rfl,by decide+kernel⟩)
theorem ex5:ExO T0 g c n a 5 0 5 E0:=
 gZ T0 g c n 0 3 5 1 a 5 _ _ zf zf (.inr zf) (yq (ex6 g c n a)) (yq ⟨0,5,Np,by decide,by decide+kernel,by decide+kernel,by decide,exA g c n a,rfl,rfl,by decide+kernel⟩)
theorem ex0:ExO T0 g c n a 0 0 5 E0:=
 RO T0 g c n 0 5 a _ zp (yq (gZ T0 g c n 0 5 5 0 a 1 _ _ zf zf (.inl rfl) (yq (gZ T0 g c n 0 5 5 0 a 2 _ _ zf zf (.inl rfl) (yq (RN T0 g c n 0 5 a _ zp (yq (gZ T0 g c n 0 5 5 0 a 4 _ _ zf zf (.inl rfl) (yq (ex5 g c n a)) (yq ⟨rfl,rfl,by decide+kernel⟩))))) (yq ⟨rfl,rfl,by decide+kernel⟩))) (yq ⟨rfl,rfl,by decide+kernel⟩)))
end
theorem Q7(w:World):Calls prog 33 #[.string tx0] w (PxQ E0 w):=
 Iu tx0 T0 E0 w zf zf zp zp (yq fun w=>J2 tx0 T0 w zf (yq UH)) (yq fun g c a=>ex0 g c _ a)
def BrP(o n d m:Int)(nm:ByteArray)(a:Option Addr)(k c:Nat)(t:ByteArray)(W:World):Prop:=Calls prog 132 #[.agg #[.int .i64 o,.int .i64 n,.int .i64 d,.int .i64 m,.string nm,.slice a k c]] W fun e w'=>e= .returned (.string t)/\W.Grows w'
theorem Ag(o n d m least:Int)(nm:ByteArray)(a:Option Addr)(k c:Nat)(t:ByteArray)(w:World)(ho:1<=o/\o<=21)(hl:¬lvF o<least)(HB:Hid (∀W,w.Grows W->BrP o n d m nm a k c t W)):Calls prog 83 #[.agg #[.int .i64 o,.int .i64 n,.int .i64 d,.int .i64 m,.string nm,.slice a k c],.int .i64 least] w fun e w'=>e= .returned (.string t)/\w.Grows w':=by
 have HL:=yq (fun W=>ku o W ho);unfold BrP at HB
 go_enter func83,ntmps83
 go_wp2_with (first|(go_at_call 132;refine gv (HB.out _ growsR) ?_;intro bs d)|(go_at_call 133;refine gw (HL.out _) ?_))
 exact uH
theorem J3(nm:ByteArray)(a:Option Addr)(k c:Nat)(W:World):BrP 2 0 0 0 nm a k c nm W:=by
 unfold BrP;have HL:=yq (fun W=>ku 2 W zf)
 go_enter func132,ntmps132
 go_wp2_with (go_at_call 133;refine gw (HL.out _) ?_)
 exact uH
theorem Nc(n d m:Int)(a:Option Addr)(k c:Nat)(t:ByteArray)(W:World)(h:vV n d m= .tuple #[.string t,.bool true])(hn:-1000<=n/\n<=1000)(hd:-1000<=d/\d<=1000):BrP 1 n d m ByteArray.empty a k c t W:=by
 unfold BrP;have HL:=yq (fun W=>ku 1 W zf);have HF:=yq (fun W=>jJ n d m W zb zb zb zb);rw [h]at HF
 go_enter func132,ntmps132
 go_wp2_with (first|(go_at_call 133;refine gw (HL.out _) ?_)|(go_at_call 91;refine gv (HF.out _) ?_;intro bs d))
 exact uH
def E1:Ex:=.mk 7 0 0 0 ByteArray.empty [EA 6,Np]
def tx1:ByteArray:=⟨#[54,32,43,32,97,103,101]⟩
theorem UB:vV 6 1 2= .tuple #[.string ⟨#[54]⟩,.bool true]:=by kernel_rfl
theorem Nf{S:Nat->Prop}(a:Option Addr)(cap:Nat)(w:World)(h:ax S w E1 (.slice a 2 cap)):BrP 7 0 0 0 ByteArray.empty a 2 cap tx1 w:=by
 obtain⟨b,off,rfl,hb,hx⟩:=ax.arg_cells (e:=E1) h zf;obtain⟨a0,k0,h0,-⟩:=hx 0 zf;obtain⟨a1,k1,h1,-⟩:=hx 1 zf;clear hx h;have y0:w.cell? ⟨b,off,none⟩=some (.int .i64 1):=h0.c0;have y1:w.cell? ⟨b,off+1,none⟩=some (.int .i64 6):=h0.c1;have y2:w.cell? ⟨b,off+2,none⟩=some (.int .i64 1):=h0.c2;have y3:w.cell? ⟨b,off+3,none⟩=some (.int .i64 2):=h0.c3;have y4:w.cell? ⟨b,off+4,none⟩=some (.string ByteArray.empty):=h0.c4;have y5:w.cell? ⟨b,off+5,none⟩=some (.slice a0 0 k0):=h0.c5;have z0:w.cell? ⟨b,off+6,none⟩=some (.int .i64 2):=h1.c0;have z1:w.cell? ⟨b,off+6+1,none⟩=some (.int .i64 0):=h1.c1;have z2:w.cell? ⟨b,off+6+2,none⟩=some (.int .i64 0):=h1.c2;have z3:w.cell? ⟨b,off+6+3,none⟩=some (.int .i64 0):=h1.c3;have z4:w.cell? ⟨b,off+6+4,none⟩=some (.string ⟨#[97,103,101]⟩):=h1.c4;have z5:w.cell? ⟨b,off+6+5,none⟩=some (.slice a1 0 k1):=h1.c5;clear h0 h1;unfold BrP;have HL:Hid (∀W,Calls prog 133 #[.int .i64 7] W fun e w'=>e= .returned (.int .i64 5)/\W=w'):=yq (fun W=>ku 7 W zf);have HS:Hid (∀W,Calls prog 171 #[.int .i64 7] W fun e w'=>e= .returned (.string ⟨#[43]⟩)/\W=w'):=yq (fun W=>tq 7 W zf);have HP0:=yq (fun W=>Ag 1 6 1 2 5 ByteArray.empty a0 0 k0 ⟨#[54]⟩ W zf zf (yq fun W _=>Nc 6 1 2 a0 0 k0 ⟨#[54]⟩ W UB zf zf));have HP1:=yq (fun W=>Ag 2 0 0 0 6 ⟨#[97,103,101]⟩ a1 0 k1 ⟨#[97,103,101]⟩ W zf zf (yq fun W _=>J3 ⟨#[97,103,101]⟩ a1 0 k1 W))
 go_enter func132,ntmps132
 go_upto_region 25 with (go_at_call 133;refine gw (HL.out _) ?_)
 refine dO ze ze ?_;repeat(go_big_quiet_step (first|(go_at_call 83;(first|with_reducible exact Calls.quietG (HP0.out _)|with_reducible exact Calls.quietG (HP1.out _)))|(go_at_call 171;exact Calls.quietS (HS.out _))))
 refine wpQuiet_nil ?_;intro _ hw';obtain⟨⟨gb,gd⟩,hw''⟩:=hw';subst hw''
 go_wp2_with fail
 trace_state
 exact uH
end Go.Proofs.YtfoefpoaomepbaaGreatDoor
namespace Go
theorem growsP{w w':World}(h:RowKit.Below w.heap.size w w':=by(try simp only [World.grow_grow,World.grow_drew,World.drew_grow,<-Array.append_assoc]);repeat' (first|(with_reducible exact Go.RowKit.Below.fin)|(with_reducible exact Go.RowKit.Below.refl _ _)|(with_reducible assumption)|(with_reducible refine Go.RowKit.Below.peel ?_ ?_)|(with_reducible refine Go.RowKit.Below.grow ?_ ?_ _ _)|(with_reducible refine Go.RowKit.Below.alloc ?_ ?_ _)|(with_reducible refine Go.RowKit.Below.drewN ?_ _)|(with_reducible refine Go.RowKit.Below.drew ?_)|(with_reducible refine Go.RowKit.Below.setCell ?_ ?_ _)|go_size)):w.Grows w':=.of_below h
end Go
namespace Go.Proofs.YtfoefpoaomepbaaGreatDoor
open Go.Proofs.Tryz Tryz List
open Go.RowKit
end Go.Proofs.YtfoefpoaomepbaaGreatDoor
