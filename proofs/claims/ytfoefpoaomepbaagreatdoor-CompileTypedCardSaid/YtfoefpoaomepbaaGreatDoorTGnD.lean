import Derived.Test.YtfoefpoaomepbaaGreatDoorTLay
import Derived.Test.YtfoefpoaomepbaaGreatDoorTFlE
import Derived.Test.YtfoefpoaomepbaaGreatDoorTGrG
import Derived.Test.YtfoefpoaomepbaaGreatDoorTK
set_option linter.all false
set_option maxHeartbeats 16000000
set_option maxRecDepth 1000000
namespace Go.Proofs.YtfoefpoaomepbaaGreatDoor
open Go.RowKit
section
variable {S S2 : Nat → Prop} {N N2 base g : Nat} {w0 w w2 w' W : World} {v v2 v' vs : Value} {l l2 : List Ins} {sl : List ByteArray}
theorem GPre.more(h:GPre S N base g w v vs l sl)(hg:w.Grows W):GPre (fun b=>S b∨(w.heap.size≤b∧b<W.heap.size)) W.heap.size base g W v vs l sl:=by
 have h1:=h.grows hg
 have hsz:=hg.below.size
 refine⟨⟨h1.pre.row, ?_,Nat.le_refl _, ?_,h1.pre.bs, ?_⟩,h1.blk,h1.gb, ?_⟩
 ·rintro b (hb|hb)
  ·have:=h.pre.lt b hb;have:=h.pre.sz;omega
  ·exact hb.2
 ·rintro b (hb|hb) e
  ·exact h1.pre.ap b hb e
  ·have:=(h.pre.row.lt b e.symm).2;omega
 ·obtain⟨k1,k2,a,cap,k3,k4,k5⟩:=h1.pre.sl
  refine⟨k1,k2,a,cap,k3,k4,k5.imp id ?_⟩
  rintro⟨b,off,ha,hS,hb⟩
  exact⟨b,off,ha,.inl hS,hb⟩
 ·rintro b (hb|hb) e
  ·exact h1.gS b hb e
  ·have:=h.glt;omega
theorem GPre.back(h:GPre S N base g w v vs l sl)(hg:w.Grows W)(h2:GPre S2 N2 base g w2 v2 vs l2 sl)(hx:GExt g W w2 v v2):GPre S N base g w2 v2 vs l2 sl:=
 (h.grows hg).step hx h2.pre.row h2.blk
theorem GPre.kept(h:GPre S N base g w v vs l sl)(h0:w0.Grows w)(hg:w0.heap.size≤g)(hx:GExt g w w' v v'):w0.Grows w':=
 .of_below ⟨hx.os.trans h0.below.os,hx.tape.trans h0.below.tape,hx.output.trans h0.below.output,Nat.le_trans h0.below.size hx.size,fun k hk=>
  (hx.block k (Nat.lt_of_lt_of_le hk h0.below.size) (fun e=>by have:=(h.pre.row.lt k e.symm).1;have:=h.gb;omega) (by omega)).trans (h0.below.block k hk)⟩
end
theorem define_any{S S0:Nat→Prop}{N base g:Nat}{w0 w:World}{v vs ve:Value}{l:List Ins}{sl:List ByteArray}(e:Ex)(nm:ByteArray)(hn:nm∈sl)(h:GPre S N base g w v vs l sl)(h0:w0.Grows w)(ht:Tab w0)(hr:RepE S0 w e ve)(hsz:e.size≤1000000)(hf:formedB e=true)
 (hns:∀s,mentB s (foldF e)=true→inpK s=none→s∈sl) (hl:l.length+(codeF (slK sl) (foldF e) l.length).length+1≤1000000) :
 Calls Tryz.prog 49 #[.pointer (some ⟨g,0,none⟩),.string nm,exV e ve] w (GenR (.tuple #[]) S N base g w v vs (l++(codeF (slK sl) (foldF e) l.length++[⟨4,slK sl nm,0,0⟩])) sl):=by
 obtain⟨ea,ec,rfl⟩:=hr.form0
 have hff:=(fold_form e hf).1
 have HIS:Hid (idxS sl nm=(slK sl nm:Nat)):=Lib.hid (by unfold idxS;rw [if_pos (List.any_eq_true.2 ⟨nm,hn,by simp⟩)])
 have HFO:=Lib.hid (cfold_any (hr.grows (w':=((w.alloc (.cells #[.int .i64 e.op,.int .i64 e.num,.int .i64 e.den,.int .i64 e.dim,.string e.name,.slice ea e.args.length ec] 27)))) growsR) (ht.grows (h0.trans' growsR)) hsz hf)
 have HGE:=Lib.hid (fun W v2 (hg:w.Grows W) (hr2:RepE (fun b=>w.heap.size≤b) W (foldF e) v2)=>gen_code (foldF e) hff hns _ _ base g W v vs v2 l (h.more hg) (hr2.mono' fun b hb hlt=>.inr ⟨hb,hlt⟩) (by omega))
 have HP:=Lib.hid h
 rw [←List.append_assoc]
 have hln:(l++codeF (slK sl) (foldF e) l.length).length≤1000000:=by rw [List.length_append];omega
 generalize l++codeF (slK sl) (foldF e) l.length=L at *
 have HEM:=Lib.hid (fun W v2 (hp:GPre S N base g W v2 vs L sl)=>emit_any 4 (slK sl nm:Nat) hp hln)
 generalize slK sl nm=k at *
 generalize foldF e=F at *
 unfold MadeEx exV at HFO
 unfold exV at HGE
 clear hn h h0 ht hr hsz hf hns hl hff hln
 unfold exV
 go_enter Tryz.func49,Tryz.ntmps49
 go_upto_region 2 with (first
  |(go_at_call 37;refine HFO.out.mono ?_;rintro e' w' ⟨v2,rfl,⟨bs,d,rfl⟩,HRF⟩;obtain⟨fa,fc,rfl⟩:=RepE.form0 HRF;have HRF:=Lib.hid (HRF.mono (S':=fun b=>w.heap.size≤b) (fun b hb=>by simp at hb;omega)))
  |(go_at_call 107;refine(HGE.out _ _ growsR HRF.out).mono ?_;rintro e' w2 ⟨a2,c2,rfl,hp2,hx2⟩))
 have HP2:=Lib.hid (HP.out.back growsR hp2 hx2)
 have HX2:=Lib.hid (GExt.grows (w:=w) growsR hx2)
 clear hp2 hx2
 have x1:=HP2.out.c1
 have hgl:=HP2.out.glt
 obtain⟨sa,sc,rfl⟩:=HP2.out.pre.sl.txt.form
 go_wp2_with (first
  |(go_at_call 71;refine(index_any sl nm _ _ HP2.out.pre.sl.txt).mono ?_;rintro e' w' ⟨rfl,⟨bs3,d3,rfl⟩⟩;rw [HIS.out])
  |(go_at_call 70;refine(HEM.out _ _ (HP2.out.grows growsR)).mono ?_;rintro e' w4 ⟨a4,c4,rfl,hp4,hx4⟩;have HP4:=Lib.hid hp4;have HX4:=Lib.hid (GExt.grows (w:=w2) growsR hx4);clear hp4 hx4))
 go_returns
 exact⟨a4,c4,rfl,HP4.out,HX2.out.trans HX4.out⟩
end Go.Proofs.YtfoefpoaomepbaaGreatDoor
namespace Go.Proofs.YtfoefpoaomepbaaGreatDoor
section
variable {sl : List ByteArray}
theorem slK_is{s:ByteArray}(h:s∈sl):slK sl s<sl.length∧sl.getD (slK sl s) ByteArray.empty=s:=by
 unfold slK
 cases k:sl.findIdx? (fun x=>decide (x=s))with
 |none=>
  have:=List.findIdx?_eq_none_iff.1 k s h
  simp at this
 |some i=>
  obtain⟨h1,h2,-⟩:=List.findIdx?_eq_some_iff_getElem.1 k
  refine⟨h1, ?_⟩
  show sl.getD i _=s
  rw [List.getD_eq_getElem?_getD,List.getElem?_eq_getElem h1]
  simpa using h2
theorem slK_inj{s t:ByteArray}(h:s∈sl)(h2:t∈sl)(e:slK sl s=slK sl t):s=t:=by
 rw [←(slK_is h).2,e,(slK_is h2).2]
end
def dfnI(sl:List ByteArray)(ls:List (ByteArray × Ex))(env:List (ByteArray × Int))(i:Nat):Dfn:={κ:=slK sl,e:=foldF (ls.getD i default).2,k:=slK sl (ls.getD i default).1,m:=(env.getD i default).2,env:=env.take i}
def dfnX(sl:List ByteArray)(env:List (ByteArray × Int))(e:Ex)(nm:ByteArray)(m:Int):Dfn:={κ:=slK sl,e:=foldF e,k:=slK sl nm,m:=m,env:=env}
section
variable {sl : List ByteArray} {ls : List (ByteArray × Ex)} {env : List (ByteArray × Int)} (hl : LsOk ls ls.length env)
structure SetAt(sl:List ByteArray)(ls:List (ByteArray × Ex))(env:List (ByteArray × Int))(D:List Nat)(sett:List Bool)(dims:List Int):Prop where
 l1:sett.length=12
 l2:dims.length=12
 dom:∀j∈D,j<ls.length∧(ls.getD j default).1∈sl
 st:∀j∈D,sett.getD (slK sl (ls.getD j default).1) false=true∧dims.getD (slK sl (ls.getD j default).1) 0=(env.getD j default).2
theorem SetAt.zero:SetAt sl ls env [] (List.replicate 12 false) (List.replicate 12 0):=⟨by simp,by simp,fun _ h=>(by cases h),fun _ h=>(by cases h)⟩
theorem getD_set{α:Type}{l:List α}{k j:Nat}{x d:α}(hk:k<l.length):(l.set k x).getD j d=if k=j then x else l.getD j d:=by
 rw [List.getD_eq_getElem?_getD,List.getElem?_set]
 by_cases h:k=j
 ·subst h;simp [hk]
 ·rw [if_neg h,if_neg h,List.getD_eq_getElem?_getD]
include hl in
theorem SetAt.push{D:List Nat}{sett:List Bool}{dims:List Int}(h:SetAt sl ls env D sett dims)(hs:sl.length≤12){i:Nat}(hi:i<ls.length)(hn:(ls.getD i default).1∈sl) :
 SetAt sl ls env (D++[i]) (sett.set (slK sl (ls.getD i default).1) true) (dims.set (slK sl (ls.getD i default).1) (env.getD i default).2):=by
 have hk:=(slK_is hn).1
 refine⟨by rw [List.length_set,h.l1],by rw [List.length_set,h.l2],fun j hj=>?_,fun j hj=>?_⟩
 ·rcases List.mem_append.1 hj with hj|hj
  ·exact h.dom j hj
  ·obtain rfl:j=i:=by simpa using hj
   exact⟨hi,hn⟩
 ·rw [getD_set (by rw [h.l1];omega),getD_set (by rw [h.l2];omega)]
  by_cases e:slK sl (ls.getD i default).1=slK sl (ls.getD j default).1
  ·rw [if_pos e,if_pos e]
   have hj':j<ls.length∧(ls.getD j default).1∈sl:=by
    rcases List.mem_append.1 hj with hj|hj
    ·exact h.dom j hj
    ·obtain rfl:j=i:=by simpa using hj
     exact⟨hi,hn⟩
   have en:=slK_inj hn hj'.2 e
   have:i=j:=by
    rcases Nat.lt_trichotomy i j with c|c|c
    ·exact absurd en (hl.inj i j c hj'.1)
    ·exact c
    ·exact absurd en.symm (hl.inj j i c hi)
   subst this;exact⟨rfl,rfl⟩
  ·rw [if_neg e,if_neg e]
   rcases List.mem_append.1 hj with hj|hj
   ·exact h.st j hj
   ·obtain rfl:j=i:=by simpa using hj
    exact absurd rfl e
theorem ty_parts{env':List (ByteArray × Int)}{e:Ex}{m:Int}(h:inferE env' e=(m,0)):formedB (foldF e)=true∧inferF env' (foldF e)=(m,0)∧(foldF e).depth≤24∧(foldF e).size≤60∧validB e=true∧formedB e=true∧inferF env' e=(m,0):=by
 obtain⟨h1,h2,h3⟩:=inferE_ok h
 have h4:=fold_valid h1
 unfold validB at h4
 simp only [Bool.and_eq_true,decide_eq_true_eq]at h4
 exact⟨h4.2,by rw [fold_infer,h3],by omega,by omega,h1,h2,h3⟩
structure SlotsAt(sl:List ByteArray)(ls:List (ByteArray × Ex))(v:Vw)(D:List Nat)(slots:List Val)(st:List (ByteArray × Val)):Prop where
 l1:slots.length=12
 dom:∀j∈D,j<ls.length∧(ls.getD j default).1∈sl
 st:∀j∈D,slots.getD (slK sl (ls.getD j default).1) .zero=(nameF v st (ls.getD j default).1).1
theorem SlotsAt.zero(v:Vw):SlotsAt sl ls v [] (List.replicate 12 .zero) []:=⟨by simp,fun _ h=>(by cases h),fun _ h=>(by cases h)⟩
theorem nameF_snoc(v:Vw)(st:List (ByteArray × Val))(s n:ByteArray)(x:Val)(h:inpD n.toList=0):(nameF v (st++[(s,x)]) n).1=if s=n then x else(nameF v st n).1:=by
 have hi:inputV v n=none:=by unfold inputV;rw [if_pos (.inl h)]
 unfold nameF
 rw [hi,lastN_snoc]
 by_cases e:s=n
 ·rw [if_pos e,if_pos e]
 ·rw [if_neg e,if_neg e]
include hl in
theorem SlotsAt.step{v:Vw}{D:List Nat}{slots:List Val}{st:List (ByteArray × Val)}(h:SlotsAt sl ls v D slots st)(hs:sl.length≤12){s:ByteArray}(hn:s∈sl)(x:Val):SlotsAt sl ls v D (slots.set (slK sl s) x) (st++[(s,x)]):=by
 have hk:=(slK_is hn).1
 refine⟨by rw [List.length_set,h.l1],h.dom,fun j hj=>?_⟩
 rw [getD_set (by rw [h.l1];omega),nameF_snoc _ _ _ _ _ (hl.word j (h.dom j hj).1).1]
 by_cases e:s=(ls.getD j default).1
 ·rw [if_pos (by rw [e]),if_pos e]
 ·rw [if_neg (fun c=>e (slK_inj hn (h.dom j hj).2 c)),if_neg e]
  exact h.st j hj
include hl in
theorem SlotsAt.push{v:Vw}{D:List Nat}{slots:List Val}{st:List (ByteArray × Val)}(h:SlotsAt sl ls v D slots st)(hs:sl.length≤12){i:Nat}(hi:i<ls.length)(hn:(ls.getD i default).1∈sl)(x:Val) :
 SlotsAt sl ls v (D++[i]) (slots.set (slK sl (ls.getD i default).1) x) (st++[((ls.getD i default).1,x)]):=by
 have h1:=h.step hl hs hn x
 refine⟨h1.l1,fun j hj=>?_,fun j hj=>?_⟩
 ·rcases List.mem_append.1 hj with hj|hj
  ·exact h.dom j hj
  ·obtain rfl:j=i:=by simpa using hj
   exact⟨hi,hn⟩
 ·rcases List.mem_append.1 hj with hj|hj
  ·exact h1.st j hj
  ·obtain rfl:j=i:=by simpa using hj
   rw [getD_set (by rw [h.l1];have:=(slK_is hn).1;omega),if_pos rfl,nameF_snoc _ _ _ _ _ (hl.word j hi).1,if_pos rfl]
end
def slotX(e:Ex)(ls:List (ByteArray × Ex)):List ByteArray:=(usesL e ls).map (fun i=>(ls.getD i default).1)++[byN]
def progX(e:Ex)(ls:List (ByteArray × Ex))(env:List (ByteArray × Int))(m:Int):List Dfn:=(usesL e ls).map (dfnI (slotX e ls) ls env)++[dfnX (slotX e ls) env e byN m]
section
variable {ls : List (ByteArray × Ex)} {env : List (ByteArray × Int)} (hl : LsOk ls ls.length env) (h10 : ls.length ≤ 10) {e : Ex} {m : Int} (he : inferE env e = (m, 0))
include hl in
theorem name_word{i:Nat}(hi:i<ls.length):isWord (ls.getD i default).1=true:=by
 have:=(hl.word i hi).2
 unfold nameB at this
 exact(Bool.and_eq_true_iff.1 this).1
include hl in
theorem names_nodup:∀U:List Nat,U.Pairwise (· < ·)→(∀i∈U,i<ls.length)→(U.map fun i=>(ls.getD i default).1).Nodup
 | [],_,_=>by simp
 |i::r,hp,hu=>by
  obtain⟨p1,p2⟩:=List.pairwise_cons.1 hp
  rw [List.map_cons,List.nodup_cons]
  refine⟨fun h=>?_,names_nodup r p2 fun k hk=>hu k (by simp [hk])⟩
  obtain⟨j,hj,ej⟩:=List.mem_map.1 h
  exact hl.inj i j (p1 j hj) (hu j (by simp [hj])) ej.symm
include hl h10 in
theorem slotX_words:wordsF (slotX e ls)=true∧(slotX e ls).length≤11:=by
 have hu:=fun i (h:i∈usesL e ls)=>uses_lt h
 have hlen:(slotX e ls).length≤11:=by
  have:=usesG_length (e:=e) (ls:=ls) ls.length
  unfold slotX usesL
  rw [List.length_append,List.length_map]
  simp;omega
 refine⟨?_,hlen⟩
 unfold wordsF
 rw [Bool.and_eq_true,Bool.and_eq_true,decide_eq_true_eq,decide_eq_true_eq,List.all_eq_true]
 refine⟨⟨by omega,fun s hs=>?_⟩, ?_⟩
 ·rcases List.mem_append.1 hs with h|h
  ·obtain⟨i,hi,rfl⟩:=List.mem_map.1 h
   exact name_word hl (hu i hi)
  ·obtain rfl:s=byN:=by simpa using h
   decide+kernel
 ·unfold slotX
  rw [List.nodup_append]
  refine⟨names_nodup hl _ (usesG_asc ls.length (Nat.le_refl _)) hu,by simp,fun a ha b hb=>?_⟩
  obtain rfl:b=byN:=by simpa using hb
  obtain⟨i,hi,rfl⟩:=List.mem_map.1 ha
  intro c
  have:=(hl.word i (hu i hi)).2
  rw [c,kw_names.2.2]at this
  cases this
theorem slotX_mem{i:Nat}(h:i∈usesL e ls):(ls.getD i default).1∈slotX e ls:=List.mem_append.2 (.inl (List.mem_map.2 ⟨i,h,rfl⟩))
theorem slotX_by:byN∈slotX e ls:=by unfold slotX;simp
end
end Go.Proofs.YtfoefpoaomepbaaGreatDoor
namespace Go.Proofs.YtfoefpoaomepbaaGreatDoor
open Go.RowKit
theorem IntsAt.growsG{w w':World}{v:Value}{zs:List Int}(h:IntsAt w v zs)(hg:w.Grows w'):IntsAt w' v zs:=by
 obtain⟨bs,d,rfl⟩:=hg
 exact h.grow bs d
theorem IntsAt.list{w:World}{v:Value}{zs:List Int}{s:Nat}(h:IntsAt w v zs)(hs:w.heap.size≤s):ListAt w s v zs:=by
 obtain⟨h0,-,a,cap,hv,h1⟩:=h
 refine⟨h0,a,cap,hv,h1.imp id ?_⟩
 rintro⟨b,off,ha,hb,hc⟩
 exact⟨b,off,ha,hb,by omega,hc⟩
theorem topF_size(zs:List Int)(env:List (ByteArray × Int))(dim:Int):(topF zs env dim).size≤1000000:=by
 have h1:=exprF_size zs env 5 dim 0 24
 have h2:=leafF_size zs env dim (exprF zs env 5 dim 0 24).2.1 0
 have hc5:costN 5=2307:=rfl
 unfold topF
 split<;>omega
def LtCap(r:List (ByteArray × Int) × Int)(w:World)(e:Ending)(w':World):Prop:=∃x,e= .returned (.tuple #[x,.int .i64 r.2])∧w.Grows w'∧BindAt w' x r.1∧∀a n c,x= .slice a n c→n≤c
theorem LtCap.bad{r:List (ByteArray × Int) × Int}{c:Int}{w w':World}(h:r=([],c))(hg:w.Grows w'):LtCap r w (.returned (.tuple #[.slice none 0 0,.int .i64 c])) w':=by
 subst h;exact⟨_,rfl,hg,⟨by simp,none,0,rfl,.inl rfl⟩,fun a n c h=>by simp only [Value.slice.injEq]at h;omega⟩
theorem own_cap{w:World}{b size n:Nat}{e:TypeId}{v:Value}{xs:List Value}(h:w.ownsRow b e size v n xs):∀a m c,v= .slice a m c→m≤c:=by
 intro a m c hv
 rcases h.2 with ⟨rfl,-⟩|⟨g,cap,cur,rfl,-,-,hle,-⟩
 ·simp only [Value.slice.injEq]at hv;omega
 ·simp only [Value.slice.injEq]at hv;omega
theorem lets5_long(ls:List (ByteArray × Ex))(v:Value)(w:World)(h:LetsAt w v ls)(hl:10<ls.length):Calls Tryz.prog 19 #[v] w (LtCap (letsF ls) w):=by
 obtain⟨hl1000,la,lc,rfl,-⟩:=h
 have hn:(10:Int)<(ls.length:Int):=by omega
 have HF:Hid (letsF ls=([],7)):=Lib.hid (by unfold letsF;rw [if_pos hl])
 go_enter Tryz.func19,Tryz.ntmps19
 go_wp2_with fail
 go_returns
 exact LtCap.bad HF.out (.of_below belB)
theorem Lets5cap_any(ls:List (ByteArray × Ex))(v:Value)(w:World)(h:LetsAt w v ls)(hs:LsSmall ls):Calls Tryz.prog 19 #[v] w (LtCap (letsF ls) w):=by
 by_cases hlen:ls.length≤10
 case neg=>exact lets5_long ls v w h (by omega)
 obtain⟨i0,hi,hz0,hz1,hz2⟩:=info_parts infoB
 have HL:=Lib.hid h
 have HS:=Lib.hid hs
 obtain⟨hl1000,la,lc,rfl,-⟩:=h
 rw [letsF_len hlen]
 have hn:¬(10:Int)<(ls.length:Int):=by omega
 clear hs
 go_enter Tryz.func19,Tryz.ntmps19
 go_wp2_with fail
 go_loopw [4,5] (fun v4 v5 wr=>∃(k:Nat) (vb:Value) (env:List (ByteArray × Int)),vb=v4∧k≤ls.length∧v5= .int .i64 k∧Below w.heap.size w wr∧wr.ownsRow w.heap.size 106 2 vb k (bindL env)∧Hid (LtAt ls k env)) (fun _ v5 _=>ls.length-(intOf v5).toNat)
 case atStart=>exact⟨0,_,[],rfl,by omega,rfl,.refl _ _,World.ownsRow_nil _ _ _ _,Lib.hid (LtAt.zero ls)⟩
 case round=>
  obtain⟨k,vb,env,rfl,hk,rfl,hB,hown,HA⟩:=hrel
  obtain⟨W1,rfl⟩:∃W1,W1=wr:=⟨_,rfl⟩
  have HB:=Lib.hid hB
  have HO:=Lib.hid hown
  have HG:Hid (w.Grows W1):=Lib.hid (.of_below hB)
  have hsW:=hB.size
  by_cases hlt:k<ls.length
  ·obtain⟨-,a',c',hvv,hx⟩:=HL.out.grows HG.out
   simp only [Value.slice.injEq,true_and]at hvv
   obtain⟨rfl,rfl⟩:=hvv
   rcases hx with h0|⟨b,off,rfl,hbw,hx⟩
   ·omega
   obtain⟨uk,hsk⟩:=hx k hlt
   have hsm:=HS.out _ (getD_mem hlt)
   have HX:=Lib.hid hx
   have HTB:=Lib.hid (HA.out.bad hlt)
   have HTN:=Lib.hid (HA.out.next hlt)
   have HDU:=Lib.hid (HA.out.dup hk)
   have HEL:=Lib.hid HA.out.len
   have d1:(k:Int)<(ls.length:Int):=by omega
   generalize ht:ls.getD k default=tt at *
   obtain⟨s,ek⟩:=tt
   dsimp only at hsm
   obtain⟨y0,y1,y2,y3,y4,y5,y6,hrk⟩:=hsk
   obtain⟨ka,kc,rfl⟩:=hrk.form0
   have HRK:=Lib.hid hrk
   have HI5:=Lib.hid (Input5_any s)
   have HN5:=Lib.hid (fun w=>IsName_any s w (by have:=hsm.1;unfold maxLen;omega))
   have HIF:=Lib.hid (fun w' ve hr hv=>Infer5_any (fun _=>True) env ek (.slice ka ek.args.length kc) ve w' hr (by have:=hsm.2;omega) hv)
   have HKL:=Lib.hid hlt
   have hk10:k≤10:=by omega
   clear hx hrk hsm HA hB hown hlt hk
   dsimp only at y0 y1 y2 y3 y4 y5 y6
   by_cases hd:inpD s.toList=0
   case neg=>
    have HC:Hid (letsG ls []=([],5)):=Lib.hid (by have h5:=ltStep_word (env:=env) (e:=ek) (.inl hd);have:=HTB.out (by rw [h5];decide);rw [h5]at this;exact this)
    rw [decide_eq_true hd]at HI5
    generalize inpD s.toList=d0 at *
    exact tz31
   rw [hd]at HI5
   have HD:=Lib.hid hd
   clear hd
   cases hnb:nameB s
   case false=>
    have HC:Hid (letsG ls []=([],5)):=Lib.hid (by have h5:=ltStep_word (env:=env) (e:=ek) (.inr hnb);have:=HTB.out (by rw [h5];decide);rw [h5]at this;exact this)
    rw [hnb]at HN5
    clear hnb
    exact tz31
   rw [hnb]at HN5
   have HNB:=Lib.hid hnb
   clear hnb
   go_wp2_with ((first|(go_at_call 43;refine(HI5.out _).mono ?_;rintro e' w' ⟨rfl,rfl⟩)|(go_at_call 44;refine(HN5.out _).mono ?_;rintro e' w' ⟨rfl,rfl⟩)))
   go_loopw [8] (fun v8 wr=>∃j:Nat,j≤k∧v8= .int .i64 j∧Hid (∀i,i<j→decide ((ls.getD i default).1=s)=false)∧W1.Grows wr) (fun v8 _=>k-(intOf v8).toNat)
   case atStart=>exact⟨0,by omega,rfl,Lib.hid (fun i hi=>by omega),.refl _⟩
   case round=>
    obtain⟨j,hj,rfl,HNO,hgr⟩:=hrel
    have HG2:=Lib.hid hgr
    have HG3:Hid (w.Grows wr):=Lib.hid (World.Grows.trans' HG.out hgr)
    obtain⟨bs,d,rfl⟩:=hgr
    by_cases hjk:j<k
    ·obtain⟨uj,hsj⟩:=HX.out j (by have:=HKL.out;omega)
     have x0:=hsj.nm
     have e1:(j:Int)<(k:Int):=by omega
     have e2:(j:Int)<(ls.length:Int):=by omega
     clear hsj
     generalize hnj:(ls.getD j default).1=nj at *
     by_cases he:nj=s
     ·have he2:(nj.toList==s.toList)=true:=by rw [he];simp
      have HC:Hid (letsG ls []=([],10)):=Lib.hid (by have h5:=ltStep_dup (e:=ek) HD.out HNB.out (HDU.out s|>.trans (range_some j hjk (by rw [hnj,he];simp)));have:=HTB.out (by rw [h5];decide);rw [h5]at this;exact this)
      clear he hnj
      go_wp2_with fail
      go_region
      go_wp2_with fail
      go_returns
      exact LtCap.bad HC.out (World.Grows.trans' HG.out growsA)
     ·have he2:(nj.toList==s.toList)=false:=by rw [beq_eq_false_iff_ne];exact fun h=>he (toList_inj h)
      have HE:Hid (decide ((ls.getD j default).1=s)=false):=Lib.hid (by rw [hnj];exact decide_eq_false he)
      clear he hnj
      go_wp2_with fail
      go_region
      go_wp2_with fail
      go_roundw
      case rel=>exact⟨j+1,by omega,by go_num,Lib.hid (fun i hi=>by
       by_cases ei:i=j
       ·subst ei;exact HE.out
       ·exact HNO.out i (by omega)),growsA⟩
      case measure=>simp [intOf];omega
    ·obtain rfl:j=k:=by omega
     have HDN:Hid (env.any (fun p=>decide (p.1=s))=false):=Lib.hid ((HDU.out s).trans (range_none HNO.out))
     have HST:Hid (ltStep env (s,ek)=(inferE env ek).2):=Lib.hid (ltStep_inf HD.out HNB.out HDN.out)
     have HO2:=Lib.hid (own_grow HO.out HG2.out)
     have HBD:Hid (BindAt (W1.grow bs d) vb env):=Lib.hid (BindAt.of_own (by rw [HEL.out];exact HO2.out) (by rw [HEL.out];omega))
     have hI:=HIF.out (W1.grow bs d) vb (HRK.out.grows HG2.out) HBD.out
     generalize hr:inferE env ek=r at *
     obtain⟨dk,ck⟩:=r
     unfold InfP at hI
     dsimp only at hI HST HTN
     have HI:=Lib.hid hI
     clear hI hjk
     by_cases hc:ck=0
     ·subst hc
      have HNX:=Lib.hid (HTN.out HST.out)
      go_wp2_with (first
       |(go_at_call 25;refine HI.out.mono ?_;rintro e' w' ⟨rfl,bs2,d2,rfl⟩)
       |(at_builtin;refine wpList_append_own _ rfl _ _ 52 rfl w.heap.size 106 i0 _ 2 24 Tryz.underlying52 hi hz0 hz1 hz2 rfl (by decide) _ _ _ rfl (own_grow HO.out growsA) ⟨_,0,none⟩ 1 1 [.string s,.int .i64 dk] rfl rfl ?c1 ?c2 ?c3 ?c4 ?c5 ?_))
      case c1=>exact news_cells _ [.string s,.int .i64 dk] _ _ (by simp)
      case c2=>intro u hu;simp at hu;rcases hu with rfl|rfl<;>rfl
      case c3=>unfold maxLen;omega
      case c4=>omega
      case c5=>simp;omega
      intro v' w1 hown' hgrow _
      have HB4:=Lib.hid ((show Below w.heap.size w _ from by have:=HB.out;(exact belB)).grown hgrow (by simp;omega) (fun k hk=>(HO.out.lt k hk).1))
      have HO4:=Lib.hid hown'
      clear hown' hgrow
      go_wp2_with fail
      go_roundw
      case rel=>exact⟨j+1,_,_,rfl,HKL.out,by go_num,HB4.out,by rw [bindL_snoc];exact HO4.out,HNX⟩
      case measure=>simp [intOf];have:=HKL.out;omega
     ·have hc2:(ck !=0)=true:=by simpa using hc
      have HC:Hid (letsG ls []=([],ck)):=Lib.hid (by have:=HTB.out (by rw [HST.out];exact hc);rw [HST.out]at this;exact this)
      clear hc
      go_wp2_with (go_at_call 25;refine HI.out.mono ?_;rintro e' w' ⟨rfl,bs2,d2,rfl⟩)
      go_returns
      exact LtCap.bad HC.out (World.Grows.trans' HG.out growsA)
  ·obtain rfl:k=ls.length:=by omega
   have HD:=Lib.hid HA.out.done
   have HBD:Hid (BindAt W1 vb env):=Lib.hid (BindAt.of_own (by rw [HA.out.len];exact HO.out) (by rw [HA.out.len];omega))
   clear hB hown
   go_wp2_with fail
   go_returns
   exact⟨_,by rw [HD.out];rfl,HG.out,by rw [HD.out];exact HBD.out,own_cap HO.out⟩
theorem Lets5_any(ls:List (ByteArray × Ex))(v:Value)(w:World)(h:LetsAt w v ls)(hs:LsSmall ls):Calls Tryz.prog 19 #[v] w (LtPost (letsF ls) w):=(Lets5cap_any ls v w h hs).mono fun _ _ ⟨x,h1,h2,h3,_⟩=>⟨x,h1,h2,h3⟩
structure VerSm(V:VerP):Prop where
 le:LsSmall V.le
 gr:∀t∈V.gr,t.2.1.size≤1000000∧t.2.2.size≤1000000
 re:∀t∈V.re,t.2.size≤1000000
def BoxV(w:World)(b:Nat)(c0 c1 c2 v3 v4 v5 v6 v7:Value):Prop:=w.heap[b]? =some (.cells #[c0,c1,c2,v3,v4,v5,v6,v7] 82 (0,0))
section
variable {w w' : World} {b : Nat} {c0 c1 c2 v3 v4 v5 v6 v7 : Value}
theorem BoxV.grows(h:BoxV w b c0 c1 c2 v3 v4 v5 v6 v7)(hg:w.Grows w'):BoxV w' b c0 c1 c2 v3 v4 v5 v6 v7:=(hg.below.block b (Array.getElem?_eq_some_iff.1 h).1).trans h
theorem BoxV.lt(h:BoxV w b c0 c1 c2 v3 v4 v5 v6 v7):b<w.heap.size:=(Array.getElem?_eq_some_iff.1 h).1
theorem BoxV.c3(h:BoxV w b c0 c1 c2 v3 v4 v5 v6 v7):w.cell? ⟨b,3,none⟩=some v3:=by rw [cell_of_row w b _ _ _ _ h];rfl
theorem BoxV.c4(h:BoxV w b c0 c1 c2 v3 v4 v5 v6 v7):w.cell? ⟨b,4,none⟩=some v4:=by rw [cell_of_row w b _ _ _ _ h];rfl
theorem BoxV.c5(h:BoxV w b c0 c1 c2 v3 v4 v5 v6 v7):w.cell? ⟨b,5,none⟩=some v5:=by rw [cell_of_row w b _ _ _ _ h];rfl
theorem BoxV.c6(h:BoxV w b c0 c1 c2 v3 v4 v5 v6 v7):w.cell? ⟨b,6,none⟩=some v6:=by rw [cell_of_row w b _ _ _ _ h];rfl
theorem BoxV.c7(h:BoxV w b c0 c1 c2 v3 v4 v5 v6 v7):w.cell? ⟨b,7,none⟩=some v7:=by rw [cell_of_row w b _ _ _ _ h];rfl
end
end Go.Proofs.YtfoefpoaomepbaaGreatDoor
