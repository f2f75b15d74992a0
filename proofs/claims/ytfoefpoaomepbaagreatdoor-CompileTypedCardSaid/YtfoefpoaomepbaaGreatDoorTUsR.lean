import Derived.Test.YtfoefpoaomepbaaGreatDoorTTwistW
import Derived.Test.YtfoefpoaomepbaaGreatDoorTShelf4
import Derived.Test.YtfoefpoaomepbaaGreatDoorTTypV
import Derived.Test.YtfoefpoaomepbaaGreatDoorTK
import Derived.Laws.IdiomCopy
import Derived.ProofKit
import Derived.SizedLaws
import Derived.Deep.Matrix
import Derived.Deep.Fields
import Derived.OpenShut
set_option linter.all false
set_option maxHeartbeats 16000000
set_option maxRecDepth 1000000
namespace Go.Proofs.YtfoefpoaomepbaaGreatDoor
open Go.RowKit
structure SlotC(w:World)(b o:Nat)(c:Value)(e:Ex)(u:Value):Prop where
 nm:w.cell? ⟨b,o,none⟩=some c
 c0:w.cell? ⟨b,o+1,none⟩=some (.int .i64 e.op)
 c1:w.cell? ⟨b,o+2,none⟩=some (.int .i64 e.num)
 c2:w.cell? ⟨b,o+3,none⟩=some (.int .i64 e.den)
 c3:w.cell? ⟨b,o+4,none⟩=some (.int .i64 e.dim)
 c4:w.cell? ⟨b,o+5,none⟩=some (.string e.name)
 c5:w.cell? ⟨b,o+6,none⟩=some u
 rep:RepE (fun _=>True) w e u
theorem SlotC.same{w w':World}{b o:Nat}{c:Value}{e:Ex}{u:Value}(h:SlotC w b o c e u)(hg:w.Grows w')(hb:b<w.heap.size):SlotC w' b o c e u:=by
 have k:∀o,w'.cell? ⟨b,o,none⟩=w.cell? ⟨b,o,none⟩:=fun o=>World.cell?_of_block (hg.below.block b hb)
 exact⟨by rw [k];exact h.nm,by rw [k];exact h.c0,by rw [k];exact h.c1,by rw [k];exact h.c2,by rw [k];exact h.c3,by rw [k];exact h.c4,by rw [k];exact h.c5,h.rep.grows hg⟩
def LetsAt(w:World)(v:Value)(ls:List (ByteArray × Ex)):Prop:=
 ls.length≤1000∧∃a cap,v= .slice a ls.length cap∧(ls.length=0∨∃b off,a=some ⟨b,off,none⟩∧b<w.heap.size∧∀i,i<ls.length→∃u,SlotC w b (off+i*7) (.string (ls.getD i default).1) (ls.getD i default).2 u)
theorem LetsAt.grows{w w':World}{v:Value}{ls:List (ByteArray × Ex)}(h:LetsAt w v ls)(hg:w.Grows w'):LetsAt w' v ls:=by
 exact tz36
theorem map_at'{α β:Type}{f:α→β}{l:List α}{L:List β}(h:l.map f=L){k:Nat}(hk:k<L.length):∃x,l[k]? =some x∧L[k]? =some (f x):=by
 subst h
 have hk':k<l.length:=by simpa using hk
 exact⟨l[k],List.getElem?_eq_getElem hk',by rw [List.getElem?_map,List.getElem?_eq_getElem hk'];rfl⟩
theorem VerAt.lets{B:Nat}{w:World}{V:VerP}{v3 v4 v5 v6 v7:Value}(h:VerAt B w V v3 v4 v5 v6 v7)(hl:V.le.length≤1000):LetsAt w v5 V.le:=by
 obtain⟨ql,qg,qr,H1,H2,H3,H4,H5,e1,e2,e3,ord,r1,r2,r3,r4,r5⟩:=h
 obtain⟨a,cap,hv,hc⟩:=r3.toG.cells
 have hlen:(letL ql).length=V.le.length:=by rw [←e1];simp [letL]
 rw [hlen]at hv hc
 refine⟨hl,a,cap,hv,hc.imp id ?_⟩
 rintro⟨g,ha,hb,hlt,hx⟩
 refine⟨g,0,ha,hlt,fun i hi=>?_⟩
 obtain⟨⟨s,e,v⟩,hta,htl⟩:=map_at' e1 hi
 have hget:(letL ql).getD i []= .string s::cells1 e v:=by simp [letL,List.getD_eq_getElem?_getD,List.getElem?_map,hta]
 have hle:V.le.getD i default=(s,e):=by rw [List.getD_eq_getElem?_getD,htl];rfl
 have h7:=fun j u hj hu=>hx i j u hi hj (by rw [hget];exact hu)
 rw [hle,show 0+i*7=i*7 by omega]
 exact⟨v,h7 0 _ (by omega) rfl,h7 1 _ (by omega) rfl,h7 2 _ (by omega) rfl,h7 3 _ (by omega) rfl,h7 4 _ (by omega) rfl,h7 5 _ (by omega) rfl,h7 6 _ (by omega) rfl,(r3.rep (e,v) (List.mem_map.2 ⟨_,List.mem_of_getElem? hta,rfl⟩)).mono fun _ _=>trivial⟩
theorem toList_in{a b:ByteArray}(h:a.toList=b.toList):a=b:=by
 rw [ByteArray.toList_eq,ByteArray.toList_eq]at h
 exact ByteArray.ext (Array.ext' h)
theorem mentsB_any(s:ByteArray)(l:List Ex):mentsB s l=(List.range l.length).any fun k=>mentB s (l.getD k default):=by
 induction l with
 |nil=>rfl
 |cons e r ih=>
  rw [mentsB,ih,List.length_cons,List.range_succ_eq_map,List.any_cons,List.any_map]
  simp only [List.getD_cons_zero]
  congr 1
theorem ment_clos:∀args w,(callFunc 152 args).run Tryz.prog w= .ok (.enter 152 args) w:=enters_of Tryz.func152 (by kernel_rfl) rfl
theorem ment2_walk(S:Nat→Prop)(s:ByteArray)(n:Nat):∀(e:Ex),e.size≤n→∀(v:Value) (w:World),RepE S w e v→
 Calls Tryz.prog 105 #[exV e v,.string s] w fun r w'=>r= .returned (.bool (mentB s e))∧w.Grows w':=by
 induction n with
 |zero=>intro e he;have:=e.size_pos;omega
 |succ n ih=>
  intro e he v w h
  have HR:=Lib.hid h
  have HF:=Lib.hid (mentB_eq s e)
  have hany:=mentsB_any s e.args
  obtain⟨a,cap,rfl⟩:=h.form0
  have HC:Hid (∀w1 b,w1.heap[b]? =some (.cells #[.string s] 9 (0,0))→w.Grows w1→Calls Tryz.prog 135 #[.slice a e.args.length cap,.func (.func 152) #[] #[.pointer (some ⟨b,0,none⟩)]] w1 fun r w''=>r= .returned (.bool (mentsB s e.args))∧w1.Grows w''):=Lib.hid (fun w1 b hb hg=>by
   have HB:=Lib.hid hb
   have:=containsE_any S 152 #[.pointer (some ⟨b,0,none⟩)] ment_clos e (.slice a e.args.length cap) (fun k=>mentB s (e.arg k)) w1 (HR.out.grows hg) (Lib.hid (fun k hk ak ck w2 hg2 hR2=>by
    have hsm:=e.size_arg k hk
    have IH:=Lib.hid (fun w3 h1=>ih (e.arg k) (by omega) (.slice ak (e.arg k).args.length ck) w3 h1)
    have HR2:=Lib.hid hR2
    have hb2:w2.heap[b]? =some (.cells #[.string s] 9 (0,0)):=(hg2.below.block b (Array.getElem?_eq_some_iff.1 HB.out).1).trans HB.out
    have hbl:b<w2.heap.size:=(Array.getElem?_eq_some_iff.1 hb2).1
    have x0:w2.cell? ⟨b,0,none⟩=some (.string s):=by rw [cell_of_row w2 b _ _ _ _ hb2];rfl
    dsimp only
    generalize mentB s (e.arg k)=q at *
    clear hany HF HR hR2 ih hg hg2 hb HB hb2 h
    generalize e.arg k=x at *
    show Calls Tryz.prog 152 #[exV x (.slice ak x.args.length ck),.pointer (some ⟨b,0,none⟩)] w2 _
    go_enter Tryz.func152,Tryz.ntmps152
    go_wp2_with (go_at_call 105;refine(IH.out _ (HR2.out.alloc _)).mono ?_;rintro e' w' ⟨rfl,bs,d,rfl⟩)
    go_returns
    exact⟨ret_bool rfl,.of_below belB⟩))
   rw [show(List.range e.args.length).any (fun k=>mentB s (e.arg k))=mentsB s e.args from hany.symm]at this
   exact this)
  clear hany ih h
  generalize mentsB s e.args=q at *
  by_cases ho:e.op=2
  ·by_cases hn:e.name=s
   ·have HH:Hid (mentB s e=true):=Lib.hid (by rw [HF.out,decide_eq_true ho,decide_eq_true hn];rfl)
    have n2:(e.name.toList==s.toList)=true:=by rw [hn];simp
    clear HF hn
    go_enter Tryz.func105,Tryz.ntmps105
    go_wp2_with fail
    go_returns
    exact⟨ret_bool HH.out.symm,.of_below belB⟩
   ·have HH:Hid (mentB s e=q):=Lib.hid (by rw [HF.out,decide_eq_false hn,Bool.and_false,Bool.false_or])
    have n2:(e.name.toList==s.toList)=false:=by rw [beq_eq_false_iff_ne];exact fun h=>hn (toList_in h)
    clear HF hn
    go_enter Tryz.func105,Tryz.ntmps105
    go_wp2_with (go_at_call 135;refine(HC.out _ _ (heap_new _ _ _ (by simp)) (.of_below belB)).mono ?_;rintro e' w' ⟨rfl,bs,d,rfl⟩)
    go_returns
    exact⟨ret_bool HH.out.symm,.of_below belB⟩
  ·have HH:Hid (mentB s e=q):=Lib.hid (by rw [HF.out,decide_eq_false ho,Bool.false_and,Bool.false_or])
   have p2:(e.op==2)=false:=by simpa using ho
   clear ho HF
   go_enter Tryz.func105,Tryz.ntmps105
   go_wp2_with (go_at_call 135;refine(HC.out _ _ (heap_new _ _ _ (by simp)) (.of_below belB)).mono ?_;rintro e' w' ⟨rfl,bs,d,rfl⟩)
   go_returns
   exact⟨ret_bool HH.out.symm,.of_below belB⟩
theorem ment2_any(S:Nat→Prop)(s:ByteArray)(e:Ex)(v:Value)(w:World)(h:RepE S w e v):Calls Tryz.prog 105 #[exV e v,.string s] w fun r w'=>r= .returned (.bool (mentB s e))∧w.Grows w':=ment2_walk S s e.size e (Nat.le_refl _) v w h
def usV(e:Ex)(ls:List (ByteArray × Ex))(f:Nat):List Value:=(usesG e ls f).reverse.map fun(i:Nat)=>.int .i64 i
def needT(e:Ex)(ls:List (ByteArray × Ex))(i:Nat)(u:List Nat)(j:Nat):Bool:=mentB (ls.getD i default).1 e || (u.take j).any fun k=>mentB (ls.getD i default).1 (ls.getD k default).2
theorem needT_zero(e:Ex)(ls:List (ByteArray × Ex))(i:Nat)(u:List Nat):needT e ls i u 0=mentB (ls.getD i default).1 e:=by simp [needT]
theorem needT_succ{e:Ex}{ls:List (ByteArray × Ex)}{i:Nat}{u:List Nat}{j:Nat}(h:j<u.length):needT e ls i u (j+1)=(needT e ls i u j || mentB (ls.getD i default).1 (ls.getD (u.getD j 0) default).2):=by
 unfold needT
 rw [List.take_succ_eq_append_getElem h,List.any_append,Bool.or_assoc]
 simp [List.getD_eq_getElem?_getD,List.getElem?_eq_getElem h]
theorem needT_all(e:Ex)(ls:List (ByteArray × Ex))(i:Nat)(u:List Nat):needT e ls i u.reverse u.reverse.length=needB e ls i u:=by
 unfold needT needB;rw [List.take_length,List.any_reverse]
theorem own_grows{w:World}{base:Nat}{e:TypeId}{size:Nat}{v:Value}{n:Nat}{xs:List Value}(h:w.ownsRow base e size v n xs){w':World}(hg:w.Grows w'):w'.ownsRow base e size v n xs:=
 ownsRow_keep h fun k _ hk=>hg.below.block k hk
theorem infoU:(Tryz.prog.info? 3).map (fun i=>(i.zero,i.size,i.bytes))=some (some (.int .i64 0),1,8):=by kernel_rfl
theorem own_read{w:World}{base:Nat}{v:Value}{u:List Nat}(h:w.ownsRow base 3 1 v u.length (u.map fun(i:Nat)=>.int .i64 i)):∃a cap,v= .slice a u.length cap∧(u.length=0∨∃g cur,a=some ⟨g,0,none⟩∧base≤g∧w.heap[g]? =some (.cells cur 3 (0,0))∧∀j,j<u.length→w.cell? ⟨g,j,none⟩=some (.int .i64 (u.getD j 0:Nat))):=by
 obtain⟨-,⟨rfl,h0⟩|⟨g,cap,cur,rfl,hb,hg,h2,h3,h4,h5⟩⟩:=id h
 ·exact⟨none,0,by rw [h0],.inl h0⟩
 ·refine⟨_,cap,rfl,.inr ⟨g,cur,rfl,hb,hg,fun i hi=>?_⟩⟩
  rw [h.cellAt i (by omega),List.getElem?_map,List.getElem?_eq_getElem hi,List.getD_eq_getElem?_getD,List.getElem?_eq_getElem hi]
  rfl
theorem rev_ints{w:World}{g q uc:Nat}{cur:Array Value}{U:List Nat}(hb:w.heap[g]? =some (.cells cur 3 (0,0)))(hc:∀j,j<U.length→w.cell? ⟨g,j,none⟩=some (.int .i64 (U.getD j 0:Nat)))(hU:U.length≤1000)(hr:∀k∈U,k≤1000) :
 IntsAt ((w.drewN q).setCells g 0 (((U.map Int.ofNat).take U.length).reverse.map (Value.int .i64))) (.slice (some ⟨g,0,none⟩) U.length uc) (U.reverse.map Int.ofNat):=by
 have e:((U.map Int.ofNat).take U.length).reverse.map (Value.int .i64)=U.reverse.map fun(k:Nat)=>Value.int .i64 k:=by rw [List.take_of_length_le (by simp),←List.map_reverse,List.map_map];rfl
 rw [e]
 refine⟨by simp;omega,fun z hz=>?_,_,uc,by simp,.inr ⟨g,0,rfl,(Array.getElem?_eq_some_iff.1 (block_setCells (t:=3) (U.reverse.map fun(k:Nat)=>Value.int .i64 k) 0 (w.drewN q) cur hb)).1,fun i hi=>?_⟩⟩
 ·obtain⟨k,hk,rfl⟩:=List.mem_map.1 hz
  have:=hr k (List.mem_reverse.1 hk)
  simp only [Int.ofNat_eq_natCast]
  omega
 ·have hi':i<U.length:=by simpa using hi
  rw [World.cell?_setCells_in g (U.reverse.map fun(k:Nat)=>Value.int .i64 k) 0 (w.drewN q) (fun j hj=>by
   rw [Nat.zero_add,show(w.drewN q).cell? ⟨g,j,none⟩=w.cell? ⟨g,j,none⟩from rfl,hc j (by simpa using hj)];rfl) i (by simpa using hi'),List.getD_eq_getElem?_getD,List.getElem?_eq_getElem (by simpa using hi')]
  simp
theorem own_base{w:World}{b b' size n:Nat}{e:TypeId}{v:Value}{xs:List Value}(hb:b'≤b)(h:w.ownsRow b e size v n xs):w.ownsRow b' e size v n xs:=by
 obtain⟨h0,h1|⟨g,cap,cur,hv,hbg,hr⟩⟩:=h
 ·exact⟨h0,.inl h1⟩
 ·exact⟨h0,.inr ⟨g,cap,cur,hv,Nat.le_trans hb hbg,hr⟩⟩
theorem setAll_size:∀(vs:List Value) (o:Nat) (cs:Array Value),(setAll cs o vs).size=cs.size
 | [],_,_=>rfl
 |v::vs,o,cs=>by rw [setAll,setAll_size vs];simp
theorem setAll_list:∀(vs:List Value) (o:Nat) (cs:Array Value),o+vs.length≤cs.size→(setAll cs o vs).toList=cs.toList.take o++vs++cs.toList.drop (o+vs.length)
 | [],o,cs,_=>by simp [setAll]
 |v::vs,o,cs,h=>by
  simp only [List.length_cons]at h
  have ho:o<cs.toList.length:=by simp;omega
  rw [setAll,setAll_list vs (o+1) _ (by simp;omega),Array.toList_setIfInBounds,List.take_set,List.drop_set_of_lt (by omega),List.take_succ_eq_append_getElem ho,List.set_append_right _ _ (by simp;omega)]
  simp [show min o cs.size=o by omega,show o+1+vs.length=o+(vs.length+1)by omega]
theorem own_rev{W:World}{base g cap:Nat}{U:List Nat}(h:W.ownsRow base 3 1 (.slice (some ⟨g,0,none⟩) U.length cap) U.length (U.map fun(k:Nat)=>.int .i64 k))(q:Nat) :
 ((W.drewN q).setCells g 0 (((U.map Int.ofNat).take U.length).reverse.map (Value.int .i64))).ownsRow base 3 1 (.slice (some ⟨g,0,none⟩) U.length cap) U.length (U.reverse.map fun(k:Nat)=>.int .i64 k):=by
 have e:((U.map Int.ofNat).take U.length).reverse.map (Value.int .i64)=U.reverse.map fun(k:Nat)=>Value.int .i64 k:=by rw [List.take_of_length_le (by simp),←List.map_reverse,List.map_map];rfl
 rw [e]
 rcases h.2 with ⟨h',_⟩|⟨g',cap',cur,h',hbg,hg,hle,hmx,hsz,htk⟩
 ·simp at h'
 simp only [Value.slice.injEq,Option.some.injEq,Addr.mk.injEq,and_true,true_and]at h'
 obtain⟨rfl,rfl⟩:=h'
 refine⟨by simp,.inr ⟨g,cap,_,rfl,hbg,block_setCells (t:=3) (U.reverse.map fun(k:Nat)=>Value.int .i64 k) 0 (W.drewN q) cur hg,hle,hmx,by rw [setAll_size];exact hsz, ?_⟩⟩
 rw [setAll_list _ _ _ (by simp;omega)]
 simp
theorem Uses2own_any(e:Ex)(u v:Value)(ls:List (ByteArray × Ex))(w:World)(h:RepE (fun _=>True) w e u)(hl:LetsAt w v ls) :
 Calls Tryz.prog 47 #[exV e u,v] w fun r w'=>(∃x,r= .returned x∧IntsAt w' x ((usesL e ls).map Int.ofNat)∧w'.ownsRow w.heap.size 3 1 x (usesL e ls).length ((usesL e ls).map fun(k:Nat)=>.int .i64 k))∧w.Grows w':=by
 obtain⟨i0,hi,hz0,hz1,hz2⟩:=info_parts infoU
 have HR:=Lib.hid h
 have HL:=Lib.hid hl
 obtain⟨hl1000,la,lc,rfl,-⟩:=hl
 obtain⟨a,cap,rfl⟩:=h.form0
 clear h
 go_enter Tryz.func47,Tryz.ntmps47
 go_wp2_with fail
 go_loopw [5,6] (fun v5 v6 wr=>∃(f:Nat) (vb:Value),vb=v5∧f≤ls.length∧v6= .int .i64 ((ls.length:Int)-1-f)∧Below (w.heap.size+1) ((w.alloc (.cells #[.int .i64 e.op,.int .i64 e.num,.int .i64 e.den,.int .i64 e.dim,.string e.name,.slice a e.args.length cap] 27))) wr∧wr.ownsRow (w.heap.size+1) 3 1 vb (usesG e ls f).length (usV e ls f)) (fun _ v6 _=>(intOf v6+1).toNat)
 case atStart=>exact⟨0,_,rfl,by omega,by simp,.refl _ _,World.ownsRow_nil _ _ _ _⟩
 case round=>
  obtain⟨f,vb,rfl,hf,rfl,hB,hown⟩:=hrel
  obtain⟨W1,rfl⟩:∃W1,W1=wr:=⟨_,rfl⟩
  have HB:=Lib.hid hB
  have hG:w.Grows W1:=.of_below ((((Below.refl _ _).alloc (Nat.le_refl _) _)).trans (hB.mono (by omega)))
  have HG:=Lib.hid hG
  have HO:=Lib.hid hown
  have hbs:w.heap.size<W1.heap.size:=by have:=hB.size;simp at this;omega
  generalize hU:(usesG e ls f).reverse=U at *
  have hUl:(usesG e ls f).length=U.length:=by rw [←hU,List.length_reverse]
  have hU10:U.length≤1000:=by have:=usesG_length (e:=e) (ls:=ls) f;omega
  have hUm:∀k∈U,k<ls.length:=fun k hk=>(usesG_mem f hf k (by rw [←hU,List.mem_reverse]at hk;exact hk)).2
  have hUV:usV e ls f=U.map fun(i:Nat)=>.int .i64 i:=by unfold usV;rw [hU]
  rw [hUl,hUV]at hown HO
  by_cases hlt:f<ls.length
  ·obtain⟨i,hi'⟩:∃i:Nat,(ls.length:Int)-1-f=i:=⟨ls.length-1-f,by omega⟩
   have hii:i<ls.length:=by omega
   have HF1:Hid (usesG e ls (f+1)=if needB e ls i (usesG e ls f)then i::usesG e ls f else usesG e ls f):=Lib.hid (by rw [usesG,show ls.length-(f+1)=i by omega])
   have HNB:Hid (needT e ls i U U.length=needB e ls i (usesG e ls f)):=Lib.hid (by rw [←hU];exact needT_all _ _ _ _)
   have bx:∀(j:Nat) (x:Value),(#[Value.int .i64 e.op,.int .i64 e.num,.int .i64 e.den,.int .i64 e.dim,.string e.name,.slice a e.args.length cap]:Array Value)[j]? =some x→W1.cell? ⟨w.heap.size,j,none⟩=some x:=fun j x hx=>by
    rw [hB.cell (p:=⟨w.heap.size,j,none⟩) (by simp),World.cell?_alloc_at _ _ _ _ rfl];exact hx
   have b0:=bx 0 _ rfl
   have b1:=bx 1 _ rfl
   have b2:=bx 2 _ rfl
   have b3:=bx 3 _ rfl
   have b4:=bx 4 _ rfl
   have b5:=bx 5 _ rfl
   clear bx
   obtain⟨-,a',c',hvv,hx⟩:=HL.out.grows hG
   simp only [Value.slice.injEq,true_and]at hvv
   obtain⟨rfl,rfl⟩:=hvv
   rcases hx with h0|⟨b,off,rfl,hbw,hx⟩
   ·omega
   obtain⟨ui,hsl⟩:=hx i hii
   have x0:=hsl.nm
   have HX:=Lib.hid hx
   have HRW:=Lib.hid (HR.out.grows hG)
   have d1:(i:Int)<(ls.length:Int):=by omega
   have d0:(0:Int)≤(i:Int):=by omega
   have HI:=Lib.hid hi'
   rw [hi']
   obtain⟨ua,uc,rfl,hur⟩:=own_read hown
   have hz:Hid (needT e ls i U 0=mentB (ls.getD i default).1 e):=Lib.hid (needT_zero _ _ _ _)
   have hs:Hid (∀j,j<U.length→needT e ls i U (j+1)=(needT e ls i U j || mentB (ls.getD i default).1 (ls.getD (U.getD j 0) default).2)):=Lib.hid (fun j hj=>needT_succ hj)
   have HUR:=Lib.hid hur
   have HUM:=Lib.hid hUm
   have HUL:=Lib.hid hUl
   have HU:=Lib.hid hU
   have HUV:=Lib.hid hUV
   generalize hnm:(ls.getD i default).1=nm at *
   have HNM:=Lib.hid hnm
   clear hnm
   clear hsl hx hur hUm hUl hU hUV hown hG hB hi'
   have HM0:=Lib.hid (fun w' (hg:W1.Grows w')=>ment2_any (fun _=>True) nm e _ w' (HRW.out.grows hg))
   unfold exV at HM0
   generalize hq:mentB nm e=q0 at *
   go_wp2_with fail
   refine wp_region_quietG (by kernel_rfl) (by kernel_rfl) ?_
   repeat(go_big_quiet_step ((go_at_call 105;exact Calls.quietG (HM0.out _ growsA))))
   refine wpQuiet_nil ?_
   intro _ hw'
   obtain⟨⟨gb,gd⟩,hw''⟩:=hw'
   subst hw''
   go_wp2_with fail
   obtain⟨W2,hW2⟩:∃W2,W2=W1.grow gb gd:=⟨_,rfl⟩
   rw [←hW2]
   have HW2:=Lib.hid hW2
   have HG2:Hid (W1.Grows W2):=Lib.hid (hW2 ▸ ⟨_,_,rfl⟩)
   clear hW2 b0 b1 b2 b3 b4 b5 x0
   go_loopw [7,26] (fun v7 v26 wr=>∃(j:Nat) (nb:Bool),j≤U.length∧v26= .int .i64 j∧v7= .bool nb∧Hid (needT e ls i U j=nb)∧W2.Grows wr) (fun _ v26 _=>U.length-(intOf v26).toNat)
   case atStart=>exact⟨0,_,by omega,rfl,rfl,hz,.refl _⟩
   case round=>
    obtain⟨j,nb,hj,rfl,rfl,HN,hG3⟩:=hrel
    have HG4:=Lib.hid hG3
    have HG3:Hid (W1.Grows wr):=Lib.hid (World.Grows.trans' HG2.out hG3)
    clear hG3
    by_cases hjl:j<U.length
    ·rcases HUR.out with h0|⟨g,cur,rfl,-,hg,hgx⟩
     ·omega
     have hg:=(Array.getElem?_eq_some_iff.1 hg).1
     have y0:=(HG3.out.below.cell (p:=⟨g,j,none⟩) (by exact hg)).trans (hgx j hjl)
     have hsz:=HG3.out.below.size
     have hsuc:=hs.out j hjl
     rw [HN.out]at hsuc
     have hk:=HUM.out (U.getD j 0) (by rw [List.getD_eq_getElem?_getD,List.getElem?_eq_getElem hjl];exact List.getElem_mem hjl)
     generalize U.getD j 0=k at *
     obtain⟨uk,hsk⟩:=HX.out k hk
     obtain⟨ui,hsi⟩:=HX.out i hii
     have hsk:=hsk.same HG3.out hbw
     have hsi:=hsi.same HG3.out hbw
     generalize(ls.getD k default).2=ek at *
     obtain⟨-,z1,z2,z3,z4,z5,z6,hrk⟩:=hsk
     have x0:=hsi.nm
     rw [HNM.out]at x0
     have hbw2:b<wr.heap.size:=by omega
     have hg2:g<wr.heap.size:=by omega
     obtain⟨ka,kc,rfl⟩:=hrk.form0
     have HRK:=Lib.hid hrk
     have e1:(k:Int)<(ls.length:Int):=by omega
     have e0:(0:Int)≤(k:Int):=by omega
     have f1:(j:Int)<(U.length:Int):=by omega
     have f0:(0:Int)≤(j:Int):=by omega
     have HSU:=Lib.hid hsuc
     have HJL:=Lib.hid hjl
     clear hsi hrk hsuc hk hgx hjl hj HRW
     have HM2:=Lib.hid (fun w' (hg:wr.Grows w')=>ment2_any (fun _=>True) nm ek _ w' (HRK.out.grows hg))
     unfold exV at HM2
     generalize hq2:mentB nm ek=q2 at *
     cases nb
     focus
      go_wp2_with fail
      refine wp_region_quietG (by kernel_rfl) (by kernel_rfl) ?_
      repeat(go_big_quiet_step ((go_at_call 105;exact Calls.quietG (HM2.out _ growsA))))
     rotate_left
     focus
      go_wp2_with fail
      refine wp_region_quietG (by kernel_rfl) (by kernel_rfl) ?_
      repeat(go_big_quiet_step (fail))
     rotate_left
     all_goals
      refine wpQuiet_nil ?_
      intro _ hw'
      obtain⟨⟨gb,gd⟩,hw''⟩:=hw'
      subst hw''
      go_wp2_with fail
      go_roundw
      case rel=>exact⟨j+1,_,by have:=HJL.out;omega,by go_num,rfl,Lib.hid (by rw [HSU.out];first|rfl|simp),World.Grows.trans' HG4.out growsA⟩
      case measure=>simp [intOf];have:=HJL.out;omega
    ·obtain rfl:j=U.length:=by omega
     have HN2:Hid (needB e ls i (usesG e ls f)=nb):=Lib.hid (HNB.out.symm.trans HN.out)
     have HO3:=Lib.hid (own_grows HO.out HG3.out)
     have HB3:=Lib.hid (HB.out.trans (HG3.out.below.mono (by omega)))
     have HG5:=Lib.hid (World.Grows.trans' HG.out HG3.out)
     have HLT:=Lib.hid hlt
     have hbs2:w.heap.size+1≤wr.heap.size:=by have:=HG3.out.below.size;omega
     clear HN HG3 HG4 HRW hlt hj
     cases nb
     ·have HV:Hid (usesG e ls (f+1)=usesG e ls f):=Lib.hid (by rw [HF1.out,HN2.out];rfl)
      go_wp2_with fail
      go_roundw
      case rel=>exact⟨f+1,_,rfl,HLT.out,by have:=HI.out;first|(congr 1;omega)|(simp;omega),by have:=HB3.out;(exact belB),by unfold usV;rw [HV.out,HUL.out,HU.out];exact HO3.out⟩
      case measure=>first|(simp [intOf];done)|(simp [intOf];omega)
     ·have HV:Hid (usesG e ls (f+1)=i::usesG e ls f):=Lib.hid (by rw [HF1.out,HN2.out];rfl)
      go_wp2_with (at_builtin;refine wpList_append_own _ rfl _ _ 22 rfl (w.heap.size+1) 3 i0 (.int .i64 0) 1 8 Tryz.underlying22 hi hz0 hz1 hz2 rfl (by decide) _ _ _ rfl (HO3.out.alloc _) ⟨wr.heap.size,0,none⟩ 1 1 [.int .i64 i] rfl rfl ?c1 ?c2 ?c3 ?c4 ?c5 ?_)
      case c1=>exact news_cells _ [.int .i64 i] _ _ (by simp)
      case c2=>intro u hu;simp at hu;subst hu;rfl
      case c3=>unfold maxLen;omega
      case c4=>omega
      case c5=>simp;omega
      intro v' w1 hown' hgrow _
      have HB4:=Lib.hid ((show Below (w.heap.size+1) ((w.alloc (.cells #[.int .i64 e.op,.int .i64 e.num,.int .i64 e.den,.int .i64 e.dim,.string e.name,.slice a e.args.length cap] 27))) _ from by have:=HB3.out;(exact belB)).grown hgrow (by simp;omega) (fun k hk=>(HO3.out.lt k hk).1))
      have HO4:=Lib.hid hown'
      clear hown' hgrow
      go_wp2_with fail
      go_roundw
      case rel=>exact⟨f+1,_,rfl,HLT.out,by have:=HI.out;first|(congr 1;omega)|(simp;omega),HB4.out,by unfold usV;rw [HV.out,List.reverse_cons,HU.out,List.length_cons,HUL.out,List.map_append];exact HO4.out⟩
      case measure=>first|(simp [intOf];done)|(simp [intOf];omega)
  ·obtain rfl:f=ls.length:=by omega
   have hz:(ls.length:Int)-1-ls.length= -1:=by omega
   rw [hz]
   have HUM:Hid (∀k∈U,k<ls.length):=Lib.hid hUm
   have HF:Hid (usesL e ls=U.reverse):=Lib.hid (by unfold usesL;rw [←hU,List.reverse_reverse])
   have HOX:=Lib.hid (own_base (show w.heap.size≤w.heap.size+1 by omega) hown)
   obtain⟨ua,uc,rfl,hur⟩:=own_read hown
   clear hz hown hUm hU hUl hUV
   rcases hur with h0|⟨g,cur,rfl,hgb,hg,hgx⟩
   ·have hUn:U= []:=List.eq_nil_of_length_eq_zero h0
    subst hUn
    simp only [List.length_nil]
    go_wp2_with (go_at_call 106;refine(Tryz.slices_Reverse_int_empty _ _ _).mono ?_;rintro e' w' ⟨rfl,rfl⟩)
    go_returns
    exact⟨⟨_,rfl,by rw [HF.out];exact⟨by simp,by simp,_,_,rfl,.inl rfl⟩,by rw [HF.out];exact HOX.out⟩,HG.out⟩
   ·have HIR:=Lib.hid (fun q=>rev_ints (q:=q) (uc:=uc) hg hgx hU10 (fun k hk=>by have:=HUM.out k hk;omega))
    have HRV:=Lib.hid (Tryz.slices_Reverse_int_cells g 0 U.length uc (U.map Int.ofNat) W1 (by simp) (by omega) (fun j hj=>by
     have hj':j<U.length:=by simpa using hj
     rw [Nat.zero_add,hgx j hj',List.getD_eq_getElem?_getD,List.getD_eq_getElem?_getD,List.getElem?_map,List.getElem?_eq_getElem hj'];rfl) (fun j hj=>Joins.unfrozen_of_block hg _))
    clear hgx
    go_wp2_with (go_at_call 106;refine HRV.out.mono ?_;rintro e' w' ⟨rfl,q,rfl⟩;have HI2:=Lib.hid (HIR.out q);have HO2:=Lib.hid (own_rev HOX.out q);have HB2:=Lib.hid (below_setCells (show w.heap.size≤g by omega) (((U.map Int.ofNat).take U.length).reverse.map (Value.int .i64)) 0 (W1.drewN q) ((hG.below).drewN q));generalize(W1.drewN q).setCells g 0 (((U.map Int.ofNat).take U.length).reverse.map (Value.int .i64))=W2 at *)
    go_returns
    exact⟨⟨_,rfl,by rw [HF.out];exact HI2.out,by rw [HF.out,List.length_reverse];exact HO2.out⟩,.of_below HB2.out⟩
def LsSmall(ls:List (ByteArray × Ex)):Prop:=∀t∈ls,t.1.size≤140737488355328∧t.2.size≤1000000
def LtPost(r:List (ByteArray × Int) × Int)(w:World)(e:Ending)(w':World):Prop:=∃x,e= .returned (.tuple #[x,.int .i64 r.2])∧w.Grows w'∧BindAt w' x r.1
theorem LtPost.bad{r:List (ByteArray × Int) × Int}{c:Int}{w w':World}(h:r=([],c))(hg:w.Grows w'):LtPost r w (.returned (.tuple #[.slice none 0 0,.int .i64 c])) w':=by
 subst h;exact⟨_,rfl,hg,by simp,none,0,rfl,.inl rfl⟩
theorem ltStep_word{env:List (ByteArray × Int)}{s:ByteArray}{e:Ex}(h:inpD s.toList≠0∨nameB s=false):ltStep env (s,e)=5:=by unfold ltStep;rw [if_pos h]
theorem ltStep_dup{env:List (ByteArray × Int)}{s:ByteArray}{e:Ex}(h:inpD s.toList=0)(h2:nameB s=true)(h3:env.any (fun p=>decide (p.1=s))=true):ltStep env (s,e)=10:=by
 unfold ltStep;rw [if_neg (by rw [h2];simp [h]),if_pos h3]
theorem ltStep_inf{env:List (ByteArray × Int)}{s:ByteArray}{e:Ex}(h:inpD s.toList=0)(h2:nameB s=true)(h3:env.any (fun p=>decide (p.1=s))=false):ltStep env (s,e)=(inferE env e).2:=by
 unfold ltStep;rw [if_neg (by rw [h2];simp [h]),if_neg (by rw [h3];simp)]
theorem getD_mem{α:Type}[Inhabited α]{l:List α}{k:Nat}(h:k<l.length):l.getD k default∈l:=by
 rw [List.getD_eq_getElem?_getD,List.getElem?_eq_getElem h];exact List.getElem_mem h
theorem range_none{k:Nat}{p:Nat→Bool}(h:∀j,j<k→p j=false):(List.range k).any p=false:=by
 rw [Bool.eq_false_iff]
 intro hc
 obtain⟨j,hj,hp⟩:=List.any_eq_true.1 hc
 rw [h j (List.mem_range.1 hj)]at hp;cases hp
theorem range_some{k:Nat}{p:Nat→Bool}(j:Nat)(h:j<k)(hp:p j=true):(List.range k).any p=true:=List.any_eq_true.2 ⟨j,List.mem_range.2 h,hp⟩
theorem any_bd(env:List (ByteArray × Int))(s:ByteArray):((List.range env.length).any fun k=>decide (bdN env k=s))=env.any fun p=>decide (p.1=s):=by
 rw [Bool.eq_iff_iff,List.any_eq_true,List.any_eq_true]
 constructor
 ·rintro⟨k,hk,hp⟩
  have hk:=List.mem_range.1 hk
  refine⟨env[k],List.getElem_mem hk, ?_⟩
  unfold bdN at hp
  simpa [List.getD_eq_getElem?_getD,List.getElem?_eq_getElem hk]using hp
 ·rintro⟨p,hp,hs⟩
  obtain⟨k,hk,rfl⟩:=List.mem_iff_getElem.1 hp
  refine⟨k,List.mem_range.2 hk, ?_⟩
  unfold bdN
  simpa [List.getD_eq_getElem?_getD,List.getElem?_eq_getElem hk]using hs
def NumsAt(c:Nat)(w:World)(v:Value)(l:List Int):Prop:=
 l.length≤1000∧∃a cap,v= .slice a l.length cap∧(l.length=0∨∃b off,a=some ⟨b,off,none⟩∧b<w.heap.size∧∀i,i<l.length→w.cell? ⟨b,off+i*c,none⟩=some (.int .i64 (l.getD i 0)))
structure GraC(w:World)(b o:Nat)(t:Int × Ex × Ex)(u v:Value):Prop where
 nm:w.cell? ⟨b,o,none⟩=some (.int .i64 t.1)
 c0:w.cell? ⟨b,o+1,none⟩=some (.int .i64 t.2.1.op)
 c1:w.cell? ⟨b,o+2,none⟩=some (.int .i64 t.2.1.num)
 c2:w.cell? ⟨b,o+3,none⟩=some (.int .i64 t.2.1.den)
 c3:w.cell? ⟨b,o+4,none⟩=some (.int .i64 t.2.1.dim)
 c4:w.cell? ⟨b,o+5,none⟩=some (.string t.2.1.name)
 c5:w.cell? ⟨b,o+6,none⟩=some u
 e0:w.cell? ⟨b,o+7,none⟩=some (.int .i64 t.2.2.op)
 e1:w.cell? ⟨b,o+8,none⟩=some (.int .i64 t.2.2.num)
 e2:w.cell? ⟨b,o+9,none⟩=some (.int .i64 t.2.2.den)
 e3:w.cell? ⟨b,o+10,none⟩=some (.int .i64 t.2.2.dim)
 e4:w.cell? ⟨b,o+11,none⟩=some (.string t.2.2.name)
 e5:w.cell? ⟨b,o+12,none⟩=some v
 rep:RepE (fun _=>True) w t.2.1 u
 rep2:RepE (fun _=>True) w t.2.2 v
instance:Inhabited (Int × Ex × Ex):=⟨(0,default,default)⟩
def GrantsAt(w:World)(v:Value)(l:List (Int × Ex × Ex)):Prop:=
 l.length≤1000∧∃a cap,v= .slice a l.length cap∧(l.length=0∨∃b off,a=some ⟨b,off,none⟩∧b<w.heap.size∧∀i,i<l.length→∃u u',GraC w b (off+i*13) (l.getD i default) u u')
def RedsAt(w:World)(v:Value)(l:List (Int × Ex)):Prop:=
 l.length≤1000∧∃a cap,v= .slice a l.length cap∧(l.length=0∨∃b off,a=some ⟨b,off,none⟩∧b<w.heap.size∧∀i,i<l.length→∃u,SlotC w b (off+i*7) (.int .i64 (l.getD i default).1) (l.getD i default).2 u)
theorem GraC.same{w w':World}{b o:Nat}{t:Int × Ex × Ex}{u v:Value}(h:GraC w b o t u v)(hg:w.Grows w')(hb:b<w.heap.size):GraC w' b o t u v:=by
 have k:∀o,w'.cell? ⟨b,o,none⟩=w.cell? ⟨b,o,none⟩:=fun o=>World.cell?_of_block (hg.below.block b hb)
 exact⟨by rw [k];exact h.nm,by rw [k];exact h.c0,by rw [k];exact h.c1,by rw [k];exact h.c2,by rw [k];exact h.c3,by rw [k];exact h.c4,by rw [k];exact h.c5,by rw [k];exact h.e0,by rw [k];exact h.e1,by rw [k];exact h.e2,by rw [k];exact h.e3,by rw [k];exact h.e4,by rw [k];exact h.e5,h.rep.grows hg,h.rep2.grows hg⟩
theorem NumsAt.grows{c:Nat}{w w':World}{v:Value}{l:List Int}(h:NumsAt c w v l)(hg:w.Grows w'):NumsAt c w' v l:=by
 obtain⟨h0,a,cap,hv,h1⟩:=h
 refine⟨h0,a,cap,hv,h1.imp id ?_⟩
 rintro⟨b,off,ha,hb,hc⟩
 have:=hg.below.size
 exact tz61
theorem GrantsAt.grows{w w':World}{v:Value}{l:List (Int × Ex × Ex)}(h:GrantsAt w v l)(hg:w.Grows w'):GrantsAt w' v l:=by
 obtain⟨h0,a,cap,hv,h1⟩:=h
 refine⟨h0,a,cap,hv,h1.imp id ?_⟩
 rintro⟨b,off,ha,hb,hc⟩
 have:=hg.below.size
 exact⟨b,off,ha,by omega,fun i hi=>by obtain⟨u,u',hu⟩:=hc i hi;exact⟨u,u',hu.same hg hb⟩⟩
theorem RedsAt.grows{w w':World}{v:Value}{l:List (Int × Ex)}(h:RedsAt w v l)(hg:w.Grows w'):RedsAt w' v l:=by
 exact tz36
structure VerC(w:World)(V:VerP)(v3 v4 v5 v6 v7:Value):Prop where
 cr:NumsAt 2 w v3 (V.cr.map Prod.fst)
 se:NumsAt 3 w v4 (V.se.map Prod.fst)
 le:LetsAt w v5 V.le
 gr:GrantsAt w v6 V.gr
 re:RedsAt w v7 V.re
theorem VerC.grows{w w':World}{V:VerP}{v3 v4 v5 v6 v7:Value}(h:VerC w V v3 v4 v5 v6 v7)(hg:w.Grows w'):VerC w' V v3 v4 v5 v6 v7:=⟨h.cr.grows hg,h.se.grows hg,h.le.grows hg,h.gr.grows hg,h.re.grows hg⟩
def NumsX(c:Nat)(w:World)(v:Value)(n:Nat):Prop:=
 ∃a cap,v= .slice a n cap∧(n=0∨∃b off,a=some ⟨b,off,none⟩∧b<w.heap.size∧∀i,i<n→∀j,j<c→∃z,w.cell? ⟨b,off+i*c+j,none⟩=some (.int .i64 z))
theorem NumsX.grows{c:Nat}{w w':World}{v:Value}{n:Nat}(h:NumsX c w v n)(hg:w.Grows w'):NumsX c w' v n:=by
 obtain⟨a,cap,hv,h1⟩:=h
 refine⟨a,cap,hv,h1.imp id ?_⟩
 rintro⟨b,off,ha,hb,hc⟩
 have:=hg.below.size
 exact⟨b,off,ha,by omega,fun i hi j hj=>(hc i hi j hj).imp fun z hz=>(World.cell?_of_block (hg.below.block b hb)).trans hz⟩
theorem NumsX.of{T:TypeId}{c base:Nat}{w:World}{v:Value}{l:List (List Value)}{rs:List (Ex × Value)}{n:Nat}(h:RowG T c base w v l rs)(hl:l.length=n)(h0:∀i,i<n→∀j,j<c→∃z,(l.getD i [])[j]? =some (.int .i64 z)):NumsX c w v n:=by
 obtain⟨a,cap,hv,hx⟩:=h.cells
 rw [hl]at hv hx
 refine⟨a,cap,hv,hx.imp id ?_⟩
 rintro⟨g,ha,hb,hlt,hx⟩
 exact⟨g,0,ha,hlt,fun i hi j hj=>(h0 i hi j hj).imp fun z hz=>by rw [Nat.zero_add];exact hx i j _ hi hj hz⟩
end Go.Proofs.YtfoefpoaomepbaaGreatDoor
namespace Go.Proofs.YtfoefpoaomepbaaGreatDoor
open Go.RowKit Go.ChangeShapes Go.WideShapes Go.Deep
section
variable {H : Type} {enc : TypeId × Value → H} {P : Program} {w : World}
def fits(P:Program)(t:TypeId)(d:DataW H):Prop:=∀n∈d.weights P t,n≤140737488351232

theorem add_at'(b off i:Nat):(⟨b,off,none⟩:Addr).add i=⟨b,off+i,none⟩:=by unfold Addr.add;split<;>simp_all
theorem cell_lt{w:World}{b o:Nat}{v:Value}(h:w.cell? ⟨b,o,none⟩=some v):b<w.heap.size:=by
 rcases Nat.lt_or_ge b w.heap.size with h1|h1
 ·exact h1
 ·simp [World.cell?,Array.getElem?_eq_none h1]at h
theorem i64_of_wf{n:Int}(h:(Lit.int .i64 n).wf=true):I64 n:=bounds_i64 h
theorem IntsAt.of_cells{a:Option Addr}{len cap:Nat}{zs:List Int}(hl:len≤cap)(hz:zs.length=cap)(hw:∀n∈zs,(Lit.int .i64 n).wf=true)(hb:len≤140737488355328)(ha:a=none→len=0)
 (hc:∀x,a=some x→∀i,i<cap→w.cell? (x.add i)=some (.int .i64 (zs.getD i 0))):IntsAt w (.slice a len cap) (zs.take len):=by
 have hlen:(zs.take len).length=len:=by rw [List.length_take];omega
 refine⟨by omega,fun z hz2=>i64_of_wf (hw z (List.mem_of_mem_take hz2)),a,cap,by rw [hlen], ?_⟩
 rw [hlen]
 by_cases h0:len=0
 ·exact .inl h0
 ·cases a with
  |none=>exact .inl (ha rfl)
  |some x=>
   obtain⟨b,off,spot⟩:=x
   have h1:=hc _ rfl 0 (by omega)
   have hspot:spot=none:=by simpa [Addr.add]using World.cell?_spot h1
   subst hspot
   have h2:∀i,i<cap→w.cell? ⟨b,off+i,none⟩=some (.int .i64 (zs.getD i 0)):=fun i hi=>by
    rw [←add_at'];exact hc _ rfl i hi
   refine .inr ⟨b,off,rfl,cell_lt (h2 0 (by omega)),fun i hi=>?_⟩
   rw [h2 i (by omega)]
   simp [List.getD_eq_getElem?_getD,hi]
theorem IntsAt.of_trod{t e:TypeId}{fuel:Nat}{v:Value}{x:DataW H × List MemPlace}(ht:P.underlying t=some (.slice e))(he:P.underlying e=some (.int .i64))(hc:P.cellsOf e=1)(hb:P.bytesOf e=8)
 (h:DataW.trod enc P w 0 (fun _=>true) true fuel t [v]=some x) (hf:fits P t x.1):∃zs,IntsAt w v zs:=by
 rcases open_ints ht he hc h with ⟨hcs,_⟩|⟨a,l,c,zs,hcs,_,hl,hm,hz,hx,hcell,hwz⟩
 ·simp at hcs
  subst hcs
  exact⟨[],by simp,by simp,none,0,rfl,.inl rfl⟩
 ·simp at hcs
  subst hcs
  simp only [if_true]at hz
  have h8:l≤140737488355328:=by
   have h9:=hf ((l+(c-l))*8) (by rw [hx];simp [DataW.weights,ht,lits,hb,hz,Nat.min_eq_left hl])
   omega
  exact⟨zs.take l,IntsAt.of_cells hl hz hwz h8 (fun e=>by cases e) fun x' hx' i hi=>by cases hx';exact hcell i (by omega)⟩
end
theorem c3:(Tryz.prog).cellsOf 3=1:=by kernel_rfl
theorem c22:(Tryz.prog).cellsOf 22=1:=by kernel_rfl
theorem b3:(Tryz.prog).bytesOf 3=8:=by kernel_rfl
theorem b22:(Tryz.prog).bytesOf 22=24:=by kernel_rfl
theorem fits_part{H:Type}{P:Program}{t:TypeId}{fs:Array Field}{l:List (DataW H)}{i:Nat}{f:Field}{d:DataW H}(ht:P.underlying t=some (.struct fs))(h:fits P t (.agg l))(hf:fs[i]? =some f)(hd:l[i]? =some d):fits P f.type d:=by
 intro n hn
 refine h n ?_
 simp only [DataW.weights,ht]
 exact DataW.weights_mem_each (j:=i) (by simp [hf]) hd n hn
theorem int_of_trod{H:Type}{enc:TypeId × Value→H}{w:World}{fuel:Nat}{v:Value}{x:DataW H × List MemPlace}(h:DataW.trod enc Tryz.prog w 0 (fun _=>true) true fuel 3 [v]=some x):∃n,v= .int .i64 n∧I64 n:=by
 obtain⟨n,hcs,_,hw⟩:=DataW.trod_int Tryz.underlying3 h
 exact⟨n,by simpa using hcs,i64_of_wf hw⟩
section
variable {H : Type} {enc : TypeId × Value → H} {P : Program} {w : World}
theorem RowsAt.of_trod{t e q:TypeId}{fuel:Nat}{v:Value}{x:DataW H × List MemPlace}(ht:P.underlying t=some (.slice e))(he:P.underlying e=some (.slice q))(hq:P.underlying q=some (.int .i64))(ce:P.cellsOf e=1)(cq:P.cellsOf q=1)(be:P.bytesOf e=24)(bq:P.bytesOf q=8)
 (h:DataW.trod enc P w 0 (fun _=>true) true fuel t [v]=some x) (hf:fits P t x.1):∃zss,RowsAt w v zss:=by
 rcases open_int_rows ht he hq ce cq h with ⟨hcs,_⟩|⟨a,len,cap,A,L,C,Z,hcs,_,hl,hm,hx,hr⟩
 ·simp at hcs
  subst hcs
  exact⟨[],by simp,none,0,rfl,.inl rfl⟩
 ·simp at hcs
  subst hcs
  have h8:len≤140737488355328:=by
   have h9:=hf ((len+(cap-len))*24) (by rw [hx];simp [DataW.weights,ht,be])
   omega
  have hrow:∀r,r<len→IntsAt w (.slice (A r) (L r) (C r)) ((Z r).take (L r)):=by
   intro r hrl
   obtain⟨h1,h2,h3,h4,h5,h6,h7⟩:=hr r (by omega)
   refine IntsAt.of_cells h2 h4 h5 ?_ (fun e=>by have:=h6 e;omega) (fun x' hx' i hi=>(h7 x' hx').2 i hi)
   cases hA:A r with
   |none=>have:=h6 hA;omega
   |some y=>
    have h9:=hf ((L r+(C r-L r))*8) (by
     rw [hx]
     simp only [DataW.weights,ht,List.mem_cons,List.mem_append]
     right;left
     have key:∀(l:List Nat),r∈l→(L r+(C r-L r))*8∈DataW.weightsAll P e (l.map fun r=>(intRow (H:=H) .i64 (A r) (L r) (Z r))):=by
      intro l
      induction l with
      |nil=>intro h;cases h
      |cons y' l ih=>
       intro h
       simp only [List.map_cons,DataW.weightsAll,List.mem_append]
       rcases List.mem_cons.1 h with rfl|h
       ·left;simp [intRow,hA,DataW.weights,he,lits,bq,h4,Nat.min_eq_left h2]
       ·exact .inr (ih h)
     exact key _ (List.mem_range.2 hrl))
    omega
  refine⟨(List.range len).map fun r=>(Z r).take (L r),by simpa using h8,some a,cap,by simp, ?_⟩
  by_cases h0:len=0
  ·left;simp [h0]
  ·right
   obtain⟨b,off,spot⟩:=a
   have h1:=(hr 0 (by omega)).1
   have hspot:spot=none:=by simpa [Addr.add]using World.cell?_spot h1
   subst hspot
   have h2:∀i,i<cap→w.cell? ⟨b,off+i,none⟩=some (.slice (A i) (L i) (C i)):=fun i hi=>by
    rw [←add_at'];exact(hr i hi).1
   refine⟨b,off,rfl,cell_lt (h2 0 (by omega)),fun i hi=>?_⟩
   have hi':i<len:=by simpa using hi
   refine⟨_,h2 i (by omega), ?_⟩
   have:((List.range len).map fun r=>(Z r).take (L r)).getD i []=(Z i).take (L i):=by simp [List.getD_eq_getElem?_getD,hi']
   rw [this]
   exact hrow i hi'
end
theorem array10{α:Type}{cs:Array α}(h:cs.size=10):∃c0 c1 c2 c3 c4 c5 c6 c7 c8 c9,cs=#[c0,c1,c2,c3,c4,c5,c6,c7,c8,c9]:=by
 obtain⟨l⟩:=cs
 match l,h with
 | [c0,c1,c2,c3,c4,c5,c6,c7,c8,c9],_=>exact⟨c0,c1,c2,c3,c4,c5,c6,c7,c8,c9,rfl⟩
theorem c25:(Tryz.prog).cellsOf 49=10:=by kernel_rfl
theorem c23:(Tryz.prog).cellsOf 47=1:=by kernel_rfl
theorem RawAt.of_trod{H:Type}{enc:TypeId × Value→H}{w:World}{r:Reach}{b0:Nat}{v:Value}{d:DataW H}{p:List MemPlace}(hv:Value.okWide Tryz.prog w r b0 49 v)
 (h:DataW.Trod enc Tryz.prog w 0 (fun _=>true) true 49 v d p) (hf:fits Tryz.prog 49 d) :
 ∃R cs,v= .agg cs∧RawAt w cs.toList R:=by
 have ht:=Tryz.underlying49
 obtain⟨cs,rfl,hsz⟩:=okWide_struct ht hv
 obtain⟨c0,c1,c2,c3',c4,c5,c6,c7,c8,c9,rfl⟩:=array10 (hsz.trans c25)
 obtain⟨fuel,h⟩:=h
 obtain⟨xs,n,_,hx,_,hlen,hF⟩:=DataW.trod_struct ht h
 simp only [Prod.mk.injEq]at hx
 obtain⟨rfl,-⟩:=hx
 have k0:=hF 0 _ rfl
 have k1:=hF 1 _ rfl
 have k2:=hF 2 _ rfl
 have k3:=hF 3 _ rfl
 have k4:=hF 4 _ rfl
 have k5:=hF 5 _ rfl
 have k6:=hF 6 _ rfl
 have k7:=hF 7 _ rfl
 have k8:=hF 8 _ rfl
 have k9:=hF 9 _ rfl
 simp only [Value.cells,List.drop_zero,List.drop_succ_cons,List.take_succ_cons,List.take_zero]at k0 k1 k2 k3 k4 k5 k6 k7 k8 k9
 match xs,hlen with
 | [y0,y1,y2,y3,y4,y5,y6,y7,y8,y9],_=>
   obtain⟨n0,rfl,w0⟩:=int_of_trod k0
   obtain⟨n1,rfl,w1⟩:=int_of_trod k1
   obtain⟨n2,rfl,w2⟩:=int_of_trod k2
   obtain⟨n9,rfl,w9⟩:=int_of_trod k9
   obtain⟨z3,w3⟩:=IntsAt.of_trod Tryz.underlying22 Tryz.underlying3 c3 b3 k3 (fits_part ht hf (i:=3) rfl rfl)
   obtain⟨z4,w4⟩:=IntsAt.of_trod Tryz.underlying22 Tryz.underlying3 c3 b3 k4 (fits_part ht hf (i:=4) rfl rfl)
   obtain⟨z5,w5⟩:=RowsAt.of_trod Tryz.underlying47 Tryz.underlying22 Tryz.underlying3 c22 c3 b22 b3 k5 (fits_part ht hf (i:=5) rfl rfl)
   obtain⟨z6,w6⟩:=RowsAt.of_trod Tryz.underlying47 Tryz.underlying22 Tryz.underlying3 c22 c3 b22 b3 k6 (fits_part ht hf (i:=6) rfl rfl)
   obtain⟨z7,w7⟩:=RowsAt.of_trod Tryz.underlying47 Tryz.underlying22 Tryz.underlying3 c22 c3 b22 b3 k7 (fits_part ht hf (i:=7) rfl rfl)
   obtain⟨z8,w8⟩:=RowsAt.of_trod Tryz.underlying47 Tryz.underlying22 Tryz.underlying3 c22 c3 b22 b3 k8 (fits_part ht hf (i:=8) rfl rfl)
   exact⟨⟨n0,n1,n2,z3,z4,z5,z6,z7,z8,n9⟩,_,rfl,w0,w1,w2,w9,c3',c4,c5,c6,c7,c8,rfl,w3,w4,w5,w6,w7,w8⟩
end Go.Proofs.YtfoefpoaomepbaaGreatDoor
