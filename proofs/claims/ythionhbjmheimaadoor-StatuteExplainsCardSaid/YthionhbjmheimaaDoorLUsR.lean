import Derived.Test.YthionhbjmheimaaDoorLTwistW
import Derived.Test.YthionhbjmheimaaDoorLSyT
import Derived.Test.YthionhbjmheimaaDoorLTypV
import Derived.Test.YthionhbjmheimaaDoorLK
import Derived.Laws.IdiomCopy
import Derived.Deep.OwnRows
import Derived.ProofKit
import Derived.SizedLaws
import Derived.Deep.Matrix
import Derived.Deep.Fields
import Derived.OpenShut
set_option linter.all false
set_option maxHeartbeats 16000000
set_option maxRecDepth 1000000
namespace Go.Proofs.YthionhbjmheimaaDoor
open Go.RowKit
structure SlotC(w:World)(b o:Nat)(c:Value)(e:Ex)(u:Value):Prop where
 nm:w.cell? ⟨b,o,none⟩=some c
 c0:w.cell? ⟨b,o+1,none⟩=some (.int .i64 e.op)
 c1:w.cell? ⟨b,o+2,none⟩=some (.int .i64 e.num)
 c2:w.cell? ⟨b,o+3,none⟩=some (.int .i64 e.den)
 c3:w.cell? ⟨b,o+4,none⟩=some (.int .i64 e.dim)
 c4:w.cell? ⟨b,o+5,none⟩=some (.string e.name)
 c5:w.cell? ⟨b,o+6,none⟩=some u
 rep:RepE (fun _=>True) w e u
theorem SlotC.same{w w':World}{b o:Nat}{c:Value}{e:Ex}{u:Value}(h:SlotC w b o c e u)(hg:w.Grows w')(hb:b<w.heap.size):SlotC w' b o c e u:=by
 have k:∀o,w'.cell? ⟨b,o,none⟩=w.cell? ⟨b,o,none⟩:=fun o=>World.cell?_of_block (hg.below.block b hb)
 exact⟨by rw [k];exact h.nm,by rw [k];exact h.c0,by rw [k];exact h.c1,by rw [k];exact h.c2,by rw [k];exact h.c3,by rw [k];exact h.c4,by rw [k];exact h.c5,h.rep.grows hg⟩
def LetsAt(w:World)(v:Value)(ls:List (ByteArray × Ex)):Prop:=
 ls.length≤1000∧∃a cap,v= .slice a ls.length cap∧(ls.length=0∨∃b off,a=some ⟨b,off,none⟩∧b<w.heap.size∧∀i,i<ls.length→∃u,SlotC w b (off+i*7) (.string (ls.getD i default).1) (ls.getD i default).2 u)
theorem LetsAt.grows{w w':World}{v:Value}{ls:List (ByteArray × Ex)}(h:LetsAt w v ls)(hg:w.Grows w'):LetsAt w' v ls:=by
 exact lz17
theorem map_at'{α β:Type}{f:α→β}{l:List α}{L:List β}(h:l.map f=L){k:Nat}(hk:k<L.length):∃x,l[k]? =some x∧L[k]? =some (f x):=by
 subst h
 have hk':k<l.length:=by simpa using hk
 exact⟨l[k],List.getElem?_eq_getElem hk',by rw [List.getElem?_map,List.getElem?_eq_getElem hk'];rfl⟩
theorem VerAt.lets{B:Nat}{w:World}{V:VerP}{v3 v4 v5 v6 v7:Value}(h:VerAt B w V v3 v4 v5 v6 v7)(hl:V.le.length≤1000):LetsAt w v5 V.le:=by
 obtain⟨ql,qg,qr,H1,H2,H3,H4,H5,e1,e2,e3,ord,r1,r2,r3,r4,r5⟩:=h
 obtain⟨a,cap,hv,hc⟩:=r3.toG.cells
 have hlen:(letL ql).length=V.le.length:=by rw [←e1];simp [letL]
 rw [hlen]at hv hc
 refine⟨hl,a,cap,hv,hc.imp id ?_⟩
 rintro⟨g,ha,hb,hlt,hx⟩
 refine⟨g,0,ha,hlt,fun i hi=>?_⟩
 obtain⟨⟨s,e,v⟩,hta,htl⟩:=map_at' e1 hi
 have hget:(letL ql).getD i []= .string s::cells1 e v:=by simp [letL,List.getD_eq_getElem?_getD,List.getElem?_map,hta]
 have hle:V.le.getD i default=(s,e):=by rw [List.getD_eq_getElem?_getD,htl];rfl
 have h7:=fun j u hj hu=>hx i j u hi hj (by rw [hget];exact hu)
 rw [hle,show 0+i*7=i*7 by omega]
 exact⟨v,h7 0 _ (by omega) rfl,h7 1 _ (by omega) rfl,h7 2 _ (by omega) rfl,h7 3 _ (by omega) rfl,h7 4 _ (by omega) rfl,h7 5 _ (by omega) rfl,h7 6 _ (by omega) rfl,(r3.rep (e,v) (List.mem_map.2 ⟨_,List.mem_of_getElem? hta,rfl⟩)).mono fun _ _=>trivial⟩
theorem toList_in{a b:ByteArray}(h:a.toList=b.toList):a=b:=by
 rw [ByteArray.toList_eq,ByteArray.toList_eq]at h
 exact ByteArray.ext (Array.ext' h)
def mT(s:ByteArray)(e:Ex)(k:Nat):Bool:=mentsB s (e.args.take k)
theorem mT_succ(s:ByteArray)(e:Ex)(k:Nat)(h:k<e.args.length)(h1:mT s e k=false)(h2:mentB s (e.arg k)=false):mT s e (k+1)=false:=by
 unfold mT at *;rw [mentsB_take _ _ _ h,h1,Bool.false_or];exact h2
theorem ment8_walk(S:Nat→Prop)(s:ByteArray)(n:Nat):∀(e:Ex),e.size≤n→∀(v:Value) (w:World),RepE S w e v→(Calls Tryd.prog 68 #[exV e v,.string s] w fun r w'=>r= .returned (.bool (mentB s e))∧w.Grows w'):=by
 induction n with
 |zero=>intro e he;have:=e.size_pos;omega
 |succ n ih=>
  intro e he v w h
  have HF:=Lib.hid (mentB_eq s e)
  have IH:=Lib.hid ih
  clear ih
  cases h with
  |mk _ a cap vs hr hc hs=>
   have hlen:=hr.len
   have Hs:=Lib.hid hs
   have He:=Lib.hid he
   have Hc:=Lib.hid hc
   clear hr hs he hc
   by_cases ho:e.op=2
   ·by_cases hn:e.name=s
    ·have HH:Hid (mentB s e=true):=Lib.hid (by rw [HF.out,decide_eq_true ho,decide_eq_true hn];rfl)
     have n2:(e.name.toList==s.toList)=true:=by rw [hn];simp
     clear HF hn
     go_enter Tryd.func68,Tryd.ntmps68
     go_wp2_with fail
     go_returns
     exact⟨ret_bool HH.out.symm,.of_below belB⟩
    ·have HQ:Hid ((decide (e.op=2)&&decide (e.name=s))=false):=Lib.hid (by rw [decide_eq_false hn,Bool.and_false])
     have n2:(e.name.toList==s.toList)=false:=by rw [beq_eq_false_iff_ne];exact fun h=>hn (toList_in h)
     clear hn
     go_enter Tryd.func68,Tryd.ntmps68
     go_wp2_with fail
     go_loopw [5] (fun vk wr=>∃k:Nat,k≤e.args.length∧vk= .int .i64 k∧Hid (mT s e k=false)∧
      ∃(x0 x1 x2 x3:Int) (x4:ByteArray),World.Grows (w.alloc (.cells #[.int .i64 x0,.int .i64 x1,.int .i64 x2,.int .i64 x3,.string x4,.slice a e.args.length cap] 63)) wr) (fun vk _=>e.args.length-(intOf vk).toNat)
     case atStart=>exact⟨0,by omega,rfl,Lib.hid rfl,_,_,_,_,_,.of_below belB⟩
     case round=>
      obtain⟨k,hk,rfl,HT,x0,x1,x2,x3,x4,bs,d,rfl⟩:=hrel
      by_cases hlt:k<e.args.length
      ·rcases Hc.out with h0|⟨b,off,rfl,hS,hbw,hx⟩
       ·omega
       ·obtain⟨y0,y1,y2,y3,y4,y5⟩:=hx k hlt
        clear hx
        have hlt1:(k:Int)<(e.args.length:Int):=by omega
        have HA:=Lib.hid (e.size_arg k hlt)
        cases hb:mentB s (e.arg k)
        ·have HB:=Lib.hid hb
         clear hb
         go_wp2_with fail
         refine(IH.out (e.arg k) (by have:=He.out;have:=HA.out;omega) (vs k) _ (((Hs.out k hlt).alloc _).grow _ _)).mono ?_
         rintro r w' ⟨rfl,bs2,d2,rfl⟩
         simp only [HB.out]
         go_wp2_with fail
         go_roundw
         case rel=>exact⟨k+1,by omega,by go_num,Lib.hid (mT_succ s e k hlt HT.out HB.out),x0,x1,x2,x3,x4,.of_below belB⟩
         case measure=>simp [intOf];omega
        ·have HB:=Lib.hid hb
         clear hb
         go_wp2_with fail
         refine(IH.out (e.arg k) (by have:=He.out;have:=HA.out;omega) (vs k) _ (((Hs.out k hlt).alloc _).grow _ _)).mono ?_
         rintro r w' ⟨rfl,bs2,d2,rfl⟩
         simp only [HB.out]
         go_wp2_with fail
         go_returns
         exact⟨ret_bool (by rw [HF.out,mentsB_yes s e.args k hlt HB.out];simp),.of_below belB⟩
      ·obtain rfl:k=e.args.length:=by omega
       have HT2:Hid (mentsB s e.args=false):=Lib.hid (by have:=HT.out;unfold mT at this;rw [List.take_length]at this;exact this)
       clear HT
       go_wp2_with fail
       go_returns
       exact⟨ret_bool (by rw [HF.out,HT2.out,HQ.out];rfl),.of_below belB⟩
   ·have HQ:Hid ((decide (e.op=2)&&decide (e.name=s))=false):=Lib.hid (by rw [decide_eq_false ho,Bool.false_and])
    have p2:(e.op==2)=false:=by simpa using ho
    clear ho
    go_enter Tryd.func68,Tryd.ntmps68
    go_wp2_with fail
    go_loopw [5] (fun vk wr=>∃k:Nat,k≤e.args.length∧vk= .int .i64 k∧Hid (mT s e k=false)∧
     ∃(x0 x1 x2 x3:Int) (x4:ByteArray),World.Grows (w.alloc (.cells #[.int .i64 x0,.int .i64 x1,.int .i64 x2,.int .i64 x3,.string x4,.slice a e.args.length cap] 63)) wr) (fun vk _=>e.args.length-(intOf vk).toNat)
    case atStart=>exact⟨0,by omega,rfl,Lib.hid rfl,_,_,_,_,_,.of_below belB⟩
    case round=>
     obtain⟨k,hk,rfl,HT,x0,x1,x2,x3,x4,bs,d,rfl⟩:=hrel
     by_cases hlt:k<e.args.length
     ·rcases Hc.out with h0|⟨b,off,rfl,hS,hbw,hx⟩
      ·omega
      ·obtain⟨y0,y1,y2,y3,y4,y5⟩:=hx k hlt
       clear hx
       have hlt1:(k:Int)<(e.args.length:Int):=by omega
       have HA:=Lib.hid (e.size_arg k hlt)
       cases hb:mentB s (e.arg k)
       ·have HB:=Lib.hid hb
        clear hb
        go_wp2_with fail
        refine(IH.out (e.arg k) (by have:=He.out;have:=HA.out;omega) (vs k) _ (((Hs.out k hlt).alloc _).grow _ _)).mono ?_
        rintro r w' ⟨rfl,bs2,d2,rfl⟩
        simp only [HB.out]
        go_wp2_with fail
        go_roundw
        case rel=>exact⟨k+1,by omega,by go_num,Lib.hid (mT_succ s e k hlt HT.out HB.out),x0,x1,x2,x3,x4,.of_below belB⟩
        case measure=>simp [intOf];omega
       ·have HB:=Lib.hid hb
        clear hb
        go_wp2_with fail
        refine(IH.out (e.arg k) (by have:=He.out;have:=HA.out;omega) (vs k) _ (((Hs.out k hlt).alloc _).grow _ _)).mono ?_
        rintro r w' ⟨rfl,bs2,d2,rfl⟩
        simp only [HB.out]
        go_wp2_with fail
        go_returns
        exact⟨ret_bool (by rw [HF.out,mentsB_yes s e.args k hlt HB.out];simp),.of_below belB⟩
     ·obtain rfl:k=e.args.length:=by omega
      have HT2:Hid (mentsB s e.args=false):=Lib.hid (by have:=HT.out;unfold mT at this;rw [List.take_length]at this;exact this)
      clear HT
      go_wp2_with fail
      go_returns
      exact⟨ret_bool (by rw [HF.out,HT2.out,HQ.out];rfl),.of_below belB⟩
theorem ment8_any(S:Nat→Prop)(s:ByteArray)(e:Ex)(v:Value)(w:World)(h:RepE S w e v):(Calls Tryd.prog 68 #[exV e v,.string s] w fun r w'=>r= .returned (.bool (mentB s e))∧w.Grows w'):=ment8_walk S s e.size e (Nat.le_refl _) v w h
theorem infoU:(Tryd.prog.info? 3).map (fun i=>(i.zero,i.size,i.bytes))=some (some (.int .i64 0),1,8):=by kernel_rfl
theorem own_read{w:World}{base:Nat}{v:Value}{u:List Nat}(h:w.ownsRow base 3 1 v u.length (u.map fun(i:Nat)=>.int .i64 i)):∃a cap,v= .slice a u.length cap∧(u.length=0∨∃g cur,a=some ⟨g,0,none⟩∧base≤g∧w.heap[g]? =some (.cells cur 3 (0,0))∧∀j,j<u.length→w.cell? ⟨g,j,none⟩=some (.int .i64 (u.getD j 0:Nat))):=by
 obtain⟨-,⟨rfl,h0⟩|⟨g,cap,cur,rfl,hb,hg,h2,h3,h4,h5⟩⟩:=id h
 ·exact⟨none,0,by rw [h0],.inl h0⟩
 ·refine⟨_,cap,rfl,.inr ⟨g,cur,rfl,hb,hg,fun i hi=>?_⟩⟩
  rw [h.cellAt i (by omega),List.getElem?_map,List.getElem?_eq_getElem hi,List.getD_eq_getElem?_getD,List.getElem?_eq_getElem hi]
  rfl
theorem IntsAt.of_nats{w:World}{base:Nat}{v:Value}{u:List Nat}(h:w.ownsRow base 3 1 v u.length (u.map fun(i:Nat)=>.int .i64 i))(hl:u.length≤1000)(hr:∀k∈u,k≤1000):IntsAt w v (u.map Int.ofNat):=by
 obtain⟨a,cap,rfl,hc⟩:=own_read h
 refine⟨by simp;omega,fun z hz=>?_,a,cap,by simp,hc.imp (by simp) ?_⟩
 ·obtain⟨k,hk,rfl⟩:=List.mem_map.1 hz
  have:=hr k hk
  simp only [Int.ofNat_eq_natCast]
  omega
 ·rintro⟨g,cur,rfl,-,hg,hx⟩
  refine⟨g,0,rfl,(Array.getElem?_eq_some_iff.1 hg).1,fun i hi=>?_⟩
  rw [List.length_map]at hi
  rw [Nat.zero_add,hx i hi,List.getD_eq_getElem?_getD,List.getD_eq_getElem?_getD,List.getElem?_map,List.getElem?_eq_getElem hi]
  rfl
def markT(e:Ex)(ls:List (ByteArray × Ex))(i:Nat)(M:List Bool)(a k:Nat):Bool:=mentB (ls.getD i default).1 e || (List.range' a (k-a)).any fun t=>M.getD t false&&mentB (ls.getD i default).1 (ls.getD t default).2
theorem markT_zero(e:Ex)(ls:List (ByteArray × Ex))(i:Nat)(M:List Bool)(a:Nat):markT e ls i M a a=mentB (ls.getD i default).1 e:=by simp [markT]
theorem markT_succ{e:Ex}{ls:List (ByteArray × Ex)}{i:Nat}{M:List Bool}{a k:Nat}(h:a≤k):markT e ls i M a (k+1)=(markT e ls i M a k || M.getD k false&&mentB (ls.getD i default).1 (ls.getD k default).2):=by
 unfold markT
 rw [show k+1-a=(k-a)+1 by omega,List.range'_concat,List.any_append,Bool.or_assoc]
 simp [show a+(k-a)=k by omega]
theorem any_marks{u:List Nat}{a n:Nat}{p:Nat→Bool}(hu:∀k∈u,a≤k∧k<n)(M:List Bool)(hM:∀k,a≤k→k<n→M.getD k false=u.contains k):((List.range' a (n-a)).any fun t=>M.getD t false&&p t)=u.any p:=by
 rw [Bool.eq_iff_iff,List.any_eq_true,List.any_eq_true]
 constructor
 ·rintro⟨t,ht,hp⟩
  rw [List.mem_range'_1]at ht
  rw [hM t ht.1 (by omega),Bool.and_eq_true]at hp
  exact⟨t,List.contains_iff_mem.1 hp.1,hp.2⟩
 ·rintro⟨t,ht,hp⟩
  have h:=hu t ht
  refine⟨t,List.mem_range'_1.2 ⟨h.1,by omega⟩, ?_⟩
  rw [hM t h.1 h.2,Bool.and_eq_true]
  exact⟨List.contains_iff_mem.2 ht,hp⟩
theorem mark_need{e:Ex}{ls:List (ByteArray × Ex)}{f i:Nat}(hf:f<ls.length)(hi:i=ls.length-1-f){M:List Bool}(hM:∀k,ls.length-f≤k→k<ls.length→M.getD k false=(usesG e ls f).contains k) :
 markT e ls i M (i+1) ls.length=needB e ls i (usesG e ls f):=by
 unfold markT needB
 rw [any_marks (u:=usesG e ls f) (fun k hk=>by have:=usesG_mem f (by omega) k hk;omega) M (fun k h1 h2=>hM k (by omega) h2)]
theorem marks_next{e:Ex}{ls:List (ByteArray × Ex)}{f i:Nat}(hf:f<ls.length)(hi:i=ls.length-1-f){M:List Bool}(hl:M.length=ls.length)(hM:∀k,ls.length-f≤k→k<ls.length→M.getD k false=(usesG e ls f).contains k) :
 ∀k,ls.length-(f+1)≤k→k<ls.length→(M.set i (needB e ls i (usesG e ls f))).getD k false=(usesG e ls (f+1)).contains k:=by
 intro k h1 h2
 by_cases hk:k=i
 ·subst hk
  rw [List.getD_eq_getElem?_getD,List.getElem?_set_self (by omega)]
  have:=usesG_contains (e:=e) (ls:=ls) f (by omega)
  rw [show ls.length-(f+1)=k by omega]at this
  rw [this];rfl
 ·rw [List.getD_eq_getElem?_getD,List.getElem?_set_ne (Ne.symm hk),←List.getD_eq_getElem?_getD,hM k (by omega) h2]
  have:=usesG_sub (e:=e) (ls:=ls) (i:=k) f 1 (by omega) (by omega) h2
  rw [Bool.eq_iff_iff,List.contains_iff_mem,List.contains_iff_mem,this]
def fl(M:List Bool)(k:Nat):List Nat:=(List.range k).filter fun t=>M.getD t false
theorem fl_next(M:List Bool)(k:Nat):fl M (k+1)=match M.getD k false with|true=>fl M k++[k]|false=>fl M k:=by
 unfold fl
 rw [List.range_succ,List.filter_append]
 cases h:M.getD k false<;>(rw [List.getD_eq_getElem?_getD]at h;simp [h])
theorem fl_len(M:List Bool)(k:Nat):(fl M k).length≤k:=by
 unfold fl
 have:=List.length_filter_le (fun t=>M.getD t false) (List.range k)
 rwa [List.length_range]at this
theorem uses_filter{e:Ex}{ls:List (ByteArray × Ex)}:∀f,f≤ls.length→usesG e ls f=(List.range' (ls.length-f) f).filter fun t=>(usesL e ls).contains t
 |0,_=>by simp [usesG]
 |f+1,hf=>by
  have hm:(usesL e ls).contains (ls.length-(f+1))=needB e ls (ls.length-(f+1)) (usesG e ls f):=by
   rw [←usesG_contains f hf,Bool.eq_iff_iff,List.contains_iff_mem,List.contains_iff_mem]
   unfold usesL
   have:=usesG_sub (e:=e) (ls:=ls) (i:=ls.length-(f+1)) (f+1) (ls.length-(f+1)) (by omega) (by omega) (by omega)
   rw [show f+1+(ls.length-(f+1))=ls.length by omega]at this
   exact this
  rw [List.range'_succ,List.filter_cons,hm,show ls.length-(f+1)+1=ls.length-f by omega,←uses_filter f (by omega),usesG]
theorem fl_all{e:Ex}{ls:List (ByteArray × Ex)}{M:List Bool}(h:∀k,ls.length-ls.length≤k→k<ls.length→M.getD k false=(usesG e ls ls.length).contains k):fl M ls.length=usesL e ls:=by
 have:=uses_filter (e:=e) (ls:=ls) ls.length (Nat.le_refl _)
 unfold fl usesL
 unfold usesL at this
 rw [this,Nat.sub_self,←List.range_eq_range']
 exact List.filter_congr fun t ht=>h t (by omega) (List.mem_range.1 ht)
def bbs(M:List Bool):Array Value:=(M.map Value.bool).toArray
theorem bbs_get(M:List Bool){k:Nat}(h:k<M.length):(bbs M)[k]? =some (.bool (M.getD k false)):=by
 simp [bbs,List.getD_eq_getElem?_getD,List.getElem?_eq_getElem h]
theorem bbs_set(M:List Bool)(k:Nat)(b:Bool):(bbs M).setIfInBounds k (.bool b)=bbs (M.set k b):=by
 simp [bbs,List.map_set]
theorem bbs_made(n:Nat):madeCells #[Value.bool false] n=bbs (List.replicate n false):=by
 unfold bbs madeCells
 rw [List.map_replicate]
 apply Array.ext'
 rw [List.toList_toArray]
 refine List.ext_getElem (by simp) fun i h1 h2=>?_
 simp [Nat.mod_one]
theorem infoBo:(Tryd.prog.info? 4).map (fun i=>(i.zero,i.size,i.bytes))=some (some (.bool false),1,1):=by kernel_rfl
theorem bbs_setT(M:List Bool)(i:Nat)(a b:Bool):(bbs (M.set i a)).setIfInBounds i (.bool b)=bbs (M.set i b):=by rw [bbs_set,List.set_set]
theorem set_get{M:List Bool}{i k:Nat}{b:Bool}(h:k≠i):(M.set i b).getD k false=M.getD k false:=by
 rw [List.getD_eq_getElem?_getD,List.getElem?_set_ne (Ne.symm h),←List.getD_eq_getElem?_getD]
theorem set_self{M:List Bool}{i:Nat}{b:Bool}(h:i<M.length):(M.set i b).getD i false=b:=by
 rw [List.getD_eq_getElem?_getD,List.getElem?_set_self h];rfl
theorem Uses8_any(e:Ex)(u v:Value)(ls:List (ByteArray × Ex))(w:World)(h:RepE (fun _=>True) w e u)(hl:LetsAt w v ls) :
 Calls Tryd.prog 47 #[exV e u,v] w fun r w'=>(∃x,r= .returned x∧IntsAt w' x ((usesL e ls).map Int.ofNat)∧∀k,x.ownBlock=some k→w.heap.size≤k)∧w.Grows w':=by
 obtain⟨i0,hi,hz0,hz1,hz2⟩:=info_parts infoU
 have HR:=Lib.hid h
 have HL:=Lib.hid hl
 obtain⟨hl1000,la,lc,rfl,-⟩:=hl
 obtain⟨a,cap,rfl⟩:=h.form0
 clear h
 have hmk:=run_make_row' (P:=Tryd.prog) 138 4 (.bool false) 1 Tryd.underlying138 infoBo rfl .i64 .i64 ls.length (by omega) (by omega)
 go_enter Tryd.func47,Tryd.ntmps47
 go_wp2_with fail
 go_loopw [6] (fun v6 wr=>∃(f:Nat) (M:List Bool),f≤ls.length∧v6= .int .i64 ((ls.length:Int)-1-f)∧M.length=ls.length∧Hid (∀k,ls.length-f≤k→k<ls.length→M.getD k false=(usesG e ls f).contains k)∧Below (w.heap.size+1) ((w.alloc (.cells #[.int .i64 e.op,.int .i64 e.num,.int .i64 e.den,.int .i64 e.dim,.string e.name,.slice a e.args.length cap] 63))) wr∧wr.heap[w.heap.size+1]? =some (.cells (bbs M) 4 (0,0))) (fun v6 _=>(intOf v6+1).toNat)
 case atStart=>exact⟨0,List.replicate ls.length false,by omega,by simp,by simp,Lib.hid (fun k h1 h2=>by omega),(Below.refl _ _).alloc (by simp) _,by rw [←bbs_made];exact heap_new _ _ _ (by simp)⟩
 case round=>
  obtain⟨f,M,hf,rfl,hM,hMk,hB,hblk⟩:=hrel
  obtain⟨W1,rfl⟩:∃W1,W1=wr:=⟨_,rfl⟩
  have HB:=Lib.hid hB
  have hG:w.Grows W1:=.of_below ((((Below.refl _ _).alloc (Nat.le_refl _) _)).trans (hB.mono (by omega)))
  have HG:=Lib.hid hG
  have HBK:=Lib.hid hblk
  have hbs:w.heap.size+1<W1.heap.size:=(Array.getElem?_eq_some_iff.1 hblk).1
  have hbs0:w.heap.size<W1.heap.size:=by omega
  by_cases hlt:f<ls.length
  ·obtain⟨i,hi'⟩:∃i:Nat,(ls.length:Int)-1-f=i:=⟨ls.length-1-f,by omega⟩
   have hii:i<ls.length:=by omega
   have HF1:=Lib.hid (mark_need (e:=e) (i:=i) hlt (by omega) hMk.out)
   have HF2:=Lib.hid (marks_next (e:=e) (i:=i) hlt (by omega) hM hMk.out)
   have bx:∀(j:Nat) (x:Value),(#[Value.int .i64 e.op,.int .i64 e.num,.int .i64 e.den,.int .i64 e.dim,.string e.name,.slice a e.args.length cap]:Array Value)[j]? =some x→W1.cell? ⟨w.heap.size,j,none⟩=some x:=fun j x hx=>by
    rw [hB.cell (p:=⟨w.heap.size,j,none⟩) (by simp),World.cell?_alloc_at _ _ _ _ rfl];exact hx
   have b0:=bx 0 _ rfl
   have b1:=bx 1 _ rfl
   have b2:=bx 2 _ rfl
   have b3:=bx 3 _ rfl
   have b4:=bx 4 _ rfl
   have b5:=bx 5 _ rfl
   clear bx
   have c0:W1.cell? ⟨w.heap.size+1,i,none⟩=some (.bool (M.getD i false)):=by rw [cell_of_row W1 _ _ _ _ _ hblk];exact bbs_get M (by omega)
   have z0:W1.frozen? ⟨w.heap.size+1,i,none⟩=false:=Joins.unfrozen_of_block hblk i
   obtain⟨-,a',c',hvv,hx⟩:=HL.out.grows hG
   simp only [Value.slice.injEq,true_and]at hvv
   obtain⟨rfl,rfl⟩:=hvv
   rcases hx with h0|⟨b,off,rfl,hbw,hx⟩
   ·omega
   obtain⟨ui,hsl⟩:=hx i hii
   have x0:=hsl.nm
   have HX:=Lib.hid hx
   have HRW:=Lib.hid (HR.out.grows hG)
   have d1:(i:Int)<(ls.length:Int):=by omega
   have d0:(0:Int)≤(i:Int):=by omega
   have HI:=Lib.hid hi'
   rw [hi']
   have hz:Hid (markT e ls i M (i+1) (i+1)=mentB (ls.getD i default).1 e):=Lib.hid (markT_zero _ _ _ _ _)
   have hs:Hid (∀k,i+1≤k→markT e ls i M (i+1) (k+1)=(markT e ls i M (i+1) k || M.getD k false&&mentB (ls.getD i default).1 (ls.getD k default).2)):=Lib.hid (fun k hk=>markT_succ hk)
   generalize hnm:(ls.getD i default).1=nm at *
   have HNM:=Lib.hid hnm
   have HML:=Lib.hid hM
   have HLT:=Lib.hid hlt
   clear hnm hsl hx hG hB hi' hblk hM hMk hlt hf
   have HM0:=Lib.hid (fun w' (hg:W1.Grows w')=>ment8_any (fun _=>True) nm e _ w' (HRW.out.grows hg))
   unfold exV at HM0
   generalize hq:mentB nm e=q0 at *
   generalize M.getD i false=m0 at *
   go_wp2_with fail
   apply wp_region_quietG_tail 10 (by kernel_rfl) (by kernel_rfl)
   simp only [List.take_succ_cons,List.take_zero]
   repeat(go_big_quiet_step ((go_at_call 68;exact Calls.quietG (HM0.out _ growsA))))
   refine wpQuiet_nil ?_
   intro _ hw'
   obtain⟨⟨gb,gd⟩,hw''⟩:=hw'
   subst hw''
   simp only [List.drop_succ_cons,List.drop_zero]
   go_wp2_with fail
   obtain⟨W2,hW2⟩:∃W2,W2=(W1.setCell ⟨w.heap.size+1,i,none⟩ (.bool q0)).grow gb gd:=⟨_,rfl⟩
   rw [←hW2]
   have HB2:Hid (Below (w.heap.size+1) ((w.alloc (.cells #[.int .i64 e.op,.int .i64 e.num,.int .i64 e.den,.int .i64 e.dim,.string e.name,.slice a e.args.length cap] 63))) W2):=Lib.hid (by rw [hW2];exact(HB.out.setCell (p:=⟨w.heap.size+1,i,none⟩) (Nat.le_refl _) _).grow (by simp;omega) _ _)
   have HC2:Hid (W2.heap[w.heap.size+1]? =some (.cells (bbs (M.set i q0)) 4 (0,0))):=Lib.hid (by rw [hW2,World.heap_grow _ _ _ (by simp;omega),←bbs_set];exact Joins.block_setCell HBK.out _)
   clear hW2 b0 b1 b2 b3 b4 b5 x0 c0 z0 HM0 hbs hbs0
   go_loopw [7] (fun v7 wr=>∃(k:Nat) (nb:Bool),i+1≤k∧k≤ls.length∧v7= .int .i64 k∧Hid (markT e ls i M (i+1) k=nb)∧Below (w.heap.size+1) ((w.alloc (.cells #[.int .i64 e.op,.int .i64 e.num,.int .i64 e.den,.int .i64 e.dim,.string e.name,.slice a e.args.length cap] 63))) wr∧wr.heap[w.heap.size+1]? =some (.cells (bbs (M.set i nb)) 4 (0,0))) (fun v7 _=>ls.length-(intOf v7).toNat)
   case atStart=>exact⟨i+1,q0,by omega,by omega,by go_num,hz,HB2.out,HC2.out⟩
   case round=>
    obtain⟨k,nb,hki,hk,rfl,HN,hB3,hblk⟩:=hrel
    obtain⟨W3,rfl⟩:∃W3,W3=wr:=⟨_,rfl⟩
    have HB3:=Lib.hid hB3
    have HBK3:=Lib.hid hblk
    have hbs:w.heap.size+1<W3.heap.size:=(Array.getElem?_eq_some_iff.1 hblk).1
    by_cases hkl:k<ls.length
    ·have c0:W3.cell? ⟨w.heap.size+1,i,none⟩=some (.bool nb):=by rw [cell_of_row W3 _ _ _ _ _ hblk,bbs_get _ (by rw [List.length_set];have:=HML.out;omega),set_self (by have:=HML.out;omega)]
     have c1:W3.cell? ⟨w.heap.size+1,k,none⟩=some (.bool (M.getD k false)):=by rw [cell_of_row W3 _ _ _ _ _ hblk,bbs_get _ (by rw [List.length_set];have:=HML.out;omega),set_get (by omega)]
     have z0:W3.frozen? ⟨w.heap.size+1,i,none⟩=false:=Joins.unfrozen_of_block hblk i
     have hsuc:=hs.out k hki
     rw [HN.out]at hsuc
     have hG3:w.Grows W3:=.of_below ((((Below.refl _ _).alloc (Nat.le_refl _) _)).trans (hB3.mono (by omega)))
     obtain⟨-,a',c',hvv,hx⟩:=HL.out.grows hG3
     simp only [Value.slice.injEq,true_and]at hvv
     obtain⟨hvv,rfl⟩:=hvv
     rcases hx with h0|⟨b',off',rfl,hbw3,hx⟩
     ·omega
     simp only [Option.some.injEq,Addr.mk.injEq,and_true]at hvv
     obtain⟨rfl,rfl⟩:=hvv
     obtain⟨uk,hsk⟩:=hx k hkl
     obtain⟨ui,hsi⟩:=hx i hii
     have x0:=hsi.nm
     rw [HNM.out]at x0
     obtain⟨-,y1,y2,y3,y4,y5,y6,hrk⟩:=hsk
     obtain⟨ka,kc,rfl⟩:=hrk.form0
     generalize(ls.getD k default).2=ek at *
     have HRK:=Lib.hid hrk
     have HM2:=Lib.hid (fun w' (hg:W3.Grows w')=>ment8_any (fun _=>True) nm ek _ w' (HRK.out.grows hg))
     unfold exV at HM2
     have e1:(k:Int)<(ls.length:Int):=by omega
     have e0:(0:Int)≤(k:Int):=by omega
     have HSU:=Lib.hid hsuc
     have HKI:=Lib.hid hki
     have HKL:=Lib.hid hkl
     clear hsi hrk hsuc hx hB3 hblk hki hkl hk hG3
     generalize hq2:mentB nm ek=q2 at *
     generalize M.getD k false=mk at *
     cases nb
     ·cases mk
      focus
       go_wp2_with fail
      rotate_left
      focus
       go_wp2_with fail
      rotate_left
      all_goals
       apply wp_region_quietG_tail 26 (by kernel_rfl) (by kernel_rfl)
       simp only [List.take_succ_cons,List.take_zero]
       repeat(go_big_quiet_step ((go_at_call 68;exact Calls.quietG (HM2.out _ growsA))))
       refine wpQuiet_nil ?_
       intro _ hw'
       obtain⟨⟨gb,gd⟩,hw''⟩:=hw'
       subst hw''
       simp only [List.drop_succ_cons,List.drop_zero]
       go_wp2_with fail
       go_roundw
       case rel=>exact⟨k+1,_,by have:=HKI.out;omega,HKL.out,by go_num,HSU,by have:=HB3.out;(exact belB),by first|(rw [World.heap_grow _ _ _ (by simp;omega),←bbs_setT];exact Joins.block_setCell HBK3.out _)|(rw [←bbs_setT];exact Joins.block_setCell ((World.heap_grow _ _ _ hbs).trans HBK3.out) _)⟩
       case measure=>simp [intOf];have:=HKL.out;omega
     ·go_wp2_with fail
      apply wp_region_quietG_tail 26 (by kernel_rfl) (by kernel_rfl)
      simp only [List.take_succ_cons,List.take_zero]
      repeat(go_big_quiet_step ((go_at_call 68;exact Calls.quietG (HM2.out _ growsA))))
      refine wpQuiet_nil ?_
      intro _ hw'
      obtain⟨⟨gb,gd⟩,hw''⟩:=hw'
      subst hw''
      simp only [List.drop_succ_cons,List.drop_zero]
      go_wp2_with fail
      go_roundw
      case rel=>exact⟨k+1,_,by have:=HKI.out;omega,HKL.out,by go_num,HSU,by have:=HB3.out;(exact belB),by first|(rw [World.heap_grow _ _ _ (by simp;omega),←bbs_setT];exact Joins.block_setCell HBK3.out _)|(rw [←bbs_setT];exact Joins.block_setCell ((World.heap_grow _ _ _ hbs).trans HBK3.out) _)⟩
      case measure=>simp [intOf];have:=HKL.out;omega
    ·obtain rfl:k=ls.length:=by omega
     have HN2:Hid (needB e ls i (usesG e ls f)=nb):=Lib.hid (HF1.out.symm.trans HN.out)
     have HF3:=HF2
     rw [HN2.out]at HF3
     clear HF2 HN hB3 hblk
     go_wp2_with fail
     go_roundw
     case rel=>exact⟨f+1,_,HLT.out,by have:=HI.out;first|(congr 1;omega)|(simp;omega),by rw [List.length_set];exact HML.out,HF3,HB3.out,HBK3.out⟩
     case measure=>first|(simp [intOf];done)|(simp [intOf];omega)
  ·obtain rfl:f=ls.length:=by omega
   have hz:(ls.length:Int)-1-ls.length= -1:=by omega
   rw [hz]
   have HMK:Hid (∀k,k<ls.length→M.getD k false=(usesL e ls).contains k):=Lib.hid (fun k hk=>hMk.out k (by omega) hk)
   have HML:=Lib.hid hM
   have HFL:Hid (fl M ls.length=usesL e ls):=Lib.hid (fl_all hMk.out)
   clear hz hB hblk hMk hM
   go_wp2_with fail
   go_loopw [8,9] (fun v8 v9 wr=>∃(k:Nat) (vb:Value),vb=v8∧k≤ls.length∧v9= .int .i64 k∧Below (w.heap.size+1) ((w.alloc (.cells #[.int .i64 e.op,.int .i64 e.num,.int .i64 e.den,.int .i64 e.dim,.string e.name,.slice a e.args.length cap] 63))) wr∧wr.heap[w.heap.size+1]? =some (.cells (bbs M) 4 (0,0))∧wr.ownsRow (w.heap.size+2) 3 1 vb (fl M k).length ((fl M k).map fun(i:Nat)=>.int .i64 i)) (fun _ v9 _=>ls.length-(intOf v9).toNat)
   case atStart=>exact⟨0,_,rfl,by omega,rfl,HB.out,HBK.out,World.ownsRow_nil _ _ _ _⟩
   case round=>
    obtain⟨k,vb,rfl,hk,rfl,hB3,hblk,hown⟩:=hrel
    have HB3:=Lib.hid hB3
    have HBK3:=Lib.hid hblk
    have HO3:=Lib.hid hown
    have hbs3:w.heap.size+1<wr.heap.size:=(Array.getElem?_eq_some_iff.1 hblk).1
    by_cases hkl:k<ls.length
    ·have c0:wr.cell? ⟨w.heap.size+1,k,none⟩=some (.bool (M.getD k false)):=by rw [cell_of_row wr _ _ _ _ _ hblk,bbs_get _ (by have:=HML.out;omega)]
     have e1:(k:Int)<(ls.length:Int):=by omega
     have e0:(0:Int)≤(k:Int):=by omega
     have HKL:=Lib.hid hkl
     have HN:=Lib.hid (fl_next M k)
     have hfl:=fl_len M k
     clear hB3 hblk hown hkl hk
     cases hm:M.getD k false
     ·rw [hm]at c0 HN
      have HN:Hid (fl M (k+1)=fl M k):=HN
      clear hm
      go_wp2_with fail
      go_roundw
      case rel=>exact⟨k+1,_,rfl,HKL.out,by go_num,HB3.out,HBK3.out,by rw [HN.out];exact HO3.out⟩
      case measure=>simp [intOf];have:=HKL.out;omega
     ·rw [hm]at c0 HN
      have HN:Hid (fl M (k+1)=fl M k++[k]):=HN
      clear hm
      have hk10:k≤1000:=by have:=HKL.out;omega
      go_wp2_with (at_builtin;refine wpList_append_own _ rfl _ _ 22 rfl (w.heap.size+2) 3 i0 (.int .i64 0) 1 8 Tryd.underlying22 hi hz0 hz1 hz2 rfl (by decide) _ _ _ rfl (HO3.out.alloc _) ⟨wr.heap.size,0,none⟩ 1 1 [.int .i64 k] rfl rfl ?c1 ?c2 ?c3 ?c4 ?c5 ?_)
      try(case c1=>exact news_cells _ [.int .i64 k] _ _ (by simp))
      case c2=>first|rfl|(intro u hu;simp at hu;subst hu;rfl)
      case c3=>unfold maxLen;omega
      case c4=>omega
      case c5=>first|omega|(simp;omega)
      intro v' w1 hown' hgrow _
      have HB4:=Lib.hid ((show Below (w.heap.size+1) ((w.alloc (.cells #[.int .i64 e.op,.int .i64 e.num,.int .i64 e.den,.int .i64 e.dim,.string e.name,.slice a e.args.length cap] 63))) _ from by have:=HB3.out;(exact belB)).grown hgrow (by simp;omega) (fun k hk=>by have:=(HO3.out.lt k hk).1;omega))
      have HBK4:Hid (w1.heap[w.heap.size+1]? =some (.cells (bbs M) 4 (0,0))):=Lib.hid ((hgrow.block (w.heap.size+1) (by simp;omega) (fun e=>by have:=(HO3.out.lt _ e.symm).1;omega)).trans ((Below.heap_alloc _ _ _ hbs3).trans HBK3.out))
      have HO4:=Lib.hid hown'
      clear hown' hgrow
      go_wp2_with fail
      go_roundw
      case rel=>exact⟨k+1,_,rfl,HKL.out,by go_num,HB4.out,HBK4.out,by rw [HN.out,List.length_append,List.map_append];exact HO4.out⟩
      case measure=>simp [intOf];have:=HKL.out;omega
    ·obtain rfl:k=ls.length:=by omega
     rw [HFL.out]at HO3
     have hll:=usesG_length (e:=e) (ls:=ls) ls.length
     have HIN:Hid (IntsAt wr vb ((usesL e ls).map Int.ofNat)):=Lib.hid (IntsAt.of_nats HO3.out (by unfold usesL;omega) (fun k hk=>by have:=usesG_mem ls.length (Nat.le_refl _) k hk;omega))
     have HNB:Hid (∀k,vb.ownBlock=some k→w.heap.size≤k):=Lib.hid (fun k hk=>by have:=(HO3.out.lt k hk).1;omega)
     clear hB3 hblk hown
     go_wp2_with fail
     go_returns
     exact⟨⟨_,rfl,HIN.out,HNB.out⟩,.of_below ((((Below.refl _ _).alloc (Nat.le_refl _) _)).trans (HB3.out.mono (by omega)))⟩
def NumsAt(c:Nat)(w:World)(v:Value)(l:List Int):Prop:=
 l.length≤1000∧∃a cap,v= .slice a l.length cap∧(l.length=0∨∃b off,a=some ⟨b,off,none⟩∧b<w.heap.size∧∀i,i<l.length→w.cell? ⟨b,off+i*c,none⟩=some (.int .i64 (l.getD i 0)))
structure GraC(w:World)(b o:Nat)(t:Int × Ex × Ex)(u v:Value):Prop where
 nm:w.cell? ⟨b,o,none⟩=some (.int .i64 t.1)
 c0:w.cell? ⟨b,o+1,none⟩=some (.int .i64 t.2.1.op)
 c1:w.cell? ⟨b,o+2,none⟩=some (.int .i64 t.2.1.num)
 c2:w.cell? ⟨b,o+3,none⟩=some (.int .i64 t.2.1.den)
 c3:w.cell? ⟨b,o+4,none⟩=some (.int .i64 t.2.1.dim)
 c4:w.cell? ⟨b,o+5,none⟩=some (.string t.2.1.name)
 c5:w.cell? ⟨b,o+6,none⟩=some u
 e0:w.cell? ⟨b,o+7,none⟩=some (.int .i64 t.2.2.op)
 e1:w.cell? ⟨b,o+8,none⟩=some (.int .i64 t.2.2.num)
 e2:w.cell? ⟨b,o+9,none⟩=some (.int .i64 t.2.2.den)
 e3:w.cell? ⟨b,o+10,none⟩=some (.int .i64 t.2.2.dim)
 e4:w.cell? ⟨b,o+11,none⟩=some (.string t.2.2.name)
 e5:w.cell? ⟨b,o+12,none⟩=some v
 rep:RepE (fun _=>True) w t.2.1 u
 rep2:RepE (fun _=>True) w t.2.2 v
instance:Inhabited (Int × Ex × Ex):=⟨(0,default,default)⟩
def GrantsAt(w:World)(v:Value)(l:List (Int × Ex × Ex)):Prop:=
 l.length≤1000∧∃a cap,v= .slice a l.length cap∧(l.length=0∨∃b off,a=some ⟨b,off,none⟩∧b<w.heap.size∧∀i,i<l.length→∃u u',GraC w b (off+i*13) (l.getD i default) u u')
def RedsAt(w:World)(v:Value)(l:List (Int × Ex)):Prop:=
 l.length≤1000∧∃a cap,v= .slice a l.length cap∧(l.length=0∨∃b off,a=some ⟨b,off,none⟩∧b<w.heap.size∧∀i,i<l.length→∃u,SlotC w b (off+i*7) (.int .i64 (l.getD i default).1) (l.getD i default).2 u)
theorem GraC.same{w w':World}{b o:Nat}{t:Int × Ex × Ex}{u v:Value}(h:GraC w b o t u v)(hg:w.Grows w')(hb:b<w.heap.size):GraC w' b o t u v:=by
 have k:∀o,w'.cell? ⟨b,o,none⟩=w.cell? ⟨b,o,none⟩:=fun o=>World.cell?_of_block (hg.below.block b hb)
 exact⟨by rw [k];exact h.nm,by rw [k];exact h.c0,by rw [k];exact h.c1,by rw [k];exact h.c2,by rw [k];exact h.c3,by rw [k];exact h.c4,by rw [k];exact h.c5,by rw [k];exact h.e0,by rw [k];exact h.e1,by rw [k];exact h.e2,by rw [k];exact h.e3,by rw [k];exact h.e4,by rw [k];exact h.e5,h.rep.grows hg,h.rep2.grows hg⟩
theorem NumsAt.grows{c:Nat}{w w':World}{v:Value}{l:List Int}(h:NumsAt c w v l)(hg:w.Grows w'):NumsAt c w' v l:=by
 obtain⟨h0,a,cap,hv,h1⟩:=h
 refine⟨h0,a,cap,hv,h1.imp id ?_⟩
 rintro⟨b,off,ha,hb,hc⟩
 have:=hg.below.size
 exact⟨b,off,ha,by omega,fun i hi=>(World.cell?_of_block (hg.below.block b hb)).trans (hc i hi)⟩
theorem GrantsAt.grows{w w':World}{v:Value}{l:List (Int × Ex × Ex)}(h:GrantsAt w v l)(hg:w.Grows w'):GrantsAt w' v l:=by
 obtain⟨h0,a,cap,hv,h1⟩:=h
 refine⟨h0,a,cap,hv,h1.imp id ?_⟩
 rintro⟨b,off,ha,hb,hc⟩
 have:=hg.below.size
 exact⟨b,off,ha,by omega,fun i hi=>by obtain⟨u,u',hu⟩:=hc i hi;exact⟨u,u',hu.same hg hb⟩⟩
theorem RedsAt.grows{w w':World}{v:Value}{l:List (Int × Ex)}(h:RedsAt w v l)(hg:w.Grows w'):RedsAt w' v l:=by
 exact lz17
structure VerC(w:World)(V:VerP)(v3 v4 v5 v6 v7:Value):Prop where
 cr:NumsAt 2 w v3 (V.cr.map Prod.fst)
 se:NumsAt 3 w v4 (V.se.map Prod.fst)
 le:LetsAt w v5 V.le
 gr:GrantsAt w v6 V.gr
 re:RedsAt w v7 V.re
theorem VerC.grows{w w':World}{V:VerP}{v3 v4 v5 v6 v7:Value}(h:VerC w V v3 v4 v5 v6 v7)(hg:w.Grows w'):VerC w' V v3 v4 v5 v6 v7:=⟨h.cr.grows hg,h.se.grows hg,h.le.grows hg,h.gr.grows hg,h.re.grows hg⟩
theorem VerAt.nums{T:TypeId}{c base:Nat}{w:World}{v:Value}{l:List (List Value)}{rs:List (Ex × Value)}{ns:List Int}(h:RowG T c base w v l rs)(hc:0<c)(hl:l.length=ns.length)(h1000:ns.length≤1000)(h0:∀i,i<ns.length→(l.getD i [])[0]? =some (.int .i64 (ns.getD i 0))):NumsAt c w v ns:=by
 obtain⟨a,cap,hv,hx⟩:=h.cells
 rw [hl]at hv hx
 refine⟨h1000,a,cap,hv,hx.imp id ?_⟩
 rintro⟨g,ha,hb,hlt,hx⟩
 exact⟨g,0,ha,hlt,fun i hi=>by rw [Nat.zero_add];exact hx i 0 _ hi hc (h0 i hi)⟩
def LsSmall(ls:List (ByteArray × Ex)):Prop:=∀t∈ls,t.1.size≤140737488355328∧t.2.size≤1000000
def LtPost(r:List (ByteArray × Int) × Int)(w:World)(e:Ending)(w':World):Prop:=∃x,e= .returned (.tuple #[x,.int .i64 r.2])∧w.Grows w'∧BindAt w' x r.1
theorem LtPost.bad{r:List (ByteArray × Int) × Int}{c:Int}{w w':World}(h:r=([],c))(hg:w.Grows w'):LtPost r w (.returned (.tuple #[.slice none 0 0,.int .i64 c])) w':=by
 subst h;exact⟨_,rfl,hg,by simp,none,0,rfl,.inl rfl⟩
theorem ltStep_word{env:List (ByteArray × Int)}{s:ByteArray}{e:Ex}(h:inpD s.toList≠0∨nameB s=false):ltStep env (s,e)=5:=by unfold ltStep;rw [if_pos h]
theorem ltStep_dup{env:List (ByteArray × Int)}{s:ByteArray}{e:Ex}(h:inpD s.toList=0)(h2:nameB s=true)(h3:env.any (fun p=>decide (p.1=s))=true):ltStep env (s,e)=10:=by
 unfold ltStep;rw [if_neg (by rw [h2];simp [h]),if_pos h3]
theorem ltStep_inf{env:List (ByteArray × Int)}{s:ByteArray}{e:Ex}(h:inpD s.toList=0)(h2:nameB s=true)(h3:env.any (fun p=>decide (p.1=s))=false):ltStep env (s,e)=(inferE env e).2:=by
 unfold ltStep;rw [if_neg (by rw [h2];simp [h]),if_neg (by rw [h3];simp)]
theorem getD_mem{α:Type}[Inhabited α]{l:List α}{k:Nat}(h:k<l.length):l.getD k default∈l:=by
 rw [List.getD_eq_getElem?_getD,List.getElem?_eq_getElem h];exact List.getElem_mem h
theorem range_none{k:Nat}{p:Nat→Bool}(h:∀j,j<k→p j=false):(List.range k).any p=false:=by
 rw [Bool.eq_false_iff]
 intro hc
 obtain⟨j,hj,hp⟩:=List.any_eq_true.1 hc
 rw [h j (List.mem_range.1 hj)]at hp;cases hp
theorem range_some{k:Nat}{p:Nat→Bool}(j:Nat)(h:j<k)(hp:p j=true):(List.range k).any p=true:=List.any_eq_true.2 ⟨j,List.mem_range.2 h,hp⟩
def NumsX(c:Nat)(w:World)(v:Value)(n:Nat):Prop:=
 ∃a cap,v= .slice a n cap∧(n=0∨∃b off,a=some ⟨b,off,none⟩∧b<w.heap.size∧∀i,i<n→∀j,j<c→∃z,w.cell? ⟨b,off+i*c+j,none⟩=some (.int .i64 z))
theorem NumsX.grows{c:Nat}{w w':World}{v:Value}{n:Nat}(h:NumsX c w v n)(hg:w.Grows w'):NumsX c w' v n:=by
 obtain⟨a,cap,hv,h1⟩:=h
 refine⟨a,cap,hv,h1.imp id ?_⟩
 rintro⟨b,off,ha,hb,hc⟩
 have:=hg.below.size
 exact⟨b,off,ha,by omega,fun i hi j hj=>(hc i hi j hj).imp fun z hz=>(World.cell?_of_block (hg.below.block b hb)).trans hz⟩
theorem NumsX.of{T:TypeId}{c base:Nat}{w:World}{v:Value}{l:List (List Value)}{rs:List (Ex × Value)}{n:Nat}(h:RowG T c base w v l rs)(hl:l.length=n)(h0:∀i,i<n→∀j,j<c→∃z,(l.getD i [])[j]? =some (.int .i64 z)):NumsX c w v n:=by
 obtain⟨a,cap,hv,hx⟩:=h.cells
 rw [hl]at hv hx
 refine⟨a,cap,hv,hx.imp id ?_⟩
 rintro⟨g,ha,hb,hlt,hx⟩
 exact⟨g,0,ha,hlt,fun i hi j hj=>(h0 i hi j hj).imp fun z hz=>by rw [Nat.zero_add];exact hx i j _ hi hj hz⟩
end Go.Proofs.YthionhbjmheimaaDoor
namespace Go.Proofs.YthionhbjmheimaaDoor
open Go.RowKit Go.ChangeShapes Go.WideShapes Go.Deep
section
variable {H : Type} {enc : TypeId × Value → H} {P : Program} {w : World}
theorem RowsAt.of_trod{t e q:TypeId}{fuel:Nat}{v:Value}{x:DataW H × List MemPlace}(ht:P.underlying t=some (.slice e))(he:P.underlying e=some (.slice q))(hq:P.underlying q=some (.int .i64))(ce:P.cellsOf e=1)(cq:P.cellsOf q=1)(be:P.bytesOf e=24)(bq:P.bytesOf q=8)
 (h:DataW.trod enc P w 0 (fun _=>true) true fuel t [v]=some x) (hf:fits P t x.1):∃zss,RowsAt w v zss:=by
 rcases open_int_rows ht he hq ce cq h with ⟨hcs,_⟩|⟨a,len,cap,A,L,C,Z,hcs,_,hl,hm,hx,hr⟩
 ·simp at hcs
  subst hcs
  exact⟨[],by simp,none,0,rfl,.inl rfl⟩
 ·simp at hcs
  subst hcs
  have h8:len≤140737488355328:=by
   have h9:=hf ((len+(cap-len))*24) (by rw [hx];simp [DataW.weights,ht,be])
   omega
  have hrow:∀r,r<len→IntsAt w (.slice (A r) (L r) (C r)) ((Z r).take (L r)):=by
   intro r hrl
   obtain⟨h1,h2,h3,h4,h5,h6,h7⟩:=hr r (by omega)
   refine IntsAt.of_cells h2 h4 h5 ?_ (fun e=>by have:=h6 e;omega) (fun x' hx' i hi=>(h7 x' hx').2 i hi)
   cases hA:A r with
   |none=>have:=h6 hA;omega
   |some y=>
    have h9:=hf ((L r+(C r-L r))*8) (by
     rw [hx]
     simp only [DataW.weights,ht,List.mem_cons,List.mem_append]
     right;left
     have key:∀(l:List Nat),r∈l→(L r+(C r-L r))*8∈DataW.weightsAll P e (l.map fun r=>(intRow (H:=H) .i64 (A r) (L r) (Z r))):=by
      intro l
      induction l with
      |nil=>intro h;cases h
      |cons y' l ih=>
       intro h
       simp only [List.map_cons,DataW.weightsAll,List.mem_append]
       rcases List.mem_cons.1 h with rfl|h
       ·left;simp [intRow,hA,DataW.weights,he,lits,bq,h4,Nat.min_eq_left h2]
       ·exact .inr (ih h)
     exact key _ (List.mem_range.2 hrl))
    omega
  refine⟨(List.range len).map fun r=>(Z r).take (L r),by simpa using h8,some a,cap,by simp, ?_⟩
  by_cases h0:len=0
  ·left;simp [h0]
  ·right
   obtain⟨b,off,spot⟩:=a
   have h1:=(hr 0 (by omega)).1
   have hspot:spot=none:=by simpa [Addr.add]using World.cell?_spot h1
   subst hspot
   have h2:∀i,i<cap→w.cell? ⟨b,off+i,none⟩=some (.slice (A i) (L i) (C i)):=fun i hi=>by
    rw [←add_at'];exact(hr i hi).1
   refine⟨b,off,rfl,cell_lt (h2 0 (by omega)),fun i hi=>?_⟩
   have hi':i<len:=by simpa using hi
   refine⟨_,h2 i (by omega), ?_⟩
   have:((List.range len).map fun r=>(Z r).take (L r)).getD i []=(Z i).take (L i):=by simp [List.getD_eq_getElem?_getD,hi']
   rw [this]
   exact hrow i hi'
end
theorem array10{α:Type}{cs:Array α}(h:cs.size=10):∃c0 c1 c2 c3 c4 c5 c6 c7 c8 c9,cs=#[c0,c1,c2,c3,c4,c5,c6,c7,c8,c9]:=by
 obtain⟨l⟩:=cs
 match l,h with
 | [c0,c1,c2,c3,c4,c5,c6,c7,c8,c9],_=>exact⟨c0,c1,c2,c3,c4,c5,c6,c7,c8,c9,rfl⟩
theorem c25:(Tryd.prog).cellsOf 25=10:=by kernel_rfl
theorem c23:(Tryd.prog).cellsOf 23=1:=by kernel_rfl
theorem RawAt.of_trod{H:Type}{enc:TypeId × Value→H}{w:World}{r:Reach}{b0:Nat}{v:Value}{d:DataW H}{p:List MemPlace}(hv:Value.okWide Tryd.prog w r b0 25 v)
 (h:DataW.Trod enc Tryd.prog w 0 (fun _=>true) true 25 v d p) (hf:fits Tryd.prog 25 d) :
 ∃R cs,v= .agg cs∧RawAt w cs.toList R:=by
 have ht:=Tryd.underlying25
 obtain⟨cs,rfl,hsz⟩:=okWide_struct ht hv
 obtain⟨c0,c1,c2,c3',c4,c5,c6,c7,c8,c9,rfl⟩:=array10 (hsz.trans c25)
 obtain⟨fuel,h⟩:=h
 obtain⟨xs,n,_,hx,_,hlen,hF⟩:=DataW.trod_struct ht h
 simp only [Prod.mk.injEq]at hx
 obtain⟨rfl,-⟩:=hx
 have k0:=hF 0 _ rfl
 have k1:=hF 1 _ rfl
 have k2:=hF 2 _ rfl
 have k3:=hF 3 _ rfl
 have k4:=hF 4 _ rfl
 have k5:=hF 5 _ rfl
 have k6:=hF 6 _ rfl
 have k7:=hF 7 _ rfl
 have k8:=hF 8 _ rfl
 have k9:=hF 9 _ rfl
 simp only [Value.cells,List.drop_zero,List.drop_succ_cons,List.take_succ_cons,List.take_zero]at k0 k1 k2 k3 k4 k5 k6 k7 k8 k9
 match xs,hlen with
 | [y0,y1,y2,y3,y4,y5,y6,y7,y8,y9],_=>
   obtain⟨n0,rfl,w0⟩:=int_of_trod k0
   obtain⟨n1,rfl,w1⟩:=int_of_trod k1
   obtain⟨n2,rfl,w2⟩:=int_of_trod k2
   obtain⟨n9,rfl,w9⟩:=int_of_trod k9
   obtain⟨z3,w3⟩:=IntsAt.of_trod Tryd.underlying22 Tryd.underlying3 c3 b3 k3 (fits_part ht hf (i:=3) rfl rfl)
   obtain⟨z4,w4⟩:=IntsAt.of_trod Tryd.underlying22 Tryd.underlying3 c3 b3 k4 (fits_part ht hf (i:=4) rfl rfl)
   obtain⟨z5,w5⟩:=RowsAt.of_trod Tryd.underlying23 Tryd.underlying22 Tryd.underlying3 c22 c3 b22 b3 k5 (fits_part ht hf (i:=5) rfl rfl)
   obtain⟨z6,w6⟩:=RowsAt.of_trod Tryd.underlying23 Tryd.underlying22 Tryd.underlying3 c22 c3 b22 b3 k6 (fits_part ht hf (i:=6) rfl rfl)
   obtain⟨z7,w7⟩:=RowsAt.of_trod Tryd.underlying23 Tryd.underlying22 Tryd.underlying3 c22 c3 b22 b3 k7 (fits_part ht hf (i:=7) rfl rfl)
   obtain⟨z8,w8⟩:=RowsAt.of_trod Tryd.underlying23 Tryd.underlying22 Tryd.underlying3 c22 c3 b22 b3 k8 (fits_part ht hf (i:=8) rfl rfl)
   exact⟨⟨n0,n1,n2,z3,z4,z5,z6,z7,z8,n9⟩,_,rfl,w0,w1,w2,w9,c3',c4,c5,c6,c7,c8,rfl,w3,w4,w5,w6,w7,w8⟩
end Go.Proofs.YthionhbjmheimaaDoor
