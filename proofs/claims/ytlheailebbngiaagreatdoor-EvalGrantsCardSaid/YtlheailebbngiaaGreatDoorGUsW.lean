import Derived.Test.YtlheailebbngiaaGreatDoorGStpW
set_option linter.all false
set_option maxHeartbeats 16000000
set_option maxRecDepth 1000000
namespace Go.Proofs.YtlheailebbngiaaGreatDoor
open Go.Proofs.Tryz List
open Go.RowKit
theorem mM{a b:ByteArray}(h:a.toList=b.toList):a=b:=by
 rw [ByteArray.toList_eq,ByteArray.toList_eq]at h;exact ByteArray.ext (Array.ext' h)
theorem Da(s:ByteArray)(l:List Ex):dR s l=(List.range l.length).any fun k=>bS s (l.getD k default):=by
 induction l with
 |nil=>rfl
 |cons e r ih=>
  rw [dR,ih,length_cons,range_succ_eq_map,any_cons,any_map];simp only [getD_cons_zero]
  congr 1
def mT(s:ByteArray)(e:Ex)(k:Nat):Bool:=dR s (e.args.take k)
theorem EE(s:ByteArray)(e:Ex)(k:Nat)(h:k<e.args.length)(h1:mT s e k=false)(h2:bS s (e.arg k)=false):mT s e (k+1)=false:=by
 unfold mT at *;rw [Au _ _ _ h,h1,Bool.false_or];exact h2
theorem Db(S:Nat->Prop)(s:ByteArray)(n:Nat):∀(e:Ex),e.size<=n->∀(v:Value) (w:World),aC S w e v->(Calls prog 76 #[exV e v,.string s] w fun r w'=>r= .returned (.bool (bS s e))/\w.Grows w'):=by
 induction n with
 |zero=>intro e he;have:=e.size_pos;omega
 |succ n ih=>
  intro e he v w h;have HF:=zh (Av s e);have IH:=zh ih;clear ih
  cases h with
  |mk _ a cap vs hr hc hs=>
   have hlen:=hr.len;have Hs:=zh hs;have He:=zh he;have Hc:=zh hc;clear hr hs he hc;by_cases ho:e.op=2
   ·by_cases hn:e.name=s
    ·have HH:Hid (bS s e=true):=zh (by rw [HF.out,decide_eq_true ho,decide_eq_true hn];rfl);have n2:(e.name.toList==s.toList)=true:=by rw [hn];simp
     clear HF hn
     go_enter func76,ntmps76
     go_wp2_with fail
     go_returns
     exact⟨au HH.out.symm,.of_below af⟩
    ·have HQ:Hid ((decide (e.op=2)&&decide (e.name=s))=false):=zh (by rw [decide_eq_false hn,Bool.and_false]);have n2:(e.name.toList==s.toList)=false:=by rw [beq_eq_false_iff_ne];exact fun h=>hn (mM h)
     clear hn
     go_enter func76,ntmps76
     go_wp2_with fail
     go_loopw [5] (fun vk wr=>∃k:Nat,k<=e.args.length/\vk= .int .i64 k/\Hid (mT s e k=false)/\
      ∃(x0 x1 x2 x3:Int) (x4:ByteArray),World.Grows (w.alloc (.cells #[.int .i64 x0,.int .i64 x1,.int .i64 x2,.int .i64 x3,.string x4,.slice a e.args.length cap] 51)) wr) (fun vk _=>e.args.length-(intOf vk).toNat)
     case atStart=>exact⟨0,by omega,rfl,zh rfl,_,_,_,_,_,.of_below af⟩
     case round=>
      obtain⟨k,hk,rfl,HT,x0,x1,x2,x3,x4,bs,d,rfl⟩:=hrel;by_cases hlt:k<e.args.length
      ·rcases Hc.out with h0|⟨b,off,rfl,hS,hbw,hx⟩
       ·omega
       ·obtain⟨y0,y1,y2,y3,y4,y5⟩:=hx k hlt;clear hx;have hlt1:(k:Int)<(e.args.length:Int):=by omega
        have HA:=zh (e.size_arg k hlt);cases hb:bS s (e.arg k)
        ·have HB:=zh hb;clear hb
         go_wp2_with fail
         refine(IH.out (e.arg k) zL (vs k) _ (((Hs.out k hlt).alloc _).grow _ _)).mono ?_;rintro r w' ⟨rfl,bs2,d2,rfl⟩;simp only [HB.out]
         go_wp2_with fail
         go_roundw
         case rel=>exact⟨k+1,by omega,by go_num,zh (EE s e k hlt HT.out HB.out),x0,x1,x2,x3,x4,.of_below af⟩
         case measure=>simp [intOf];omega
        ·have HB:=zh hb;clear hb
         go_wp2_with fail
         refine(IH.out (e.arg k) zL (vs k) _ (((Hs.out k hlt).alloc _).grow _ _)).mono ?_;rintro r w' ⟨rfl,bs2,d2,rfl⟩;simp only [HB.out]
         go_wp2_with fail
         go_returns
         exact⟨au (by rw [HF.out,tT s e.args k hlt HB.out];simp),.of_below af⟩
      ·obtain rfl:k=e.args.length:=by omega
       have HT2:Hid (dR s e.args=false):=zh (by have:=HT.out;unfold mT at this;rw [take_length]at this;exact this);clear HT
       go_wp2_with fail
       go_returns
       exact⟨au (by rw [HF.out,HT2.out,HQ.out];rfl),.of_below af⟩
   ·have HQ:Hid ((decide (e.op=2)&&decide (e.name=s))=false):=zh (by rw [decide_eq_false ho,Bool.false_and]);have p2:(e.op==2)=false:=by simpa using ho
    clear ho
    go_enter func76,ntmps76
    go_wp2_with fail
    go_loopw [5] (fun vk wr=>∃k:Nat,k<=e.args.length/\vk= .int .i64 k/\Hid (mT s e k=false)/\
     ∃(x0 x1 x2 x3:Int) (x4:ByteArray),World.Grows (w.alloc (.cells #[.int .i64 x0,.int .i64 x1,.int .i64 x2,.int .i64 x3,.string x4,.slice a e.args.length cap] 51)) wr) (fun vk _=>e.args.length-(intOf vk).toNat)
    case atStart=>exact⟨0,by omega,rfl,zh rfl,_,_,_,_,_,.of_below af⟩
    case round=>
     obtain⟨k,hk,rfl,HT,x0,x1,x2,x3,x4,bs,d,rfl⟩:=hrel;by_cases hlt:k<e.args.length
     ·rcases Hc.out with h0|⟨b,off,rfl,hS,hbw,hx⟩
      ·omega
      ·obtain⟨y0,y1,y2,y3,y4,y5⟩:=hx k hlt;clear hx;have hlt1:(k:Int)<(e.args.length:Int):=by omega
       have HA:=zh (e.size_arg k hlt);cases hb:bS s (e.arg k)
       ·have HB:=zh hb;clear hb
        go_wp2_with fail
        refine(IH.out (e.arg k) zL (vs k) _ (((Hs.out k hlt).alloc _).grow _ _)).mono ?_;rintro r w' ⟨rfl,bs2,d2,rfl⟩;simp only [HB.out]
        go_wp2_with fail
        go_roundw
        case rel=>exact⟨k+1,by omega,by go_num,zh (EE s e k hlt HT.out HB.out),x0,x1,x2,x3,x4,.of_below af⟩
        case measure=>simp [intOf];omega
       ·have HB:=zh hb;clear hb
        go_wp2_with fail
        refine(IH.out (e.arg k) zL (vs k) _ (((Hs.out k hlt).alloc _).grow _ _)).mono ?_;rintro r w' ⟨rfl,bs2,d2,rfl⟩;simp only [HB.out]
        go_wp2_with fail
        go_returns
        exact⟨au (by rw [HF.out,tT s e.args k hlt HB.out];simp),.of_below af⟩
     ·obtain rfl:k=e.args.length:=by omega
      have HT2:Hid (dR s e.args=false):=zh (by have:=HT.out;unfold mT at this;rw [take_length]at this;exact this);clear HT
      go_wp2_with fail
      go_returns
      exact⟨au (by rw [HF.out,HT2.out,HQ.out];rfl),.of_below af⟩
theorem vZ(S:Nat->Prop)(s:ByteArray)(e:Ex)(v:Value)(w:World)(h:aC S w e v):(Calls prog 76 #[exV e v,.string s] w fun r w'=>r= .returned (.bool (bS s e))/\w.Grows w'):=Db S s e.size e (Nat.le_refl _) v w h
theorem F3:∀args w,(callFunc 123 args).run prog w= .ok (.enter 123 args) w:=enters_of func123 zf rfl
theorem Dc(S:Nat->Prop)(s:ByteArray)(n:Nat):∀(e:Ex),e.size<=n->∀(v:Value) (w:World),aC S w e v->
 Calls prog 74 #[exV e v,.string s] w fun r w'=>r= .returned (.bool (bS s e))/\w.Grows w':=by
 induction n with
 |zero=>intro e he;have:=e.size_pos;omega
 |succ n ih=>
  intro e he v w h;have HR:=zh h;have HF:=zh (Av s e);have hany:=Da s e.args;obtain⟨a,cap,rfl⟩:=h.form0
  have HC:Hid (∀w1 b,w1.heap[b]? =some (.cells #[.string s] 9 (0,0))->w.Grows w1->Calls prog 122 #[.slice a e.args.length cap,.func (.func 123) #[] #[.pointer (some ⟨b,0,none⟩)]] w1 fun r w''=>r= .returned (.bool (dR s e.args))/\w1.Grows w''):=zh (fun w1 b hb hg=>by
   have HB:=zh hb
   have:=nE S 123 #[.pointer (some ⟨b,0,none⟩)] F3 e (.slice a e.args.length cap) (fun k=>bS s (e.arg k)) w1 (HR.out.grows hg) (zh (fun k hk ak ck w2 hg2 hR2=>by
    have hsm:=e.size_arg k hk;have IH:=zh (fun w3 h1=>ih (e.arg k) ze (.slice ak (e.arg k).args.length ck) w3 h1);have HR2:=zh hR2;have hb2:w2.heap[b]? =some (.cells #[.string s] 9 (0,0)):=(hg2.below.block b (Array.getElem?_eq_some_iff.1 HB.out).1).trans HB.out;have hbl:b<w2.heap.size:=(Array.getElem?_eq_some_iff.1 hb2).1;have x0:w2.cell? ⟨b,0,none⟩=some (.string s):=by rw [cell_of_row w2 b _ _ _ _ hb2];rfl
    dsimp only;generalize bS s (e.arg k)=q at *;clear hany HF HR hR2 ih hg hg2 hb HB hb2 h;generalize e.arg k=x at *;show Calls prog 123 #[exV x (.slice ak x.args.length ck),.pointer (some ⟨b,0,none⟩)] w2 _
    go_enter func123,ntmps123
    go_wp2_with (go_at_call 74;refine(IH.out _ (HR2.out.alloc _)).mono ?_;rintro e' w' ⟨rfl,bs,d,rfl⟩)
    go_returns
    exact⟨au rfl,.of_below af⟩))
   rw [show(List.range e.args.length).any (fun k=>bS s (e.arg k))=dR s e.args from hany.symm]at this
   exact this)
  clear hany ih h;generalize dR s e.args=q at *;by_cases ho:e.op=2
  ·by_cases hn:e.name=s
   ·have HH:Hid (bS s e=true):=zh (by rw [HF.out,decide_eq_true ho,decide_eq_true hn];rfl);have n2:(e.name.toList==s.toList)=true:=by rw [hn];simp
    clear HF hn
    go_enter func74,ntmps74
    go_wp2_with fail
    go_returns
    exact⟨au HH.out.symm,.of_below af⟩
   ·have HH:Hid (bS s e=q):=zh (by rw [HF.out,decide_eq_false hn,Bool.and_false,Bool.false_or]);have n2:(e.name.toList==s.toList)=false:=by rw [beq_eq_false_iff_ne];exact fun h=>hn (mM h)
    clear HF hn
    go_enter func74,ntmps74
    go_wp2_with (go_at_call 122;refine(HC.out _ _ (bK _ _ _ zg) (.of_below af)).mono ?_;rintro e' w' ⟨rfl,bs,d,rfl⟩)
    go_returns
    exact⟨au HH.out.symm,.of_below af⟩
  ·have HH:Hid (bS s e=q):=zh (by rw [HF.out,decide_eq_false ho,Bool.false_and,Bool.false_or]);have p2:(e.op==2)=false:=by simpa using ho
   clear ho HF
   go_enter func74,ntmps74
   go_wp2_with (go_at_call 122;refine(HC.out _ _ (bK _ _ _ zg) (.of_below af)).mono ?_;rintro e' w' ⟨rfl,bs,d,rfl⟩)
   go_returns
   exact⟨au HH.out.symm,.of_below af⟩
theorem wh(S:Nat->Prop)(s:ByteArray)(e:Ex)(v:Value)(w:World)(h:aC S w e v):Calls prog 74 #[exV e v,.string s] w fun r w'=>r= .returned (.bool (bS s e))/\w.Grows w':=Dc S s e.size e (Nat.le_refl _) v w h
def usV(e:Ex)(ls:List (ByteArray × Ex))(f:Nat):List Value:=(bM e ls f).reverse.map fun(i:Nat)=>.int .i64 i
def lG(e:Ex)(ls:List (ByteArray × Ex))(i:Nat)(u:List Nat)(j:Nat):Bool:=bS (ls.getD i default).1 e || (u.take j).any fun k=>bS (ls.getD i default).1 (ls.getD k default).2
theorem CY(e:Ex)(ls:List (ByteArray × Ex))(i:Nat)(u:List Nat):lG e ls i u 0=bS (ls.getD i default).1 e:=by simp [lG]
theorem CZ{e:Ex}{ls:List (ByteArray × Ex)}{i:Nat}{u:List Nat}{j:Nat}(h:j<u.length):lG e ls i u (j+1)=(lG e ls i u j || bS (ls.getD i default).1 (ls.getD (u.getD j 0) default).2):=by
 unfold lG;rw [take_succ_eq_append_getElem h,any_append,Bool.or_assoc];simp [getD_eq_getElem?_getD,getElem?_eq_getElem h]
theorem FW(e:Ex)(ls:List (ByteArray × Ex))(i:Nat)(u:List Nat):lG e ls i u.reverse u.reverse.length=jy e ls i u:=by
 unfold lG jy;rw [take_length,any_reverse]
theorem FN{w:World}{base:Nat}{e:TypeId}{size:Nat}{v:Value}{n:Nat}{xs:List Value}(h:w.ownsRow base e size v n xs){w':World}(hg:w.Grows w'):w'.ownsRow base e size v n xs:=
 jf h fun k _ hk=>hg.below.block k hk
theorem Oy:(prog.info? 3).map (fun i=>(i.zero,i.size,i.bytes))=some (some (.int .i64 0),1,8):=by kernel_rfl
theorem tC{w:World}{base:Nat}{v:Value}{u:List Nat}(h:w.ownsRow base 3 1 v u.length (u.map fun(i:Nat)=>.int .i64 i)):∃a cap,v= .slice a u.length cap/\(u.length=0\/∃g cur,a=some ⟨g,0,none⟩/\base<=g/\w.heap[g]? =some (.cells cur 3 (0,0))/\∀j,j<u.length->w.cell? ⟨g,j,none⟩=some (.int .i64 (u.getD j 0:Nat))):=by
 obtain⟨-,⟨rfl,h0⟩|⟨g,cap,cur,rfl,hb,hg,h2,h3,h4,h5⟩⟩:=id h
 ·exact⟨none,0,by rw [h0],.inl h0⟩
 ·refine⟨_,cap,rfl,.inr ⟨g,cur,rfl,hb,hg,fun i hi=>?_⟩⟩;rw [h.cellAt i ze,getElem?_map,getElem?_eq_getElem hi,getD_eq_getElem?_getD,getElem?_eq_getElem hi];rfl
theorem ay.of_nats{w:World}{base:Nat}{v:Value}{u:List Nat}(h:w.ownsRow base 3 1 v u.length (u.map fun(i:Nat)=>.int .i64 i))(hl:u.length<=1000)(hr:∀k∈u,k<=1000):ay w v (u.map Int.ofNat):=by
 obtain⟨a,cap,rfl,hc⟩:=tC h;refine⟨by simp;omega,fun z hz=>?_,a,cap,by simp,hc.imp zg ?_⟩
 ·obtain⟨k,hk,rfl⟩:=mem_map.1 hz;have:=hr k hk;simp only [Int.ofNat_eq_natCast];omega
 ·rintro⟨g,cur,rfl,-,hg,hx⟩;refine⟨g,0,rfl,(Array.getElem?_eq_some_iff.1 hg).1,fun i hi=>?_⟩;rw [length_map]at hi;rw [Nat.zero_add,hx i hi,getD_eq_getElem?_getD,getD_eq_getElem?_getD,getElem?_map,getElem?_eq_getElem hi];rfl
theorem Jq{w:World}{g q uc:Nat}{cur:Array Value}{U:List Nat}(hb:w.heap[g]? =some (.cells cur 3 (0,0)))(hc:∀j,j<U.length->w.cell? ⟨g,j,none⟩=some (.int .i64 (U.getD j 0:Nat)))(hU:U.length<=1000)(hr:∀k∈U,k<=1000) :
 ay ((w.drewN q).setCells g 0 (((U.map Int.ofNat).take U.length).reverse.map (Value.int .i64))) (.slice (some ⟨g,0,none⟩) U.length uc) (U.reverse.map Int.ofNat):=by
 have e:((U.map Int.ofNat).take U.length).reverse.map (Value.int .i64)=U.reverse.map fun(k:Nat)=>Value.int .i64 k:=by rw [take_of_length_le zg,<-map_reverse,map_map];rfl
 rw [e];refine⟨by simp;omega,fun z hz=>?_,_,uc,by simp,.inr ⟨g,0,rfl,(Array.getElem?_eq_some_iff.1 (dF (t:=3) (U.reverse.map fun(k:Nat)=>Value.int .i64 k) 0 (w.drewN q) cur hb)).1,fun i hi=>?_⟩⟩
 ·obtain⟨k,hk,rfl⟩:=mem_map.1 hz;have:=hr k (mem_reverse.1 hk);simp only [Int.ofNat_eq_natCast];omega
 ·have hi':i<U.length:=by simpa using hi
  rw [World.cell?_setCells_in g (U.reverse.map fun(k:Nat)=>Value.int .i64 k) 0 (w.drewN q) (fun j hj=>by
   rw [Nat.zero_add,show(w.drewN q).cell? ⟨g,j,none⟩=w.cell? ⟨g,j,none⟩from rfl,hc j (by simpa using hj)];rfl) i (by simpa using hi'),getD_eq_getElem?_getD,getElem?_eq_getElem (by simpa using hi')]
  simp
theorem IA(e:Ex)(u v:Value)(ls:List (ByteArray × Ex))(w:World)(h:aC (fun _=>True) w e u)(hl:gI w v ls) :
 Calls prog 38 #[exV e u,v] w fun r w'=>(∃x,r= .returned x/\ay w' x ((az e ls).map Int.ofNat)/\∀k,x.ownBlock=some k->w.heap.size<=k)/\w.Grows w':=by
 obtain⟨i0,hi,hz0,hz1,hz2⟩:=info_parts Oy;have HR:=zh h;have HL:=zh hl;obtain⟨hl1000,la,lc,rfl,-⟩:=hl;obtain⟨a,cap,rfl⟩:=h.form0;clear h
 go_enter func38,ntmps38
 go_wp2_with fail
 go_loopw [5,6] (fun v5 v6 wr=>∃(f:Nat) (vb:Value),vb=v5/\f<=ls.length/\v6= .int .i64 ((ls.length:Int)-1-f)/\Below (w.heap.size+1) ((w.alloc (.cells #[.int .i64 e.op,.int .i64 e.num,.int .i64 e.den,.int .i64 e.dim,.string e.name,.slice a e.args.length cap] 51))) wr/\wr.ownsRow (w.heap.size+1) 3 1 vb (bM e ls f).length (usV e ls f)) (fun _ v6 _=>(intOf v6+1).toNat)
 case atStart=>exact⟨0,_,rfl,by omega,by simp,.refl _ _,World.ownsRow_nil _ _ _ _⟩
 case round=>
  obtain⟨f,vb,rfl,hf,rfl,hB,hown⟩:=hrel;obtain⟨W1,rfl⟩:∃W1,W1=wr:=⟨_,rfl⟩;have HB:=zh hB;have hG:w.Grows W1:=.of_below ((((Below.refl _ _).alloc (Nat.le_refl _) _)).trans (hB.mono ze));have HG:=zh hG;have HO:=zh hown;have hbs:w.heap.size<W1.heap.size:=by have:=hB.size;simp at this;omega
  generalize hU:(bM e ls f).reverse=U at *;have hUl:(bM e ls f).length=U.length:=by rw [<-hU,length_reverse]
  have hU10:U.length<=1000:=by have:=je (e:=e) (ls:=ls) f;omega
  have hUm:∀k∈U,k<ls.length:=fun k hk=>(fK f hf k (by rw [<-hU,mem_reverse]at hk;exact hk)).2;have hUV:usV e ls f=U.map fun(i:Nat)=>.int .i64 i:=by unfold usV;rw [hU]
  rw [hUl,hUV]at hown HO;by_cases hlt:f<ls.length
  ·obtain⟨i,hi'⟩:∃i:Nat,(ls.length:Int)-1-f=i:=⟨ls.length-1-f,by omega⟩;have hii:i<ls.length:=by omega
   have HF1:Hid (bM e ls (f+1)=if jy e ls i (bM e ls f)then i::bM e ls f else bM e ls f):=zh (by rw [bM,show ls.length-(f+1)=i by omega]);have HNB:Hid (lG e ls i U U.length=jy e ls i (bM e ls f)):=zh (by rw [<-hU];exact FW _ _ _ _)
   have bx:∀(j:Nat) (x:Value),(#[Value.int .i64 e.op,.int .i64 e.num,.int .i64 e.den,.int .i64 e.dim,.string e.name,.slice a e.args.length cap]:Array Value)[j]? =some x->W1.cell? ⟨w.heap.size,j,none⟩=some x:=fun j x hx=>by
    rw [hB.cell (p:=⟨w.heap.size,j,none⟩) zg,World.cell?_alloc_at _ _ _ _ rfl];exact hx
   have b0:=bx 0 _ rfl;have b1:=bx 1 _ rfl;have b2:=bx 2 _ rfl;have b3:=bx 3 _ rfl;have b4:=bx 4 _ rfl;have b5:=bx 5 _ rfl;clear bx;obtain⟨-,a',c',hvv,hx⟩:=HL.out.grows hG;simp only [Value.slice.injEq,true_and]at hvv;obtain⟨rfl,rfl⟩:=hvv;rcases hx with h0|⟨b,off,rfl,hbw,hx⟩
   ·omega
   obtain⟨ui,hsl⟩:=hx i hii;have x0:=hsl.nm;have HX:=zh hx;have HRW:=zh (HR.out.grows hG);have d1:(i:Int)<(ls.length:Int):=by omega
   have d0:(0:Int)<=(i:Int):=by omega
   have HI:=zh hi';rw [hi'];obtain⟨ua,uc,rfl,hur⟩:=tC hown;have hz:Hid (lG e ls i U 0=bS (ls.getD i default).1 e):=zh (CY _ _ _ _);have hs:Hid (∀j,j<U.length->lG e ls i U (j+1)=(lG e ls i U j || bS (ls.getD i default).1 (ls.getD (U.getD j 0) default).2)):=zh (fun j hj=>CZ hj);have HUR:=zh hur;have HUM:=zh hUm;have HUL:=zh hUl;have HU:=zh hU;have HUV:=zh hUV;generalize hnm:(ls.getD i default).1=nm at *;have HNM:=zh hnm;clear hnm;clear hsl hx hur hUm hUl hU hUV hown hG hB hi';have HM0:=zh (fun w' (hg:W1.Grows w')=>wh (fun _=>True) nm e _ w' (HRW.out.grows hg));unfold exV at HM0;generalize hq:bS nm e=q0 at *
   go_wp2_with fail
   refine eX zf zf ?_;repeat(go_big_quiet_step ((go_at_call 74;exact Calls.quietG (HM0.out _ ag))))
   refine wpQuiet_nil ?_;intro _ hw';obtain⟨⟨gb,gd⟩,hw''⟩:=hw';subst hw''
   go_wp2_with fail
   obtain⟨W2,hW2⟩:∃W2,W2=W1.grow gb gd:=⟨_,rfl⟩;rw [<-hW2];have HW2:=zh hW2;have HG2:Hid (W1.Grows W2):=zh (hW2 ▸ ⟨_,_,rfl⟩);clear hW2 b0 b1 b2 b3 b4 b5 x0
   go_loopw [7,26] (fun v7 v26 wr=>∃(j:Nat) (nb:Bool),j<=U.length/\v26= .int .i64 j/\v7= .bool nb/\Hid (lG e ls i U j=nb)/\W2.Grows wr) (fun _ v26 _=>U.length-(intOf v26).toNat)
   case atStart=>exact⟨0,_,by omega,rfl,rfl,hz,.refl _⟩
   case round=>
    obtain⟨j,nb,hj,rfl,rfl,HN,hG3⟩:=hrel;have HG4:=zh hG3;have HG3:Hid (W1.Grows wr):=zh (World.Grows.trans' HG2.out hG3);clear hG3;by_cases hjl:j<U.length
    ·rcases HUR.out with h0|⟨g,cur,rfl,-,hg,hgx⟩
     ·omega
     have hg:=(Array.getElem?_eq_some_iff.1 hg).1;have y0:=(HG3.out.below.cell (p:=⟨g,j,none⟩) (by exact hg)).trans (hgx j hjl);have hsz:=HG3.out.below.size;have hsuc:=hs.out j hjl;rw [HN.out]at hsuc;have hk:=HUM.out (U.getD j 0) (by rw [getD_eq_getElem?_getD,getElem?_eq_getElem hjl];exact getElem_mem hjl);generalize U.getD j 0=k at *;obtain⟨uk,hsk⟩:=HX.out k hk;obtain⟨ui,hsi⟩:=HX.out i hii;have hsk:=hsk.same HG3.out hbw;have hsi:=hsi.same HG3.out hbw;generalize(ls.getD k default).2=ek at *;obtain⟨-,z1,z2,z3,z4,z5,z6,hrk⟩:=hsk;have x0:=hsi.nm;rw [HNM.out]at x0;have hbw2:b<wr.heap.size:=by omega
     have hg2:g<wr.heap.size:=by omega
     obtain⟨ka,kc,rfl⟩:=hrk.form0;have HRK:=zh hrk;have e1:(k:Int)<(ls.length:Int):=by omega
     have e0:(0:Int)<=(k:Int):=by omega
     have f1:(j:Int)<(U.length:Int):=by omega
     have f0:(0:Int)<=(j:Int):=by omega
     have HSU:=zh hsuc;have HJL:=zh hjl;clear hsi hrk hsuc hk hgx hjl hj HRW;have HM2:=zh (fun w' (hg:wr.Grows w')=>wh (fun _=>True) nm ek _ w' (HRK.out.grows hg));unfold exV at HM2;generalize hq2:bS nm ek=q2 at *;cases nb
     focus
      go_wp2_with fail
      refine eX zf zf ?_;repeat(go_big_quiet_step ((go_at_call 74;exact Calls.quietG (HM2.out _ ag))))
     rotate_left
     focus
      go_wp2_with fail
      refine eX zf zf ?_;repeat(go_big_quiet_step (fail))
     rotate_left
     all_goals
      refine wpQuiet_nil ?_;intro _ hw';obtain⟨⟨gb,gd⟩,hw''⟩:=hw';subst hw''
      go_wp2_with fail
      go_roundw
      case rel=>exact⟨j+1,_,by have:=HJL.out;omega,by go_num,rfl,zh (by rw [HSU.out];first|rfl|simp),World.Grows.trans' HG4.out ag⟩
      case measure=>simp [intOf];have:=HJL.out;omega
    ·obtain rfl:j=U.length:=by omega
     have HN2:Hid (jy e ls i (bM e ls f)=nb):=zh (HNB.out.symm.trans HN.out);have HO3:=zh (FN HO.out HG3.out);have HB3:=zh (HB.out.trans (HG3.out.below.mono ze));have HG5:=zh (World.Grows.trans' HG.out HG3.out);have HLT:=zh hlt;have hbs2:w.heap.size+1<=wr.heap.size:=by have:=HG3.out.below.size;omega
     clear HN HG3 HG4 HRW hlt hj;cases nb
     ·have HV:Hid (bM e ls (f+1)=bM e ls f):=zh (by rw [HF1.out,HN2.out];rfl)
      go_wp2_with fail
      go_roundw
      case rel=>exact⟨f+1,_,rfl,HLT.out,by have:=HI.out;first|(congr 1;omega)|(simp;omega),by have:=HB3.out;(exact af),by unfold usV;rw [HV.out,HUL.out,HU.out];exact HO3.out⟩
      case measure=>first|(simp [intOf];done)|(simp [intOf];omega)
     ·have HV:Hid (bM e ls (f+1)=i::bM e ls f):=zh (by rw [HF1.out,HN2.out];rfl)
      go_wp2_with (at_builtin;refine wpList_append_own _ rfl _ _ 24 rfl (w.heap.size+1) 3 i0 (.int .i64 0) 1 8 underlying24 hi hz0 hz1 hz2 rfl zo _ _ _ rfl (HO3.out.alloc _) ⟨wr.heap.size,0,none⟩ 1 1 [.int .i64 i] rfl rfl ?c1 ?c2 ?c3 ?c4 ?c5 ?_)
      case c1=>exact aR _ [.int .i64 i] _ _ zg
      case c2=>intro u hu;simp at hu;subst hu;rfl
      case c3=>unfold maxLen;omega
      case c4=>omega
      case c5=>simp;omega
      intro v' w1 hown' hgrow _;have HB4:=zh ((show Below (w.heap.size+1) ((w.alloc (.cells #[.int .i64 e.op,.int .i64 e.num,.int .i64 e.den,.int .i64 e.dim,.string e.name,.slice a e.args.length cap] 51))) _ from by have:=HB3.out;(exact af)).grown hgrow zp (fun k hk=>(HO3.out.lt k hk).1));have HO4:=zh hown';clear hown' hgrow
      go_wp2_with fail
      go_roundw
      case rel=>exact⟨f+1,_,rfl,HLT.out,by have:=HI.out;first|(congr 1;omega)|(simp;omega),HB4.out,by unfold usV;rw [HV.out,reverse_cons,HU.out,length_cons,HUL.out,map_append];exact HO4.out⟩
      case measure=>first|(simp [intOf];done)|(simp [intOf];omega)
  ·obtain rfl:f=ls.length:=by omega
   have hz:(ls.length:Int)-1-ls.length= -1:=by omega
   rw [hz];have HUM:Hid (∀k∈U,k<ls.length):=zh hUm;have HF:Hid (az e ls=U.reverse):=zh (by unfold az;rw [<-hU,reverse_reverse]);have HNB:=zh (fun k hk=>(hown.lt k hk).1);obtain⟨ua,uc,rfl,hur⟩:=tC hown;clear hz hown hUm hU hUl hUV;rcases hur with h0|⟨g,cur,rfl,hgb,hg,hgx⟩
   ·have hUn:U= []:=eq_nil_of_length_eq_zero h0;subst hUn;simp only [length_nil]
    go_wp2_with (go_at_call 75;refine(slices_Reverse_int_empty _ _ _).mono ?_;rintro e' w' ⟨rfl,rfl⟩)
    go_returns
    exact⟨⟨_,rfl,by rw [HF.out];exact⟨by simp,by simp,_,_,rfl,.inl rfl⟩,fun k hk=>by have:=HNB.out k hk;omega⟩,HG.out⟩
   ·have HIR:=zh (fun q=>Jq (q:=q) (uc:=uc) hg hgx hU10 (fun k hk=>by have:=HUM.out k hk;omega))
    have HRV:=zh (slices_Reverse_int_cells g 0 U.length uc (U.map Int.ofNat) W1 zg ze (fun j hj=>by
     have hj':j<U.length:=by simpa using hj
     rw [Nat.zero_add,hgx j hj',getD_eq_getElem?_getD,getD_eq_getElem?_getD,getElem?_map,getElem?_eq_getElem hj'];rfl) (fun j hj=>Joins.unfrozen_of_block hg _))
    clear hgx
    go_wp2_with (go_at_call 75;refine HRV.out.mono ?_;rintro e' w' ⟨rfl,q,rfl⟩;have HI2:=zh (HIR.out q);have HB2:=zh (below_setCells (show w.heap.size<=g by omega) (((U.map Int.ofNat).take U.length).reverse.map (Value.int .i64)) 0 (W1.drewN q) ((hG.below).drewN q));generalize(W1.drewN q).setCells g 0 (((U.map Int.ofNat).take U.length).reverse.map (Value.int .i64))=W2 at *)
    go_returns
    exact⟨⟨_,rfl,by rw [HF.out];exact HI2.out,fun k hk=>by have:=HNB.out k hk;omega⟩,.of_below HB2.out⟩
def markT(e:Ex)(ls:List (ByteArray × Ex))(i:Nat)(M:List Bool)(a k:Nat):Bool:=bS (ls.getD i default).1 e || (range' a (k-a)).any fun t=>M.getD t false&&bS (ls.getD i default).1 (ls.getD t default).2
theorem Df(e:Ex)(ls:List (ByteArray × Ex))(i:Nat)(M:List Bool)(a:Nat):markT e ls i M a a=bS (ls.getD i default).1 e:=by simp [markT]
theorem Dg{e:Ex}{ls:List (ByteArray × Ex)}{i:Nat}{M:List Bool}{a k:Nat}(h:a<=k):markT e ls i M a (k+1)=(markT e ls i M a k || M.getD k false&&bS (ls.getD i default).1 (ls.getD k default).2):=by
 unfold markT;rw [show k+1-a=(k-a)+1 by omega,range'_concat,any_append,Bool.or_assoc];simp [show a+(k-a)=k by omega]
theorem Ij{u:List Nat}{a n:Nat}{p:Nat->Bool}(hu:∀k∈u,a<=k/\k<n)(M:List Bool)(hM:∀k,a<=k->k<n->M.getD k false=u.contains k):((range' a (n-a)).any fun t=>M.getD t false&&p t)=u.any p:=by
 rw [Bool.eq_iff_iff,any_eq_true,any_eq_true];constructor
 ·rintro⟨t,ht,hp⟩;rw [mem_range'_1]at ht;rw [hM t ht.1 ze,Bool.and_eq_true]at hp;exact⟨t,contains_iff_mem.1 hp.1,hp.2⟩
 ·rintro⟨t,ht,hp⟩;have h:=hu t ht;refine⟨t,mem_range'_1.2 ⟨h.1,by omega⟩, ?_⟩;rw [hM t h.1 h.2,Bool.and_eq_true];exact⟨contains_iff_mem.2 ht,hp⟩
theorem F4{e:Ex}{ls:List (ByteArray × Ex)}{f i:Nat}(hf:f<ls.length)(hi:i=ls.length-1-f){M:List Bool}(hM:∀k,ls.length-f<=k->k<ls.length->M.getD k false=(bM e ls f).contains k) :
 markT e ls i M (i+1) ls.length=jy e ls i (bM e ls f):=by
 unfold markT jy;rw [Ij (u:=bM e ls f) (fun k hk=>by have:=fK f ze k hk;omega) M (fun k h1 h2=>hM k ze h2)]
theorem De{e:Ex}{ls:List (ByteArray × Ex)}{f i:Nat}(hf:f<ls.length)(hi:i=ls.length-1-f){M:List Bool}(hl:M.length=ls.length)(hM:∀k,ls.length-f<=k->k<ls.length->M.getD k false=(bM e ls f).contains k) :
 ∀k,ls.length-(f+1)<=k->k<ls.length->(M.set i (jy e ls i (bM e ls f))).getD k false=(bM e ls (f+1)).contains k:=by
 intro k h1 h2;by_cases hk:k=i
 ·subst hk;rw [getD_eq_getElem?_getD,getElem?_set_self ze];have:=jq (e:=e) (ls:=ls) f ze;rw [show ls.length-(f+1)=k by omega]at this;rw [this];rfl
 ·rw [getD_eq_getElem?_getD,getElem?_set_ne (Ne.symm hk),<-getD_eq_getElem?_getD,hM k ze h2];have:=kD (e:=e) (ls:=ls) (i:=k) f 1 ze ze h2;rw [Bool.eq_iff_iff,contains_iff_mem,contains_iff_mem,this]
def fl(M:List Bool)(k:Nat):List Nat:=(List.range k).filter fun t=>M.getD t false
theorem Ny(M:List Bool)(k:Nat):fl M (k+1)=match M.getD k false with|true=>fl M k++[k]|false=>fl M k:=by
 unfold fl;rw [range_succ,filter_append];cases h:M.getD k false<;>(rw [getD_eq_getElem?_getD]at h;simp [h])
theorem PO(M:List Bool)(k:Nat):(fl M k).length<=k:=by
 unfold fl;have:=length_filter_le (fun t=>M.getD t false) (List.range k)
 rwa [length_range]at this
theorem qR{e:Ex}{ls:List (ByteArray × Ex)}:∀f,f<=ls.length->bM e ls f=(range' (ls.length-f) f).filter fun t=>(az e ls).contains t
 |0,_=>by simp [bM]
 |f+1,hf=>by
  have hm:(az e ls).contains (ls.length-(f+1))=jy e ls (ls.length-(f+1)) (bM e ls f):=by
   rw [<-jq f hf,Bool.eq_iff_iff,contains_iff_mem,contains_iff_mem];unfold az;have:=kD (e:=e) (ls:=ls) (i:=ls.length-(f+1)) (f+1) (ls.length-(f+1)) ze ze ze;rw [show f+1+(ls.length-(f+1))=ls.length by omega]at this;exact this
  rw [range'_succ,filter_cons,hm,show ls.length-(f+1)+1=ls.length-f by omega,<-qR f ze,bM]
theorem PP{e:Ex}{ls:List (ByteArray × Ex)}{M:List Bool}(h:∀k,ls.length-ls.length<=k->k<ls.length->M.getD k false=(bM e ls ls.length).contains k):fl M ls.length=az e ls:=by
 have:=qR (e:=e) (ls:=ls) ls.length (Nat.le_refl _);unfold fl az;unfold az at this;rw [this,Nat.sub_self,<-range_eq_range'];exact filter_congr fun t ht=>h t ze (mem_range.1 ht)
def bbs(M:List Bool):Array Value:=(M.map Value.bool).toArray
theorem mY(M:List Bool){k:Nat}(h:k<M.length):(bbs M)[k]? =some (.bool (M.getD k false)):=by
 simp [bbs,getD_eq_getElem?_getD,getElem?_eq_getElem h]
theorem yJ(M:List Bool)(k:Nat)(b:Bool):(bbs M).setIfInBounds k (.bool b)=bbs (M.set k b):=by
 simp [bbs,map_set]
theorem BU(n:Nat):madeCells #[Value.bool false] n=bbs (List.replicate n false):=by
 unfold bbs madeCells;rw [map_replicate];apply Array.ext';rw [toList_toArray];refine ext_getElem zg fun i h1 h2=>?_;simp [Nat.mod_one]
theorem JR:(prog.info? 4).map (fun i=>(i.zero,i.size,i.bytes))=some (some (.bool false),1,1):=by kernel_rfl
theorem pF(M:List Bool)(i:Nat)(a b:Bool):(bbs (M.set i a)).setIfInBounds i (.bool b)=bbs (M.set i b):=by rw [yJ,set_set]
theorem Er{M:List Bool}{i k:Nat}{b:Bool}(h:k≠i):(M.set i b).getD k false=M.getD k false:=by
 rw [getD_eq_getElem?_getD,getElem?_set_ne (Ne.symm h),<-getD_eq_getElem?_getD]
theorem set_self{M:List Bool}{i:Nat}{b:Bool}(h:i<M.length):(M.set i b).getD i false=b:=by
 rw [getD_eq_getElem?_getD,getElem?_set_self h];rfl
theorem Iz(e:Ex)(u v:Value)(ls:List (ByteArray × Ex))(w:World)(h:aC (fun _=>True) w e u)(hl:gI w v ls) :
 Calls prog 39 #[exV e u,v] w fun r w'=>(∃x,r= .returned x/\ay w' x ((az e ls).map Int.ofNat)/\∀k,x.ownBlock=some k->w.heap.size<=k)/\w.Grows w':=by
 obtain⟨i0,hi,hz0,hz1,hz2⟩:=info_parts Oy;have HR:=zh h;have HL:=zh hl;obtain⟨hl1000,la,lc,rfl,-⟩:=hl;obtain⟨a,cap,rfl⟩:=h.form0;clear h;have hmk:=run_make_row' (P:=prog) 139 4 (.bool false) 1 underlying139 JR rfl .i64 .i64 ls.length ze ze
 go_enter func39,ntmps39
 go_wp2_with fail
 go_loopw [6] (fun v6 wr=>∃(f:Nat) (M:List Bool),f<=ls.length/\v6= .int .i64 ((ls.length:Int)-1-f)/\M.length=ls.length/\Hid (∀k,ls.length-f<=k->k<ls.length->M.getD k false=(bM e ls f).contains k)/\Below (w.heap.size+1) ((w.alloc (.cells #[.int .i64 e.op,.int .i64 e.num,.int .i64 e.den,.int .i64 e.dim,.string e.name,.slice a e.args.length cap] 51))) wr/\wr.heap[w.heap.size+1]? =some (.cells (bbs M) 4 (0,0))) (fun v6 _=>(intOf v6+1).toNat)
 case atStart=>exact⟨0,List.replicate ls.length false,by omega,by simp,by simp,zh (fun k h1 h2=>by omega),(Below.refl _ _).alloc zg _,by rw [<-BU];exact bK _ _ _ zg⟩
 case round=>
  obtain⟨f,M,hf,rfl,hM,hMk,hB,hblk⟩:=hrel;obtain⟨W1,rfl⟩:∃W1,W1=wr:=⟨_,rfl⟩;have HB:=zh hB;have hG:w.Grows W1:=.of_below ((((Below.refl _ _).alloc (Nat.le_refl _) _)).trans (hB.mono ze));have HG:=zh hG;have HBK:=zh hblk;have hbs:w.heap.size+1<W1.heap.size:=(Array.getElem?_eq_some_iff.1 hblk).1;have hbs0:w.heap.size<W1.heap.size:=by omega
  by_cases hlt:f<ls.length
  ·obtain⟨i,hi'⟩:∃i:Nat,(ls.length:Int)-1-f=i:=⟨ls.length-1-f,by omega⟩;have hii:i<ls.length:=by omega
   have HF1:=zh (F4 (e:=e) (i:=i) hlt ze hMk.out);have HF2:=zh (De (e:=e) (i:=i) hlt ze hM hMk.out)
   have bx:∀(j:Nat) (x:Value),(#[Value.int .i64 e.op,.int .i64 e.num,.int .i64 e.den,.int .i64 e.dim,.string e.name,.slice a e.args.length cap]:Array Value)[j]? =some x->W1.cell? ⟨w.heap.size,j,none⟩=some x:=fun j x hx=>by
    rw [hB.cell (p:=⟨w.heap.size,j,none⟩) zg,World.cell?_alloc_at _ _ _ _ rfl];exact hx
   have b0:=bx 0 _ rfl;have b1:=bx 1 _ rfl;have b2:=bx 2 _ rfl;have b3:=bx 3 _ rfl;have b4:=bx 4 _ rfl;have b5:=bx 5 _ rfl;clear bx;have c0:W1.cell? ⟨w.heap.size+1,i,none⟩=some (.bool (M.getD i false)):=by rw [cell_of_row W1 _ _ _ _ _ hblk];exact mY M ze
   have z0:W1.frozen? ⟨w.heap.size+1,i,none⟩=false:=Joins.unfrozen_of_block hblk i;obtain⟨-,a',c',hvv,hx⟩:=HL.out.grows hG;simp only [Value.slice.injEq,true_and]at hvv;obtain⟨rfl,rfl⟩:=hvv;rcases hx with h0|⟨b,off,rfl,hbw,hx⟩
   ·omega
   obtain⟨ui,hsl⟩:=hx i hii;have x0:=hsl.nm;have HX:=zh hx;have HRW:=zh (HR.out.grows hG);have d1:(i:Int)<(ls.length:Int):=by omega
   have d0:(0:Int)<=(i:Int):=by omega
   have HI:=zh hi';rw [hi'];have hz:Hid (markT e ls i M (i+1) (i+1)=bS (ls.getD i default).1 e):=zh (Df _ _ _ _ _);have hs:Hid (∀k,i+1<=k->markT e ls i M (i+1) (k+1)=(markT e ls i M (i+1) k || M.getD k false&&bS (ls.getD i default).1 (ls.getD k default).2)):=zh (fun k hk=>Dg hk);generalize hnm:(ls.getD i default).1=nm at *;have HNM:=zh hnm;have HML:=zh hM;have HLT:=zh hlt;clear hnm hsl hx hG hB hi' hblk hM hMk hlt hf;have HM0:=zh (fun w' (hg:W1.Grows w')=>vZ (fun _=>True) nm e _ w' (HRW.out.grows hg));unfold exV at HM0;generalize hq:bS nm e=q0 at *;generalize M.getD i false=m0 at *
   go_wp2_with fail
   apply fD 10 zf zf;simp only [take_succ_cons,take_zero];repeat(go_big_quiet_step ((go_at_call 76;exact Calls.quietG (HM0.out _ ag))))
   refine wpQuiet_nil ?_;intro _ hw';obtain⟨⟨gb,gd⟩,hw''⟩:=hw';subst hw'';simp only [drop_succ_cons,drop_zero]
   go_wp2_with fail
   obtain⟨W2,hW2⟩:∃W2,W2=(W1.setCell ⟨w.heap.size+1,i,none⟩ (.bool q0)).grow gb gd:=⟨_,rfl⟩;rw [<-hW2];have HB2:Hid (Below (w.heap.size+1) ((w.alloc (.cells #[.int .i64 e.op,.int .i64 e.num,.int .i64 e.den,.int .i64 e.dim,.string e.name,.slice a e.args.length cap] 51))) W2):=zh (by rw [hW2];exact(HB.out.setCell (p:=⟨w.heap.size+1,i,none⟩) (Nat.le_refl _) _).grow zp _ _);have HC2:Hid (W2.heap[w.heap.size+1]? =some (.cells (bbs (M.set i q0)) 4 (0,0))):=zh (by rw [hW2,World.heap_grow _ _ _ zp,<-yJ];exact Joins.block_setCell HBK.out _);clear hW2 b0 b1 b2 b3 b4 b5 x0 c0 z0 HM0 hbs hbs0
   go_loopw [7] (fun v7 wr=>∃(k:Nat) (nb:Bool),i+1<=k/\k<=ls.length/\v7= .int .i64 k/\Hid (markT e ls i M (i+1) k=nb)/\Below (w.heap.size+1) ((w.alloc (.cells #[.int .i64 e.op,.int .i64 e.num,.int .i64 e.den,.int .i64 e.dim,.string e.name,.slice a e.args.length cap] 51))) wr/\wr.heap[w.heap.size+1]? =some (.cells (bbs (M.set i nb)) 4 (0,0))) (fun v7 _=>ls.length-(intOf v7).toNat)
   case atStart=>exact⟨i+1,q0,by omega,by omega,by go_num,hz,HB2.out,HC2.out⟩
   case round=>
    obtain⟨k,nb,hki,hk,rfl,HN,hB3,hblk⟩:=hrel;obtain⟨W3,rfl⟩:∃W3,W3=wr:=⟨_,rfl⟩;have HB3:=zh hB3;have HBK3:=zh hblk;have hbs:w.heap.size+1<W3.heap.size:=(Array.getElem?_eq_some_iff.1 hblk).1;by_cases hkl:k<ls.length
    ·have c0:W3.cell? ⟨w.heap.size+1,i,none⟩=some (.bool nb):=by rw [cell_of_row W3 _ _ _ _ _ hblk,mY _ (by rw [length_set];have:=HML.out;omega),set_self (by have:=HML.out;omega)]
     have c1:W3.cell? ⟨w.heap.size+1,k,none⟩=some (.bool (M.getD k false)):=by rw [cell_of_row W3 _ _ _ _ _ hblk,mY _ (by rw [length_set];have:=HML.out;omega),Er ze]
     have z0:W3.frozen? ⟨w.heap.size+1,i,none⟩=false:=Joins.unfrozen_of_block hblk i;have hsuc:=hs.out k hki;rw [HN.out]at hsuc;have hG3:w.Grows W3:=.of_below ((((Below.refl _ _).alloc (Nat.le_refl _) _)).trans (hB3.mono ze));obtain⟨-,a',c',hvv,hx⟩:=HL.out.grows hG3;simp only [Value.slice.injEq,true_and]at hvv;obtain⟨hvv,rfl⟩:=hvv;rcases hx with h0|⟨b',off',rfl,hbw3,hx⟩
     ·omega
     simp only [Option.some.injEq,Addr.mk.injEq,and_true]at hvv;obtain⟨rfl,rfl⟩:=hvv;obtain⟨uk,hsk⟩:=hx k hkl;obtain⟨ui,hsi⟩:=hx i hii;have x0:=hsi.nm;rw [HNM.out]at x0;obtain⟨-,y1,y2,y3,y4,y5,y6,hrk⟩:=hsk;obtain⟨ka,kc,rfl⟩:=hrk.form0;generalize(ls.getD k default).2=ek at *;have HRK:=zh hrk;have HM2:=zh (fun w' (hg:W3.Grows w')=>vZ (fun _=>True) nm ek _ w' (HRK.out.grows hg));unfold exV at HM2;have e1:(k:Int)<(ls.length:Int):=by omega
     have e0:(0:Int)<=(k:Int):=by omega
     have HSU:=zh hsuc;have HKI:=zh hki;have HKL:=zh hkl;clear hsi hrk hsuc hx hB3 hblk hki hkl hk hG3;generalize hq2:bS nm ek=q2 at *;generalize M.getD k false=mk at *;cases nb
     ·cases mk
      focus
       go_wp2_with fail
      rotate_left
      focus
       go_wp2_with fail
      rotate_left
      all_goals
       apply fD 26 zf zf;simp only [take_succ_cons,take_zero];repeat(go_big_quiet_step ((go_at_call 76;exact Calls.quietG (HM2.out _ ag))))
       refine wpQuiet_nil ?_;intro _ hw';obtain⟨⟨gb,gd⟩,hw''⟩:=hw';subst hw'';simp only [drop_succ_cons,drop_zero]
       go_wp2_with fail
       go_roundw
       case rel=>exact⟨k+1,_,by have:=HKI.out;omega,HKL.out,by go_num,HSU,by have:=HB3.out;(exact af),by first|(rw [World.heap_grow _ _ _ zp,<-pF];exact Joins.block_setCell HBK3.out _)|(rw [<-pF];exact Joins.block_setCell ((World.heap_grow _ _ _ hbs).trans HBK3.out) _)⟩
       case measure=>simp [intOf];have:=HKL.out;omega
     ·go_wp2_with fail
      apply fD 26 zf zf;simp only [take_succ_cons,take_zero];repeat(go_big_quiet_step ((go_at_call 76;exact Calls.quietG (HM2.out _ ag))))
      refine wpQuiet_nil ?_;intro _ hw';obtain⟨⟨gb,gd⟩,hw''⟩:=hw';subst hw'';simp only [drop_succ_cons,drop_zero]
      go_wp2_with fail
      go_roundw
      case rel=>exact⟨k+1,_,by have:=HKI.out;omega,HKL.out,by go_num,HSU,by have:=HB3.out;(exact af),by first|(rw [World.heap_grow _ _ _ zp,<-pF];exact Joins.block_setCell HBK3.out _)|(rw [<-pF];exact Joins.block_setCell ((World.heap_grow _ _ _ hbs).trans HBK3.out) _)⟩
      case measure=>simp [intOf];have:=HKL.out;omega
    ·obtain rfl:k=ls.length:=by omega
     have HN2:Hid (jy e ls i (bM e ls f)=nb):=zh (HF1.out.symm.trans HN.out);have HF3:=HF2;rw [HN2.out]at HF3;clear HF2 HN hB3 hblk
     go_wp2_with fail
     go_roundw
     case rel=>exact⟨f+1,_,HLT.out,by have:=HI.out;first|(congr 1;omega)|(simp;omega),by rw [length_set];exact HML.out,HF3,HB3.out,HBK3.out⟩
     case measure=>first|(simp [intOf];done)|(simp [intOf];omega)
  ·obtain rfl:f=ls.length:=by omega
   have hz:(ls.length:Int)-1-ls.length= -1:=by omega
   rw [hz];have HMK:Hid (∀k,k<ls.length->M.getD k false=(az e ls).contains k):=zh (fun k hk=>hMk.out k ze hk);have HML:=zh hM;have HFL:Hid (fl M ls.length=az e ls):=zh (PP hMk.out);clear hz hB hblk hMk hM
   go_wp2_with fail
   go_loopw [8,9] (fun v8 v9 wr=>∃(k:Nat) (vb:Value),vb=v8/\k<=ls.length/\v9= .int .i64 k/\Below (w.heap.size+1) ((w.alloc (.cells #[.int .i64 e.op,.int .i64 e.num,.int .i64 e.den,.int .i64 e.dim,.string e.name,.slice a e.args.length cap] 51))) wr/\wr.heap[w.heap.size+1]? =some (.cells (bbs M) 4 (0,0))/\wr.ownsRow (w.heap.size+2) 3 1 vb (fl M k).length ((fl M k).map fun(i:Nat)=>.int .i64 i)) (fun _ v9 _=>ls.length-(intOf v9).toNat)
   case atStart=>exact⟨0,_,rfl,by omega,rfl,HB.out,HBK.out,World.ownsRow_nil _ _ _ _⟩
   case round=>
    obtain⟨k,vb,rfl,hk,rfl,hB3,hblk,hown⟩:=hrel;have HB3:=zh hB3;have HBK3:=zh hblk;have HO3:=zh hown;have hbs3:w.heap.size+1<wr.heap.size:=(Array.getElem?_eq_some_iff.1 hblk).1;by_cases hkl:k<ls.length
    ·have c0:wr.cell? ⟨w.heap.size+1,k,none⟩=some (.bool (M.getD k false)):=by rw [cell_of_row wr _ _ _ _ _ hblk,mY _ (by have:=HML.out;omega)]
     have e1:(k:Int)<(ls.length:Int):=by omega
     have e0:(0:Int)<=(k:Int):=by omega
     have HKL:=zh hkl;have HN:=zh (Ny M k);have hfl:=PO M k;clear hB3 hblk hown hkl hk;cases hm:M.getD k false
     ·rw [hm]at c0 HN;have HN:Hid (fl M (k+1)=fl M k):=HN;clear hm
      go_wp2_with fail
      go_roundw
      case rel=>exact⟨k+1,_,rfl,HKL.out,by go_num,HB3.out,HBK3.out,by rw [HN.out];exact HO3.out⟩
      case measure=>simp [intOf];have:=HKL.out;omega
     ·rw [hm]at c0 HN;have HN:Hid (fl M (k+1)=fl M k++[k]):=HN;clear hm;have hk10:k<=1000:=by have:=HKL.out;omega
      go_wp2_with (at_builtin;refine wpList_append_own _ rfl _ _ 24 rfl (w.heap.size+2) 3 i0 (.int .i64 0) 1 8 underlying24 hi hz0 hz1 hz2 rfl zo _ _ _ rfl (HO3.out.alloc _) ⟨wr.heap.size,0,none⟩ 1 1 [.int .i64 k] rfl rfl ?c1 ?c2 ?c3 ?c4 ?c5 ?_)
      try(case c1=>exact aR _ [.int .i64 k] _ _ zg)
      case c2=>first|rfl|(intro u hu;simp at hu;subst hu;rfl)
      case c3=>unfold maxLen;omega
      case c4=>omega
      case c5=>first|omega|(simp;omega)
      intro v' w1 hown' hgrow _;have HB4:=zh ((show Below (w.heap.size+1) ((w.alloc (.cells #[.int .i64 e.op,.int .i64 e.num,.int .i64 e.den,.int .i64 e.dim,.string e.name,.slice a e.args.length cap] 51))) _ from by have:=HB3.out;(exact af)).grown hgrow zp (fun k hk=>by have:=(HO3.out.lt k hk).1;omega));have HBK4:Hid (w1.heap[w.heap.size+1]? =some (.cells (bbs M) 4 (0,0))):=zh ((hgrow.block (w.heap.size+1) zp (fun e=>by have:=(HO3.out.lt _ e.symm).1;omega)).trans ((Below.heap_alloc _ _ _ hbs3).trans HBK3.out));have HO4:=zh hown';clear hown' hgrow
      go_wp2_with fail
      go_roundw
      case rel=>exact⟨k+1,_,rfl,HKL.out,by go_num,HB4.out,HBK4.out,by rw [HN.out,length_append,map_append];exact HO4.out⟩
      case measure=>simp [intOf];have:=HKL.out;omega
    ·obtain rfl:k=ls.length:=by omega
     rw [HFL.out]at HO3;have hll:=je (e:=e) (ls:=ls) ls.length;have HIN:Hid (ay wr vb ((az e ls).map Int.ofNat)):=zh (ay.of_nats HO3.out (by unfold az;omega) (fun k hk=>by have:=fK ls.length (Nat.le_refl _) k hk;omega));have HNB:Hid (∀k,vb.ownBlock=some k->w.heap.size<=k):=zh (fun k hk=>by have:=(HO3.out.lt k hk).1;omega);clear hB3 hblk hown
     go_wp2_with fail
     go_returns
     exact⟨⟨_,rfl,HIN.out,HNB.out⟩,.of_below ((((Below.refl _ _).alloc (Nat.le_refl _) _)).trans (HB3.out.mono ze))⟩
theorem C9(s:ByteArray):cK (.mk 2 0 0 0 s [])=eY s:=by
 unfold cK;rw [eT];simp [Ex.depth,Ex.depths,Ex.size,Ex.sizes,Ex.args,Ex.op,Ex.num,Ex.den,Ex.dim,Ex.name,aX]
theorem Cx(s:ByteArray)(hs:s.size<=140737488355328)(w:World)(ht:Tab w):Calls prog 194 #[.string s] w fun e w'=>e= .returned (.bool (eY s))/\w.Grows w':=by
 have HV:=zh (fun w (ht:Tab w)=>mF (fun _=>True) (.mk 2 0 0 0 s []) (.slice none 0 0) w (zh (.mk _ none 0 (fun _=>.slice none 0 0) ⟨(show I64 (2:Int)from⟨by decide,by decide⟩),(show I64 (0:Int)from⟨by decide,by decide⟩),(show I64 (0:Int)from⟨by decide,by decide⟩),(show I64 (0:Int)from⟨by decide,by decide⟩),by simp [Ex.args],hs⟩ (.inl rfl) (fun i hi=>by simp [Ex.args]at hi))) (zh (by simp [Ex.size,Ex.sizes])) (zh ht));have HT:=zh ht;clear ht;unfold exV at HV;dsimp only [Ex.op,Ex.num,Ex.den,Ex.dim,Ex.name]at HV;rw [C9]at HV;generalize eY s=b at *
 go_enter func194,ntmps194
 go_wp2_with (go_at_call 108;refine(HV.out _ HT.out).mono ?_;rintro e' w' ⟨rfl,bs,d,rfl⟩)
 exact gz9
theorem Dl(ls:List (ByteArray × Ex))(v:Value)(w:World)(h:gI w v ls)(hl:10<ls.length):Calls prog 157 #[v] w (lC (dN ls) w):=by
 obtain⟨hl1000,la,lc,rfl,-⟩:=h;have hn:(10:Int)<(ls.length:Int):=by omega
 have HF:Hid (dN ls=([],7)):=zh (by unfold dN;rw [if_pos hl])
 go_enter func157,ntmps157
 go_wp2_with fail
 go_returns
 exact lC.bad HF.out (.of_below af)
theorem Gc:∀args w,(callFunc 195 args).run prog w= .ok (.enter 195 args) w:=enters_of func195 zf rfl
theorem F7(env:List (ByteArray × Int))(ve:Value)(s:ByteArray)(c1 c2 c3 c4 c5 c6:Value)(b:Nat)(w:World)(hb:w.heap[b]? =some (.cells #[.string s,c1,c2,c3,c4,c5,c6] 84 (0,0)))(he:aU w ve env) :
 Calls prog 109 #[ve,.func (.func 195) #[] #[.pointer (some ⟨b,0,none⟩)]] w fun r w'=>r= .returned (.bool (env.any fun p=>decide (p.1=s)))/\w.Grows w':=by
 rw [<-PV];refine nG 195 #[.pointer (some ⟨b,0,none⟩)] Gc env ve (fun k=>decide (bdN env k=s)) w he (zh (fun k hk w2 hg=>?_));have hb2:w2.heap[b]? =some (.cells #[.string s,c1,c2,c3,c4,c5,c6] 84 (0,0)):=(hg.below.block b (Array.getElem?_eq_some_iff.1 hb).1).trans hb;have hbl:b<w2.heap.size:=(Array.getElem?_eq_some_iff.1 hb2).1;have x0:w2.cell? ⟨b,0,none⟩=some (.string s):=by rw [cell_of_row w2 b _ _ _ _ hb2];rfl
 dsimp only;generalize bdN env k=n at *;generalize bdD env k=m at *;clear hb hb2 he hg;show Calls prog 195 #[.agg #[.string n,.int .i64 m],.pointer (some ⟨b,0,none⟩)] w2 _;by_cases hn:n=s
 ·have h2:(n.toList==s.toList)=true:=by rw [hn];simp
  have HD:Hid (decide (n=s)=true):=zh (decide_eq_true hn);clear hn
  go_enter func195,ntmps195
  go_wp2_with fail
  go_returns
  exact⟨au HD.out.symm,.of_below af⟩
 ·have h2:(n.toList==s.toList)=false:=by rw [beq_eq_false_iff_ne];exact fun h=>hn (mM h)
  have HD:Hid (decide (n=s)=false):=zh (decide_eq_false hn);clear hn
  go_enter func195,ntmps195
  go_wp2_with fail
  go_returns
  exact⟨au HD.out.symm,.of_below af⟩
theorem IG(ls:List (ByteArray × Ex))(v:Value)(w:World)(h:gI w v ls)(hs:sG ls)(ht:Tab w):Calls prog 157 #[v] w (lC (dN ls) w):=by
 by_cases hlen:ls.length<=10
 case neg=>exact Dl ls v w h ze
 obtain⟨i0,hi,hz0,hz1,hz2⟩:=info_parts EI;have HL:=zh h;have HS:=zh hs;have HT:=zh ht;obtain⟨hl1000,la,lc,rfl,-⟩:=h;rw [qi hlen];have hn:¬(10:Int)<(ls.length:Int):=by omega
 clear hs ht
 go_enter func157,ntmps157
 go_wp2_with fail
 go_loopw [4,16] (fun v4 v16 wr=>∃(k:Nat) (vb:Value) (env:List (ByteArray × Int)),vb=v4/\k<=ls.length/\v16= .int .i64 k/\Below w.heap.size w wr/\wr.ownsRow w.heap.size 64 2 vb k (nH env)/\Hid (kw ls k env)) (fun _ v16 _=>ls.length-(intOf v16).toNat)
 case atStart=>exact⟨0,_,[],rfl,by omega,rfl,.refl _ _,World.ownsRow_nil _ _ _ _,zh (kw.zero ls)⟩
 case round=>
  obtain⟨k,vb,env,rfl,hk,rfl,hB,hown,HA⟩:=hrel;obtain⟨W1,rfl⟩:∃W1,W1=wr:=⟨_,rfl⟩;have HB:=zh hB;have HO:=zh hown;have HG:Hid (w.Grows W1):=zh (.of_below hB);have HT1:=zh (HT.out.grows HG.out);have hsW:=hB.size;by_cases hlt:k<ls.length
  ·obtain⟨-,a',c',hvv,hx⟩:=HL.out.grows HG.out;simp only [Value.slice.injEq,true_and]at hvv;obtain⟨rfl,rfl⟩:=hvv;rcases hx with h0|⟨b,off,rfl,hbw,hx⟩
   ·omega
   obtain⟨uk,hsk⟩:=hx k hlt;have hsm:=HS.out _ (fZ hlt);have HTB:=zh (HA.out.bad hlt);have HTN:=zh (HA.out.next hlt);have HEL:=zh HA.out.len;have d1:(k:Int)<(ls.length:Int):=by omega
   generalize ls.getD k default=tt at *;obtain⟨s,ek⟩:=tt;dsimp only at hsm;obtain⟨y0,y1,y2,y3,y4,y5,y6,hrk⟩:=hsk;obtain⟨ka,kc,rfl⟩:=hrk.form0;have HRK:=zh hrk;have HBD:Hid (aU W1 vb env):=zh (aU.of_own (by rw [HEL.out];exact hown) (by rw [HEL.out];omega));have HI5:=zh (jO s);have HN5:=zh (fun w ht=>Cx s hsm.1 w ht);have HDC:=zh (fun w' b hb (hg:W1.Grows w')=>F7 env vb s (.int .i64 ek.op) (.int .i64 ek.num) (.int .i64 ek.den) (.int .i64 ek.dim) (.string ek.name) (.slice ka ek.args.length kc) b w' hb (HBD.out.grows hg));have HIF:=zh (fun w' (hg:W1.Grows w')=>ow (fun _=>True) env ek (.slice ka ek.args.length kc) vb w' (HRK.out.grows hg) (by have:=hsm.2;omega) (HT1.out.grows hg) (HBD.out.grows hg));unfold jh exV at HIF;have HKL:=zh hlt;have hk10:k<=10:=by omega
   have hvf:∃va vn vc,vb= .slice va vn vc:=by obtain⟨-,a,c,h,-⟩:=HBD.out;exact⟨_,_,_,h⟩
   clear hx hrk hsm HA hB hown hlt hk;dsimp only at y0 y1 y2 y3 y4 y5 y6;by_cases hd:bT s.toList=0
   case neg=>
    have HC:Hid (gZ ls []=([],5)):=zh yF;rw [decide_eq_true hd]at HI5;generalize bT s.toList=d0 at *;exact gz7
   rw [hd]at HI5;have HD:=zh hd;clear hd;cases hnb:eY s
   case false=>
    have HC:Hid (gZ ls []=([],5)):=zh yE;rw [hnb]at HN5;clear hnb;exact gz7
   rw [hnb]at HN5;have HNB:=zh hnb;clear hnb;obtain⟨va,vn,vc,rfl⟩:=hvf;cases hdu:env.any fun p=>decide (p.1=s)
   case true=>
    have HC:Hid (gZ ls []=([],10)):=zh (by have h5:=tY (e:=ek) HD.out HNB.out hdu;have:=HTB.out zY;rw [h5]at this;exact this);rw [hdu]at HDC;clear hdu;exact gz7
   have HST:Hid (fU env (s,ek)=(aT env ek).2):=zh (tX HD.out HNB.out hdu);rw [hdu]at HDC;clear hdu;generalize hr:aT env ek=r at *;obtain⟨dk,ck⟩:=r;dsimp only at HIF HST HTN;clear hr;by_cases hc:ck=0
   ·subst hc;have HNX:=zh (HTN.out HST.out)
    go_wp2_with (first
     |((first|(go_at_call 47;refine(HI5.out _).mono ?_;rintro e' w' ⟨rfl,rfl⟩)|(go_at_call 194;refine(HN5.out _ (HT1.out.grows ag)).mono ?_;rintro e' w' ⟨rfl,bs1,d1',rfl⟩)|(go_at_call 109;refine(HDC.out _ _ ((World.heap_grow _ _ _ zg).trans (bK _ _ _ zg)) ag).mono ?_;rintro e' w' ⟨rfl,bs2,d2',rfl⟩)|(go_at_call 67;refine(HIF.out _ ag).mono ?_;rintro e' w' ⟨rfl,bs3,d3',rfl⟩)))
     |(at_builtin;refine wpList_append_own _ rfl _ _ 54 rfl w.heap.size 64 i0 _ 2 24 underlying54 hi hz0 hz1 hz2 rfl zo _ _ _ rfl (bQ HO.out ag) ⟨_,0,none⟩ 1 1 [.string s,.int .i64 dk] rfl rfl ?c1 ?c2 ?c3 ?c4 ?c5 ?_))
    case c1=>exact aR _ [.string s,.int .i64 dk] _ _ zg
    case c2=>intro u hu;simp at hu;rcases hu with rfl|rfl<;>rfl
    case c3=>unfold maxLen;omega
    case c4=>omega
    case c5=>simp;omega
    intro v' w1 hown' hgrow _;have HB4:=zh ((show Below w.heap.size w _ from by have:=HB.out;(exact af)).grown hgrow zp (fun k hk=>(HO.out.lt k hk).1));have HO4:=zh hown';clear hown' hgrow
    go_wp2_with fail
    go_roundw
    case rel=>exact⟨k+1,_,_,rfl,HKL.out,by go_num,HB4.out,by rw [lh];exact HO4.out,HNX⟩
    case measure=>simp [intOf];have:=HKL.out;omega
   ·have hc2:(ck !=0)=true:=by simpa using hc
    have HC:Hid (gZ ls []=([],ck)):=zh (by have:=HTB.out (by rw [HST.out];exact hc);rw [HST.out]at this;exact this);clear hc;exact gz7
  ·obtain rfl:k=ls.length:=by omega
   have HD:=zh HA.out.done;have HBD:Hid (aU W1 vb env):=zh (aU.of_own (by rw [HA.out.len];exact HO.out) (by rw [HA.out.len];omega));clear hB hown
   go_wp2_with fail
   go_returns
   exact⟨_,by rw [HD.out];rfl,HG.out,by rw [HD.out];exact HBD.out⟩
end Go.Proofs.YtlheailebbngiaaGreatDoor
