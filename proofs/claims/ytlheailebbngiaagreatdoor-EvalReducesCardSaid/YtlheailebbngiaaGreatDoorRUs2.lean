import Derived.Test.YtlheailebbngiaaGreatDoorRUsR
import Derived.Test.YtlheailebbngiaaGreatDoorRShelf4
set_option linter.all false
set_option maxHeartbeats 16000000
set_option maxRecDepth 1000000
namespace Go.Proofs.YtlheailebbngiaaGreatDoor
open Tryz List
open Go.RowKit
def usV(e:Ex)(ls:List (ByteArray × Ex))(f:Nat):List Value:=(bQ e ls f).reverse.map fun(i:Nat)=>.int .i64 i
def lI(e:Ex)(ls:List (ByteArray × Ex))(i:Nat)(u:List Nat)(j:Nat):Bool:=bT (ls.getD i default).1 e || (u.take j).any fun k=>bT (ls.getD i default).1 (ls.getD k default).2
theorem Dw(e:Ex)(ls:List (ByteArray × Ex))(i:Nat)(u:List Nat):lI e ls i u 0=bT (ls.getD i default).1 e:=by simp [lI]
theorem Dx{e:Ex}{ls:List (ByteArray × Ex)}{i:Nat}{u:List Nat}{j:Nat}(h:j<u.length):lI e ls i u (j+1)=(lI e ls i u j || bT (ls.getD i default).1 (ls.getD (u.getD j 0) default).2):=by
 unfold lI;rw [take_succ_eq_append_getElem h,any_append,Bool.or_assoc];simp [getD_eq_getElem?_getD,getElem?_eq_getElem h]
theorem Gx(e:Ex)(ls:List (ByteArray × Ex))(i:Nat)(u:List Nat):lI e ls i u.reverse u.reverse.length=jD e ls i u:=by
 unfold lI jD;rw [take_length,any_reverse]
theorem Gp{w:World}{base:Nat}{e:TypeId}{size:Nat}{v:Value}{n:Nat}{xs:List Value}(h:w.ownsRow base e size v n xs){w':World}(hg:w.Grows w'):w'.ownsRow base e size v n xs:=
 ji h fun k _ hk=>hg.below.block k hk
theorem O4:(prog.info? 3).map (fun i=>(i.zero,i.size,i.bytes))=some (some (.int .i64 0),1,8):=by kernel_rfl
theorem tY{w:World}{base:Nat}{v:Value}{u:List Nat}(h:w.ownsRow base 3 1 v u.length (u.map fun(i:Nat)=>.int .i64 i)):∃a cap,v= .slice a u.length cap/\(u.length=0\/∃g cur,a=some ⟨g,0,none⟩/\base<=g/\w.heap[g]? =some (.cells cur 3 (0,0))/\∀j,j<u.length->w.cell? ⟨g,j,none⟩=some (.int .i64 (u.getD j 0:Nat))):=by
 obtain⟨-,⟨rfl,h0⟩|⟨g,cap,cur,rfl,hb,hg,h2,h3,h4,h5⟩⟩:=id h
 ·exact⟨none,0,by rw [h0],.inl h0⟩
 ·refine⟨_,cap,rfl,.inr ⟨g,cur,rfl,hb,hg,fun i hi=>?_⟩⟩;rw [h.cellAt i ze,getElem?_map,getElem?_eq_getElem hi,getD_eq_getElem?_getD,getElem?_eq_getElem hi];rfl
theorem ay.of_nats{w:World}{base:Nat}{v:Value}{u:List Nat}(h:w.ownsRow base 3 1 v u.length (u.map fun(i:Nat)=>.int .i64 i))(hl:u.length<=1000)(hr:∀k∈u,k<=1000):ay w v (u.map Int.ofNat):=by
 obtain⟨a,cap,rfl,hc⟩:=tY h;refine⟨by simp;omega,fun z hz=>?_,a,cap,by simp,hc.imp zg ?_⟩
 ·obtain⟨k,hk,rfl⟩:=mem_map.1 hz;have:=hr k hk;simp only [Int.ofNat_eq_natCast];omega
 ·rintro⟨g,cur,rfl,-,hg,hx⟩;refine⟨g,0,rfl,(Array.getElem?_eq_some_iff.1 hg).1,fun i hi=>?_⟩;rw [length_map]at hi;rw [Nat.zero_add,hx i hi,getD_eq_getElem?_getD,getD_eq_getElem?_getD,getElem?_map,getElem?_eq_getElem hi];rfl
theorem JV{w:World}{g q uc:Nat}{cur:Array Value}{U:List Nat}(hb:w.heap[g]? =some (.cells cur 3 (0,0)))(hc:∀j,j<U.length->w.cell? ⟨g,j,none⟩=some (.int .i64 (U.getD j 0:Nat)))(hU:U.length<=1000)(hr:∀k∈U,k<=1000) :
 ay ((w.drewN q).setCells g 0 (((U.map Int.ofNat).take U.length).reverse.map (Value.int .i64))) (.slice (some ⟨g,0,none⟩) U.length uc) (U.reverse.map Int.ofNat):=by
 have e:((U.map Int.ofNat).take U.length).reverse.map (Value.int .i64)=U.reverse.map fun(k:Nat)=>Value.int .i64 k:=by rw [take_of_length_le zg,<-map_reverse,map_map];rfl
 rw [e];refine⟨by simp;omega,fun z hz=>?_,_,uc,by simp,.inr ⟨g,0,rfl,(Array.getElem?_eq_some_iff.1 (dH (t:=3) (U.reverse.map fun(k:Nat)=>Value.int .i64 k) 0 (w.drewN q) cur hb)).1,fun i hi=>?_⟩⟩
 ·obtain⟨k,hk,rfl⟩:=mem_map.1 hz;have:=hr k (mem_reverse.1 hk);simp only [Int.ofNat_eq_natCast];omega
 ·have hi':i<U.length:=by simpa using hi
  rw [World.cell?_setCells_in g (U.reverse.map fun(k:Nat)=>Value.int .i64 k) 0 (w.drewN q) (fun j hj=>by
   rw [Nat.zero_add,show(w.drewN q).cell? ⟨g,j,none⟩=w.cell? ⟨g,j,none⟩from rfl,hc j (by simpa using hj)];rfl) i (by simpa using hi'),getD_eq_getElem?_getD,getElem?_eq_getElem (by simpa using hi')]
  simp
theorem Jd(e:Ex)(u v:Value)(ls:List (ByteArray × Ex))(w:World)(h:aC (fun _=>True) w e u)(hl:gL w v ls) :
 Calls prog 38 #[exV e u,v] w fun r w'=>(∃x,r= .returned x/\ay w' x ((aA e ls).map Int.ofNat)/\∀k,x.ownBlock=some k->w.heap.size<=k)/\w.Grows w':=by
 obtain⟨i0,hi,hz0,hz1,hz2⟩:=info_parts O4;have HR:=zh h;have HL:=zh hl;obtain⟨hl1000,la,lc,rfl,-⟩:=hl;obtain⟨a,cap,rfl⟩:=h.form0;clear h
 go_enter func38,ntmps38
 go_wp2_with fail
 go_loopw [5,6] (fun v5 v6 wr=>∃(f:Nat) (vb:Value),vb=v5/\f<=ls.length/\v6= .int .i64 ((ls.length:Int)-1-f)/\Below (w.heap.size+1) ((w.alloc (.cells #[.int .i64 e.op,.int .i64 e.num,.int .i64 e.den,.int .i64 e.dim,.string e.name,.slice a e.args.length cap] 51))) wr/\wr.ownsRow (w.heap.size+1) 3 1 vb (bQ e ls f).length (usV e ls f)) (fun _ v6 _=>(intOf v6+1).toNat)
 case atStart=>exact⟨0,_,rfl,by omega,by simp,.refl _ _,World.ownsRow_nil _ _ _ _⟩
 case round=>
  obtain⟨f,vb,rfl,hf,rfl,hB,hown⟩:=hrel;obtain⟨W1,rfl⟩:∃W1,W1=wr:=⟨_,rfl⟩;have HB:=zh hB;have hG:w.Grows W1:=.of_below ((((Below.refl _ _).alloc (Nat.le_refl _) _)).trans (hB.mono ze));have HG:=zh hG;have HO:=zh hown;have hbs:w.heap.size<W1.heap.size:=by have:=hB.size;simp at this;omega
  generalize hU:(bQ e ls f).reverse=U at *;have hUl:(bQ e ls f).length=U.length:=by rw [<-hU,length_reverse]
  have hU10:U.length<=1000:=by have:=jh (e:=e) (ls:=ls) f;omega
  have hUm:∀k∈U,k<ls.length:=fun k hk=>(fO f hf k (by rw [<-hU,mem_reverse]at hk;exact hk)).2;have hUV:usV e ls f=U.map fun(i:Nat)=>.int .i64 i:=by unfold usV;rw [hU]
  rw [hUl,hUV]at hown HO;by_cases hlt:f<ls.length
  ·obtain⟨i,hi'⟩:∃i:Nat,(ls.length:Int)-1-f=i:=⟨ls.length-1-f,by omega⟩;have hii:i<ls.length:=by omega
   have HF1:Hid (bQ e ls (f+1)=if jD e ls i (bQ e ls f)then i::bQ e ls f else bQ e ls f):=zh (by rw [bQ,show ls.length-(f+1)=i by omega]);have HNB:Hid (lI e ls i U U.length=jD e ls i (bQ e ls f)):=zh (by rw [<-hU];exact Gx _ _ _ _)
   have bx:∀(j:Nat) (x:Value),(#[Value.int .i64 e.op,.int .i64 e.num,.int .i64 e.den,.int .i64 e.dim,.string e.name,.slice a e.args.length cap]:Array Value)[j]? =some x->W1.cell? ⟨w.heap.size,j,none⟩=some x:=fun j x hx=>by
    rw [hB.cell (p:=⟨w.heap.size,j,none⟩) zg,World.cell?_alloc_at _ _ _ _ rfl];exact hx
   have b0:=bx 0 _ rfl;have b1:=bx 1 _ rfl;have b2:=bx 2 _ rfl;have b3:=bx 3 _ rfl;have b4:=bx 4 _ rfl;have b5:=bx 5 _ rfl;clear bx;obtain⟨-,a',c',hvv,hx⟩:=HL.out.grows hG;simp only [Value.slice.injEq,true_and]at hvv;obtain⟨rfl,rfl⟩:=hvv;rcases hx with h0|⟨b,off,rfl,hbw,hx⟩
   ·omega
   obtain⟨ui,hsl⟩:=hx i hii;have x0:=hsl.nm;have HX:=zh hx;have HRW:=zh (HR.out.grows hG);have d1:(i:Int)<(ls.length:Int):=by omega
   have d0:(0:Int)<=(i:Int):=by omega
   have HI:=zh hi';rw [hi'];obtain⟨ua,uc,rfl,hur⟩:=tY hown;have hz:Hid (lI e ls i U 0=bT (ls.getD i default).1 e):=zh (Dw _ _ _ _);have hs:Hid (∀j,j<U.length->lI e ls i U (j+1)=(lI e ls i U j || bT (ls.getD i default).1 (ls.getD (U.getD j 0) default).2)):=zh (fun j hj=>Dx hj);have HUR:=zh hur;have HUM:=zh hUm;have HUL:=zh hUl;have HU:=zh hU;have HUV:=zh hUV;generalize hnm:(ls.getD i default).1=nm at *;have HNM:=zh hnm;clear hnm;clear hsl hx hur hUm hUl hU hUV hown hG hB hi';have HM0:=zh (fun w' (hg:W1.Grows w')=>wO (fun _=>True) nm e _ w' (HRW.out.grows hg));unfold exV at HM0;generalize hq:bT nm e=q0 at *
   go_wp2_with fail
   refine eZ zf zf ?_;repeat(go_big_quiet_step ((go_at_call 74;exact Calls.quietG (HM0.out _ af))))
   refine wpQuiet_nil ?_;intro _ hw';obtain⟨⟨gb,gd⟩,hw''⟩:=hw';subst hw''
   go_wp2_with fail
   obtain⟨W2,hW2⟩:∃W2,W2=W1.grow gb gd:=⟨_,rfl⟩;rw [<-hW2];have HW2:=zh hW2;have HG2:Hid (W1.Grows W2):=zh (hW2 ▸ ⟨_,_,rfl⟩);clear hW2 b0 b1 b2 b3 b4 b5 x0
   go_loopw [7,26] (fun v7 v26 wr=>∃(j:Nat) (nb:Bool),j<=U.length/\v26= .int .i64 j/\v7= .bool nb/\Hid (lI e ls i U j=nb)/\W2.Grows wr) (fun _ v26 _=>U.length-(intOf v26).toNat)
   case atStart=>exact⟨0,_,by omega,rfl,rfl,hz,.refl _⟩
   case round=>
    obtain⟨j,nb,hj,rfl,rfl,HN,hG3⟩:=hrel;have HG4:=zh hG3;have HG3:Hid (W1.Grows wr):=zh (World.Grows.trans' HG2.out hG3);clear hG3;by_cases hjl:j<U.length
    ·rcases HUR.out with h0|⟨g,cur,rfl,-,hg,hgx⟩
     ·omega
     have hg:=(Array.getElem?_eq_some_iff.1 hg).1;have y0:=(HG3.out.below.cell (p:=⟨g,j,none⟩) (by exact hg)).trans (hgx j hjl);have hsz:=HG3.out.below.size;have hsuc:=hs.out j hjl;rw [HN.out]at hsuc;have hk:=HUM.out (U.getD j 0) (by rw [getD_eq_getElem?_getD,getElem?_eq_getElem hjl];exact getElem_mem hjl);generalize U.getD j 0=k at *;obtain⟨uk,hsk⟩:=HX.out k hk;obtain⟨ui,hsi⟩:=HX.out i hii;have hsk:=hsk.same HG3.out hbw;have hsi:=hsi.same HG3.out hbw;generalize(ls.getD k default).2=ek at *;obtain⟨-,z1,z2,z3,z4,z5,z6,hrk⟩:=hsk;have x0:=hsi.nm;rw [HNM.out]at x0;have hbw2:b<wr.heap.size:=by omega
     have hg2:g<wr.heap.size:=by omega
     obtain⟨ka,kc,rfl⟩:=hrk.form0;have HRK:=zh hrk;have e1:(k:Int)<(ls.length:Int):=by omega
     have e0:(0:Int)<=(k:Int):=by omega
     have f1:(j:Int)<(U.length:Int):=by omega
     have f0:(0:Int)<=(j:Int):=by omega
     have HSU:=zh hsuc;have HJL:=zh hjl;clear hsi hrk hsuc hk hgx hjl hj HRW;have HM2:=zh (fun w' (hg:wr.Grows w')=>wO (fun _=>True) nm ek _ w' (HRK.out.grows hg));unfold exV at HM2;generalize hq2:bT nm ek=q2 at *;cases nb
     focus
      go_wp2_with fail
      refine eZ zf zf ?_;repeat(go_big_quiet_step ((go_at_call 74;exact Calls.quietG (HM2.out _ af))))
     rotate_left
     focus
      go_wp2_with fail
      refine eZ zf zf ?_;repeat(go_big_quiet_step (fail))
     rotate_left
     all_goals
      refine wpQuiet_nil ?_;intro _ hw';obtain⟨⟨gb,gd⟩,hw''⟩:=hw';subst hw''
      go_wp2_with fail
      go_roundw
      case rel=>exact⟨j+1,_,by have:=HJL.out;omega,by go_num,rfl,zh (by rw [HSU.out];first|rfl|simp),World.Grows.trans' HG4.out af⟩
      case measure=>simp [intOf];have:=HJL.out;omega
    ·obtain rfl:j=U.length:=by omega
     have HN2:Hid (jD e ls i (bQ e ls f)=nb):=zh (HNB.out.symm.trans HN.out);have HO3:=zh (Gp HO.out HG3.out);have HB3:=zh (HB.out.trans (HG3.out.below.mono ze));have HG5:=zh (World.Grows.trans' HG.out HG3.out);have HLT:=zh hlt;have hbs2:w.heap.size+1<=wr.heap.size:=by have:=HG3.out.below.size;omega
     clear HN HG3 HG4 HRW hlt hj;cases nb
     ·have HV:Hid (bQ e ls (f+1)=bQ e ls f):=zh (by rw [HF1.out,HN2.out];rfl)
      go_wp2_with fail
      go_roundw
      case rel=>exact⟨f+1,_,rfl,HLT.out,by have:=HI.out;first|(congr 1;omega)|(simp;omega),by have:=HB3.out;(exact ag),by unfold usV;rw [HV.out,HUL.out,HU.out];exact HO3.out⟩
      case measure=>first|(simp [intOf];done)|(simp [intOf];omega)
     ·have HV:Hid (bQ e ls (f+1)=i::bQ e ls f):=zh (by rw [HF1.out,HN2.out];rfl)
      go_wp2_with (at_builtin;refine wpList_append_own _ rfl _ _ 24 rfl (w.heap.size+1) 3 i0 (.int .i64 0) 1 8 underlying24 hi hz0 hz1 hz2 rfl zo _ _ _ rfl (HO3.out.alloc _) ⟨wr.heap.size,0,none⟩ 1 1 [.int .i64 i] rfl rfl ?c1 ?c2 ?c3 ?c4 ?c5 ?_)
      case c1=>exact aK _ [.int .i64 i] _ _ zg
      case c2=>intro u hu;simp at hu;subst hu;rfl
      case c3=>unfold maxLen;omega
      case c4=>omega
      case c5=>simp;omega
      intro v' w1 hown' hgrow _;have HB4:=zh ((show Below (w.heap.size+1) ((w.alloc (.cells #[.int .i64 e.op,.int .i64 e.num,.int .i64 e.den,.int .i64 e.dim,.string e.name,.slice a e.args.length cap] 51))) _ from by have:=HB3.out;(exact ag)).grown hgrow zp (fun k hk=>(HO3.out.lt k hk).1));have HO4:=zh hown';clear hown' hgrow
      go_wp2_with fail
      go_roundw
      case rel=>exact⟨f+1,_,rfl,HLT.out,by have:=HI.out;first|(congr 1;omega)|(simp;omega),HB4.out,by unfold usV;rw [HV.out,reverse_cons,HU.out,length_cons,HUL.out,map_append];exact HO4.out⟩
      case measure=>first|(simp [intOf];done)|(simp [intOf];omega)
  ·obtain rfl:f=ls.length:=by omega
   have hz:(ls.length:Int)-1-ls.length= -1:=by omega
   rw [hz];have HUM:Hid (∀k∈U,k<ls.length):=zh hUm;have HF:Hid (aA e ls=U.reverse):=zh (by unfold aA;rw [<-hU,reverse_reverse]);have HNB:=zh (fun k hk=>(hown.lt k hk).1);obtain⟨ua,uc,rfl,hur⟩:=tY hown;clear hz hown hUm hU hUl hUV;rcases hur with h0|⟨g,cur,rfl,hgb,hg,hgx⟩
   ·have hUn:U= []:=eq_nil_of_length_eq_zero h0;subst hUn;simp only [length_nil]
    go_wp2_with (go_at_call 75;refine(slices_Reverse_int_empty _ _ _).mono ?_;rintro e' w' ⟨rfl,rfl⟩)
    go_returns
    exact⟨⟨_,rfl,by rw [HF.out];exact⟨by simp,by simp,_,_,rfl,.inl rfl⟩,fun k hk=>by have:=HNB.out k hk;omega⟩,HG.out⟩
   ·have HIR:=zh (fun q=>JV (q:=q) (uc:=uc) hg hgx hU10 (fun k hk=>by have:=HUM.out k hk;omega))
    have HRV:=zh (slices_Reverse_int_cells g 0 U.length uc (U.map Int.ofNat) W1 zg ze (fun j hj=>by
     have hj':j<U.length:=by simpa using hj
     rw [Nat.zero_add,hgx j hj',getD_eq_getElem?_getD,getD_eq_getElem?_getD,getElem?_map,getElem?_eq_getElem hj'];rfl) (fun j hj=>Joins.unfrozen_of_block hg _))
    clear hgx
    go_wp2_with (go_at_call 75;refine HRV.out.mono ?_;rintro e' w' ⟨rfl,q,rfl⟩;have HI2:=zh (HIR.out q);have HB2:=zh (below_setCells (show w.heap.size<=g by omega) (((U.map Int.ofNat).take U.length).reverse.map (Value.int .i64)) 0 (W1.drewN q) ((hG.below).drewN q));generalize(W1.drewN q).setCells g 0 (((U.map Int.ofNat).take U.length).reverse.map (Value.int .i64))=W2 at *)
    go_returns
    exact⟨⟨_,rfl,by rw [HF.out];exact HI2.out,fun k hk=>by have:=HNB.out k hk;omega⟩,.of_below HB2.out⟩
def markT(e:Ex)(ls:List (ByteArray × Ex))(i:Nat)(M:List Bool)(a k:Nat):Bool:=bT (ls.getD i default).1 e || (range' a (k-a)).any fun t=>M.getD t false&&bT (ls.getD i default).1 (ls.getD t default).2
theorem DJ(e:Ex)(ls:List (ByteArray × Ex))(i:Nat)(M:List Bool)(a:Nat):markT e ls i M a a=bT (ls.getD i default).1 e:=by simp [markT]
theorem DK{e:Ex}{ls:List (ByteArray × Ex)}{i:Nat}{M:List Bool}{a k:Nat}(h:a<=k):markT e ls i M a (k+1)=(markT e ls i M a k || M.getD k false&&bT (ls.getD i default).1 (ls.getD k default).2):=by
 unfold markT;rw [show k+1-a=(k-a)+1 by omega,range'_concat,any_append,Bool.or_assoc];simp [show a+(k-a)=k by omega]
theorem IW{u:List Nat}{a n:Nat}{p:Nat->Bool}(hu:∀k∈u,a<=k/\k<n)(M:List Bool)(hM:∀k,a<=k->k<n->M.getD k false=u.contains k):((range' a (n-a)).any fun t=>M.getD t false&&p t)=u.any p:=by
 rw [Bool.eq_iff_iff,any_eq_true,any_eq_true];constructor
 ·rintro⟨t,ht,hp⟩;rw [mem_range'_1]at ht;rw [hM t ht.1 ze,Bool.and_eq_true]at hp;exact⟨t,contains_iff_mem.1 hp.1,hp.2⟩
 ·rintro⟨t,ht,hp⟩;have h:=hu t ht;refine⟨t,mem_range'_1.2 ⟨h.1,by omega⟩, ?_⟩;rw [hM t h.1 h.2,Bool.and_eq_true];exact⟨contains_iff_mem.2 ht,hp⟩
theorem GG{e:Ex}{ls:List (ByteArray × Ex)}{f i:Nat}(hf:f<ls.length)(hi:i=ls.length-1-f){M:List Bool}(hM:∀k,ls.length-f<=k->k<ls.length->M.getD k false=(bQ e ls f).contains k) :
 markT e ls i M (i+1) ls.length=jD e ls i (bQ e ls f):=by
 unfold markT jD;rw [IW (u:=bQ e ls f) (fun k hk=>by have:=fO f ze k hk;omega) M (fun k h1 h2=>hM k ze h2)]
theorem DI{e:Ex}{ls:List (ByteArray × Ex)}{f i:Nat}(hf:f<ls.length)(hi:i=ls.length-1-f){M:List Bool}(hl:M.length=ls.length)(hM:∀k,ls.length-f<=k->k<ls.length->M.getD k false=(bQ e ls f).contains k) :
 ∀k,ls.length-(f+1)<=k->k<ls.length->(M.set i (jD e ls i (bQ e ls f))).getD k false=(bQ e ls (f+1)).contains k:=by
 intro k h1 h2;by_cases hk:k=i
 ·subst hk;rw [getD_eq_getElem?_getD,getElem?_set_self ze];have:=jy (e:=e) (ls:=ls) f ze;rw [show ls.length-(f+1)=k by omega]at this;rw [this];rfl
 ·rw [getD_eq_getElem?_getD,getElem?_set_ne (Ne.symm hk),<-getD_eq_getElem?_getD,hM k ze h2];have:=kI (e:=e) (ls:=ls) (i:=k) f 1 ze ze h2;rw [Bool.eq_iff_iff,contains_iff_mem,contains_iff_mem,this]
def fl(M:List Bool)(k:Nat):List Nat:=(List.range k).filter fun t=>M.getD t false
theorem NU(M:List Bool)(k:Nat):fl M (k+1)=match M.getD k false with|true=>fl M k++[k]|false=>fl M k:=by
 unfold fl;rw [range_succ,filter_append];cases h:M.getD k false<;>(rw [getD_eq_getElem?_getD]at h;simp [h])
theorem Ql(M:List Bool)(k:Nat):(fl M k).length<=k:=by
 unfold fl;have:=length_filter_le (fun t=>M.getD t false) (List.range k)
 rwa [length_range]at this
theorem ru{e:Ex}{ls:List (ByteArray × Ex)}:∀f,f<=ls.length->bQ e ls f=(range' (ls.length-f) f).filter fun t=>(aA e ls).contains t
 |0,_=>by simp [bQ]
 |f+1,hf=>by
  have hm:(aA e ls).contains (ls.length-(f+1))=jD e ls (ls.length-(f+1)) (bQ e ls f):=by
   rw [<-jy f hf,Bool.eq_iff_iff,contains_iff_mem,contains_iff_mem];unfold aA;have:=kI (e:=e) (ls:=ls) (i:=ls.length-(f+1)) (f+1) (ls.length-(f+1)) ze ze ze;rw [show f+1+(ls.length-(f+1))=ls.length by omega]at this;exact this
  rw [range'_succ,filter_cons,hm,show ls.length-(f+1)+1=ls.length-f by omega,<-ru f ze,bQ]
theorem Qm{e:Ex}{ls:List (ByteArray × Ex)}{M:List Bool}(h:∀k,ls.length-ls.length<=k->k<ls.length->M.getD k false=(bQ e ls ls.length).contains k):fl M ls.length=aA e ls:=by
 have:=ru (e:=e) (ls:=ls) ls.length (Nat.le_refl _);unfold fl aA;unfold aA at this;rw [this,Nat.sub_self,<-range_eq_range'];exact filter_congr fun t ht=>h t ze (mem_range.1 ht)
def bbs(M:List Bool):Array Value:=(M.map Value.bool).toArray
theorem nI(M:List Bool){k:Nat}(h:k<M.length):(bbs M)[k]? =some (.bool (M.getD k false)):=by
 simp [bbs,getD_eq_getElem?_getD,getElem?_eq_getElem h]
theorem Ad(M:List Bool)(k:Nat)(b:Bool):(bbs M).setIfInBounds k (.bool b)=bbs (M.set k b):=by
 simp [bbs,map_set]
theorem Cw(n:Nat):madeCells #[Value.bool false] n=bbs (List.replicate n false):=by
 unfold bbs madeCells;rw [map_replicate];apply Array.ext';rw [toList_toArray];refine ext_getElem zg fun i h1 h2=>?_;simp [Nat.mod_one]
theorem D7:(prog.info? 4).map (fun i=>(i.zero,i.size,i.bytes))=some (some (.bool false),1,1):=by kernel_rfl
theorem pQ(M:List Bool)(i:Nat)(a b:Bool):(bbs (M.set i a)).setIfInBounds i (.bool b)=bbs (M.set i b):=by rw [Ad,set_set]
theorem EO{M:List Bool}{i k:Nat}{b:Bool}(h:k≠i):(M.set i b).getD k false=M.getD k false:=by
 rw [getD_eq_getElem?_getD,getElem?_set_ne (Ne.symm h),<-getD_eq_getElem?_getD]
theorem set_self{M:List Bool}{i:Nat}{b:Bool}(h:i<M.length):(M.set i b).getD i false=b:=by
 rw [getD_eq_getElem?_getD,getElem?_set_self h];rfl
theorem Jc(e:Ex)(u v:Value)(ls:List (ByteArray × Ex))(w:World)(h:aC (fun _=>True) w e u)(hl:gL w v ls) :
 Calls prog 39 #[exV e u,v] w fun r w'=>(∃x,r= .returned x/\ay w' x ((aA e ls).map Int.ofNat)/\∀k,x.ownBlock=some k->w.heap.size<=k)/\w.Grows w':=by
 obtain⟨i0,hi,hz0,hz1,hz2⟩:=info_parts O4;have HR:=zh h;have HL:=zh hl;obtain⟨hl1000,la,lc,rfl,-⟩:=hl;obtain⟨a,cap,rfl⟩:=h.form0;clear h;have hmk:=run_make_row' (P:=prog) 139 4 (.bool false) 1 underlying139 D7 rfl .i64 .i64 ls.length ze ze
 go_enter func39,ntmps39
 go_wp2_with fail
 go_loopw [6] (fun v6 wr=>∃(f:Nat) (M:List Bool),f<=ls.length/\v6= .int .i64 ((ls.length:Int)-1-f)/\M.length=ls.length/\Hid (∀k,ls.length-f<=k->k<ls.length->M.getD k false=(bQ e ls f).contains k)/\Below (w.heap.size+1) ((w.alloc (.cells #[.int .i64 e.op,.int .i64 e.num,.int .i64 e.den,.int .i64 e.dim,.string e.name,.slice a e.args.length cap] 51))) wr/\wr.heap[w.heap.size+1]? =some (.cells (bbs M) 4 (0,0))) (fun v6 _=>(intOf v6+1).toNat)
 case atStart=>exact⟨0,List.replicate ls.length false,by omega,by simp,by simp,zh (fun k h1 h2=>by omega),(Below.refl _ _).alloc zg _,by rw [<-Cw];exact aY _ _ _ zg⟩
 case round=>
  obtain⟨f,M,hf,rfl,hM,hMk,hB,hblk⟩:=hrel;obtain⟨W1,rfl⟩:∃W1,W1=wr:=⟨_,rfl⟩;have HB:=zh hB;have hG:w.Grows W1:=.of_below ((((Below.refl _ _).alloc (Nat.le_refl _) _)).trans (hB.mono ze));have HG:=zh hG;have HBK:=zh hblk;have hbs:w.heap.size+1<W1.heap.size:=(Array.getElem?_eq_some_iff.1 hblk).1;have hbs0:w.heap.size<W1.heap.size:=by omega
  by_cases hlt:f<ls.length
  ·obtain⟨i,hi'⟩:∃i:Nat,(ls.length:Int)-1-f=i:=⟨ls.length-1-f,by omega⟩;have hii:i<ls.length:=by omega
   have HF1:=zh (GG (e:=e) (i:=i) hlt ze hMk.out);have HF2:=zh (DI (e:=e) (i:=i) hlt ze hM hMk.out)
   have bx:∀(j:Nat) (x:Value),(#[Value.int .i64 e.op,.int .i64 e.num,.int .i64 e.den,.int .i64 e.dim,.string e.name,.slice a e.args.length cap]:Array Value)[j]? =some x->W1.cell? ⟨w.heap.size,j,none⟩=some x:=fun j x hx=>by
    rw [hB.cell (p:=⟨w.heap.size,j,none⟩) zg,World.cell?_alloc_at _ _ _ _ rfl];exact hx
   have b0:=bx 0 _ rfl;have b1:=bx 1 _ rfl;have b2:=bx 2 _ rfl;have b3:=bx 3 _ rfl;have b4:=bx 4 _ rfl;have b5:=bx 5 _ rfl;clear bx;have c0:W1.cell? ⟨w.heap.size+1,i,none⟩=some (.bool (M.getD i false)):=by rw [cell_of_row W1 _ _ _ _ _ hblk];exact nI M ze
   have z0:W1.frozen? ⟨w.heap.size+1,i,none⟩=false:=Joins.unfrozen_of_block hblk i;obtain⟨-,a',c',hvv,hx⟩:=HL.out.grows hG;simp only [Value.slice.injEq,true_and]at hvv;obtain⟨rfl,rfl⟩:=hvv;rcases hx with h0|⟨b,off,rfl,hbw,hx⟩
   ·omega
   obtain⟨ui,hsl⟩:=hx i hii;have x0:=hsl.nm;have HX:=zh hx;have HRW:=zh (HR.out.grows hG);have d1:(i:Int)<(ls.length:Int):=by omega
   have d0:(0:Int)<=(i:Int):=by omega
   have HI:=zh hi';rw [hi'];have hz:Hid (markT e ls i M (i+1) (i+1)=bT (ls.getD i default).1 e):=zh (DJ _ _ _ _ _);have hs:Hid (∀k,i+1<=k->markT e ls i M (i+1) (k+1)=(markT e ls i M (i+1) k || M.getD k false&&bT (ls.getD i default).1 (ls.getD k default).2)):=zh (fun k hk=>DK hk);generalize hnm:(ls.getD i default).1=nm at *;have HNM:=zh hnm;have HML:=zh hM;have HLT:=zh hlt;clear hnm hsl hx hG hB hi' hblk hM hMk hlt hf;have HM0:=zh (fun w' (hg:W1.Grows w')=>wN (fun _=>True) nm e _ w' (HRW.out.grows hg));unfold exV at HM0;generalize hq:bT nm e=q0 at *;generalize M.getD i false=m0 at *
   go_wp2_with fail
   apply fE 10 zf zf;simp only [take_succ_cons,take_zero];repeat(go_big_quiet_step ((go_at_call 76;exact Calls.quietG (HM0.out _ af))))
   refine wpQuiet_nil ?_;intro _ hw';obtain⟨⟨gb,gd⟩,hw''⟩:=hw';subst hw'';simp only [drop_succ_cons,drop_zero]
   go_wp2_with fail
   obtain⟨W2,hW2⟩:∃W2,W2=(W1.setCell ⟨w.heap.size+1,i,none⟩ (.bool q0)).grow gb gd:=⟨_,rfl⟩;rw [<-hW2];have HB2:Hid (Below (w.heap.size+1) ((w.alloc (.cells #[.int .i64 e.op,.int .i64 e.num,.int .i64 e.den,.int .i64 e.dim,.string e.name,.slice a e.args.length cap] 51))) W2):=zh (by rw [hW2];exact(HB.out.setCell (p:=⟨w.heap.size+1,i,none⟩) (Nat.le_refl _) _).grow zp _ _);have HC2:Hid (W2.heap[w.heap.size+1]? =some (.cells (bbs (M.set i q0)) 4 (0,0))):=zh (by rw [hW2,World.heap_grow _ _ _ zp,<-Ad];exact Joins.block_setCell HBK.out _);clear hW2 b0 b1 b2 b3 b4 b5 x0 c0 z0 HM0 hbs hbs0
   go_loopw [7] (fun v7 wr=>∃(k:Nat) (nb:Bool),i+1<=k/\k<=ls.length/\v7= .int .i64 k/\Hid (markT e ls i M (i+1) k=nb)/\Below (w.heap.size+1) ((w.alloc (.cells #[.int .i64 e.op,.int .i64 e.num,.int .i64 e.den,.int .i64 e.dim,.string e.name,.slice a e.args.length cap] 51))) wr/\wr.heap[w.heap.size+1]? =some (.cells (bbs (M.set i nb)) 4 (0,0))) (fun v7 _=>ls.length-(intOf v7).toNat)
   case atStart=>exact⟨i+1,q0,by omega,by omega,by go_num,hz,HB2.out,HC2.out⟩
   case round=>
    obtain⟨k,nb,hki,hk,rfl,HN,hB3,hblk⟩:=hrel;obtain⟨W3,rfl⟩:∃W3,W3=wr:=⟨_,rfl⟩;have HB3:=zh hB3;have HBK3:=zh hblk;have hbs:w.heap.size+1<W3.heap.size:=(Array.getElem?_eq_some_iff.1 hblk).1;by_cases hkl:k<ls.length
    ·have c0:W3.cell? ⟨w.heap.size+1,i,none⟩=some (.bool nb):=by rw [cell_of_row W3 _ _ _ _ _ hblk,nI _ (by rw [length_set];have:=HML.out;omega),set_self (by have:=HML.out;omega)]
     have c1:W3.cell? ⟨w.heap.size+1,k,none⟩=some (.bool (M.getD k false)):=by rw [cell_of_row W3 _ _ _ _ _ hblk,nI _ (by rw [length_set];have:=HML.out;omega),EO ze]
     have z0:W3.frozen? ⟨w.heap.size+1,i,none⟩=false:=Joins.unfrozen_of_block hblk i;have hsuc:=hs.out k hki;rw [HN.out]at hsuc;have hG3:w.Grows W3:=.of_below ((((Below.refl _ _).alloc (Nat.le_refl _) _)).trans (hB3.mono ze));obtain⟨-,a',c',hvv,hx⟩:=HL.out.grows hG3;simp only [Value.slice.injEq,true_and]at hvv;obtain⟨hvv,rfl⟩:=hvv;rcases hx with h0|⟨b',off',rfl,hbw3,hx⟩
     ·omega
     simp only [Option.some.injEq,Addr.mk.injEq,and_true]at hvv;obtain⟨rfl,rfl⟩:=hvv;obtain⟨uk,hsk⟩:=hx k hkl;obtain⟨ui,hsi⟩:=hx i hii;have x0:=hsi.nm;rw [HNM.out]at x0;obtain⟨-,y1,y2,y3,y4,y5,y6,hrk⟩:=hsk;obtain⟨ka,kc,rfl⟩:=hrk.form0;generalize(ls.getD k default).2=ek at *;have HRK:=zh hrk;have HM2:=zh (fun w' (hg:W3.Grows w')=>wN (fun _=>True) nm ek _ w' (HRK.out.grows hg));unfold exV at HM2;have e1:(k:Int)<(ls.length:Int):=by omega
     have e0:(0:Int)<=(k:Int):=by omega
     have HSU:=zh hsuc;have HKI:=zh hki;have HKL:=zh hkl;clear hsi hrk hsuc hx hB3 hblk hki hkl hk hG3;generalize hq2:bT nm ek=q2 at *;generalize M.getD k false=mk at *;cases nb
     ·cases mk
      focus
       go_wp2_with fail
      rotate_left
      focus
       go_wp2_with fail
      rotate_left
      all_goals
       apply fE 26 zf zf;simp only [take_succ_cons,take_zero];repeat(go_big_quiet_step ((go_at_call 76;exact Calls.quietG (HM2.out _ af))))
       refine wpQuiet_nil ?_;intro _ hw';obtain⟨⟨gb,gd⟩,hw''⟩:=hw';subst hw'';simp only [drop_succ_cons,drop_zero]
       go_wp2_with fail
       go_roundw
       case rel=>exact⟨k+1,_,by have:=HKI.out;omega,HKL.out,by go_num,HSU,by have:=HB3.out;(exact ag),by first|(rw [World.heap_grow _ _ _ zp,<-pQ];exact Joins.block_setCell HBK3.out _)|(rw [<-pQ];exact Joins.block_setCell ((World.heap_grow _ _ _ hbs).trans HBK3.out) _)⟩
       case measure=>simp [intOf];have:=HKL.out;omega
     ·go_wp2_with fail
      apply fE 26 zf zf;simp only [take_succ_cons,take_zero];repeat(go_big_quiet_step ((go_at_call 76;exact Calls.quietG (HM2.out _ af))))
      refine wpQuiet_nil ?_;intro _ hw';obtain⟨⟨gb,gd⟩,hw''⟩:=hw';subst hw'';simp only [drop_succ_cons,drop_zero]
      go_wp2_with fail
      go_roundw
      case rel=>exact⟨k+1,_,by have:=HKI.out;omega,HKL.out,by go_num,HSU,by have:=HB3.out;(exact ag),by first|(rw [World.heap_grow _ _ _ zp,<-pQ];exact Joins.block_setCell HBK3.out _)|(rw [<-pQ];exact Joins.block_setCell ((World.heap_grow _ _ _ hbs).trans HBK3.out) _)⟩
      case measure=>simp [intOf];have:=HKL.out;omega
    ·obtain rfl:k=ls.length:=by omega
     have HN2:Hid (jD e ls i (bQ e ls f)=nb):=zh (HF1.out.symm.trans HN.out);have HF3:=HF2;rw [HN2.out]at HF3;clear HF2 HN hB3 hblk
     go_wp2_with fail
     go_roundw
     case rel=>exact⟨f+1,_,HLT.out,by have:=HI.out;first|(congr 1;omega)|(simp;omega),by rw [length_set];exact HML.out,HF3,HB3.out,HBK3.out⟩
     case measure=>first|(simp [intOf];done)|(simp [intOf];omega)
  ·obtain rfl:f=ls.length:=by omega
   have hz:(ls.length:Int)-1-ls.length= -1:=by omega
   rw [hz];have HMK:Hid (∀k,k<ls.length->M.getD k false=(aA e ls).contains k):=zh (fun k hk=>hMk.out k ze hk);have HML:=zh hM;have HFL:Hid (fl M ls.length=aA e ls):=zh (Qm hMk.out);clear hz hB hblk hMk hM
   go_wp2_with fail
   go_loopw [8,9] (fun v8 v9 wr=>∃(k:Nat) (vb:Value),vb=v8/\k<=ls.length/\v9= .int .i64 k/\Below (w.heap.size+1) ((w.alloc (.cells #[.int .i64 e.op,.int .i64 e.num,.int .i64 e.den,.int .i64 e.dim,.string e.name,.slice a e.args.length cap] 51))) wr/\wr.heap[w.heap.size+1]? =some (.cells (bbs M) 4 (0,0))/\wr.ownsRow (w.heap.size+2) 3 1 vb (fl M k).length ((fl M k).map fun(i:Nat)=>.int .i64 i)) (fun _ v9 _=>ls.length-(intOf v9).toNat)
   case atStart=>exact⟨0,_,rfl,by omega,rfl,HB.out,HBK.out,World.ownsRow_nil _ _ _ _⟩
   case round=>
    obtain⟨k,vb,rfl,hk,rfl,hB3,hblk,hown⟩:=hrel;have HB3:=zh hB3;have HBK3:=zh hblk;have HO3:=zh hown;have hbs3:w.heap.size+1<wr.heap.size:=(Array.getElem?_eq_some_iff.1 hblk).1;by_cases hkl:k<ls.length
    ·have c0:wr.cell? ⟨w.heap.size+1,k,none⟩=some (.bool (M.getD k false)):=by rw [cell_of_row wr _ _ _ _ _ hblk,nI _ (by have:=HML.out;omega)]
     have e1:(k:Int)<(ls.length:Int):=by omega
     have e0:(0:Int)<=(k:Int):=by omega
     have HKL:=zh hkl;have HN:=zh (NU M k);have hfl:=Ql M k;clear hB3 hblk hown hkl hk;cases hm:M.getD k false
     ·rw [hm]at c0 HN;have HN:Hid (fl M (k+1)=fl M k):=HN;clear hm
      go_wp2_with fail
      go_roundw
      case rel=>exact⟨k+1,_,rfl,HKL.out,by go_num,HB3.out,HBK3.out,by rw [HN.out];exact HO3.out⟩
      case measure=>simp [intOf];have:=HKL.out;omega
     ·rw [hm]at c0 HN;have HN:Hid (fl M (k+1)=fl M k++[k]):=HN;clear hm;have hk10:k<=1000:=by have:=HKL.out;omega
      go_wp2_with (at_builtin;refine wpList_append_own _ rfl _ _ 24 rfl (w.heap.size+2) 3 i0 (.int .i64 0) 1 8 underlying24 hi hz0 hz1 hz2 rfl zo _ _ _ rfl (HO3.out.alloc _) ⟨wr.heap.size,0,none⟩ 1 1 [.int .i64 k] rfl rfl ?c1 ?c2 ?c3 ?c4 ?c5 ?_)
      try(case c1=>exact aK _ [.int .i64 k] _ _ zg)
      case c2=>first|rfl|(intro u hu;simp at hu;subst hu;rfl)
      case c3=>unfold maxLen;omega
      case c4=>omega
      case c5=>first|omega|(simp;omega)
      intro v' w1 hown' hgrow _;have HB4:=zh ((show Below (w.heap.size+1) ((w.alloc (.cells #[.int .i64 e.op,.int .i64 e.num,.int .i64 e.den,.int .i64 e.dim,.string e.name,.slice a e.args.length cap] 51))) _ from by have:=HB3.out;(exact ag)).grown hgrow zp (fun k hk=>by have:=(HO3.out.lt k hk).1;omega));have HBK4:Hid (w1.heap[w.heap.size+1]? =some (.cells (bbs M) 4 (0,0))):=zh ((hgrow.block (w.heap.size+1) zp (fun e=>by have:=(HO3.out.lt _ e.symm).1;omega)).trans ((Below.heap_alloc _ _ _ hbs3).trans HBK3.out));have HO4:=zh hown';clear hown' hgrow
      go_wp2_with fail
      go_roundw
      case rel=>exact⟨k+1,_,rfl,HKL.out,by go_num,HB4.out,HBK4.out,by rw [HN.out,length_append,map_append];exact HO4.out⟩
      case measure=>simp [intOf];have:=HKL.out;omega
    ·obtain rfl:k=ls.length:=by omega
     rw [HFL.out]at HO3;have hll:=jh (e:=e) (ls:=ls) ls.length;have HIN:Hid (ay wr vb ((aA e ls).map Int.ofNat)):=zh (ay.of_nats HO3.out (by unfold aA;omega) (fun k hk=>by have:=fO ls.length (Nat.le_refl _) k hk;omega));have HNB:Hid (∀k,vb.ownBlock=some k->w.heap.size<=k):=zh (fun k hk=>by have:=(HO3.out.lt k hk).1;omega);clear hB3 hblk hown
     go_wp2_with fail
     go_returns
     exact⟨⟨_,rfl,HIN.out,HNB.out⟩,.of_below ((((Below.refl _ _).alloc (Nat.le_refl _) _)).trans (HB3.out.mono ze))⟩
end Go.Proofs.YtlheailebbngiaaGreatDoor
