import Derived.Test.YtfoefpoaomepbaaGreatDoorGTwistW
import Derived.Test.YtfoefpoaomepbaaGreatDoorGSyL
import Derived.Test.YtfoefpoaomepbaaGreatDoorGTyL
set_option linter.all false
set_option maxHeartbeats 16000000
set_option maxRecDepth 1000000
namespace Go.Proofs.YtfoefpoaomepbaaGreatDoor
open Go.Proofs.Tryz Tryz List
open Go.RowKit
def usV(e:Ex)(ls:List (ByteArray × Ex))(f:Nat):List Value:=(bz e ls f).reverse.map fun(i:Nat)=>.int .i64 i
def lu(e:Ex)(ls:List (ByteArray × Ex))(i:Nat)(u:List Nat)(j:Nat):Bool:=aP (ls.getD i default).1 e || (u.take j).any fun k=>aP (ls.getD i default).1 (ls.getD k default).2
theorem Eg(e:Ex)(ls:List (ByteArray × Ex))(i:Nat)(u:List Nat):lu e ls i u 0=aP (ls.getD i default).1 e:=by simp [lu]
theorem Eh{e:Ex}{ls:List (ByteArray × Ex)}{i:Nat}{u:List Nat}{j:Nat}(h:j<u.length):lu e ls i u (j+1)=(lu e ls i u j || aP (ls.getD i default).1 (ls.getD (u.getD j 0) default).2):=by
 unfold lu;rw [take_succ_eq_append_getElem h,any_append,Bool.or_assoc];simp [getD_eq_getElem?_getD,getElem?_eq_getElem h]
theorem IL(e:Ex)(ls:List (ByteArray × Ex))(i:Nat)(u:List Nat):lu e ls i u.reverse u.reverse.length=ja e ls i u:=by
 unfold lu ja;rw [take_length,any_reverse]
theorem Iw{w:World}{base:Nat}{e:TypeId}{size:Nat}{v:Value}{n:Nat}{xs:List Value}(h:w.ownsRow base e size v n xs){w':World}(hg:w.Grows w'):w'.ownsRow base e size v n xs:=
 gu h fun k _ hk=>hg.below.block k hk
theorem QJ:(prog.info? 3).map (fun i=>(i.zero,i.size,i.bytes))=some (some (.int .i64 0),1,8):=by kernel_rfl
theorem tO{w:World}{base:Nat}{v:Value}{u:List Nat}(h:w.ownsRow base 3 1 v u.length (u.map fun(i:Nat)=>.int .i64 i)):∃a cap,v= .slice a u.length cap/\(u.length=0\/∃g cur,a=some ⟨g,0,none⟩/\base<=g/\w.heap[g]? =some (.cells cur 3 (0,0))/\∀j,j<u.length->w.cell? ⟨g,j,none⟩=some (.int .i64 (u.getD j 0:Nat))):=by
 obtain⟨-,⟨rfl,h0⟩|⟨g,cap,cur,rfl,hb,hg,h2,h3,h4,h5⟩⟩:=id h
 ·exact⟨none,0,by rw [h0],.inl h0⟩
 ·refine⟨_,cap,rfl,.inr ⟨g,cur,rfl,hb,hg,fun i hi=>?_⟩⟩;rw [h.cellAt i zb,getElem?_map,getElem?_eq_getElem hi,getD_eq_getElem?_getD,getElem?_eq_getElem hi];rfl
theorem aD.of_nats{w:World}{base:Nat}{v:Value}{u:List Nat}(h:w.ownsRow base 3 1 v u.length (u.map fun(i:Nat)=>.int .i64 i))(hl:u.length<=1000)(hr:∀k∈u,k<=1000):aD w v (u.map Int.ofNat):=by
 obtain⟨a,cap,rfl,hc⟩:=tO h;refine⟨by simp;omega,fun z hz=>?_,a,cap,by simp,hc.imp zd ?_⟩
 ·obtain⟨k,hk,rfl⟩:=mem_map.1 hz;have:=hr k hk;simp only [Int.ofNat_eq_natCast];omega
 ·rintro⟨g,cur,rfl,-,hg,hx⟩;refine⟨g,0,rfl,(Array.getElem?_eq_some_iff.1 hg).1,fun i hi=>?_⟩;rw [length_map]at hi;rw [Nat.zero_add,hx i hi,getD_eq_getElem?_getD,getD_eq_getElem?_getD,getElem?_map,getElem?_eq_getElem hi];rfl
theorem KV{w:World}{g q uc:Nat}{cur:Array Value}{U:List Nat}(hb:w.heap[g]? =some (.cells cur 3 (0,0)))(hc:∀j,j<U.length->w.cell? ⟨g,j,none⟩=some (.int .i64 (U.getD j 0:Nat)))(hU:U.length<=1000)(hr:∀k∈U,k<=1000) :
 aD ((w.drewN q).setCells g 0 (((U.map Int.ofNat).take U.length).reverse.map (Value.int .i64))) (.slice (some ⟨g,0,none⟩) U.length uc) (U.reverse.map Int.ofNat):=by
 have e:((U.map Int.ofNat).take U.length).reverse.map (Value.int .i64)=U.reverse.map fun(k:Nat)=>Value.int .i64 k:=by rw [take_of_length_le zd,<-map_reverse,map_map];rfl
 rw [e];refine⟨by simp;omega,fun z hz=>?_,_,uc,by simp,.inr ⟨g,0,rfl,(Array.getElem?_eq_some_iff.1 (dQ (t:=3) (U.reverse.map fun(k:Nat)=>Value.int .i64 k) 0 (w.drewN q) cur hb)).1,fun i hi=>?_⟩⟩
 ·obtain⟨k,hk,rfl⟩:=mem_map.1 hz;have:=hr k (mem_reverse.1 hk);simp only [Int.ofNat_eq_natCast];omega
 ·have hi':i<U.length:=by simpa using hi
  rw [World.cell?_setCells_in g (U.reverse.map fun(k:Nat)=>Value.int .i64 k) 0 (w.drewN q) (fun j hj=>by
   rw [Nat.zero_add,show(w.drewN q).cell? ⟨g,j,none⟩=w.cell? ⟨g,j,none⟩from rfl,hc j ye];rfl) i (by simpa using hi'),getD_eq_getElem?_getD,getElem?_eq_getElem (by simpa using hi')]
  simp
def markT(e:Ex)(ls:List (ByteArray × Ex))(i:Nat)(M:List Bool)(a k:Nat):Bool:=aP (ls.getD i default).1 e || (range' a (k-a)).any fun t=>M.getD t false&&aP (ls.getD i default).1 (ls.getD t default).2
theorem Es(e:Ex)(ls:List (ByteArray × Ex))(i:Nat)(M:List Bool)(a:Nat):markT e ls i M a a=aP (ls.getD i default).1 e:=by simp [markT]
theorem Et{e:Ex}{ls:List (ByteArray × Ex)}{i:Nat}{M:List Bool}{a k:Nat}(h:a<=k):markT e ls i M a (k+1)=(markT e ls i M a k || M.getD k false&&aP (ls.getD i default).1 (ls.getD k default).2):=by
 unfold markT;rw [show k+1-a=(k-a)+1 by omega,range'_concat,any_append,Bool.or_assoc];simp [show a+(k-a)=k by omega]
theorem J7{u:List Nat}{a n:Nat}{p:Nat->Bool}(hu:∀k∈u,a<=k/\k<n)(M:List Bool)(hM:∀k,a<=k->k<n->M.getD k false=u.contains k):((range' a (n-a)).any fun t=>M.getD t false&&p t)=u.any p:=by
 rw [Bool.eq_iff_iff,any_eq_true,any_eq_true];constructor
 ·rintro⟨t,ht,hp⟩;rw [mem_range'_1]at ht;rw [hM t ht.1 zb,Bool.and_eq_true]at hp;exact⟨t,contains_iff_mem.1 hp.1,hp.2⟩
 ·rintro⟨t,ht,hp⟩;have h:=hu t ht;refine⟨t,mem_range'_1.2 ⟨h.1,by omega⟩, ?_⟩;rw [hM t h.1 h.2,Bool.and_eq_true];exact⟨contains_iff_mem.2 ht,hp⟩
theorem IU{e:Ex}{ls:List (ByteArray × Ex)}{f i:Nat}(hf:f<ls.length)(hi:i=ls.length-1-f){M:List Bool}(hM:∀k,ls.length-f<=k->k<ls.length->M.getD k false=(bz e ls f).contains k) :
 markT e ls i M (i+1) ls.length=ja e ls i (bz e ls f):=by
 unfold markT ja;rw [J7 (u:=bz e ls f) (fun k hk=>by have:=eX f zb k hk;omega) M (fun k h1 h2=>hM k zb h2)]
theorem Er{e:Ex}{ls:List (ByteArray × Ex)}{f i:Nat}(hf:f<ls.length)(hi:i=ls.length-1-f){M:List Bool}(hl:M.length=ls.length)(hM:∀k,ls.length-f<=k->k<ls.length->M.getD k false=(bz e ls f).contains k) :
 ∀k,ls.length-(f+1)<=k->k<ls.length->(M.set i (ja e ls i (bz e ls f))).getD k false=(bz e ls (f+1)).contains k:=by
 intro k h1 h2;by_cases hk:k=i
 ·subst hk;rw [getD_eq_getElem?_getD,getElem?_set_self zb];have:=iW (e:=e) (ls:=ls) f zb;rw [show ls.length-(f+1)=k by omega]at this;rw [this];rfl
 ·rw [getD_eq_getElem?_getD,getElem?_set_ne (Ne.symm hk),<-getD_eq_getElem?_getD,hM k zb h2];have:=jT (e:=e) (ls:=ls) (i:=k) f 1 zb zb h2;rw [Bool.eq_iff_iff,contains_iff_mem,contains_iff_mem,this]
def fl(M:List Bool)(k:Nat):List Nat:=(List.range k).filter fun t=>M.getD t false
theorem PH(M:List Bool)(k:Nat):fl M (k+1)=match M.getD k false with|true=>fl M k++[k]|false=>fl M k:=by
 unfold fl;rw [range_succ,filter_append];cases h:M.getD k false<;>(rw [getD_eq_getElem?_getD]at h;simp [h])
theorem RJ(M:List Bool)(k:Nat):(fl M k).length<=k:=by
 unfold fl;have:=length_filter_le (fun t=>M.getD t false) (List.range k)
 rwa [length_range]at this
theorem q8{e:Ex}{ls:List (ByteArray × Ex)}:∀f,f<=ls.length->bz e ls f=(range' (ls.length-f) f).filter fun t=>(usesL e ls).contains t
 |0,_=>by simp [bz]
 |f+1,hf=>by
  have hm:(usesL e ls).contains (ls.length-(f+1))=ja e ls (ls.length-(f+1)) (bz e ls f):=by
   rw [<-iW f hf,Bool.eq_iff_iff,contains_iff_mem,contains_iff_mem];unfold usesL;have:=jT (e:=e) (ls:=ls) (i:=ls.length-(f+1)) (f+1) (ls.length-(f+1)) zb zb zb;rw [show f+1+(ls.length-(f+1))=ls.length by omega]at this;exact this
  rw [range'_succ,filter_cons,hm,show ls.length-(f+1)+1=ls.length-f by omega,<-q8 f zb,bz]
theorem RL{e:Ex}{ls:List (ByteArray × Ex)}{M:List Bool}(h:∀k,ls.length-ls.length<=k->k<ls.length->M.getD k false=(bz e ls ls.length).contains k):fl M ls.length=usesL e ls:=by
 have:=q8 (e:=e) (ls:=ls) ls.length (Nat.le_refl _);unfold fl usesL;unfold usesL at this;rw [this,Nat.sub_self,<-range_eq_range'];exact filter_congr fun t ht=>h t zb (mem_range.1 ht)
def bbs(M:List Bool):Array Value:=(M.map Value.bool).toArray
theorem sH(M:List Bool){k:Nat}(h:k<M.length):(bbs M)[k]? =some (.bool (M.getD k false)):=by
 simp [bbs,getD_eq_getElem?_getD,getElem?_eq_getElem h]
theorem GX(M:List Bool)(k:Nat)(b:Bool):(bbs M).setIfInBounds k (.bool b)=bbs (M.set k b):=by
 simp [bbs,map_set]
theorem Nb(n:Nat):madeCells #[Value.bool false] n=bbs (List.replicate n false):=by
 unfold bbs madeCells;rw [map_replicate];apply Array.ext';rw [toList_toArray];refine ext_getElem zd fun i h1 h2=>?_;simp [Nat.mod_one]
theorem Rm:(prog.info? 4).map (fun i=>(i.zero,i.size,i.bytes))=some (some (.bool false),1,1):=by kernel_rfl
theorem pW(M:List Bool)(i:Nat)(a b:Bool):(bbs (M.set i a)).setIfInBounds i (.bool b)=bbs (M.set i b):=by rw [GX,set_set]
theorem Oa{M:List Bool}{i k:Nat}{b:Bool}(h:k≠i):(M.set i b).getD k false=M.getD k false:=by
 rw [getD_eq_getElem?_getD,getElem?_set_ne (Ne.symm h),<-getD_eq_getElem?_getD]
theorem set_self{M:List Bool}{i:Nat}{b:Bool}(h:i<M.length):(M.set i b).getD i false=b:=by
 rw [getD_eq_getElem?_getD,getElem?_set_self h];rfl
theorem Uses8_any(e:Ex)(u v:Value)(ls:List (ByteArray × Ex))(w:World)(h:ax (fun _=>True) w e u)(hl:LetsAt w v ls) :
 Calls prog 21 #[exV e u,v] w fun r w'=>(∃x,r= .returned x/\aD w' x ((usesL e ls).map Int.ofNat)/\∀k,x.ownBlock=some k->w.heap.size<=k)/\w.Grows w':=by
 obtain⟨i0,hi,hz0,hz1,hz2⟩:=info_parts QJ;have HR:=yq h;have HL:=yq hl;obtain⟨hl1000,la,lc,rfl,-⟩:=hl;obtain⟨a,cap,rfl⟩:=h.form0;clear h;have hmk:=run_make_row' (P:=prog) 114 4 (.bool false) 1 underlying114 Rm rfl .i64 .i64 ls.length zb zb
 go_enter func21,ntmps21
 go_wp2_with fail
 go_loopw [6] (fun v6 wr=>∃(f:Nat) (M:List Bool),f<=ls.length/\v6= .int .i64 ((ls.length:Int)-1-f)/\M.length=ls.length/\Hid (∀k,ls.length-f<=k->k<ls.length->M.getD k false=(bz e ls f).contains k)/\Below (w.heap.size+1) ((w.alloc (.cells #[.int .i64 e.op,.int .i64 e.num,.int .i64 e.den,.int .i64 e.dim,.string e.name,.slice a e.args.length cap] 27))) wr/\wr.heap[w.heap.size+1]? =some (.cells (bbs M) 4 (0,0))) (fun v6 _=>(intOf v6+1).toNat)
 case atStart=>exact⟨0,List.replicate ls.length false,by omega,by simp,by simp,yq (fun k h1 h2=>by omega),(Below.refl _ _).alloc zd _,by rw [<-Nb];exact heap_new _ _ _ zd⟩
 case round=>
  obtain⟨f,M,hf,rfl,hM,hMk,hB,hblk⟩:=hrel;obtain⟨W1,rfl⟩:∃W1,W1=wr:=⟨_,rfl⟩;have HB:=yq hB;have hG:w.Grows W1:=.of_below ((((Below.refl _ _).alloc (Nat.le_refl _) _)).trans (hB.mono zb));have HG:=yq hG;have HBK:=yq hblk;have hbs:w.heap.size+1<W1.heap.size:=(Array.getElem?_eq_some_iff.1 hblk).1;have hbs0:w.heap.size<W1.heap.size:=by omega
  by_cases hlt:f<ls.length
  ·obtain⟨i,hi'⟩:∃i:Nat,(ls.length:Int)-1-f=i:=⟨ls.length-1-f,by omega⟩;have hii:i<ls.length:=by omega
   have HF1:=yq (IU (e:=e) (i:=i) hlt zb hMk.out);have HF2:=yq (Er (e:=e) (i:=i) hlt zb hM hMk.out)
   have bx:∀(j:Nat) (x:Value),(#[Value.int .i64 e.op,.int .i64 e.num,.int .i64 e.den,.int .i64 e.dim,.string e.name,.slice a e.args.length cap]:Array Value)[j]? =some x->W1.cell? ⟨w.heap.size,j,none⟩=some x:=fun j x hx=>by
    rw [hB.cell (p:=⟨w.heap.size,j,none⟩) zd,World.cell?_alloc_at _ _ _ _ rfl];exact hx
   have b0:=bx 0 _ rfl;have b1:=bx 1 _ rfl;have b2:=bx 2 _ rfl;have b3:=bx 3 _ rfl;have b4:=bx 4 _ rfl;have b5:=bx 5 _ rfl;clear bx;have c0:W1.cell? ⟨w.heap.size+1,i,none⟩=some (.bool (M.getD i false)):=by rw [cell_of_row W1 _ _ _ _ _ hblk];exact sH M zb
   have z0:W1.frozen? ⟨w.heap.size+1,i,none⟩=false:=Joins.unfrozen_of_block hblk i;obtain⟨-,a',c',hvv,hx⟩:=HL.out.grows hG;simp only [Value.slice.injEq,true_and]at hvv;obtain⟨rfl,rfl⟩:=hvv;rcases hx with h0|⟨b,off,rfl,hbw,hx⟩
   ·omega
   obtain⟨ui,hsl⟩:=hx i hii;have x0:=hsl.nm;have HX:=yq hx;have HRW:=yq (HR.out.grows hG);have d1:(i:Int)<(ls.length:Int):=by omega
   have d0:(0:Int)<=(i:Int):=by omega
   have HI:=yq hi';rw [hi'];have hz:Hid (markT e ls i M (i+1) (i+1)=aP (ls.getD i default).1 e):=yq (Es _ _ _ _ _);have hs:Hid (∀k,i+1<=k->markT e ls i M (i+1) (k+1)=(markT e ls i M (i+1) k || M.getD k false&&aP (ls.getD i default).1 (ls.getD k default).2)):=yq (fun k hk=>Et hk);generalize hnm:(ls.getD i default).1=nm at *;have HNM:=yq hnm;have HML:=yq hM;have HLT:=yq hlt;clear hnm hsl hx hG hB hi' hblk hM hMk hlt hf;have HM0:=yq (fun w' (hg:W1.Grows w')=>wV (fun _=>True) nm e _ w' (HRW.out.grows hg));unfold exV at HM0;generalize hq:aP nm e=q0 at *;generalize M.getD i false=m0 at *
   go_wp2_with fail
   apply eD 10 ze ze;simp only [take_succ_cons,take_zero];repeat(go_big_quiet_step ((go_at_call 50;exact Calls.quietG (HM0.out _ growsA))))
   refine wpQuiet_nil ?_;intro _ hw';obtain⟨⟨gb,gd⟩,hw''⟩:=hw';subst hw'';simp only [drop_succ_cons,drop_zero]
   go_wp2_with fail
   obtain⟨W2,hW2⟩:∃W2,W2=(W1.setCell ⟨w.heap.size+1,i,none⟩ (.bool q0)).grow gb gd:=⟨_,rfl⟩;rw [<-hW2];have HB2:Hid (Below (w.heap.size+1) ((w.alloc (.cells #[.int .i64 e.op,.int .i64 e.num,.int .i64 e.den,.int .i64 e.dim,.string e.name,.slice a e.args.length cap] 27))) W2):=yq (by rw [hW2];exact(HB.out.setCell (p:=⟨w.heap.size+1,i,none⟩) (Nat.le_refl _) _).grow zg _ _);have HC2:Hid (W2.heap[w.heap.size+1]? =some (.cells (bbs (M.set i q0)) 4 (0,0))):=yq (by rw [hW2,World.heap_grow _ _ _ zg,<-GX];exact Joins.block_setCell HBK.out _);clear hW2 b0 b1 b2 b3 b4 b5 x0 c0 z0 HM0 hbs hbs0
   go_loopw [7] (fun v7 wr=>∃(k:Nat) (nb:Bool),i+1<=k/\k<=ls.length/\v7= .int .i64 k/\Hid (markT e ls i M (i+1) k=nb)/\Below (w.heap.size+1) ((w.alloc (.cells #[.int .i64 e.op,.int .i64 e.num,.int .i64 e.den,.int .i64 e.dim,.string e.name,.slice a e.args.length cap] 27))) wr/\wr.heap[w.heap.size+1]? =some (.cells (bbs (M.set i nb)) 4 (0,0))) (fun v7 _=>ls.length-(intOf v7).toNat)
   case atStart=>exact⟨i+1,q0,by omega,by omega,by go_num,hz,HB2.out,HC2.out⟩
   case round=>
    obtain⟨k,nb,hki,hk,rfl,HN,hB3,hblk⟩:=hrel;obtain⟨W3,rfl⟩:∃W3,W3=wr:=⟨_,rfl⟩;have HB3:=yq hB3;have HBK3:=yq hblk;have hbs:w.heap.size+1<W3.heap.size:=(Array.getElem?_eq_some_iff.1 hblk).1;by_cases hkl:k<ls.length
    ·have c0:W3.cell? ⟨w.heap.size+1,i,none⟩=some (.bool nb):=by rw [cell_of_row W3 _ _ _ _ _ hblk,sH _ (by rw [length_set];have:=HML.out;omega),set_self (by have:=HML.out;omega)]
     have c1:W3.cell? ⟨w.heap.size+1,k,none⟩=some (.bool (M.getD k false)):=by rw [cell_of_row W3 _ _ _ _ _ hblk,sH _ (by rw [length_set];have:=HML.out;omega),Oa zb]
     have z0:W3.frozen? ⟨w.heap.size+1,i,none⟩=false:=Joins.unfrozen_of_block hblk i;have hsuc:=hs.out k hki;rw [HN.out]at hsuc;have hG3:w.Grows W3:=.of_below ((((Below.refl _ _).alloc (Nat.le_refl _) _)).trans (hB3.mono zb));obtain⟨-,a',c',hvv,hx⟩:=HL.out.grows hG3;simp only [Value.slice.injEq,true_and]at hvv;obtain⟨hvv,rfl⟩:=hvv;rcases hx with h0|⟨b',off',rfl,hbw3,hx⟩
     ·omega
     simp only [Option.some.injEq,Addr.mk.injEq,and_true]at hvv;obtain⟨rfl,rfl⟩:=hvv;obtain⟨uk,hsk⟩:=hx k hkl;obtain⟨ui,hsi⟩:=hx i hii;have x0:=hsi.nm;rw [HNM.out]at x0;obtain⟨-,y1,y2,y3,y4,y5,y6,hrk⟩:=hsk;obtain⟨ka,kc,rfl⟩:=hrk.form0;generalize(ls.getD k default).2=ek at *;have HRK:=yq hrk;have HM2:=yq (fun w' (hg:W3.Grows w')=>wV (fun _=>True) nm ek _ w' (HRK.out.grows hg));unfold exV at HM2;have e1:(k:Int)<(ls.length:Int):=by omega
     have e0:(0:Int)<=(k:Int):=by omega
     have HSU:=yq hsuc;have HKI:=yq hki;have HKL:=yq hkl;clear hsi hrk hsuc hx hB3 hblk hki hkl hk hG3;generalize hq2:aP nm ek=q2 at *;generalize M.getD k false=mk at *;cases nb
     ·cases mk
      focus
       go_wp2_with fail
      rotate_left
      focus
       go_wp2_with fail
      rotate_left
      all_goals
       apply eD 26 ze ze;simp only [take_succ_cons,take_zero];repeat(go_big_quiet_step ((go_at_call 50;exact Calls.quietG (HM2.out _ growsA))))
       refine wpQuiet_nil ?_;intro _ hw';obtain⟨⟨gb,gd⟩,hw''⟩:=hw';subst hw'';simp only [drop_succ_cons,drop_zero]
       go_wp2_with fail
       go_roundw
       case rel=>exact⟨k+1,_,by have:=HKI.out;omega,HKL.out,by go_num,HSU,by have:=HB3.out;(exact af),by first|(rw [World.heap_grow _ _ _ zg,<-pW];exact Joins.block_setCell HBK3.out _)|(rw [<-pW];exact Joins.block_setCell ((World.heap_grow _ _ _ hbs).trans HBK3.out) _)⟩
       case measure=>simp [intOf];have:=HKL.out;omega
     ·go_wp2_with fail
      apply eD 26 ze ze;simp only [take_succ_cons,take_zero];repeat(go_big_quiet_step ((go_at_call 50;exact Calls.quietG (HM2.out _ growsA))))
      refine wpQuiet_nil ?_;intro _ hw';obtain⟨⟨gb,gd⟩,hw''⟩:=hw';subst hw'';simp only [drop_succ_cons,drop_zero]
      go_wp2_with fail
      go_roundw
      case rel=>exact⟨k+1,_,by have:=HKI.out;omega,HKL.out,by go_num,HSU,by have:=HB3.out;(exact af),by first|(rw [World.heap_grow _ _ _ zg,<-pW];exact Joins.block_setCell HBK3.out _)|(rw [<-pW];exact Joins.block_setCell ((World.heap_grow _ _ _ hbs).trans HBK3.out) _)⟩
      case measure=>simp [intOf];have:=HKL.out;omega
    ·obtain rfl:k=ls.length:=by omega
     have HN2:Hid (ja e ls i (bz e ls f)=nb):=yq (HF1.out.symm.trans HN.out);have HF3:=HF2;rw [HN2.out]at HF3;clear HF2 HN hB3 hblk
     go_wp2_with fail
     go_roundw
     case rel=>exact⟨f+1,_,HLT.out,by have:=HI.out;first|(congr 1;omega)|(simp;omega),by rw [length_set];exact HML.out,HF3,HB3.out,HBK3.out⟩
     case measure=>first|(simp [intOf];done)|(simp [intOf];omega)
  ·obtain rfl:f=ls.length:=by omega
   have hz:(ls.length:Int)-1-ls.length= -1:=by omega
   rw [hz];have HMK:Hid (∀k,k<ls.length->M.getD k false=(usesL e ls).contains k):=yq (fun k hk=>hMk.out k zb hk);have HML:=yq hM;have HFL:Hid (fl M ls.length=usesL e ls):=yq (RL hMk.out);clear hz hB hblk hMk hM
   go_wp2_with fail
   go_loopw [8,9] (fun v8 v9 wr=>∃(k:Nat) (vb:Value),vb=v8/\k<=ls.length/\v9= .int .i64 k/\Below (w.heap.size+1) ((w.alloc (.cells #[.int .i64 e.op,.int .i64 e.num,.int .i64 e.den,.int .i64 e.dim,.string e.name,.slice a e.args.length cap] 27))) wr/\wr.heap[w.heap.size+1]? =some (.cells (bbs M) 4 (0,0))/\wr.ownsRow (w.heap.size+2) 3 1 vb (fl M k).length ((fl M k).map fun(i:Nat)=>.int .i64 i)) (fun _ v9 _=>ls.length-(intOf v9).toNat)
   case atStart=>exact⟨0,_,rfl,by omega,rfl,HB.out,HBK.out,World.ownsRow_nil _ _ _ _⟩
   case round=>
    obtain⟨k,vb,rfl,hk,rfl,hB3,hblk,hown⟩:=hrel;have HB3:=yq hB3;have HBK3:=yq hblk;have HO3:=yq hown;have hbs3:w.heap.size+1<wr.heap.size:=(Array.getElem?_eq_some_iff.1 hblk).1;by_cases hkl:k<ls.length
    ·have c0:wr.cell? ⟨w.heap.size+1,k,none⟩=some (.bool (M.getD k false)):=by rw [cell_of_row wr _ _ _ _ _ hblk,sH _ (by have:=HML.out;omega)]
     have e1:(k:Int)<(ls.length:Int):=by omega
     have e0:(0:Int)<=(k:Int):=by omega
     have HKL:=yq hkl;have HN:=yq (PH M k);have hfl:=RJ M k;clear hB3 hblk hown hkl hk;cases hm:M.getD k false
     ·rw [hm]at c0 HN;have HN:Hid (fl M (k+1)=fl M k):=HN;clear hm
      go_wp2_with fail
      go_roundw
      case rel=>exact⟨k+1,_,rfl,HKL.out,by go_num,HB3.out,HBK3.out,by rw [HN.out];exact HO3.out⟩
      case measure=>simp [intOf];have:=HKL.out;omega
     ·rw [hm]at c0 HN;have HN:Hid (fl M (k+1)=fl M k++[k]):=HN;clear hm;have hk10:k<=1000:=by have:=HKL.out;omega
      go_wp2_with (at_builtin;refine wpList_append_own _ rfl _ _ 22 rfl (w.heap.size+2) 3 i0 (.int .i64 0) 1 8 underlying22 hi hz0 hz1 hz2 rfl zf _ _ _ rfl (HO3.out.alloc _) ⟨wr.heap.size,0,none⟩ 1 1 [.int .i64 k] rfl rfl ?c1 ?c2 ?c3 ?c4 ?c5 ?_)
      try(case c1=>exact news_cells _ [.int .i64 k] _ _ zd)
      case c2=>first|rfl|(intro u hu;simp at hu;subst hu;rfl)
      case c3=>unfold maxLen;omega
      case c4=>omega
      case c5=>first|omega|(simp;omega)
      intro v' w1 hown' hgrow _;have HB4:=yq ((show Below (w.heap.size+1) ((w.alloc (.cells #[.int .i64 e.op,.int .i64 e.num,.int .i64 e.den,.int .i64 e.dim,.string e.name,.slice a e.args.length cap] 27))) _ from by have:=HB3.out;(exact af)).grown hgrow zg (fun k hk=>by have:=(HO3.out.lt k hk).1;omega));have HBK4:Hid (w1.heap[w.heap.size+1]? =some (.cells (bbs M) 4 (0,0))):=yq ((hgrow.block (w.heap.size+1) zg (fun e=>by have:=(HO3.out.lt _ e.symm).1;omega)).trans ((Below.heap_alloc _ _ _ hbs3).trans HBK3.out));have HO4:=yq hown';clear hown' hgrow
      go_wp2_with fail
      go_roundw
      case rel=>exact⟨k+1,_,rfl,HKL.out,by go_num,HB4.out,HBK4.out,by rw [HN.out,length_append,map_append];exact HO4.out⟩
      case measure=>simp [intOf];have:=HKL.out;omega
    ·obtain rfl:k=ls.length:=by omega
     rw [HFL.out]at HO3;have hll:=usesG_length (e:=e) (ls:=ls) ls.length;have HIN:Hid (aD wr vb ((usesL e ls).map Int.ofNat)):=yq (aD.of_nats HO3.out (by unfold usesL;omega) (fun k hk=>by have:=eX ls.length (Nat.le_refl _) k hk;omega));have HNB:Hid (∀k,vb.ownBlock=some k->w.heap.size<=k):=yq (fun k hk=>by have:=(HO3.out.lt k hk).1;omega);clear hB3 hblk hown
     go_wp2_with fail
     go_returns
     exact⟨⟨_,rfl,HIN.out,HNB.out⟩,.of_below ((((Below.refl _ _).alloc (Nat.le_refl _) _)).trans (HB3.out.mono zb))⟩
theorem Lp{w:World}{b b' size n:Nat}{e:TypeId}{v:Value}{xs:List Value}(hb:b'<=b)(h:w.ownsRow b e size v n xs):w.ownsRow b' e size v n xs:=by
 exact Tg
theorem rq:∀(vs:List Value) (o:Nat) (cs:Array Value),(nR cs o vs).size=cs.size
 | [],_,_=>rfl
 |v::vs,o,cs=>by rw [nR,rq vs];simp
theorem ru:∀(vs:List Value) (o:Nat) (cs:Array Value),o+vs.length<=cs.size->(nR cs o vs).toList=cs.toList.take o++vs++cs.toList.drop (o+vs.length)
 | [],o,cs,_=>by simp [nR]
 |v::vs,o,cs,h=>by
  simp only [length_cons]at h;have ho:o<cs.toList.length:=by simp;omega
  rw [nR,ru vs (o+1) _ zg,Array.toList_setIfInBounds,List.take_set,drop_set_of_lt zb,take_succ_eq_append_getElem ho,set_append_right _ _ zg];simp [show min o cs.size=o by omega,show o+1+vs.length=o+(vs.length+1)by omega]
theorem OP{W:World}{base g cap:Nat}{U:List Nat}(h:W.ownsRow base 3 1 (.slice (some ⟨g,0,none⟩) U.length cap) U.length (U.map fun(k:Nat)=>.int .i64 k))(q:Nat) :
 ((W.drewN q).setCells g 0 (((U.map Int.ofNat).take U.length).reverse.map (Value.int .i64))).ownsRow base 3 1 (.slice (some ⟨g,0,none⟩) U.length cap) U.length (U.reverse.map fun(k:Nat)=>.int .i64 k):=by
 have e:((U.map Int.ofNat).take U.length).reverse.map (Value.int .i64)=U.reverse.map fun(k:Nat)=>Value.int .i64 k:=by rw [take_of_length_le zd,<-map_reverse,map_map];rfl
 rw [e];rcases h.2 with ⟨h',_⟩|⟨g',cap',cur,h',hbg,hg,hle,hmx,hsz,htk⟩
 ·simp at h'
 simp only [Value.slice.injEq,Option.some.injEq,Addr.mk.injEq,and_true,true_and]at h';obtain⟨rfl,rfl⟩:=h';refine⟨by simp,.inr ⟨g,cap,_,rfl,hbg,dQ (t:=3) (U.reverse.map fun(k:Nat)=>Value.int .i64 k) 0 (W.drewN q) cur hg,hle,hmx,by rw [rq];exact hsz, ?_⟩⟩;rw [ru _ _ _ zg];simp
theorem p9(e:Ex)(u v:Value)(ls:List (ByteArray × Ex))(w:World)(h:ax (fun _=>True) w e u)(hl:LetsAt w v ls) :
 Calls prog 47 #[exV e u,v] w fun r w'=>(∃x,r= .returned x/\aD w' x ((usesL e ls).map Int.ofNat)/\w'.ownsRow w.heap.size 3 1 x (usesL e ls).length ((usesL e ls).map fun(k:Nat)=>.int .i64 k))/\w.Grows w':=by
 obtain⟨i0,hi,hz0,hz1,hz2⟩:=info_parts QJ;have HR:=yq h;have HL:=yq hl;obtain⟨hl1000,la,lc,rfl,-⟩:=hl;obtain⟨a,cap,rfl⟩:=h.form0;clear h
 go_enter func47,ntmps47
 go_wp2_with fail
 go_loopw [5,6] (fun v5 v6 wr=>∃(f:Nat) (vb:Value),vb=v5/\f<=ls.length/\v6= .int .i64 ((ls.length:Int)-1-f)/\Below (w.heap.size+1) ((w.alloc (.cells #[.int .i64 e.op,.int .i64 e.num,.int .i64 e.den,.int .i64 e.dim,.string e.name,.slice a e.args.length cap] 27))) wr/\wr.ownsRow (w.heap.size+1) 3 1 vb (bz e ls f).length (usV e ls f)) (fun _ v6 _=>(intOf v6+1).toNat)
 case atStart=>exact⟨0,_,rfl,by omega,by simp,.refl _ _,World.ownsRow_nil _ _ _ _⟩
 case round=>
  obtain⟨f,vb,rfl,hf,rfl,hB,hown⟩:=hrel;obtain⟨W1,rfl⟩:∃W1,W1=wr:=⟨_,rfl⟩;have HB:=yq hB;have hG:w.Grows W1:=.of_below ((((Below.refl _ _).alloc (Nat.le_refl _) _)).trans (hB.mono zb));have HG:=yq hG;have HO:=yq hown;have hbs:w.heap.size<W1.heap.size:=by have:=hB.size;simp at this;omega
  generalize hU:(bz e ls f).reverse=U at *;have hUl:(bz e ls f).length=U.length:=by rw [<-hU,length_reverse]
  have hU10:U.length<=1000:=by have:=usesG_length (e:=e) (ls:=ls) f;omega
  have hUm:∀k∈U,k<ls.length:=fun k hk=>(eX f hf k (by rw [<-hU,mem_reverse]at hk;exact hk)).2;have hUV:usV e ls f=U.map fun(i:Nat)=>.int .i64 i:=by unfold usV;rw [hU]
  rw [hUl,hUV]at hown HO;by_cases hlt:f<ls.length
  ·obtain⟨i,hi'⟩:∃i:Nat,(ls.length:Int)-1-f=i:=⟨ls.length-1-f,by omega⟩;have hii:i<ls.length:=by omega
   have HF1:Hid (bz e ls (f+1)=if ja e ls i (bz e ls f)then i::bz e ls f else bz e ls f):=yq (by rw [bz,show ls.length-(f+1)=i by omega]);have HNB:Hid (lu e ls i U U.length=ja e ls i (bz e ls f)):=yq (by rw [<-hU];exact IL _ _ _ _)
   have bx:∀(j:Nat) (x:Value),(#[Value.int .i64 e.op,.int .i64 e.num,.int .i64 e.den,.int .i64 e.dim,.string e.name,.slice a e.args.length cap]:Array Value)[j]? =some x->W1.cell? ⟨w.heap.size,j,none⟩=some x:=fun j x hx=>by
    rw [hB.cell (p:=⟨w.heap.size,j,none⟩) zd,World.cell?_alloc_at _ _ _ _ rfl];exact hx
   have b0:=bx 0 _ rfl;have b1:=bx 1 _ rfl;have b2:=bx 2 _ rfl;have b3:=bx 3 _ rfl;have b4:=bx 4 _ rfl;have b5:=bx 5 _ rfl;clear bx;obtain⟨-,a',c',hvv,hx⟩:=HL.out.grows hG;simp only [Value.slice.injEq,true_and]at hvv;obtain⟨rfl,rfl⟩:=hvv;rcases hx with h0|⟨b,off,rfl,hbw,hx⟩
   ·omega
   obtain⟨ui,hsl⟩:=hx i hii;have x0:=hsl.nm;have HX:=yq hx;have HRW:=yq (HR.out.grows hG);have d1:(i:Int)<(ls.length:Int):=by omega
   have d0:(0:Int)<=(i:Int):=by omega
   have HI:=yq hi';rw [hi'];obtain⟨ua,uc,rfl,hur⟩:=tO hown;have hz:Hid (lu e ls i U 0=aP (ls.getD i default).1 e):=yq (Eg _ _ _ _);have hs:Hid (∀j,j<U.length->lu e ls i U (j+1)=(lu e ls i U j || aP (ls.getD i default).1 (ls.getD (U.getD j 0) default).2)):=yq (fun j hj=>Eh hj);have HUR:=yq hur;have HUM:=yq hUm;have HUL:=yq hUl;have HU:=yq hU;have HUV:=yq hUV;generalize hnm:(ls.getD i default).1=nm at *;have HNM:=yq hnm;clear hnm;clear hsl hx hur hUm hUl hU hUV hown hG hB hi';have HM0:=yq (fun w' (hg:W1.Grows w')=>wW (fun _=>True) nm e _ w' (HRW.out.grows hg));unfold exV at HM0;generalize hq:aP nm e=q0 at *
   go_wp2_with fail
   refine dO ze ze ?_;repeat(go_big_quiet_step ((go_at_call 105;exact Calls.quietG (HM0.out _ growsA))))
   refine wpQuiet_nil ?_;intro _ hw';obtain⟨⟨gb,gd⟩,hw''⟩:=hw';subst hw''
   go_wp2_with fail
   obtain⟨W2,hW2⟩:∃W2,W2=W1.grow gb gd:=⟨_,rfl⟩;rw [<-hW2];have HW2:=yq hW2;have HG2:Hid (W1.Grows W2):=yq (hW2 ▸ ⟨_,_,rfl⟩);clear hW2 b0 b1 b2 b3 b4 b5 x0
   go_loopw [7,26] (fun v7 v26 wr=>∃(j:Nat) (nb:Bool),j<=U.length/\v26= .int .i64 j/\v7= .bool nb/\Hid (lu e ls i U j=nb)/\W2.Grows wr) (fun _ v26 _=>U.length-(intOf v26).toNat)
   case atStart=>exact⟨0,_,by omega,rfl,rfl,hz,.refl _⟩
   case round=>
    obtain⟨j,nb,hj,rfl,rfl,HN,hG3⟩:=hrel;have HG4:=yq hG3;have HG3:Hid (W1.Grows wr):=yq (gqq HG2.out hG3);clear hG3;by_cases hjl:j<U.length
    ·rcases HUR.out with h0|⟨g,cur,rfl,-,hg,hgx⟩
     ·omega
     have hg:=(Array.getElem?_eq_some_iff.1 hg).1;have y0:=(HG3.out.below.cell (p:=⟨g,j,none⟩) (by exact hg)).trans (hgx j hjl);have hsz:=HG3.out.below.size;have hsuc:=hs.out j hjl;rw [HN.out]at hsuc;have hk:=HUM.out (U.getD j 0) (by rw [getD_eq_getElem?_getD,getElem?_eq_getElem hjl];exact getElem_mem hjl);generalize U.getD j 0=k at *;obtain⟨uk,hsk⟩:=HX.out k hk;obtain⟨ui,hsi⟩:=HX.out i hii;have hsk:=hsk.same HG3.out hbw;have hsi:=hsi.same HG3.out hbw;generalize(ls.getD k default).2=ek at *;obtain⟨-,z1,z2,z3,z4,z5,z6,hrk⟩:=hsk;have x0:=hsi.nm;rw [HNM.out]at x0;have hbw2:b<wr.heap.size:=by omega
     have hg2:g<wr.heap.size:=by omega
     obtain⟨ka,kc,rfl⟩:=hrk.form0;have HRK:=yq hrk;have e1:(k:Int)<(ls.length:Int):=by omega
     have e0:(0:Int)<=(k:Int):=by omega
     have f1:(j:Int)<(U.length:Int):=by omega
     have f0:(0:Int)<=(j:Int):=by omega
     have HSU:=yq hsuc;have HJL:=yq hjl;clear hsi hrk hsuc hk hgx hjl hj HRW;have HM2:=yq (fun w' (hg:wr.Grows w')=>wW (fun _=>True) nm ek _ w' (HRK.out.grows hg));unfold exV at HM2;generalize hq2:aP nm ek=q2 at *;cases nb
     focus
      go_wp2_with fail
      refine dO ze ze ?_;repeat(go_big_quiet_step ((go_at_call 105;exact Calls.quietG (HM2.out _ growsA))))
     rotate_left
     focus
      go_wp2_with fail
      refine dO ze ze ?_;repeat(go_big_quiet_step (fail))
     rotate_left
     all_goals
      refine wpQuiet_nil ?_;intro _ hw';obtain⟨⟨gb,gd⟩,hw''⟩:=hw';subst hw''
      go_wp2_with fail
      go_roundw
      case rel=>exact⟨j+1,_,by have:=HJL.out;omega,by go_num,rfl,yq (by rw [HSU.out];first|rfl|simp),gqq HG4.out growsA⟩
      case measure=>simp [intOf];have:=HJL.out;omega
    ·obtain rfl:j=U.length:=by omega
     have HN2:Hid (ja e ls i (bz e ls f)=nb):=yq (HNB.out.symm.trans HN.out);have HO3:=yq (Iw HO.out HG3.out);have HB3:=yq (HB.out.trans (HG3.out.below.mono zb));have HG5:=yq (gqq HG.out HG3.out);have HLT:=yq hlt;have hbs2:w.heap.size+1<=wr.heap.size:=by have:=HG3.out.below.size;omega
     clear HN HG3 HG4 HRW hlt hj;cases nb
     ·have HV:Hid (bz e ls (f+1)=bz e ls f):=yq (by rw [HF1.out,HN2.out];rfl)
      go_wp2_with fail
      go_roundw
      case rel=>exact⟨f+1,_,rfl,HLT.out,by have:=HI.out;first|(congr 1;omega)|(simp;omega),by have:=HB3.out;(exact af),by unfold usV;rw [HV.out,HUL.out,HU.out];exact HO3.out⟩
      case measure=>first|(simp [intOf];done)|(simp [intOf];omega)
     ·have HV:Hid (bz e ls (f+1)=i::bz e ls f):=yq (by rw [HF1.out,HN2.out];rfl)
      go_wp2_with (at_builtin;refine wpList_append_own _ rfl _ _ 22 rfl (w.heap.size+1) 3 i0 (.int .i64 0) 1 8 underlying22 hi hz0 hz1 hz2 rfl zf _ _ _ rfl (HO3.out.alloc _) ⟨wr.heap.size,0,none⟩ 1 1 [.int .i64 i] rfl rfl ?c1 ?c2 ?c3 ?c4 ?c5 ?_)
      case c1=>exact news_cells _ [.int .i64 i] _ _ zd
      case c2=>intro u hu;simp at hu;subst hu;rfl
      case c3=>unfold maxLen;omega
      case c4=>omega
      case c5=>simp;omega
      intro v' w1 hown' hgrow _;have HB4:=yq ((show Below (w.heap.size+1) ((w.alloc (.cells #[.int .i64 e.op,.int .i64 e.num,.int .i64 e.den,.int .i64 e.dim,.string e.name,.slice a e.args.length cap] 27))) _ from by have:=HB3.out;(exact af)).grown hgrow zg (fun k hk=>(HO3.out.lt k hk).1));have HO4:=yq hown';clear hown' hgrow
      go_wp2_with fail
      go_roundw
      case rel=>exact⟨f+1,_,rfl,HLT.out,by have:=HI.out;first|(congr 1;omega)|(simp;omega),HB4.out,by unfold usV;rw [HV.out,reverse_cons,HU.out,length_cons,HUL.out,map_append];exact HO4.out⟩
      case measure=>first|(simp [intOf];done)|(simp [intOf];omega)
  ·obtain rfl:f=ls.length:=by omega
   have hz:(ls.length:Int)-1-ls.length= -1:=by omega
   rw [hz];have HUM:Hid (∀k∈U,k<ls.length):=yq hUm;have HF:Hid (usesL e ls=U.reverse):=yq (by unfold usesL;rw [<-hU,reverse_reverse]);have HOX:=yq (Lp (show w.heap.size<=w.heap.size+1 by omega) hown);obtain⟨ua,uc,rfl,hur⟩:=tO hown;clear hz hown hUm hU hUl hUV;rcases hur with h0|⟨g,cur,rfl,hgb,hg,hgx⟩
   ·have hUn:U= []:=eq_nil_of_length_eq_zero h0;subst hUn;simp only [length_nil]
    go_wp2_with (go_at_call 106;refine gw (slices_Reverse_int_empty _ _ _) ?_)
    go_returns
    exact⟨⟨_,rfl,by rw [HF.out];exact⟨by simp,by simp,_,_,rfl,.inl rfl⟩,by rw [HF.out];exact HOX.out⟩,HG.out⟩
   ·have HIR:=yq (fun q=>KV (q:=q) (uc:=uc) hg hgx hU10 (fun k hk=>by have:=HUM.out k hk;omega))
    have HRV:=yq (slices_Reverse_int_cells g 0 U.length uc (U.map Int.ofNat) W1 zd zb (fun j hj=>by
     have hj':j<U.length:=by simpa using hj
     rw [Nat.zero_add,hgx j hj',getD_eq_getElem?_getD,getD_eq_getElem?_getD,getElem?_map,getElem?_eq_getElem hj'];rfl) (fun j hj=>Joins.unfrozen_of_block hg _))
    clear hgx
    go_wp2_with (go_at_call 106;refine HRV.out.mono ?_;rintro e' w' ⟨rfl,q,rfl⟩;have HI2:=yq (HIR.out q);have HO2:=yq (OP HOX.out q);have HB2:=yq (below_setCells (show w.heap.size<=g by omega) (((U.map Int.ofNat).take U.length).reverse.map (Value.int .i64)) 0 (W1.drewN q) ((hG.below).drewN q));generalize(W1.drewN q).setCells g 0 (((U.map Int.ofNat).take U.length).reverse.map (Value.int .i64))=W2 at *)
    go_returns
    exact⟨⟨_,rfl,by rw [HF.out];exact HI2.out,by rw [HF.out,length_reverse];exact HO2.out⟩,.of_below HB2.out⟩
theorem Gg{w:World}{B n:Nat}{g cap:Nat}{xs:List Int}(h:w.ownsRow B 3 1 (.slice (some ⟨g,0,none⟩) n cap) n (xs.map (Value.int .i64)))(j:Nat)(hj:j<xs.length):w.cell? ⟨g,0+j,none⟩=some (.int .i64 (xs.getD j 0)):=by
 have hn:xs.length=n:=by have:=h.1;simpa using this
 rw [Nat.zero_add,h.cellAt j zb,getElem?_map,getD_eq_getElem?_getD,getElem?_eq_getElem hj];rfl
theorem Upd.drew{P:Nat->Prop}{N off:Nat}{L:List Value}{w w':World}(h:Upd P w w' N off L):Upd P w w'.drew N off L:=⟨⟨h.mods.os,h.mods.tape,h.mods.output,h.mods.size,h.mods.block⟩,h.cells,h.out,h.frz⟩
theorem ng{w:World}{B B' size n:Nat}{e:TypeId}{v:Value}{xs:List Value}(h:w.ownsRow B e size v n xs)(hb:B'<=B):w.ownsRow B' e size v n xs:=⟨h.1,h.2.imp id fun⟨g,cap,cur,hv,hbb,rest⟩=>⟨g,cap,cur,hv,Nat.le_trans hb hbb,rest⟩⟩
theorem dG{w:World}{B:Nat}{v:Value}{zs:List Int}(h:w.ownsRow B 3 1 v zs.length (zs.map (Value.int .i64))):∃a c,v= .slice a zs.length c:=by
 rcases mW h with ⟨e1,e2⟩|⟨g,cap,e1,-⟩
 ·exact⟨none,0,by rw [e2];exact e1⟩
 ·exact⟨_,_,e1⟩
theorem eY{w:World}{B:Nat}{v:Value}{xs:List Int}(h:w.ownsRow B 3 1 v xs.length (xs.map (Value.int .i64))):∃a c,v= .slice a xs.length c/\(xs.length=0\/∃g,a=some ⟨g,0,none⟩/\g<w.heap.size/\∀j,j<xs.length->w.cell? ⟨g,j,none⟩=some (.int .i64 (xs.getD j 0))):=by
 rcases mW h with ⟨rfl,e⟩|⟨g,cap,rfl,-,hg,-⟩
 ·exact⟨none,0,by rw [e],.inl e⟩
 ·exact⟨_,_,rfl,.inr ⟨g,rfl,hg,fun j hj=>by have:=Gg h j hj;rwa [Nat.zero_add]at this⟩⟩
theorem Ii{w:World}{B B':Nat}{v1 v2:Value}{xs ys:List Int}(h1:w.ownsRow B 3 1 v1 xs.length (xs.map (Value.int .i64)))(h2:w.ownsRow B' 3 1 v2 ys.length (ys.map (Value.int .i64)))(hl:xs.length<=1000) :
 Calls prog 111 #[v1,v2] w fun e w'=>e= .returned (.bool (decide (xs=ys)))/\w.Grows w':=by
 obtain⟨a1,c1,rfl,hg1⟩:=eY h1;obtain⟨a2,c2,rfl,hg2⟩:=eY h2;clear h1 h2;by_cases hle:xs.length=ys.length
 case neg=>
  have HR:Hid (decide (xs=ys)=false):=yq (decide_eq_false (fun e=>hle (by rw [e])));generalize xs.length=p at *;generalize ys.length=q at *;have hne:((p:Int)==(q:Int))=false:=by simp;omega
  have hne2:((p:Int)!=(q:Int))=true:=by simp;omega
  clear hg1 hg2 hle
  go_enter func111,ntmps111
  go_wp2_with fail
  go_returns
  exact⟨by rw [HR.out];rfl,.refl _⟩
 have H1:=yq hg1;have H2:=yq hg2;have HL:=yq hle;rw [<-hle];clear hg1 hg2 hle;obtain⟨p,hp⟩:∃p,xs.length=p:=⟨_,rfl⟩;rw [hp]at H1 HL hl ⊢;rw [<-HL.out]at H2;have HP:=yq hp;clear hp
 go_enter func111,ntmps111
 go_wp2_with fail
 go_loopw [5] (fun v5 wr=>∃k:Nat,k<=p/\v5= .int .i64 k/\w.Grows wr/\Hid (∀j,j<k->xs.getD j 0=ys.getD j 0)) (fun v5 _=>p-(intOf v5).toNat)
 case atStart=>exact⟨0,by omega,rfl,.refl _,yq (fun j hj=>by omega)⟩
 case round=>
  obtain⟨k,hk,rfl,hg,HE⟩:=hrel;have HG:=yq hg;by_cases hlt:k<p
  ·rcases H1.out with h0|⟨g1,rfl,hs1,x1⟩
   ·omega
   rcases H2.out with h0|⟨g2,rfl,hs2,x2⟩
   ·omega
   have y1:=(World.cell?_of_block (a:=⟨g1,k,none⟩) (hg.below.block g1 hs1)).trans (x1 k hlt);have y2:=(World.cell?_of_block (a:=⟨g2,k,none⟩) (hg.below.block g2 hs2)).trans (x2 k hlt);have d1:(k:Int)<(p:Int):=by omega
   have d0:(0:Int)<=(k:Int):=by omega
   have hs1':g1<wr.heap.size:=by have:=hg.below.size;omega
   have hs2':g2<wr.heap.size:=by have:=hg.below.size;omega
   have HLT:=yq hlt;obtain⟨a,ha⟩:∃a,xs.getD k 0=a:=⟨_,rfl⟩;obtain⟨b,hb⟩:∃b,ys.getD k 0=b:=⟨_,rfl⟩;rw [ha]at y1;rw [hb]at y2;have HAB:=yq (And.intro ha hb);clear hg x1 x2 ha hb hlt;by_cases hab:a=b
   ·have HN:Hid (∀j,j<k+1->xs.getD j 0=ys.getD j 0):=yq (fun j hj=>by
     by_cases e:j=k
     ·subst e;rw [HAB.out.1,HAB.out.2,hab]
     ·exact HE.out j zb)
    subst hab
    go_wp2_with fail
    go_region
    go_wp2_with fail
    go_roundw
    case rel=>exact⟨k+1,HLT.out,by go_num,gqq HG.out growsR,HN⟩
    case measure=>simp [intOf];have:=HLT.out;omega
   ·have HR:Hid (decide (xs=ys)=false):=yq (decide_eq_false (fun e=>hab (by rw [<-HAB.out.1,<-HAB.out.2,e])));have hab1:(a==b)=false:=by simpa using hab
    have hab2:(a !=b)=true:=by simpa using hab
    clear hab
    go_wp2_with fail
    go_region
    go_wp2_with fail
    go_returns
    exact⟨by rw [HR.out];rfl,gqq HG.out growsR⟩
  ·obtain rfl:k=p:=by omega
   have HR:Hid (decide (xs=ys)=true):=yq (decide_eq_true (ext_getElem (by rw [HP.out,HL.out]) fun j h1 h2=>by
    have:=HE.out j (by rw [HP.out]at h1;omega);rw [getD_eq_getElem?_getD,getD_eq_getElem?_getD,getElem?_eq_getElem h1,getElem?_eq_getElem h2]at this
    simpa using this))
   clear hlt hk hg
   go_wp2_with fail
   go_returns
   exact⟨by rw [HR.out];rfl,gqq HG.out growsR⟩
def StN(w:World)(N off:Nat)(vs vl:Value):Option (List Int × List Int)->Prop
 |none=>bX w N off [.bool false,.slice none 0 0,.slice none 0 0]
 |some _=>bX w N off [.bool true,vs,vl]
structure mF(n NS m:Nat)(W0:World)(T:List (Option (List Int × List Int)))(Rs Rl:Nat->Value)(w:World):Prop where
 sz:NS<w.heap.size
 lo:Below NS W0 w
 len:T.length=n+1
 st:∀j,j<=n->StN w NS (j*3) (Rs j) (Rl j) (T.getD j none)
 sf:∀o,w.frozen? ⟨NS,o,none⟩=false
 row:∀j t,T.getD j none=some t->w.ownsRow (NS+1) 3 1 (Rs j) t.1.length (t.1.map (Value.int .i64))/\w.ownsRow (NS+1) 3 1 (Rl j) t.2.length (t.2.map (Value.int .i64))/\t.1.length<=24/\t.2.length=m/\(∀z∈t.1,1<=z)/\(∀z∈t.2,0<=z)
 dl:∀j k t u g,j≠k->T.getD j none=some t->T.getD k none=some u->(Rl j).ownBlock=some g->(Rl k).ownBlock≠some g
 ds:∀j k t u g,T.getD j none=some t->T.getD k none=some u->(Rl j).ownBlock=some g->(Rs k).ownBlock≠some g
def MnP(N off:Nat)(zs ls:List Int)(w:World)(e:Ending)(w':World):Prop:=
 e= .returned (.bool true)/\∃v1 v2,Upd (fun k=>k=N) w w' N off [.bool true,v1,v2]/\w'.ownsRow w.heap.size 3 1 v1 zs.length (zs.map (Value.int .i64))/\w'.ownsRow w.heap.size 3 1 v2 ls.length (ls.map (Value.int .i64))/\∀g,v1.ownBlock=some g->v2.ownBlock≠some g
theorem LH(N off B B':Nat)(zs ls:List Int)(vz vl:Value)(w:World)(hN:N<w.heap.size)(hT:bX w N off [.bool false,.slice none 0 0,.slice none 0 0])(hf:∀i,w.frozen? ⟨N,i,none⟩=false)
 (hz:w.ownsRow B 3 1 vz zs.length (zs.map (Value.int .i64))) (hl:w.ownsRow B' 3 1 vl ls.length (ls.map (Value.int .i64))) (hzl:zs.length<=1000) (hll:ls.length<=1000) (hnz:vz.ownBlock≠some N) (hnl:vl.ownBlock≠some N) :
 Calls prog 53 #[.pointer (some ⟨N,off,none⟩),vz,vl] w (MnP N off zs ls w):=by
 have HT:=yq hT;have HF:=yq hf;have c0:w.cell? ⟨N,off,none⟩=some (.bool false):=hT 0 _ rfl;have c1:w.cell? ⟨N,off+1,none⟩=some (.slice none 0 0):=hT 1 _ rfl;have c2:w.cell? ⟨N,off+2,none⟩=some (.slice none 0 0):=hT 2 _ rfl;have f0:=hf off;have f1:=hf (off+1);have f2:=hf (off+2);have HZ:Hid (∀W,bE (fun k=>k=N) w W->W.ownsRow B 3 1 vz zs.length (zs.map (Value.int .i64))):=yq (fun W hm=>hm.row hz fun k hk e=>hnz (e ▸ hk));have HL:Hid (∀W,bE (fun k=>k=N) w W->W.ownsRow B' 3 1 vl ls.length (ls.map (Value.int .i64))):=yq (fun W hm=>hm.row hl fun k hk e=>hnl (e ▸ hk));have U1:Upd (fun k=>k=N) w (w.setCell ⟨N,off,none⟩ (.bool true)) N off [.bool true,.slice none 0 0,.slice none 0 0]:=(Upd.refl hT).set 0 _ zd rfl;have HU1:=yq U1;clear hz hl hT hf U1 hnz hnl
 go_enter func53,ntmps53
 go_wp2_with (at_builtin;refine dU rfl _ _ rfl (base:=w.heap.size) (A:=[]) rfl rfl (World.ownsRow_nil _ _ _ _) (HZ.out _ HU1.out.mods) ⟨by simp,hzl⟩ (by simp [World.setCell]) ?_)
 intro v1 w1 hv1 hg1;obtain⟨a1,k1,rfl⟩:=dG hv1;have hb1:∀k,k<w.heap.size->w1.heap[k]? =(w.setCell ⟨N,off,none⟩ (.bool true)).heap[k]?:=fun k hk=>hg1.block k (by simpa [World.setCell]using hk) zO;have hs1:w.heap.size<=w1.heap.size:=by have:=hg1.size;simpa [World.setCell]using this
 have hm1:bE (fun k=>k=N) (w.setCell ⟨N,off,none⟩ (.bool true)) w1:=⟨hg1.os,hg1.tape,hg1.output,hg1.size,fun k hk _=>hg1.block k hk zO⟩;have U2:=HU1.out.block hm1 (hb1 N hN);have d1:w1.cell? ⟨N,off+1,none⟩=some (.slice none 0 0):=U2.cells 1 _ rfl;have d2:w1.cell? ⟨N,off+2,none⟩=some (.slice none 0 0):=U2.cells 2 _ rfl;have e1:w1.frozen? ⟨N,off+1,none⟩=false:=(U2.frz _).trans f1;have e2:w1.frozen? ⟨N,off+2,none⟩=false:=(U2.frz _).trans f2;have hN1:N<w1.heap.size:=by omega
 have U3:Upd (fun k=>k=N) w (w1.setCell ⟨N,off+1,none⟩ (.slice a1 zs.length k1)) N off [.bool true,.slice a1 zs.length k1,.slice none 0 0]:=U2.set 1 _ zd rfl;have HU3:=yq U3;have HV1:=yq hv1;have HS1:=yq hs1;clear hv1 hg1 hb1 hm1 U2 U3 c0 c1 c2 f0 f1 f2
 go_wp2_with (at_builtin;refine dU rfl _ _ rfl (base:=w1.heap.size) (A:=[]) rfl rfl (World.ownsRow_nil _ _ _ _) (HL.out _ HU3.out.mods) ⟨by simp,hll⟩ (by simp [World.setCell]) ?_)
 intro v2 w2 hv2 hg2;obtain⟨a2,k2,rfl⟩:=dG hv2;have hb2:∀k,k<w1.heap.size->w2.heap[k]? =(w1.setCell ⟨N,off+1,none⟩ (.slice a1 zs.length k1)).heap[k]?:=fun k hk=>hg2.block k (by simpa [World.setCell]using hk) zO;have hs2:w1.heap.size<=w2.heap.size:=by have:=hg2.size;simpa [World.setCell]using this
 have hm2:bE (fun k=>k=N) (w1.setCell ⟨N,off+1,none⟩ (.slice a1 zs.length k1)) w2:=⟨hg2.os,hg2.tape,hg2.output,hg2.size,fun k hk _=>hg2.block k hk zO⟩;have U4:=HU3.out.block hm2 (hb2 N hN1);have g2:w2.cell? ⟨N,off+2,none⟩=some (.slice none 0 0):=U4.cells 2 _ rfl;have h2:w2.frozen? ⟨N,off+2,none⟩=false:=(U4.frz _).trans (HF.out _);have hN2:N<w2.heap.size:=by omega
 have U5:Upd (fun k=>k=N) w (w2.setCell ⟨N,off+2,none⟩ (.slice a2 ls.length k2)) N off [.bool true,.slice a1 zs.length k1,.slice a2 ls.length k2]:=U4.set 2 _ zd rfl;have hneN:∀k,(Value.slice a1 zs.length k1).ownBlock=some k->w.heap.size<=k/\k<w1.heap.size:=fun k hk=>HV1.out.lt k hk
 have r1:(w2.setCell ⟨N,off+2,none⟩ (.slice a2 ls.length k2)).ownsRow w.heap.size 3 1 (.slice a1 zs.length k1) zs.length (zs.map (Value.int .i64)):=
  bE.row (P:=fun k=>k=N) (((bE.setCell (P:=fun k=>k=N) w1 N (off+1) _ rfl).trans hm2).trans (bE.setCell _ _ _ _ rfl)) HV1.out fun k hk e=>by have:=hneN k hk;omega
 have r2:(w2.setCell ⟨N,off+2,none⟩ (.slice a2 ls.length k2)).ownsRow w.heap.size 3 1 (.slice a2 ls.length k2) ls.length (ls.map (Value.int .i64)):=
  ng (bE.row (P:=fun k=>k=N) (bE.setCell _ _ _ _ rfl) hv2 fun k hk e=>by have:=(hv2.lt k hk).1;omega) hs1
 have hdis:∀g,(Value.slice a1 zs.length k1).ownBlock=some g->(Value.slice a2 ls.length k2).ownBlock≠some g:=fun g hg e=>by
  have q1:=(hneN g hg).2;have q2:=(hv2.lt g e).1;omega
 have HP:=yq (show MnP N off zs ls w (.returned (.bool true)) (w2.setCell ⟨N,off+2,none⟩ (.slice a2 ls.length k2))from⟨rfl,_,_,U5,r1,r2,hdis⟩);clear U4 U5 r1 r2 hdis hneN hm2 hb2 hg2 hv2
 go_wp2_with fail
 go_returns
 exact HP.out
def QR(a b:Int):Int:=if b=0 then 0 else a
def oO(t l:List Int)(m k:Nat):List Int:=(List.range m).map fun j=>if j<k then QR (t.getD j 0) (l.getD j 0)else t.getD j 0
theorem sK(t l:List Int)(m k:Nat):(oO t l m k).length=m:=by simp [oO]
theorem jS(t l:List Int)(m k:Nat){j:Nat}(hj:j<m):(oO t l m k)[j]? =some (if j<k then QR (t.getD j 0) (l.getD j 0)else t.getD j 0):=by simp [oO,hj]
theorem Hl{t:List Int}(l:List Int){m:Nat}(h:t.length=m):oO t l m 0=t:=by
 refine ext_getElem? fun j=>?_;by_cases hj:j<m
 ·rw [jS _ _ _ _ hj,if_neg zb,getD_eq_getElem?_getD,getElem?_eq_getElem zb];rfl
 ·rw [getElem?_eq_none zP,getElem?_eq_none zb]
theorem Kl{t l:List Int}{m:Nat}(h:t.length=m)(h':l.length=m):oO t l m m=zipWith (fun a b=>if b=0 then 0 else a) t l:=by
 refine ext_getElem? fun j=>?_;by_cases hj:j<m
 ·rw [jS _ _ _ _ hj,if_pos hj,getElem?_zipWith,getD_eq_getElem?_getD,getD_eq_getElem?_getD,getElem?_eq_getElem zb,getElem?_eq_getElem zb];rfl
 ·rw [getElem?_eq_none zP,getElem?_eq_none zg]
theorem Kk(t l:List Int){m k:Nat}(hk:k<m)(h0:l.getD k 0=0):(oO t l m k).set k 0=oO t l m (k+1):=by
 refine ext_getElem? fun j=>?_;rw [getElem?_set,sK];by_cases hj:j<m
 ·rw [jS _ _ _ _ hj,jS _ _ _ _ hj];by_cases e:k=j
  ·subst e;rw [if_pos rfl,if_pos hk,if_pos zb,h0];rfl
  ·rw [if_neg e];by_cases h:j<k
   ·rw [if_pos h,if_pos zb]
   ·rw [if_neg h,if_neg zb]
 ·rw [if_neg zb,getElem?_eq_none zP,getElem?_eq_none zP]
theorem Ho(t l:List Int){m k:Nat}(hk:k<m)(h0:l.getD k 0≠0):oO t l m k=oO t l m (k+1):=by
 refine ext_getElem? fun j=>?_;by_cases hj:j<m
 ·rw [jS _ _ _ _ hj,jS _ _ _ _ hj];by_cases e:k=j
  ·subst e;rw [if_neg zb,if_pos zb];unfold QR;rw [if_neg h0]
  ·by_cases h:j<k
   ·rw [if_pos h,if_pos zb]
   ·rw [if_neg h,if_neg zb]
 ·rw [getElem?_eq_none zP,getElem?_eq_none zP]
def MoP(B:Nat)(v2:Value)(ts tl zs ls:List Int)(w:World)(e:Ending)(w':World):Prop:=
 e= .returned (.bool (decide (ts=zs)))/\bE (fun b=>v2.ownBlock=some b) w w'/\w'.ownsRow B 3 1 v2 tl.length ((zipWith (fun a b=>if b=0 then 0 else a) tl ls).map (Value.int .i64))
theorem LG(N off B B1 B2:Nat)(ts tl zs ls:List Int)(v1 v2 vz vl:Value)(w:World)(hN:N<w.heap.size)(hT:bX w N off [.bool true,v1,v2])
 (r1:w.ownsRow B 3 1 v1 ts.length (ts.map (Value.int .i64))) (r2:w.ownsRow B 3 1 v2 tl.length (tl.map (Value.int .i64))) (hz:w.ownsRow B1 3 1 vz zs.length (zs.map (Value.int .i64))) (hl:w.ownsRow B2 3 1 vl ls.length (ls.map (Value.int .i64)))
 (hlen:ls.length=tl.length) (h24:ts.length<=1000) (hll:tl.length<=1000) (hnN:v2.ownBlock≠some N) (hn1:∀g,v2.ownBlock=some g->v1.ownBlock≠some g) (hnz:∀g,v2.ownBlock=some g->vz.ownBlock≠some g) (hnl:∀g,v2.ownBlock=some g->vl.ownBlock≠some g) :
 Calls prog 53 #[.pointer (some ⟨N,off,none⟩),vz,vl] w (MoP B v2 ts tl zs ls w):=by
 have c0:w.cell? ⟨N,off,none⟩=some (.bool true):=hT 0 _ rfl;have c1:w.cell? ⟨N,off+1,none⟩=some v1:=hT 1 _ rfl;have c2:w.cell? ⟨N,off+2,none⟩=some v2:=hT 2 _ rfl;have HSM:Hid (∀W,bE (fun b=>v2.ownBlock=some b) w W->Calls prog 111 #[v1,vz] W fun e w'=>e= .returned (.bool (decide (ts=zs)))/\W.Grows w'):=yq (fun W hm=>Ii (hm.row r1 fun k hk e=>hn1 k e hk) (hm.row hz fun k hk e=>hnz k e hk) h24);have HLR:Hid (∀W,bE (fun b=>v2.ownBlock=some b) w W->W.ownsRow B2 3 1 vl ls.length (ls.map (Value.int .i64))):=yq (fun W hm=>hm.row hl fun k hk e=>hnl k e hk);obtain⟨la,lc,hla⟩:=dG hl;obtain⟨va,vc,hva,hvg⟩:=eY r2;obtain⟨m,hm⟩:∃m,tl.length=m:=⟨_,rfl⟩;rw [hlen]at hla;rw [hm]at hla hva hvg hll r2 hlen;have HM:=yq (And.intro hm hlen);have HR2:=yq r2;have HNN:=yq hnN;have HVG:Hid (m=0\/∃g,va=some ⟨g,0,none⟩/\g<w.heap.size):=yq (hvg.imp id fun⟨g,e,hg,_⟩=>⟨g,e,hg⟩)
 have HPO:Hid (∀W W',bE (fun b=>v2.ownBlock=some b) w W->W.ownsRow B 3 1 v2 m ((oO tl ls m m).map (Value.int .i64))->W.Grows W'->MoP B v2 ts tl zs ls w (.returned (.bool (decide (ts=zs)))) W'):=yq (fun W W' h1 h2 hg=>by
  rw [Kl HM.out.1 HM.out.2]at h2;refine⟨rfl,h1.trans (.grows hg), ?_⟩;rw [HM.out.1]
  exact bE.row (P:=fun _=>False) (.grows hg) h2 fun _ _ e=>e)
 clear hT r1 r2 hz hl hlen hm hn1 hnz hnl hnN hvg;generalize decide (ts=zs)=res at *;obtain⟨v2',hv2'⟩:∃v,v2=v:=⟨_,rfl⟩;rw [hva]at c2;rw [hla]
 go_enter func53,ntmps53
 go_wp2_with fail
 go_loopw [7] (fun v7 wr=>∃k:Nat,k<=m/\v7= .int .i64 k/\bE (fun b=>v2.ownBlock=some b) w wr/\wr.ownsRow B 3 1 v2 m ((oO tl ls m k).map (Value.int .i64))) (fun v7 _=>m-(intOf v7).toNat)
 case atStart=>exact⟨0,by omega,rfl,.refl _ _,by rw [Hl _ HM.out.1];exact HR2.out⟩
 case round=>
  obtain⟨k,hk,rfl,hmd,hrow⟩:=hrel;have HMD:=yq hmd;have HROW:=yq hrow;have q1:=(hmd.cell hN HNN.out (off+1)).trans c1;have q2:=(hmd.cell hN HNN.out (off+2)).trans c2;have hNr:N<wr.heap.size:=Nat.lt_of_lt_of_le hN hmd.size;by_cases hlt:k<m
  ·have d1:(k:Int)<(m:Int):=by omega
   have d0:(0:Int)<=(k:Int):=by omega
   have hlr:=HLR.out wr hmd;obtain⟨la',lc',hla',hlg⟩:=eY hlr;rw [HM.out.2]at hla' hlg;rw [hla]at hla';obtain⟨rfl,rfl⟩:la=la'/\lc=lc':=by simpa using hla'
   rcases hlg with h0|⟨gl,rfl,hgl,xl⟩
   ·omega
   have yl:=xl k hlt;rcases HVG.out with h0|⟨g,rfl,hg⟩
   ·omega
   have hgr:g<wr.heap.size:=Nat.lt_of_lt_of_le hg hmd.size;have hrow':=hrow;rw [hva]at hrow'
   have cg:wr.cell? ⟨g,k,none⟩=some (.int .i64 ((oO tl ls m k).getD k 0)):=by
    have:=Gg hrow' k (by rw [sK];exact hlt)
    rwa [Nat.zero_add]at this
   have fg:wr.frozen? ⟨g,k,none⟩=false:=hrow'.frozenAt k;have HST:=yq (hrow'.stored k (.int .i64 0));have HVA:=yq hva;have HLT:=yq hlt;obtain⟨z,hz⟩:∃z,ls.getD k 0=z:=⟨_,rfl⟩;rw [hz]at yl;have HZ:=yq hz;generalize(oO tl ls m k).getD k 0=y at *;clear hmd hrow hrow' hlr hla' xl hz hlt;by_cases hz0:z=0
   ·subst hz0
    go_wp2_with fail
    go_roundw
    case rel=>exact⟨k+1,HLT.out,by go_num,HMD.out.trans (bE.setCell _ _ _ _ (by rw [HVA.out];rfl)),by rw [<-Kk tl ls HLT.out HZ.out,HVA.out,map_set];exact HST.out.1⟩
    case measure=>simp [intOf];have:=HLT.out;omega
   ·have hz1:(z==0)=false:=by simpa using hz0
    have HNZ:=yq hz0;clear hz0
    go_wp2_with fail
    go_roundw
    case rel=>exact⟨k+1,HLT.out,by go_num,HMD.out,by rw [<-Ho tl ls HLT.out (by rw [HZ.out];exact HNZ.out)];exact HROW.out⟩
    case measure=>simp [intOf];have:=HLT.out;omega
  ·obtain rfl:k=m:=by omega
   have HQ:=yq (fun W (hg:wr.Grows W)=>HSM.out W (HMD.out.trans (.grows hg)));have HP:=yq (fun W' (hg:wr.Grows W')=>HPO.out wr W' HMD.out HROW.out hg);clear hmd hrow hlt hk
   go_wp2_with (go_at_call 111;refine gv (HQ.out _ growsR) ?_;intro bs d)
   go_returns
   exact HP.out _ growsR
theorem Ai{w:World}{B g L m cap:Nat}{e:TypeId}{zs:List Int}(h:w.ownsRow B e 1 (.slice (some ⟨g,0,none⟩) L cap) L (zs.map (Value.int .i64)))(hm:m<=L):w.ownsRow B e 1 (.slice (some ⟨g,0,none⟩) m cap) (zs.take m).length ((zs.take m).map (Value.int .i64)):=by
 obtain⟨hx,h0|⟨g',cap',cur,hv,hb,hg,hn,hcap,hcs,ht⟩⟩:=h
 ·exact absurd h0.1 zd
 obtain⟨rfl,-,rfl⟩:g=g'/\L=L/\cap=cap':=by simpa using hv
 have hl:zs.length=L:=by simpa using hx
 have e1:(zs.take m).length=m:=by rw [length_take];omega
 rw [e1];refine⟨by rw [length_map,e1,Nat.mul_one],.inr ⟨g,cap,cur,rfl,hb,hg,by omega,hcap,hcs, ?_⟩⟩;rw [Nat.mul_one]at ht ⊢;rw [map_take,<-ht,take_take,Nat.min_eq_left hm]
theorem Jl{k:Nat}(h:k<11):df (fC k).toList=lJ.getD k 0:=by
 have key:∀k,k<11->df (fC k).toList=lJ.getD k 0:=by decide+kernel
 exact key k h
theorem OU{op:Int}(h:opF op≠0):4<=opF op/\opF op<=20:=by
 revert h;unfold opF;intro h
 split
 ·omega
 split
 ·omega
 split
 ·omega
 split
 ·omega
 split
 ·omega
 split
 ·omega
 ·rename_i a1 a2 a3 a4 a5 a6
  rw [if_neg a1,if_neg a2,if_neg a3,if_neg a4,if_neg a5,if_neg a6]at h;exact absurd rfl h
theorem wQ(op:Int)(w:World):Calls prog 58 #[.int .i64 op] w fun e w'=>e= .returned (.int .i64 (opF op))/\w=w':=by
 by_cases h6:op=6
 ·subst h6;exact EO
 have b6:(op==6)=false:=by simpa using h6
 by_cases h7:op=7
 ·subst h7;exact EO
 have b7:(op==7)=false:=by simpa using h7
 by_cases h8:op=8
 ·subst h8;exact EO
 have b8:(op==8)=false:=by simpa using h8
 by_cases h9:9<=op/\op<=18
 ·have e:opF op=op-2:=by unfold opF;rw [if_neg h6,if_neg h7,if_neg h8,if_pos h9]
  rw [e];obtain⟨ha,hb⟩:=h9;clear e h6 h7 h8
  go_enter func58,ntmps58
  go_wp2_with fail
  go_returns
  exact⟨by
   simp;omega,rfl⟩
 by_cases h19:op=19
 ·subst h19;exact EO
 have b19:(op==19)=false:=by simpa using h19
 by_cases h20:op=20
 ·subst h20;exact EO
 have b20:(op==20)=false:=by simpa using h20
 have e:opF op=0:=by unfold opF;rw [if_neg h6,if_neg h7,if_neg h8,if_neg h9,if_neg h19,if_neg h20]
 rw [e];have hr:op<9\/18<op:=by omega
 clear e h6 h7 h8 h9 h19 h20;rcases hr with hr|hr
 ·exact EO
 ·exact EO
def Jm(a:Int):Int:=if 0<=a/\a<11 then lJ.getD a.toNat 0 else 0
def Mm(a:Int)(w:World)(e:Ending)(w':World):Prop:=e= .returned (.tuple #[.int .i64 (Jm a),.bool (decide (0<=a/\a<11))])/\w.Grows w'
theorem pg(a:Int)(w:World):Calls prog 110 #[.int .i64 a] w (Mm a w):=by
 by_cases h0:a<0
 ·exact Tz
 by_cases h11:11<=a
 ·exact Tz
 obtain⟨k,rfl⟩:∃k:Nat,a=(k:Int):=⟨a.toNat,by omega⟩;have hk:k<11:=by omega
 have hd:=Jl hk;have HI:=yq (fun w=>jv (fC k) w);have hne:df (fC k).toList≠0:=by rw [hd];have:=Cw hk;omega
 rw [decide_eq_true hne,hd]at HI
 have hc:(w.alloc (.cells Cr 9)).cell? ⟨w.heap.size,k,none⟩=some (.string (fC k)):=by
  rw [cell_of_row _ _ _ _ _ _ (heap_alloc_new w _)];exact uB k hk
 have HP:Hid (∀w',w.Grows w'->Mm (k:Int) w (.returned (.tuple #[.int .i64 (lJ.getD k 0),.bool true])) w'):=yq (fun w' hg=>⟨by unfold Jm;rw [if_pos zb,decide_eq_true zb];simp,hg⟩);clear hd hne h0 h11;obtain⟨s,hs⟩:∃s,fC k=s:=⟨_,rfl⟩;rw [hs]at hc HI;obtain⟨z,hz⟩:∃z,lJ.getD k 0=z:=⟨_,rfl⟩;rw [hz]at HI HP;clear hs hz;have d1:(k:Int)<11:=by omega
 go_enter func110,ntmps110
 go_wp2_with (first
  |(go_at_call 56;refine gw (qV _) ?_)
  |(go_at_call 43;refine gw (HI.out _) ?_))
 go_returns
 exact HP.out _ growsR
theorem Sn{m N i:Nat}{op a n d:Int}(h1:op≠1):wfF m N i ⟨op,a,n,d⟩=(wfF m N i ⟨op,a,0,0⟩&&decide (n=0/\d=0)):=by
 by_cases h:n=0/\d=0
 ·obtain⟨rfl,rfl⟩:=h;rw [show decide ((0:Int)=0/\(0:Int)=0)=true from rfl,Bool.and_true]
 ·rw [decide_eq_false h,Bool.and_false];unfold wfF;rw [if_neg h1,if_pos h]
theorem BN(l:List Ins)(sl:List ByteArray)(vi vs:Value)(i:Nat)(w:World)(hI:rT w vi l)(hS:FC w vs sl)(hi:i<l.length) :
 Calls prog 52 #[.agg #[vi,vs],.int .i64 i] w fun e w'=>e= .returned (.bool (wfF sl.length l.length i (l.getD i default)))/\w.Grows w':=by
 obtain⟨hl6,ai,ci,rfl,hx⟩:=hI;obtain⟨hs6,-,as',cs',-,rfl,-⟩:=hS;rcases hx with h0|⟨b,off,rfl,hb,hx⟩
 ·omega
 obtain⟨⟨hn,hd⟩,x0,x1,x2,x3⟩:=hx i hi;have d1:(i:Int)<(l.length:Int):=by omega
 generalize l.getD i default=x at *;obtain⟨op,a,n,d⟩:=x;dsimp only at *;have HV:=yq (fun w=>ik n d w hn.1 hn.2 hd.1 hd.2);have HD:=yq (fun w=>pg a w);have HO:Hid True:=yq trivial;unfold Mm at HD;clear hx hi;generalize sl.length=m at *;generalize l.length=N at *;by_cases h1:op=1
 ·subst h1;clear hn hd;by_cases ha:2<=a
  ·by_cases hb4:a<=4
   focus
    have HW:Hid (wfF m N i ⟨1,a,n,d⟩=aL n d):=yq (by unfold wfF;rw [if_pos rfl,decide_eq_true (show a=2\/a=3\/a=4 by omega)];rfl);obtain⟨vf,hvf⟩:∃vf,aL n d=vf:=⟨_,rfl⟩;rw [hvf]at HV HW;clear hvf
   rotate_left
   focus
    have HW:Hid (wfF m N i ⟨1,a,n,d⟩=false):=yq yM
   rotate_left
   all_goals
    rcases(by omega:(n=0/\d=0)\/(n=0/\d≠0)\/n≠0)with ⟨rfl,rfl⟩|⟨rfl,hd0⟩|hn0
    focus
     go_enter func52,ntmps52
    rotate_left
    focus
     have hd1:(d==0)=false:=by simpa using hd0
     clear hd0
     go_enter func52,ntmps52
    rotate_left
    focus
     have hn1:(n==0)=false:=by simpa using hn0
     clear hn0
     go_enter func52,ntmps52
    rotate_left
    all_goals
     go_wp2_with (first
      |(go_at_call 97;refine gv (HV.out _) ?_;intro bs d')
      |(go_at_call 110;refine gv (HD.out _) ?_;intro bs d')
      |(go_at_call 58;refine gw (HO.out _) ?_))
     go_returns
     exact⟨by first|(rw [HW.out];first|rfl|(simp [*];done)|(simp;done))|rfl|(simp [*];done),growsR⟩
  ·have HW:Hid (wfF m N i ⟨1,a,n,d⟩=false):=yq yM;rcases(by omega:(n=0/\d=0)\/(n=0/\d≠0)\/n≠0)with ⟨rfl,rfl⟩|⟨rfl,hd0⟩|hn0
   focus
    go_enter func52,ntmps52
   rotate_left
   focus
    have hd1:(d==0)=false:=by simpa using hd0
    clear hd0
    go_enter func52,ntmps52
   rotate_left
   focus
    have hn1:(n==0)=false:=by simpa using hn0
    clear hn0
    go_enter func52,ntmps52
   rotate_left
   all_goals
    go_wp2_with (first
     |(go_at_call 97;refine gv (HV.out _) ?_;intro bs d')
     |(go_at_call 110;refine gv (HD.out _) ?_;intro bs d')
     |(go_at_call 58;refine gw (HO.out _) ?_))
    go_returns
    exact⟨by first|(rw [HW.out];first|rfl|(simp [*];done)|(simp;done))|rfl|(simp [*];done),growsR⟩
 have b1:(op==1)=false:=by simpa using h1
 rw [Sn h1];obtain⟨z,hz⟩:∃z,decide (n=0/\d=0)=z:=⟨_,rfl⟩;rw [hz]
 have hzz:(z=true/\n=0/\d=0)\/(z=false/\n=0/\d≠0)\/(z=false/\n≠0):=by
  by_cases c:n=0/\d=0
  ·rw [decide_eq_true c]at hz;exact .inl ⟨hz.symm,c⟩
  ·rw [decide_eq_false c]at hz;by_cases c1:n=0
   ·exact .inr (.inl ⟨hz.symm,c1,fun e=>c ⟨c1,e⟩⟩)
   ·exact .inr (.inr ⟨hz.symm,c1⟩)
 clear hn hd HV hz;have HV:Hid True:=yq trivial;by_cases h2:op=2
 ·subst h2;have HW:Hid (wfF m N i ⟨2,a,0,0⟩=decide (0<=a/\a<11)):=yq rfl;by_cases ha:0<=a/\a<11
  focus
   rw [decide_eq_true ha]at HW HD
  rotate_left
  focus
   rw [decide_eq_false ha]at HW HD
  rotate_left
  all_goals
   generalize Jm a=q at *;rcases hzz with ⟨rfl,rfl,rfl⟩|⟨rfl,rfl,hd0⟩|⟨rfl,hn0⟩
   focus
    go_enter func52,ntmps52
   rotate_left
   focus
    have hd1:(d==0)=false:=by simpa using hd0
    clear hd0
    go_enter func52,ntmps52
   rotate_left
   focus
    have hn1:(n==0)=false:=by simpa using hn0
    clear hn0
    go_enter func52,ntmps52
   rotate_left
   all_goals
    go_wp2_with (first
     |(go_at_call 97;refine gv (HV.out _) ?_;intro bs d')
     |(go_at_call 110;refine gv (HD.out _) ?_;intro bs d')
     |(go_at_call 58;refine gw (HO.out _) ?_))
    go_returns
    exact⟨by first|(rw [HW.out];first|rfl|(simp [*];done)|(simp;done))|rfl|(simp [*];done),growsR⟩
 have b2:(op==2)=false:=by simpa using h2
 by_cases h3:op=3\/op=4
 ·have HW:Hid (wfF m N i ⟨op,a,0,0⟩=decide (0<=a/\a<m)):=yq (by unfold wfF;rw [if_neg h1,if_neg zd,if_neg h2,if_pos h3]);by_cases ha:0<=a
  ·by_cases hm:a<m
   focus
    rw [decide_eq_true ⟨ha,hm⟩]at HW
   rotate_left
   focus
    rw [decide_eq_false (fun h=>hm h.2)]at HW
   rotate_left
   all_goals
    rcases h3 with rfl|rfl
    ·rcases hzz with ⟨rfl,rfl,rfl⟩|⟨rfl,rfl,hd0⟩|⟨rfl,hn0⟩
     focus
      go_enter func52,ntmps52
     rotate_left
     focus
      have hd1:(d==0)=false:=by simpa using hd0
      clear hd0
      go_enter func52,ntmps52
     rotate_left
     focus
      have hn1:(n==0)=false:=by simpa using hn0
      clear hn0
      go_enter func52,ntmps52
     rotate_left
     all_goals
      go_wp2_with (first
       |(go_at_call 97;refine gv (HV.out _) ?_;intro bs d')
       |(go_at_call 110;refine gv (HD.out _) ?_;intro bs d')
       |(go_at_call 58;refine gw (HO.out _) ?_))
      go_returns
      exact⟨by first|(rw [HW.out];first|rfl|(simp [*];done)|(simp;done))|rfl|(simp [*];done),growsR⟩
    ·rcases hzz with ⟨rfl,rfl,rfl⟩|⟨rfl,rfl,hd0⟩|⟨rfl,hn0⟩
     focus
      go_enter func52,ntmps52
     rotate_left
     focus
      have hd1:(d==0)=false:=by simpa using hd0
      clear hd0
      go_enter func52,ntmps52
     rotate_left
     focus
      have hn1:(n==0)=false:=by simpa using hn0
      clear hn0
      go_enter func52,ntmps52
     rotate_left
     all_goals
      go_wp2_with (first
       |(go_at_call 97;refine gv (HV.out _) ?_;intro bs d')
       |(go_at_call 110;refine gv (HD.out _) ?_;intro bs d')
       |(go_at_call 58;refine gw (HO.out _) ?_))
      go_returns
      exact⟨by first|(rw [HW.out];first|rfl|(simp [*];done)|(simp;done))|rfl|(simp [*];done),growsR⟩
  ·rw [decide_eq_false (fun h=>ha h.1)]at HW;rcases h3 with rfl|rfl
   ·rcases hzz with ⟨rfl,rfl,rfl⟩|⟨rfl,rfl,hd0⟩|⟨rfl,hn0⟩
    focus
     go_enter func52,ntmps52
    rotate_left
    focus
     have hd1:(d==0)=false:=by simpa using hd0
     clear hd0
     go_enter func52,ntmps52
    rotate_left
    focus
     have hn1:(n==0)=false:=by simpa using hn0
     clear hn0
     go_enter func52,ntmps52
    rotate_left
    all_goals
     go_wp2_with (first
      |(go_at_call 97;refine gv (HV.out _) ?_;intro bs d')
      |(go_at_call 110;refine gv (HD.out _) ?_;intro bs d')
      |(go_at_call 58;refine gw (HO.out _) ?_))
     go_returns
     exact⟨by first|(rw [HW.out];first|rfl|(simp [*];done)|(simp;done))|rfl|(simp [*];done),growsR⟩
   ·rcases hzz with ⟨rfl,rfl,rfl⟩|⟨rfl,rfl,hd0⟩|⟨rfl,hn0⟩
    focus
     go_enter func52,ntmps52
    rotate_left
    focus
     have hd1:(d==0)=false:=by simpa using hd0
     clear hd0
     go_enter func52,ntmps52
    rotate_left
    focus
     have hn1:(n==0)=false:=by simpa using hn0
     clear hn0
     go_enter func52,ntmps52
    rotate_left
    all_goals
     go_wp2_with (first
      |(go_at_call 97;refine gv (HV.out _) ?_;intro bs d')
      |(go_at_call 110;refine gv (HD.out _) ?_;intro bs d')
      |(go_at_call 58;refine gw (HO.out _) ?_))
     go_returns
     exact⟨by first|(rw [HW.out];first|rfl|(simp [*];done)|(simp;done))|rfl|(simp [*];done),growsR⟩
 have b3:(op==3)=false:=by simp;omega
 have b4:(op==4)=false:=by simp;omega
 by_cases h5:op=5
 ·subst h5;have HW:Hid (wfF m N i ⟨5,a,0,0⟩=decide (1<=a/\a<=45)):=yq rfl;by_cases ha:1<=a
  ·by_cases hm:a<=45
   focus
    rw [decide_eq_true ⟨ha,hm⟩]at HW
   rotate_left
   focus
    rw [decide_eq_false (fun h=>hm h.2)]at HW
   rotate_left
   all_goals
    rcases hzz with ⟨rfl,rfl,rfl⟩|⟨rfl,rfl,hd0⟩|⟨rfl,hn0⟩
    focus
     go_enter func52,ntmps52
    rotate_left
    focus
     have hd1:(d==0)=false:=by simpa using hd0
     clear hd0
     go_enter func52,ntmps52
    rotate_left
    focus
     have hn1:(n==0)=false:=by simpa using hn0
     clear hn0
     go_enter func52,ntmps52
    rotate_left
    all_goals
     go_wp2_with (first
      |(go_at_call 97;refine gv (HV.out _) ?_;intro bs d')
      |(go_at_call 110;refine gv (HD.out _) ?_;intro bs d')
      |(go_at_call 58;refine gw (HO.out _) ?_))
     go_returns
     exact⟨by first|(rw [HW.out];first|rfl|(simp [*];done)|(simp;done))|rfl|(simp [*];done),growsR⟩
  ·rw [decide_eq_false (fun h=>ha h.1)]at HW;rcases hzz with ⟨rfl,rfl,rfl⟩|⟨rfl,rfl,hd0⟩|⟨rfl,hn0⟩
   focus
    go_enter func52,ntmps52
   rotate_left
   focus
    have hd1:(d==0)=false:=by simpa using hd0
    clear hd0
    go_enter func52,ntmps52
   rotate_left
   focus
    have hn1:(n==0)=false:=by simpa using hn0
    clear hn0
    go_enter func52,ntmps52
   rotate_left
   all_goals
    go_wp2_with (first
     |(go_at_call 97;refine gv (HV.out _) ?_;intro bs d')
     |(go_at_call 110;refine gv (HD.out _) ?_;intro bs d')
     |(go_at_call 58;refine gw (HO.out _) ?_))
    go_returns
    exact⟨by first|(rw [HW.out];first|rfl|(simp [*];done)|(simp;done))|rfl|(simp [*];done),growsR⟩
 have b5:(op==5)=false:=by simpa using h5
 by_cases h21:op=21\/op=22
 ·have HW:Hid (wfF m N i ⟨op,a,0,0⟩=decide ((i:Int)<a/\a<=N)):=yq (by unfold wfF;rw [if_neg h1,if_neg zd,if_neg h2,if_neg h3,if_neg h5,if_pos h21]);by_cases ha:(i:Int)<a
  ·by_cases hm:a<=N
   focus
    rw [decide_eq_true ⟨ha,hm⟩]at HW
   rotate_left
   focus
    rw [decide_eq_false (fun h=>hm h.2)]at HW
   rotate_left
   all_goals
    rcases h21 with rfl|rfl
    ·rcases hzz with ⟨rfl,rfl,rfl⟩|⟨rfl,rfl,hd0⟩|⟨rfl,hn0⟩
     focus
      go_enter func52,ntmps52
     rotate_left
     focus
      have hd1:(d==0)=false:=by simpa using hd0
      clear hd0
      go_enter func52,ntmps52
     rotate_left
     focus
      have hn1:(n==0)=false:=by simpa using hn0
      clear hn0
      go_enter func52,ntmps52
     rotate_left
     all_goals
      go_wp2_with (first
       |(go_at_call 97;refine gv (HV.out _) ?_;intro bs d')
       |(go_at_call 110;refine gv (HD.out _) ?_;intro bs d')
       |(go_at_call 58;refine gw (HO.out _) ?_))
      go_returns
      exact⟨by first|(rw [HW.out];first|rfl|(simp [*];done)|(simp;done))|rfl|(simp [*];done),growsR⟩
    ·rcases hzz with ⟨rfl,rfl,rfl⟩|⟨rfl,rfl,hd0⟩|⟨rfl,hn0⟩
     focus
      go_enter func52,ntmps52
     rotate_left
     focus
      have hd1:(d==0)=false:=by simpa using hd0
      clear hd0
      go_enter func52,ntmps52
     rotate_left
     focus
      have hn1:(n==0)=false:=by simpa using hn0
      clear hn0
      go_enter func52,ntmps52
     rotate_left
     all_goals
      go_wp2_with (first
       |(go_at_call 97;refine gv (HV.out _) ?_;intro bs d')
       |(go_at_call 110;refine gv (HD.out _) ?_;intro bs d')
       |(go_at_call 58;refine gw (HO.out _) ?_))
      go_returns
      exact⟨by first|(rw [HW.out];first|rfl|(simp [*];done)|(simp;done))|rfl|(simp [*];done),growsR⟩
  ·rw [decide_eq_false (fun h=>ha h.1)]at HW;rcases h21 with rfl|rfl
   ·rcases hzz with ⟨rfl,rfl,rfl⟩|⟨rfl,rfl,hd0⟩|⟨rfl,hn0⟩
    focus
     go_enter func52,ntmps52
    rotate_left
    focus
     have hd1:(d==0)=false:=by simpa using hd0
     clear hd0
     go_enter func52,ntmps52
    rotate_left
    focus
     have hn1:(n==0)=false:=by simpa using hn0
     clear hn0
     go_enter func52,ntmps52
    rotate_left
    all_goals
     go_wp2_with (first
      |(go_at_call 97;refine gv (HV.out _) ?_;intro bs d')
      |(go_at_call 110;refine gv (HD.out _) ?_;intro bs d')
      |(go_at_call 58;refine gw (HO.out _) ?_))
     go_returns
     exact⟨by first|(rw [HW.out];first|rfl|(simp [*];done)|(simp;done))|rfl|(simp [*];done),growsR⟩
   ·rcases hzz with ⟨rfl,rfl,rfl⟩|⟨rfl,rfl,hd0⟩|⟨rfl,hn0⟩
    focus
     go_enter func52,ntmps52
    rotate_left
    focus
     have hd1:(d==0)=false:=by simpa using hd0
     clear hd0
     go_enter func52,ntmps52
    rotate_left
    focus
     have hn1:(n==0)=false:=by simpa using hn0
     clear hn0
     go_enter func52,ntmps52
    rotate_left
    all_goals
     go_wp2_with (first
      |(go_at_call 97;refine gv (HV.out _) ?_;intro bs d')
      |(go_at_call 110;refine gv (HD.out _) ?_;intro bs d')
      |(go_at_call 58;refine gw (HO.out _) ?_))
     go_returns
     exact⟨by first|(rw [HW.out];first|rfl|(simp [*];done)|(simp;done))|rfl|(simp [*];done),growsR⟩
 have b21:(op==21)=false:=by simp;omega
 have b22:(op==22)=false:=by simp;omega
 by_cases h23:op=23\/op=24
 ·have HW:Hid (wfF m N i ⟨op,a,0,0⟩=decide (a=0)):=yq (by unfold wfF;rw [if_neg h1,if_neg zd,if_neg h2,if_neg h3,if_neg h5,if_neg h21,if_pos h23]);by_cases ha:a=0
  focus
   rw [decide_eq_true ha]at HW;subst ha
  rotate_left
  focus
   rw [decide_eq_false ha]at HW;have a0:(a==0)=false:=by simpa using ha
  rotate_left
  all_goals
   rcases h23 with rfl|rfl
   ·rcases hzz with ⟨rfl,rfl,rfl⟩|⟨rfl,rfl,hd0⟩|⟨rfl,hn0⟩
    focus
     go_enter func52,ntmps52
    rotate_left
    focus
     have hd1:(d==0)=false:=by simpa using hd0
     clear hd0
     go_enter func52,ntmps52
    rotate_left
    focus
     have hn1:(n==0)=false:=by simpa using hn0
     clear hn0
     go_enter func52,ntmps52
    rotate_left
    all_goals
     go_wp2_with (first
      |(go_at_call 97;refine gv (HV.out _) ?_;intro bs d')
      |(go_at_call 110;refine gv (HD.out _) ?_;intro bs d')
      |(go_at_call 58;refine gw (HO.out _) ?_))
     go_returns
     exact⟨by first|(rw [HW.out];first|rfl|(simp [*];done)|(simp;done))|rfl|(simp [*];done),growsR⟩
   ·rcases hzz with ⟨rfl,rfl,rfl⟩|⟨rfl,rfl,hd0⟩|⟨rfl,hn0⟩
    focus
     go_enter func52,ntmps52
    rotate_left
    focus
     have hd1:(d==0)=false:=by simpa using hd0
     clear hd0
     go_enter func52,ntmps52
    rotate_left
    focus
     have hn1:(n==0)=false:=by simpa using hn0
     clear hn0
     go_enter func52,ntmps52
    rotate_left
    all_goals
     go_wp2_with (first
      |(go_at_call 97;refine gv (HV.out _) ?_;intro bs d')
      |(go_at_call 110;refine gv (HD.out _) ?_;intro bs d')
      |(go_at_call 58;refine gw (HO.out _) ?_))
     go_returns
     exact⟨by first|(rw [HW.out];first|rfl|(simp [*];done)|(simp;done))|rfl|(simp [*];done),growsR⟩
 have b23:(op==23)=false:=by simp;omega
 have b24:(op==24)=false:=by simp;omega
 have HW:Hid (wfF m N i ⟨op,a,0,0⟩=decide (opF op≠0/\a=0)):=yq (by unfold wfF;rw [if_neg h1,if_neg zd,if_neg h2,if_neg h3,if_neg h5,if_neg h21,if_neg h23]);clear h1 h2 h3 h5 h21 h23;obtain⟨q,hq⟩:∃q,opF op=q:=⟨_,rfl⟩;have HQ:=yq hq;clear HO;have HO:=yq (fun w=>by have:=wQ op w;rw [hq]at this;exact this);rw [hq]at HW;clear hq;by_cases hq0:q=0
 ·subst hq0;rw [decide_eq_false (fun h=>h.1 rfl)]at HW;rcases hzz with ⟨rfl,rfl,rfl⟩|⟨rfl,rfl,hd0⟩|⟨rfl,hn0⟩
  focus
   go_enter func52,ntmps52
  rotate_left
  focus
   have hd1:(d==0)=false:=by simpa using hd0
   clear hd0
   go_enter func52,ntmps52
  rotate_left
  focus
   have hn1:(n==0)=false:=by simpa using hn0
   clear hn0
   go_enter func52,ntmps52
  rotate_left
  all_goals
   go_wp2_with (first
    |(go_at_call 97;refine gv (HV.out _) ?_;intro bs d')
    |(go_at_call 110;refine gv (HD.out _) ?_;intro bs d')
    |(go_at_call 58;refine gw (HO.out _) ?_))
   go_returns
   exact⟨by first|(rw [HW.out];first|rfl|(simp [*];done)|(simp;done))|rfl|(simp [*];done),growsR⟩
 ·have q0:(q !=0)=true:=by simpa using hq0
  by_cases ha:a=0
  focus
   rw [decide_eq_true ⟨hq0,ha⟩]at HW;subst ha;clear hq0
  rotate_left
  focus
   rw [decide_eq_false (fun h=>ha h.2)]at HW;have a0:(a==0)=false:=by simpa using ha
   clear hq0 ha
  rotate_left
  all_goals
   rcases hzz with ⟨rfl,rfl,rfl⟩|⟨rfl,rfl,hd0⟩|⟨rfl,hn0⟩
   focus
    go_enter func52,ntmps52
   rotate_left
   focus
    have hd1:(d==0)=false:=by simpa using hd0
    clear hd0
    go_enter func52,ntmps52
   rotate_left
   focus
    have hn1:(n==0)=false:=by simpa using hn0
    clear hn0
    go_enter func52,ntmps52
   rotate_left
   all_goals
    go_wp2_with (first
     |(go_at_call 97;refine gv (HV.out _) ?_;intro bs d')
     |(go_at_call 110;refine gv (HD.out _) ?_;intro bs d')
     |(go_at_call 58;refine gw (HO.out _) ?_))
    go_returns
    exact⟨by first|(rw [HW.out];first|rfl|(simp [*];done)|(simp;done))|rfl|(simp [*];done),growsR⟩
end Go.Proofs.YtfoefpoaomepbaaGreatDoor
