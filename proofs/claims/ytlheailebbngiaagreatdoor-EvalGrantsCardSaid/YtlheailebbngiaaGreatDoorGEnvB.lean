import Derived.Test.YtlheailebbngiaaGreatDoorGSyE
import Derived.Test.YtlheailebbngiaaGreatDoorGTyR
import Derived.Test.YtlheailebbngiaaGreatDoorGSyW
import Derived.Test.YtlheailebbngiaaGreatDoorGShelf3
import Derived.Lib.IndexLaws
set_option linter.all false
set_option maxHeartbeats 16000000
set_option maxRecDepth 1000000
namespace Go.Proofs.YtlheailebbngiaaGreatDoor
open Tryz List
open Go.RowKit
abbrev bdN(l:List (ByteArray × Int))(i:Nat):ByteArray:=(l.getD i (ByteArray.empty,0)).1
abbrev bdD(l:List (ByteArray × Int))(i:Nat):Int:=(l.getD i (ByteArray.empty,0)).2
def aU(w:World)(v:Value)(l:List (ByteArray × Int)):Prop:=
 l.length<=1000/\∃a cap,v= .slice a l.length cap/\(l.length=0\/∃b off,a=some ⟨b,off,none⟩/\b<w.heap.size/\∀i,i<l.length->w.cell? ⟨b,off+i*2,none⟩=some (.string (bdN l i))/\w.cell? ⟨b,off+i*2+1,none⟩=some (.int .i64 (bdD l i)))
theorem aU.below{w w':World}{v:Value}{l:List (ByteArray × Int)}{n:Nat}(h:aU w v l)(hn:w.heap.size<=n)(hb:Below n w w'):aU w' v l:=by
 obtain⟨h0,a,cap,hv,h1⟩:=h;refine⟨h0,a,cap,hv,h1.imp id ?_⟩;rintro⟨b,off,ha,hlt,hc⟩;refine⟨b,off,ha,Nat.lt_of_lt_of_le hlt hb.size,fun i hi=>?_⟩;rw [hb.cell (p:=⟨b,off+i*2,none⟩) (Nat.lt_of_lt_of_le hlt hn),hb.cell (p:=⟨b,off+i*2+1,none⟩) (Nat.lt_of_lt_of_le hlt hn)];exact hc i hi
theorem aU.grows{w w':World}{v:Value}{l:List (ByteArray × Int)}(h:aU w v l)(hg:w.Grows w'):aU w' v l:=h.below (Nat.le_refl _) hg.below
theorem aU.grow{w:World}{v:Value}{l:List (ByteArray × Int)}(h:aU w v l)(bs:Array Obj)(d:Nat):aU (w.grow bs d) v l:=h.grows ⟨bs,d,rfl⟩
theorem aU.alloc{w:World}{v:Value}{l:List (ByteArray × Int)}(h:aU w v l)(o:Obj):aU (w.alloc o) v l:=h.below (Nat.le_refl _) ((Below.refl _ _).alloc (Nat.le_refl _) _)
def OH(g:FuncId)(lb:Array Value)(l:List (ByteArray × Int))(p:Nat->Bool)(w:World):Prop:=
 ∀k,k<l.length->∀w',w.Grows w'->Calls prog g (#[.agg #[.string (bdN l k),.int .i64 (bdD l k)]]++lb) w' fun r w''=>r= .returned (.bool (p k))/\w'.Grows w''
theorem JY(g:FuncId)(lb:Array Value)(eg:∀args w,(callFunc g args).run prog w= .ok (.enter g args) w)(l:List (ByteArray × Int))(v:Value)(p:Nat->Bool)(w:World)(h:aU w v l)(hp:Hid (OH g lb l p w)) :
 Calls prog 137 #[v,.func (.func g) #[] lb] w fun r w'=>(∃z,r= .returned (.int .i64 z)/\Cj l.length p z)/\w.Grows w':=by
 obtain⟨hlen,a,cap,rfl,hc⟩:=h;have Hc:=zh hc;clear hc
 go_enter func137,ntmps137
 go_wp2_with fail
 go_loopw [5,8] (fun _ v8 wr=>∃k:Nat,k<=l.length/\v8= .int .i64 k/\Hid (∀j,j<k->p j=false)/\w.Grows wr) (fun _ v8 _=>l.length-(intOf v8).toNat)
 case atStart=>exact⟨0,by omega,rfl,zh (fun j hj=>by omega),.refl _⟩
 case round=>
  obtain⟨k,hk,rfl,hno,hgr⟩:=hrel;have HG:=zh hgr;by_cases hlt2:k<l.length
  ·rcases Hc.out with h0|⟨b,off,rfl,hbw,hx⟩
   ·omega
   ·obtain⟨x0,x1⟩:=hx k hlt2;have y0:wr.cell? ⟨b,off+k*2,none⟩=some (.string (bdN l k)):=by rw [hgr.below.cell (p:=⟨b,off+k*2,none⟩) hbw];exact x0
    have y1:wr.cell? ⟨b,off+k*2+1,none⟩=some (.int .i64 (bdD l k)):=by rw [hgr.below.cell (p:=⟨b,off+k*2+1,none⟩) hbw];exact x1
    clear hx x0 x1;have d1:(k:Int)<(l.length:Int):=by omega
    have hcall:=hp.out k hlt2 _ hgr;generalize bdN l k=nk at *;generalize bdD l k=dk at *;have HLT:=zh hlt2;clear hgr
    cases hq:p k with
    |true=>
     rw [hq]at hcall;have HQ:=zh hq;clear hq;have HCL:=zh hcall;clear hcall
     go_wp2_with (go_at_fn g;refine HCL.out.mono ?_;rintro e' w' ⟨rfl,hg2⟩;have HG2:=zh hg2;clear hg2)
     go_returns
     exact⟨⟨_,rfl,.inr ⟨k,HLT.out,rfl,HQ.out⟩⟩,World.Grows.trans HG.out HG2.out⟩
    |false=>
     rw [hq]at hcall;have HQ:=zh hq;clear hq;have HCL:=zh hcall;clear hcall
     go_wp2_with (go_at_fn g;refine HCL.out.mono ?_;rintro e' w' ⟨rfl,hg2⟩;have HG2:=zh hg2;clear hg2)
     go_roundw
     case rel=>exact⟨k+1,by omega,by go_num,zh (fun j hj=>by
      by_cases ej:j=k
      ·subst ej;exact HQ.out
      ·exact hno.out j ze),World.Grows.trans HG.out HG2.out⟩
     case measure=>simp [intOf];omega
  ·obtain rfl:k=l.length:=by omega
   clear hgr
   go_wp2_with fail
   go_returns
   exact⟨⟨_,rfl,.inl ⟨rfl,hno.out⟩⟩,HG.out⟩
theorem nG(g:FuncId)(lb:Array Value)(eg:∀args w,(callFunc g args).run prog w= .ok (.enter g args) w)(l:List (ByteArray × Int))(v:Value)(p:Nat->Bool)(w:World)(h:aU w v l)(hp:Hid (OH g lb l p w)) :
 Calls prog 109 #[v,.func (.func g) #[] lb] w fun r w'=>r= .returned (.bool ((List.range l.length).any p))/\w.Grows w':=by
 have HI:=zh (JY g lb eg l v p w h hp);obtain⟨-,a,cap,rfl,-⟩:=h;clear hp;generalize hX:(List.range l.length).any p=X;have HX:=zh hX;clear hX
 go_enter func109,ntmps109
 go_wp2_with (go_at_call 137;refine HI.out.mono ?_;rintro e' w' ⟨⟨z,rfl,hz⟩,bs2,d2,rfl⟩;have HZ:=zh hz.any;clear hz)
 go_returns
 exact⟨au zV,.of_below af⟩
theorem Ic:∀args w,(callFunc 110 args).run prog w= .ok (.enter 110 args) w:=enters_of func110 zf rfl
theorem KO(n:ByteArray)(d:Int)(w:World):Calls prog 110 #[.agg #[.string n,.int .i64 d]] w fun r w'=>r= .returned (.bool (!decide (1<=d/\d<=4)))/\w.Grows w':=by
 by_cases h1:d<1
 ·go_enter func110,ntmps110
  exact Gy
 ·by_cases h2:d > 4
  ·go_enter func110,ntmps110
   exact Gy
  ·go_enter func110,ntmps110
   exact Gy
open Go.RowKit Go.Shelf
attribute [local go_sem] Oper.semAt_some
def iQ(n k:Nat):List (Fin n):=(finRange n).reverse.take k
theorem gH(n k:Nat)(i:Fin n)(hk:k<n)(hi:n-1-k=i.1):iQ n (k+1)=iQ n k++[i]:=by
 have hl:k<(finRange n).reverse.length:=by simpa using hk
 unfold iQ;rw [take_succ_eq_append_getElem hl]
 congr 2
 apply Fin.ext;rw [getElem_reverse];simp;omega
theorem pG(n k:Nat)(hk:k<=n):(iQ n k).length=k:=by simp [iQ,hk]
theorem jl{n k:Nat}(i:Fin n)(hk:n<=i.1+k):i∈iQ n k:=by
 unfold iQ;have hl:n-1-i.1<(finRange n).reverse.length:=by simp;omega
 have he:(finRange n).reverse[n-1-i.1]=i:=by
  apply Fin.ext;rw [getElem_reverse];simp;omega
 rw [mem_take_iff_getElem];exact⟨n-1-i.1,by simp;omega,he⟩
abbrev oD:=List (ByteArray × Int)
def oD.el(x:oD)(i:Nat):Value:=.agg #[.string (bdN x i),.int .i64 (bdD x i)]
def oD.Lies(x:oD)(n₀:Nat)(W:World)(v:Value)(n:Nat):Prop:=
 n<=1000/\∃a cap,v= .slice a n cap/\(n=0\/∃b off,a=some ⟨b,off,none⟩/\b<n₀/\∀i,i<n->W.cell? ⟨b,off+i*2,none⟩=some (.string (bdN x i))/\W.cell? ⟨b,off+i*2+1,none⟩=some (.int .i64 (bdD x i)))
theorem oD.Lies.below{x:oD}{n₀ n:Nat}{W W':World}{v:Value}(h:oD.Lies x n₀ W v n)(hb:Below n₀ W W'):oD.Lies x n₀ W' v n:=by
 obtain⟨h0,a,cap,hv,h1⟩:=h;refine⟨h0,a,cap,hv,h1.imp id ?_⟩;rintro⟨b,off,ha,hlt,hc⟩;refine⟨b,off,ha,hlt,fun i hi=>?_⟩;rw [hb.cell (p:=⟨b,off+i*2,none⟩) hlt,hb.cell (p:=⟨b,off+i*2+1,none⟩) hlt];exact hc i hi
theorem aU.lies{W:World}{v:Value}{l:List (ByteArray × Int)}(h:aU W v l):oD.Lies l W.heap.size W v l.length:=h
theorem Ig(F:Fence)(n:Nat)(hf:F.fn 207)(hro:F.round=none)(hn:1<=n)(l Bs n₀ len:Nat)(x:oD)(v:Value)(J Jx:List (Fin len)->World->Prop)
 (hY:∀pre (i:Fin len) W,J pre W->pre.length<len->YieldAt F (n-1) prog l #[.int .i64 ((i.1:Nat):Int),x.el i.1] W fun e W'=>
  (e= .returned (.bool true)/\J (pre++[i]) W'/\Below n₀ W W')\/(e= .returned (.bool false)/\Jx (pre++[i]) W'))
 (W:World) (hBs:W.cell? ⟨Bs,0,none⟩=some v) (hBl:Bs<n₀) (hL:x.Lies n₀ W v len) (h0:J [] W) :
 CallsIn F n prog 207 #[.func (.yield l) #[] #[],.pointer (some ⟨Bs,0,none⟩)] W fun e W'=>(∃v,e= .returned v)/\
  ((∃ys,ys=iQ len len/\J ys W')\/(∃pre,(∃k,k<len/\pre=iQ len (k+1))/\Jx pre W')):=by
 have HL:=zh hL;obtain⟨h1000,a,cap,rfl,-⟩:=hL;refine callsIn_of_wp func207 rfl hf ?_ hro;simp only [ntmps207,size_toArray,length_cons,length_nil,Nat.reduceAdd,Nat.reduceSub,Array.replicate_succ,Array.replicate_zero,push_toArray,append_toArray,nil_append,cons_append]
 gi_wp2
 gi_loopw [3] (fun vi wr=>∃k:Nat,k<=len/\vi= .int .i64 ((len:Int)-1-k)/\J (iQ len k) wr/\Below n₀ W wr) (fun vi _=>(intOf vi+1).toNat)
 case atStart=>exact⟨0,Nat.zero_le _,by simp,h0,Below.refl _ _⟩
 case round=>
  obtain⟨k,hk,rfl,hJs,hnx⟩:=hrel;by_cases hlt:k<len
  ·have hcs:=(hnx.cell (p:=⟨Bs,0,none⟩) hBl).trans hBs;have hLr:=HL.out.below hnx;obtain⟨-,a',cap',hv,hx⟩:=hLr;simp only [Value.slice.injEq,true_and]at hv;obtain⟨rfl,rfl⟩:=hv;rcases hx with hx|⟨b,off,rfl,hb,hx⟩
   ·omega
   obtain⟨i,hi⟩:∃i:Nat,(len:Int)-1-k=i:=⟨len-1-k,by omega⟩;have hii:i<len:=by omega
   have hik:len-1-k=i:=by omega
   obtain⟨q0,q1⟩:=hx i hii;obtain⟨fn,tmps,assign,body,hy,hR⟩:=hY _ ⟨i,hii⟩ wr hJs (by rw [pG _ _ hk];exact hlt);simp only at hy;unfold oD.el at hy;unfold bdN at hy q0;unfold bdD at hy q1;generalize(x.getD i (ByteArray.empty,0)).1=z0 at *;generalize(x.getD i (ByteArray.empty,0)).2=z1 at *;have d1:(i:Int)<(len:Int):=by omega
   have d0:(0:Int)<=(i:Int):=by omega
   have hlen1:(len:Int)<=1000:=by omega
   rw [hi];have HI:=zh hi;have HIK:=zh hik;clear hx hi hik hBs h0
   gi_wp2
   refine hR.mono ?_;rintro e W3 (⟨rfl,hJ3,hk3⟩|⟨rfl,hJx3⟩)
   ·gi_wp2
    go_roundw
    case rel=>exact⟨k+1,by omega,by have:=HI.out;first|(congr 1;omega)|(simp;omega),by rw [gH _ _ ⟨i,hii⟩ hlt HIK.out];exact hJ3,hnx.trans hk3⟩
    case measure=>first|(simp [intOf];done)|(simp [intOf];omega)
   ·gi_wp2
    refine bodyPost_ret (results_none rfl _ _ _) rfl ?_;exact⟨⟨_,rfl⟩,.inr ⟨_,⟨k,hlt,by rw [gH _ _ ⟨i,hii⟩ hlt HIK.out]⟩,hJx3⟩⟩
  ·obtain rfl:k=len:=by omega
   have hz:(k:Int)-1-k= -1:=by omega
   rw [hz];clear hz
   gi_wp2
   go_end0
   exact⟨⟨_,rfl⟩,.inl ⟨_,rfl,hJs⟩⟩
theorem KP(F:Fence)(n:Nat)(hf:F.fn 181)(hro:F.round=none)(a:Option Addr)(len cap:Nat)(w:World) :
 CallsIn F n prog 181 #[.slice a len cap] w fun e w'=>e= .returned (.func (.func 207) #[] #[.pointer (some ⟨w.heap.size,0,none⟩)])/\w'=w.alloc (.cells #[.slice a len cap] 54):=by
 refine callsIn_of_wp func181 rfl hf ?_ hro;simp only [ntmps181,size_toArray,length_cons,length_nil,Nat.reduceAdd,Nat.reduceSub,Array.replicate_succ,Array.replicate_zero,push_toArray,append_toArray,nil_append,cons_append]
 gi_wp2
 go_ret
 exact⟨rfl,rfl⟩
theorem BX(F:Fence)(n:Nat)(hf:F.fn 207)(hro:F.round=none)(hn:1<=n)(Bs n₀:Nat)(v:Value)(x:oD)(len:Nat)(w:World)(hBs:Bs<n₀)(hn₀:n₀<=w.heap.size)
 (hc:w.cell? ⟨Bs,0,none⟩=some v) (hL:x.Lies n₀ w v len) :
 SeqStopsK F n prog 207 #[.pointer (some ⟨Bs,0,none⟩)] (fun i:Fin len=>#[Value.int .i64 ((i.1:Nat):Int),x.el i.1]) (Below n₀) (fun ys=>ys=iQ len len)
  (fun pre=>∃k,k<len/\pre=iQ len (k+1)) len w:=fun l J Jx W hW _ _ hY h0=>
 Ig F n hf hro hn l Bs n₀ len x v J Jx hY W ((hW.cell (p:=⟨Bs,0,none⟩) (by show Bs<w.heap.size;omega)).trans hc) hBs (hL.below (hW.mono hn₀)) h0
open Go.RowKit Go.Shelf
attribute [local go_sem] Oper.semAt_some
abbrev lw:=List (ByteArray × Val)
abbrev stN(l:List (ByteArray × Val))(i:Nat):ByteArray:=(l.getD i (ByteArray.empty,Val.zero)).1
abbrev stV(l:List (ByteArray × Val))(i:Nat):Val:=(l.getD i (ByteArray.empty,Val.zero)).2
structure yO(W:World)(b o:Nat)(n:ByteArray)(x:Val):Prop where
 p0:W.cell? ⟨b,o,none⟩=some (.string n)
 p1:W.cell? ⟨b,o+1,none⟩=some (.int .i64 x.dim)
 p2:W.cell? ⟨b,o+2,none⟩=some (.bool x.yes)
 p3:W.cell? ⟨b,o+3,none⟩=some (.int .i64 x.n)
 p4:W.cell? ⟨b,o+4,none⟩=some (.int .i64 x.d)
theorem yO.same{W W':World}{b o:Nat}{n:ByteArray}{x:Val}(h:yO W b o n x)(hw:∀o,W'.cell? ⟨b,o,none⟩=W.cell? ⟨b,o,none⟩):yO W' b o n x:=
 ⟨by rw [hw];exact h.p0,by rw [hw];exact h.p1,by rw [hw];exact h.p2,by rw [hw];exact h.p3,by rw [hw];exact h.p4⟩
def lw.el(x:lw)(i:Nat):Value:=.agg #[.string (stN x i),.int .i64 (stV x i).dim,.bool (stV x i).yes,.int .i64 (stV x i).n,.int .i64 (stV x i).d]
def lw.Lies(x:lw)(n₀:Nat)(W:World)(v:Value)(n:Nat):Prop:=
 n<=1000/\∃a cap,v= .slice a n cap/\(n=0\/∃b off,a=some ⟨b,off,none⟩/\b<n₀/\∀i,i<n->yO W b (off+i*5) (stN x i) (stV x i))
theorem lw.Lies.below{x:lw}{n₀ n:Nat}{W W':World}{v:Value}(h:lw.Lies x n₀ W v n)(hb:Below n₀ W W'):lw.Lies x n₀ W' v n:=by
 obtain⟨h0,a,cap,hv,h1⟩:=h;refine⟨h0,a,cap,hv,h1.imp id ?_⟩;rintro⟨b,off,ha,hlt,hc⟩;exact⟨b,off,ha,hlt,fun i hi=>(hc i hi).same fun o=>hb.cell (p:=⟨b,o,none⟩) hlt⟩
theorem Ie(F:Fence)(n:Nat)(hf:F.fn 182)(hro:F.round=none)(hn:1<=n)(l Bs n₀ len:Nat)(x:lw)(v:Value)(J Jx:List (Fin len)->World->Prop)
 (hY:∀pre (i:Fin len) W,J pre W->pre.length<len->YieldAt F (n-1) prog l #[.int .i64 ((i.1:Nat):Int),x.el i.1] W fun e W'=>
  (e= .returned (.bool true)/\J (pre++[i]) W'/\Below n₀ W W')\/(e= .returned (.bool false)/\Jx (pre++[i]) W'))
 (W:World) (hBs:W.cell? ⟨Bs,0,none⟩=some v) (hBl:Bs<n₀) (hL:x.Lies n₀ W v len) (h0:J [] W) :
 CallsIn F n prog 182 #[.func (.yield l) #[] #[],.pointer (some ⟨Bs,0,none⟩)] W fun e W'=>(∃v,e= .returned v)/\
  ((∃ys,ys=iQ len len/\J ys W')\/(∃pre,(∃k,k<len/\pre=iQ len (k+1))/\Jx pre W')):=by
 have HL:=zh hL;obtain⟨h1000,a,cap,rfl,-⟩:=hL;refine callsIn_of_wp func182 rfl hf ?_ hro;simp only [ntmps182,size_toArray,length_cons,length_nil,Nat.reduceAdd,Nat.reduceSub,Array.replicate_succ,Array.replicate_zero,push_toArray,append_toArray,nil_append,cons_append]
 gi_wp2
 gi_loopw [3] (fun vi wr=>∃k:Nat,k<=len/\vi= .int .i64 ((len:Int)-1-k)/\J (iQ len k) wr/\Below n₀ W wr) (fun vi _=>(intOf vi+1).toNat)
 case atStart=>exact⟨0,Nat.zero_le _,by simp,h0,Below.refl _ _⟩
 case round=>
  obtain⟨k,hk,rfl,hJs,hnx⟩:=hrel;by_cases hlt:k<len
  ·have hcs:=(hnx.cell (p:=⟨Bs,0,none⟩) hBl).trans hBs;have hLr:=HL.out.below hnx;obtain⟨-,a',cap',hv,hx⟩:=hLr;simp only [Value.slice.injEq,true_and]at hv;obtain⟨rfl,rfl⟩:=hv;rcases hx with hx|⟨b,off,rfl,hb,hx⟩
   ·omega
   obtain⟨i,hi⟩:∃i:Nat,(len:Int)-1-k=i:=⟨len-1-k,by omega⟩;have hii:i<len:=by omega
   have hik:len-1-k=i:=by omega
   obtain⟨q0,q1,q2,q3,q4⟩:=hx i hii;obtain⟨fn,tmps,assign,body,hy,hR⟩:=hY _ ⟨i,hii⟩ wr hJs (by rw [pG _ _ hk];exact hlt);simp only at hy;unfold lw.el at hy;generalize stN x i=z0 at *;generalize stV x i=zz at *;obtain⟨z1,z2,z3,z4⟩:=zz;dsimp only at hy q1 q2 q3 q4;have d1:(i:Int)<(len:Int):=by omega
   have d0:(0:Int)<=(i:Int):=by omega
   have hlen1:(len:Int)<=1000:=by omega
   rw [hi];have HI:=zh hi;have HIK:=zh hik;clear hx hi hik hBs h0
   gi_wp2
   refine hR.mono ?_;rintro e W3 (⟨rfl,hJ3,hk3⟩|⟨rfl,hJx3⟩)
   ·gi_wp2
    go_roundw
    case rel=>exact⟨k+1,by omega,by have:=HI.out;first|(congr 1;omega)|(simp;omega),by rw [gH _ _ ⟨i,hii⟩ hlt HIK.out];exact hJ3,hnx.trans hk3⟩
    case measure=>first|(simp [intOf];done)|(simp [intOf];omega)
   ·gi_wp2
    refine bodyPost_ret (results_none rfl _ _ _) rfl ?_;exact⟨⟨_,rfl⟩,.inr ⟨_,⟨k,hlt,by rw [gH _ _ ⟨i,hii⟩ hlt HIK.out]⟩,hJx3⟩⟩
  ·obtain rfl:k=len:=by omega
   have hz:(k:Int)-1-k= -1:=by omega
   rw [hz];clear hz
   gi_wp2
   go_end0
   exact⟨⟨_,rfl⟩,.inl ⟨_,rfl,hJs⟩⟩
theorem BV(F:Fence)(n:Nat)(hf:F.fn 140)(hro:F.round=none)(a:Option Addr)(len cap:Nat)(w:World) :
 CallsIn F n prog 140 #[.slice a len cap] w fun e w'=>e= .returned (.func (.func 182) #[] #[.pointer (some ⟨w.heap.size,0,none⟩)])/\w'=w.alloc (.cells #[.slice a len cap] 47):=by
 refine callsIn_of_wp func140 rfl hf ?_ hro;simp only [ntmps140,size_toArray,length_cons,length_nil,Nat.reduceAdd,Nat.reduceSub,Array.replicate_succ,Array.replicate_zero,push_toArray,append_toArray,nil_append,cons_append]
 gi_wp2
 go_ret
 exact⟨rfl,rfl⟩
theorem rE(F:Fence)(n:Nat)(hf:F.fn 182)(hro:F.round=none)(hn:1<=n)(Bs n₀:Nat)(v:Value)(x:lw)(len:Nat)(w:World)(hBs:Bs<n₀)(hn₀:n₀<=w.heap.size)
 (hc:w.cell? ⟨Bs,0,none⟩=some v) (hL:x.Lies n₀ w v len) :
 SeqStopsK F n prog 182 #[.pointer (some ⟨Bs,0,none⟩)] (fun i:Fin len=>#[Value.int .i64 ((i.1:Nat):Int),x.el i.1]) (Below n₀) (fun ys=>ys=iQ len len)
  (fun pre=>∃k,k<len/\pre=iQ len (k+1)) len w:=fun l J Jx W hW _ _ hY h0=>
 Ie F n hf hro hn l Bs n₀ len x v J Jx hY W ((hW.cell (p:=⟨Bs,0,none⟩) (by show Bs<w.heap.size;omega)).trans hc) hBs (hL.below (hW.mono hn₀)) h0
open Go.RowKit Go.Shelf
attribute [local go_sem] Oper.semAt_some
theorem toList_inj{a b:ByteArray}(h:a.toList=b.toList):a=b:=by
 rw [ByteArray.toList_eq,ByteArray.toList_eq]at h;exact ByteArray.ext (Array.ext' h)
theorem jB{α:Type}(env:List (ByteArray × α))(s:ByteArray)(i:Nat)(d:ByteArray × α)(hi:i<env.length)(he:(env.getD i d).1=s)(hl:∀j,i<j->j<env.length->(env.getD j d).1≠s):dO env s=some (env.getD i d).2:=by
 have h1:env=env.take i++env.getD i d::env.drop (i+1):=by
  rw [getD_eq_getElem?_getD,getElem?_eq_getElem hi,Option.getD_some,getElem_cons_drop,take_append_drop]
 have h2:(env.drop (i+1)).reverse.find? (fun p=>decide (p.1=s))=none:=by
  rw [find?_eq_none];intro x hx;obtain⟨k,hk,rfl⟩:=getElem_of_mem (mem_reverse.1 hx);have hk2:i+1+k<env.length:=by rw [length_drop]at hk;omega
  have:=hl (i+1+k) ze hk2;rw [getD_eq_getElem?_getD,getElem?_eq_getElem hk2,Option.getD_some]at this;rw [getElem_drop];simpa using this
 unfold dO;generalize hz:env.getD i d=z at *;rw [h1,reverse_append,reverse_cons,append_assoc,find?_append,h2];simp [he]
theorem jC{α:Type}(env:List (ByteArray × α))(s:ByteArray)(d:ByteArray × α)(hl:∀j,j<env.length->(env.getD j d).1≠s):dO env s=none:=by
 unfold dO;rw [Option.map_eq_none_iff,find?_eq_none];intro x hx;obtain⟨k,hk,rfl⟩:=getElem_of_mem (mem_reverse.1 hx);have:=hl k hk;rw [getD_eq_getElem?_getD,getElem?_eq_getElem hk,Option.getD_some]at this;simpa using this
def l6(env:List (ByteArray × Int))(s:ByteArray):Int × Bool:=if bT s.toList≠0 then(bT s.toList,true)else match dO env s with|some m=>(m,true)|none=>(0,false)
theorem Aw(env:List (ByteArray × Int))(s:ByteArray):eF env s=if(l6 env s).2=true then((l6 env s).1,0)else(0,5):=by
 unfold eF l6;by_cases h:bT s.toList≠0
 ·rw [if_pos h,if_pos h];simp
 ·rw [if_neg h,if_neg h];cases dO env s<;>simp
def LkP(env:List (ByteArray × Int))(s:ByteArray)(w:World)(e:Ending)(w':World):Prop:=e= .returned (.tuple #[.int .i64 (l6 env s).1,.bool (l6 env s).2])/\w.Grows w'
structure mH(B:Nat)(s:ByteArray)(m:Int)(q:Bool)(W:World):Prop where
 nm:W.heap[B]? =some (.cells #[.string s] 9 (0,0))
 res:W.heap[B+1]? =some (.cells #[.int .i64 m] 3 (0,0))
 ok:W.heap[B+2]? =some (.cells #[.bool q] 4 (0,0))
 size:B+4<=W.heap.size
theorem mH.own{B:Nat}{s:ByteArray}{m:Int}{q:Bool}{X Y:World}{row:Option Nat}(h:mH B s m q X)(hg:X.grownBy Y row)(hr:∀r,row=some r->∃o:Obj,X.heap[r]? =some o/\o.isCells=false):mH B s m q Y:=
 ⟨(grownBy_keeps_cells hg hr h.nm rfl).trans h.nm,(grownBy_keeps_cells hg hr h.res rfl).trans h.res,(grownBy_keeps_cells hg hr h.ok rfl).trans h.ok,Nat.le_trans h.size hg.size⟩
theorem mH.alloc{B:Nat}{s:ByteArray}{m:Int}{q:Bool}{X:World}(h:mH B s m q X)(o:Obj):mH B s m q (X.alloc o):=h.own (World.grownBy_alloc X o none) (fun r e=>by cases e)
def PX(B:Nat)(s:ByteArray)(L:List (ByteArray × Int))(w:World)(c:Code)(pre:List (Fin L.length))(W:World):Prop:=
 (c= .ret/\∃ini i,pre=ini++[i]/\(∀j∈ini,bdN L j.1≠s)/\bdN L i.1=s/\mH B s (bdD L i.1) true W)/\Below w.heap.size w W
theorem Ga(s:ByteArray)(L:List (ByteArray × Int))(v:Value)(w:World)(h:aU w v L)(hs:bT s.toList≠0):Calls prog 138 #[.string s,v] w (LkP L s w):=by
 obtain⟨-,a,cap,rfl,-⟩:=h;have HF:Hid (l6 L s=(bT s.toList,true)):=zh (by unfold l6;rw [if_pos hs]);have HI:Hid (∀w,Calls prog 47 #[.string s] w fun e w'=>e= .returned (.tuple #[.int .i64 (bT s.toList),.bool true])/\w=w'):=zh (fun w=>(jO s w).mono (by rintro e w' ⟨rfl,rfl⟩;rw [decide_eq_true hs];exact⟨rfl,rfl⟩));clear hs;generalize bT s.toList=D at *
 go_enter func138,ntmps138
 go_wp2_with (go_at_call 47;refine(HI.out _).mono ?_;rintro e w' ⟨rfl,rfl⟩)
 go_returns
 unfold LkP;rw [HF.out];exact⟨rfl,.of_below af⟩
theorem F9(s:ByteArray)(L:List (ByteArray × Int))(v:Value)(w:World)(h:aU w v L)(hs:bT s.toList=0):Calls prog 138 #[.string s,v] w (LkP L s w):=by
 have HV:=zh h;obtain⟨-,a,cap,rfl,-⟩:=h;have HS:Hid (l6 L s=match dO L s with|some m=>(m,true)|none=>(0,false)):=zh (by unfold l6;rw [if_neg ze]);have HI:Hid (∀w,Calls prog 47 #[.string s] w fun e w'=>e= .returned (.tuple #[.int .i64 0,.bool false])/\w=w'):=zh (fun w=>(jO s w).mono (by rintro e w' ⟨rfl,rfl⟩;rw [hs];exact⟨rfl,rfl⟩));clear hs;refine(callsIn_wide (n:=6)).1 ?_;refine callsIn_of_wp_marks func138 rfl trivial ?_ rfl;simp only [ntmps138,size_toArray,length_cons,length_nil,Nat.reduceAdd,Nat.reduceSub,Array.replicate_succ,Array.replicate_zero,push_toArray,append_toArray,nil_append,cons_append]
 gi_wp2_with (first
  |(refine⟨trivial, ?_⟩;gi_at_call 47;refine(callsIn_wide.2 (HI.out _)).mono ?_;rintro e w' ⟨rfl,rfl⟩)
  |(refine⟨trivial, ?_⟩;gi_at_call 181;refine(KP Fence.wide _ trivial rfl _ _ _ _).mono ?_;rintro e w' ⟨rfl,rfl⟩))
 obtain⟨W0,hW0⟩:∃W0,(((w.alloc (.cells #[.string s] 9)).alloc (.cells #[.int .i64 0] 3)).alloc (.cells #[.bool false] 4)).alloc (.cells #[.slice a L.length cap] 54)=W0:=⟨_,rfl⟩;have hsz:W0.heap.size=w.heap.size+4:=by rw [<-hW0];simp
 have hB0:Below w.heap.size w W0:=by rw [<-hW0];(exact af)
 have hm0:mH w.heap.size s 0 false W0:=by rw [<-hW0];exact⟨by(repeat(first|(rw [aB,if_pos zH];done)|(rw [aB,if_neg zp])|(rw [aB,if_neg zH]))),by(repeat(first|(rw [aB,if_pos zH];done)|(rw [aB,if_neg zp])|(rw [aB,if_neg zH]))),by(repeat(first|(rw [aB,if_pos zH];done)|(rw [aB,if_neg zp])|(rw [aB,if_neg zH]))),by simp⟩
 have hbk:W0.cell? ⟨w.heap.size+3,0,none⟩=some (.slice a L.length cap):=by rw [<-hW0,World.cell?_alloc_at _ _ _ _ zg];rfl
 rw [hW0];clear hW0;have HB0:=zh hB0;have HM0:=zh hm0;have HVW:=zh (HV.out.below (Nat.le_refl _) hB0)
 refine wpIn_rangeFunc_ownH (F:=Fence.wide) rfl ze (gf:=207) (lb:=#[.pointer (some ⟨w.heap.size+3,0,none⟩)]) rfl trivial (enters_of func207 zf rfl)
  (BX Fence.wide 5 trivial rfl ze (w.heap.size+3) W0.heap.size (.slice a L.length cap) L L.length W0 ze (Nat.le_refl _) hbk HVW.out.lies) belowK_t (belowK_b (Nat.le_refl _)) (Below.refl _ _) (fun _=>rfl)
  (fun pre W=>(mH w.heap.size s 0 false W/\∀j∈pre,bdN L j.1≠s)/\Below w.heap.size w W)
  (PX w.heap.size s L w)
  (OwnFrom.and (Own.from (fun s A B row hs hg hr=>⟨hs.1.own hg hr,hs.2⟩) _) (ownFrom_below (Nat.le_refl _) ze))
  (fun c=>OwnFrom.and (Own.from (fun s A B row hs hg hr=>by obtain⟨h1,ini,i,h2,h3,h5,h4⟩:=hs;exact⟨h1,ini,i,h2,h3,h5,h4.own hg hr⟩) _) (ownFrom_below (Nat.le_refl _) ze))
  ⟨⟨hm0,fun j hj=>by cases hj⟩,hB0⟩
  (fun i a' W=>∃Bx,w.heap.size+3<Bx/\W.heap[Bx]? =some (.cells #[.string (bdN L i.1),.int .i64 (bdD L i.1)] 64 (0,0))/\
   a'= {tmps:=#[.string s,.slice a L.length cap,.pointer (some ⟨w.heap.size,0,none⟩),undef,.pointer (some ⟨w.heap.size+1,0,none⟩),.pointer (some ⟨w.heap.size+1+1,0,none⟩),.int .i64 0,.bool false,undef,.pointer (some ⟨Bx,0,none⟩),.tuple #[.int .i64 0,.bool false],.string s,.tuple #[.int .i64 0,.bool false],.int .i64 0,.bool false,.bool false,undef,.slice a L.length cap,.func (.func 207) #[] #[.pointer (some ⟨w.heap.size+1+1+1,0,none⟩)],.int .i64 ((i.1:Nat):Int),oD.el L i.1,undef,undef,undef,undef,undef,undef],defers:=[]})
  (fun i a' _ X Y row hs hg hr=>by obtain⟨Bx,h1,h2,h3⟩:=hs;exact⟨Bx,h1,(grownBy_keeps_cells hg (fun r e=>(hr r e).2) h2 rfl).trans h2,h3⟩)
  ?assign ?body ?done ?stop
 case assign=>
  rintro l pre i W K ⟨⟨hm,hpre⟩,hB1⟩ hK;unfold oD.el
  gi_wp2
  have hs1:=hm.size;refine hK _ _ ((KeepsOthers.alloc _ _).from _) ((Below.refl _ W).alloc ze _) ⟨⟨hm.alloc _,hpre⟩,hB1.alloc hB1.size _⟩ ⟨W.heap.size,by omega,heap_alloc_new _ _,rfl⟩
 case body=>
  rintro l pre i a' W hl ⟨r,hr⟩ ⟨⟨hm,hpre⟩,hB1⟩ ⟨Bx,hBx,hbx,rfl⟩ hlt;have HM:=zh hm;have HB1:=zh hB1;have HP:=zh hpre;have q0:W.cell? ⟨Bx,0,none⟩=some (.string (bdN L i.1)):=cell_of_row _ _ _ _ _ _ hbx;have q1:W.cell? ⟨Bx,1,none⟩=some (.int .i64 (bdD L i.1)):=cell_of_row _ _ _ _ _ _ hbx;have qn:W.cell? ⟨w.heap.size,0,none⟩=some (.string s):=cell_of_row _ _ _ _ _ _ hm.nm;have r0:W.cell? ⟨w.heap.size+1,0,none⟩=some (.int .i64 0):=cell_of_row _ _ _ _ _ _ hm.res;have rk:W.cell? ⟨w.heap.size+1+1,0,none⟩=some (.bool false):=cell_of_row _ _ _ _ _ _ hm.ok;have rf:∀j,W.frozen? ⟨w.heap.size+1,j,none⟩=false:=fun j=>Joins.unfrozen_of_block hm.res j;have rg:∀j,W.frozen? ⟨w.heap.size+1+1,j,none⟩=false:=fun j=>Joins.unfrozen_of_block hm.ok j;unfold oD.el;generalize hN:bdN L i.1=nk at *;generalize hD:bdD L i.1=dk at *;have HN:=zh hN;have HD:=zh hD;clear hm hpre hB1 hbx hN hD;by_cases he:nk=s
  ·have HE:=zh he;have he2:(nk.toList==s.toList)=true:=by rw [he];simp
   clear he
   gi_wp2
   have hs1:=HM.out.size;have hh:∀k,k≠w.heap.size+1->k≠w.heap.size+2->((W.setCell ⟨w.heap.size+1,0,none⟩ (.int .i64 dk)).setCell ⟨w.heap.size+2,0,none⟩ (.bool true)).heap[k]? =W.heap[k]?:=fun k hk hk2=>(Below.heap_setCell _ _ _ _ hk2).trans (Below.heap_setCell _ _ _ _ hk)
   have key:mH w.heap.size s dk true ((W.setCell ⟨w.heap.size+1,0,none⟩ (.int .i64 dk)).setCell ⟨w.heap.size+2,0,none⟩ (.bool true)):=by
    exact QH
   have kf:KeepsFrom W0.heap.size W ((W.setCell ⟨w.heap.size+1,0,none⟩ (.int .i64 dk)).setCell ⟨w.heap.size+2,0,none⟩ (.bool true)):=⟨by simp,fun k o hBk hk _=>by
    rw [hh _ ze ze];exact hk⟩
   have bl:Below w.heap.size w ((W.setCell ⟨w.heap.size+1,0,none⟩ (.int .i64 dk)).setCell ⟨w.heap.size+2,0,none⟩ (.bool true)):=
    (HB1.out.setCell (by show w.heap.size<=w.heap.size+1;omega) _).setCell (by show w.heap.size<=w.heap.size+2;omega) _
   exact⟨kf,⟨rfl,pre,i,rfl,HP.out,by rw [HN.out];exact HE.out,by rw [HD.out];exact key⟩,bl⟩
  ·have HE:=zh he
   have he2:(nk.toList==s.toList)=false:=by
    rw [beq_eq_false_iff_ne];exact fun h=>he (toList_inj h)
   clear he
   gi_wp2
   refine⟨KeepsFrom.refl _ _,Below.refl _ _,⟨⟨HM.out,fun j hj=>?_⟩,HB1.out⟩⟩;rcases mem_append.1 hj with h1|h1
   ·exact HP.out j h1
   ·obtain rfl:j=i:=by simpa using h1
    rw [HN.out];exact HE.out
 case done=>
  rintro D xs W hD rfl ⟨⟨hm,hpre⟩,hB1⟩ hK;have HM:=zh hm;have HB1:=zh hB1;have HP:=zh hpre;have r0:W.cell? ⟨w.heap.size+1,0,none⟩=some (.int .i64 0):=cell_of_row _ _ _ _ _ _ hm.res;have rk:W.cell? ⟨w.heap.size+1+1,0,none⟩=some (.bool false):=cell_of_row _ _ _ _ _ _ hm.ok;have rf:∀j,W.frozen? ⟨w.heap.size+1,j,none⟩=false:=fun j=>Joins.unfrozen_of_block hm.res j;have rg:∀j,W.frozen? ⟨w.heap.size+1+1,j,none⟩=false:=fun j=>Joins.unfrozen_of_block hm.ok j;clear hm hB1 hpre
  gi_wp2
  have hDW:=(Array.getElem?_eq_some_iff.1 hK).1;have hs1:=HM.out.size;have hh:∀k,k≠w.heap.size+1->k≠w.heap.size+2->((W.setCell ⟨w.heap.size+1,0,none⟩ (.int .i64 0)).setCell ⟨w.heap.size+2,0,none⟩ (.bool false)).heap[k]? =W.heap[k]?:=fun k hk hk2=>(Below.heap_setCell _ _ _ _ hk2).trans (Below.heap_setCell _ _ _ _ hk)
  have m2:mH w.heap.size s 0 false ((W.setCell ⟨w.heap.size+1,0,none⟩ (.int .i64 0)).setCell ⟨w.heap.size+2,0,none⟩ (.bool false)):=by
   exact QH
  have bl:Below w.heap.size w ((W.setCell ⟨w.heap.size+1,0,none⟩ (.int .i64 0)).setCell ⟨w.heap.size+2,0,none⟩ (.bool false)):=
   (HB1.out.setCell (by show w.heap.size<=w.heap.size+1;omega) _).setCell (by show w.heap.size<=w.heap.size+2;omega) _
  have hK':((W.setCell ⟨w.heap.size+1,0,none⟩ (.int .i64 0)).setCell ⟨w.heap.size+2,0,none⟩ (.bool false)).heap[D]? =some (.deferred (some [])):=by rw [hh _ ze ze];exact hK
  refine⟨by simp,.inl ⟨_,_,rfl,run_takeDeferred hK', ?_⟩⟩;have m3:=m2.own (grownBy_putObj' _ D (.deferred none)) (fun r e=>by cases e;exact⟨_,hK',rfl⟩);have bl3:=bl.trans (belowK_b (w:=w) (Nat.le_refl _) _ D _ (.deferred none) ze hK' rfl rfl);show LeavesInM Fence.wide 6 prog f138 _ _ _ _ (((W.setCell ⟨w.heap.size+1,0,none⟩ (.int .i64 0)).setCell ⟨w.heap.size+2,0,none⟩ (.bool false)).putObj D (.deferred none));generalize(((W.setCell ⟨w.heap.size+1,0,none⟩ (.int .i64 0)).setCell ⟨w.heap.size+2,0,none⟩ (.bool false)).putObj D (.deferred none))=W9 at m3 bl3 ⊢;have e0:W9.cell? ⟨w.heap.size+1,0,none⟩=some (.int .i64 0):=cell_of_row _ _ _ _ _ _ m3.res;have ek:W9.cell? ⟨w.heap.size+1+1,0,none⟩=some (.bool false):=cell_of_row _ _ _ _ _ _ m3.ok;have hn:dO L s=none:=jC L s (ByteArray.empty,0) fun j hj=>HP.out ⟨j,hj⟩ (jl _ zg);refine⟨.tuple #[.int .i64 0,.bool false], ?_, ?_,.of_below bl3⟩
  ·simp [results,f138,go_sem,e0,ek]
  ·rw [HS.out,hn]
 case stop=>
  rintro D c pre W hD ⟨k,hk,rfl⟩ ⟨⟨rfl,ini,i,hin,hini,hsi,hm1⟩,hB1⟩ hK;have hm:=hm1.own (grownBy_putObj' W D (.deferred none)) (fun r e=>by cases e;exact⟨_,hK,rfl⟩);have bl3:=hB1.trans (belowK_b (w:=w) (Nat.le_refl _) W D _ (.deferred none) ze hK rfl rfl)
  gi_wp2
  refine⟨by simp,.inl ⟨_,_,rfl,run_takeDeferred hK, ?_⟩⟩;generalize W.putObj D (.deferred none)=W9 at hm bl3 ⊢;have e0:W9.cell? ⟨w.heap.size+1,0,none⟩=some (.int .i64 (bdD L i.1)):=cell_of_row _ _ _ _ _ _ hm.res;have ek:W9.cell? ⟨w.heap.size+1+1,0,none⟩=some (.bool true):=cell_of_row _ _ _ _ _ _ hm.ok;have hii:L.length-1-k<L.length:=by omega
  rw [gH _ _ ⟨L.length-1-k,hii⟩ hk rfl]at hin;obtain⟨h1,h2⟩:=append_inj' hin rfl;subst h1;obtain rfl:(⟨L.length-1-k,hii⟩:Fin L.length)=i:=by simpa using h2
  have hn:dO L s=some (bdD L (L.length-1-k)):=jB L s (L.length-1-k) (ByteArray.empty,0) hii hsi fun j hj hjl=>hini ⟨j,hjl⟩ (jl _ zp);refine⟨.tuple #[.int .i64 (bdD L (L.length-1-k)),.bool true], ?_, ?_,.of_below bl3⟩
  ·simp [results,f138,go_sem,e0,ek]
  ·rw [HS.out,hn]
theorem Dj(s:ByteArray)(L:List (ByteArray × Int))(v:Value)(w:World)(h:aU w v L):Calls prog 138 #[.string s,v] w (LkP L s w):=by
 by_cases hs:bT s.toList=0
 ·exact F9 s L v w h hs
 ·exact Ga s L v w h hs

theorem nQ:∀(l:List UInt8) (c:UInt8),Lib.index l [c]=Lib.indexByte l c
 | [],c=>by simp [Lib.index,Lib.indexByte]
 |b::l,c=>by
  have ih:=nQ l c
  have hp:([c]:List UInt8).isPrefixOf (b::l)=(b==c):=by
   simp only [isPrefixOf,Bool.and_true];exact BEq.comm
  unfold Lib.index Lib.indexByte;rw [hp,ih]
def pz(t:ByteArray):ByteArray:=⟨(Lib.cut t.data.toList [46]).1.toArray⟩
def ny(t:ByteArray):ByteArray:=⟨(Lib.cut t.data.toList [46]).2.1.toArray⟩
def nY(t:ByteArray):Bool:=(Lib.cut t.data.toList [46]).2.2
theorem KC{t:ByteArray}{o:Nat}(h:Lib.indexByte t.data.toList 46=o)(ho:o<t.size):pz t=t.extract 0 o/\ny t=t.extract (o+1) t.size/\nY t=true:=by
 have e:Lib.cut t.data.toList [46]=(t.data.toList.take o,t.data.toList.drop (o+1),true):=by
  unfold Lib.cut;rw [nQ,h,if_pos ze];simp
 unfold pz ny nY;rw [e];refine⟨?_, ?_,rfl⟩
 ·apply ByteArray.ext;rw [ByteArray.data_extract];apply Array.ext';rw [Array.toList_extract];simp [List.extract]
 ·apply ByteArray.ext;rw [ByteArray.data_extract];apply Array.ext';rw [Array.toList_extract];simp only [List.extract];rw [take_of_length_le];rw [length_drop,Array.length_toList];exact Nat.le_refl _
theorem KD{t:ByteArray}(h:Lib.indexByte t.data.toList 46= -1):pz t=t/\ny t=⟨#[]⟩/\nY t=false:=by
 have e:Lib.cut t.data.toList [46]=(t.data.toList,[],false):=by
  unfold Lib.cut;rw [nQ,h,if_neg ze]
 unfold pz ny nY;rw [e];exact⟨by apply ByteArray.ext;simp,rfl,rfl⟩
theorem Jp(t:ByteArray)(w:World)(ht:t.size<=maxLen):Calls prog 221 #[.string t,.string ⟨#[46]⟩] w fun e w'=>e= .returned (.tuple #[.string (pz t),.string (ny t),.bool (nY t)])/\w.Grows w':=by
 unfold maxLen at ht;have HI:Hid _:=zh (fun w=>stringslite_Index_one t 46 w);have hge:=Lib.indexByte_ge t.data.toList 46;by_cases h:Lib.indexByte t.data.toList 46= -1
 ·have HC:=zh (KD h);rw [h]at HI;clear h hge
  go_enter func221,ntmps221
  go_wp2_with ((go_at_call 227;(with_reducible refine(HI.out _).mono ?_);rintro e w' ⟨rfl,rfl⟩))
  go_returns
  exact⟨by rw [HC.out.1,HC.out.2.1,HC.out.2.2];rfl,.of_below af⟩
 ·obtain⟨o,ho⟩:∃o:Nat,Lib.indexByte t.data.toList 46=o:=⟨(Lib.indexByte t.data.toList 46).toNat,by omega⟩
  have hlt:o<t.size:=by
   have:=(Lib.indexByte_some ho).1;have h2:=(List.getElem?_eq_some_iff.1 this).1;simpa using h2
  have HC:=zh (KC ho hlt);rw [ho]at HI;have h1:(o:Int)+1<=t.size:=by omega
  have h2:¬(o:Int)<0:=by omega
  have h3:(o:Int)<=t.size:=by omega
  have e1:(t.extract 0 (o:Int).toNat)=t.extract 0 o:=by rw [Int.toNat_natCast]
  have e2:t.extract ((o:Int)+1).toNat t.size=t.extract (o+1) t.size:=by congr 1
  have E:=zh (And.intro e1 e2);clear e1 e2 h hge ho
  go_enter func221,ntmps221
  go_wp2_with ((go_at_call 227;(with_reducible refine(HI.out _).mono ?_);rintro e w' ⟨rfl,rfl⟩))
  go_quiet (fail)
  go_wp2_with fail
  go_returns
  exact⟨by rw [HC.out.1,HC.out.2.1,HC.out.2.2];first|rfl|(simp;done),.of_below af⟩
theorem Ov(t:ByteArray)(w:World)(ht:t.size<=maxLen):Calls prog 216 #[.string t,.string ⟨#[46]⟩] w fun e w'=>e= .returned (.tuple #[.string (pz t),.string (ny t),.bool (nY t)])/\w.Grows w':=by
 have HI:Hid _:=zh (fun w=>Jp t w ht);generalize pz t=a at *;generalize ny t=b at *;generalize nY t=c at *
 go_enter func216,ntmps216
 go_wp2_with ((go_at_call 221;(with_reducible refine(HI.out _).mono ?_);rintro e w' ⟨rfl,bs,dr,rfl⟩))
 exact gz9

def ru(a b:ByteArray)(pt:Bool):Bool:=pq a.data.toList b.data.toList pt
def PR(t:ByteArray)(m:Int):Option (Int × Int × Int):=if ru (pz t) (ny t) (nY t)=true then G9 (pz t) (ny t) m else none
theorem Nw(a b:ByteArray)(pt:Bool):ru a b pt=(decide (1<=a.size)&&decide (a.size<=9)&&!(decide (1<a.size)&&decide (a.data.toList.head? =some 48))&&!(pt&&(decide (b.size<1) || decide (4<b.size)))):=by
 unfold ru pq;have h1:a.data.toList.length=a.size:=by simp
 have h2:b.data.toList.length=b.size:=by simp
 rw [h1,h2]
theorem head_eq{a:ByteArray}(h:0<a.size):(a.data.toList.head? =some 48)↔((a[0]'h).toNat:Int)=48:=by
 have h2:0<a.data.toList.length:=by simpa using h
 rw [head?_eq_getElem?,getElem?_eq_getElem h2];have e:a.data.toList[0]=a[0]'h:=by simp;rfl
 rw [e];constructor
 ·intro k;simp only [Option.some.injEq]at k;rw [k];rfl
 ·intro k
  congr 1
  apply UInt8.toNat_inj.1;have:(48:UInt8).toNat=48:=rfl;omega
def xX(a b:ByteArray)(pt:Bool)(m:Int):Option (Int × Int × Int):=if ru a b pt=true then G9 a b m else none
theorem KF{t:ByteArray}(h:nY t=false):(ny t).size=0:=by
 unfold nY Lib.cut at h;unfold ny Lib.cut
 split at h
 ·simp at h
 ·rename_i hc;rw [if_neg hc];rfl
theorem NW(t a b:ByteArray)(pt:Bool)(m:Int)(w:World)(hpt:pt=false->b.size=0)
 (HC:Hid (∀w,Calls prog 216 #[.string t,.string ⟨#[46]⟩] w fun e w'=>e= .returned (.tuple #[.string a,.string b,.bool pt])/\w.Grows w'))
 (u1 u4 u5 u6 u7 u8 u9 u10 u11 u12 u13 u14 u15 u16 u17 u18 u19 u20 u21 u22 u23 u24 u25 u26 u27 u28 u29 u30 u31 u32 u33 u34 u35 u36 u37 u38 u39 u40 u41 u42 u43 u44 u45 u46 u47 u48 u49 u50 u51 u52 u53 u54 u55 u56 u57 u58 u59 u60 u61 u62 u63 u64 u65 u66 u67 u68 u69 u70 u71 u72 u73 u74 u75 u76 u77 u78 u79 u80 u81 u82 u83 u84 u85 u86 u87 u88 u89 u90 u91 u92 u93 u94 u95 u96 u97 u98 u99 u100 u101 u102 u103 u104 u105 u106 u107 u108 u109 u110 u111 u112 u113 u114 u115 u116 u117 u118 u119 u120 u121 u122 u123 u124 u125 u126 u127 u128 u129 u130 u131 u132 u133 u134 u135 u136 u137 u138 u139 u140 u141:Value) :
 Code.wp prog (tlD (tlD (tlD (f212.body.getD .skip)))) (bodyPost prog f212 (fun e w'=>e= .returned (mr (xX a b pt m))/\w.Grows w')) {tmps:=#[.string t,u1,.pointer (some ⟨w.heap.size,0,none⟩),.int .i64 m,u4,u5,u6,u7,u8,u9,u10,u11,u12,u13,u14,u15,u16,u17,u18,u19,u20,u21,u22,u23,u24,u25,u26,u27,u28,u29,u30,u31,u32,u33,u34,u35,u36,u37,u38,u39,u40,u41,u42,u43,u44,u45,u46,u47,u48,u49,u50,u51,u52,u53,u54,u55,u56,u57,u58,u59,u60,u61,u62,u63,u64,u65,u66,u67,u68,u69,u70,u71,u72,u73,u74,u75,u76,u77,u78,u79,u80,u81,u82,u83,u84,u85,u86,u87,u88,u89,u90,u91,u92,u93,u94,u95,u96,u97,u98,u99,u100,u101,u102,u103,u104,u105,u106,u107,u108,u109,u110,u111,u112,u113,u114,u115,u116,u117,u118,u119,u120,u121,u122,u123,u124,u125,u126,u127,u128,u129,u130,u131,u132,u133,u134,u135,u136,u137,u138,u139,u140,u141],defers:=[]} (w.alloc (.cells #[.int .i64 0,.int .i64 0] 23)):=by
 have hf:=Nw a b pt;have hbad (h:ru a b pt=false):xX a b pt m=none:=by unfold xX;rw [h];rfl
 have hgood (h:ru a b pt=true):xX a b pt m=G9 a b m:=by unfold xX;rw [h];rfl
 conv=>arg 2;whnf
 apply wp_seq_k;intro K1 hK1;have HK1:=zh hK1;clear hK1
 go_wp2_with ((go_at_call 216;(with_reducible refine(HC.out _).mono ?_);rintro e w' ⟨rfl,bs,dr,rfl⟩))
 clear HC;by_cases s1:1<=a.size
 case neg=>
  have HX:=zh (hbad (by rw [hf,decide_eq_false s1];rfl));have z1:(a.size:Int)<1:=by omega
  clear hf hbad hgood;refine HK1.out _ _ ?_;apply wp_seq_k;intro K2 hK2;have HK2:=zh hK2;clear hK2
  go_wp2_with fail
  go_returns
  exact⟨by rw [HX.out];rfl,.of_below af⟩
 by_cases s2:a.size<=9
 case neg=>
  have HX:=zh (hbad (by rw [hf,decide_eq_false s2,Bool.and_false];rfl));have z1:(9:Int)<(a.size:Int):=by omega
  clear hf hbad hgood;refine HK1.out _ _ ?_;apply wp_seq_k;intro K2 hK2;have HK2:=zh hK2;clear hK2
  go_wp2_with fail
  go_returns
  exact⟨by rw [HX.out];rfl,.of_below af⟩
 have h0:0<a.size:=by omega
 have hh:=head_eq h0
 have key (hz:(decide (1<a.size)&&decide (a.data.toList.head? =some 48))=false):ru a b pt=!(pt&&(decide (b.size<1) || decide (4<b.size))):=by
  rw [hf,decide_eq_true s1,decide_eq_true s2,hz];rfl
 by_cases s3:1<a.size
 ·by_cases s4:((a[0]'h0).toNat:Int)=48
  ·have HX:=zh (hbad (by rw [hf,decide_eq_true s3,decide_eq_true (hh.2 s4)];simp));have z1:(1:Int)<(a.size:Int):=by omega
   have z2:(a.size:Int)<=9:=by omega
   clear hf hbad hgood key hh;refine HK1.out _ _ ?_;apply wp_seq_k;intro K2 hK2;have HK2:=zh hK2;clear hK2
   go_wp2_with fail
   go_returns
   exact⟨by rw [HX.out];rfl,.of_below af⟩
  ·have hz:(decide (1<a.size)&&decide (a.data.toList.head? =some 48))=false:=by rw [decide_eq_false (fun h=>s4 (hh.1 h)),Bool.and_false]
   have hk:=key hz;have s7:(((a[0]'h0).toNat:Int)==48)=false:=by simpa using s4
   have z1:(1:Int)<(a.size:Int):=by omega
   have z2:(a.size:Int)<=9:=by omega
   clear hf key hh hz;cases pt
   ·have HX:=zh (hgood (by rw [hk];rfl));have hb0:=hpt rfl;clear hk hbad hgood hpt;refine HK1.out _ _ ?_;apply wp_seq_k;intro K2 hK2;have HK2:=zh hK2;clear hK2
    go_wp2_with fail
    refine HK2.out _ _ ?_;rw [HX.out];exact xW a b m w bs _ ze ze _ _ _ _ _ _ _ _ _ _ _ _ _ _ _ _ _ _ _ _ _ _ _ _ _ _ _ _ _ _ _ _ _ _ _ _ _ _ _ _ _ _ _ _ _ _ _ _ _ _ _ _ _ _ _ _ _ _ _ _ _ _ _ _ _ _ _ _ _ _ _ _ _ _ _ _ _ _ _ _ _ _ _ _ _ _ _ _ _ _ _ _ _ _ _ _ _ _ _ _ _ _ _ _ _ _ _ _ _ _ _ _ _ _ _ _ _ _ _ _ _ _ _ _ _ _ _ _ _ _ _ _ _ _ _ _ _ _
   ·clear hpt;by_cases s5:b.size<1
    ·have HX:=zh (hbad (by rw [hk,decide_eq_true s5];rfl));have z3:(b.size:Int)<1:=by omega
     clear hk hbad hgood;refine HK1.out _ _ ?_;apply wp_seq_k;intro K2 hK2;have HK2:=zh hK2;clear hK2
     go_wp2_with fail
     go_returns
     exact⟨by rw [HX.out];rfl,.of_below af⟩
    ·by_cases s6:4<b.size
     ·have HX:=zh (hbad (by rw [hk,decide_eq_true s6];simp));have z3:(4:Int)<(b.size:Int):=by omega
      clear hk hbad hgood;refine HK1.out _ _ ?_;apply wp_seq_k;intro K2 hK2;have HK2:=zh hK2;clear hK2
      go_wp2_with fail
      go_returns
      exact⟨by rw [HX.out];rfl,.of_below af⟩
     ·have HX:=zh (hgood (by rw [hk,decide_eq_false s5,decide_eq_false s6];rfl));have z3:(b.size:Int)<=4:=by omega
      have z4:(1:Int)<=(b.size:Int):=by omega
      clear hk hbad hgood;refine HK1.out _ _ ?_;apply wp_seq_k;intro K2 hK2;have HK2:=zh hK2;clear hK2
      go_wp2_with fail
      refine HK2.out _ _ ?_;rw [HX.out];exact xW a b m w bs _ ze ze _ _ _ _ _ _ _ _ _ _ _ _ _ _ _ _ _ _ _ _ _ _ _ _ _ _ _ _ _ _ _ _ _ _ _ _ _ _ _ _ _ _ _ _ _ _ _ _ _ _ _ _ _ _ _ _ _ _ _ _ _ _ _ _ _ _ _ _ _ _ _ _ _ _ _ _ _ _ _ _ _ _ _ _ _ _ _ _ _ _ _ _ _ _ _ _ _ _ _ _ _ _ _ _ _ _ _ _ _ _ _ _ _ _ _ _ _ _ _ _ _ _ _ _ _ _ _ _ _ _ _ _ _ _ _ _ _ _
 ·have hz:(decide (1<a.size)&&decide (a.data.toList.head? =some 48))=false:=by rw [decide_eq_false s3,Bool.false_and]
  have hk:=key hz;have z1:(a.size:Int)<=1:=by omega
  have z2:(1:Int)<=(a.size:Int):=by omega
  clear hf key hh hz;cases pt
  ·have HX:=zh (hgood (by rw [hk];rfl));have hb0:=hpt rfl;clear hk hbad hgood hpt;refine HK1.out _ _ ?_;apply wp_seq_k;intro K2 hK2;have HK2:=zh hK2;clear hK2
   go_wp2_with fail
   refine HK2.out _ _ ?_;rw [HX.out];exact xW a b m w bs _ ze ze _ _ _ _ _ _ _ _ _ _ _ _ _ _ _ _ _ _ _ _ _ _ _ _ _ _ _ _ _ _ _ _ _ _ _ _ _ _ _ _ _ _ _ _ _ _ _ _ _ _ _ _ _ _ _ _ _ _ _ _ _ _ _ _ _ _ _ _ _ _ _ _ _ _ _ _ _ _ _ _ _ _ _ _ _ _ _ _ _ _ _ _ _ _ _ _ _ _ _ _ _ _ _ _ _ _ _ _ _ _ _ _ _ _ _ _ _ _ _ _ _ _ _ _ _ _ _ _ _ _ _ _ _ _ _ _ _ _
  ·clear hpt;by_cases s5:b.size<1
   ·have HX:=zh (hbad (by rw [hk,decide_eq_true s5];rfl));have z3:(b.size:Int)<1:=by omega
    clear hk hbad hgood;refine HK1.out _ _ ?_;apply wp_seq_k;intro K2 hK2;have HK2:=zh hK2;clear hK2
    go_wp2_with fail
    go_returns
    exact⟨by rw [HX.out];rfl,.of_below af⟩
   ·by_cases s6:4<b.size
    ·have HX:=zh (hbad (by rw [hk,decide_eq_true s6];simp));have z3:(4:Int)<(b.size:Int):=by omega
     clear hk hbad hgood;refine HK1.out _ _ ?_;apply wp_seq_k;intro K2 hK2;have HK2:=zh hK2;clear hK2
     go_wp2_with fail
     go_returns
     exact⟨by rw [HX.out];rfl,.of_below af⟩
    ·have HX:=zh (hgood (by rw [hk,decide_eq_false s5,decide_eq_false s6];rfl));have z3:(b.size:Int)<=4:=by omega
     have z4:(1:Int)<=(b.size:Int):=by omega
     clear hk hbad hgood;refine HK1.out _ _ ?_;apply wp_seq_k;intro K2 hK2;have HK2:=zh hK2;clear hK2
     go_wp2_with fail
     refine HK2.out _ _ ?_;rw [HX.out];exact xW a b m w bs _ ze ze _ _ _ _ _ _ _ _ _ _ _ _ _ _ _ _ _ _ _ _ _ _ _ _ _ _ _ _ _ _ _ _ _ _ _ _ _ _ _ _ _ _ _ _ _ _ _ _ _ _ _ _ _ _ _ _ _ _ _ _ _ _ _ _ _ _ _ _ _ _ _ _ _ _ _ _ _ _ _ _ _ _ _ _ _ _ _ _ _ _ _ _ _ _ _ _ _ _ _ _ _ _ _ _ _ _ _ _ _ _ _ _ _ _ _ _ _ _ _ _ _ _ _ _ _ _ _ _ _ _ _ _ _ _ _ _ _ _
theorem N7(t:ByteArray)(m:Int):PR t m=NZ (Lib.cut t.data.toList [46]).1 (Lib.cut t.data.toList [46]).2.1 (Lib.cut t.data.toList [46]).2.2 m:=by
 unfold PR ru G9 NZ pz ny nY;simp [ByteArray.size]
theorem oK{s t:ByteArray}{m:Int}(h:jU s.data.toList=(t.data.toList,m)):qH s.data.toList=PR t m:=by
 unfold qH;rw [h,N7]
theorem Nj{s:ByteArray}{n:Nat}(h:s.size=n+1):s.data.toList.getLast? =some (s[n]' ze):=by
 have h3:s.data.toList.length=s.size:=by simp
 have h2:s.data.toList≠[]:=by
  intro e;rw [e]at h3;simp at h3;omega
 rw [getLast?_eq_some_getLast h2,getLast_eq_getElem]
 congr 1
 have e:s.data.toList.length-1=n:=by omega
 simp only [e];rfl
theorem GR{s:ByteArray}{n:Nat}(h:s.size=n+1):(s.extract 0 n).data.toList=s.data.toList.dropLast:=by
 rw [ByteArray.data_extract,Array.toList_extract];have h3:s.data.toList.length=s.size:=by simp
 simp only [List.extract,drop_zero,Nat.sub_zero,dropLast_eq_take]
 congr 1
 omega
theorem lD(s:ByteArray)(w:World)(hs:s.size<=maxLen):Calls prog 212 #[.string s] w fun e w'=>e= .returned (mr (qH s.data.toList))/\w.Grows w':=by
 by_cases h0:0<s.size
 ·obtain⟨n,hn⟩:∃n,s.size=n+1:=⟨s.size-1,by omega⟩;have hl:=Nj hn;have hd:=GR hn;have hm:s.size<=9223372036854775807:=by unfold maxLen at hs;omega
  have he:(s.extract 0 n).size<=maxLen:=by rw [ByteArray.size_extract];omega
  have hlt:n<s.size:=by omega
  obtain⟨c,hc⟩:∃c,s[n]'hlt=c:=⟨_,rfl⟩;rw [hc]at hl;have hN:(s.size:Int)=(n:Int)+1:=by omega
  by_cases c3:c=100
  ·have HF:Hid (qH s.data.toList=xX (pz (s.extract 0 n)) (ny (s.extract 0 n)) (nY (s.extract 0 n)) 3):=zh (oK (by unfold jU;rw [hl,c3,if_pos rfl,hd]));have HE:=zh he;have q1:((c.toNat:Int)==100)=true:=by rw [c3];rfl
   clear he hl hd c3 hs;exact gz8
  ·by_cases c4:c=109
   focus
    have HF:Hid (qH s.data.toList=xX (pz (s.extract 0 n)) (ny (s.extract 0 n)) (nY (s.extract 0 n)) 4):=zh (oK (by unfold jU;rw [hl,c4,if_neg zo,if_pos rfl,hd]));have HE:=zh he;have q1:((c.toNat:Int)==100)=false:=by rw [c4];rfl
    have q2:((c.toNat:Int)==109)=true:=by rw [c4];rfl
   rotate_left
   focus
    have HF:Hid (qH s.data.toList=xX (pz s) (ny s) (nY s) 2):=zh (oK (by unfold jU;rw [hl,if_neg (by simpa using c3),if_neg (by simpa using c4)]));have HE:=zh hs
    have q1:((c.toNat:Int)==100)=false:=by
     rw [beq_eq_false_iff_ne];intro k;exact c3 (UInt8.toNat_inj.1 (by have:(100:UInt8).toNat=100:=rfl;omega))
    have q2:((c.toNat:Int)==109)=false:=by
     rw [beq_eq_false_iff_ne];intro k;exact c4 (UInt8.toNat_inj.1 (by have:(109:UInt8).toNat=109:=rfl;omega))
   rotate_left
   all_goals
    clear he hl hd c3 c4 hs;exact gz8
 ·have h1:s.data.toList= []:=by
   have h3:s.data.toList.length=s.size:=by simp
   exact eq_nil_of_length_eq_zero ze
  have HF:Hid (qH s.data.toList=xX (pz s) (ny s) (nY s) 2):=zh (oK (by rw [h1];rfl));have HE:=zh hs;have hN:(s.size:Int)=0:=by omega
  clear h1 hs;exact gz8
end Go.Proofs.YtlheailebbngiaaGreatDoor
