import Derived.Test.YtlheailebbngiaaGreatDoorGShelf3
import Derived.Test.YtlheailebbngiaaGreatDoorGSyE
import Derived.Test.YtlheailebbngiaaGreatDoorGShelf4
import Derived.Test.YtlheailebbngiaaGreatDoorGSyW
import Derived.Test.YtlheailebbngiaaGreatDoorRows
import Derived.Below
import Derived.Handed
import Derived.LaidLaws
import Derived.LaidSub
import Derived.Lay
import Derived.Stop.LaidErr
import Derived.MakeChecks
import Derived.Lib.LaidTab
set_option linter.all false
set_option maxHeartbeats 16000000
set_option maxRecDepth 1000000
namespace Go.Proofs.YtlheailebbngiaaGreatDoor
open Go.Proofs.Tryz List
def dP(v:Vw)(env:List (ByteArray × Val))(e:Ex):Val × Int:=
 if v.ok=false\/(env.any fun p=>!p.2.ok)=true\/cK e=false then(.zero,1)
 else if(aD (aQ env) e).2≠0 then(.zero,(aD (aQ env) e).2)
 else if(ai v env e).2≠0 then(.zero,(ai v env e).2)else ai v env e
theorem nU{v:Vw}{env:List (ByteArray × Val)}{e:Ex}(hv:v.ok=true)(hE:∀p∈env,p.2.ok=true)(he:cK e=true)(hi:(aD (aQ env) e).2=0) :
 dP v env e=ai v env e/\okR (aD (aQ env) e).1 (ai v env e):=by
 have hf:aL e=true:=by
  unfold cK at he;simp only [Bool.and_eq_true]at he;exact he.2
 have h:=lU hv hE e hf hi;refine⟨?_,h⟩;unfold dP
 rw [if_neg (by
  rintro(h1|h1|h1)
  ·rw [hv]at h1;cases h1
  ·obtain⟨p,hp,h2⟩:=any_eq_true.1 h1;rw [hE p hp]at h2;cases h2
  ·rw [he]at h1;cases h1),if_neg ze]
 split<;>rename_i hc
 ·have:=h.bad hc;rw [<-this.1]
 ·rfl
def noN:ByteArray:=⟨#[]⟩
open Go.RowKit
def Tab(w:World):Prop:=Lib.TabIs prog w "internal/strconv.uint64pow10" .u64 Lib.pow10Tab
theorem Tab.below{w w':World}(h:Tab w)(hb:Below w.heap.size w w'):Tab w':=by
 unfold Tab Lib.TabIs World.var? at *
 cases hg:Program.globalNamed prog "internal/strconv.uint64pow10" with
 |none=>simp [hg]at h
 |some g=>
  simp only [hg,Option.bind_some]at h ⊢
  have hlt:g<w.heap.size:=by
   rcases Nat.lt_or_ge g w.heap.size with h'|h'
   ·exact h'
   ·rw [Array.getElem?_eq_none h']at h;simp at h
  rw [hb.block g hlt];exact h
theorem Tab.grow{w:World}(h:Tab w)(bs:Array Obj)(d:Nat):Tab (w.grow bs d):=h.below ((Below.refl _ _).grow (Nat.le_refl _) _ _)
theorem Tab.alloc{w:World}(h:Tab w)(o:Obj):Tab (w.alloc o):=h.below ((Below.refl _ _).alloc (Nat.le_refl _) _)
theorem Tab.drewN{w:World}(h:Tab w)(n:Nat):Tab (w.drewN n):=h.below ⟨rfl,rfl,rfl,Nat.le_refl _,fun _ _=>rfl⟩
theorem Tab.grows{w w':World}(h:Tab w)(hg:w.Grows w'):Tab w':=h.below hg.below
theorem Li(n:Int)(h0:-9223372036854775808<=n)(h1:n<=9223372036854775807)(w:World)(ht:Tab w):Calls prog 211 #[.int .i64 n] w fun e w'=>e= .returned (.string ⟨(Lib.itoa n).toArray⟩)/\w.Grows w':=
 (strconv_Itoa n h0 h1 w ht).mono fun e w' ⟨he,k,os,hw⟩=>⟨he,by
  subst hw;refine .of_below ⟨rfl,rfl,rfl,by simp [Sort.grow,World.drewN],fun j hj=>?_⟩;simp only [Sort.grow,World.drewN]
  rw [Array.getElem?_append_left hj]⟩
theorem Eg(x:Int)(h0:0<=x)(h1:x<=9)(w:World):Calls prog 211 #[.int .i64 x] w fun e w'=>e= .returned (.string ⟨(Lib.decDigits x.toNat).toArray⟩)/\w=w':=by
 obtain⟨i,rfl⟩:=Int.eq_ofNat_of_zero_le h0;exact(strconv_Itoa_small i ze w).mono fun e w' ⟨he,hw⟩=>⟨he,hw.symm⟩
open Go.RowKit Go.Shelf Go.Sort Go.Lib
attribute [local go_sem] Oper.semAt_some
def qL(n₀:Nat)(W:World)(v:Value)(l:List Int):Prop:=
 l.length<=1000/\∃a cap,v= .slice a l.length cap/\(l.length=0\/∃b off,a=some ⟨b,off,none⟩/\b<n₀/\∀i,i<l.length->W.cell? ⟨b,off+i,none⟩=some (.int .i64 (l.getD i 0)))
theorem qL.below{n₀:Nat}{W W':World}{v:Value}{l:List Int}(h:qL n₀ W v l)(hb:Below n₀ W W'):qL n₀ W' v l:=by
 obtain⟨h0,a,cap,hv,h1⟩:=h;refine⟨h0,a,cap,hv,h1.imp id ?_⟩;rintro⟨b,off,ha,hlt,hc⟩;exact⟨b,off,ha,hlt,fun i hi=>(hb.cell (p:=⟨b,off+i,none⟩) hlt).trans (hc i hi)⟩
theorem bJ.lies{w:World}{v:Value}{l:List Int}(h:bJ w v l):qL w.heap.size w v l:=h
theorem CB(l:List Int)(k:Nat)(hk:k<l.length):l.take (k+1)=l.take k++[l.getD k 0]:=by
 exact Pv
theorem IY(F:Fence)(n:Nat)(hf:F.fn 98)(hro:F.round=none)(hn:1<=n)(l Bs n₀:Nat)(x:List Int)(v:Value)(J Jx:List Int->World->Prop)
 (hY:∀pre (i:Int) W,J pre W->pre.length<x.length->YieldAt F (n-1) prog l #[.int .i64 i] W fun e W'=>
  (e= .returned (.bool true)/\J (pre++[i]) W'/\Below n₀ W W')\/(e= .returned (.bool false)/\Jx (pre++[i]) W'))
 (W:World) (hBs:W.cell? ⟨Bs,0,none⟩=some v) (hBl:Bs<n₀) (hL:qL n₀ W v x) (h0:J [] W) :
 CallsIn F n prog 98 #[.func (.yield l) #[] #[],.pointer (some ⟨Bs,0,none⟩)] W fun e W'=>(∃v,e= .returned v)/\
  ((∃ys,ys=x/\J ys W')\/(∃pre,(∃k,k<x.length/\pre=x.take (k+1))/\Jx pre W')):=by
 have HL:=zh hL;obtain⟨h1000,a,cap,rfl,-⟩:=hL;refine callsIn_of_wp func98 rfl hf ?_ hro;simp only [ntmps98,size_toArray,length_cons,length_nil,Nat.reduceAdd,Nat.reduceSub,Array.replicate_succ,Array.replicate_zero,push_toArray,append_toArray,nil_append,cons_append]
 gi_wp2
 gi_loopw [7] (fun vi wr=>∃k:Nat,k<=x.length/\vi= .int .i64 k/\J (x.take k) wr/\Below n₀ W wr) (fun vi _=>x.length-(intOf vi).toNat)
 case atStart=>exact⟨0,Nat.zero_le _,rfl,h0,Below.refl _ _⟩
 case round=>
  obtain⟨k,hk,rfl,hJs,hnx⟩:=hrel;by_cases hlt:k<x.length
  ·have hLr:=HL.out.below hnx;obtain⟨-,a',cap',hv,hx⟩:=hLr;simp only [Value.slice.injEq,true_and]at hv;obtain⟨rfl,rfl⟩:=hv;rcases hx with hx|⟨b,off,rfl,hb,hx⟩
   ·omega
   have q0:=hx k hlt;obtain⟨fn,tmps,assign,body,hy,hR⟩:=hY _ (x.getD k 0) wr hJs (by rw [length_take];omega);have HS:=zh (CB x k hlt);generalize x.getD k 0=z0 at *;have d1:(k:Int)<(x.length:Int):=by omega
   have hlen1:(x.length:Int)<=1000:=by omega
   clear hx hBs h0
   gi_wp2
   refine hR.mono ?_;rintro e W3 (⟨rfl,hJ3,hk3⟩|⟨rfl,hJx3⟩)
   ·gi_wp2
    go_roundw
    case rel=>exact⟨k+1,by omega,by go_num,by rw [HS.out];exact hJ3,hnx.trans hk3⟩
    case measure=>simp [intOf];omega
   ·gi_wp2
    refine bodyPost_ret (results_none rfl _ _ _) rfl ?_;exact⟨⟨_,rfl⟩,.inr ⟨_,⟨k,hlt,HS.out.symm⟩,hJx3⟩⟩
  ·obtain rfl:k=x.length:=by omega
   gi_wp2
   go_end0
   exact⟨⟨_,rfl⟩,.inl ⟨_,take_length,hJs⟩⟩
theorem LB(F:Fence)(n:Nat)(hf:F.fn 58)(hro:F.round=none)(a:Option Addr)(len cap:Nat)(w:World) :
 CallsIn F n prog 58 #[.slice a len cap] w fun e w'=>e= .returned (.func (.func 98) #[] #[.pointer (some ⟨w.heap.size,0,none⟩)])/\w'=w.alloc (.cells #[.slice a len cap] 24):=by
 refine callsIn_of_wp func58 rfl hf ?_ hro;simp only [ntmps58,size_toArray,length_cons,length_nil,Nat.reduceAdd,Nat.reduceSub,Array.replicate_succ,Array.replicate_zero,push_toArray,append_toArray,nil_append,cons_append]
 gi_wp2
 go_ret
 exact⟨rfl,rfl⟩
theorem Cw(F:Fence)(n:Nat)(hf:F.fn 98)(hro:F.round=none)(hn:1<=n)(Bs n₀:Nat)(v:Value)(x:List Int)(w:World)(hBs:Bs<n₀)(hn₀:n₀<=w.heap.size)
 (hc:w.cell? ⟨Bs,0,none⟩=some v) (hL:qL n₀ w v x) :
 SeqStopsK F n prog 98 #[.pointer (some ⟨Bs,0,none⟩)] (fun i:Int=>#[Value.int .i64 i]) (Below n₀) (fun ys=>ys=x) (fun pre=>∃k,k<x.length/\pre=x.take (k+1)) x.length w:=fun l J Jx W hW _ _ hY h0=>
 IY F n hf hro hn l Bs n₀ x v J Jx hY W ((hW.cell (p:=⟨Bs,0,none⟩) (by show Bs<w.heap.size;omega)).trans hc) hBs (hL.below (hW.mono hn₀)) h0
theorem AY:(prog.info? 3).map (fun i=>(i.zero,i.size,i.bytes))=some (some (.int .i64 0),1,8):=by kernel_rfl
theorem Oj(x:List Int)(v:Value)(Bs:Nat)(w:World)(hb:Bs<w.heap.size)(hc0:w.cell? ⟨Bs,0,none⟩=some v)(hL:bJ w v x) :
 CallsIn Fence.wide 5 prog 130 #[.slice none 0 0,.func (.func 98) #[] #[.pointer (some ⟨Bs,0,none⟩)]] w fun e W'=>
  ∃v',e= .returned v'/\W'.ownsRow w.heap.size 3 1 v' x.length (x.map (Value.int .i64))/\Below w.heap.size w W':=by
 obtain⟨i0,hi,hz0,hz1,hz2⟩:=info_parts AY;have h1000:=hL.1;refine callsIn_of_wp_marks func130 rfl trivial ?_ rfl;simp only [ntmps130,size_toArray,length_cons,length_nil,Nat.reduceAdd,Nat.reduceSub,Array.replicate_succ,Array.replicate_zero,push_toArray,append_toArray,nil_append,cons_append]
 gi_wp2
 have bO:=Boxed.new w 24 (.slice none 0 0);have hB0:Below w.heap.size w (w.alloc (.cells #[.slice none 0 0] 24)):=(Below.refl _ w).alloc (Nat.le_refl _) _
 refine wpIn_rangeFunc_ownG (F:=Fence.wide) rfl ze (gf:=98) (lb:=#[.pointer (some ⟨Bs,0,none⟩)]) rfl trivial (enters_of func98 zf rfl)
  (Cw Fence.wide 4 trivial rfl ze Bs w.heap.size v x _ hb zg ((hB0.cell (p:=⟨Bs,0,none⟩) hb).trans hc0) (hL.lies.below hB0)) belowK_t (belowK_b zg) (Below.refl _ _) (fun _=>rfl)
  (fun pre W=>(∃v,Boxed W w.heap.size 24 v/\W.ownsRow w.heap.size 3 1 v pre.length (pre.map (Value.int .i64))/\True)/\Below w.heap.size w W)
  (fun _ _ _=>False)
  (OwnFrom.and (Own.from (holdsRow_own w.heap.size w.heap.size 24 3 1 (fun pre:List Int=>pre.length) (fun pre=>pre.map (Value.int .i64)) (fun _ _=>True)) _) (ownFrom_below (Nat.le_refl _) zg))
  (fun _ _ _ _ _ hs _ _=>hs)
  ⟨⟨_,bO,World.ownsRow_nil _ _ _ _,trivial⟩,hB0⟩
  (fun z=>{tmps:=#[.slice none 0 0,.func (.func 98) #[] #[.pointer (some ⟨Bs,0,none⟩)],.pointer (some ⟨w.heap.size,0,none⟩),undef,.slice none 0 0,.int .i64 z,.func (.func 98) #[] #[.pointer (some ⟨Bs,0,none⟩)],.int .i64 z,undef,undef,undef,undef,undef],defers:=[]}) ?assign ?body ?done ?stop
 case assign=>
  intro l z W K hK
  gi_wp2
  exact hK
 case body=>
  rintro l pre z W ⟨⟨v2,hv,hrow,-⟩,hB⟩ hlt;have hc:=hv.cell
  gi_wp2_with (gi_at_builtin;refine wpListIn_append_own _ rfl _ _ 24 rfl w.heap.size 3 i0 (.int .i64 0) 1 8 underlying24 hi hz0 hz1 hz2 rfl zo _ _ _ rfl (hrow.alloc _) ⟨W.heap.size,0,none⟩ 1 1 [.int .i64 z] rfl rfl (cell_one_new _ _ _) (by simp [Value.oneCell']) zE ze (by have:=hB.size;simp;omega) ?_;intro v' w1 hown' hgrow _;obtain⟨g',cap',rfl⟩:=ownsRow_succ hown';obtain⟨hv1,hv2,hr2,hk2,hb2⟩:=hv.appended zo hrow hB.size (Nat.le_refl _) hown' hgrow;have hc1:=hv1.cell;have hf1:=hv1.frozen)
  exact⟨hk2.from _,hb2,⟨_,hv2,by simpa using hr2,trivial⟩,hB.trans hb2⟩
 case done=>
  rintro D ys W hD rfl ⟨⟨v2,hv,hrow,-⟩,hB⟩ hK;have hc:=hv.cell
  gi_wp2
  refine⟨by simp,.inl ⟨_,_,rfl,run_takeDeferred hK, ?_⟩⟩;exact⟨_,results_tmp rfl _ _ _,v2,rfl,ownsRow_putObj hrow _ hK rfl,hB.trans (belowK_b (w:=w) (Nat.le_refl _) W D _ _ (by simp at hD;omega) hK rfl rfl)⟩
 case stop=>
  rintro D c pre W _ _ h _;exact h.elim
theorem rM{w:World}{base g n cap:Nat}{e:TypeId}{zs:List Int}(h:w.ownsRow base e 1 (.slice (some ⟨g,0,none⟩) n cap) n (zs.map (Value.int .i64))) :
 ∃cur,zs.length=n/\base<=g/\w.heap[g]? =some (.cells cur e (0,0))/\n<=cap/\cap<=maxLen/\cur.size=cap*1/\cur.toList.take n=zs.map (Value.int .i64):=by
 obtain⟨h0,h1|⟨g',cap',cur,hv,hb,hg,h2,h3,h4,h5⟩⟩:=h
 ·cases h1.1
 ·simp only [Value.slice.injEq,Option.some.injEq,Addr.mk.injEq,and_true,true_and]at hv;obtain⟨rfl,rfl⟩:=hv;exact⟨cur,by simpa using h0,hb,hg,h2,h3,h4,by simpa using h5⟩
theorem Fz{base g cap:Nat}{zs:List Int}{w:World}(h:w.ownsRow base 3 1 (.slice (some ⟨g,0,none⟩) zs.length cap) zs.length (zs.map (Value.int .i64)))(hl:zs.length<=1000) :
 Calls prog 97 #[.slice (some ⟨g,0,none⟩) zs.length cap] w fun e w'=>e= .returned (.tuple #[])/\w.grownBy w' (some g)/\
  w'.ownsRow base 3 1 (.slice (some ⟨g,0,none⟩) zs.length cap) zs.length ((zs.mergeSort fun x y=>decide (x<=y)).map (Value.int .i64)):=by
 obtain⟨cur,-,hb,hg,h2,h3,h4,h5⟩:=rM h;refine(slices_Sort_int g 0 cap zs w (holds_of_blockI hg h5) (Array.getElem?_eq_some_iff.1 hg).1 ze).mono ?_;rintro e w' ⟨rfl,n,os,rfl⟩;exact⟨rfl,grownBy_sortedI _,ownsRow_sortedI zg hb hg h2 h3 h4⟩
def vF(l:List Int):Prop:=l.Pairwise fun a b=>b<=a
theorem wD(x:Int)(l:List Int):(oV x l).Perm (x::l):=by
 induction l with
 |nil=>exact List.Perm.refl _
 |cons y r ih=>
  unfold oV
  split
  ·exact(ih.cons y).trans (List.Perm.swap x y r)
  ·exact List.Perm.refl _
theorem Gu{x:Int}{l:List Int}(h:vF l):vF (oV x l):=by
 induction l with
 |nil=>simp [oV,vF]
 |cons y r ih=>
  obtain⟨h1,h2⟩:=pairwise_cons.1 h;unfold oV
  split<;>rename_i hc
  ·refine pairwise_cons.2 ⟨fun z hz=>?_,ih h2⟩;rcases mem_cons.1 ((wD x r).mem_iff.1 hz)with rfl|hz
   ·exact hc
   ·exact h1 z hz
  ·refine pairwise_cons.2 ⟨fun z hz=>?_,h⟩;rcases mem_cons.1 hz with rfl|hz
   ·omega
   ·have:=h1 z hz;omega
theorem OC(l:List Int):∀a:List Int,vF a->vF (l.foldl (fun a x=>oV x a) a)/\(l.foldl (fun a x=>oV x a) a).Perm (a++l):=by
 induction l with
 |nil=>intro a h;exact⟨h,by simp⟩
 |cons x r ih=>
  intro a h;obtain⟨h1,h2⟩:=ih _ (Gu (x:=x) h);refine⟨h1,h2.trans ?_⟩;exact((wD x a).append_right r).trans perm_middle.symm
theorem sS(l:List Int):vF (kE l):=(OC l [] List.Pairwise.nil).1
theorem kS(l:List Int):(kE l).Perm l:=(OC l [] List.Pairwise.nil).2
theorem G7{a b:List Int}(ha:vF a)(hb:vF b)(h:a.Perm b):a=b:=
 List.Perm.eq_of_pairwise (le:=fun x y:Int=>y<=x) (fun x y _ _ h1 h2=>by omega) ha hb h
theorem En(a b:List Int):(a++b).sum=a.sum+b.sum:=by
 induction a with
 |nil=>simp
 |cons x r ih=>simp only [cons_append,sum_cons,ih];omega
theorem L8(a:List Int):a.reverse.sum=a.sum:=by
 induction a with
 |nil=>rfl
 |cons x r ih=>simp only [reverse_cons,En,ih,sum_cons,sum_nil];omega
theorem Hz{ss l:List Int}(hp:ss.Perm l)(hs:ss.Pairwise (·<=·))(n:Nat):(ss.drop (ss.length-n)).sum=((kE l).take n).sum:=by
 have e:ss.reverse=kE l:=G7 (pairwise_reverse.2 hs) (sS l) ((reverse_perm ss).trans (hp.trans (kS l).symm));rw [<-e,take_reverse,L8]
theorem JF{n d:Int}(h1:0<=n)(h2:1<=d)(he:mkE n d=0):mkN n d*d=n*mkD n d:=by
 have hg:0<Nat.gcd n.natAbs d.natAbs:=Nat.gcd_pos_of_pos_right _ ze;unfold mkE at he;unfold mkN mkD;rw [if_neg ze]at he ⊢;rw [if_neg ze];unfold kF at he;unfold jX l5
 split at he<;>rename_i hc
 ·simp at he
 rw [if_neg hc,if_neg hc,decide_eq_false ze,decide_eq_false ze];simp only [bne_self_eq_false,Bool.false_eq_true,if_false];obtain⟨a,rfl⟩:=Int.eq_ofNat_of_zero_le h1;obtain⟨b,rfl⟩:=Int.eq_ofNat_of_zero_le (show 0<=d by omega);simp only [Int.natAbs_natCast]at hg ⊢;rw [<-Int.natCast_mul,<-Int.natCast_mul]
 congr 1
 obtain⟨p,hp⟩:=Nat.gcd_dvd_left a b;obtain⟨q,hq⟩:=Nat.gcd_dvd_right a b;generalize Nat.gcd a b=g at *;subst hp hq;rw [Nat.mul_div_cancel_left _ hg,Nat.mul_div_cancel_left _ hg,Nat.mul_left_comm,Nat.mul_comm g p,Nat.mul_assoc,Nat.mul_comm p];rw [Nat.mul_comm q p,Nat.mul_left_comm]
theorem Ar{n d:Int}(h:d≠0)(he:mkE n d=0):aA (mkN n d) (mkD n d)=true:=by
 rcases Ox h (n:=n)with ⟨_,h2⟩|⟨_,_,h3⟩
 ·exact h2
 ·simp only [he]at h3;omega
theorem wC{x:Int}:∀(l:List Int) (at_:Nat),vF l->at_<=l.length->(at_=0\/x<=l.getD (at_-1) 0)->(∀j,at_<=j->j<l.length->l.getD j 0<x)->oV x l=l.take at_++x::l.drop at_
 | [],at_,_,h,_,_=>by simp [oV]
 |y::r,0,_,_,_,h=>by
  have:=h 0 ze zg;unfold oV;simp at this;rw [if_neg ze];simp
 |y::r,a+1,hd,hl,h1,h2=>by
  obtain⟨g1,g2⟩:=pairwise_cons.1 hd
  have hle:x<=y:=by
   rcases h1 with h1|h1
   ·omega
   ·rcases Nat.eq_zero_or_pos a with rfl|ha
    ·simpa using h1
    ·have hm:(y::r).getD a 0∈r:=by
      obtain⟨b,rfl⟩:∃b,a=b+1:=⟨a-1,by omega⟩;rw [length_cons]at hl;rw [getD_cons_succ,getD_eq_getElem?_getD,getElem?_eq_getElem (show b<r.length by omega)];exact getElem_mem _
     have:=g1 _ hm;simp only [Nat.add_sub_cancel]at h1;omega
  unfold oV;rw [if_pos hle,take_succ_cons,drop_succ_cons,cons_append]
  congr 1
  refine wC r a g2 (by simpa using hl) ?_ (fun j hj hjl=>?_)
  ·rcases Nat.eq_zero_or_pos a with rfl|ha
   ·exact .inl rfl
   ·right;rcases h1 with h1|h1
    ·omega
    ·obtain⟨b,rfl⟩:∃b,a=b+1:=⟨a-1,by omega⟩;simpa using h1
  ·have:=h2 (j+1) ze (by simpa using hjl);simpa using this
abbrev iN(l:List Int)(k:Nat):List Int:=kE (l.take k)
theorem CG(l:List Int)(k:Nat)(hk:k<l.length):iN l (k+1)=oV (l.getD k 0) (iN l k):=by
 unfold iN kE;rw [take_succ_eq_append_getElem hk,foldl_append,getD_eq_getElem?_getD,getElem?_eq_getElem hk];rfl
theorem vS(l:List Int)(k:Nat)(hk:k<=l.length):(iN l k).length=k:=by
 have:=(kS (l.take k)).length_eq;rw [this,length_take];omega
theorem CJ(l:List Int)(k:Nat):vF (iN l k):=sS _
theorem mP(l:List Int):iN l l.length=kE l:=by unfold iN;rw [take_length]
theorem Ac(l:List Int)(k at_:Nat)(hk:k<l.length)(ha:at_<=k)(h1:at_=0\/l.getD k 0<=(iN l k).getD (at_-1) 0)(h2:∀j,at_<=j->j<k->(iN l k).getD j 0<l.getD k 0) :
 iN l (k+1)=(iN l k).take at_++l.getD k 0::(iN l k).drop at_:=by
 have hn:=vS l k ze;rw [CG l k hk];exact wC _ _ (CJ l k) ze h1 (fun j hj hjl=>h2 j hj ze)
abbrev kR(l:List Int)(j:Nat):Int:=(l.take j).sum
theorem vP(l:List Int)(j:Nat)(hj:j<l.length):kR l (j+1)=kR l j+l.getD j 0:=by
 unfold kR;rw [take_succ_eq_append_getElem hj,En,getD_eq_getElem?_getD,getElem?_eq_getElem hj];simp
theorem ky{l:List Int}(h:bF l=true):l.length<=200/\∀x∈l,0<=x/\x<=1000000000000:=by
 unfold bF at h;simp only [Bool.and_eq_true,decide_eq_true_eq,all_eq_true]at h;exact h
theorem Jh{l:List Int}(h:∀x∈l,0<=x/\x<=1000000000000):0<=l.sum/\l.sum<=1000000000000*l.length:=by
 induction l with
 |nil=>simp
 |cons x r ih=>
  have h1:=h x zg;have h2:=ih (fun y hy=>h y (by simp [hy]));rw [sum_cons,length_cons]
  push_cast
  omega
theorem Eo{l s:List Int}(h:bF l=true)(hp:s.Perm l)(j:Nat):0<=kR s j/\kR s j<=200000000000000:=by
 have hm:=ky h;have:=Jh (l:=s.take j) (fun x hx=>hm.2 x (hp.mem_iff.1 (mem_of_mem_take hx)))
 have hl:(s.take j).length<=200:=by
  have:=hp.length_eq;rw [length_take];omega
 unfold kR;omega
theorem EP{l s:List Int}(h:bF l=true)(hp:s.Perm l)(j:Nat):0<=s.getD j 0/\s.getD j 0<=1000000000000:=by
 rw [getD_eq_getElem?_getD]
 cases hx:s[j]? with
 |none=>simp
 |some y=>exact(ky h).2 y (hp.mem_iff.1 (List.mem_of_getElem? hx))
open Go.RowKit Go.Sort Go.Lib
theorem bJ.of_row{w:World}{base:Nat}{v:Value}{l:List Int}(h:w.ownsRow base 3 1 v l.length (l.map (Value.int .i64)))(hl:l.length<=1000):bJ w v l:=by
 obtain⟨-,⟨rfl,h0⟩|⟨g,cap,cur,rfl,hb,hg,h2,h3,h4,h5⟩⟩:=id h
 ·exact⟨by omega,none,0,by rw [h0],.inl h0⟩
 ·refine⟨by omega,_,cap,rfl,.inr ⟨g,0,rfl,(Array.getElem?_eq_some_iff.1 hg).1,fun i hi=>?_⟩⟩;rw [Nat.zero_add,h.cellAt i ze,getElem?_map,getElem?_eq_getElem hi,getD_eq_getElem?_getD,getElem?_eq_getElem hi];rfl
def Fb(x:List Int)(w:World)(e:Ending)(w':World):Prop:=∃(a:Option Addr) (cap:Nat) (ss:List Int),e= .returned (.slice a ss.length cap)/\ss.length<=cap/\ss.Perm x/\ss.Pairwise (·<=·)/\bJ w' (.slice a ss.length cap) ss/\w.Grows w'
def Ow(x:List Int)(w:World)(e:Ending)(w':World):Prop:=∃v',e= .returned v'/\w'.ownsRow w.heap.size 3 1 v' x.length (x.map (Value.int .i64))/\Below w.heap.size w w'
theorem BP(x:List Int)(v:Value)(Bs:Nat)(w:World)(hb:Bs<w.heap.size)(hc0:w.cell? ⟨Bs,0,none⟩=some v)(hL:bJ w v x) :
 Calls prog 96 #[.func (.func 98) #[] #[.pointer (some ⟨Bs,0,none⟩)]] w (Ow x w):=by
 have HA:=zh (callsIn_wide.1 (Oj x v Bs w hb hc0 hL));clear hc0 hL
 go_enter func96,ntmps96
 go_wp2_with (go_at_call 130;refine HA.out.mono ?_;rintro e' w' ⟨v',rfl,hown,hbel⟩)
 go_returns
 exact⟨_,rfl,hown,hbel⟩
theorem FB(l:List Int):(l.mergeSort fun x y=>decide (x<=y)).Pairwise (·<=·):=by
 have:=pairwise_mergeSort (le:=fun x y:Int=>decide (x<=y)) (by intro a b c h1 h2;simp at *;omega) (by intro a b;simp;omega) l;exact this.imp fun h=>by simpa using h
theorem Ia{w w1 w2:World}{g:Nat}(h:Below w.heap.size w w1)(hg:w1.grownBy w2 (some g))(hle:w.heap.size<=g):Below w.heap.size w w2:=h.grown hg h.size (fun k hk=>by cases hk;exact hle)
theorem CF(x:List Int)(v:Value)(Bs:Nat)(w:World)(hb:Bs<w.heap.size)(hc0:w.cell? ⟨Bs,0,none⟩=some v)(hL:bJ w v x) :
 Calls prog 57 #[.func (.func 98) #[] #[.pointer (some ⟨Bs,0,none⟩)]] w (Fb x w):=by
 have HC:=zh (BP x v Bs w hb hc0 hL);have h1000:=hL.1;clear hc0 hL
 go_enter func57,ntmps57
 go_wp2_with (go_at_call 96;refine HC.out.mono ?_;rintro e' w' ⟨v',rfl,hown,hbel⟩;have HO:=zh hown;have HB:=zh hbel;obtain⟨hl0,⟨rfl,hz⟩|⟨g,cap,cur,rfl,hbg,hg,h2,h3,h4,h5⟩⟩:=hown;clear hbel)
 ·obtain rfl:x= []:=eq_nil_of_length_eq_zero hz
  go_wp2_with (go_at_call 97;refine(slices_Sort_int_none none 0 _).mono ?_;rintro e2 w2 ⟨rfl,rfl⟩)
  go_returns
  exact⟨none,0,[],rfl,Nat.le_refl _,.refl _,.nil,⟨by simp,none,0,rfl,.inl rfl⟩,.of_below HB.out⟩
 ·have HS:=zh (Fz (zs:=x) HO.out h1000);have HH:=zh (And.intro hbg h2);clear hg h2 h3 h4 h5 hl0
  go_wp2_with (go_at_call 97;refine(HS.out).mono ?_;rintro e2 w2 ⟨rfl,hg2,hown2⟩)
  go_returns
  have hlen:(x.mergeSort fun x y=>decide (x<=y)).length=x.length:=by simp
  refine⟨some ⟨g,0,none⟩,cap,x.mergeSort fun x y=>decide (x<=y),by rw [hlen];rfl,by rw [hlen];exact HH.out.2,mergeSort_perm _ _,FB x, ?_,.of_below (Ia HB.out hg2 HH.out.1)⟩;have ho:=hown2;rw [<-hlen]at ho;exact bJ.of_row ho (by rw [hlen];exact h1000)
theorem QR{ss:List Int}{m j:Nat}:(ss.drop m).getD j 0=ss.getD (m+j) 0:=by
 rw [getD_eq_getElem?_getD,getElem?_drop,<-getD_eq_getElem?_getD]
theorem vY{n d:Int}(h1:0<=n)(h2:n<=1000000000000000)(h3:1<=d)(h4:d<=1000000000):mkE n d=0:=by
 unfold mkE kF;rw [if_neg ze,if_neg];have a:=Nat.div_le_self n.natAbs (Nat.gcd n.natAbs d.natAbs);have b:=Nat.div_le_self d.natAbs (Nat.gcd n.natAbs d.natAbs);omega
instance:DecidableEq Val:=fun a b=>decidable_of_iff (a.dim=b.dim/\a.yes=b.yes/\a.n=b.n/\a.d=b.d) (by cases a;cases b;simp)
def KM:ByteArray:=⟨#[98,97,115,101]⟩
def oU:ByteArray:=⟨#[105,110,115,117,114,101,100]⟩
def awV:Vw:=⟨0,2000,0,3650,0,0,0,0,0,0,1000,1,[]⟩
def awE:Ex:=.mk 9 0 0 0 noN [.mk 9 0 0 0 noN [.mk 2 0 0 0 KM [],.mk 10 0 0 0 noN [.mk 2 0 0 0 oU [],.mk 1 365 1 3 noN []]],.mk 1 1 50 2 noN []]
theorem Og:awV.ok=true:=by decide+kernel
theorem KR:cK awE=true:=by decide+kernel
theorem KS:aD [] awE=(4,0):=by decide+kernel
theorem KQ:ai awV [] awE=(⟨4,false,200,1⟩,0):=by decide+kernel
theorem Oh:dP awV [] awE=(⟨4,false,200,1⟩,0):=by
 have h:=(nU (env:=[]) Og (fun _ h=>by cases h) KR (by rw [show aQ []= []from rfl,KS])).1;rw [h,KQ]
structure VwR where
 age:Int
 year:Int
 children:Int
 base:Int
 den:Int
 days:List Int
 years:List Int
def VwR.d(R:VwR)(i:Nat):Int:=if i<R.days.length then pick (R.days.getD i 0) 20000 else 0
def nC(R:VwR):Vw:=⟨pick R.age 110,1900+pick R.year 200,pick R.children 8,R.d 0,R.d 1,R.d 2,R.d 3,R.d 4,R.d 5,R.d 6,mkN (pick R.base 1000000) (pick R.den 12+1),mkD (pick R.base 1000000) (pick R.den 12+1),(R.years.take 20).map fun z=>pick z 5000000⟩
theorem VwR.d_bd(R:VwR)(i:Nat):0<=R.d i/\R.d i<20000:=by
 unfold VwR.d
 split
 ·exact dL _ 20000 ze
 ·omega
theorem Gq{a b d n:Int}(h0:0<=a)(hb:0<=b)(hd:1<=d)(h:a*d=n*b)(hn:n<=1000000000000):a<=1000000000000*b:=by
 have h1:a*1<=a*d:=Int.mul_le_mul_of_nonneg_left hd h0;have h2:n*b<=1000000000000*b:=Int.mul_le_mul_of_nonneg_right hn hb;omega
theorem tN{n d:Int}(h1:0<=n)(h2:1<=d):0<=mkN n d:=by
 unfold mkN jX;rw [if_neg ze,decide_eq_false ze,decide_eq_false ze]
 split
 ·omega
 ·simp only [bne_self_eq_false,Bool.false_eq_true,if_false];exact Int.natCast_nonneg _
theorem IQ(R:VwR):(nC R).ok=true:=by
 have a:=dL R.age 110 ze;have b:=dL R.year 200 ze;have c:=dL R.children 8 ze;have n:=dL R.base 1000000 ze;have d:=dL R.den 12 ze;have e:=vY n.1 ze (show 1<=pick R.den 12+1 by omega) ze;have v:=Ar (show pick R.den 12+1≠0 by omega) e;have m:=JF n.1 (show 1<=pick R.den 12+1 by omega) e;have nn:=tN n.1 (show 1<=pick R.den 12+1 by omega);have vb:=aF v;have le:=Gq nn ze (show 1<=pick R.den 12+1 by omega) m ze
 have dd:∀i,eB (R.d i)=true:=fun i=>by
  have:=R.d_bd i;unfold eB;exact decide_eq_true ze
 have yy:bF ((R.years.take 20).map fun z=>pick z 5000000)=true:=by
  unfold bF;rw [decide_eq_true (by rw [length_map,length_take];omega),Bool.true_and,all_eq_true];intro x hx;obtain⟨z,-,rfl⟩:=mem_map.1 hx;have:=dL z 5000000 ze;exact decide_eq_true ze
 unfold Vw.ok nC;dsimp only;rw [decide_eq_true ⟨by omega,by omega,by omega,by omega,by omega,by omega⟩,dd,dd,dd,dd,dd,dd,dd,v,decide_eq_true ⟨nn,le⟩,yy];rfl
theorem Fj(R:VwR):(nC R).years.length<=20:=by
 show((R.years.take 20).map fun z=>pick z 5000000).length<=20;rw [length_map,length_take];omega
open Go.ChangeShapes Go.WideShapes Go.ChangeAt Go.RowKit
abbrev iX:List (String × DataW Unit):=[("math/bits.deBruijn32tab",Rows.laid_math_bits_deBruijn32tab),("math/bits.deBruijn64tab",Rows.laid_math_bits_deBruijn64tab),("internal/strconv.uint64pow10",Rows.laid_internal_strconv_uint64pow10)]
theorem CO:(Rows.laid_internal_strconv_uint64pow10:DataW Unit)=Lib.tabData .u64 Lib.pow10Tab:=by kernel_rfl
theorem AB{W:World}(h:laidMetH prog iX W):laidMet prog iX W:=by
 rwa [MakeChecks.laidMetH_plain _ _ _ zf]at h
theorem nJ{H:Type}{enc:TypeId × Value->H}{P:Program}{W W':World}(hl:laidOutB P=true)(hb:Below W.heap.size W W'):∀(ts:List TypeId) (vs:List Value) (ds:List (DataW H)) (ps:List MemPlace),(∀t∈ts,P.readableRec t=true/\t<P.types.size)->
 DataW.TrodAll enc P W 0 (fun _=>true) true ts vs ds ps->(∀x∈ps,x.block<W.heap.size)->DataW.TrodAll enc P W' 0 (fun b=>decide (b<W.heap.size)) true ts vs ds ps
 | [],[],[],_,_,h,_=>h
 |t::ts,v::vs,d::ds,ps,hr,h,hlt=>by
  obtain⟨p,q,h1,h2,rfl⟩:=h
  exact⟨p,q,Below.trod hl (hr t mem_cons_self).1 (hr t mem_cons_self).2 h1 hb fun x hx=>hlt x (mem_append_left _ hx),
   nJ hl hb ts vs ds q (fun t ht=>hr t (mem_cons_of_mem _ ht)) h2 fun x hx=>hlt x (mem_append_right _ hx),rfl⟩
 | [],_::_,_,_,_,h,_=>h.elim
 | [],[],_::_,_,_,h,_=>h.elim
 |_::_,[],_,_,_,h,_=>h.elim
 |_::_,_::_,[],_,_,h,_=>h.elim
def Fe{H:Type}(enc:TypeId × Value->H)(P:Program)(f:FuncId)(ts:List TypeId):Prop:=
 ∀(W:World) (base:Nat) (args:Array Value) (ds:List (DataW H)) (p:List MemPlace),laidMetH P iX W->(∀(j:Nat) t v,ts[j]? =some t->args[j]? =some v->Value.okWide P W .any base t v)->
  DataW.TrodAll enc P W 0 (fun _=>true) true ts args.toList ds p->(∀(j:Nat) t d,ts[j]? =some t->ds[j]? =some d->fits P t d)->
  Calls P f args W fun e W'=>e= .returned (.bool true)/\Below W.heap.size W W'
theorem JI{H:Type}{enc:TypeId × Value->H}{P:Program}{fn:Func}{s:ChangeSpec}{W W':World}{args:Array Value}{ds gs:List (DataW H)}{before:List MemPlace}(hl:laidOutB P=true)
 (hr:fn.params.toList.all (fun t=>P.readableRec t&&decide (t<P.types.size))=true) (hres:fn.resultTypes=#[4]) (hu:P.underlying 4=some .bool) (hvars:s.vars= [])
 (hspec:∀ds:List (DataW H),ds.length=fn.params.size->s.fn H (ds++[])= {results:=[.lit (.bool true)],args:=ds})
 (hW:DataW.Whole enc P fn.params.toList s.vars false W args.toList ds gs before) (hb:Below W.heap.size W W'):s.post enc P fn false true false false W args (.bool true) W':=by
 have hW':=hW;obtain⟨p,q,hA,hV,rfl,hfz,hnd⟩:=hW;rw [hvars]at hV;obtain⟨rfl,rfl⟩:=trodVars_none hV
 have hlen:∀(ts:List TypeId) (vs:List Value) (ds:List (DataW H)) (ps:List MemPlace),DataW.TrodAll enc P W 0 (fun _=>true) true ts vs ds ps->ds.length=ts.length:=by
  intro ts
  induction ts with
  |nil=>intro vs ds ps h;cases vs<;>cases ds<;>simp_all [DataW.TrodAll]
  |cons t ts ih=>
   intro vs ds ps h
   cases vs with
   |nil=>exact h.elim
   |cons v vs=>
    cases ds with
    |nil=>exact h.elim
    |cons d ds=>
     obtain⟨_,_,_,h2,_⟩:=h;simp [ih _ _ _ h2]
 have hds:ds.length=fn.params.size:=by rw [hlen _ _ _ _ hA];simp
 have hs:=hspec ds hds;have hlt:∀x∈p,x.block<W.heap.size:=fun x hx=>by have:=hW'.lt x (by simpa using hx);simpa using this
 refine⟨ds,[],p++[],[],p,[],hW', ?_, ?_, ?_,hb.frame _,fun h=>by cases h⟩
 ·rw [hs,hres];exact trodAll_mk1 (shut_bool hu _)
 ·rw [hs];refine nJ hl hb _ _ _ _ (fun t ht=>?_) hA hlt;have:=all_eq_true.1 hr t ht;simpa using this
 ·rw [hs,hvars];rfl
theorem JJ{H:Type}{enc:TypeId × Value->H}{C:Checked}{os:Os}{f:FuncId}{fn:Func}{s:ChangeSpec}{conds:List PathCond}(own:ownKnob C.prog.godebug=none)(started:os.Started)(noInit:C.prog.inits.idxOf? f=none)(hfn:C.prog.funcs[f]? =some fn)
 (witness:∃(w:World) (tape:Tape) (i:Input),w.os=os/\(w.forCall tape i).Shaped C.prog/\i.vars= []/\Input.okWide C.prog (w.forCall tape i) .any w.heap.size f i/\
  ((s.pre enc C.prog fn conds false (w.forCall tape i).memory i.args/\laidMetH C.prog iX (w.forCall tape i).memory)/\sizedMet enc C.prog fn (OpenSpec.ofChange s) false (w.forCall tape i).memory i.args)/\({}:Assume).holds C.prog (lone (Frame.enter C.prog f i.args .normal) [] (w.forCall tape i)))
 (hl:laidOutB C.prog=true) (hr:fn.params.toList.all (fun t=>C.prog.readableRec t&&decide (t<C.prog.types.size))=true) (hres:fn.resultTypes=#[4]) (hu:C.prog.underlying 4=some .bool) (hvars:s.vars= [])
 (hspec:∀ds:List (DataW H),ds.length=fn.params.size->s.fn H (ds++[])= {results:=[.lit (.bool true)],args:=ds}) (walk:Fe enc C.prog f fn.params.toList) :
 ReturnsInHanded {} C os f .any (fun w args=>(s.pre enc C.prog fn conds false w args/\laidMetH C.prog iX w)/\sizedMet enc C.prog fn (OpenSpec.ofChange s) false w args) (s.post enc C.prog fn false true false false):=by
 refine returnsInHanded_of_change_and (C:=C) (X:=fun w _=>laidMetH C.prog iX w) (fun _ _ _ hh h=>h.of_heap hh) own started noInit hfn witness ?_;intro W base args ds gs before hval hW _ hsz hL _;have hW':=hW;obtain⟨p,q,hA,hV,rfl,hfz,hnd⟩:=hW;have e:s.vars= []:=hvars;rw [e]at hV;obtain⟨rfl,rfl⟩:=trodVars_none hV;refine(walk W base args ds p hL (fun j t v ht ha=>hval j t v (by simpa using ht) ha) hA (fun j t d ht hd n hn=>?_)).mono fun e W' ⟨he,hb⟩=>⟨_,he,JI hl hr hres hu hvars hspec hW' hb⟩;have:=all_eq_true.1 hsz n (DataW.weights_mem_each (j:=j) (by rw [getElem?_append_left (List.getElem?_eq_some_iff.1 ht).1];exact ht) (by rw [append_nil];exact hd) n hn);exact of_decide_eq_true this
theorem own:ownKnob prog.godebug=none:=by kernel_rfl
theorem laidOut:laidOutB prog=true:=by kernel_rfl
theorem JM(os:Os)(args:Array Value):laidMetH prog iX ((World.laidAll prog os iX).forCall (fun _ _=>0) ⟨#[],args,[]⟩).memory:=by
 rw [MakeChecks.laidMetH_plain _ _ _ zf];exact laidMet_laidAll args zf zf
theorem yZ{W:World}(h:laidMetH prog iX W):Tab W:=by
 have h2:=(AB h).tail.tail;rw [CO]at h2;exact Lib.tabIs_of_head (P:=prog) (g:=2) (t:=261) (n:=20) (e:=155) zf zf zf zf zf zf h2
end Go.Proofs.YtlheailebbngiaaGreatDoor
