import Derived.Test.YtcfpoofhokbhlaaGreatDoorVShelf4
import Derived.Test.YtcfpoofhokbhlaaGreatDoorVFrMk
import Derived.Test.YtcfpoofhokbhlaaGreatDoorVUsR
set_option linter.all false
set_option maxHeartbeats 16000000
set_option maxRecDepth 1000000
namespace Go.Proofs.YtcfpoofhokbhlaaGreatDoor
open Tryz List
open Go.RowKit Go.Shelf Go.Sort Go.Lib
attribute [local go_sem] Oper.semAt_some
def qU(n₀:Nat)(W:World)(v:Value)(l:List Int):Prop:=
 l.length<=1000/\∃a cap,v= .slice a l.length cap/\(l.length=0\/∃b off,a=some ⟨b,off,none⟩/\b<n₀/\∀i,i<l.length->W.cell? ⟨b,off+i,none⟩=some (.int .i64 (l.getD i 0)))
theorem qU.below{n₀:Nat}{W W':World}{v:Value}{l:List Int}(h:qU n₀ W v l)(hb:Below n₀ W W'):qU n₀ W' v l:=by
 obtain⟨h0,a,cap,hv,h1⟩:=h;refine⟨h0,a,cap,hv,h1.imp id ?_⟩;rintro⟨b,off,ha,hlt,hc⟩;exact⟨b,off,ha,hlt,fun i hi=>(hb.cell (p:=⟨b,off+i,none⟩) hlt).trans (hc i hi)⟩
theorem bI.lies{w:World}{v:Value}{l:List Int}(h:bI w v l):qU w.heap.size w v l:=h
theorem DW(l:List Int)(k:Nat)(hk:k<l.length):l.take (k+1)=l.take k++[l.getD k 0]:=by
 exact Qj
theorem Kk(F:Fence)(n:Nat)(hf:F.fn 148)(hro:F.round=none)(hn:1<=n)(l Bs n₀:Nat)(x:List Int)(v:Value)(J Jx:List Int->World->Prop)
 (hY:∀pre (i:Int) W,J pre W->pre.length<x.length->YieldAt F (n-1) prog l #[.int .i64 i] W fun e W'=>
  (e= .returned (.bool true)/\J (pre++[i]) W'/\Below n₀ W W')\/(e= .returned (.bool false)/\Jx (pre++[i]) W'))
 (W:World) (hBs:W.cell? ⟨Bs,0,none⟩=some v) (hBl:Bs<n₀) (hL:qU n₀ W v x) (h0:J [] W) :
 CallsIn F n prog 148 #[.func (.yield l) #[] #[],.pointer (some ⟨Bs,0,none⟩)] W fun e W'=>(∃v,e= .returned v)/\
  ((∃ys,ys=x/\J ys W')\/(∃pre,(∃k,k<x.length/\pre=x.take (k+1))/\Jx pre W')):=by
 have HL:=yq hL;obtain⟨h1000,a,cap,rfl,-⟩:=hL;refine callsIn_of_wp func148 rfl hf ?_ hro;simp only [ntmps148,size_toArray,length_cons,length_nil,Nat.reduceAdd,Nat.reduceSub,Array.replicate_succ,Array.replicate_zero,push_toArray,append_toArray,nil_append,cons_append]
 gi_wp2
 gi_loopw [7] (fun vi wr=>∃k:Nat,k<=x.length/\vi= .int .i64 k/\J (x.take k) wr/\Below n₀ W wr) (fun vi _=>x.length-(intOf vi).toNat)
 case atStart=>exact⟨0,Nat.zero_le _,rfl,h0,Below.refl _ _⟩
 case round=>
  obtain⟨k,hk,rfl,hJs,hnx⟩:=hrel;by_cases hlt:k<x.length
  ·have hLr:=HL.out.below hnx;obtain⟨-,a',cap',hv,hx⟩:=hLr;simp only [Value.slice.injEq,true_and]at hv;obtain⟨rfl,rfl⟩:=hv;rcases hx with hx|⟨b,off,rfl,hb,hx⟩
   ·omega
   have q0:=hx k hlt;obtain⟨fn,tmps,assign,body,hy,hR⟩:=hY _ (x.getD k 0) wr hJs (by rw [length_take];omega);have HS:=yq (DW x k hlt);generalize x.getD k 0=z0 at *;have d1:(k:Int)<(x.length:Int):=by omega
   have hlen1:(x.length:Int)<=1000:=by omega
   clear hx hBs h0
   gi_wp2
   refine hR.mono ?_;rintro e W3 (⟨rfl,hJ3,hk3⟩|⟨rfl,hJx3⟩)
   ·gi_wp2
    go_roundw
    case rel=>exact⟨k+1,by omega,by go_num,by rw [HS.out];exact hJ3,hnx.trans hk3⟩
    case measure=>simp [intOf];omega
   ·gi_wp2
    refine bodyPost_ret (results_none rfl _ _ _) rfl ?_;exact⟨⟨_,rfl⟩,.inr ⟨_,⟨k,hlt,HS.out.symm⟩,hJx3⟩⟩
  ·obtain rfl:k=x.length:=by omega
   gi_wp2
   go_end0
   exact⟨⟨_,rfl⟩,.inl ⟨_,take_length,hJs⟩⟩
theorem Nh(F:Fence)(n:Nat)(hf:F.fn 126)(hro:F.round=none)(a:Option Addr)(len cap:Nat)(w:World) :
 CallsIn F n prog 126 #[.slice a len cap] w fun e w'=>e= .returned (.func (.func 148) #[] #[.pointer (some ⟨w.heap.size,0,none⟩)])/\w'=w.alloc (.cells #[.slice a len cap] 22):=by
 refine callsIn_of_wp func126 rfl hf ?_ hro;simp only [ntmps126,size_toArray,length_cons,length_nil,Nat.reduceAdd,Nat.reduceSub,Array.replicate_succ,Array.replicate_zero,push_toArray,append_toArray,nil_append,cons_append]
 gi_wp2
 go_ret
 exact⟨rfl,rfl⟩
theorem DN(F:Fence)(n:Nat)(hf:F.fn 148)(hro:F.round=none)(hn:1<=n)(Bs n₀:Nat)(v:Value)(x:List Int)(w:World)(hBs:Bs<n₀)(hn₀:n₀<=w.heap.size)
 (hc:w.cell? ⟨Bs,0,none⟩=some v) (hL:qU n₀ w v x) :
 SeqStopsK F n prog 148 #[.pointer (some ⟨Bs,0,none⟩)] (fun i:Int=>#[Value.int .i64 i]) (Below n₀) (fun ys=>ys=x) (fun pre=>∃k,k<x.length/\pre=x.take (k+1)) x.length w:=fun l J Jx W hW _ _ hY h0=>
 Kk F n hf hro hn l Bs n₀ x v J Jx hY W ((hW.cell (p:=⟨Bs,0,none⟩) yT).trans hc) hBs (hL.below (hW.mono hn₀)) h0
theorem Ce:(prog.info? 3).map (fun i=>(i.zero,i.size,i.bytes))=some (some (.int .i64 0),1,8):=by kernel_rfl
theorem PQ(x:List Int)(v:Value)(Bs:Nat)(w:World)(hb:Bs<w.heap.size)(hc0:w.cell? ⟨Bs,0,none⟩=some v)(hL:bI w v x) :
 CallsIn Fence.wide 5 prog 164 #[.slice none 0 0,.func (.func 148) #[] #[.pointer (some ⟨Bs,0,none⟩)]] w fun e W'=>
  ∃v',e= .returned v'/\W'.ownsRow w.heap.size 3 1 v' x.length (x.map (Value.int .i64))/\Below w.heap.size w W':=by
 obtain⟨i0,hi,hz0,hz1,hz2⟩:=info_parts Ce;have h1000:=hL.1;refine callsIn_of_wp_marks func164 rfl trivial ?_ rfl;simp only [ntmps164,size_toArray,length_cons,length_nil,Nat.reduceAdd,Nat.reduceSub,Array.replicate_succ,Array.replicate_zero,push_toArray,append_toArray,nil_append,cons_append]
 gi_wp2
 have bO:=Boxed.new w 22 (.slice none 0 0);have hB0:Below w.heap.size w (w.alloc (.cells #[.slice none 0 0] 22)):=(Below.refl _ w).alloc (Nat.le_refl _) _
 refine wpIn_rangeFunc_ownG (F:=Fence.wide) rfl ze (gf:=148) (lb:=#[.pointer (some ⟨Bs,0,none⟩)]) rfl trivial (enters_of func148 zf rfl)
  (DN Fence.wide 4 trivial rfl ze Bs w.heap.size v x _ hb zg ((hB0.cell (p:=⟨Bs,0,none⟩) hb).trans hc0) (hL.lies.below hB0)) belowK_t (belowK_b zg) (Below.refl _ _) (fun _=>rfl)
  (fun pre W=>(∃v,Boxed W w.heap.size 22 v/\W.ownsRow w.heap.size 3 1 v pre.length (pre.map (Value.int .i64))/\True)/\Below w.heap.size w W)
  (fun _ _ _=>False)
  (OwnFrom.and (Own.from (holdsRow_own w.heap.size w.heap.size 22 3 1 (fun pre:List Int=>pre.length) (fun pre=>pre.map (Value.int .i64)) (fun _ _=>True)) _) (ownFrom_below (Nat.le_refl _) zg))
  (fun _ _ _ _ _ hs _ _=>hs)
  ⟨⟨_,bO,World.ownsRow_nil _ _ _ _,trivial⟩,hB0⟩
  (fun z=>{tmps:=#[.slice none 0 0,.func (.func 148) #[] #[.pointer (some ⟨Bs,0,none⟩)],.pointer (some ⟨w.heap.size,0,none⟩),undef,.slice none 0 0,.int .i64 z,.func (.func 148) #[] #[.pointer (some ⟨Bs,0,none⟩)],.int .i64 z,undef,undef,undef,undef,undef],defers:=[]}) ?assign ?body ?done ?stop
 case assign=>
  intro l z W K hK
  gi_wp2
  exact hK
 case body=>
  rintro l pre z W ⟨⟨v2,hv,hrow,-⟩,hB⟩ hlt;have hc:=hv.cell
  gi_wp2_with (gi_at_builtin;refine wpListIn_append_own _ rfl _ _ 22 rfl w.heap.size 3 i0 (.int .i64 0) 1 8 underlying22 hi hz0 hz1 hz2 rfl zo _ _ _ rfl (hrow.alloc _) ⟨W.heap.size,0,none⟩ 1 1 [.int .i64 z] rfl rfl (cell_one_new _ _ _) (by simp [Value.oneCell']) zD ze (by have:=hB.size;simp;omega) ?_;intro v' w1 hown' hgrow _;obtain⟨g',cap',rfl⟩:=ownsRow_succ hown';obtain⟨hv1,hv2,hr2,hk2,hb2⟩:=hv.appended zo hrow hB.size (Nat.le_refl _) hown' hgrow;have hc1:=hv1.cell;have hf1:=hv1.frozen)
  exact⟨hk2.from _,hb2,⟨_,hv2,by simpa using hr2,trivial⟩,hB.trans hb2⟩
 case done=>
  rintro D ys W hD rfl ⟨⟨v2,hv,hrow,-⟩,hB⟩ hK;have hc:=hv.cell
  gi_wp2
  refine⟨by simp,.inl ⟨_,_,rfl,run_takeDeferred hK, ?_⟩⟩;exact⟨_,results_tmp rfl _ _ _,v2,rfl,ownsRow_putObj hrow _ hK rfl,hB.trans (belowK_b (w:=w) (Nat.le_refl _) W D _ _ (by simp at hD;omega) hK rfl rfl)⟩
 case stop=>
  rintro D c pre W _ _ h _;exact h.elim
theorem rW{w:World}{base g n cap:Nat}{e:TypeId}{zs:List Int}(h:w.ownsRow base e 1 (.slice (some ⟨g,0,none⟩) n cap) n (zs.map (Value.int .i64))) :
 ∃cur,zs.length=n/\base<=g/\w.heap[g]? =some (.cells cur e (0,0))/\n<=cap/\cap<=maxLen/\cur.size=cap*1/\cur.toList.take n=zs.map (Value.int .i64):=by
 obtain⟨h0,h1|⟨g',cap',cur,hv,hb,hg,h2,h3,h4,h5⟩⟩:=h
 ·cases h1.1
 ·simp only [Value.slice.injEq,Option.some.injEq,Addr.mk.injEq,and_true,true_and]at hv;obtain⟨rfl,rfl⟩:=hv;exact⟨cur,by simpa using h0,hb,hg,h2,h3,h4,by simpa using h5⟩
theorem G7{base g cap:Nat}{zs:List Int}{w:World}(h:w.ownsRow base 3 1 (.slice (some ⟨g,0,none⟩) zs.length cap) zs.length (zs.map (Value.int .i64)))(hl:zs.length<=1000) :
 Calls prog 147 #[.slice (some ⟨g,0,none⟩) zs.length cap] w fun e w'=>e= .returned (.tuple #[])/\w.grownBy w' (some g)/\
  w'.ownsRow base 3 1 (.slice (some ⟨g,0,none⟩) zs.length cap) zs.length ((zs.mergeSort fun x y=>decide (x<=y)).map (Value.int .i64)):=by
 obtain⟨cur,-,hb,hg,h2,h3,h4,h5⟩:=rW h;refine(slices_Sort_int g 0 cap zs w (holds_of_blockI hg h5) (Array.getElem?_eq_some_iff.1 hg).1 ze).mono ?_;rintro e w' ⟨rfl,n,os,rfl⟩;exact⟨rfl,grownBy_sortedI _,ownsRow_sortedI zg hb hg h2 h3 h4⟩
open Go.RowKit Go.Sort
theorem bI.of_row{w:World}{base:Nat}{v:Value}{l:List Int}(h:w.ownsRow base 3 1 v l.length (l.map (Value.int .i64)))(hl:l.length<=1000):bI w v l:=by
 obtain⟨-,⟨rfl,h0⟩|⟨g,cap,cur,rfl,hb,hg,h2,h3,h4,h5⟩⟩:=id h
 ·exact⟨by omega,none,0,by rw [h0],.inl h0⟩
 ·refine⟨by omega,_,cap,rfl,.inr ⟨g,0,rfl,(Array.getElem?_eq_some_iff.1 hg).1,fun i hi=>?_⟩⟩;rw [Nat.zero_add,h.cellAt i ze,getElem?_map,getElem?_eq_getElem hi,getD_eq_getElem?_getD,getElem?_eq_getElem hi];rfl
def Gy(x:List Int)(w:World)(e:Ending)(w':World):Prop:=∃(a:Option Addr) (cap:Nat) (ss:List Int),e= .returned (.slice a ss.length cap)/\ss.length<=cap/\ss.Perm x/\ss.Pairwise (·<=·)/\bI w' (.slice a ss.length cap) ss/\w.Grows w'
def PY(x:List Int)(w:World)(e:Ending)(w':World):Prop:=∃v',e= .returned v'/\w'.ownsRow w.heap.size 3 1 v' x.length (x.map (Value.int .i64))/\Below w.heap.size w w'
theorem Db(x:List Int)(v:Value)(Bs:Nat)(w:World)(hb:Bs<w.heap.size)(hc0:w.cell? ⟨Bs,0,none⟩=some v)(hL:bI w v x) :
 Calls prog 146 #[.func (.func 148) #[] #[.pointer (some ⟨Bs,0,none⟩)]] w (PY x w):=by
 have HA:=yq (callsIn_wide.1 (PQ x v Bs w hb hc0 hL));clear hc0 hL
 go_enter func146,ntmps146
 go_wp2_with (go_at_call 164;refine HA.out.mono ?_;rintro e' w' ⟨v',rfl,hown,hbel⟩)
 go_returns
 exact⟨_,rfl,hown,hbel⟩
theorem G8(l:List Int):(l.mergeSort fun x y=>decide (x<=y)).Pairwise (·<=·):=by
 have:=pairwise_mergeSort (le:=fun x y:Int=>decide (x<=y)) (by intro a b c h1 h2;simp at *;omega) (by intro a b;simp;omega) l;exact this.imp fun h=>by simpa using h
theorem JC{w w1 w2:World}{g:Nat}(h:Below w.heap.size w w1)(hg:w1.grownBy w2 (some g))(hle:w.heap.size<=g):Below w.heap.size w w2:=h.grown hg h.size (fun k hk=>by cases hk;exact hle)
theorem DY(x:List Int)(v:Value)(Bs:Nat)(w:World)(hb:Bs<w.heap.size)(hc0:w.cell? ⟨Bs,0,none⟩=some v)(hL:bI w v x) :
 Calls prog 125 #[.func (.func 148) #[] #[.pointer (some ⟨Bs,0,none⟩)]] w (Gy x w):=by
 have HC:=yq (Db x v Bs w hb hc0 hL);have h1000:=hL.1;clear hc0 hL
 go_enter func125,ntmps125
 go_wp2_with (go_at_call 146;refine HC.out.mono ?_;rintro e' w' ⟨v',rfl,hown,hbel⟩;have HO:=yq hown;have HB:=yq hbel;obtain⟨hl0,⟨rfl,hz⟩|⟨g,cap,cur,rfl,hbg,hg,h2,h3,h4,h5⟩⟩:=hown;clear hbel)
 ·obtain rfl:x= []:=eq_nil_of_length_eq_zero hz
  go_wp2_with (go_at_call 147;refine(slices_Sort_int_none none 0 _).mono ?_;rintro e2 w2 ⟨rfl,rfl⟩)
  go_returns
  exact⟨none,0,[],rfl,Nat.le_refl _,.refl _,.nil,⟨by simp,none,0,rfl,.inl rfl⟩,.of_below HB.out⟩
 ·have HS:=yq (G7 (zs:=x) HO.out h1000);have HH:=yq (And.intro hbg h2);clear hg h2 h3 h4 h5 hl0
  go_wp2_with (go_at_call 147;refine(HS.out).mono ?_;rintro e2 w2 ⟨rfl,hg2,hown2⟩)
  go_returns
  have hlen:(x.mergeSort fun x y=>decide (x<=y)).length=x.length:=by simp
  refine⟨some ⟨g,0,none⟩,cap,x.mergeSort fun x y=>decide (x<=y),by rw [hlen];rfl,by rw [hlen];exact HH.out.2,mergeSort_perm _ _,G8 x, ?_,.of_below (JC HB.out hg2 HH.out.1)⟩;have ho:=hown2;rw [<-hlen]at ho;exact bI.of_row ho (by rw [hlen];exact h1000)
theorem Sy{ss:List Int}{m j:Nat}:(ss.drop m).getD j 0=ss.getD (m+j) 0:=by
 rw [getD_eq_getElem?_getD,getElem?_drop,<-getD_eq_getElem?_getD]
theorem JA(l:List Int)(n:Int)(v:Value)(w:World)(hy:bI w v l)(h:n<1\/45<n\/bD l=false):Calls prog 76 #[v,.int .i64 n] w fun e w'=>e= .returned (frV (gQ l n))/\w.Grows w':=by
 have HF:Hid (gQ l n=(0,0,1)):=yq (by unfold gQ;rw [if_pos h]);rw [HF.out];show Calls _ _ _ _ fun e w'=>e= .returned (.tuple #[.agg #[.int .i64 0,.int .i64 0],.int .i64 1])/\_;have HY:=yq hy;have HA:=yq (fun w' (hg:w.Grows w')=>mH l v w' (HY.out.grows hg));obtain⟨-,a,c,rfl,-⟩:=hy;clear HF;by_cases h1:n<1
 ·clear h
  go_enter func76,ntmps76
  exact nE
 ·by_cases h2:n > 45
  ·clear h
   go_enter func76,ntmps76
   exact nE
  ·have h3:bD l=false:=by
    rcases h with h|h|h
    ·omega
    ·omega
    ·exact h
   rw [h3]at HA;clear h h3
   go_enter func76,ntmps76
   go_wp2_with (go_at_call 29;refine gw (HA.out _ (.of_below af)) ?_)
   exact lU
theorem JB(l:List Int)(n:Int)(v:Value)(w:World)(hy:bI w v l)(h:n<1\/45<n\/bD l=false):Calls prog 95 #[v,.int .i64 n] w fun e w'=>e= .returned (frV (gQ l n))/\w.Grows w':=by
 have HF:Hid (gQ l n=(0,0,1)):=yq (by unfold gQ;rw [if_pos h]);rw [HF.out];show Calls _ _ _ _ fun e w'=>e= .returned (.tuple #[.agg #[.int .i64 0,.int .i64 0],.int .i64 1])/\_;have HY:=yq hy;have HA:=yq (fun w' (hg:w.Grows w')=>gW l v w' (HY.out.grows hg));obtain⟨-,a,c,rfl,-⟩:=hy;clear HF;by_cases h1:n<1
 ·clear h
  go_enter func95,ntmps95
  exact nE
 ·by_cases h2:n > 45
  ·clear h
   go_enter func95,ntmps95
   exact nE
  ·have h3:bD l=false:=by
    rcases h with h|h|h
    ·omega
    ·omega
    ·exact h
   rw [h3]at HA;clear h h3
   go_enter func95,ntmps95
   go_wp2_with (go_at_call 82;refine gvq (HA.out _ (.of_below af)) ?_;intro bs d)
   exact lU
theorem vv{l:List Int}{n:Int}(h1:1<=n)(h2:n<=45)(h3:bD l=true):gQ l n=(mkN (nN l n) n,mkD (nN l n) n,mkE (nN l n) n):=by
 unfold gQ;rw [if_neg (by rw [h3];simp;omega)]
theorem Fq(l:List Int)(n:Int)(v:Value)(w:World)(hy:bI w v l)(h1:1<=n)(h2:n<=45)(h3:bD l=true):Calls prog 95 #[v,.int .i64 n] w fun e w'=>e= .returned (frV (gQ l n))/\w.Grows w':=by
 rw [vv h1 h2 h3];obtain⟨nn,rfl⟩:=Int.eq_ofNat_of_zero_le (show 0<=n by omega);have HY:=yq hy;have HA:=yq (fun w' (hg:w.Grows w')=>gW l v w' (HY.out.grows hg));have HS:=yq (fun W Bs (hb:Bs<W.heap.size) hc (hg:w.Grows W)=>DY l v Bs W hb hc (HY.out.grows hg));rw [h3]at HA;have HB3:=yq h3;have HBS:Hid (nN l (nn:Int)=((kG l).take nn).sum):=yq rfl;obtain⟨h1000,a,c,rfl,-⟩:=hy;unfold frV Gy at *;dsimp only;generalize nN l (nn:Int)=BS at *;clear h3;have HM:=yq (fun z (h1:0<=z) (h2:z<=200000000000000) w=>JZ z (nn:Int) w ⟨by omega,by omega⟩ ⟨by omega,by omega⟩);unfold frV at HM
 go_enter func95,ntmps95
 go_wp2_with (first
  |(go_at_call 82;refine gvq (HA.out _ (.of_below af)) ?_;intro bs d)
  |(go_at_call 126;refine(callsIn_wide.1 (Nh Fence.wide 5 trivial rfl _ _ _ _)).mono ?_;rintro e' w' ⟨rfl,rfl⟩))
 go_at_call 125
 refine(HS.out _ _ zg zE (.of_below af)).mono ?_;rintro e' w' ⟨aa,cp,ss,rfl,hcp,hperm,hpair,hyr,bs3,d3,rfl⟩;obtain⟨M,hM⟩:∃M,ss.length-nn=M:=⟨_,rfl⟩;have hss:ss.length<=1000:=by rw [hperm.length_eq];exact h1000
 have hmx:max 0 (wrap64 ((ss.length:Int)-(nn:Int)))=(M:Int):=by
  rw [IntWalk.wrap64_in _ ze];omega
 have hmx2:max 0 ((ss.length:Int)-(nn:Int))=(M:Int):=by omega
 have hne:0<ss.length->¬cp=M:=by omega
 have hml:M<=ss.length:=by omega
 have HBL:=yq (Jy hperm hpair nn);rw [hM]at HBL;have HSB:=yq (FK HB3.out hperm);have HGB:=yq (Gi HB3.out hperm);have HP:=yq hperm;clear hperm hpair hM;have HYS:=yq hyr;obtain⟨-,a2,c2,hv2,hcs⟩:=hyr;simp only [Value.slice.injEq,true_and]at hv2;obtain⟨rfl,rfl⟩:=hv2;have HCS:=yq hcs;clear hcs;by_cases hz:ss.length=0
 ·obtain rfl:ss= []:=eq_nil_of_length_eq_zero hz;obtain rfl:M=0:=by simpa using hml
  have h0:Hid (BS=0):=yq (by rw [HBS.out,<-HBL.out];rfl);simp only [length_nil]at *;by_cases hcc:cp=0
  all_goals
   go_wp2_with fail
   go_loopw [7,9,33] (fun v7 _ v33 wr=>v7= .int .i64 0/\v33= .int .i64 0/\wr=((((w.alloc (.cells #[.int .i64 0,.int .i64 0] 39)).grow bs d).alloc (.cells #[.slice a l.length c] 22)).grow bs3 d3)) (fun _ _ _ _=>0)
   case atStart=>exact⟨rfl,rfl,rfl⟩
   case round=>
    obtain⟨rfl,rfl,rfl⟩:=hrel
    go_wp2_with (go_at_call 127;refine gvq (HM.out _ ze ze _) ?_;intro bs4 d4)
    go_returns
    exact⟨by rw [h0.out],.of_below af⟩
 ·have hpos:0<ss.length:=by omega
  have hne:=hne hpos;have hadd:M+(ss.length-M)=ss.length:=by omega
  rcases HCS.out with h0|⟨b,off,rfl,hbw,hx⟩
  ·exact absurd h0 hz
  have HX:=yq hx;have HD:Hid (∀k,k<ss.length-M->kT (ss.drop M) (k+1)=kT (ss.drop M) k+ss.getD (M+k) 0):=yq (fun k hk=>by rw [ww _ _ yp,Sy])
  have HSD:Hid (∀k,0<=kT (ss.drop M) k/\kT (ss.drop M) k<=200000000000000):=yq (fun k=>by
   have h1:=HSB.out;have:=KH (l:=(ss.drop M).take k) (fun z hz=>(kD HB3.out).2 z (HP.out.mem_iff.1 (mem_of_mem_drop (mem_of_mem_take hz))))
   have hl:((ss.drop M).take k).length<=200:=by
    have h2:=(kD HB3.out).1;have h3:=HP.out.length_eq;rw [length_take,length_drop];omega
   unfold kT
   omega)
  have HLL:Hid (kT (ss.drop M) (ss.length-M)=BS):=yq (by
   rw [HBS.out,<-HBL.out];unfold kT
   rw [take_of_length_le zg])
  clear hx hz;generalize hLL:ss.length-M=LL at *
  go_wp2_with fail
  go_loopw [7,9,33] (fun v7 _ v33 wr=>∃k:Nat,k<=LL/\v33= .int .i64 k/\v7= .int .i64 (kT (ss.drop M) k)/\wr=((((w.alloc (.cells #[.int .i64 0,.int .i64 0] 39)).grow bs d).alloc (.cells #[.slice a l.length c] 22)).grow bs3 d3)) (fun _ _ v33 _=>LL-(intOf v33).toNat)
  case atStart=>exact⟨0,by omega,rfl,rfl,rfl⟩
  case round=>
   obtain⟨k,hk,rfl,rfl,rfl⟩:=hrel;by_cases hlt:k<LL
   ·have x0:=HX.out (M+k) ze;have d1:(k:Int)<(LL:Int):=by omega
    have hs:=HD.out k hlt;have hb1:=HSD.out k;have hb2:=HSD.out (k+1);rw [hs]at hb2;have HS1:=yq hs;have HKL:=yq hlt;rw [<-Nat.add_assoc]at x0;clear hs hlt;generalize ss.getD (M+k) 0=z at *;generalize hsk:kT (ss.drop M) k=sk at *
    go_wp2_with fail
    go_roundw
    case rel=>exact⟨k+1,HKL.out,by go_num,by rw [HS1.out],zI⟩
    case measure=>simp [intOf];have:=HKL.out;omega
   ·obtain rfl:k=LL:=by omega
    rw [HLL.out];have hb1:=HSD.out k;rw [HLL.out]at hb1;have HBB:=yq hb1
    go_wp2_with (go_at_call 127;refine gvq (HM.out _ HBB.out.1 HBB.out.2 _) ?_;intro bs4 d4)
    exact lU
theorem J6(l:List Int)(n:Int)(v:Value)(w:World)(hy:bI w v l):Calls prog 95 #[v,.int .i64 n] w fun e w'=>e= .returned (frV (gQ l n))/\w.Grows w':=by
 by_cases h:n<1\/45<n\/bD l=false
 ·exact JB l n v w hy h
 ·simp only [not_or,Bool.not_eq_false]at h;exact Fq l n v w hy ze ze h.2.2
open Go.RowKit
def usV(e:Ex)(ls:List (ByteArray × Ex))(f:Nat):List Value:=(bJ e ls f).reverse.map fun(i:Nat)=>.int .i64 i
def lF(e:Ex)(ls:List (ByteArray × Ex))(i:Nat)(u:List Nat)(j:Nat):Bool:=bN (ls.getD i default).1 e || (u.take j).any fun k=>bN (ls.getD i default).1 (ls.getD k default).2
theorem Ei(e:Ex)(ls:List (ByteArray × Ex))(i:Nat)(u:List Nat):lF e ls i u 0=bN (ls.getD i default).1 e:=by simp [lF]
theorem Ej{e:Ex}{ls:List (ByteArray × Ex)}{i:Nat}{u:List Nat}{j:Nat}(h:j<u.length):lF e ls i u (j+1)=(lF e ls i u j || bN (ls.getD i default).1 (ls.getD (u.getD j 0) default).2):=by
 unfold lF;rw [take_succ_eq_append_getElem h,any_append,Bool.or_assoc];simp [getD_eq_getElem?_getD,getElem?_eq_getElem h]
theorem Ii(e:Ex)(ls:List (ByteArray × Ex))(i:Nat)(u:List Nat):lF e ls i u.reverse u.reverse.length=jA e ls i u:=by
 unfold lF jA;rw [take_length,any_reverse]
theorem Hz{w:World}{base:Nat}{e:TypeId}{size:Nat}{v:Value}{n:Nat}{xs:List Value}(h:w.ownsRow base e size v n xs){w':World}(hg:w.Grows w'):w'.ownsRow base e size v n xs:=
 jh h fun k _ hk=>hg.below.block k hk
theorem P6:(prog.info? 3).map (fun i=>(i.zero,i.size,i.bytes))=some (some (.int .i64 0),1,8):=by kernel_rfl
theorem tY{w:World}{base:Nat}{v:Value}{u:List Nat}(h:w.ownsRow base 3 1 v u.length (u.map fun(i:Nat)=>.int .i64 i)):∃a cap,v= .slice a u.length cap/\(u.length=0\/∃g cur,a=some ⟨g,0,none⟩/\base<=g/\w.heap[g]? =some (.cells cur 3 (0,0))/\∀j,j<u.length->w.cell? ⟨g,j,none⟩=some (.int .i64 (u.getD j 0:Nat))):=by
 obtain⟨-,⟨rfl,h0⟩|⟨g,cap,cur,rfl,hb,hg,h2,h3,h4,h5⟩⟩:=id h
 ·exact⟨none,0,by rw [h0],.inl h0⟩
 ·refine⟨_,cap,rfl,.inr ⟨g,cur,rfl,hb,hg,fun i hi=>?_⟩⟩;rw [h.cellAt i ze,getElem?_map,getElem?_eq_getElem hi,getD_eq_getElem?_getD,getElem?_eq_getElem hi];rfl
theorem ax.of_nats{w:World}{base:Nat}{v:Value}{u:List Nat}(h:w.ownsRow base 3 1 v u.length (u.map fun(i:Nat)=>.int .i64 i))(hl:u.length<=1000)(hr:∀k∈u,k<=1000):ax w v (u.map Int.ofNat):=by
 obtain⟨a,cap,rfl,hc⟩:=tY h;refine⟨by simp;omega,fun z hz=>?_,a,cap,by simp,hc.imp zg ?_⟩
 ·obtain⟨k,hk,rfl⟩:=mem_map.1 hz;have:=hr k hk;simp only [Int.ofNat_eq_natCast];omega
 ·rintro⟨g,cur,rfl,-,hg,hx⟩;refine⟨g,0,rfl,(Array.getElem?_eq_some_iff.1 hg).1,fun i hi=>?_⟩;rw [length_map]at hi;rw [Nat.zero_add,hx i hi,getD_eq_getElem?_getD,getD_eq_getElem?_getD,getElem?_map,getElem?_eq_getElem hi];rfl
theorem KP{w:World}{g q uc:Nat}{cur:Array Value}{U:List Nat}(hb:w.heap[g]? =some (.cells cur 3 (0,0)))(hc:∀j,j<U.length->w.cell? ⟨g,j,none⟩=some (.int .i64 (U.getD j 0:Nat)))(hU:U.length<=1000)(hr:∀k∈U,k<=1000) :
 ax ((w.drewN q).setCells g 0 (((U.map Int.ofNat).take U.length).reverse.map (Value.int .i64))) (.slice (some ⟨g,0,none⟩) U.length uc) (U.reverse.map Int.ofNat):=by
 have e:((U.map Int.ofNat).take U.length).reverse.map (Value.int .i64)=U.reverse.map fun(k:Nat)=>Value.int .i64 k:=by rw [take_of_length_le zg,<-map_reverse,map_map];rfl
 rw [e];refine⟨by simp;omega,fun z hz=>?_,_,uc,by simp,.inr ⟨g,0,rfl,(Array.getElem?_eq_some_iff.1 (dh (t:=3) (U.reverse.map fun(k:Nat)=>Value.int .i64 k) 0 (w.drewN q) cur hb)).1,fun i hi=>?_⟩⟩
 ·obtain⟨k,hk,rfl⟩:=mem_map.1 hz;have:=hr k (mem_reverse.1 hk);simp only [Int.ofNat_eq_natCast];omega
 ·have hi':i<U.length:=by simpa using hi
  rw [World.cell?_setCells_in g (U.reverse.map fun(k:Nat)=>Value.int .i64 k) 0 (w.drewN q) (fun j hj=>by
   rw [Nat.zero_add,show(w.drewN q).cell? ⟨g,j,none⟩=w.cell? ⟨g,j,none⟩from rfl,hc j yH];rfl) i (by simpa using hi'),getD_eq_getElem?_getD,getElem?_eq_getElem (by simpa using hi')]
  simp
theorem JX(e:Ex)(u v:Value)(ls:List (ByteArray × Ex))(w:World)(h:aB (fun _=>True) w e u)(hl:gI w v ls) :
 Calls prog 65 #[exV e u,v] w fun r w'=>(∃x,r= .returned x/\ax w' x ((az e ls).map Int.ofNat)/\∀k,x.ownBlock=some k->w.heap.size<=k)/\w.Grows w':=by
 obtain⟨i0,hi,hz0,hz1,hz2⟩:=info_parts P6;have HR:=yq h;have HL:=yq hl;obtain⟨hl1000,la,lc,rfl,-⟩:=hl;obtain⟨a,cap,rfl⟩:=h.form0;clear h
 go_enter func65,ntmps65
 go_wp2_with fail
 go_loopw [5,6] (fun v5 v6 wr=>∃(f:Nat) (vb:Value),vb=v5/\f<=ls.length/\v6= .int .i64 ((ls.length:Int)-1-f)/\Below (w.heap.size+1) ((w.alloc (.cells #[.int .i64 e.op,.int .i64 e.num,.int .i64 e.den,.int .i64 e.dim,.string e.name,.slice a e.args.length cap] 69))) wr/\wr.ownsRow (w.heap.size+1) 3 1 vb (bJ e ls f).length (usV e ls f)) (fun _ v6 _=>(intOf v6+1).toNat)
 case atStart=>exact⟨0,_,rfl,by omega,by simp,.refl _ _,World.ownsRow_nil _ _ _ _⟩
 case round=>
  obtain⟨f,vb,rfl,hf,rfl,hB,hown⟩:=hrel;obtain⟨W1,rfl⟩:∃W1,W1=wr:=⟨_,rfl⟩;have HB:=yq hB;have hG:w.Grows W1:=.of_below ((((Below.refl _ _).alloc (Nat.le_refl _) _)).trans (hB.mono ze));have HG:=yq hG;have HO:=yq hown;have hbs:w.heap.size<W1.heap.size:=by have:=hB.size;simp at this;omega
  generalize hU:(bJ e ls f).reverse=U at *;have hUl:(bJ e ls f).length=U.length:=by rw [<-hU,length_reverse]
  have hU10:U.length<=1000:=by have:=jg (e:=e) (ls:=ls) f;omega
  have hUm:∀k∈U,k<ls.length:=fun k hk=>(fM f hf k (by rw [<-hU,mem_reverse]at hk;exact hk)).2;have hUV:usV e ls f=U.map fun(i:Nat)=>.int .i64 i:=by unfold usV;rw [hU]
  rw [hUl,hUV]at hown HO;by_cases hlt:f<ls.length
  ·obtain⟨i,hi'⟩:∃i:Nat,(ls.length:Int)-1-f=i:=⟨ls.length-1-f,by omega⟩;have hii:i<ls.length:=by omega
   have HF1:Hid (bJ e ls (f+1)=if jA e ls i (bJ e ls f)then i::bJ e ls f else bJ e ls f):=yq (by rw [bJ,show ls.length-(f+1)=i by omega]);have HNB:Hid (lF e ls i U U.length=jA e ls i (bJ e ls f)):=yq (by rw [<-hU];exact Ii _ _ _ _)
   have bx:∀(j:Nat) (x:Value),(#[Value.int .i64 e.op,.int .i64 e.num,.int .i64 e.den,.int .i64 e.dim,.string e.name,.slice a e.args.length cap]:Array Value)[j]? =some x->W1.cell? ⟨w.heap.size,j,none⟩=some x:=fun j x hx=>by
    rw [hB.cell (p:=⟨w.heap.size,j,none⟩) zg,World.cell?_alloc_at _ _ _ _ rfl];exact hx
   have b0:=bx 0 _ rfl;have b1:=bx 1 _ rfl;have b2:=bx 2 _ rfl;have b3:=bx 3 _ rfl;have b4:=bx 4 _ rfl;have b5:=bx 5 _ rfl;clear bx;obtain⟨-,a',c',hvv,hx⟩:=HL.out.grows hG;simp only [Value.slice.injEq,true_and]at hvv;obtain⟨rfl,rfl⟩:=hvv;rcases hx with h0|⟨b,off,rfl,hbw,hx⟩
   ·omega
   obtain⟨ui,hsl⟩:=hx i hii;have x0:=hsl.nm;have HX:=yq hx;have HRW:=yq (HR.out.grows hG);have d1:(i:Int)<(ls.length:Int):=by omega
   have d0:(0:Int)<=(i:Int):=by omega
   have HI:=yq hi';rw [hi'];obtain⟨ua,uc,rfl,hur⟩:=tY hown;have hz:Hid (lF e ls i U 0=bN (ls.getD i default).1 e):=yq (Ei _ _ _ _);have hs:Hid (∀j,j<U.length->lF e ls i U (j+1)=(lF e ls i U j || bN (ls.getD i default).1 (ls.getD (U.getD j 0) default).2)):=yq (fun j hj=>Ej hj);have HUR:=yq hur;have HUM:=yq hUm;have HUL:=yq hUl;have HU:=yq hU;have HUV:=yq hUV;generalize hnm:(ls.getD i default).1=nm at *;have HNM:=yq hnm;clear hnm;clear hsl hx hur hUm hUl hU hUV hown hG hB hi';have HM0:=yq (fun w' (hg:W1.Grows w')=>wK (fun _=>True) nm e _ w' (HRW.out.grows hg));unfold exV at HM0;generalize hq:bN nm e=q0 at *
   go_wp2_with fail
   refine eX zf zf ?_;repeat(go_big_quiet_step ((go_at_call 91;exact Calls.quietG (HM0.out _ ag))))
   refine wpQuiet_nil ?_;intro _ hw';obtain⟨⟨gb,gd⟩,hw''⟩:=hw';subst hw''
   go_wp2_with fail
   obtain⟨W2,hW2⟩:∃W2,W2=W1.grow gb gd:=⟨_,rfl⟩;rw [<-hW2];have HW2:=yq hW2;have HG2:Hid (W1.Grows W2):=yq (hW2 ▸ ⟨_,_,rfl⟩);clear hW2 b0 b1 b2 b3 b4 b5 x0
   go_loopw [7,26] (fun v7 v26 wr=>∃(j:Nat) (nb:Bool),j<=U.length/\v26= .int .i64 j/\v7= .bool nb/\Hid (lF e ls i U j=nb)/\W2.Grows wr) (fun _ v26 _=>U.length-(intOf v26).toNat)
   case atStart=>exact⟨0,_,by omega,rfl,rfl,hz,.refl _⟩
   case round=>
    obtain⟨j,nb,hj,rfl,rfl,HN,hG3⟩:=hrel;have HG4:=yq hG3;have HG3:Hid (W1.Grows wr):=yq (gqq HG2.out hG3);clear hG3;by_cases hjl:j<U.length
    ·rcases HUR.out with h0|⟨g,cur,rfl,-,hg,hgx⟩
     ·omega
     have hg:=(Array.getElem?_eq_some_iff.1 hg).1;have y0:=(HG3.out.below.cell (p:=⟨g,j,none⟩) (by exact hg)).trans (hgx j hjl);have hsz:=HG3.out.below.size;have hsuc:=hs.out j hjl;rw [HN.out]at hsuc;have hk:=HUM.out (U.getD j 0) (by rw [getD_eq_getElem?_getD,getElem?_eq_getElem hjl];exact getElem_mem hjl);generalize U.getD j 0=k at *;obtain⟨uk,hsk⟩:=HX.out k hk;obtain⟨ui,hsi⟩:=HX.out i hii;have hsk:=hsk.same HG3.out hbw;have hsi:=hsi.same HG3.out hbw;generalize(ls.getD k default).2=ek at *;obtain⟨-,z1,z2,z3,z4,z5,z6,hrk⟩:=hsk;have x0:=hsi.nm;rw [HNM.out]at x0;have hbw2:b<wr.heap.size:=by omega
     have hg2:g<wr.heap.size:=by omega
     obtain⟨ka,kc,rfl⟩:=hrk.form0;have HRK:=yq hrk;have e1:(k:Int)<(ls.length:Int):=by omega
     have e0:(0:Int)<=(k:Int):=by omega
     have f1:(j:Int)<(U.length:Int):=by omega
     have f0:(0:Int)<=(j:Int):=by omega
     have HSU:=yq hsuc;have HJL:=yq hjl;clear hsi hrk hsuc hk hgx hjl hj HRW;have HM2:=yq (fun w' (hg:wr.Grows w')=>wK (fun _=>True) nm ek _ w' (HRK.out.grows hg));unfold exV at HM2;generalize hq2:bN nm ek=q2 at *;cases nb
     focus
      go_wp2_with fail
      refine eX zf zf ?_;repeat(go_big_quiet_step ((go_at_call 91;exact Calls.quietG (HM2.out _ ag))))
     rotate_left
     focus
      go_wp2_with fail
      refine eX zf zf ?_;repeat(go_big_quiet_step (fail))
     rotate_left
     all_goals
      refine wpQuiet_nil ?_;intro _ hw';obtain⟨⟨gb,gd⟩,hw''⟩:=hw';subst hw''
      go_wp2_with fail
      go_roundw
      case rel=>exact⟨j+1,_,by have:=HJL.out;omega,by go_num,rfl,yq (by rw [HSU.out];first|rfl|simp),gqq HG4.out ag⟩
      case measure=>simp [intOf];have:=HJL.out;omega
    ·obtain rfl:j=U.length:=by omega
     have HN2:Hid (jA e ls i (bJ e ls f)=nb):=yq (HNB.out.symm.trans HN.out);have HO3:=yq (Hz HO.out HG3.out);have HB3:=yq (HB.out.trans (HG3.out.below.mono ze));have HG5:=yq (gqq HG.out HG3.out);have HLT:=yq hlt;have hbs2:w.heap.size+1<=wr.heap.size:=by have:=HG3.out.below.size;omega
     clear HN HG3 HG4 HRW hlt hj;cases nb
     ·have HV:Hid (bJ e ls (f+1)=bJ e ls f):=yq (by rw [HF1.out,HN2.out];rfl)
      go_wp2_with fail
      go_roundw
      case rel=>exact⟨f+1,_,rfl,HLT.out,by have:=HI.out;first|(congr 1;omega)|(simp;omega),by have:=HB3.out;(exact af),by unfold usV;rw [HV.out,HUL.out,HU.out];exact HO3.out⟩
      case measure=>first|(simp [intOf];done)|(simp [intOf];omega)
     ·have HV:Hid (bJ e ls (f+1)=i::bJ e ls f):=yq (by rw [HF1.out,HN2.out];rfl)
      go_wp2_with (at_builtin;refine wpList_append_own _ rfl _ _ 22 rfl (w.heap.size+1) 3 i0 (.int .i64 0) 1 8 underlying22 hi hz0 hz1 hz2 rfl zo _ _ _ rfl (HO3.out.alloc _) ⟨wr.heap.size,0,none⟩ 1 1 [.int .i64 i] rfl rfl ?c1 ?c2 ?c3 ?c4 ?c5 ?_)
      case c1=>exact aQ _ [.int .i64 i] _ _ zg
      case c2=>intro u hu;simp at hu;subst hu;rfl
      case c3=>unfold maxLen;omega
      case c4=>omega
      case c5=>simp;omega
      intro v' w1 hown' hgrow _;have HB4:=yq ((show Below (w.heap.size+1) ((w.alloc (.cells #[.int .i64 e.op,.int .i64 e.num,.int .i64 e.den,.int .i64 e.dim,.string e.name,.slice a e.args.length cap] 69))) _ from by have:=HB3.out;(exact af)).grown hgrow zp (fun k hk=>(HO3.out.lt k hk).1));have HO4:=yq hown';clear hown' hgrow
      go_wp2_with fail
      go_roundw
      case rel=>exact⟨f+1,_,rfl,HLT.out,by have:=HI.out;first|(congr 1;omega)|(simp;omega),HB4.out,by unfold usV;rw [HV.out,reverse_cons,HU.out,length_cons,HUL.out,map_append];exact HO4.out⟩
      case measure=>first|(simp [intOf];done)|(simp [intOf];omega)
  ·obtain rfl:f=ls.length:=by omega
   have hz:(ls.length:Int)-1-ls.length= -1:=by omega
   rw [hz];have HUM:Hid (∀k∈U,k<ls.length):=yq hUm;have HF:Hid (az e ls=U.reverse):=yq (by unfold az;rw [<-hU,reverse_reverse]);have HNB:=yq (fun k hk=>(hown.lt k hk).1);obtain⟨ua,uc,rfl,hur⟩:=tY hown;clear hz hown hUm hU hUl hUV;rcases hur with h0|⟨g,cur,rfl,hgb,hg,hgx⟩
   ·have hUn:U= []:=eq_nil_of_length_eq_zero h0;subst hUn;simp only [length_nil]
    go_wp2_with (go_at_call 92;refine gw (slices_Reverse_int_empty _ _ _) ?_)
    go_returns
    exact⟨⟨_,rfl,by rw [HF.out];exact⟨by simp,by simp,_,_,rfl,.inl rfl⟩,fun k hk=>by have:=HNB.out k hk;omega⟩,HG.out⟩
   ·have HIR:=yq (fun q=>KP (q:=q) (uc:=uc) hg hgx hU10 (fun k hk=>by have:=HUM.out k hk;omega))
    have HRV:=yq (slices_Reverse_int_cells g 0 U.length uc (U.map Int.ofNat) W1 zg ze (fun j hj=>by
     have hj':j<U.length:=by simpa using hj
     rw [Nat.zero_add,hgx j hj',getD_eq_getElem?_getD,getD_eq_getElem?_getD,getElem?_map,getElem?_eq_getElem hj'];rfl) (fun j hj=>Joins.unfrozen_of_block hg _))
    clear hgx
    go_wp2_with (go_at_call 92;refine HRV.out.mono ?_;rintro e' w' ⟨rfl,q,rfl⟩;have HI2:=yq (HIR.out q);have HB2:=yq (below_setCells (show w.heap.size<=g by omega) (((U.map Int.ofNat).take U.length).reverse.map (Value.int .i64)) 0 (W1.drewN q) ((hG.below).drewN q));generalize(W1.drewN q).setCells g 0 (((U.map Int.ofNat).take U.length).reverse.map (Value.int .i64))=W2 at *)
    go_returns
    exact⟨⟨_,rfl,by rw [HF.out];exact HI2.out,fun k hk=>by have:=HNB.out k hk;omega⟩,.of_below HB2.out⟩
def markT(e:Ex)(ls:List (ByteArray × Ex))(i:Nat)(M:List Bool)(a k:Nat):Bool:=bN (ls.getD i default).1 e || (range' a (k-a)).any fun t=>M.getD t false&&bN (ls.getD i default).1 (ls.getD t default).2
theorem Et(e:Ex)(ls:List (ByteArray × Ex))(i:Nat)(M:List Bool)(a:Nat):markT e ls i M a a=bN (ls.getD i default).1 e:=by simp [markT]
theorem Eu{e:Ex}{ls:List (ByteArray × Ex)}{i:Nat}{M:List Bool}{a k:Nat}(h:a<=k):markT e ls i M a (k+1)=(markT e ls i M a k || M.getD k false&&bN (ls.getD i default).1 (ls.getD k default).2):=by
 unfold markT;rw [show k+1-a=(k-a)+1 by omega,range'_concat,any_append,Bool.or_assoc];simp [show a+(k-a)=k by omega]
theorem JK{u:List Nat}{a n:Nat}{p:Nat->Bool}(hu:∀k∈u,a<=k/\k<n)(M:List Bool)(hM:∀k,a<=k->k<n->M.getD k false=u.contains k):((range' a (n-a)).any fun t=>M.getD t false&&p t)=u.any p:=by
 rw [Bool.eq_iff_iff,any_eq_true,any_eq_true];constructor
 ·rintro⟨t,ht,hp⟩;rw [mem_range'_1]at ht;rw [hM t ht.1 ze,Bool.and_eq_true]at hp;exact⟨t,contains_iff_mem.1 hp.1,hp.2⟩
 ·rintro⟨t,ht,hp⟩;have h:=hu t ht;refine⟨t,mem_range'_1.2 ⟨h.1,by omega⟩, ?_⟩;rw [hM t h.1 h.2,Bool.and_eq_true];exact⟨contains_iff_mem.2 ht,hp⟩
theorem Im{e:Ex}{ls:List (ByteArray × Ex)}{f i:Nat}(hf:f<ls.length)(hi:i=ls.length-1-f){M:List Bool}(hM:∀k,ls.length-f<=k->k<ls.length->M.getD k false=(bJ e ls f).contains k) :
 markT e ls i M (i+1) ls.length=jA e ls i (bJ e ls f):=by
 unfold markT jA;rw [JK (u:=bJ e ls f) (fun k hk=>by have:=fM f ze k hk;omega) M (fun k h1 h2=>hM k ze h2)]
theorem Es{e:Ex}{ls:List (ByteArray × Ex)}{f i:Nat}(hf:f<ls.length)(hi:i=ls.length-1-f){M:List Bool}(hl:M.length=ls.length)(hM:∀k,ls.length-f<=k->k<ls.length->M.getD k false=(bJ e ls f).contains k) :
 ∀k,ls.length-(f+1)<=k->k<ls.length->(M.set i (jA e ls i (bJ e ls f))).getD k false=(bJ e ls (f+1)).contains k:=by
 intro k h1 h2;by_cases hk:k=i
 ·subst hk;rw [getD_eq_getElem?_getD,getElem?_set_self ze];have:=jr (e:=e) (ls:=ls) f ze;rw [show ls.length-(f+1)=k by omega]at this;rw [this];rfl
 ·rw [getD_eq_getElem?_getD,getElem?_set_ne (Ne.symm hk),<-getD_eq_getElem?_getD,hM k ze h2];have:=kF (e:=e) (ls:=ls) (i:=k) f 1 ze ze h2;rw [Bool.eq_iff_iff,contains_iff_mem,contains_iff_mem,this]
def fl(M:List Bool)(k:Nat):List Nat:=(List.range k).filter fun t=>M.getD t false
theorem O0(M:List Bool)(k:Nat):fl M (k+1)=match M.getD k false with|true=>fl M k++[k]|false=>fl M k:=by
 unfold fl;rw [range_succ,filter_append];cases h:M.getD k false<;>(rw [getD_eq_getElem?_getD]at h;simp [h])
theorem Q7(M:List Bool)(k:Nat):(fl M k).length<=k:=by
 unfold fl;have:=length_filter_le (fun t=>M.getD t false) (List.range k)
 rwa [length_range]at this
theorem qZ{e:Ex}{ls:List (ByteArray × Ex)}:∀f,f<=ls.length->bJ e ls f=(range' (ls.length-f) f).filter fun t=>(az e ls).contains t
 |0,_=>by simp [bJ]
 |f+1,hf=>by
  have hm:(az e ls).contains (ls.length-(f+1))=jA e ls (ls.length-(f+1)) (bJ e ls f):=by
   rw [<-jr f hf,Bool.eq_iff_iff,contains_iff_mem,contains_iff_mem];unfold az;have:=kF (e:=e) (ls:=ls) (i:=ls.length-(f+1)) (f+1) (ls.length-(f+1)) ze ze ze;rw [show f+1+(ls.length-(f+1))=ls.length by omega]at this;exact this
  rw [range'_succ,filter_cons,hm,show ls.length-(f+1)+1=ls.length-f by omega,<-qZ f ze,bJ]
theorem Q8{e:Ex}{ls:List (ByteArray × Ex)}{M:List Bool}(h:∀k,ls.length-ls.length<=k->k<ls.length->M.getD k false=(bJ e ls ls.length).contains k):fl M ls.length=az e ls:=by
 have:=qZ (e:=e) (ls:=ls) ls.length (Nat.le_refl _);unfold fl az;unfold az at this;rw [this,Nat.sub_self,<-range_eq_range'];exact filter_congr fun t ht=>h t ze (mem_range.1 ht)
def bbs(M:List Bool):Array Value:=(M.map Value.bool).toArray
theorem ny(M:List Bool){k:Nat}(h:k<M.length):(bbs M)[k]? =some (.bool (M.getD k false)):=by
 simp [bbs,getD_eq_getElem?_getD,getElem?_eq_getElem h]
theorem AO(M:List Bool)(k:Nat)(b:Bool):(bbs M).setIfInBounds k (.bool b)=bbs (M.set k b):=by
 simp [bbs,map_set]
theorem Dh(n:Nat):madeCells #[Value.bool false] n=bbs (List.replicate n false):=by
 unfold bbs madeCells;rw [map_replicate];apply Array.ext';rw [toList_toArray];refine ext_getElem zg fun i h1 h2=>?_;simp [Nat.mod_one]
theorem Ls:(prog.info? 4).map (fun i=>(i.zero,i.size,i.bytes))=some (some (.bool false),1,1):=by kernel_rfl
theorem pK(M:List Bool)(i:Nat)(a b:Bool):(bbs (M.set i a)).setIfInBounds i (.bool b)=bbs (M.set i b):=by rw [AO,set_set]
theorem FL{M:List Bool}{i k:Nat}{b:Bool}(h:k≠i):(M.set i b).getD k false=M.getD k false:=by
 rw [getD_eq_getElem?_getD,getElem?_set_ne (Ne.symm h),<-getD_eq_getElem?_getD]
theorem set_self{M:List Bool}{i:Nat}{b:Bool}(h:i<M.length):(M.set i b).getD i false=b:=by
 rw [getD_eq_getElem?_getD,getElem?_set_self h];rfl
theorem JW(e:Ex)(u v:Value)(ls:List (ByteArray × Ex))(w:World)(h:aB (fun _=>True) w e u)(hl:gI w v ls) :
 Calls prog 58 #[exV e u,v] w fun r w'=>(∃x,r= .returned x/\ax w' x ((az e ls).map Int.ofNat)/\∀k,x.ownBlock=some k->w.heap.size<=k)/\w.Grows w':=by
 obtain⟨i0,hi,hz0,hz1,hz2⟩:=info_parts P6;have HR:=yq h;have HL:=yq hl;obtain⟨hl1000,la,lc,rfl,-⟩:=hl;obtain⟨a,cap,rfl⟩:=h.form0;clear h;have hmk:=run_make_row' (P:=prog) 120 4 (.bool false) 1 underlying120 Ls rfl .i64 .i64 ls.length ze ze
 go_enter func58,ntmps58
 go_wp2_with fail
 go_loopw [6] (fun v6 wr=>∃(f:Nat) (M:List Bool),f<=ls.length/\v6= .int .i64 ((ls.length:Int)-1-f)/\M.length=ls.length/\Hid (∀k,ls.length-f<=k->k<ls.length->M.getD k false=(bJ e ls f).contains k)/\Below (w.heap.size+1) ((w.alloc (.cells #[.int .i64 e.op,.int .i64 e.num,.int .i64 e.den,.int .i64 e.dim,.string e.name,.slice a e.args.length cap] 69))) wr/\wr.heap[w.heap.size+1]? =some (.cells (bbs M) 4 (0,0))) (fun v6 _=>(intOf v6+1).toNat)
 case atStart=>exact⟨0,List.replicate ls.length false,by omega,by simp,by simp,yq (fun k h1 h2=>by omega),(Below.refl _ _).alloc zg _,by rw [<-Dh];exact bP _ _ _ zg⟩
 case round=>
  obtain⟨f,M,hf,rfl,hM,hMk,hB,hblk⟩:=hrel;obtain⟨W1,rfl⟩:∃W1,W1=wr:=⟨_,rfl⟩;have HB:=yq hB;have hG:w.Grows W1:=.of_below ((((Below.refl _ _).alloc (Nat.le_refl _) _)).trans (hB.mono ze));have HG:=yq hG;have HBK:=yq hblk;have hbs:w.heap.size+1<W1.heap.size:=(Array.getElem?_eq_some_iff.1 hblk).1;have hbs0:w.heap.size<W1.heap.size:=by omega
  by_cases hlt:f<ls.length
  ·obtain⟨i,hi'⟩:∃i:Nat,(ls.length:Int)-1-f=i:=⟨ls.length-1-f,by omega⟩;have hii:i<ls.length:=by omega
   have HF1:=yq (Im (e:=e) (i:=i) hlt ze hMk.out);have HF2:=yq (Es (e:=e) (i:=i) hlt ze hM hMk.out)
   have bx:∀(j:Nat) (x:Value),(#[Value.int .i64 e.op,.int .i64 e.num,.int .i64 e.den,.int .i64 e.dim,.string e.name,.slice a e.args.length cap]:Array Value)[j]? =some x->W1.cell? ⟨w.heap.size,j,none⟩=some x:=fun j x hx=>by
    rw [hB.cell (p:=⟨w.heap.size,j,none⟩) zg,World.cell?_alloc_at _ _ _ _ rfl];exact hx
   have b0:=bx 0 _ rfl;have b1:=bx 1 _ rfl;have b2:=bx 2 _ rfl;have b3:=bx 3 _ rfl;have b4:=bx 4 _ rfl;have b5:=bx 5 _ rfl;clear bx;have c0:W1.cell? ⟨w.heap.size+1,i,none⟩=some (.bool (M.getD i false)):=by rw [cell_of_row W1 _ _ _ _ _ hblk];exact ny M ze
   have z0:W1.frozen? ⟨w.heap.size+1,i,none⟩=false:=Joins.unfrozen_of_block hblk i;obtain⟨-,a',c',hvv,hx⟩:=HL.out.grows hG;simp only [Value.slice.injEq,true_and]at hvv;obtain⟨rfl,rfl⟩:=hvv;rcases hx with h0|⟨b,off,rfl,hbw,hx⟩
   ·omega
   obtain⟨ui,hsl⟩:=hx i hii;have x0:=hsl.nm;have HX:=yq hx;have HRW:=yq (HR.out.grows hG);have d1:(i:Int)<(ls.length:Int):=by omega
   have d0:(0:Int)<=(i:Int):=by omega
   have HI:=yq hi';rw [hi'];have hz:Hid (markT e ls i M (i+1) (i+1)=bN (ls.getD i default).1 e):=yq (Et _ _ _ _ _);have hs:Hid (∀k,i+1<=k->markT e ls i M (i+1) (k+1)=(markT e ls i M (i+1) k || M.getD k false&&bN (ls.getD i default).1 (ls.getD k default).2)):=yq (fun k hk=>Eu hk);generalize hnm:(ls.getD i default).1=nm at *;have HNM:=yq hnm;have HML:=yq hM;have HLT:=yq hlt;clear hnm hsl hx hG hB hi' hblk hM hMk hlt hf;have HM0:=yq (fun w' (hg:W1.Grows w')=>wJ (fun _=>True) nm e _ w' (HRW.out.grows hg));unfold exV at HM0;generalize hq:bN nm e=q0 at *;generalize M.getD i false=m0 at *
   go_wp2_with fail
   apply fC 10 zf zf;simp only [take_succ_cons,take_zero];repeat(go_big_quiet_step ((go_at_call 75;exact Calls.quietG (HM0.out _ ag))))
   refine wpQuiet_nil ?_;intro _ hw';obtain⟨⟨gb,gd⟩,hw''⟩:=hw';subst hw'';simp only [drop_succ_cons,drop_zero]
   go_wp2_with fail
   obtain⟨W2,hW2⟩:∃W2,W2=(W1.setCell ⟨w.heap.size+1,i,none⟩ (.bool q0)).grow gb gd:=⟨_,rfl⟩;rw [<-hW2];have HB2:Hid (Below (w.heap.size+1) ((w.alloc (.cells #[.int .i64 e.op,.int .i64 e.num,.int .i64 e.den,.int .i64 e.dim,.string e.name,.slice a e.args.length cap] 69))) W2):=yq (by rw [hW2];exact(HB.out.setCell (p:=⟨w.heap.size+1,i,none⟩) (Nat.le_refl _) _).grow zp _ _);have HC2:Hid (W2.heap[w.heap.size+1]? =some (.cells (bbs (M.set i q0)) 4 (0,0))):=yq (by rw [hW2,World.heap_grow _ _ _ zp,<-AO];exact Joins.block_setCell HBK.out _);clear hW2 b0 b1 b2 b3 b4 b5 x0 c0 z0 HM0 hbs hbs0
   go_loopw [7] (fun v7 wr=>∃(k:Nat) (nb:Bool),i+1<=k/\k<=ls.length/\v7= .int .i64 k/\Hid (markT e ls i M (i+1) k=nb)/\Below (w.heap.size+1) ((w.alloc (.cells #[.int .i64 e.op,.int .i64 e.num,.int .i64 e.den,.int .i64 e.dim,.string e.name,.slice a e.args.length cap] 69))) wr/\wr.heap[w.heap.size+1]? =some (.cells (bbs (M.set i nb)) 4 (0,0))) (fun v7 _=>ls.length-(intOf v7).toNat)
   case atStart=>exact⟨i+1,q0,by omega,by omega,by go_num,hz,HB2.out,HC2.out⟩
   case round=>
    obtain⟨k,nb,hki,hk,rfl,HN,hB3,hblk⟩:=hrel;obtain⟨W3,rfl⟩:∃W3,W3=wr:=⟨_,rfl⟩;have HB3:=yq hB3;have HBK3:=yq hblk;have hbs:w.heap.size+1<W3.heap.size:=(Array.getElem?_eq_some_iff.1 hblk).1;by_cases hkl:k<ls.length
    ·have c0:W3.cell? ⟨w.heap.size+1,i,none⟩=some (.bool nb):=by rw [cell_of_row W3 _ _ _ _ _ hblk,ny _ (by rw [length_set];have:=HML.out;omega),set_self (by have:=HML.out;omega)]
     have c1:W3.cell? ⟨w.heap.size+1,k,none⟩=some (.bool (M.getD k false)):=by rw [cell_of_row W3 _ _ _ _ _ hblk,ny _ (by rw [length_set];have:=HML.out;omega),FL ze]
     have z0:W3.frozen? ⟨w.heap.size+1,i,none⟩=false:=Joins.unfrozen_of_block hblk i;have hsuc:=hs.out k hki;rw [HN.out]at hsuc;have hG3:w.Grows W3:=.of_below ((((Below.refl _ _).alloc (Nat.le_refl _) _)).trans (hB3.mono ze));obtain⟨-,a',c',hvv,hx⟩:=HL.out.grows hG3;simp only [Value.slice.injEq,true_and]at hvv;obtain⟨hvv,rfl⟩:=hvv;rcases hx with h0|⟨b',off',rfl,hbw3,hx⟩
     ·omega
     simp only [Option.some.injEq,Addr.mk.injEq,and_true]at hvv;obtain⟨rfl,rfl⟩:=hvv;obtain⟨uk,hsk⟩:=hx k hkl;obtain⟨ui,hsi⟩:=hx i hii;have x0:=hsi.nm;rw [HNM.out]at x0;obtain⟨-,y1,y2,y3,y4,y5,y6,hrk⟩:=hsk;obtain⟨ka,kc,rfl⟩:=hrk.form0;generalize(ls.getD k default).2=ek at *;have HRK:=yq hrk;have HM2:=yq (fun w' (hg:W3.Grows w')=>wJ (fun _=>True) nm ek _ w' (HRK.out.grows hg));unfold exV at HM2;have e1:(k:Int)<(ls.length:Int):=by omega
     have e0:(0:Int)<=(k:Int):=by omega
     have HSU:=yq hsuc;have HKI:=yq hki;have HKL:=yq hkl;clear hsi hrk hsuc hx hB3 hblk hki hkl hk hG3;generalize hq2:bN nm ek=q2 at *;generalize M.getD k false=mk at *;cases nb
     ·cases mk
      focus
       go_wp2_with fail
      rotate_left
      focus
       go_wp2_with fail
      rotate_left
      all_goals
       apply fC 26 zf zf;simp only [take_succ_cons,take_zero];repeat(go_big_quiet_step ((go_at_call 75;exact Calls.quietG (HM2.out _ ag))))
       refine wpQuiet_nil ?_;intro _ hw';obtain⟨⟨gb,gd⟩,hw''⟩:=hw';subst hw'';simp only [drop_succ_cons,drop_zero]
       go_wp2_with fail
       go_roundw
       case rel=>exact⟨k+1,_,by have:=HKI.out;omega,HKL.out,by go_num,HSU,by have:=HB3.out;(exact af),by first|(rw [World.heap_grow _ _ _ zp,<-pK];exact Joins.block_setCell HBK3.out _)|(rw [<-pK];exact Joins.block_setCell ((World.heap_grow _ _ _ hbs).trans HBK3.out) _)⟩
       case measure=>simp [intOf];have:=HKL.out;omega
     ·go_wp2_with fail
      apply fC 26 zf zf;simp only [take_succ_cons,take_zero];repeat(go_big_quiet_step ((go_at_call 75;exact Calls.quietG (HM2.out _ ag))))
      refine wpQuiet_nil ?_;intro _ hw';obtain⟨⟨gb,gd⟩,hw''⟩:=hw';subst hw'';simp only [drop_succ_cons,drop_zero]
      go_wp2_with fail
      go_roundw
      case rel=>exact⟨k+1,_,by have:=HKI.out;omega,HKL.out,by go_num,HSU,by have:=HB3.out;(exact af),by first|(rw [World.heap_grow _ _ _ zp,<-pK];exact Joins.block_setCell HBK3.out _)|(rw [<-pK];exact Joins.block_setCell ((World.heap_grow _ _ _ hbs).trans HBK3.out) _)⟩
      case measure=>simp [intOf];have:=HKL.out;omega
    ·obtain rfl:k=ls.length:=by omega
     have HN2:Hid (jA e ls i (bJ e ls f)=nb):=yq (HF1.out.symm.trans HN.out);have HF3:=HF2;rw [HN2.out]at HF3;clear HF2 HN hB3 hblk
     go_wp2_with fail
     go_roundw
     case rel=>exact⟨f+1,_,HLT.out,by have:=HI.out;first|(congr 1;omega)|(simp;omega),by rw [length_set];exact HML.out,HF3,HB3.out,HBK3.out⟩
     case measure=>first|(simp [intOf];done)|(simp [intOf];omega)
  ·obtain rfl:f=ls.length:=by omega
   have hz:(ls.length:Int)-1-ls.length= -1:=by omega
   rw [hz];have HMK:Hid (∀k,k<ls.length->M.getD k false=(az e ls).contains k):=yq (fun k hk=>hMk.out k ze hk);have HML:=yq hM;have HFL:Hid (fl M ls.length=az e ls):=yq (Q8 hMk.out);clear hz hB hblk hMk hM
   go_wp2_with fail
   go_loopw [8,9] (fun v8 v9 wr=>∃(k:Nat) (vb:Value),vb=v8/\k<=ls.length/\v9= .int .i64 k/\Below (w.heap.size+1) ((w.alloc (.cells #[.int .i64 e.op,.int .i64 e.num,.int .i64 e.den,.int .i64 e.dim,.string e.name,.slice a e.args.length cap] 69))) wr/\wr.heap[w.heap.size+1]? =some (.cells (bbs M) 4 (0,0))/\wr.ownsRow (w.heap.size+2) 3 1 vb (fl M k).length ((fl M k).map fun(i:Nat)=>.int .i64 i)) (fun _ v9 _=>ls.length-(intOf v9).toNat)
   case atStart=>exact⟨0,_,rfl,by omega,rfl,HB.out,HBK.out,World.ownsRow_nil _ _ _ _⟩
   case round=>
    obtain⟨k,vb,rfl,hk,rfl,hB3,hblk,hown⟩:=hrel;have HB3:=yq hB3;have HBK3:=yq hblk;have HO3:=yq hown;have hbs3:w.heap.size+1<wr.heap.size:=(Array.getElem?_eq_some_iff.1 hblk).1;by_cases hkl:k<ls.length
    ·have c0:wr.cell? ⟨w.heap.size+1,k,none⟩=some (.bool (M.getD k false)):=by rw [cell_of_row wr _ _ _ _ _ hblk,ny _ (by have:=HML.out;omega)]
     have e1:(k:Int)<(ls.length:Int):=by omega
     have e0:(0:Int)<=(k:Int):=by omega
     have HKL:=yq hkl;have HN:=yq (O0 M k);have hfl:=Q7 M k;clear hB3 hblk hown hkl hk;cases hm:M.getD k false
     ·rw [hm]at c0 HN;have HN:Hid (fl M (k+1)=fl M k):=HN;clear hm
      go_wp2_with fail
      go_roundw
      case rel=>exact⟨k+1,_,rfl,HKL.out,by go_num,HB3.out,HBK3.out,by rw [HN.out];exact HO3.out⟩
      case measure=>simp [intOf];have:=HKL.out;omega
     ·rw [hm]at c0 HN;have HN:Hid (fl M (k+1)=fl M k++[k]):=HN;clear hm;have hk10:k<=1000:=by have:=HKL.out;omega
      go_wp2_with (at_builtin;refine wpList_append_own _ rfl _ _ 22 rfl (w.heap.size+2) 3 i0 (.int .i64 0) 1 8 underlying22 hi hz0 hz1 hz2 rfl zo _ _ _ rfl (HO3.out.alloc _) ⟨wr.heap.size,0,none⟩ 1 1 [.int .i64 k] rfl rfl ?c1 ?c2 ?c3 ?c4 ?c5 ?_)
      try(case c1=>exact aQ _ [.int .i64 k] _ _ zg)
      case c2=>first|rfl|(intro u hu;simp at hu;subst hu;rfl)
      case c3=>unfold maxLen;omega
      case c4=>omega
      case c5=>first|omega|(simp;omega)
      intro v' w1 hown' hgrow _;have HB4:=yq ((show Below (w.heap.size+1) ((w.alloc (.cells #[.int .i64 e.op,.int .i64 e.num,.int .i64 e.den,.int .i64 e.dim,.string e.name,.slice a e.args.length cap] 69))) _ from by have:=HB3.out;(exact af)).grown hgrow zp (fun k hk=>by have:=(HO3.out.lt k hk).1;omega));have HBK4:Hid (w1.heap[w.heap.size+1]? =some (.cells (bbs M) 4 (0,0))):=yq ((hgrow.block (w.heap.size+1) zp (fun e=>by have:=(HO3.out.lt _ e.symm).1;omega)).trans ((Below.heap_alloc _ _ _ hbs3).trans HBK3.out));have HO4:=yq hown';clear hown' hgrow
      go_wp2_with fail
      go_roundw
      case rel=>exact⟨k+1,_,rfl,HKL.out,by go_num,HB4.out,HBK4.out,by rw [HN.out,length_append,map_append];exact HO4.out⟩
      case measure=>simp [intOf];have:=HKL.out;omega
    ·obtain rfl:k=ls.length:=by omega
     rw [HFL.out]at HO3;have hll:=jg (e:=e) (ls:=ls) ls.length;have HIN:Hid (ax wr vb ((az e ls).map Int.ofNat)):=yq (ax.of_nats HO3.out (by unfold az;omega) (fun k hk=>by have:=fM ls.length (Nat.le_refl _) k hk;omega));have HNB:Hid (∀k,vb.ownBlock=some k->w.heap.size<=k):=yq (fun k hk=>by have:=(HO3.out.lt k hk).1;omega);clear hB3 hblk hown
     go_wp2_with fail
     go_returns
     exact⟨⟨_,rfl,HIN.out,HNB.out⟩,.of_below ((((Below.refl _ _).alloc (Nat.le_refl _) _)).trans (HB3.out.mono ze))⟩
end Go.Proofs.YtcfpoofhokbhlaaGreatDoor
