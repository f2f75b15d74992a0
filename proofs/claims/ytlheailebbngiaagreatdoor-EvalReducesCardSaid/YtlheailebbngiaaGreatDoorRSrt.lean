import Derived.Test.YtlheailebbngiaaGreatDoorREvQ
import Derived.Test.YtlheailebbngiaaGreatDoorRTwistW
import Derived.Test.YtlheailebbngiaaGreatDoorRVw8
set_option linter.all false
set_option maxHeartbeats 16000000
set_option maxRecDepth 1000000
namespace Go.Proofs.YtlheailebbngiaaGreatDoor
open Go.Proofs.Tryz List
open Go.RowKit Go.Sort Go.Lib
theorem bK.of_row{w:World}{base:Nat}{v:Value}{l:List Int}(h:w.ownsRow base 3 1 v l.length (l.map (Value.int .i64)))(hl:l.length<=1000):bK w v l:=by
 obtain⟨-,⟨rfl,h0⟩|⟨g,cap,cur,rfl,hb,hg,h2,h3,h4,h5⟩⟩:=id h
 ·exact⟨by omega,none,0,by rw [h0],.inl h0⟩
 ·refine⟨by omega,_,cap,rfl,.inr ⟨g,0,rfl,(Array.getElem?_eq_some_iff.1 hg).1,fun i hi=>?_⟩⟩;rw [Nat.zero_add,h.cellAt i ze,getElem?_map,getElem?_eq_getElem hi,getD_eq_getElem?_getD,getElem?_eq_getElem hi];rfl
def FQ(x:List Int)(w:World)(e:Ending)(w':World):Prop:=∃(a:Option Addr) (cap:Nat) (ss:List Int),e= .returned (.slice a ss.length cap)/\ss.length<=cap/\ss.Perm x/\ss.Pairwise (·<=·)/\bK w' (.slice a ss.length cap) ss/\w.Grows w'
def OX(x:List Int)(w:World)(e:Ending)(w':World):Prop:=∃v',e= .returned v'/\w'.ownsRow w.heap.size 3 1 v' x.length (x.map (Value.int .i64))/\Below w.heap.size w w'
theorem Ct(x:List Int)(v:Value)(Bs:Nat)(w:World)(hb:Bs<w.heap.size)(hc0:w.cell? ⟨Bs,0,none⟩=some v)(hL:bK w v x) :
 Calls prog 96 #[.func (.func 98) #[] #[.pointer (some ⟨Bs,0,none⟩)]] w (OX x w):=by
 have HA:=zh (callsIn_wide.1 (OL x v Bs w hb hc0 hL));clear hc0 hL
 go_enter func96,ntmps96
 go_wp2_with (go_at_call 130;refine HA.out.mono ?_;rintro e' w' ⟨v',rfl,hown,hbel⟩)
 go_returns
 exact⟨_,rfl,hown,hbel⟩
theorem F7(l:List Int):(l.mergeSort fun x y=>decide (x<=y)).Pairwise (·<=·):=by
 have:=pairwise_mergeSort (le:=fun x y:Int=>decide (x<=y)) (by intro a b c h1 h2;simp at *;omega) (by intro a b;simp;omega) l;exact this.imp fun h=>by simpa using h
theorem IL{w w1 w2:World}{g:Nat}(h:Below w.heap.size w w1)(hg:w1.grownBy w2 (some g))(hle:w.heap.size<=g):Below w.heap.size w w2:=h.grown hg h.size (fun k hk=>by cases hk;exact hle)
theorem Df(x:List Int)(v:Value)(Bs:Nat)(w:World)(hb:Bs<w.heap.size)(hc0:w.cell? ⟨Bs,0,none⟩=some v)(hL:bK w v x) :
 Calls prog 57 #[.func (.func 98) #[] #[.pointer (some ⟨Bs,0,none⟩)]] w (FQ x w):=by
 have HC:=zh (Ct x v Bs w hb hc0 hL);have h1000:=hL.1;clear hc0 hL
 go_enter func57,ntmps57
 go_wp2_with (go_at_call 96;refine HC.out.mono ?_;rintro e' w' ⟨v',rfl,hown,hbel⟩;have HO:=zh hown;have HB:=zh hbel;obtain⟨hl0,⟨rfl,hz⟩|⟨g,cap,cur,rfl,hbg,hg,h2,h3,h4,h5⟩⟩:=hown;clear hbel)
 ·obtain rfl:x= []:=eq_nil_of_length_eq_zero hz
  go_wp2_with (go_at_call 97;refine(slices_Sort_int_none none 0 _).mono ?_;rintro e2 w2 ⟨rfl,rfl⟩)
  go_returns
  exact⟨none,0,[],rfl,Nat.le_refl _,.refl _,.nil,⟨by simp,none,0,rfl,.inl rfl⟩,.of_below HB.out⟩
 ·have HS:=zh (F6 (zs:=x) HO.out h1000);have HH:=zh (And.intro hbg h2);clear hg h2 h3 h4 h5 hl0
  go_wp2_with (go_at_call 97;refine(HS.out).mono ?_;rintro e2 w2 ⟨rfl,hg2,hown2⟩)
  go_returns
  have hlen:(x.mergeSort fun x y=>decide (x<=y)).length=x.length:=by simp
  refine⟨some ⟨g,0,none⟩,cap,x.mergeSort fun x y=>decide (x<=y),by rw [hlen];rfl,by rw [hlen];exact HH.out.2,mergeSort_perm _ _,F7 x, ?_,.of_below (IL HB.out hg2 HH.out.1)⟩;have ho:=hown2;rw [<-hlen]at ho;exact bK.of_row ho (by rw [hlen];exact h1000)
theorem Rq{ss:List Int}{m j:Nat}:(ss.drop m).getD j 0=ss.getD (m+j) 0:=by
 rw [getD_eq_getElem?_getD,getElem?_drop,<-getD_eq_getElem?_getD]
theorem IJ(l:List Int)(n:Int)(v:Value)(w:World)(hy:bK w v l)(h:n<1\/45<n\/bI l=false):Calls prog 23 #[v,.int .i64 n] w fun e w'=>e= .returned (frV (gU l n))/\w.Grows w':=by
 have HF:Hid (gU l n=(0,0,1)):=zh (by unfold gU;rw [if_pos h]);rw [HF.out];show Calls _ _ _ _ fun e w'=>e= .returned (.tuple #[.agg #[.int .i64 0,.int .i64 0],.int .i64 1])/\_;have HY:=zh hy;have HA:=zh (fun w' (hg:w.Grows w')=>mP l v w' (HY.out.grows hg));obtain⟨-,a,c,rfl,-⟩:=hy;clear HF;by_cases h1:n<1
 ·clear h
  go_enter func23,ntmps23
  exact nW
 ·by_cases h2:n > 45
  ·clear h
   go_enter func23,ntmps23
   exact nW
  ·have h3:bI l=false:=by
    rcases h with h|h|h
    ·omega
    ·omega
    ·exact h
   rw [h3]at HA;clear h h3
   go_enter func23,ntmps23
   go_wp2_with (go_at_call 56;refine(HA.out _ (.of_below ag)).mono ?_;rintro e' w' ⟨rfl,rfl⟩)
   exact rz9
theorem IK(l:List Int)(n:Int)(v:Value)(w:World)(hy:bK w v l)(h:n<1\/45<n\/bI l=false):Calls prog 22 #[v,.int .i64 n] w fun e w'=>e= .returned (frV (gU l n))/\w.Grows w':=by
 have HF:Hid (gU l n=(0,0,1)):=zh (by unfold gU;rw [if_pos h]);rw [HF.out];show Calls _ _ _ _ fun e w'=>e= .returned (.tuple #[.agg #[.int .i64 0,.int .i64 0],.int .i64 1])/\_;have HY:=zh hy;have HA:=zh (fun w' (hg:w.Grows w')=>gX l v w' (HY.out.grows hg));obtain⟨-,a,c,rfl,-⟩:=hy;clear HF;by_cases h1:n<1
 ·clear h
  go_enter func22,ntmps22
  exact nW
 ·by_cases h2:n > 45
  ·clear h
   go_enter func22,ntmps22
   exact nW
  ·have h3:bI l=false:=by
    rcases h with h|h|h
    ·omega
    ·omega
    ·exact h
   rw [h3]at HA;clear h h3
   go_enter func22,ntmps22
   go_wp2_with (go_at_call 54;refine(HA.out _ (.of_below ag)).mono ?_;rintro e' w' ⟨rfl,bs,d,rfl⟩)
   exact rz9
theorem vg{l:List Int}{n:Int}(h1:1<=n)(h2:n<=45)(h3:bI l=true):gU l n=(mkN (nU l n) n,mkD (nU l n) n,mkE (nU l n) n):=by
 unfold gU;rw [if_neg (by rw [h3];simp;omega)]
theorem EC(l:List Int)(n:Int)(v:Value)(w:World)(hy:bK w v l)(h1:1<=n)(h2:n<=45)(h3:bI l=true):Calls prog 22 #[v,.int .i64 n] w fun e w'=>e= .returned (frV (gU l n))/\w.Grows w':=by
 rw [vg h1 h2 h3];obtain⟨nn,rfl⟩:=Int.eq_ofNat_of_zero_le (show 0<=n by omega);have HY:=zh hy;have HA:=zh (fun w' (hg:w.Grows w')=>gX l v w' (HY.out.grows hg));have HS:=zh (fun W Bs (hb:Bs<W.heap.size) hc (hg:w.Grows W)=>Df l v Bs W hb hc (HY.out.grows hg));rw [h3]at HA;have HB3:=zh h3;have HBS:Hid (nU l (nn:Int)=((kJ l).take nn).sum):=zh rfl;obtain⟨h1000,a,c,rfl,-⟩:=hy;unfold frV FQ at *;dsimp only;generalize nU l (nn:Int)=BS at *;clear h3;have HM:=zh (fun z (h1:0<=z) (h2:z<=200000000000000) w=>Jf z (nn:Int) w ⟨by omega,by omega⟩ ⟨by omega,by omega⟩);unfold frV at HM
 go_enter func22,ntmps22
 go_wp2_with (first
  |(go_at_call 54;refine(HA.out _ (.of_below ag)).mono ?_;rintro e' w' ⟨rfl,bs,d,rfl⟩)
  |(go_at_call 58;refine(callsIn_wide.1 (Mc Fence.wide 5 trivial rfl _ _ _ _)).mono ?_;rintro e' w' ⟨rfl,rfl⟩))
 go_at_call 57
 refine(HS.out _ _ zg zG (.of_below ag)).mono ?_;rintro e' w' ⟨aa,cp,ss,rfl,hcp,hperm,hpair,hyr,bs3,d3,rfl⟩;obtain⟨M,hM⟩:∃M,ss.length-nn=M:=⟨_,rfl⟩;have hss:ss.length<=1000:=by rw [hperm.length_eq];exact h1000
 have hmx:max 0 (wrap64 ((ss.length:Int)-(nn:Int)))=(M:Int):=by
  rw [IntWalk.wrap64_in _ ze];omega
 have hmx2:max 0 ((ss.length:Int)-(nn:Int))=(M:Int):=by omega
 have hne:0<ss.length->¬cp=M:=by omega
 have hml:M<=ss.length:=by omega
 have HBL:=zh (II hperm hpair nn);rw [hM]at HBL;have HSB:=zh (EM HB3.out hperm);have HGB:=zh (Fx HB3.out hperm);have HP:=zh hperm;clear hperm hpair hM;have HYS:=zh hyr;obtain⟨-,a2,c2,hv2,hcs⟩:=hyr;simp only [Value.slice.injEq,true_and]at hv2;obtain⟨rfl,rfl⟩:=hv2;have HCS:=zh hcs;clear hcs;by_cases hz:ss.length=0
 ·obtain rfl:ss= []:=eq_nil_of_length_eq_zero hz;obtain rfl:M=0:=by simpa using hml
  have h0:Hid (BS=0):=zh (by rw [HBS.out,<-HBL.out];rfl);simp only [length_nil]at *;by_cases hcc:cp=0
  all_goals
   go_wp2_with fail
   go_loopw [7,9,33] (fun v7 _ v33 wr=>v7= .int .i64 0/\v33= .int .i64 0/\wr=((((w.alloc (.cells #[.int .i64 0,.int .i64 0] 23)).grow bs d).alloc (.cells #[.slice a l.length c] 24)).grow bs3 d3)) (fun _ _ _ _=>0)
   case atStart=>exact⟨rfl,rfl,rfl⟩
   case round=>
    obtain⟨rfl,rfl,rfl⟩:=hrel
    go_wp2_with (go_at_call 59;refine(HM.out _ ze ze _).mono ?_;rintro e' w' ⟨rfl,bs4,d4,rfl⟩)
    go_returns
    exact⟨by rw [h0.out],.of_below ag⟩
 ·have hpos:0<ss.length:=by omega
  have hne:=hne hpos;have hadd:M+(ss.length-M)=ss.length:=by omega
  rcases HCS.out with h0|⟨b,off,rfl,hbw,hx⟩
  ·exact absurd h0 hz
  have HX:=zh hx;have HD:Hid (∀k,k<ss.length-M->kV (ss.drop M) (k+1)=kV (ss.drop M) k+ss.getD (M+k) 0):=zh (fun k hk=>by rw [wC _ _ (by simpa using hk),Rq])
  have HSD:Hid (∀k,0<=kV (ss.drop M) k/\kV (ss.drop M) k<=200000000000000):=zh (fun k=>by
   have h1:=HSB.out;have:=JI (l:=(ss.drop M).take k) (fun z hz=>(kG HB3.out).2 z (HP.out.mem_iff.1 (mem_of_mem_drop (mem_of_mem_take hz))))
   have hl:((ss.drop M).take k).length<=200:=by
    have h2:=(kG HB3.out).1;have h3:=HP.out.length_eq;rw [length_take,length_drop];omega
   unfold kV
   omega)
  have HLL:Hid (kV (ss.drop M) (ss.length-M)=BS):=zh (by
   rw [HBS.out,<-HBL.out];unfold kV
   rw [take_of_length_le zg])
  clear hx hz;generalize hLL:ss.length-M=LL at *
  go_wp2_with fail
  go_loopw [7,9,33] (fun v7 _ v33 wr=>∃k:Nat,k<=LL/\v33= .int .i64 k/\v7= .int .i64 (kV (ss.drop M) k)/\wr=((((w.alloc (.cells #[.int .i64 0,.int .i64 0] 23)).grow bs d).alloc (.cells #[.slice a l.length c] 24)).grow bs3 d3)) (fun _ _ v33 _=>LL-(intOf v33).toNat)
  case atStart=>exact⟨0,by omega,rfl,rfl,rfl⟩
  case round=>
   obtain⟨k,hk,rfl,rfl,rfl⟩:=hrel;by_cases hlt:k<LL
   ·have x0:=HX.out (M+k) ze;have d1:(k:Int)<(LL:Int):=by omega
    have hs:=HD.out k hlt;have hb1:=HSD.out k;have hb2:=HSD.out (k+1);rw [hs]at hb2;have HS1:=zh hs;have HKL:=zh hlt;rw [<-Nat.add_assoc]at x0;clear hs hlt;generalize ss.getD (M+k) 0=z at *;generalize hsk:kV (ss.drop M) k=sk at *
    go_wp2_with fail
    go_roundw
    case rel=>exact⟨k+1,HKL.out,by go_num,by rw [HS1.out],zF⟩
    case measure=>simp [intOf];have:=HKL.out;omega
   ·obtain rfl:k=LL:=by omega
    rw [HLL.out];have hb1:=HSD.out k;rw [HLL.out]at hb1;have HBB:=zh hb1
    go_wp2_with (go_at_call 59;refine(HM.out _ HBB.out.1 HBB.out.2 _).mono ?_;rintro e' w' ⟨rfl,bs4,d4,rfl⟩)
    exact rz9
theorem Jk(l:List Int)(n:Int)(v:Value)(w:World)(hy:bK w v l):Calls prog 22 #[v,.int .i64 n] w fun e w'=>e= .returned (frV (gU l n))/\w.Grows w':=by
 by_cases h:n<1\/45<n\/bI l=false
 ·exact IK l n v w hy h
 ·simp only [not_or,Bool.not_eq_false]at h;exact EC l n v w hy ze ze h.2.2
def dQ(v:Vw)(env:List (ByteArray × Val))(e:Ex):Val × Int:=
 if v.ok=false\/(env.any fun p=>!p.2.ok)=true\/cZ e=false then(.zero,1)
 else if(aD (aR env) e).2≠0 then(.zero,(aD (aR env) e).2)
 else if(ai v env e).2≠0 then(.zero,(ai v env e).2)else ai v env e
theorem oz{v:Vw}{env:List (ByteArray × Val)}{e:Ex}(hv:v.ok=true)(hE:∀p∈env,p.2.ok=true)(he:cZ e=true)(hi:(aD (aR env) e).2=0) :
 dQ v env e=ai v env e/\okR (aD (aR env) e).1 (ai v env e):=by
 have hf:aN e=true:=by
  unfold cZ at he;simp only [Bool.and_eq_true]at he;exact he.2
 have h:=lZ hv hE e hf hi;refine⟨?_,h⟩;unfold dQ
 rw [if_neg (by
  rintro(h1|h1|h1)
  ·rw [hv]at h1;cases h1
  ·obtain⟨p,hp,h2⟩:=any_eq_true.1 h1;rw [hE p hp]at h2;cases h2
  ·rw [he]at h1;cases h1),if_neg ze]
 split<;>rename_i hc
 ·have:=h.bad hc;rw [<-this.1]
 ·rfl
def noN:ByteArray:=⟨#[]⟩
def gD(v:Vw)(ls:List (ByteArray × Ex)):List Nat->List Nat->List (ByteArray × Val)->List Nat × List (ByteArray × Val) × Int
 | [],D,st=>(D,st,0)
 |i::r,D,st=>if D.contains i=true then gD v ls r D st
  else if(ai v st (ls.getD i default).2).2≠0 then(D,st,(ai v st (ls.getD i default).2).2)
  else gD v ls r (D++[i]) (st++[((ls.getD i default).1,(ai v st (ls.getD i default).2).1)])
theorem wu{e:Ex}{ls:List (ByteArray × Ex)}{j:Nat}(hj:j<ls.length):j∈aA e ls↔jD e ls j (bQ e ls (ls.length-j-1))=true:=by
 have h1:=kI (e:=e) (ls:=ls) (i:=j) (ls.length-j-1+1) j ze ze hj;rw [show ls.length-j-1+1+j=ls.length by omega]at h1;have h2:=jy (e:=e) (ls:=ls) (ls.length-j-1) ze;rw [show ls.length-(ls.length-j-1+1)=j by omega]at h2;unfold aA;rw [h1,<-h2,contains_iff_mem]
theorem Ao{e:Ex}{ls:List (ByteArray × Ex)}{j:Nat}(hj:j<ls.length)(h:bT (ls.getD j default).1 e=true):j∈aA e ls:=by
 rw [wu hj];unfold jD;rw [h];rfl
theorem Ap{e:Ex}{ls:List (ByteArray × Ex)}{i j:Nat}(hi:i∈aA e ls)(hji:j<i)(h:bT (ls.getD j default).1 (ls.getD i default).2=true):j∈aA e ls:=by
 have hil:i<ls.length:=(fO ls.length (Nat.le_refl _) i hi).2;rw [wu ze];unfold jD;rw [Bool.or_eq_true];refine .inr (any_eq_true.2 ⟨i, ?_,h⟩);have h1:=kI (e:=e) (ls:=ls) (i:=i) (ls.length-j-1) (j+1) ze ze hil;rw [show ls.length-j-1+(j+1)=ls.length by omega]at h1;exact h1.1 hi
theorem sG{e:Ex}{ls:List (ByteArray × Ex)}{i:Nat}(hi:i∈aA e ls):i<ls.length:=(fO ls.length (Nat.le_refl _) i hi).2
structure dY(v:Vw)(ls:List (ByteArray × Ex))(env:List (ByteArray × Int))(e:Ex)(D0:List Nat)(st0:List (ByteArray × Val))(k:Nat)(D:List Nat)(st:List (ByteArray × Val)):Prop where
 ok:jX ls env D st
 pre:∀j∈(aA e ls).take k,j∈D
 run:gD v ls (aA e ls) D0 st0=gD v ls ((aA e ls).drop k) D st
theorem dY.zero{v:Vw}{ls:List (ByteArray × Ex)}{env:List (ByteArray × Int)}(e:Ex){D:List Nat}{st:List (ByteArray × Val)}(h:jX ls env D st):dY v ls env e D st 0 D st:=⟨h,fun j hj=>by simp at hj,rfl⟩
section
variable {v : Vw} {ls : List (ByteArray × Ex)} {env : List (ByteArray × Int)} {e : Ex} {D0 D : List Nat} {st0 st : List (ByteArray × Val)} {k : Nat}
theorem qh(hk:k<(aA e ls).length):(aA e ls).drop k=(aA e ls).getD k 0::(aA e ls).drop (k+1):=by
 exact Pt
theorem sH(hk:k<(aA e ls).length):(aA e ls).getD k 0∈aA e ls:=by
 rw [getD_eq_getElem?_getD,getElem?_eq_getElem hk];exact getElem_mem hk
theorem wo(hk:k<(aA e ls).length):(aA e ls).take (k+1)=(aA e ls).take k++[(aA e ls).getD k 0]:=by
 exact Pv
theorem Aq(hk:k<(aA e ls).length){j:Nat}(hj:j∈aA e ls)(hlt:j<(aA e ls).getD k 0):j∈(aA e ls).take k:=by
 obtain⟨m,hm,rfl⟩:=mem_iff_getElem.1 hj;have hp:=qi (e:=e) (ls:=ls) ls.length (Nat.le_refl _);rw [getD_eq_getElem?_getD,getElem?_eq_getElem hk]at hlt;refine mem_take_iff_getElem.2 ⟨m, ?_,rfl⟩;rcases Nat.lt_or_ge m k with h|h
 ·omega
 ·exfalso;rcases Nat.lt_or_eq_of_le h with h|h
  ·have:=pairwise_iff_getElem.1 hp k m hk hm h;simp only [Option.getD_some]at hlt;unfold aA at hlt;omega
  ·subst h;simp at hlt
theorem dY.skip(h:dY v ls env e D0 st0 k D st)(hk:k<(aA e ls).length)(hc:D.contains ((aA e ls).getD k 0)=true):dY v ls env e D0 st0 (k+1) D st:=
 ⟨h.ok,fun j hj=>by
  rw [wo hk]at hj;rcases mem_append.1 hj with hj|hj
  ·exact h.pre j hj
  ·obtain rfl:j=_:=by simpa using hj
   exact contains_iff_mem.1 hc,by rw [h.run,qh hk,gD,if_pos hc]⟩
theorem dY.typed(h:dY v ls env e D0 st0 k D st)(hl:iB ls ls.length env)(hk:k<(aA e ls).length) :
 aN (ls.getD ((aA e ls).getD k 0) default).2=true/\aD (aR st) (ls.getD ((aA e ls).getD k 0) default).2=((env.getD ((aA e ls).getD k 0) default).2,0)/\cZ (ls.getD ((aA e ls).getD k 0) default).2=true:=by
 have hu:=sH hk;have hil:=sG hu;have hb:=fun j (h1:j∈aA e ls) h2=>Aq hk h1 h2;generalize(aA e ls).getD k 0=i at *;have ht:=hl.ty i hil;unfold aT at ht
 split at ht
 ·rename_i hv
  have hvb:=hv.1
  have hf:aN (ls.getD i default).2=true:=by
   unfold cZ at hvb;rw [Bool.and_eq_true]at hvb;exact hvb.2
  refine⟨hf, ?_,hvb⟩;rw [h.ok.typed hl ze hf (by rw [ht]) fun j hj hm=>h.pre j (hb j (Ap hu hj hm) hj),ht]
 ·have:=(Prod.mk.inj ht).2;cases this
theorem dY.bad(h:dY v ls env e D0 st0 k D st)(hk:k<(aA e ls).length)(hc:D.contains ((aA e ls).getD k 0)=false)(hv:(ai v st (ls.getD ((aA e ls).getD k 0) default).2).2≠0) :
 gD v ls (aA e ls) D0 st0=(D,st,(ai v st (ls.getD ((aA e ls).getD k 0) default).2).2):=by
 rw [h.run,qh hk,gD,if_neg (by rw [hc];simp),if_pos hv]
theorem dY.next(h:dY v ls env e D0 st0 k D st)(hl:iB ls ls.length env)(hok:v.ok=true)(hk:k<(aA e ls).length)(hc:D.contains ((aA e ls).getD k 0)=false)(hv:(ai v st (ls.getD ((aA e ls).getD k 0) default).2).2=0) :
 dY v ls env e D0 st0 (k+1) (D++[(aA e ls).getD k 0]) (st++[((ls.getD ((aA e ls).getD k 0) default).1,(ai v st (ls.getD ((aA e ls).getD k 0) default).2).1)]):=by
 obtain⟨hf,ht,-⟩:=h.typed hl hk;have hval:=lZ hok h.ok.ok _ hf (by rw [ht]);rw [ht]at hval;obtain⟨hx,hd⟩:=hval.good hv;refine⟨h.ok.push hl (sG (sH hk)) hc hx hd,fun j hj=>?_, ?_⟩
 ·rw [wo hk]at hj;rcases mem_append.1 hj with hj|hj
  ·exact mem_append.2 (.inl (h.pre j hj))
  ·exact mem_append.2 (.inr hj)
 ·rw [h.run,qh hk,gD,if_neg (by rw [hc];simp),if_neg (by simpa using hv)]
theorem dY.done(h:dY v ls env e D0 st0 (aA e ls).length D st):gD v ls (aA e ls) D0 st0=(D,st,0):=by
 rw [h.run,drop_length,gD]
theorem dY.last(h:dY v ls env e D0 st0 (aA e ls).length D st)(hl:iB ls ls.length env){m:Int}(hf:aN e=true)(ht:aD env e=(m,0)):aD (aR st) e=(m,0):=by
 have he:env.take ls.length=env:=take_of_length_le (by rw [hl.len];exact Nat.le_refl _);have:=h.ok.typed hl (Nat.le_refl _) hf (by rw [he,ht]) fun j hj hm=>h.pre j (by rw [take_length];exact Ao hj hm);rw [this,he,ht]
end
def dX(v:Vw)(ls:List (ByteArray × Ex))(e:Ex)(nm:ByteArray)(D:List Nat)(st:List (ByteArray × Val)):List Nat × List (ByteArray × Val) × Int:=
 if(gD v ls (aA e ls) D st).2.2≠0 then gD v ls (aA e ls) D st
 else if(ai v (gD v ls (aA e ls) D st).2.1 e).2≠0 then((gD v ls (aA e ls) D st).1,(gD v ls (aA e ls) D st).2.1,(ai v (gD v ls (aA e ls) D st).2.1 e).2)
 else((gD v ls (aA e ls) D st).1,(gD v ls (aA e ls) D st).2.1++[(nm,(ai v (gD v ls (aA e ls) D st).2.1 e).1)],0)
def ifN:ByteArray:=⟨#[105,102]⟩
def kX:ByteArray:=⟨#[112,97,121]⟩
def byN:ByteArray:=⟨#[98,121]⟩
theorem mo:fe ifN=false/\fe kX=false/\fe byN=false:=by decide+kernel
theorem wY{env:List (ByteArray × Int)}{e:Ex}{m:Int}(h:aT env e=(m,0)):cZ e=true/\aN e=true/\aD env e=(m,0):=by
 unfold aT at h
 split at h
 ·rename_i hv
  have hvb:=hv.1;refine⟨hvb, ?_,h⟩;unfold cZ at hvb;rw [Bool.and_eq_true]at hvb;exact hvb.2
 ·have:=(Prod.mk.inj h).2;cases this
theorem xV{env:List (ByteArray × Int)}{e:Ex}{want:Int}(h:eu env e want=0):aT env e=(want,0):=by
 unfold eu at h
 split at h
 ·cases h
 ·rename_i h1
  refine Prod.ext (Decidable.byContradiction fun c=>h1 ⟨h,c⟩) h
theorem BF{env:List (ByteArray × Int)}:∀(l:List (Int × Ex × Ex)) (pre:List Int),grG env pre l=0->∀g∈l,aT env g.2.1=(1,0)/\aT env g.2.2=(4,0)
 | [],_,_,_,h=>by cases h
 |g::r,pre,h,x,hx=>by
  rw [grG]at h
  split at h
  ·cases h
  split at h
  ·rename_i h1;exact absurd h h1
  rename_i h1
  split at h
  ·rename_i h2;exact absurd h h2
  rename_i h2
  rcases mem_cons.1 hx with rfl|hx
  ·exact⟨xV (Decidable.byContradiction h1),xV (Decidable.byContradiction h2)⟩
  ·exact BF r _ h x hx
theorem Az{env:List (ByteArray × Int)}:∀(l:List (Int × Ex)) (pre:List Int),reG env pre l=0->∀g∈l,aT env g.2=(2,0)
 | [],_,_,_,h=>by cases h
 |g::r,pre,h,x,hx=>by
  rw [reG]at h
  split at h
  ·cases h
  split at h
  ·rename_i h1;exact absurd h h1
  rename_i h1
  rcases mem_cons.1 hx with rfl|hx
  ·exact xV (Decidable.byContradiction h1)
  ·exact Az r _ h x hx
structure xJ(V:cO)(env:List (ByteArray × Int)):Prop where
 ls:iB V.le V.le.length env
 gr:∀g∈V.gr,aT env g.2.1=(1,0)/\aT env g.2.2=(4,0)
 re:∀g∈V.re,aT env g.2=(2,0)
theorem xJ.of{V:cO}(h:aX V=0):xJ V (dK V.le).1:=by
 unfold aX at h
 split at h
 ·rename_i h1;exact absurd h h1
 rename_i h1
 split at h
 ·cases h
 split at h
 ·cases h
 split at h
 ·rename_i h2;exact absurd h h2
 rename_i h2
 have h0:(dK V.le).2=0:=Decidable.byContradiction h1;have hg:grG (dK V.le).1 [] V.gr=0:=Decidable.byContradiction h2;refine⟨?_,BF _ _ hg,Az _ _ h⟩
 have hl:V.le.length<=10:=by
  unfold dK at h0
  split at h0
  ·cases h0
  ·omega
 rw [qz hl]at h0 ⊢;exact iB.of_lets (Prod.ext rfl h0)
def mi(st:List (ByteArray × Val)):Val:=(st.getLastD (⟨#[]⟩,.zero)).2
theorem jF(st:List (ByteArray × Val))(p:ByteArray × Val):mi (st++[p])=p.2:=by
 unfold mi;simp
def il(v:Vw)(ls:List (ByteArray × Ex))(g:Int × Ex × Ex):(Bool × Int × Int) × List (ByteArray × Val) × Int:=
 if(dX v ls g.2.1 ifN [] []).2.2≠0 then((false,0,0),[],(dX v ls g.2.1 ifN [] []).2.2)
 else if(mi (dX v ls g.2.1 ifN [] []).2.1).yes=false then((false,0,1),(dX v ls g.2.1 ifN [] []).2.1,0)
 else if(dX v ls g.2.2 kX (dX v ls g.2.1 ifN [] []).1 (dX v ls g.2.1 ifN [] []).2.1).2.2≠0 then((false,0,0),[],(dX v ls g.2.2 kX (dX v ls g.2.1 ifN [] []).1 (dX v ls g.2.1 ifN [] []).2.1).2.2)
 else((true,if(mi (dX v ls g.2.2 kX (dX v ls g.2.1 ifN [] []).1 (dX v ls g.2.1 ifN [] []).2.1).2.1).n<0 then(0,1)else((mi (dX v ls g.2.2 kX (dX v ls g.2.1 ifN [] []).1 (dX v ls g.2.1 ifN [] []).2.1).2.1).n,(mi (dX v ls g.2.2 kX (dX v ls g.2.1 ifN [] []).1 (dX v ls g.2.1 ifN [] []).2.1).2.1).d)),(dX v ls g.2.2 kX (dX v ls g.2.1 ifN [] []).1 (dX v ls g.2.1 ifN [] []).2.1).2.1,0)
def gH(V:cO)(b:Int)(v:Vw):(Bool × Int × Int) × List (ByteArray × Val) × Int:=
 if v.ok=false then((false,0,0),[],1)else if aX V≠0 then((false,0,0),[],aX V)
 else match V.gr.find? fun g=>decide (g.1=b)with
 |none=>((false,0,0),[],9)
 |some g=>il v V.le g
def Ay(v:Vw)(ls:List (ByteArray × Ex))(e:Ex):(Int × Int) × Int:=
 if(dX v ls e byN [] []).2.2≠0 then((0,0),(dX v ls e byN [] []).2.2)
 else if(mi (dX v ls e byN [] []).2.1).n<0 then((0,1),0)
 else if(mi (dX v ls e byN [] []).2.1).d<(mi (dX v ls e byN [] []).2.1).n then((1,1),0)
 else(((mi (dX v ls e byN [] []).2.1).n,(mi (dX v ls e byN [] []).2.1).d),0)
def lN(V:cO)(b:Int)(v:Vw):(Int × Int) × Int:=
 if v.ok=false then((0,0),1)else if aX V≠0 then((0,0),aX V)
 else match V.re.find? fun g=>decide (g.1=b)with
 |none=>((0,0),9)
 |some g=>Ay v V.le g.2
section
variable {v : Vw} {ls : List (ByteArray × Ex)} {e : Ex} {nm : ByteArray} {D0 D D2 : List Nat} {st0 st st2 : List (ByteArray × Val)} {c : Int} {x p : Val} {g : Int × Ex × Ex}
theorem FK(h:(gD v ls (aA e ls) D0 st0).2.2=c)(hc:c≠0):(dX v ls e nm D0 st0).2.2=c:=by
 subst h;unfold dX;rw [if_pos hc]
theorem FJ(h:gD v ls (aA e ls) D0 st0=(D,st,0))(hv:(ai v st e).2=c)(hc:c≠0):(dX v ls e nm D0 st0).2.2=c:=by
 subst hv;unfold dX;rw [h,if_neg zg,if_pos hc]
theorem FI(h:gD v ls (aA e ls) D0 st0=(D,st,0))(hv:ai v st e=(x,0)):dX v ls e nm D0 st0=(D,st++[(nm,x)],0):=by
 unfold dX;rw [h,if_neg zg,hv,if_neg zg]
theorem KH(h:(dX v ls g.2.1 ifN [] []).2.2=c)(hc:c≠0):il v ls g=((false,0,0),[],c):=by
 subst h;unfold il;rw [if_pos hc]
theorem O7(h:dX v ls g.2.1 ifN [] []=(D,st++[(ifN,x)],0))(hx:x.yes=false):il v ls g=((false,0,1),st++[(ifN,x)],0):=by
 unfold il;rw [h,if_neg zg,jF,if_pos hx]
theorem KG(h:dX v ls g.2.1 ifN [] []=(D,st++[(ifN,x)],0))(hx:x.yes=true)(h2:(dX v ls g.2.2 kX D (st++[(ifN,x)])).2.2=c)(hc:c≠0):il v ls g=((false,0,0),[],c):=by
 subst h2;unfold il;rw [h,if_neg zg,jF,if_neg (by rw [hx];simp),if_pos hc]
theorem O6(h:dX v ls g.2.1 ifN [] []=(D,st++[(ifN,x)],0))(hx:x.yes=true)(h2:dX v ls g.2.2 kX D (st++[(ifN,x)])=(D2,st2++[(kX,p)],0)):il v ls g=((true,if p.n<0 then(0,1)else(p.n,p.d)),st2++[(kX,p)],0):=by
 unfold il;rw [h,if_neg zg,jF,if_neg (by rw [hx];simp),h2,if_neg zg,jF]
theorem J2(h:(dX v ls e byN [] []).2.2=c)(hc:c≠0):Ay v ls e=((0,0),c):=by
 subst h;unfold Ay;rw [if_pos hc]
theorem OY(h:dX v ls e byN [] []=(D,st++[(byN,x)],0)):Ay v ls e=(if x.n<0 then(0,1)else if x.d<x.n then(1,1)else(x.n,x.d),0):=by
 unfold Ay;rw [h,if_neg zg,jF];by_cases h1:x.n<0
 ·rw [if_pos h1,if_pos h1]
 ·rw [if_neg h1,if_neg h1];by_cases h2:x.d<x.n
  ·rw [if_pos h2,if_pos h2]
  ·rw [if_neg h2,if_neg h2]
end
theorem yT{β:Type}[Inhabited (Int × β)]{l:List (Int × β)}{b:Int}:∀k,k<=l.length->(∀j,j<k->(l.getD j default).1≠b)->l.find? (fun g=>decide (g.1=b))=(l.drop k).find? fun g=>decide (g.1=b)
 |0,_,_=>rfl
 |k+1,hk,hn=>by
  have hk':k<l.length:=by omega
  rw [yT k ze fun j hj=>hn j ze,jM hk',find?_cons,decide_eq_false (hn k ze)]
theorem nE{β:Type}[Inhabited (Int × β)]{l:List (Int × β)}{b:Int}{k:Nat}(hk:k<l.length)(hn:∀j,j<k->(l.getD j default).1≠b)(hb:(l.getD k default).1=b):l.find? (fun g=>decide (g.1=b))=some (l.getD k default):=by
 rw [yT k ze hn,jM hk,find?_cons,decide_eq_true hb]
theorem nG{β:Type}[Inhabited (Int × β)]{l:List (Int × β)}{b:Int}(hn:∀j,j<l.length->(l.getD j default).1≠b):l.find? (fun g=>decide (g.1=b))=none:=by
 rw [yT l.length (Nat.le_refl _) hn,drop_length];rfl
theorem BK{V:cO}{b:Int}{v:Vw}(h:v.ok=false):gH V b v=((false,0,0),[],1):=by unfold gH;rw [if_pos h]
theorem Fw{V:cO}{b:Int}{v:Vw}(h:v.ok=true)(h2:aX V≠0):gH V b v=((false,0,0),[],aX V):=by unfold gH;rw [if_neg zR,if_pos h2]
theorem BL{V:cO}{b:Int}{v:Vw}{g:Int × Ex × Ex}(h:v.ok=true)(h2:aX V=0)(hf:V.gr.find? (fun g=>decide (g.1=b))=some g):gH V b v=il v V.le g:=by unfold gH;rw [if_neg zR,if_neg (by simpa using h2),hf]
theorem BM{V:cO}{b:Int}{v:Vw}(h:v.ok=true)(h2:aX V=0)(hf:V.gr.find? (fun g=>decide (g.1=b))=none):gH V b v=((false,0,0),[],9):=by unfold gH;rw [if_neg zR,if_neg (by simpa using h2),hf]
theorem AC{V:cO}{b:Int}{v:Vw}(h:v.ok=false):lN V b v=((0,0),1):=by unfold lN;rw [if_pos h]
theorem EX{V:cO}{b:Int}{v:Vw}(h:v.ok=true)(h2:aX V≠0):lN V b v=((0,0),aX V):=by unfold lN;rw [if_neg zR,if_pos h2]
theorem AJ{V:cO}{b:Int}{v:Vw}{g:Int × Ex}(h:v.ok=true)(h2:aX V=0)(hf:V.re.find? (fun g=>decide (g.1=b))=some g):lN V b v=Ay v V.le g.2:=by unfold lN;rw [if_neg zR,if_neg (by simpa using h2),hf]
theorem AL{V:cO}{b:Int}{v:Vw}(h:v.ok=true)(h2:aX V=0)(hf:V.re.find? (fun g=>decide (g.1=b))=none):lN V b v=((0,0),9):=by unfold lN;rw [if_neg zR,if_neg (by simpa using h2),hf]
theorem dY.of_run{v:Vw}{ls:List (ByteArray × Ex)}{env:List (ByteArray × Int)}{e:Ex}{D0 D:List Nat}{st0 st:List (ByteArray × Val)}(h:jX ls env D0 st0)(hl:iB ls ls.length env)(hok:v.ok=true)(hr:gD v ls (aA e ls) D0 st0=(D,st,0)):dY v ls env e D0 st0 (aA e ls).length D st:=by
 have key:∀k,k<=(aA e ls).length->∃D st,dY v ls env e D0 st0 k D st:=by
  intro k
  induction k with
  |zero=>intro _;exact⟨D0,st0,dY.zero e h⟩
  |succ k ih=>
   intro hk;obtain⟨D1,st1,h1⟩:=ih ze;cases hc:D1.contains ((aA e ls).getD k 0)
   ·by_cases hv:(ai v st1 (ls.getD ((aA e ls).getD k 0) default).2).2=0
    ·exact⟨_,_,h1.next hl hok ze hc hv⟩
    ·have hb:=h1.bad ze hc hv;rw [hr]at hb;exact absurd (Prod.mk.inj (Prod.mk.inj hb).2).2.symm hv
   ·exact⟨_,_,h1.skip ze hc⟩
 obtain⟨D1,st1,h1⟩:=key _ (Nat.le_refl _);have hd:=h1.done;rw [hr]at hd;simp only [Prod.mk.injEq,and_true]at hd;obtain⟨rfl,rfl⟩:=hd;exact h1
instance:DecidableEq Val:=fun a b=>decidable_of_iff (a.dim=b.dim/\a.yes=b.yes/\a.n=b.n/\a.d=b.d) (by cases a;cases b;simp)
def Lg:ByteArray:=⟨#[98,97,115,101]⟩
def pg:ByteArray:=⟨#[105,110,115,117,114,101,100]⟩
def awV:Vw:=⟨0,2000,0,3650,0,0,0,0,0,0,1000,1,[]⟩
def awE:Ex:=.mk 9 0 0 0 noN [.mk 9 0 0 0 noN [.mk 2 0 0 0 Lg [],.mk 10 0 0 0 noN [.mk 2 0 0 0 pg [],.mk 1 365 1 3 noN []]],.mk 1 1 50 2 noN []]
theorem OH:awV.ok=true:=by decide+kernel
theorem Lm:cZ awE=true:=by decide+kernel
theorem Lp:aD [] awE=(4,0):=by decide+kernel
theorem Ll:ai awV [] awE=(⟨4,false,200,1⟩,0):=by decide+kernel
theorem OI:dQ awV [] awE=(⟨4,false,200,1⟩,0):=by
 have h:=(oz (env:=[]) OH (fun _ h=>by cases h) Lm (by rw [show aR []= []from rfl,Lp])).1;rw [h,Ll]
open Go.RowKit Go.ChangeShapes Go.WideShapes Go.Deep
theorem Qs{α:Type}{cs:Array α}(h:cs.size=7):∃c0 c1 c2 c3 c4 c5 c6,cs=#[c0,c1,c2,c3,c4,c5,c6]:=by
 obtain⟨l⟩:=cs
 match l,h with
 | [c0,c1,c2,c3,c4,c5,c6],_=>exact⟨c0,c1,c2,c3,c4,c5,c6,rfl⟩
theorem c7w:(prog).cellsOf 28=7:=by kernel_rfl
theorem VwR.of_trod{H:Type}{enc:TypeId × Value->H}{w:World}{r:Reach}{b0:Nat}{v:Value}{d:DataW H}{p:List MemPlace}(hv:Value.okWide prog w r b0 28 v)
 (h:DataW.Trod enc prog w 0 (fun _=>true) true 28 v d p) (hf:fits prog 28 d) :
 ∃(R:VwR) (vd vy:Value),v= .agg #[.int .i64 R.age,.int .i64 R.year,.int .i64 R.children,.int .i64 R.base,.int .i64 R.den,vd,vy]/\ay w vd R.days/\ay w vy R.years:=by
 have ht:=underlying28;obtain⟨cs,rfl,hsz⟩:=okWide_struct ht hv;obtain⟨c0,c1,c2,c3',c4,c5,c6,rfl⟩:=Qs (hsz.trans c7w);obtain⟨fuel,h⟩:=h;obtain⟨xs,n,_,hx,_,hlen,hF⟩:=DataW.trod_struct ht h;simp only [Prod.mk.injEq]at hx;obtain⟨rfl,-⟩:=hx;have k0:=hF 0 _ rfl;have k1:=hF 1 _ rfl;have k2:=hF 2 _ rfl;have k3:=hF 3 _ rfl;have k4:=hF 4 _ rfl;have k5:=hF 5 _ rfl;have k6:=hF 6 _ rfl;simp only [Value.cells,drop_zero,drop_succ_cons,take_succ_cons,take_zero]at k0 k1 k2 k3 k4 k5 k6
 match xs,hlen with
 | [y0,y1,y2,y3,y4,y5,y6],_=>
   obtain⟨n0,rfl,w0⟩:=eT k0;obtain⟨n1,rfl,w1⟩:=eT k1;obtain⟨n2,rfl,w2⟩:=eT k2;obtain⟨n3,rfl,w3⟩:=eT k3;obtain⟨n4,rfl,w4⟩:=eT k4;obtain⟨z5,w5⟩:=ay.of_trod underlying24 underlying3 c3 b3 k5 (gT ht hf (i:=5) rfl rfl);obtain⟨z6,w6⟩:=ay.of_trod underlying24 underlying3 c3 b3 k6 (gT ht hf (i:=6) rfl rfl);exact⟨⟨n0,n1,n2,n3,n4,z5,z6⟩,_,_,rfl,w5,w6⟩
end Go.Proofs.YtlheailebbngiaaGreatDoor
