import Derived.Test.YtlheailebbngiaaGreatDoorGTop
import Derived.Test.YtlheailebbngiaaGreatDoorGLazyP
import Derived.Test.YtlheailebbngiaaGreatDoorGFrAll
set_option linter.all false
set_option maxHeartbeats 16000000
set_option maxRecDepth 1000000
namespace Go.Proofs.YtlheailebbngiaaGreatDoor
open Go.Proofs.Tryz List
def gZ:List (ByteArray × Ex)->List (ByteArray × Int)->List (ByteArray × Int) × Int
 | [],env=>(env,0)
 |t::r,env=>
  if bT t.1.toList≠0\/eY t.1=false then([],5)
  else if env.any (fun p=>decide (p.1=t.1))=true then([],10)
  else if(aT env t.2).2≠0 then([],(aT env t.2).2)else gZ r (env++[(t.1,(aT env t.2).1)])
def dN(l:List (ByteArray × Ex)):List (ByteArray × Int) × Int:=if 10<l.length then([],7)else gZ l []
def dZ(env:List (ByteArray × Int))(e:Ex)(want:Int):Int:=if(aT env e).2=0/\(aT env e).1≠want then 6 else(aT env e).2
def jZ:List Int->List Int->Bool
 |_,[]=>false
 |pre,x::r=>pre.contains x || jZ (pre++[x]) r
def rQ:List Int->Bool
 | []=>true
 |x::r=>(match r with| []=>true|y::_=>decide (x<y))&&rQ r
def grG(env:List (ByteArray × Int)):List Int->List (Int × Ex × Ex)->Int
 |_,[]=>0
 |pre,g::r=>if pre.contains g.1=true then 10 else if dZ env g.2.1 1≠0 then dZ env g.2.1 1 else if dZ env g.2.2 4≠0 then dZ env g.2.2 4 else grG env (pre++[g.1]) r
def reG(env:List (ByteArray × Int)):List Int->List (Int × Ex)->Int
 |_,[]=>0
 |pre,g::r=>if pre.contains g.1=true then 10 else if dZ env g.2 2≠0 then dZ env g.2 2 else reG env (pre++[g.1]) r
def bH(V:dK):Int:=
 if(dN V.le).2≠0 then(dN V.le).2
 else if jZ [] (V.cr.map Prod.fst)=true then 10
 else if rQ (V.se.map Prod.fst)=false then 1
 else if grG (dN V.le).1 [] V.gr≠0 then grG (dN V.le).1 [] V.gr
 else reG (dN V.le).1 [] V.re
structure kw(ls:List (ByteArray × Ex))(k:Nat)(env:List (ByteArray × Int)):Prop where
 all:gZ ls []=gZ (ls.drop k) env
 len:env.length=k
 nm:env.map Prod.fst=(ls.take k).map Prod.fst
theorem kw.zero(ls:List (ByteArray × Ex)):kw ls 0 []:=⟨rfl,rfl,by simp⟩
def fU(env:List (ByteArray × Int))(t:ByteArray × Ex):Int:=
 if bT t.1.toList≠0\/eY t.1=false then 5 else if env.any (fun p=>decide (p.1=t.1))=true then 10 else(aT env t.2).2
theorem kw.drop{ls:List (ByteArray × Ex)}{k:Nat}(hk:k<ls.length):ls.drop k=ls.getD k default::ls.drop (k+1):=by
 exact Pt
theorem kw.bad{ls:List (ByteArray × Ex)}{k:Nat}{env:List (ByteArray × Int)}(h:kw ls k env)(hk:k<ls.length)(hb:fU env (ls.getD k default)≠0):gZ ls []=([],fU env (ls.getD k default)):=by
 rw [h.all,kw.drop hk,gZ];unfold fU at hb ⊢
 split
 ·rfl
 ·rename_i h1
  rw [if_neg h1]at hb
  split
  ·rfl
  ·rename_i h2
   rw [if_neg h2]at hb;rw [if_pos hb]
theorem kw.next{ls:List (ByteArray × Ex)}{k:Nat}{env:List (ByteArray × Int)}(h:kw ls k env)(hk:k<ls.length)(hb:fU env (ls.getD k default)=0):kw ls (k+1) (env++[((ls.getD k default).1,(aT env (ls.getD k default).2).1)]):=by
 refine⟨?_,by rw [length_append,h.len];rfl, ?_⟩
 ·rw [h.all,kw.drop hk,gZ];unfold fU at hb
  split at hb
  ·cases hb
  ·rename_i h1
   rw [if_neg h1]
   split at hb
   ·cases hb
   ·rename_i h2
    rw [if_neg h2,if_neg (by simpa using hb)]
 ·rw [map_append,h.nm,take_succ_eq_append_getElem hk,map_append];simp [getD_eq_getElem?_getD,getElem?_eq_getElem hk]
theorem kw.done{ls:List (ByteArray × Ex)}{env:List (ByteArray × Int)}(h:kw ls ls.length env):gZ ls []=(env,0):=by
 rw [h.all,drop_length,gZ]
theorem kw.dup{ls:List (ByteArray × Ex)}{k:Nat}{env:List (ByteArray × Int)}(h:kw ls k env)(hk:k<=ls.length)(s:ByteArray):env.any (fun p=>decide (p.1=s))=(List.range k).any fun j=>decide ((ls.getD j default).1=s):=by
 have h1:env.any (fun p=>decide (p.1=s))=(env.map Prod.fst).any fun x=>decide (x=s):=by rw [any_map];rfl
 rw [h1,h.nm,any_map,Bool.eq_iff_iff,any_eq_true,any_eq_true];constructor
 ·rintro⟨t,ht,hs⟩;obtain⟨j,hj,rfl⟩:=mem_take_iff_getElem.1 ht;have:j<ls.length:=by omega
  exact⟨j,mem_range.2 ze,by simpa [getD_eq_getElem?_getD,getElem?_eq_getElem this]using hs⟩
 ·rintro⟨j,hj,hs⟩;have hj:=mem_range.1 hj;have:j<ls.length:=by omega
  exact⟨ls[j],mem_take_iff_getElem.2 ⟨j,by omega,rfl⟩,by simpa [getD_eq_getElem?_getD,getElem?_eq_getElem this]using hs⟩
theorem qi{ls:List (ByteArray × Ex)}(h:ls.length<=10):dN ls=gZ ls []:=by unfold dN;rw [if_neg ze]
theorem jH{α:Type}[Inhabited α]{l:List α}{k:Nat}(hk:k<l.length):l.drop k=l.getD k default::l.drop (k+1):=by
 exact Pt
theorem sQ{α:Type}[Inhabited α]{l:List α}{k:Nat}(hk:k<l.length):l.take (k+1)=l.take k++[l.getD k default]:=by
 exact Pv
theorem sP{l:List Int}{k:Nat}{x:Int}(hk:k<=l.length):(l.take k).contains x=(List.range k).any fun j=>decide (l.getD j 0=x):=by
 rw [Bool.eq_iff_iff,contains_iff_mem,any_eq_true];constructor
 ·intro h;obtain⟨j,hj,rfl⟩:=mem_take_iff_getElem.1 h;have:j<l.length:=by omega
  exact⟨j,mem_range.2 ze,by simp [getD_eq_getElem?_getD,getElem?_eq_getElem this]⟩
 ·rintro⟨j,hj,he⟩;have hj:=mem_range.1 hj;have:j<l.length:=by omega
  refine mem_take_iff_getElem.2 ⟨j,by omega, ?_⟩;simpa [getD_eq_getElem?_getD,getElem?_eq_getElem this]using he
theorem DY{l:List Int}{k:Nat}(hk:k<l.length):jZ (l.take k) (l.drop k)=((l.take k).contains (l.getD k 0) || jZ (l.take (k+1)) (l.drop (k+1))):=by
 rw [jH hk,sQ hk,jZ];rfl
theorem ES{l:List Int}:jZ (l.take l.length) (l.drop l.length)=false:=by rw [drop_length,jZ]
theorem sw:∀l:List Int,rQ l=true↔∀j,j+1<l.length->l.getD j 0<l.getD (j+1) 0
 | []=>by simp [rQ]
 | [x]=>by simp [rQ]
 |x::y::r=>by
  rw [rQ,Bool.and_eq_true,sw (y::r)];constructor
  ·rintro⟨h1,h2⟩ j hj
   cases j with
   |zero=>simpa using h1
   |succ j=>simpa using h2 j (by simpa using hj)
  ·intro h;exact⟨by simpa using h 0 zg,fun j hj=>by simpa using h (j+1) (by simpa using hj)⟩
theorem KT{l:List Int}{j:Nat}(h:j+1<l.length)(hle:l.getD (j+1) 0<=l.getD j 0):rQ l=false:=by
 rw [Bool.eq_false_iff];intro hc;have:=(sw l).1 hc j h;omega
def iY(env:List (ByteArray × Int))(pre:List Int)(g:Int × Ex × Ex):Int:=if pre.contains g.1=true then 10 else if dZ env g.2.1 1≠0 then dZ env g.2.1 1 else dZ env g.2.2 4
theorem PL{env:List (ByteArray × Int)}{l:List (Int × Ex × Ex)}{k:Nat}(hk:k<l.length)(h:iY env ((l.take k).map Prod.fst) (l.getD k default)≠0):grG env ((l.take k).map Prod.fst) (l.drop k)=iY env ((l.take k).map Prod.fst) (l.getD k default):=by
 rw [jH hk,grG];unfold iY at h ⊢
 split
 ·rfl
 ·rename_i h1
  rw [if_neg h1]at h
  split
  ·rfl
  ·rename_i h2
   rw [if_neg h2]at h;rw [if_pos h]
theorem Nu{env:List (ByteArray × Int)}{l:List (Int × Ex × Ex)}{k:Nat}(hk:k<l.length)(h:iY env ((l.take k).map Prod.fst) (l.getD k default)=0):grG env ((l.take k).map Prod.fst) (l.drop k)=grG env ((l.take (k+1)).map Prod.fst) (l.drop (k+1)):=by
 rw [jH hk,grG,sQ hk,map_append];unfold iY at h
 split at h
 ·cases h
 ·rename_i h1
  rw [if_neg h1]
  split at h
  ·rename_i h2;exact absurd h h2
  ·rename_i h2
   rw [if_neg h2,if_neg zI];rfl
def iV(env:List (ByteArray × Int))(pre:List Int)(g:Int × Ex):Int:=if pre.contains g.1=true then 10 else dZ env g.2 2
theorem Pb{env:List (ByteArray × Int)}{l:List (Int × Ex)}{k:Nat}(hk:k<l.length)(h:iV env ((l.take k).map Prod.fst) (l.getD k default)≠0):reG env ((l.take k).map Prod.fst) (l.drop k)=iV env ((l.take k).map Prod.fst) (l.getD k default):=by
 rw [jH hk,reG];unfold iV at h ⊢
 split
 ·rfl
 ·rename_i h1
  rw [if_neg h1]at h;rw [if_pos h]
theorem MQ{env:List (ByteArray × Int)}{l:List (Int × Ex)}{k:Nat}(hk:k<l.length)(h:iV env ((l.take k).map Prod.fst) (l.getD k default)=0):reG env ((l.take k).map Prod.fst) (l.drop k)=reG env ((l.take (k+1)).map Prod.fst) (l.drop (k+1)):=by
 rw [jH hk,reG,sQ hk,map_append];unfold iV at h
 split at h
 ·cases h
 ·rename_i h1
  rw [if_neg h1,if_neg zI];rfl
theorem IX{V:dK}(h:(dN V.le).2≠0):bH V=(dN V.le).2:=by unfold bH;rw [if_pos h]
theorem IW{V:dK}(h:(dN V.le).2=0)(h1:jZ [] (V.cr.map Prod.fst)=true):bH V=10:=by unfold bH;rw [if_neg zI,if_pos h1]
theorem IV{V:dK}(h:(dN V.le).2=0)(h1:jZ [] (V.cr.map Prod.fst)=false)(h2:rQ (V.se.map Prod.fst)=false):bH V=1:=by unfold bH;rw [if_neg zI,if_neg (by simp [h1]),if_pos h2]
theorem IU{V:dK}(h:(dN V.le).2=0)(h1:jZ [] (V.cr.map Prod.fst)=false)(h2:rQ (V.se.map Prod.fst)=true)(h3:grG (dN V.le).1 [] V.gr≠0):bH V=grG (dN V.le).1 [] V.gr:=by
 unfold bH;rw [if_neg zI,if_neg (by simp [h1]),if_neg (by simp [h2]),if_pos h3]
theorem IR{V:dK}(h:(dN V.le).2=0)(h1:jZ [] (V.cr.map Prod.fst)=false)(h2:rQ (V.se.map Prod.fst)=true)(h3:grG (dN V.le).1 [] V.gr=0):bH V=reG (dN V.le).1 [] V.re:=by
 unfold bH;rw [if_neg zI,if_neg (by simp [h1]),if_neg (by simp [h2]),if_neg (by simpa using h3)]
open Go.RowKit Go.Sort Go.Lib
theorem H8(l:List Int)(n:Int)(v:Value)(w:World)(hy:bJ w v l)(h:n<1\/45<n\/bF l=false):Calls prog 23 #[v,.int .i64 n] w fun e w'=>e= .returned (frV (gP l n))/\w.Grows w':=by
 have HF:Hid (gP l n=(0,0,1)):=zh (by unfold gP;rw [if_pos h]);rw [HF.out];show Calls _ _ _ _ fun e w'=>e= .returned (.tuple #[.agg #[.int .i64 0,.int .i64 0],.int .i64 1])/\_;have HY:=zh hy;have HA:=zh (fun w' (hg:w.Grows w')=>mE l v w' (HY.out.grows hg));obtain⟨-,a,c,rfl,-⟩:=hy;clear HF;by_cases h1:n<1
 ·clear h
  go_enter func23,ntmps23
  exact nR
 ·by_cases h2:n > 45
  ·clear h
   go_enter func23,ntmps23
   exact nR
  ·have h3:bF l=false:=by
    rcases h with h|h|h
    ·omega
    ·omega
    ·exact h
   rw [h3]at HA;clear h h3
   go_enter func23,ntmps23
   go_wp2_with (go_at_call 56;refine(HA.out _ (.of_below af)).mono ?_;rintro e' w' ⟨rfl,rfl⟩)
   exact gz9
theorem H9(l:List Int)(n:Int)(v:Value)(w:World)(hy:bJ w v l)(h:n<1\/45<n\/bF l=false):Calls prog 22 #[v,.int .i64 n] w fun e w'=>e= .returned (frV (gP l n))/\w.Grows w':=by
 have HF:Hid (gP l n=(0,0,1)):=zh (by unfold gP;rw [if_pos h]);rw [HF.out];show Calls _ _ _ _ fun e w'=>e= .returned (.tuple #[.agg #[.int .i64 0,.int .i64 0],.int .i64 1])/\_;have HY:=zh hy;have HA:=zh (fun w' (hg:w.Grows w')=>gU l v w' (HY.out.grows hg));obtain⟨-,a,c,rfl,-⟩:=hy;clear HF;by_cases h1:n<1
 ·clear h
  go_enter func22,ntmps22
  exact nR
 ·by_cases h2:n > 45
  ·clear h
   go_enter func22,ntmps22
   exact nR
  ·have h3:bF l=false:=by
    rcases h with h|h|h
    ·omega
    ·omega
    ·exact h
   rw [h3]at HA;clear h h3
   go_enter func22,ntmps22
   go_wp2_with (go_at_call 54;refine(HA.out _ (.of_below af)).mono ?_;rintro e' w' ⟨rfl,bs,d,rfl⟩)
   exact gz9
theorem uM{l:List Int}{n:Int}(h1:1<=n)(h2:n<=45)(h3:bF l=true):gP l n=(mkN (nI l n) n,mkD (nI l n) n,mkE (nI l n) n):=by
 unfold gP;rw [if_neg (by rw [h3];simp;omega)]
theorem Eb(l:List Int)(n:Int)(v:Value)(w:World)(hy:bJ w v l)(h1:1<=n)(h2:n<=45)(h3:bF l=true):Calls prog 22 #[v,.int .i64 n] w fun e w'=>e= .returned (frV (gP l n))/\w.Grows w':=by
 rw [uM h1 h2 h3];obtain⟨nn,rfl⟩:=Int.eq_ofNat_of_zero_le (show 0<=n by omega);have HY:=zh hy;have HA:=zh (fun w' (hg:w.Grows w')=>gU l v w' (HY.out.grows hg));have HS:=zh (fun W Bs (hb:Bs<W.heap.size) hc (hg:w.Grows W)=>CF l v Bs W hb hc (HY.out.grows hg));rw [h3]at HA;have HB3:=zh h3;have HBS:Hid (nI l (nn:Int)=((kE l).take nn).sum):=zh rfl;obtain⟨h1000,a,c,rfl,-⟩:=hy;unfold frV Fb at *;dsimp only;generalize nI l (nn:Int)=BS at *;clear h3;have HM:=zh (fun z (h1:0<=z) (h2:z<=200000000000000) w=>IC z (nn:Int) w ⟨by omega,by omega⟩ ⟨by omega,by omega⟩);unfold frV at HM
 go_enter func22,ntmps22
 go_wp2_with (first
  |(go_at_call 54;refine(HA.out _ (.of_below af)).mono ?_;rintro e' w' ⟨rfl,bs,d,rfl⟩)
  |(go_at_call 58;refine(callsIn_wide.1 (LB Fence.wide 5 trivial rfl _ _ _ _)).mono ?_;rintro e' w' ⟨rfl,rfl⟩))
 go_at_call 57
 refine(HS.out _ _ zg zF (.of_below af)).mono ?_;rintro e' w' ⟨aa,cp,ss,rfl,hcp,hperm,hpair,hyr,bs3,d3,rfl⟩;obtain⟨M,hM⟩:∃M,ss.length-nn=M:=⟨_,rfl⟩;have hss:ss.length<=1000:=by rw [hperm.length_eq];exact h1000
 have hmx:max 0 (wrap64 ((ss.length:Int)-(nn:Int)))=(M:Int):=by
  rw [IntWalk.wrap64_in _ ze];omega
 have hmx2:max 0 ((ss.length:Int)-(nn:Int))=(M:Int):=by omega
 have hne:0<ss.length->¬cp=M:=by omega
 have hml:M<=ss.length:=by omega
 have HBL:=zh (Hz hperm hpair nn);rw [hM]at HBL;have HSB:=zh (Eo HB3.out hperm);have HGB:=zh (EP HB3.out hperm);have HP:=zh hperm;clear hperm hpair hM;have HYS:=zh hyr;obtain⟨-,a2,c2,hv2,hcs⟩:=hyr;simp only [Value.slice.injEq,true_and]at hv2;obtain⟨rfl,rfl⟩:=hv2;have HCS:=zh hcs;clear hcs;by_cases hz:ss.length=0
 ·obtain rfl:ss= []:=eq_nil_of_length_eq_zero hz;obtain rfl:M=0:=by simpa using hml
  have h0:Hid (BS=0):=zh (by rw [HBS.out,<-HBL.out];rfl);simp only [length_nil]at *;by_cases hcc:cp=0
  all_goals
   go_wp2_with fail
   go_loopw [7,9,33] (fun v7 _ v33 wr=>v7= .int .i64 0/\v33= .int .i64 0/\wr=((((w.alloc (.cells #[.int .i64 0,.int .i64 0] 23)).grow bs d).alloc (.cells #[.slice a l.length c] 24)).grow bs3 d3)) (fun _ _ _ _=>0)
   case atStart=>exact⟨rfl,rfl,rfl⟩
   case round=>
    obtain⟨rfl,rfl,rfl⟩:=hrel
    go_wp2_with (go_at_call 59;refine(HM.out _ ze ze _).mono ?_;rintro e' w' ⟨rfl,bs4,d4,rfl⟩)
    go_returns
    exact⟨by rw [h0.out],.of_below af⟩
 ·have hpos:0<ss.length:=by omega
  have hne:=hne hpos;have hadd:M+(ss.length-M)=ss.length:=by omega
  rcases HCS.out with h0|⟨b,off,rfl,hbw,hx⟩
  ·exact absurd h0 hz
  have HX:=zh hx;have HD:Hid (∀k,k<ss.length-M->kR (ss.drop M) (k+1)=kR (ss.drop M) k+ss.getD (M+k) 0):=zh (fun k hk=>by rw [vP _ _ (by simpa using hk),QR])
  have HSD:Hid (∀k,0<=kR (ss.drop M) k/\kR (ss.drop M) k<=200000000000000):=zh (fun k=>by
   have h1:=HSB.out;have:=Jh (l:=(ss.drop M).take k) (fun z hz=>(ky HB3.out).2 z (HP.out.mem_iff.1 (mem_of_mem_drop (mem_of_mem_take hz))))
   have hl:((ss.drop M).take k).length<=200:=by
    have h2:=(ky HB3.out).1;have h3:=HP.out.length_eq;rw [length_take,length_drop];omega
   unfold kR
   omega)
  have HLL:Hid (kR (ss.drop M) (ss.length-M)=BS):=zh (by
   rw [HBS.out,<-HBL.out];unfold kR
   rw [take_of_length_le zg])
  clear hx hz;generalize hLL:ss.length-M=LL at *
  go_wp2_with fail
  go_loopw [7,9,33] (fun v7 _ v33 wr=>∃k:Nat,k<=LL/\v33= .int .i64 k/\v7= .int .i64 (kR (ss.drop M) k)/\wr=((((w.alloc (.cells #[.int .i64 0,.int .i64 0] 23)).grow bs d).alloc (.cells #[.slice a l.length c] 24)).grow bs3 d3)) (fun _ _ v33 _=>LL-(intOf v33).toNat)
  case atStart=>exact⟨0,by omega,rfl,rfl,rfl⟩
  case round=>
   obtain⟨k,hk,rfl,rfl,rfl⟩:=hrel;by_cases hlt:k<LL
   ·have x0:=HX.out (M+k) ze;have d1:(k:Int)<(LL:Int):=by omega
    have hs:=HD.out k hlt;have hb1:=HSD.out k;have hb2:=HSD.out (k+1);rw [hs]at hb2;have HS1:=zh hs;have HKL:=zh hlt;rw [<-Nat.add_assoc]at x0;clear hs hlt;generalize ss.getD (M+k) 0=z at *;generalize hsk:kR (ss.drop M) k=sk at *
    go_wp2_with fail
    go_roundw
    case rel=>exact⟨k+1,HKL.out,by go_num,by rw [HS1.out],zG⟩
    case measure=>simp [intOf];have:=HKL.out;omega
   ·obtain rfl:k=LL:=by omega
    rw [HLL.out];have hb1:=HSD.out k;rw [HLL.out]at hb1;have HBB:=zh hb1
    go_wp2_with (go_at_call 59;refine(HM.out _ HBB.out.1 HBB.out.2 _).mono ?_;rintro e' w' ⟨rfl,bs4,d4,rfl⟩)
    exact gz9
theorem IK(l:List Int)(n:Int)(v:Value)(w:World)(hy:bJ w v l):Calls prog 22 #[v,.int .i64 n] w fun e w'=>e= .returned (frV (gP l n))/\w.Grows w':=by
 by_cases h:n<1\/45<n\/bF l=false
 ·exact H9 l n v w hy h
 ·simp only [not_or,Bool.not_eq_false]at h;exact Eb l n v w hy ze ze h.2.2
open Go.RowKit

def mG(B:Nat)(V:dK)(w:World)(v3 v4 v5 v6 v7:Value)(n:Int)(e:Ending)(w':World):Prop:=e= .returned (.tuple #[])/\Below B w w'/\cO B w' (bI n V) v3 v4 v5 v6 v7
theorem cO.same{B:Nat}{w w':World}{V:dK}{v3 v4 v5 v6 v7:Value}(h:cO B w V v3 v4 v5 v6 v7)(hb:w.heap.size<=w'.heap.size)(hw:∀k,B<=k->k<w.heap.size->w'.heap[k]? =w.heap[k]?):cO B w' V v3 v4 v5 v6 v7:=by
 obtain⟨ql,qg,qr,H1,H2,H3,H4,H5,e1,e2,e3,ord,r1,r2,r3,r4,r5⟩:=h;exact⟨ql,qg,qr,H1,H2,H3,H4,H5,e1,e2,e3,ord,r1.keep hb fun k h1 _ h2=>hw k ze h2,r2.keep hb fun k h1 _ h2=>hw k ze h2,r3.keep hb fun k h1 _ h2=>hw k ze h2,r4.keep hb fun k h1 _ h2=>hw k ze h2,r5.keep hb fun k h1 h2=>hw k ze h2⟩
theorem cO.grow{B:Nat}{w:World}{V:dK}{v3 v4 v5 v6 v7:Value}(h:cO B w V v3 v4 v5 v6 v7)(bs:Array Obj)(d:Nat):cO B (w.grow bs d) V v3 v4 v5 v6 v7:=h.same zg fun k _ hk=>World.heap_grow _ _ _ hk
theorem cO.alloc{B:Nat}{w:World}{V:dK}{v3 v4 v5 v6 v7:Value}(h:cO B w V v3 v4 v5 v6 v7)(o:Obj):cO B (w.alloc o) V v3 v4 v5 v6 v7:=h.same zg fun k _ hk=>Below.heap_alloc w o k hk
theorem cO.drew{B:Nat}{w:World}{V:dK}{v3 v4 v5 v6 v7:Value}(h:cO B w V v3 v4 v5 v6 v7):cO B w.drew V v3 v4 v5 v6 v7:=h.same (Nat.le_refl _) fun k _ _=>rfl
theorem cO.setCell{B:Nat}{w:World}{V:dK}{v3 v4 v5 v6 v7:Value}(h:cO B w V v3 v4 v5 v6 v7){a:Addr}(ha:a.block<B)(u:Value):cO B (w.setCell a u) V v3 v4 v5 v6 v7:=h.same zg fun k hk _=>Below.heap_setCell _ _ _ _ ze
theorem cO.le{B B':Nat}{w:World}{V:dK}{v3 v4 v5 v6 v7:Value}(h:cO B w V v3 v4 v5 v6 v7)(hb:B'<=B):cO B' w V v3 v4 v5 v6 v7:=by
 obtain⟨ql,qg,qr,H1,H2,H3,H4,H5,e1,e2,e3,ord,r1,r2,r3,r4,r5⟩:=h;exact⟨ql,qg,qr,H1,H2,H3,H4,H5,e1,e2,e3,⟨by omega,ord.2⟩,r1,r2,r3,r4,r5⟩
theorem bz.apart'{T:TypeId}{c base g:Nat}{X:Nat->Prop}{w w':World}{v:Value}{l:List (List Value)}{rs:List (Ex × Value)}(h:bz T c base X w v l rs)(hn:Next g w w')(hg:¬(base<=g/\X g)):bz T c base X w' v l rs:=
 h.keep hn.size fun k h1 h2 h3=>hn.blk k h3 fun e=>hg (by subst e;exact⟨h1,h2⟩)
section
variable {B g : Nat} {w w' : World} {cr cr' : List (Int × Int)} {se se' : List (Int × Int × Int)} {ql ql' : List (ByteArray × (Ex × Value))} {qg qg' : List GrT} {qr : List (Int × (Ex × Value))} {v3 v4 v5 v6 v7 : Value} {H1 H2 H3 H4 H5 : Nat}
theorem qM.put1(h:qM B w cr se ql qg qr v3 v4 v5 v6 v7 H1 H2 H3 H4 H5)(hg:H1<=g/\g<H2)(hn:Next g w w')(r:bz 129 2 H1 (· <H2) w' v3 (crL cr') []):qM B w' cr' se ql qg qr v3 v4 v5 v6 v7 H1 H2 H3 H4 H5:=by
 have o:=h.ord;exact⟨o,r,h.r2.apart' hn (fun e=>by have:=e.1;omega),h.r3.apart' hn (fun e=>by have:=e.1;omega),h.r4.apart' hn (fun e=>by have:=e.1;omega),h.r5.keep hn.size fun k h1 h2=>hn.blk k h2 ze⟩
theorem qM.put2(h:qM B w cr se ql qg qr v3 v4 v5 v6 v7 H1 H2 H3 H4 H5)(hg:H2<=g/\g<H3)(hn:Next g w w')(r:bz 131 3 H2 (· <H3) w' v4 (seL se') []):qM B w' cr se' ql qg qr v3 v4 v5 v6 v7 H1 H2 H3 H4 H5:=by
 have o:=h.ord;exact⟨o,h.r1.apart' hn (fun e=>by have:g<H2:=e.2;omega),r,h.r3.apart' hn (fun e=>by have:=e.1;omega),h.r4.apart' hn (fun e=>by have:=e.1;omega),h.r5.keep hn.size fun k h1 h2=>hn.blk k h2 ze⟩
theorem qM.put3(h:qM B w cr se ql qg qr v3 v4 v5 v6 v7 H1 H2 H3 H4 H5)(hg:H3<=g/\g<H4)(hn:Next g w w')(r:bz 84 7 H3 (· <H4) w' v5 (fP ql') (ql'.map (·.2))):qM B w' cr se ql' qg qr v3 v4 v5 v6 v7 H1 H2 H3 H4 H5:=by
 have o:=h.ord;exact⟨o,h.r1.apart' hn (fun e=>by have:g<H2:=e.2;omega),h.r2.apart' hn (fun e=>by have:g<H3:=e.2;omega),r,h.r4.apart' hn (fun e=>by have:=e.1;omega),h.r5.keep hn.size fun k h1 h2=>hn.blk k h2 ze⟩
theorem qM.put4(h:qM B w cr se ql qg qr v3 v4 v5 v6 v7 H1 H2 H3 H4 H5)(hg:H4<=g/\g<H5)(hn:Next g w w')(r:bz 97 13 H4 (· <H5) w' v6 (grL qg') (grR qg')):qM B w' cr se ql qg' qr v3 v4 v5 v6 v7 H1 H2 H3 H4 H5:=by
 have o:=h.ord;exact⟨o,h.r1.apart' hn (fun e=>by have:g<H2:=e.2;omega),h.r2.apart' hn (fun e=>by have:g<H3:=e.2;omega),h.r3.apart' hn (fun e=>by have:g<H4:=e.2;omega),r,h.r5.keep hn.size fun k h1 h2=>hn.blk k h2 ze⟩
end
theorem LK
 (B g:Nat) (frm mode unit:Int) (V:dK) (v3 v4 v5 v6 v7:Value) (w:World) (hg:w.heap[g]? =some (.cells #[.int .i64 frm,.int .i64 mode,.int .i64 unit,v3,v4,v5,v6,v7] 81 (0,0)))
 (hlen:V.cr.length<=1000/\V.se.length<=1000/\V.le.length<=1000/\V.gr.length<=1000) (h:cO B w V v3 v4 v5 v6 v7)
 :Calls prog 73 #[.pointer (some ⟨g,0,none⟩),.int .i64 1] w (mG B V w v3 v4 v5 v6 v7 1):=by
 obtain⟨ql,qg,qr,H1,H2,H3,H4,H5,e1,e2,e3,hQ⟩:=h;have ho:=hQ.ord;have hc:w.cell? ⟨g,6,none⟩=some v6:=cell_of_row w g 6 _ _ _ hg
 match qg,e2,hQ with
 | [],e2,hQ=>
   obtain⟨a,cap,hv⟩:=hQ.r4.form;refine(Jd g _ cap a w (hc.trans (congrArg some hv)) zJ).mono ?_;rintro e w' ⟨rfl,rfl⟩;exact⟨rfl,.refl _ _,ql,[],qr,H1,H2,H3,H4,H5,e1,by simp [bI,<-e2],e3,hQ⟩
 | [t],e2,hQ=>
   obtain⟨a,cap,hv⟩:=hQ.r4.form;refine(Jd g _ cap a w (hc.trans (congrArg some hv)) zJ).mono ?_;rintro e w' ⟨rfl,rfl⟩;exact⟨rfl,.refl _ _,ql,[t],qr,H1,H2,H3,H4,H5,e1,by simp [bI,<-e2],e3,hQ⟩
 |t::u::r,e2,hQ=>
  have hl:(grL (t::u::r)).length=V.gr.length:=by rw [<-e2];simp [grL]
  obtain⟨gg,cap,rfl⟩:=hQ.r4.block zJ;obtain⟨b1,b2,b3⟩:=hQ.r4.apart;have c0:w.cell? ⟨gg,0,none⟩=some (.int .i64 t.1):=hQ.r4.cellAt rfl 0 0 ze zJ;have c1:w.cell? ⟨gg,13,none⟩=some (.int .i64 u.1):=hQ.r4.cellAt rfl 1 0 ze zJ;refine(LX g gg _ cap t.1 w hc zJ ze c0 _ c1 (hQ.r4.own.frozenAt _)).mono ?_;rintro e w' ⟨rfl,rfl⟩;refine⟨rfl,((Below.refl _ _).setCell (by show B<=gg;omega) _).drew,ql,t::(t.1,u.2)::r,qr,H1,H2,H3,H4,H5,e1,by simp [bI,<-e2],e3, ?_⟩;exact hQ.put4 ⟨b1,b2⟩ (((Next.refl _ _).store _ _).drew) (hQ.r4.stored (rs':=grR (t::(t.1,u.2)::r)) rfl 1 0 13 rfl ze zJ (.int .i64 t.1) (fun x hx=>.inl hx)).drew
theorem LJ
 (B g:Nat) (frm mode unit:Int) (V:dK) (v3 v4 v5 v6 v7:Value) (w:World) (hg:w.heap[g]? =some (.cells #[.int .i64 frm,.int .i64 mode,.int .i64 unit,v3,v4,v5,v6,v7] 81 (0,0)))
 (hlen:V.cr.length<=1000/\V.se.length<=1000/\V.le.length<=1000/\V.gr.length<=1000) (h:cO B w V v3 v4 v5 v6 v7)
 :Calls prog 73 #[.pointer (some ⟨g,0,none⟩),.int .i64 2] w (mG B V w v3 v4 v5 v6 v7 2):=by
 obtain⟨ql,qg,qr,H1,H2,H3,H4,H5,e1,e2,e3,hQ⟩:=h;have ho:=hQ.ord;have hc:w.cell? ⟨g,5,none⟩=some v5:=cell_of_row w g 5 _ _ _ hg
 match ql,e1,hQ with
 | [],e1,hQ=>
   obtain⟨a,cap,hv⟩:=hQ.r3.form;refine(Jc g _ cap a w (hc.trans (congrArg some hv)) zB).mono ?_;rintro e w' ⟨rfl,rfl⟩;exact⟨rfl,.refl _ _,[],qg,qr,H1,H2,H3,H4,H5,by simp [bI,<-e1],e2,e3,hQ⟩
 | [t],e1,hQ=>
   obtain⟨a,cap,hv⟩:=hQ.r3.form;refine(Jc g _ cap a w (hc.trans (congrArg some hv)) zB).mono ?_;rintro e w' ⟨rfl,rfl⟩;exact⟨rfl,.refl _ _,[t],qg,qr,H1,H2,H3,H4,H5,by simp [bI,<-e1],e2,e3,hQ⟩
 |t::u::r,e1,hQ=>
  have hl:(fP (t::u::r)).length=V.le.length:=by rw [<-e1];simp [fP]
  obtain⟨gg,cap,rfl⟩:=hQ.r3.block zB;obtain⟨b1,b2,b3⟩:=hQ.r3.apart;have c0:w.cell? ⟨gg,0,none⟩=some (.string t.1):=hQ.r3.cellAt rfl 0 0 ze zB;have c1:w.cell? ⟨gg,7,none⟩=some (.string u.1):=hQ.r3.cellAt rfl 1 0 ze zB;refine(LW g gg _ cap t.1 w hc zB ze c0 _ c1 (hQ.r3.own.frozenAt _)).mono ?_;rintro e w' ⟨rfl,rfl⟩;refine⟨rfl,((Below.refl _ _).setCell (by show B<=gg;omega) _).drew,t::(t.1,u.2)::r,qg,qr,H1,H2,H3,H4,H5,by simp [bI,<-e1],e2,e3, ?_⟩;exact hQ.put3 ⟨b1,b2⟩ (((Next.refl _ _).store _ _).drew) (hQ.r3.stored (rs':=List.map (fun x:ByteArray × (Ex × Value)=>x.2) (t::(t.1,u.2)::r)) rfl 1 0 7 rfl ze zB (.string t.1) (fun x hx=>.inl hx)).drew
theorem LG
 (B g:Nat) (frm mode unit:Int) (V:dK) (v3 v4 v5 v6 v7:Value) (w:World) (hg:w.heap[g]? =some (.cells #[.int .i64 frm,.int .i64 mode,.int .i64 unit,v3,v4,v5,v6,v7] 81 (0,0)))
 (hlen:V.cr.length<=1000/\V.se.length<=1000/\V.le.length<=1000/\V.gr.length<=1000) (h:cO B w V v3 v4 v5 v6 v7)
 :Calls prog 73 #[.pointer (some ⟨g,0,none⟩),.int .i64 4] w (mG B V w v3 v4 v5 v6 v7 4):=by
 obtain⟨ql,qg,qr,H1,H2,H3,H4,H5,e1,e2,e3,hQ⟩:=h;have ho:=hQ.ord;have hc:w.cell? ⟨g,4,none⟩=some v4:=cell_of_row w g 4 _ _ _ hg;generalize hse:V.se=se at hQ
 match se,hse,hQ with
 | [],hse,hQ=>
   obtain⟨a,cap,hv⟩:=hQ.r2.form;refine(Jb g _ cap a w (hc.trans (congrArg some hv)) zP).mono ?_;rintro e w' ⟨rfl,rfl⟩;exact⟨rfl,.refl _ _,ql,qg,qr,H1,H2,H3,H4,H5,e1,e2,e3,by have hs:(bI 4 V).se= []:=(by simp [bI,hse]);rw [hs];exact hQ⟩
 | [t],hse,hQ=>
   obtain⟨a,cap,hv⟩:=hQ.r2.form;refine(Jb g _ cap a w (hc.trans (congrArg some hv)) zP).mono ?_;rintro e w' ⟨rfl,rfl⟩;exact⟨rfl,.refl _ _,ql,qg,qr,H1,H2,H3,H4,H5,e1,e2,e3,by have hs:(bI 4 V).se= [t]:=(by simp [bI,hse]);rw [hs];exact hQ⟩
 |t::u::r,hse,hQ=>
  have hl:(seL (t::u::r)).length=V.se.length:=by rw [hse];simp [seL]
  obtain⟨gg,cap,rfl⟩:=hQ.r2.block zP;obtain⟨b1,b2,b3⟩:=hQ.r2.apart;have c0:w.cell? ⟨gg,0,none⟩=some (.int .i64 t.1):=hQ.r2.cellAt rfl 0 0 ze zP;have c1:w.cell? ⟨gg,3,none⟩=some (.int .i64 u.1):=hQ.r2.cellAt rfl 1 0 ze zP;refine(LU g gg _ cap t.1 w hc zP ze c0 _ c1 (hQ.r2.own.frozenAt _)).mono ?_;rintro e w' ⟨rfl,rfl⟩;refine⟨rfl,((Below.refl _ _).setCell (by show B<=gg;omega) _).drew,ql,qg,qr,H1,H2,H3,H4,H5,e1,e2,e3, ?_⟩;have hs:(bI 4 V).se=t::(t.1,u.2)::r:=by simp [bI,hse]
  rw [hs];exact hQ.put2 ⟨b1,b2⟩ (((Next.refl _ _).store _ _).drew) (hQ.r2.stored (rs':=[]) rfl 1 0 3 rfl ze zP (.int .i64 t.1) (fun x hx=>.inl hx)).drew
theorem LF
 (B g:Nat) (frm mode unit:Int) (V:dK) (v3 v4 v5 v6 v7:Value) (w:World) (hg:w.heap[g]? =some (.cells #[.int .i64 frm,.int .i64 mode,.int .i64 unit,v3,v4,v5,v6,v7] 81 (0,0)))
 (hlen:V.cr.length<=1000/\V.se.length<=1000/\V.le.length<=1000/\V.gr.length<=1000) (h:cO B w V v3 v4 v5 v6 v7)
 :Calls prog 73 #[.pointer (some ⟨g,0,none⟩),.int .i64 5] w (mG B V w v3 v4 v5 v6 v7 5):=by
 obtain⟨ql,qg,qr,H1,H2,H3,H4,H5,e1,e2,e3,hQ⟩:=h;have ho:=hQ.ord;have hc:w.cell? ⟨g,3,none⟩=some v3:=cell_of_row w g 3 _ _ _ hg;generalize hcr:V.cr=cr at hQ
 match cr,hcr,hQ with
 | [],hcr,hQ=>
   obtain⟨a,cap,hv⟩:=hQ.r1.form;refine(Ja g _ cap a w (hc.trans (congrArg some hv)) zO).mono ?_;rintro e w' ⟨rfl,rfl⟩;exact⟨rfl,.refl _ _,ql,qg,qr,H1,H2,H3,H4,H5,e1,e2,e3,by have hs:(bI 5 V).cr= []:=(by simp [bI,hcr]);rw [hs];exact hQ⟩
 | [t],hcr,hQ=>
   obtain⟨a,cap,hv⟩:=hQ.r1.form;refine(Ja g _ cap a w (hc.trans (congrArg some hv)) zO).mono ?_;rintro e w' ⟨rfl,rfl⟩;exact⟨rfl,.refl _ _,ql,qg,qr,H1,H2,H3,H4,H5,e1,e2,e3,by have hs:(bI 5 V).cr= [t]:=(by simp [bI,hcr]);rw [hs];exact hQ⟩
 |t::u::r,hcr,hQ=>
  have hl:(crL (t::u::r)).length=V.cr.length:=by rw [hcr];simp [crL]
  obtain⟨gg,cap,rfl⟩:=hQ.r1.block zO;obtain⟨b1,b2,b3⟩:=hQ.r1.apart;have c0:w.cell? ⟨gg,0,none⟩=some (.int .i64 t.1):=hQ.r1.cellAt rfl 0 0 ze zO;have c1:w.cell? ⟨gg,2,none⟩=some (.int .i64 u.1):=hQ.r1.cellAt rfl 1 0 ze zO;refine(LQ g gg _ cap t.1 w hc zO ze c0 _ c1 (hQ.r1.own.frozenAt _)).mono ?_;rintro e w' ⟨rfl,rfl⟩;refine⟨rfl,((Below.refl _ _).setCell (by show B<=gg;omega) _).drew,ql,qg,qr,H1,H2,H3,H4,H5,e1,e2,e3, ?_⟩;have hs:(bI 5 V).cr=t::(t.1,u.2)::r:=by simp [bI,hcr]
  rw [hs];exact hQ.put1 ⟨b1,b2⟩ (((Next.refl _ _).store _ _).drew) (hQ.r1.stored (rs':=[]) rfl 1 0 2 rfl ze zO (.int .i64 t.1) (fun x hx=>.inl hx)).drew
theorem LD
 (B g:Nat) (frm mode unit:Int) (V:dK) (v3 v4 v5 v6 v7:Value) (w:World) (hg:w.heap[g]? =some (.cells #[.int .i64 frm,.int .i64 mode,.int .i64 unit,v3,v4,v5,v6,v7] 81 (0,0)))
 (hlen:V.cr.length<=1000/\V.se.length<=1000/\V.le.length<=1000/\V.gr.length<=1000) (h:cO B w V v3 v4 v5 v6 v7)
 :Calls prog 73 #[.pointer (some ⟨g,0,none⟩),.int .i64 6] w (mG B V w v3 v4 v5 v6 v7 6):=by
 obtain⟨ql,qg,qr,H1,H2,H3,H4,H5,e1,e2,e3,hQ⟩:=h;have ho:=hQ.ord;have hc:w.cell? ⟨g,5,none⟩=some v5:=cell_of_row w g 5 _ _ _ hg
 match ql,e1,hQ with
 | [],e1,hQ=>
   obtain⟨a,cap,hv⟩:=hQ.r3.form;refine(OO g _ cap a w (hc.trans (congrArg some hv)) zB).mono ?_;rintro e w' ⟨rfl,rfl⟩;exact⟨rfl,.refl _ _,[],qg,qr,H1,H2,H3,H4,H5,by simp [bI,<-e1],e2,e3,hQ⟩
 |t::r,e1,hQ=>
  have hl:(fP (t::r)).length=V.le.length:=by rw [<-e1];simp [fP]
  obtain⟨gg,cap,rfl⟩:=hQ.r3.block zB;obtain⟨b1,b2,b3⟩:=hQ.r3.apart;have c0:w.cell? ⟨gg,0,none⟩=some (.string t.1):=hQ.r3.cellAt rfl 0 0 ze zB;refine(LP g gg _ cap w hc zB ze _ c0 (hQ.r3.own.frozenAt _)).mono ?_;rintro e w' ⟨rfl,rfl⟩;refine⟨rfl,(Below.refl _ _).setCell (by show B<=gg;omega) _,(KX,t.2)::r,qg,qr,H1,H2,H3,H4,H5,by simp [bI,<-e1],e2,e3, ?_⟩;exact hQ.put3 ⟨b1,b2⟩ ((Next.refl _ _).store _ _) (hQ.r3.stored (rs':=List.map (fun x:ByteArray × (Ex × Value)=>x.2) ((KX,t.2)::r)) rfl 0 0 0 rfl ze zB (.string KX) (fun x hx=>.inl hx))
theorem JK:kP qo:=⟨⟨by decide,by decide⟩,⟨by decide,by decide⟩,⟨by decide,by decide⟩,⟨by decide,by decide⟩,by decide,by decide⟩
theorem LH
 (B g:Nat) (frm mode unit:Int) (V:dK) (v3 v4 v5 v6 v7:Value) (w:World) (hg:w.heap[g]? =some (.cells #[.int .i64 frm,.int .i64 mode,.int .i64 unit,v3,v4,v5,v6,v7] 81 (0,0)))
 (hlen:V.cr.length<=1000/\V.se.length<=1000/\V.le.length<=1000/\V.gr.length<=1000) (h:cO B w V v3 v4 v5 v6 v7)
 :Calls prog 73 #[.pointer (some ⟨g,0,none⟩),.int .i64 3] w (mG B V w v3 v4 v5 v6 v7 3):=by
 obtain⟨ql,qg,qr,H1,H2,H3,H4,H5,e1,e2,e3,hQ⟩:=h;have ho:=hQ.ord;have hc:w.cell? ⟨g,5,none⟩=some v5:=cell_of_row w g 5 _ _ _ hg
 match ql,e1,hQ with
 | [],e1,hQ=>
   obtain⟨a,cap,hv⟩:=hQ.r3.form;refine(OP g _ cap a w (hc.trans (congrArg some hv)) zB).mono ?_;rintro e w' ⟨rfl,rfl⟩;exact⟨rfl,.refl _ _,[],qg,qr,H1,H2,H3,H4,H5,by simp [bI,<-e1],e2,e3,hQ⟩
 |t::r,e1,hQ=>
  have hl:(fP (t::r)).length=V.le.length:=by rw [<-e1];simp [fP]
  obtain⟨gg,cap,rfl⟩:=hQ.r3.block zB;obtain⟨b1,b2,b3⟩:=hQ.r3.apart;have cc:=fun j hj=>hQ.r3.cellAt rfl 0 j hj zB;refine(LV g gg _ cap w hc zB ze _ _ _ _ _ _ (cc 1 ze) (cc 2 ze) (cc 3 ze) (cc 4 ze) (cc 5 ze) (cc 6 ze) (fun i=>hQ.r3.own.frozenAt i)).mono ?_;rintro e w' ⟨rfl,rfl⟩;have hb:B<=gg:=by omega
  refine⟨rfl,((((((Below.refl _ _).setCell hb _).setCell hb _).setCell hb _).setCell hb _).setCell hb _).setCell hb _,(t.1,(qo,.slice none 0 0))::r,qg,qr,H1,H2,H3,H4,H5,by simp [bI,<-e1],e2,e3, ?_⟩;have s1:=hQ.r3.stored rfl 0 1 1 rfl ze zB (.int .i64 2) (fun x hx=>.inl hx);have s2:=s1.stored rfl 0 2 2 rfl ze zB (.int .i64 0) (fun x hx=>.inl hx);have s3:=s2.stored rfl 0 3 3 rfl ze zB (.int .i64 0) (fun x hx=>.inl hx);have s4:=s3.stored rfl 0 4 4 rfl ze zB (.int .i64 0) (fun x hx=>.inl hx);have s5:=s4.stored rfl 0 5 5 rfl ze zB (.string ⟨#[108,97,116,101,114]⟩) (fun x hx=>.inl hx)
  have s6:=s5.stored (rs':=List.map (fun x:ByteArray × (Ex × Value)=>x.2) ((t.1,(qo,.slice none 0 0))::r)) rfl 0 6 6 rfl ze zB (.slice none 0 0) (fun x hx=>by
   rw [map_cons,mem_cons]at hx;rcases hx with rfl|hx
   ·exact .inr (.nil JK rfl)
   ·exact .inl (by rw [map_cons];exact mem_cons_of_mem _ hx))
  exact hQ.put3 ⟨b1,b2⟩ ((((((((Next.refl _ _).store _ _).store _ _).store _ _).store _ _).store _ _).store _ _)) s6
theorem LM
 (B g:Nat) (frm mode unit:Int) (V:dK) (v3 v4 v5 v6 v7:Value) (w:World) (hg:w.heap[g]? =some (.cells #[.int .i64 frm,.int .i64 mode,.int .i64 unit,v3,v4,v5,v6,v7] 81 (0,0)))
 (hlen:V.cr.length<=1000/\V.se.length<=1000/\V.le.length<=1000/\V.gr.length<=1000) (h:cO B w V v3 v4 v5 v6 v7)
 :Calls prog 73 #[.pointer (some ⟨g,0,none⟩),.int .i64 0] w (mG B V w v3 v4 v5 v6 v7 0):=by
 obtain⟨ql,qg,qr,H1,H2,H3,H4,H5,e1,e2,e3,hQ⟩:=h;have ho:=hQ.ord;have hc:w.cell? ⟨g,6,none⟩=some v6:=cell_of_row w g 6 _ _ _ hg
 match qg,e2,hQ with
 | [],e2,hQ=>
   obtain⟨a,cap,hv⟩:=hQ.r4.form;refine(OQ g _ cap a w (hc.trans (congrArg some hv)) zJ).mono ?_;rintro e w' ⟨rfl,rfl⟩;exact⟨rfl,.refl _ _,ql,[],qr,H1,H2,H3,H4,H5,e1,by simp [bI,<-e2],e3,hQ⟩
 |(b,(f,vf),u)::r,e2,hQ=>
  obtain⟨va,vc,hvv⟩:=(hQ.r4.rep (f,vf) (by simp [grR])).form0;simp only at hvv;subst hvv;have hl:(grL ((b,(f,.slice va f.args.length vc),u)::r)).length=V.gr.length:=by rw [<-e2];simp [grL]
  obtain⟨gg,cap,rfl⟩:=hQ.r4.block zJ;obtain⟨b1,b2,b3⟩:=hQ.r4.apart;have cc:=fun j hj=>hQ.r4.cellAt rfl 0 j hj zJ;refine(LY g gg _ cap f.op f.num f.den f.dim f.name va f.args.length vc w hc zJ ze (cc 1 ze) (cc 2 ze) (cc 3 ze) (cc 4 ze) (cc 5 ze) (cc 6 ze) _ _ _ _ _ _ (cc 7 ze) (cc 8 ze) (cc 9 ze) (cc 10 ze) (cc 11 ze) (cc 12 ze) (fun i=>hQ.r4.own.frozenAt i)).mono ?_;rintro e w' ⟨rfl,rfl⟩;have hb:B<=gg:=by omega
  refine⟨rfl,(((((((Below.refl _ _).setCell hb _).setCell hb _).setCell hb _).setCell hb _).setCell hb _).setCell hb _).drew,ql,(b,(f,.slice va f.args.length vc),(f,.slice va f.args.length vc))::r,qr,H1,H2,H3,H4,H5,e1,by simp [bI,<-e2],e3, ?_⟩;have s1:=hQ.r4.stored rfl 0 7 7 rfl ze zJ (.int .i64 f.op) (fun x hx=>.inl hx);have s2:=s1.stored rfl 0 8 8 rfl ze zJ (.int .i64 f.num) (fun x hx=>.inl hx);have s3:=s2.stored rfl 0 9 9 rfl ze zJ (.int .i64 f.den) (fun x hx=>.inl hx);have s4:=s3.stored rfl 0 10 10 rfl ze zJ (.int .i64 f.dim) (fun x hx=>.inl hx);have s5:=s4.stored rfl 0 11 11 rfl ze zJ (.string f.name) (fun x hx=>.inl hx)
  have s6:=s5.stored (rs':=grR ((b,(f,.slice va f.args.length vc),(f,.slice va f.args.length vc))::r)) rfl 0 12 12 rfl ze zJ (.slice va f.args.length vc) (fun x hx=>by
   left;simp only [grR,flatMap_cons,cons_append,nil_append,mem_cons]at hx ⊢;rcases hx with rfl|rfl|hx
   ·exact .inl rfl
   ·exact .inl rfl
   ·exact .inr (.inr hx))
  exact hQ.put4 ⟨b1,b2⟩ (((((((((Next.refl _ _).store _ _).store _ _).store _ _).store _ _).store _ _).store _ _)).drew) s6.drew
theorem Fw(n:Int)(h0:0<=n)(h7:n<7)
 (B g:Nat) (frm mode unit:Int) (V:dK) (v3 v4 v5 v6 v7:Value) (w:World) (hg:w.heap[g]? =some (.cells #[.int .i64 frm,.int .i64 mode,.int .i64 unit,v3,v4,v5,v6,v7] 81 (0,0)))
 (hlen:V.cr.length<=1000/\V.se.length<=1000/\V.le.length<=1000/\V.gr.length<=1000) (h:cO B w V v3 v4 v5 v6 v7)
 :Calls prog 73 #[.pointer (some ⟨g,0,none⟩),.int .i64 n] w (mG B V w v3 v4 v5 v6 v7 n):=by
 obtain rfl|rfl|rfl|rfl|rfl|rfl|rfl:n=0\/n=1\/n=2\/n=3\/n=4\/n=5\/n=6:=by omega
 ·exact LM B g frm mode unit V v3 v4 v5 v6 v7 w hg hlen h
 ·exact LK B g frm mode unit V v3 v4 v5 v6 v7 w hg hlen h
 ·exact LJ B g frm mode unit V v3 v4 v5 v6 v7 w hg hlen h
 ·exact LH B g frm mode unit V v3 v4 v5 v6 v7 w hg hlen h
 ·exact LG B g frm mode unit V v3 v4 v5 v6 v7 w hg hlen h
 ·exact LF B g frm mode unit V v3 v4 v5 v6 v7 w hg hlen h
 ·exact LD B g frm mode unit V v3 v4 v5 v6 v7 w hg hlen h
theorem ja.mk{R:df}{V:dK}{w w1 wz:World}{B:Nat}{v3 v4 v5 v6 v7:Value}(hT:ofP R=V)(hV:V.frm=pick R.frm 73049/\V.mode=pick R.mode 4+1/\V.unit=aY (pick R.unit 5))(hb:Below w.heap.size w wz)
 (hn:Next (w.heap.size+1) w1 wz) (hv:cO B w1 V v3 v4 v5 v6 v7) (hB:w.heap.size+2<=B) :
 ja R w (.returned (.agg #[.int .i64 (pick R.frm 73049),.int .i64 (pick R.mode 4+1),.int .i64 (aY (pick R.unit 5)),v3,v4,v5,v6,v7])) wz:=by
 subst hT;obtain⟨a,b,c⟩:=hV;exact⟨v3,v4,v5,v6,v7,by rw [a,b,c],.of_below hb,(hv.same hn.size fun k hk hlt=>hn.blk k hlt ze).le ze⟩

def Ef:Prop:=∀(R:df) (cs:Array Value) (w:World),pJ w cs.toList R->Calls prog 36 #[.agg cs] w (ja R w)
theorem ay.below{w w':World}{v:Value}{zs:List Int}(h:ay w v zs)(hb:Below w.heap.size w w'):ay w' v zs:=by
 obtain⟨h0,hr,a,cap,hv,h1⟩:=h;refine⟨h0,hr,a,cap,hv,h1.imp id ?_⟩;rintro⟨b,off,ha,hlt,hc⟩;have:=hb.size;exact⟨b,off,ha,by omega,fun i hi=>by rw [hb.cell (by exact hlt)];exact hc i hi⟩
theorem eU.below{w w':World}{v:Value}{zss:List (List Int)}(h:eU w v zss)(hb:Below w.heap.size w w'):eU w' v zss:=by
 obtain⟨h0,a,cap,hv,h1⟩:=h;refine⟨h0,a,cap,hv,h1.imp id ?_⟩;rintro⟨b,off,ha,hlt,hc⟩;have:=hb.size;refine⟨b,off,ha,by omega,fun i hi=>?_⟩;obtain⟨u,hu,hi⟩:=hc i hi;exact⟨u,by rw [hb.cell (by exact hlt)];exact hu,ay.below hi hb⟩
theorem pJ.below{w w':World}{cs:List Value}{R:df}(h:pJ w cs R)(hb:Below w.heap.size w w'):pJ w' cs R:=by
 obtain⟨a,b,c,d,vc,vs,vl,vi,vp,vu,he,h1,h2,h3,h4,h5,h6⟩:=h;exact⟨a,b,c,d,vc,vs,vl,vi,vp,vu,he,ay.below h1 hb,ay.below h2 hb,eU.below h3 hb,eU.below h4 hb,eU.below h5 hb,eU.below h6 hb⟩
theorem K5(R:df)(w:World)(h1:I64 R.frm)(h2:I64 R.mode)(h3:I64 R.unit)(h4:I64 R.twist)(ca:Option Addr)(sa:Option Addr)(la:Option Addr)(ia:Option Addr)(pa:Option Addr)(ua:Option Addr)(ccap:Nat)(scap:Nat)(lcap:Nat)(icap:Nat)(pcap:Nat)(ucap:Nat)(hcl:R.credits.length<=140737488355328)(hsl:R.series.length<=140737488355328)(hll:R.lets.length<=140737488355328)(hil:R.ifs.length<=140737488355328)(hpl:R.pays.length<=140737488355328)(hul:R.cuts.length<=140737488355328)(HCC:Hid (R.credits.length=0\/∃b off,ca=some ⟨b,off,none⟩/\b<w.heap.size/\∀(i:Nat),i<R.credits.length->w.cell? ⟨b,off+i,none⟩=some (.int .i64 (R.credits.getD i 0))))(HSC:Hid (R.series.length=0\/∃b off,sa=some ⟨b,off,none⟩/\b<w.heap.size/\∀(i:Nat),i<R.series.length->w.cell? ⟨b,off+i,none⟩=some (.int .i64 (R.series.getD i 0))))(HLC:Hid (R.lets.length=0\/∃b off,la=some ⟨b,off,none⟩/\b<w.heap.size/\∀(i:Nat),i<R.lets.length->∃u,w.cell? ⟨b,off+i,none⟩=some u/\ay w u (R.lets.getD i [])))(HIC:Hid (R.ifs.length=0\/∃b off,ia=some ⟨b,off,none⟩/\b<w.heap.size/\∀(i:Nat),i<R.ifs.length->∃u,w.cell? ⟨b,off+i,none⟩=some u/\ay w u (R.ifs.getD i [])))(HPC:Hid (R.pays.length=0\/∃b off,pa=some ⟨b,off,none⟩/\b<w.heap.size/\∀(i:Nat),i<R.pays.length->∃u,w.cell? ⟨b,off+i,none⟩=some u/\ay w u (R.pays.getD i [])))(HUC:Hid (R.cuts.length=0\/∃b off,ua=some ⟨b,off,none⟩/\b<w.heap.size/\∀(i:Nat),i<R.cuts.length->∃u,w.cell? ⟨b,off+i,none⟩=some u/\ay w u (R.cuts.getD i [])))(g:Nat)(wk:Nat)(wc:World)(vcr:Value)(H1:Nat)(hgH1:g<H1)(vse:Value)(H2:Nat)(hgH2:g<H2)(hH12:H1<=H2)(vle:Value)(H3:Nat)(ql:List (ByteArray × (Ex × Value)))(hgH3:g<H3)(hH23:H2<=H3)(eva:Option Addr)(evc:Nat)(vgr:Value)(H4:Nat)(qg:List GrT)(hgH4:g<H4)(hH34:H3<=H4)(vre:Value)(H5:Nat)(qr:List (Int × (Ex × Value)))(hcut:dX w (fu R (.slice ca R.credits.length ccap) (.slice sa R.series.length scap) (.slice la R.lets.length lcap) (.slice ia R.ifs.length icap) (.slice pa R.pays.length pcap) (.slice ua R.cuts.length ucap)) g #[.int .i64 (pick R.frm 73049),.int .i64 (pick R.mode 4+1),.int .i64 (aY (pick R.unit 5)),vcr,vse,vle,vgr,vre] wc/\bz 129 2 H1 (· <H2) wc vcr (bG R (gY R)) []/\bz 131 3 H2 (· <H3) wc vse (bW R (lY R)) []/\bz 84 7 H3 (· <H4) wc vle (fP ql) (ql.map (·.2))/\bz 97 13 H4 (· <H5) wc vgr (grL qg) (grR qg)/\(g<H5/\H4<=H5/\H5<=wc.heap.size)/\bX 134 7 H5 wc vre (reL qr) (qr.map (·.2))/\ReQ R (Aq R) qr)(HQL:Hid (qO R (fO R) ql))(HQG:Hid (GrQ R (uY R) qg))(u5 u6 u7 u8 u9 u11 u12 u13 u14 u15 u16 u17 u18 u19 u20 u21 u22 u23 u24 u25 u26 u27 u28 u29 u30 u31 u32 u33 u34 u35 u36 u37 u38 u39 u40 u41 u42 u43 u44 u45 u46 u47 u48 u49 u50 u51 u52 u53 u54 u55 u56 u57 u58 u59 u60 u61 u62 u63 u64 u65 u66 u67 u68 u69 u70 u71 u72 u73 u74 u75 u76 u77 u78 u79 u80 u81 u82 u83 u84 u85 u86 u87 u88 u89 u90 u91 u92 u93 u94 u95 u96 u97 u98 u99 u100 u101 u102 u103 u104 u105 u106 u107 u108 u109 u110 u111 u112 u113 u114 u115 u116 u117 u118 u119 u120 u121 u122 u123 u124 u125 u126 u127 u128 u129 u130 u131 u132 u133 u134 u135 u136 u137 u138 u139 u140 u141 u142 u143 u144 u145 u146 u147 u148 u149 u150 u151 u152 u153 u154 u155 u156 u157 u158 u159 u160 u161 u162 u163 u164 u165 u166 u167 u168 u169 u170 u171 u172 u173 u174 u175 u176 u177 u178 u179 u180 u181 u182 u183 u184 u185 u186 u187 u188 u189 u190 u191 u192 u193 u194 u195 u196 u197 u198 u199 u200 u201 u202 u203 u204 u205 u206 u207 u208 u209 u210 u211 u212 u213 u214 u215 u216 u217 u218 u219 u220 u221 u222 u223 u224 u225 u226 u227 u228 u229 u230 u231 u232 u233 u234 u235 u236 u237 u238 u239:Value) :
 Code.wp prog (tlC (tlC (tlC (tlC (tlC (tlC (tlC (tlC (tlC (f36.body.getD .skip)))))))))) (bodyPost prog f36 (ja R w)) {tmps:=#[(.agg (fu R (.slice ca R.credits.length ccap) (.slice sa R.series.length scap) (.slice la R.lets.length lcap) (.slice ia R.ifs.length icap) (.slice pa R.pays.length pcap) (.slice ua R.cuts.length ucap))),.pointer (some ⟨w.heap.size,0,none⟩),.pointer (some ⟨w.heap.size+1,0,none⟩),.pointer (some ⟨g,0,none⟩),.slice (some ⟨wk,0,none⟩) 6 6,u5,u6,u7,u8,u9,.slice eva (jG (fE R (fO R))).length evc,u11,u12,u13,u14,u15,u16,u17,u18,u19,u20,u21,u22,u23,u24,u25,u26,u27,u28,u29,u30,u31,u32,u33,u34,u35,u36,u37,u38,u39,u40,u41,u42,u43,u44,u45,u46,u47,u48,u49,u50,u51,u52,u53,u54,u55,u56,u57,u58,u59,u60,u61,u62,u63,u64,u65,u66,u67,u68,u69,u70,u71,u72,u73,u74,u75,u76,u77,u78,u79,u80,u81,u82,u83,u84,u85,u86,u87,u88,u89,u90,u91,u92,u93,u94,u95,u96,u97,u98,u99,u100,u101,u102,u103,u104,u105,u106,u107,u108,u109,u110,u111,u112,u113,u114,u115,u116,u117,u118,u119,u120,u121,u122,u123,u124,u125,u126,u127,u128,u129,u130,u131,u132,u133,u134,u135,u136,u137,u138,u139,u140,u141,u142,u143,u144,u145,u146,u147,u148,u149,u150,u151,u152,u153,u154,u155,u156,u157,u158,u159,u160,u161,u162,u163,u164,u165,u166,u167,u168,u169,u170,u171,u172,u173,u174,u175,u176,u177,u178,u179,u180,u181,u182,u183,u184,u185,u186,u187,u188,u189,u190,u191,u192,u193,u194,u195,u196,u197,u198,u199,u200,u201,u202,u203,u204,u205,u206,u207,u208,u209,u210,u211,u212,u213,u214,u215,u216,u217,u218,u219,u220,u221,u222,u223,u224,u225,u226,u227,u228,u229,u230,u231,u232,u233,u234,u235,u236,u237,u238,u239],defers:=[]} wc:=by
 conv=>arg 2;whnf
 unfold fu;clear h1 h2 h3 hcl hsl hll hil hpl hul HCC HSC HLC HIC HPC HUC;obtain⟨hof,hrow1,hrow2,hrow3,hrow4,⟨hgH5,hH45,hH5⟩,hrow5,hqr⟩:=hcut;obtain⟨ca3,cc3,rfl⟩:=hrow1.form;obtain⟨ca4,cc4,rfl⟩:=hrow2.form;obtain⟨ca5,cc5,rfl⟩:=hrow3.form;obtain⟨ca6,cc6,rfl⟩:=hrow4.form;obtain⟨ca7,cc7,rfl⟩:=hrow5.form;generalize hn3:(bG R (gY R)).length=n3 at *;generalize hn4:(bW R (lY R)).length=n4 at *;generalize hn5:(fP ql).length=n5 at *;generalize hn6:(grL qg).length=n6 at *;generalize hn7:(reL qr).length=n7 at *
 have HV:Hid (cO H1 wc (fC R) (.slice ca3 n3 cc3) (.slice ca4 n4 cc4) (.slice ca5 n5 cc5) (.slice ca6 n6 cc6) (.slice ca7 n7 cc7)):=
  zh ⟨ql,qg,qr,H1,H2,H3,H4,H5,HQL.out,HQG.out,hqr,⟨⟨by omega,by omega,by omega,by omega,by omega⟩,by rw [KG];exact hrow1,by rw [Jo];exact hrow2,hrow3,hrow4,hrow5⟩⟩
 clear hrow1 hrow2 hrow3 hrow4 hrow5 hqr hn3 hn4 hn5 hn6 hn7 HQL HQG;have HOFR:=zh hof;have hge:=hof.gge;have hl2:=hof.lt;have hbx:wc.cell? ⟨w.heap.size,9,none⟩=some (.int .i64 R.twist):=cell_of_row _ _ _ _ _ _ hof.box;clear hof;by_cases ht0:R.twist=0
 ·have hb0:(R.twist !=0)=false:=by simp [ht0]
  have HT:=zh (Qd ht0);clear ht0;have H1C:Hid ((#[.int .i64 (pick R.frm 73049),.int .i64 (pick R.mode 4+1),.int .i64 (aY (pick R.unit 5)),.slice ca3 n3 cc3,.slice ca4 n4 cc4,.slice ca5 n5 cc5,.slice ca6 n6 cc6,.slice ca7 n7 cc7]:Array Value).all (·.oneCell')=true):=zh (all_oneCell_toArray (cs:=[.int .i64 (pick R.frm 73049),.int .i64 (pick R.mode 4+1),.int .i64 (aY (pick R.unit 5)),.slice ca3 n3 cc3,.slice ca4 n4 cc4,.slice ca5 n5 cc5,.slice ca6 n6 cc6,.slice ca7 n7 cc7]) yq);have HTH:=zh (jr HOFR.out.res 8 rfl);have HZB:=zh (dF (#[.int .i64 (pick R.frm 73049),.int .i64 (pick R.mode 4+1),.int .i64 (aY (pick R.unit 5)),.slice ca3 n3 cc3,.slice ca4 n4 cc4,.slice ca5 n5 cc5,.slice ca6 n6 cc6,.slice ca7 n7 cc7]:Array Value).toList 0 wc _ HOFR.out.res);have HZL:=zh (below_setCells (Nat.le_succ w.heap.size) (#[.int .i64 (pick R.frm 73049),.int .i64 (pick R.mode 4+1),.int .i64 (aY (pick R.unit 5)),.slice ca3 n3 cc3,.slice ca4 n4 cc4,.slice ca5 n5 cc5,.slice ca6 n6 cc6,.slice ca7 n7 cc7]:Array Value).toList 0 wc HOFR.out.bel);have HZN:=zh (dY (b:=w.heap.size+1) (#[.int .i64 (pick R.frm 73049),.int .i64 (pick R.mode 4+1),.int .i64 (aY (pick R.unit 5)),.slice ca3 n3 cc3,.slice ca4 n4 cc4,.slice ca5 n5 cc5,.slice ca6 n6 cc6,.slice ca7 n7 cc7]:Array Value).toList 0 wc (Next.refl _ _));generalize hwz:wc.setCells (w.heap.size+1) 0 (#[.int .i64 (pick R.frm 73049),.int .i64 (pick R.mode 4+1),.int .i64 (aY (pick R.unit 5)),.slice ca3 n3 cc3,.slice ca4 n4 cc4,.slice ca5 n5 cc5,.slice ca6 n6 cc6,.slice ca7 n7 cc7]:Array Value).toList=wz at HZB HZL HZN;have HZ:=zh hwz;clear hwz
  repeat(first
   |((with_reducible(show wpList _ _ _ (_::_) _ _));refine wpList_load_row rfl 81 _ rfl g rfl 81 _ _ _ HOFR.out.out underlying81 rfl kZ ?_)
   |((with_reducible(show wpList _ _ _ (_::_) _ _));refine wpList_store_mid rfl 81 (.tmp 2) (.tmp 239) rfl (w.heap.size+1) 0 #[.int .i64 (pick R.frm 73049),.int .i64 (pick R.mode 4+1),.int .i64 (aY (pick R.unit 5)),.slice ca3 n3 cc3,.slice ca4 n4 cc4,.slice ca5 n5 cc5,.slice ca6 n6 cc6,.slice ca7 n7 cc7] rfl rfl HTH.out kZ H1C.out ?_;rw [HZ.out])
   |go_values|go_skip|go_guarded|go_step|go_upon)
  refine bodyPost_ret (results_cell_row results36 _ _ (w.heap.size+1) 81 #[.int .i64 (pick R.frm 73049),.int .i64 (pick R.mode 4+1),.int .i64 (aY (pick R.unit 5)),.slice ca3 n3 cc3,.slice ca4 n4 cc4,.slice ca5 n5 cc5,.slice ca6 n6 cc6,.slice ca7 n7 cc7] (0,0) _ rfl HZB.out underlying81 rfl kZ) rfl ?_;exact ja.mk HT.out ⟨rfl,rfl,rfl⟩ HZL.out HZN.out HV.out ze
 ·have hb0:(R.twist !=0)=true:=by simp [ht0]
  by_cases ht8:R.twist.tmod 8=0
  ·have hb8:(R.twist.tmod 8==0)=true:=by simp [ht8]
   have HT:=zh (Qb ht0 ht8);have hq:IntKind.i64.wrap (R.twist.tdiv 8)=R.twist.tdiv 8:=Jf h4;have hp7:=dL (R.twist.tdiv 8) 7 ze;obtain⟨hp8,hp9⟩:=hp7;clear ht0 ht8;repeat(first|go_values|go_skip|go_guarded|go_step|go_upon)
   refine(bN _ _ _ ze).mono ?_;rintro e w' ⟨rfl,rfl⟩;dsimp only;repeat(first|go_values|go_skip|go_guarded|go_step|go_upon)
   refine(Fw (pick (R.twist.tdiv 8) 7) hp8 hp9 H1 g _ _ _ (fC R) (.slice ca3 n3 cc3) (.slice ca4 n4 cc4) (.slice ca5 n5 cc5) (.slice ca6 n6 cc6) (.slice ca7 n7 cc7) wc HOFR.out.out (F5 R) HV.out).mono ?_;rintro e w2 ⟨rfl,hb2,hv2⟩;dsimp only;have HO2:=zh (HOFR.out.kept (HOFR.out.bel.trans (Joins.below_le hb2 ze)) (fun k hk hk2=>hb2.block k ze));have HV2:=zh hv2;clear hb2 hv2;have H1C:Hid ((#[.int .i64 (pick R.frm 73049),.int .i64 (pick R.mode 4+1),.int .i64 (aY (pick R.unit 5)),.slice ca3 n3 cc3,.slice ca4 n4 cc4,.slice ca5 n5 cc5,.slice ca6 n6 cc6,.slice ca7 n7 cc7]:Array Value).all (·.oneCell')=true):=zh (all_oneCell_toArray (cs:=[.int .i64 (pick R.frm 73049),.int .i64 (pick R.mode 4+1),.int .i64 (aY (pick R.unit 5)),.slice ca3 n3 cc3,.slice ca4 n4 cc4,.slice ca5 n5 cc5,.slice ca6 n6 cc6,.slice ca7 n7 cc7]) yq);have HTH:=zh (jr HO2.out.res 8 rfl);have HZB:=zh (dF (#[.int .i64 (pick R.frm 73049),.int .i64 (pick R.mode 4+1),.int .i64 (aY (pick R.unit 5)),.slice ca3 n3 cc3,.slice ca4 n4 cc4,.slice ca5 n5 cc5,.slice ca6 n6 cc6,.slice ca7 n7 cc7]:Array Value).toList 0 w2 _ HO2.out.res);have HZL:=zh (below_setCells (Nat.le_succ w.heap.size) (#[.int .i64 (pick R.frm 73049),.int .i64 (pick R.mode 4+1),.int .i64 (aY (pick R.unit 5)),.slice ca3 n3 cc3,.slice ca4 n4 cc4,.slice ca5 n5 cc5,.slice ca6 n6 cc6,.slice ca7 n7 cc7]:Array Value).toList 0 w2 HO2.out.bel);have HZN:=zh (dY (b:=w.heap.size+1) (#[.int .i64 (pick R.frm 73049),.int .i64 (pick R.mode 4+1),.int .i64 (aY (pick R.unit 5)),.slice ca3 n3 cc3,.slice ca4 n4 cc4,.slice ca5 n5 cc5,.slice ca6 n6 cc6,.slice ca7 n7 cc7]:Array Value).toList 0 w2 (Next.refl _ _));generalize hwz:w2.setCells (w.heap.size+1) 0 (#[.int .i64 (pick R.frm 73049),.int .i64 (pick R.mode 4+1),.int .i64 (aY (pick R.unit 5)),.slice ca3 n3 cc3,.slice ca4 n4 cc4,.slice ca5 n5 cc5,.slice ca6 n6 cc6,.slice ca7 n7 cc7]:Array Value).toList=wz at HZB HZL HZN;have HZ:=zh hwz;clear hwz
   repeat(first
    |((with_reducible(show wpList _ _ _ (_::_) _ _));refine wpList_load_row rfl 81 _ rfl g rfl 81 _ _ _ HO2.out.out underlying81 rfl kZ ?_)
    |((with_reducible(show wpList _ _ _ (_::_) _ _));refine wpList_store_mid rfl 81 (.tmp 2) (.tmp 239) rfl (w.heap.size+1) 0 #[.int .i64 (pick R.frm 73049),.int .i64 (pick R.mode 4+1),.int .i64 (aY (pick R.unit 5)),.slice ca3 n3 cc3,.slice ca4 n4 cc4,.slice ca5 n5 cc5,.slice ca6 n6 cc6,.slice ca7 n7 cc7] rfl rfl HTH.out kZ H1C.out ?_;rw [HZ.out])
    |go_values|go_skip|go_guarded|go_step|go_upon)
   refine bodyPost_ret (results_cell_row results36 _ _ (w.heap.size+1) 81 #[.int .i64 (pick R.frm 73049),.int .i64 (pick R.mode 4+1),.int .i64 (aY (pick R.unit 5)),.slice ca3 n3 cc3,.slice ca4 n4 cc4,.slice ca5 n5 cc5,.slice ca6 n6 cc6,.slice ca7 n7 cc7] (0,0) _ rfl HZB.out underlying81 rfl kZ) rfl ?_;exact ja.mk HT.out (Cz _ _) HZL.out HZN.out HV2.out ze
  ·have hb8:(R.twist.tmod 8==0)=false:=by simp [ht8]
   have HT:=zh (Qc ht0 ht8);clear ht0 ht8;have H1C:Hid ((#[.int .i64 (pick R.frm 73049),.int .i64 (pick R.mode 4+1),.int .i64 (aY (pick R.unit 5)),.slice ca3 n3 cc3,.slice ca4 n4 cc4,.slice ca5 n5 cc5,.slice ca6 n6 cc6,.slice ca7 n7 cc7]:Array Value).all (·.oneCell')=true):=zh (all_oneCell_toArray (cs:=[.int .i64 (pick R.frm 73049),.int .i64 (pick R.mode 4+1),.int .i64 (aY (pick R.unit 5)),.slice ca3 n3 cc3,.slice ca4 n4 cc4,.slice ca5 n5 cc5,.slice ca6 n6 cc6,.slice ca7 n7 cc7]) yq);have HTH:=zh (jr HOFR.out.res 8 rfl);have HZB:=zh (dF (#[.int .i64 (pick R.frm 73049),.int .i64 (pick R.mode 4+1),.int .i64 (aY (pick R.unit 5)),.slice ca3 n3 cc3,.slice ca4 n4 cc4,.slice ca5 n5 cc5,.slice ca6 n6 cc6,.slice ca7 n7 cc7]:Array Value).toList 0 wc _ HOFR.out.res);have HZL:=zh (below_setCells (Nat.le_succ w.heap.size) (#[.int .i64 (pick R.frm 73049),.int .i64 (pick R.mode 4+1),.int .i64 (aY (pick R.unit 5)),.slice ca3 n3 cc3,.slice ca4 n4 cc4,.slice ca5 n5 cc5,.slice ca6 n6 cc6,.slice ca7 n7 cc7]:Array Value).toList 0 wc HOFR.out.bel);have HZN:=zh (dY (b:=w.heap.size+1) (#[.int .i64 (pick R.frm 73049),.int .i64 (pick R.mode 4+1),.int .i64 (aY (pick R.unit 5)),.slice ca3 n3 cc3,.slice ca4 n4 cc4,.slice ca5 n5 cc5,.slice ca6 n6 cc6,.slice ca7 n7 cc7]:Array Value).toList 0 wc (Next.refl _ _));generalize hwz:wc.setCells (w.heap.size+1) 0 (#[.int .i64 (pick R.frm 73049),.int .i64 (pick R.mode 4+1),.int .i64 (aY (pick R.unit 5)),.slice ca3 n3 cc3,.slice ca4 n4 cc4,.slice ca5 n5 cc5,.slice ca6 n6 cc6,.slice ca7 n7 cc7]:Array Value).toList=wz at HZB HZL HZN;have HZ:=zh hwz;clear hwz
   repeat(first
    |((with_reducible(show wpList _ _ _ (_::_) _ _));refine wpList_load_row rfl 81 _ rfl g rfl 81 _ _ _ HOFR.out.out underlying81 rfl kZ ?_)
    |((with_reducible(show wpList _ _ _ (_::_) _ _));refine wpList_store_mid rfl 81 (.tmp 2) (.tmp 239) rfl (w.heap.size+1) 0 #[.int .i64 (pick R.frm 73049),.int .i64 (pick R.mode 4+1),.int .i64 (aY (pick R.unit 5)),.slice ca3 n3 cc3,.slice ca4 n4 cc4,.slice ca5 n5 cc5,.slice ca6 n6 cc6,.slice ca7 n7 cc7] rfl rfl HTH.out kZ H1C.out ?_;rw [HZ.out])
    |go_values|go_skip|go_guarded|go_step|go_upon)
   refine bodyPost_ret (results_cell_row results36 _ _ (w.heap.size+1) 81 #[.int .i64 (pick R.frm 73049),.int .i64 (pick R.mode 4+1),.int .i64 (aY (pick R.unit 5)),.slice ca3 n3 cc3,.slice ca4 n4 cc4,.slice ca5 n5 cc5,.slice ca6 n6 cc6,.slice ca7 n7 cc7] (0,0) _ rfl HZB.out underlying81 rfl kZ) rfl ?_;exact ja.mk HT.out ⟨rfl,rfl,rfl⟩ HZL.out HZN.out HV.out ze
end Go.Proofs.YtlheailebbngiaaGreatDoor
