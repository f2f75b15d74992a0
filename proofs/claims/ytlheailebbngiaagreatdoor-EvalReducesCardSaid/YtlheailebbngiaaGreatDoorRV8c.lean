import Derived.Test.YtlheailebbngiaaGreatDoorRV8a
set_option linter.all false
set_option maxHeartbeats 16000000
set_option maxRecDepth 1000000
namespace Go.Proofs.YtlheailebbngiaaGreatDoor
open Go.Proofs.Tryz List
open Go.RowKit
def FX(l:List Val):List Value:=l.flatMap fun x=>[.int .i64 x.dim,.bool x.yes,.int .i64 x.n,.int .i64 x.d]
theorem FW(l:List Val)(x:Val):FX (l++[x])=FX l++[.int .i64 x.dim,.bool x.yes,.int .i64 x.n,.int .i64 x.d]:=by
 unfold FX;simp
def kS(v:Vw)(env:List (ByteArray × Val))(e:Ex):List Val:=e.args.map fun x=>(ai v env x).1
theorem lw(v:Vw)(env:List (ByteArray × Val))(e:Ex)(k:Nat)(hk:k<e.args.length):(kS v env e).take (k+1)=(kS v env e).take k++[(ai v env (e.arg k)).1]:=by
 unfold kS Ex.arg;rw [take_succ_eq_append_getElem (by simpa using hk),getElem_map,getD_eq_getElem?_getD,getElem?_eq_getElem hk];rfl
theorem Rk:(prog.info? 34).map (fun i=>(i.zero,i.size,i.bytes))=some (some (.agg #[.int .i64 0,.bool false,.int .i64 0,.int .i64 0]),4,32):=by kernel_rfl
theorem Al{w:World}{base:Nat}{t:TypeId}{v:Value}{k:Nat}{xs:List Value}(h:w.ownsRow base t 4 v k xs):(v= .slice none 0 0/\k=0)\/∃g cap,v= .slice (some ⟨g,0,none⟩) k cap/\base<=g/\g<w.heap.size:=by
 exact QO
theorem Ma{v:Vw}{env:List (ByteArray × Val)}{e:Ex}(h4:4<=e.op)(h20:e.op<=20)(h17:¬e.op=17)(h18:¬e.op=18)(hlen:e.args.length=1/\e.op<=6\/e.args.length=2/\7<=e.op) :
 ∀k,k<e.args.length->(∀j,j<k->(ai v env (e.arg j)).2=0)->(ai v env (e.arg k)).2≠0->ai v env e=(.zero,(ai v env (e.arg k)).2):=by
 intro k hk hj hb;have e0:(gu v env e.args).getD 0 (.zero,0)=ai v env (e.arg 0):=cz v env e.args 0 ze;rw [dR];unfold eG;rw [e0];dsimp only;rw [if_neg (show ¬e.op=1 by omega),if_neg (show ¬e.op=2 by omega),if_neg (show ¬e.op=3 by omega)];rcases(show k=0\/k=1 by omega)with rfl|rfl
 ·rw [if_pos hb]
 ·have e1:(gu v env e.args).getD 1 (.zero,0)=ai v env (e.arg 1):=cz v env e.args 1 ze;have h0:=hj 0 ze;rw [e1,if_neg ze,if_neg h17,if_neg h18,if_neg (show ¬e.op=21 by omega),if_neg (show ¬e.op<=6 by omega),if_pos hb]
theorem L9{v:Vw}{env:List (ByteArray × Val)}{e:Ex}(h4:4<=e.op)(h6:e.op<=6)(hlen:e.args.length=1)(h0:(ai v env (e.arg 0)).2=0):ai v env e=op1 e.op (ai v env (e.arg 0)).1:=by
 have e0:(gu v env e.args).getD 0 (.zero,0)=ai v env (e.arg 0):=cz v env e.args 0 ze;rw [dR];unfold eG;rw [e0];dsimp only;rw [if_neg (show ¬e.op=1 by omega),if_neg (show ¬e.op=2 by omega),if_neg (show ¬e.op=3 by omega),if_neg ze,if_neg (show ¬e.op=17 by omega),if_neg (show ¬e.op=18 by omega),if_neg (show ¬e.op=21 by omega),if_pos h6]
theorem L8{v:Vw}{env:List (ByteArray × Val)}{e:Ex}(h7:7<=e.op)(h20:e.op<=20)(h17:¬e.op=17)(h18:¬e.op=18)(hlen:e.args.length=2)(h0:(ai v env (e.arg 0)).2=0)(h1:(ai v env (e.arg 1)).2=0):ai v env e=op2 e.op (ai v env (e.arg 0)).1 (ai v env (e.arg 1)).1:=by
 have e0:(gu v env e.args).getD 0 (.zero,0)=ai v env (e.arg 0):=cz v env e.args 0 ze;have e1:(gu v env e.args).getD 1 (.zero,0)=ai v env (e.arg 1):=cz v env e.args 1 ze;rw [dR];unfold eG;rw [e0,e1];dsimp only;rw [if_neg (show ¬e.op=1 by omega),if_neg (show ¬e.op=2 by omega),if_neg (show ¬e.op=3 by omega),if_neg ze,if_neg h17,if_neg h18,if_neg (show ¬e.op=21 by omega),if_neg (show ¬e.op<=6 by omega),if_neg ze]
theorem Jw{v:Vw}{env:List (ByteArray × Val)}{e:Ex}(h4:4<=e.op)(h20:e.op<=20)(h17:¬e.op=17)(h18:¬e.op=18)(hlen:e.args.length=1/\e.op<=6\/e.args.length=2/\7<=e.op){ds:List Int}(hds:e.args.length=ds.length)(hres:ax e.op ds≠0)
 (hok:∀k,k<e.args.length->okR (ds.getD k 0) (ai v env (e.arg k))) (hall:∀j,j<e.args.length->(ai v env (e.arg j)).2=0) {base g cap:Nat} {w:World} (ho:w.ownsRow base 34 4 (.slice (some ⟨g,0,none⟩) e.args.length cap) e.args.length (FX (kS v env e))) :
 Calls prog 120 #[.int .i64 e.op,.slice (some ⟨g,0,none⟩) e.args.length cap] w (ApP (ai v env e) w):=by
 have hg:g<w.heap.size:=by
  rcases Al ho with ⟨hx,-⟩|⟨g',c',hx,-,hx2⟩
  ·cases hx
  ·simp only [Value.slice.injEq,Option.some.injEq,Addr.mk.injEq,and_true,true_and]at hx;obtain⟨rfl,-⟩:=hx;exact hx2
 have hc:∀i u,(FX (kS v env e))[i]? =some u->w.cell? ⟨g,i,none⟩=some u:=fun i u hu=>by
  have:=World.ownsRow.cells (g:=g) ho rfl i u hu
  rwa [addr_add]at this
 obtain⟨l,hl⟩:∃l,e.args=l:=⟨_,rfl⟩;rcases hlen with ⟨hl1,h6⟩|⟨hl2,h7⟩
 ·have g0:=(hok 0 ze).good (hall 0 ze);obtain⟨d0,rfl⟩:∃d,ds= [d]:=length_eq_one_iff.1 ze;have hd:(ai v env (e.arg 0)).1.dim=d0:=g0.2;rw [L9 h4 h6 hl1 (hall 0 ze),hl1]
  have hv:kS v env e= [(ai v env (e.arg 0)).1]:=by
   have:=lw v env e 0 ze;rw [take_of_length_le (by unfold kS;rw [length_map];omega)]at this;simpa using this
  rw [hv]at hc;exact EE e.op _ g 0 cap w g0.1 h4 h6 (by rw [hd];exact hres) hg (hc 0 _ rfl) (hc 1 _ rfl) (hc 2 _ rfl) (hc 3 _ rfl)
 ·have g0:=(hok 0 ze).good (hall 0 ze);have g1:=(hok 1 ze).good (hall 1 ze)
  obtain⟨d0,d1,rfl⟩:∃d d',ds= [d,d']:=by
   match ds,hds with
   | [d,d'],_=>exact⟨d,d',rfl⟩
   | [],h=>rw [hl2]at h;simp at h
   | [_],h=>rw [hl2]at h;simp at h
   |_::_::_::_,h=>rw [hl2]at h;simp at h
  have hd:(ai v env (e.arg 0)).1.dim=d0:=g0.2;have hd1:(ai v env (e.arg 1)).1.dim=d1:=g1.2;rw [L8 h7 h20 h17 h18 hl2 (hall 0 ze) (hall 1 ze),hl2]
  have hv:kS v env e= [(ai v env (e.arg 0)).1,(ai v env (e.arg 1)).1]:=by
   have t0:=lw v env e 0 ze;have t1:=lw v env e 1 ze;rw [take_of_length_le (by unfold kS;rw [length_map];omega)]at t1;rw [t1,t0];simp
  rw [hv]at hc;exact ED e.op _ _ g 0 cap w g0.1 g1.1 ze (by rw [hd,hd1];exact hres) hg (hc 0 _ rfl) (hc 1 _ rfl) (hc 2 _ rfl) (hc 3 _ rfl) (hc 4 _ rfl) (hc 5 _ rfl) (hc 6 _ rfl) (hc 7 _ rfl)
theorem Qw(S:Nat->Prop)(v:Vw)(y se:Value)(env:List (ByteArray × Val))(e:Ex)(a:Option Addr)(cap:Nat)(w:World)(h:aC S w e (.slice a e.args.length cap))(hy:bK w y v.years)(hs:aV w se env)
 (h4:4<=e.op) (h20:e.op<=20) (h17:¬e.op=17) (h18:¬e.op=18) (ds:List Int) (hds:e.args.length=ds.length) (hal:(ds.length:Int)=bi e.op) (hres:ax e.op ds≠0)
 (hok:∀k,k<e.args.length->okR (ds.getD k 0) (ai v env (e.arg k))) (HA:Hid (∀k,k<e.args.length->vw S v y se (e.arg k) (ai v env (e.arg k)) w)):(Calls prog 70 #[exV e (.slice a e.args.length cap),vwV v y,se] w (ApP (ai v env e) w)):=by
 obtain⟨i0,hi,hz0,hz1,hz2⟩:=info_parts Rk
 have hlen:e.args.length=1/\e.op<=6\/e.args.length=2/\7<=e.op:=by
  rw [hds];unfold bi at hal;by_cases h6:e.op<=6
  ·rw [if_neg ze,if_pos ze]at hal;omega
  ·rw [if_neg ze,if_neg ze,if_pos ze]at hal;omega
 have HLN:=zh hlen;have hl2:e.args.length<=2:=by omega
 have HREP:=zh h;have HOK:=zh hok;have HRES:=zh hres;have HDS:=zh hds;have HBADV:Hid (∀k,k<e.args.length->(∀j,j<k->(ai v env (e.arg j)).2=0)->(ai v env (e.arg k)).2≠0->ai v env e=(.zero,(ai v env (e.arg k)).2)):=zh (Ma h4 h20 h17 h18 hlen);have o1:(e.op==1)=false:=by simp;omega
 have o2:(e.op==2)=false:=by simp;omega
 have o3:(e.op==3)=false:=by simp;omega
 have o17:(e.op==17)=false:=by simp;omega
 have o18:(e.op==18)=false:=by simp;omega
 have o21:(e.op==21)=false:=by simp;omega
 have H46:=zh (show 4<=e.op/\e.op<=20/\¬e.op=17/\¬e.op=18 from⟨h4,h20,h17,h18⟩);unfold vw at HA
 obtain⟨ya,yc,rfl⟩:∃a c,y= .slice a v.years.length c:=by
  exact xQ
 obtain⟨sa,sc,rfl⟩:∃a c,se= .slice a env.length c:=by
  exact xP
 unfold vwV exV;unfold vwV at HA;obtain⟨b,off,rfl,hb,-⟩:=h.arg_cells ze;clear hy hs h hok hres hds hlen hal h4 h20 h17 h18
 go_enter func70,ntmps70
 go_wp2_with fail
 go_loopw [17,18] (fun v17 v18 wr=>∃(k:Nat) (vb:Value),vb=v17/\k<=e.args.length/\v18= .int .i64 k/\Hid (∀j,j<k->(ai v env (e.arg j)).2=0)/\Below (w.heap.size+1+1+1) ((((w.alloc (.cells #[.int .i64 e.op,.int .i64 e.num,.int .i64 e.den,.int .i64 e.dim,.string e.name,.slice (some ⟨b,off,none⟩) e.args.length cap] 51)).alloc (.cells #[.int .i64 v.age,.int .i64 v.year,.int .i64 v.children,.int .i64 v.insured,.int .i64 v.worked,.int .i64 v.voluntary,.int .i64 v.service,.int .i64 v.equated,.int .i64 v.raising,.int .i64 v.resident,.int .i64 v.bn,.int .i64 v.bd,.slice ya v.years.length yc] 26)).alloc (.cells #[.int .i64 0,.bool false,.int .i64 0,.int .i64 0] 34))) wr/\wr.ownsRow (w.heap.size+1+1+1) 34 4 vb k (FX ((kS v env e).take k))) (fun _ v18 _=>e.args.length-(intOf v18).toNat)
 case atStart=>exact⟨0,_,rfl,by omega,rfl,zh (fun j hj=>by omega),.refl _ _,World.ownsRow_nil _ _ _ _⟩
 case round=>
  obtain⟨k,vb,rfl,hk,rfl,hno,hB,hown⟩:=hrel;have HO:=zh hown;have hvf:=Al hown;obtain⟨bs0,d0,rfl⟩:World.Grows ((((w.alloc (.cells #[.int .i64 e.op,.int .i64 e.num,.int .i64 e.den,.int .i64 e.dim,.string e.name,.slice (some ⟨b,off,none⟩) e.args.length cap] 51)).alloc (.cells #[.int .i64 v.age,.int .i64 v.year,.int .i64 v.children,.int .i64 v.insured,.int .i64 v.worked,.int .i64 v.voluntary,.int .i64 v.service,.int .i64 v.equated,.int .i64 v.raising,.int .i64 v.resident,.int .i64 v.bn,.int .i64 v.bd,.slice ya v.years.length yc] 26)).alloc (.cells #[.int .i64 0,.bool false,.int .i64 0,.int .i64 0] 34))) wr:=.of_below (by simpa using hB);clear hB hown;by_cases hlt:k<e.args.length
  ·obtain⟨ak,ck,hpk,x0,x1,x2,x3,x4,x5⟩:=qQ HREP.out rfl k hlt;simp only [<-Nat.add_assoc]at x1 x2 x3 x4 x5;have d1:(k:Int)<(e.args.length:Int):=by omega
   have HPK:=zh hpk;have HK:=zh (HA.out k hlt);have HNX:=zh (lw v env e k hlt);have HBV:=HBADV.out k hlt hno.out;have HZ:=HOK.out k hlt
   have HNO0:Hid ((ai v env (e.arg k)).2=0->∀j,j<k+1->(ai v env (e.arg j)).2=0):=zh (fun h j hj=>by
    by_cases ej:j=k
    ·subst ej;exact h
    ·exact hno.out j ze)
   generalize ai v env (e.arg k)=rk at HK HNX HBV HZ HNO0;obtain⟨⟨mk,qk,nk,dk⟩,rc⟩:=rk;dsimp only at HK HNX HBV HNO0;have HKL:=zh hlt;clear hpk hvf;by_cases hc:rc=0
   ·subst hc;have HNO:Hid (Hid (∀j,j<k+1->(ai v env (e.arg j)).2=0)):=zh (zh (HNO0.out rfl));clear HBV HZ HNO0 hno hlt
    go_wp2_with fail
    refine TS.begin [13] (World.Grows _) zf zf aG (fun hS=>?_);refine TS.wkB 0 hS ?_;refine TS.wkB 1 hS ?_;refine TS.wkB 2 hS ?_;refine TS.wkB 3 hS ?_;refine TS.wkB 4 hS ?_;refine TS.wkB 5 hS ?_;refine TS.wkB 6 hS ?_;refine TS.two (i:=7) (k:=11) zq rfl rfl (fun K1 hK1=>?_) (fun K1 hK1=>?_)
    focus
     have HK1:=zh hK1;clear hK1 hS;dsimp only [getElem_toArray,getElem_cons_succ,getElem_cons_zero]
     go_simp
     go_at_call 70
     refine(HK.out _ aj _ _ (HPK.out.grows aj)).mono ?_;rintro e' wA ⟨rfl,bA,dA,rfl⟩;refine TS.go HK1.out aj (fun hS=>?_);clear HK1 K1
     (try simp only [nS])
     refine TS.wkB 8 hS ?_;refine TS.wkB 9 hS ?_;refine TS.wkB 10 hS ?_;refine TS.one (i:=11) zq rfl (fun K1 hK1=>?_);have HK1:=zh hK1;clear hK1 hS;dsimp only [getElem_toArray,getElem_cons_succ,getElem_cons_zero]
     go_simp
     refine TS.go HK1.out aj (fun hS=>?_);clear HK1 K1
     (try simp only [nS])
     refine TS.one (i:=12) zq rfl (fun K1 hK1=>?_);have HK1:=zh hK1;clear hK1 hS;dsimp only [getElem_toArray,getElem_cons_succ,getElem_cons_zero]
     go_simp
     refine TS.go HK1.out aj (fun hS=>?_);clear HK1 K1
     (try simp only [nS])
     refine TS.weB 13 ?_;clear hS
     go_wp2_with (at_builtin;refine wpList_append_own _ rfl _ _ 180 rfl (w.heap.size+1+1+1) 34 i0 _ 4 32 underlying180 hi hz0 hz1 hz2 rfl zo _ _ _ rfl (bL HO.out aj) ⟨w.heap.size+1+1+1+(bs0.size+bA.size)+1,0,none⟩ 1 1 [.int .i64 mk,.bool qk,.int .i64 nk,.int .i64 dk] rfl rfl ?c1 ?c2 ?c3 ?c4 ?c5 ?_)
     case c1=>exact aK _ [.int .i64 mk,.bool qk,.int .i64 nk,.int .i64 dk] _ _ zg
     case c2=>intro u hu;simp at hu;rcases hu with rfl|rfl|rfl|rfl<;>rfl
     case c3=>unfold maxLen;omega
     case c4=>omega
     case c5=>simp;try omega
    rotate_left
    focus
     have HK1:=zh hK1;clear hK1 hS;dsimp only [getElem_toArray,getElem_cons_succ,getElem_cons_zero]
     go_simp
     refine TS.go HK1.out aj (fun hS=>?_);clear HK1 K1
     (try simp only [nS])
     refine TS.one (i:=7) zq rfl (fun K1 hK1=>?_);have HK1:=zh hK1;clear hK1 hS;dsimp only [getElem_toArray,getElem_cons_succ,getElem_cons_zero]
     go_simp
     go_at_call 70
     refine(HK.out _ aj _ _ (HPK.out.grows aj)).mono ?_;rintro e' wA ⟨rfl,bA,dA,rfl⟩;refine TS.go HK1.out aj (fun hS=>?_);clear HK1 K1
     (try simp only [nS])
     refine TS.wkB 8 hS ?_;refine TS.wkB 9 hS ?_;refine TS.wkB 10 hS ?_;refine TS.one (i:=12) zq rfl (fun K1 hK1=>?_);have HK1:=zh hK1;clear hK1 hS;dsimp only [getElem_toArray,getElem_cons_succ,getElem_cons_zero]
     go_simp
     refine TS.go HK1.out aj (fun hS=>?_);clear HK1 K1
     (try simp only [nS])
     refine TS.weB 13 ?_;clear hS
     go_wp2_with (at_builtin;refine wpList_append_own _ rfl _ _ 180 rfl (w.heap.size+1+1+1) 34 i0 _ 4 32 underlying180 hi hz0 hz1 hz2 rfl zo _ _ _ rfl (bL HO.out aj) ⟨w.heap.size+1+1+1+bs0.size+1+bA.size,0,none⟩ 1 1 [.int .i64 mk,.bool qk,.int .i64 nk,.int .i64 dk] rfl rfl ?c1 ?c2 ?c3 ?c4 ?c5 ?_)
     case c1=>exact aK _ [.int .i64 mk,.bool qk,.int .i64 nk,.int .i64 dk] _ _ zg
     case c2=>intro u hu;simp at hu;rcases hu with rfl|rfl|rfl|rfl<;>rfl
     case c3=>unfold maxLen;omega
     case c4=>omega
     case c5=>simp;try omega
    rotate_left
    all_goals
     intro v' w1 hown' hgrow _;have HB1:=zh ((show Below (w.heap.size+1+1+1) ((((w.alloc (.cells #[.int .i64 e.op,.int .i64 e.num,.int .i64 e.den,.int .i64 e.dim,.string e.name,.slice (some ⟨b,off,none⟩) e.args.length cap] 51)).alloc (.cells #[.int .i64 v.age,.int .i64 v.year,.int .i64 v.children,.int .i64 v.insured,.int .i64 v.worked,.int .i64 v.voluntary,.int .i64 v.service,.int .i64 v.equated,.int .i64 v.raising,.int .i64 v.resident,.int .i64 v.bn,.int .i64 v.bd,.slice ya v.years.length yc] 26)).alloc (.cells #[.int .i64 0,.bool false,.int .i64 0,.int .i64 0] 34))) _ from by(exact ag)).grown hgrow zB (fun k hk=>(HO.out.lt k hk).1));have HO1:=zh hown';clear hown' hgrow
     go_wp2_with fail
     go_roundw
     case rel=>exact⟨k+1,_,rfl,HKL.out,by go_num,HNO.out,HB1.out,by rw [HNX.out,FW];exact HO1.out⟩
     case measure=>simp [intOf];have:=HKL.out;omega
   ·have hzz:=(HZ.bad hc).1;simp only [Val.zero,Val.mk.injEq]at hzz;obtain⟨rfl,rfl,rfl,rfl⟩:=hzz;have HV:=zh (HBV hc);have hq1:(rc !=0)=true:=by simpa using hc
    clear hc HBV HZ HNO0 hno hlt
    go_wp2_with fail
    refine TS.begin [13] (World.Grows _) zf zf aG (fun hS=>?_);refine TS.wkB 0 hS ?_;refine TS.wkB 1 hS ?_;refine TS.wkB 2 hS ?_;refine TS.wkB 3 hS ?_;refine TS.wkB 4 hS ?_;refine TS.wkB 5 hS ?_;refine TS.wkB 6 hS ?_;refine TS.two (i:=7) (k:=11) zq rfl rfl (fun K1 hK1=>?_) (fun K1 hK1=>?_)
    focus
     have HK1:=zh hK1;clear hK1 hS;dsimp only [getElem_toArray,getElem_cons_succ,getElem_cons_zero]
     go_simp
     go_at_call 70
     refine(HK.out _ aj _ _ (HPK.out.grows aj)).mono ?_;rintro e' wA ⟨rfl,bA,dA,rfl⟩;refine TS.go HK1.out aj (fun hS=>?_);clear HK1 K1
     (try simp only [nS])
     refine TS.wkB 8 hS ?_;refine TS.wkB 9 hS ?_;refine TS.wkB 10 hS ?_;refine TS.one (i:=11) zq rfl (fun K1 hK1=>?_);have HK1:=zh hK1;clear hK1 hS;dsimp only [getElem_toArray,getElem_cons_succ,getElem_cons_zero]
     go_simp
     refine TS.go HK1.out aj (fun hS=>?_);clear HK1 K1
     (try simp only [nS])
    rotate_left
    focus
     have HK1:=zh hK1;clear hK1 hS;dsimp only [getElem_toArray,getElem_cons_succ,getElem_cons_zero]
     go_simp
     refine TS.go HK1.out aj (fun hS=>?_);clear HK1 K1
     (try simp only [nS])
     refine TS.one (i:=7) zq rfl (fun K1 hK1=>?_);have HK1:=zh hK1;clear hK1 hS;dsimp only [getElem_toArray,getElem_cons_succ,getElem_cons_zero]
     go_simp
     go_at_call 70
     refine(HK.out _ aj _ _ (HPK.out.grows aj)).mono ?_;rintro e' wA ⟨rfl,bA,dA,rfl⟩;refine TS.go HK1.out aj (fun hS=>?_);clear HK1 K1
     (try simp only [nS])
     refine TS.wkB 8 hS ?_;refine TS.wkB 9 hS ?_;refine TS.wkB 10 hS ?_
    rotate_left
    all_goals
     refine TS.one (i:=12) zq rfl (fun K1 hK1=>?_);have HK1:=zh hK1;clear hK1 hS;dsimp only [getElem_toArray,getElem_cons_succ,getElem_cons_zero]
     go_simp
     refine TS.go HK1.out aj (fun hS=>?_);clear HK1 K1
     (try simp only [nS])
     refine TS.weB 13 ?_;clear hS
     go_wp2_with fail
     go_returns
     exact⟨by rw [HV.out];rfl,aj⟩
  ·obtain rfl:k=e.args.length:=by omega
   obtain⟨g,gc,rfl⟩:∃g c,vb= .slice (some ⟨g,0,none⟩) e.args.length c:=by
    rcases hvf with ⟨-,h0⟩|⟨g,c,rfl,-⟩
    ·have:=HLN.out;omega
    ·exact⟨g,c,rfl⟩
   have hta:(kS v env e).take e.args.length=kS v env e:=take_of_length_le (by unfold kS;rw [length_map];exact Nat.le_refl _);rw [hta]at HO;have HAP:=zh (fun w' (hg:World.Grows (((((w.alloc (.cells #[.int .i64 e.op,.int .i64 e.num,.int .i64 e.den,.int .i64 e.dim,.string e.name,.slice (some ⟨b,off,none⟩) e.args.length cap] 51)).alloc (.cells #[.int .i64 v.age,.int .i64 v.year,.int .i64 v.children,.int .i64 v.insured,.int .i64 v.worked,.int .i64 v.voluntary,.int .i64 v.service,.int .i64 v.equated,.int .i64 v.raising,.int .i64 v.resident,.int .i64 v.bn,.int .i64 v.bd,.slice ya v.years.length yc] 26)).alloc (.cells #[.int .i64 0,.bool false,.int .i64 0,.int .i64 0] 34))).grow bs0 d0) w')=>Jw H46.out.1 H46.out.2.1 H46.out.2.2.1 H46.out.2.2.2 HLN.out HDS.out HRES.out HOK.out hno.out (bL HO.out hg));unfold ApP at HAP;clear hvf hta hno hlt
   go_wp2_with (go_at_call 120;refine(HAP.out _ aj).mono ?_;rintro e' w' ⟨rfl,bs,d,rfl⟩)
   go_returns
   exact⟨rfl,aj⟩
theorem Qx{S:Nat->Prop}{v:Vw}{y se:Value}{env:List (ByteArray × Val)}{x:Ex}{w:World}(h:∀(a:Option Addr) (cap:Nat) (w':World),w.Grows w'->aC S w' x (.slice a x.args.length cap)->Calls prog 70 #[exV x (.slice a x.args.length cap),vwV v y,se] w' (ApP (ai v env x) w')):Hid (vw S v y se x (ai v env x) w):=
 zh fun w' hg a c hr=>h a c w' hg hr
theorem Ak(S:Nat->Prop)(v:Vw)(hv:v.ok=true)(hrg:dN v)(y se:Value)(env:List (ByteArray × Val))(hE:∀p∈env,p.2.ok=true)(n:Nat):∀e:Ex,e.size<=n->aN e=true->(aD (aR env) e).2=0->∀(a:Option Addr) (cap:Nat) (w:World),aC S w e (.slice a e.args.length cap)->bK w y v.years->aV w se env->
 (Calls prog 70 #[exV e (.slice a e.args.length cap),vwV v y,se] w (ApP (ai v env e) w)):=by
 induction n with
 |zero=>intro e he;have:=e.size_pos;omega
 |succ n ih=>
  intro e he hf hi a cap w h hy hs;by_cases h1:e.op=1
  ·exact Pj v y se env e a cap w hy hs h1
  by_cases h3:e.op=3
  ·exact Md v y se env e a cap w hy hs h3
  by_cases h2:e.op=2
  ·cases hx:dF v e.name with
   |some x=>exact Jv v y se env e a cap w hrg hy hs h2 x hx
   |none=>
    have hn:(eH (aR env) e.name).2=0:=by
     rw [iK]at hi;unfold fA at hi;rw [if_neg h1,if_neg h3,if_pos h2]at hi;exact hi
    have hnm:=um hv hE hn;unfold jY at hnm;rw [hx]at hnm;dsimp only at hnm
    cases hl:dP env e.name with
    |some x=>exact Pk v y se env e a cap w hrg hy hs h2 x hx hl
    |none=>rw [hl]at hnm;simp at hnm
  obtain⟨ds,hds,hal,ho4,ho21,hres,hop⟩:=Ar hv hE hf hi h1 h2 h3
  have IH:∀k,k<e.args.length->Hid (vw S v y se (e.arg k) (ai v env (e.arg k)) w):=fun k hk=>Qx fun a' c' w' hg hr=>
   ih (e.arg k) (by have:=e.size_arg k hk;omega) (hop k hk).1 (hop k hk).2.1 a' c' w' hr (hy.grows hg) (hs.grows hg)
  by_cases h17:e.op=17\/e.op=18
  ·have hlen:e.args.length=2:=by
    unfold bi at hal;rw [if_neg ze,if_neg ze,if_pos ze]at hal;omega
   exact Ju S v y se env e a cap w h hy hs h17 hlen _ _ rfl rfl (fun hz=>((hop 0 ze).2.2.bad hz).1) (IH 0 ze) (IH 1 ze)
  by_cases h21:e.op=21
  ·have hlen:e.args.length=3:=by
    unfold bi at hal;rw [if_neg ze,if_neg ze,if_neg ze,if_pos ze]at hal;omega
   exact Qy S v y se env e a cap w h hy hs h21 hlen _ _ _ rfl rfl rfl (fun hz=>((hop 0 ze).2.2.bad hz).1) (IH 0 ze) (IH 1 ze) (IH 2 ze)
  exact Qw S v y se env e a cap w h hy hs ho4 ze ze ze ds hds hal hres (fun k hk=>(hop k hk).2.2) (zh fun k hk=>(IH k hk).out)
theorem Ep(v:Vw)(y se:Value)(env:List (ByteArray × Val))(e:Ex)(a:Option Addr)(cap:Nat)(w:World)(hy:bK w y v.years)(hr:dN v)(hs:aV w se env)(hv:v.ok=false) :
 Calls prog 30 #[exV e (.slice a e.args.length cap),vwV v y,se] w (vH (dQ v env e) w):=by
 have HF:Hid (dQ v env e=(.zero,1)):=zh (by unfold dQ;rw [if_pos (.inl hv)]);rw [HF.out];have HY:=zh hy;have HV:=zh (fun w' (hg:w.Grows w')=>eF v y w' hr (HY.out.grows hg));rw [hv]at HV
 obtain⟨ya,yc,rfl⟩:∃a c,y= .slice a v.years.length c:=by
  exact xQ
 obtain⟨sa,sc,rfl⟩:∃a c,se= .slice a env.length c:=by
  exact xP
 unfold vwV exV;unfold vwV at HV;clear hy hr hs hv HF
 go_enter func30,ntmps30
 go_wp2_with (go_at_call 21;refine(HV.out _ aj).mono ?_;rintro e' w' ⟨rfl,bs,d,rfl⟩)
 go_returns
 exact yU rfl aj
theorem KP(S:Nat->Prop)(v:Vw)(y se:Value)(env:List (ByteArray × Val))(e:Ex)(a:Option Addr)(cap:Nat)(w:World)(h:aC S w e (.slice a e.args.length cap))(hbig:e.size<=2305843009213693952)(hy:bK w y v.years)(hr:dN v)(hs:aV w se env)(hS:∀p∈env,vV p.2)(hv:v.ok=true) :
 Calls prog 30 #[exV e (.slice a e.args.length cap),vwV v y,se] w (vH (dQ v env e) w):=by
 obtain⟨i0,hi,hz0,hz1,hz2⟩:=info_parts Fj;have HR:=zh h;have HY:=zh hy;have HS:=zh hs;have HSR:=zh hS;have HV:=zh (fun w' (hg:w.Grows w')=>eF v y w' hr (HY.out.grows hg));rw [hv]at HV;have HBAD:Hid (∀k,k<env.length->(stV env k).ok=false->dQ v env e=(.zero,1)):=zh (fun k hk hb=>by unfold dQ;rw [if_pos (.inr (.inl (Fz hk hb)))])
 have HINF:Hid (∀w' vb,w.Grows w'->aW w' vb (aR env)->Calls prog 69 #[exV e (.slice a e.args.length cap),vb] w' (jl (aT (aR env) e) w')):=
  zh (fun w' vb hg hb=>oJ S (aR env) e _ vb w' (HR.out.grows hg) hbig hb)
 have HGOOD:=zh (fun hE=>xA (v:=v) (env:=env) (e:=e) hv hE)
 have HEV:Hid ((∀p∈env,p.2.ok=true)->(aT (aR env) e).2=0->(∀w',w.Grows w'->Calls prog 70 #[exV e (.slice a e.args.length cap),vwV v y,se] w' (ApP (ai v env e) w'))/\((ai v env e).2≠0->(ai v env e).1= .zero)):=
  zh (fun hE hi=>by
   have hvb:cZ e=true:=by
    unfold aT at hi
    split at hi<;>rename_i hc
    ·exact hc.1
    ·simp at hi
   have hi2:(aD (aR env) e).2=0:=by rwa [lq hvb (yV hE)]at hi
   exact⟨fun w' hg=>Ak S v hv hr y se env hE e.size e (Nat.le_refl _) (gW hvb) hi2 a cap w' (HR.out.grows hg) (HY.out.grows hg) (HS.out.grows hg),fun hz=>((lZ hv hE e (gW hvb) hi2).bad hz).1⟩)
 have h1000:=hs.1
 obtain⟨ya,yc,rfl⟩:∃a c,y= .slice a v.years.length c:=by
  exact xQ
 obtain⟨sa,sc,rfl⟩:∃a c,se= .slice a env.length c:=by
  exact xP
 unfold vwV exV;clear h hy hr hs hS hv hbig;unfold vwV at HV;unfold ApP exV vwV at HEV;unfold jl exV at HINF
 go_enter func30,ntmps30
 go_wp2_with (go_at_call 21;refine(HV.out _ aj).mono ?_;rintro e' w' ⟨rfl,bs,d,rfl⟩)
 go_loopw [8,9] (fun v8 v9 wr=>∃(k:Nat) (vb:Value),vb=v8/\k<=env.length/\v9= .int .i64 k/\Hid (∀j,j<k->(stV env j).ok=true)/\Below (w.heap.size+1+1+1) ((((w.alloc (.cells #[.int .i64 e.op,.int .i64 e.num,.int .i64 e.den,.int .i64 e.dim,.string e.name,.slice a e.args.length cap] 51)).alloc (.cells #[.int .i64 v.age,.int .i64 v.year,.int .i64 v.children,.int .i64 v.insured,.int .i64 v.worked,.int .i64 v.voluntary,.int .i64 v.service,.int .i64 v.equated,.int .i64 v.raising,.int .i64 v.resident,.int .i64 v.bn,.int .i64 v.bd,.slice ya v.years.length yc] 26)).alloc (.cells #[.int .i64 0,.bool false,.int .i64 0,.int .i64 0] 34))) wr/\wr.ownsRow (w.heap.size+1+1+1) 64 2 vb k (nT (aR (env.take k)))) (fun _ v9 _=>env.length-(intOf v9).toNat)
 case atStart=>exact⟨0,_,rfl,by omega,rfl,zh (fun j hj=>by omega),by(exact ag),World.ownsRow_nil _ _ _ _⟩
 case round=>
  obtain⟨k,vb,rfl,hk,rfl,hno,hB,hown⟩:=hrel;have HO:=zh hown;obtain⟨bs0,d0,rfl⟩:World.Grows ((((w.alloc (.cells #[.int .i64 e.op,.int .i64 e.num,.int .i64 e.den,.int .i64 e.dim,.string e.name,.slice a e.args.length cap] 51)).alloc (.cells #[.int .i64 v.age,.int .i64 v.year,.int .i64 v.children,.int .i64 v.insured,.int .i64 v.worked,.int .i64 v.voluntary,.int .i64 v.service,.int .i64 v.equated,.int .i64 v.raising,.int .i64 v.resident,.int .i64 v.bn,.int .i64 v.bd,.slice ya v.years.length yc] 26)).alloc (.cells #[.int .i64 0,.bool false,.int .i64 0,.int .i64 0] 34))) wr:=.of_below (by simpa using hB);clear hB;by_cases hlt:k<env.length
  ·clear hown;obtain⟨-,sa',sc',hv2,hcs⟩:=HS.out;simp only [Value.slice.injEq,true_and]at hv2;obtain⟨rfl,rfl⟩:=hv2;rcases hcs with h0|⟨b,off,rfl,hbw,hx⟩
   ·omega
   obtain⟨s0,s1,s2,s3,s4⟩:=hx k hlt
   have HVV:Hid (∀w,Calls prog 31 #[dM (stV env k)] w fun r w'=>r= .returned (.bool (stV env k).ok)/\w.Grows w'):=zh (fun w=>by
    obtain⟨p,hp,he⟩:=EN hlt
    exact sw _ w (by rw [he];exact HSR.out p hp))
   have HBD:=zh (HBAD.out k hlt);have HNX:=zh (xB env k hlt);have HKL:=zh hlt;have d1:(k:Int)<(env.length:Int):=by omega
   unfold dM at HVV
   have HKK:Hid ((stV env k).ok=true->∀j,j<k+1->(stV env j).ok=true):=zh (fun h j hj=>by
    by_cases ej:j=k
    ·subst ej;exact h
    ·exact hno.out j ze)
   generalize stN env k=nk at *;generalize stV env k=xk at *;obtain⟨xm,xy,xn,xd⟩:=xk;dsimp only at s1 s2 s3 s4 HVV HNX
   cases hq:(Val.mk xm xy xn xd).ok with
   |true=>
    rw [hq]at HVV;have HQ:=zh (HKK.out hq);clear hx hlt hq HKK HBD
    go_wp2_with (go_at_call 31;refine(HVV.out _).mono ?_;rintro e' w' ⟨rfl,bs2,d2,rfl⟩)
    refine TS.begin [14,15] (World.Grows _) zf zf aG (fun hS=>?_);refine TS.wkB 0 hS ?_;refine TS.wkB 1 hS ?_;refine TS.wkB 2 hS ?_;refine TS.wkB 3 hS ?_;refine TS.wkB 4 hS ?_;refine TS.wkB 5 hS ?_;refine TS.wkB 6 hS ?_;refine TS.wkB 7 hS ?_;refine TS.wkB 8 hS ?_;refine TS.wkB 9 hS ?_;refine TS.wkB 10 hS ?_;refine TS.wkB 11 hS ?_;refine TS.wkB 12 hS ?_;refine TS.one (i:=13) zq rfl (fun K1 hK1=>?_);have HK1:=zh hK1;clear hK1 hS;dsimp only [getElem_toArray,getElem_cons_succ,getElem_cons_zero]
    go_simp
    refine TS.go HK1.out aj (fun hS=>?_);clear HK1 K1
    (try simp only [nS])
    refine TS.one (i:=14) zq rfl (fun K1 hK1=>?_);refine aH rfl _ _ 54 rfl (w.heap.size+1+1+1) 64 i0 _ 2 24 underlying54 hi hz0 hz1 hz2 rfl zo vb k _ rfl (bL HO.out aj) ⟨w.heap.size+1+1+1+(bs0.size+bs2.size),0,none⟩ 1 1 [.string nk,.int .i64 xm] rfl rfl (aK _ [.string nk,.int .i64 xm] _ _ zg) (by intro u hu;simp at hu;rcases hu with rfl|rfl<;>rfl) zE ze zB ?_;intro v2 w2 hown2 hgrow2;have hB2:Below (w.heap.size+1+1+1) ((((w.alloc (.cells #[.int .i64 e.op,.int .i64 e.num,.int .i64 e.den,.int .i64 e.dim,.string e.name,.slice a e.args.length cap] 51)).alloc (.cells #[.int .i64 v.age,.int .i64 v.year,.int .i64 v.children,.int .i64 v.insured,.int .i64 v.worked,.int .i64 v.voluntary,.int .i64 v.service,.int .i64 v.equated,.int .i64 v.raising,.int .i64 v.resident,.int .i64 v.bn,.int .i64 v.bd,.slice ya v.years.length yc] 26)).alloc (.cells #[.int .i64 0,.bool false,.int .i64 0,.int .i64 0] 34))) w2:=Below.grown (show Below (w.heap.size+1+1+1) ((((w.alloc (.cells #[.int .i64 e.op,.int .i64 e.num,.int .i64 e.den,.int .i64 e.dim,.string e.name,.slice a e.args.length cap] 51)).alloc (.cells #[.int .i64 v.age,.int .i64 v.year,.int .i64 v.children,.int .i64 v.insured,.int .i64 v.worked,.int .i64 v.voluntary,.int .i64 v.service,.int .i64 v.equated,.int .i64 v.raising,.int .i64 v.resident,.int .i64 v.bn,.int .i64 v.bd,.slice ya v.years.length yc] 26)).alloc (.cells #[.int .i64 0,.bool false,.int .i64 0,.int .i64 0] 34))) _ from by(exact ag)) hgrow2 zB (fun k hk=>(HO.out.lt k hk).1);have HB2:=zh hB2;have HO2:=zh hown2;refine hK1 _ _ (fun h=>absurd zo h) ?_;clear hK1 K1 hown2 hgrow2 hB2
    (try simp only [nS])
    refine TS.weB 15 ?_;clear hS
    go_wp2_with fail
    go_roundw
    case rel=>exact⟨k+1,_,rfl,HKL.out,by go_num,HQ,HB2.out,by rw [HNX.out,lu];exact HO2.out⟩
    case measure=>simp [intOf];have:=HKL.out;omega
   |false=>
    rw [hq]at HVV;have HF:=zh (HBD.out hq);clear hx hlt hq HKK HBD;rw [HF.out]
    go_wp2_with (go_at_call 31;refine(HVV.out _).mono ?_;rintro e' w' ⟨rfl,bs2,d2,rfl⟩)
    go_returns
    exact yU rfl aj
  ·obtain rfl:k=env.length:=by omega
   have hE:=Ce hno.out;have hgd:=HGOOD.out hE;have HEV2:=zh (HEV.out hE)
   have hbd:aW (((((w.alloc (.cells #[.int .i64 e.op,.int .i64 e.num,.int .i64 e.den,.int .i64 e.dim,.string e.name,.slice a e.args.length cap] 51)).alloc (.cells #[.int .i64 v.age,.int .i64 v.year,.int .i64 v.children,.int .i64 v.insured,.int .i64 v.worked,.int .i64 v.voluntary,.int .i64 v.service,.int .i64 v.equated,.int .i64 v.raising,.int .i64 v.resident,.int .i64 v.bn,.int .i64 v.bd,.slice ya v.years.length yc] 26)).alloc (.cells #[.int .i64 0,.bool false,.int .i64 0,.int .i64 0] 34))).grow bs0 d0) vb (aR env):=by
    have h1:=HO.out;rw [take_length]at h1;have hl:(aR env).length=env.length:=by unfold aR;simp
    exact aW.of_own (by rw [hl];exact h1) (by rw [hl];exact h1000)
   have HBND:=zh hbd;obtain⟨-,va,vc,rfl,-⟩:=hbd;have HGD:=zh hgd;clear hgd hown hno;generalize aT (aR env) e=q at *;generalize ai v env e=r at *;obtain⟨qm,qc⟩:=q;obtain⟨⟨rm,ry,rn,rd⟩,rc⟩:=r;dsimp only at HINF HEV2 HGD;by_cases hqc:qc=0
   ·subst hqc;obtain⟨hev,hz⟩:=HEV2.out rfl;have HEV3:=zh hev
    have HF:Hid (dQ v env e=(⟨rm,ry,rn,rd⟩,rc)):=zh (by
     rw [HGD.out,if_neg zg];by_cases hrc:rc≠0
     ·rw [if_pos hrc,hz hrc]
     ·rw [if_neg hrc])
    clear hev hz
    go_wp2_with (first
     |(go_at_call 69;refine(HINF.out _ _ aj (HBND.out.grows aj)).mono ?_;rintro e' w' ⟨rfl,bs4,d4,rfl⟩)
     |(go_at_call 70;refine(HEV3.out _ aj).mono ?_;rintro e' w' ⟨rfl,bs5,d5,rfl⟩))
    go_returns
    exact yU HF.out aj
   ·have hq1:(qc !=0)=true:=by simpa using hqc
    have HF:Hid (dQ v env e=(.zero,qc)):=zh (by rw [HGD.out];simp [hqc]);clear hqc HEV2
    go_wp2_with (go_at_call 69;refine(HINF.out _ _ aj (HBND.out.grows aj)).mono ?_;rintro e' w' ⟨rfl,bs4,d4,rfl⟩)
    go_returns
    exact yU HF.out aj
theorem qZ(S:Nat->Prop)(v:Vw)(y se:Value)(env:List (ByteArray × Val))(e:Ex)(a:Option Addr)(cap:Nat)(w:World)(h:aC S w e (.slice a e.args.length cap))(hbig:e.size<=2305843009213693952)(hy:bK w y v.years)(hr:dN v)(hs:aV w se env)(hS:∀p∈env,vV p.2) :
 Calls prog 30 #[exV e (.slice a e.args.length cap),vwV v y,se] w (vH (dQ v env e) w):=by
 cases hv:v.ok with
 |false=>exact Ep v y se env e a cap w hy hr hs hv
 |true=>exact KP S v y se env e a cap w h hbig hy hr hs hS hv
end Go.Proofs.YtlheailebbngiaaGreatDoor
