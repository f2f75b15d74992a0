import Derived.Test.YtlheailebbngiaaGreatDoorRLt5
import Derived.Test.YtlheailebbngiaaGreatDoorRGr2
set_option linter.all false
set_option maxHeartbeats 16000000
set_option maxRecDepth 1000000
namespace Go.Proofs.YtlheailebbngiaaGreatDoor
open Go.Proofs.Tryz List
open Go.RowKit
theorem tF(env:List (ByteArray × Int))(e:Ex)(v ve:Value)(want:Int)(w:World)(h:aC (fun _=>True) w e v)(hbig:e.size<=1000000)(ht:Tab w)(hv:aW w ve env) :
 Calls prog 162 #[exV e v,ve,.int .i64 want] w fun r w'=>r= .returned (.int .i64 (eu env e want))/\w.Grows w':=by
 have HR:=zh h;have HV:=zh hv;have HT:=zh ht;obtain⟨a,cap,rfl⟩:=h.form0;obtain⟨-,ba,bc,rfl,-⟩:=hv;have HI:=zh (fun w' (hg:w.Grows w')=>oK (fun _=>True) env e (.slice a e.args.length cap) (.slice ba env.length bc) w' (HR.out.grows hg) ze (HT.out.grows hg) (HV.out.grows hg));unfold jl exV at HI;have HN:Hid (eu env e want=if(aT env e).2=0/\(aT env e).1≠want then 6 else(aT env e).2):=zh rfl;generalize aT env e=r at *;obtain⟨d,c⟩:=r;dsimp only at HI HN;clear h ht;by_cases hc:c=0
 ·subst hc;by_cases hd:d=want
  ·subst hd;have HF:Hid (eu env e d=0):=zh (by rw [HN.out];simp)
   go_enter func162,ntmps162
   go_wp2_with (go_at_call 67;refine(HI.out _ af).mono ?_;rintro e' w' ⟨rfl,bs,d',rfl⟩)
   go_returns
   exact⟨by rw [HF.out]<;>rfl,af⟩
  ·have hd2:(d !=want)=true:=by simpa using hd
   have HF:Hid (eu env e want=6):=zh (by rw [HN.out,if_pos ⟨rfl,hd⟩]);clear hd
   go_enter func162,ntmps162
   go_wp2_with (go_at_call 67;refine(HI.out _ af).mono ?_;rintro e' w' ⟨rfl,bs,d',rfl⟩)
   go_returns
   exact⟨by rw [HF.out]<;>rfl,af⟩
 ·have hc2:(c !=0)=true:=by simpa using hc
  have HF:Hid (eu env e want=c):=zh (by rw [HN.out,if_neg (fun h=>hc h.1)]);clear hc
  go_enter func162,ntmps162
  go_wp2_with (go_at_call 67;refine(HI.out _ af).mono ?_;rintro e' w' ⟨rfl,bs,d',rfl⟩)
  go_returns
  exact⟨by rw [HF.out]<;>rfl,af⟩
theorem R6:∀args w,(callFunc 159 args).run prog w= .ok (.enter 159 args) w:=enters_of func159 zf rfl
theorem Gb(z y:Int)(a1 b1:Value)(b:Nat)(w:World)(hb:w.heap[b]? =some (.cells #[.int .i64 y,b1] 129 (0,0))) :
 Calls prog 159 (#[.agg (.int .i64 z::[a1]).toArray]++#[.pointer (some ⟨b,0,none⟩)]) w fun r w'=>r= .returned (.bool (decide (z=y)))/\w.Grows w':=by
 show Calls prog 159 #[.agg #[.int .i64 z,a1],.pointer (some ⟨b,0,none⟩)] w _;have hbl:b<w.heap.size:=(Array.getElem?_eq_some_iff.1 hb).1;have x0:w.cell? ⟨b,0,none⟩=some (.int .i64 y):=by rw [cell_of_row w b _ _ _ _ hb];rfl
 clear hb;by_cases hn:z=y
 ·have h2:(z==y)=true:=by rw [hn];simp
  have HD:Hid (decide (z=y)=true):=zh (decide_eq_true hn);clear hn
  go_enter func159,ntmps159
  go_wp2_with fail
  go_returns
  exact⟨au HD.out.symm,.of_below ag⟩
 ·have h2:(z==y)=false:=by simpa using hn
  have HD:Hid (decide (z=y)=false):=zh (decide_eq_false hn);clear hn
  go_enter func159,ntmps159
  go_wp2_with fail
  go_returns
  exact⟨au HD.out.symm,.of_below ag⟩
theorem R5:∀args w,(callFunc 161 args).run prog w= .ok (.enter 161 args) w:=enters_of func161 zf rfl
theorem Ga(z y:Int)(a1 a2 a3 a4 a5 a6 a7 a8 a9 a10 a11 a12 b1 b2 b3 b4 b5 b6 b7 b8 b9 b10 b11 b12:Value)(b:Nat)(w:World)(hb:w.heap[b]? =some (.cells #[.int .i64 y,b1,b2,b3,b4,b5,b6,b7,b8,b9,b10,b11,b12] 97 (0,0))) :
 Calls prog 161 (#[.agg (.int .i64 z::[a1,a2,a3,a4,a5,a6,a7,a8,a9,a10,a11,a12]).toArray]++#[.pointer (some ⟨b,0,none⟩)]) w fun r w'=>r= .returned (.bool (decide (z=y)))/\w.Grows w':=by
 show Calls prog 161 #[.agg #[.int .i64 z,a1,a2,a3,a4,a5,a6,a7,a8,a9,a10,a11,a12],.pointer (some ⟨b,0,none⟩)] w _;have hbl:b<w.heap.size:=(Array.getElem?_eq_some_iff.1 hb).1;have x0:w.cell? ⟨b,0,none⟩=some (.int .i64 y):=by rw [cell_of_row w b _ _ _ _ hb];rfl
 clear hb;by_cases hn:z=y
 ·have h2:(z==y)=true:=by rw [hn];simp
  have HD:Hid (decide (z=y)=true):=zh (decide_eq_true hn);clear hn
  go_enter func161,ntmps161
  go_wp2_with fail
  go_returns
  exact⟨au HD.out.symm,.of_below ag⟩
 ·have h2:(z==y)=false:=by simpa using hn
  have HD:Hid (decide (z=y)=false):=zh (decide_eq_false hn);clear hn
  go_enter func161,ntmps161
  go_wp2_with fail
  go_returns
  exact⟨au HD.out.symm,.of_below ag⟩
theorem R4:∀args w,(callFunc 164 args).run prog w= .ok (.enter 164 args) w:=enters_of func164 zf rfl
theorem F9(z y:Int)(a1 a2 a3 a4 a5 a6 b1 b2 b3 b4 b5 b6:Value)(b:Nat)(w:World)(hb:w.heap[b]? =some (.cells #[.int .i64 y,b1,b2,b3,b4,b5,b6] 134 (0,0))) :
 Calls prog 164 (#[.agg (.int .i64 z::[a1,a2,a3,a4,a5,a6]).toArray]++#[.pointer (some ⟨b,0,none⟩)]) w fun r w'=>r= .returned (.bool (decide (z=y)))/\w.Grows w':=by
 show Calls prog 164 #[.agg #[.int .i64 z,a1,a2,a3,a4,a5,a6],.pointer (some ⟨b,0,none⟩)] w _;have hbl:b<w.heap.size:=(Array.getElem?_eq_some_iff.1 hb).1;have x0:w.cell? ⟨b,0,none⟩=some (.int .i64 y):=by rw [cell_of_row w b _ _ _ _ hb];rfl
 clear hb;by_cases hn:z=y
 ·have h2:(z==y)=true:=by rw [hn];simp
  have HD:Hid (decide (z=y)=true):=zh (decide_eq_true hn);clear hn
  go_enter func164,ntmps164
  go_wp2_with fail
  go_returns
  exact⟨au HD.out.symm,.of_below ag⟩
 ·have h2:(z==y)=false:=by simpa using hn
  have HD:Hid (decide (z=y)=false):=zh (decide_eq_false hn);clear hn
  go_enter func164,ntmps164
  go_wp2_with fail
  go_returns
  exact⟨au HD.out.symm,.of_below ag⟩
theorem MP{w:World}{a:Option Addr}{cap n i:Nat}{K:List Int}(h:jS 2 w (.slice a K.length cap) K)(hx:gV 2 w (.slice a K.length cap) n)(hn:n=K.length)(hi:i<=K.length)(lb:Array Value)(p:Nat->Bool)(hp:∀k z,k<i->∀w',w.Grows w'->Calls prog 159 (#[.agg (.int .i64 (K.getD k 0)::[.int .i64 z]).toArray]++lb) w' fun r w''=>r= .returned (.bool (p k))/\w'.Grows w'') :
 vB 2 159 lb p w (.slice a i cap) i:=by
 subst hn;obtain⟨h0,a1,c1,hv1,h1⟩:=h;obtain⟨a2,c2,hv2,h2⟩:=hx;simp only [Value.slice.injEq,true_and]at hv1 hv2;obtain⟨rfl,rfl⟩:=hv1;obtain⟨rfl,rfl⟩:=hv2;refine⟨by omega,a,cap,rfl, ?_⟩;by_cases hz:i=0
 ·exact .inl hz
 rcases h1 with h1|⟨b,off,rfl,hb,hc⟩
 ·omega
 rcases h2 with h2|⟨b',off',ha,hb',hc'⟩
 ·omega
 simp only [Option.some.injEq,Addr.mk.injEq,and_true]at ha;obtain⟨rfl,rfl⟩:=ha;refine .inr ⟨b,off,rfl,hb,fun k hk=>?_⟩;obtain⟨z,hz⟩:=hc' k ze 1 ze;refine⟨[.int .i64 (K.getD k 0),.int .i64 z],rfl,fun j x hj=>?_,hp k z hk⟩
 match j,hj with
 |0,hj=>cases hj;exact hc k ze
 |1,hj=>cases hj;exact hz
theorem MO{w:World}{a:Option Addr}{cap n i:Nat}{l:List (Int × Ex × Ex)}(h:iW w (.slice a n cap) l)(hi:i<=l.length)(lb:Array Value)(p:Nat->Bool)
 (hp:∀k,k<i->∀(a1 a2 a3 a4 a5 a6 a7 a8 a9 a10 a11 a12:Value),∀w',w.Grows w'->Calls prog 161 (#[.agg (.int .i64 (l.getD k default).1::[a1,a2,a3,a4,a5,a6,a7,a8,a9,a10,a11,a12]).toArray]++lb) w' fun r w''=>r= .returned (.bool (p k))/\w'.Grows w'') :
 vB 13 161 lb p w (.slice a i cap) i:=by
 obtain⟨h0,a1,c1,hv1,h1⟩:=h;simp only [Value.slice.injEq]at hv1;obtain⟨rfl,rfl,rfl⟩:=hv1;refine⟨by omega,a,cap,rfl, ?_⟩;by_cases hz:i=0
 ·exact .inl hz
 rcases h1 with h1|⟨b,off,rfl,hb,hc⟩
 ·omega
 refine .inr ⟨b,off,rfl,hb,fun k hk=>?_⟩;obtain⟨u,u',g⟩:=hc k ze;refine⟨[.int .i64 (l.getD k default).1,.int .i64 (l.getD k default).2.1.op,.int .i64 (l.getD k default).2.1.num,.int .i64 (l.getD k default).2.1.den,.int .i64 (l.getD k default).2.1.dim,.string (l.getD k default).2.1.name,u,.int .i64 (l.getD k default).2.2.op,.int .i64 (l.getD k default).2.2.num,.int .i64 (l.getD k default).2.2.den,.int .i64 (l.getD k default).2.2.dim,.string (l.getD k default).2.2.name,u'],rfl,fun j x hj=>?_,hp k hk _ _ _ _ _ _ _ _ _ _ _ _⟩
 match j,hj with
 |0,hj=>cases hj;exact g.nm
 |1,hj=>cases hj;exact g.c0
 |2,hj=>cases hj;exact g.c1
 |3,hj=>cases hj;exact g.c2
 |4,hj=>cases hj;exact g.c3
 |5,hj=>cases hj;exact g.c4
 |6,hj=>cases hj;exact g.c5
 |7,hj=>cases hj;exact g.e0
 |8,hj=>cases hj;exact g.e1
 |9,hj=>cases hj;exact g.e2
 |10,hj=>cases hj;exact g.e3
 |11,hj=>cases hj;exact g.e4
 |12,hj=>cases hj;exact g.e5
theorem MM{w:World}{a:Option Addr}{cap n i:Nat}{l:List (Int × Ex)}(h:mU w (.slice a n cap) l)(hi:i<=l.length)(lb:Array Value)(p:Nat->Bool)
 (hp:∀k,k<i->∀(a1 a2 a3 a4 a5 a6:Value),∀w',w.Grows w'->Calls prog 164 (#[.agg (.int .i64 (l.getD k default).1::[a1,a2,a3,a4,a5,a6]).toArray]++lb) w' fun r w''=>r= .returned (.bool (p k))/\w'.Grows w'') :
 vB 7 164 lb p w (.slice a i cap) i:=by
 obtain⟨h0,a1,c1,hv1,h1⟩:=h;simp only [Value.slice.injEq]at hv1;obtain⟨rfl,rfl,rfl⟩:=hv1;refine⟨by omega,a,cap,rfl, ?_⟩;by_cases hz:i=0
 ·exact .inl hz
 rcases h1 with h1|⟨b,off,rfl,hb,hc⟩
 ·omega
 refine .inr ⟨b,off,rfl,hb,fun k hk=>?_⟩;obtain⟨u,g⟩:=hc k ze;refine⟨[.int .i64 (l.getD k default).1,.int .i64 (l.getD k default).2.op,.int .i64 (l.getD k default).2.num,.int .i64 (l.getD k default).2.den,.int .i64 (l.getD k default).2.dim,.string (l.getD k default).2.name,u],rfl,fun j x hj=>?_,hp k hk _ _ _ _ _ _⟩
 match j,hj with
 |0,hj=>cases hj;exact g.nm
 |1,hj=>cases hj;exact g.c0
 |2,hj=>cases hj;exact g.c1
 |3,hj=>cases hj;exact g.c2
 |4,hj=>cases hj;exact g.c3
 |5,hj=>cases hj;exact g.c4
 |6,hj=>cases hj;exact g.c5
theorem gV.at{c:Nat}{w:World}{b off n cap i j:Nat}(h:gV c w (.slice (some ⟨b,off,none⟩) n cap) n)(hi:i<n)(hj:j<c):∃z,w.cell? ⟨b,off+i*c+j,none⟩=some (.int .i64 z):=by
 obtain⟨a',cap',hv,h0|⟨b',off',rfl,hb,hc⟩⟩:=h
 ·omega
 ·simp only [Value.slice.injEq,Option.some.injEq,Addr.mk.injEq,and_true,true_and]at hv;obtain⟨⟨rfl,rfl⟩,rfl⟩:=hv;exact hc i hi j hj
theorem Eb{K:List Int}{i:Nat}(hi:i<=K.length)(y:Int):((List.range i).any fun k=>decide (K.getD k 0=y))=(K.take i).contains y:=(tJ hi).symm
theorem Af(V:cO)(x0 x1 x2:Int)(v3 v4 v5 v6 v7:Value)(w:World)(h:vv w V v3 v4 v5 v6 v7)(hnx:gV 2 w v3 V.cr.length/\gV 3 w v4 V.se.length)(hcp:jg v3/\jg v6/\jg v7)(hs:kT V)(ht:Tab w) :
 Calls prog 124 #[.agg #[.int .i64 x0,.int .i64 x1,.int .i64 x2,v3,v4,v5,v6,v7]] w fun e w'=>e= .returned (.int .i64 (aX V))/\w.Grows w':=by
 have HV:=zh h;have HS:=zh hs;have HT:=zh ht;have HLT:=zh (fun w' (hg:w.Grows w')=>Jh V.le v5 w' (h.le.grows hg) hs.le (HT.out.grows hg));unfold lF at HLT;have HA:=Js (V:=V);have HB_:=Jr (V:=V);have HC_:=Jq (V:=V);have HD_:=Jp (V:=V);have HE_:=Jo (V:=V);have H3:=h.cr;have H4:=h.se;have H6:=h.gr.nums;have H7:=h.re.nums;obtain⟨hn3,hn4⟩:=hnx;obtain⟨K3,hK3⟩:∃K,V.cr.map Prod.fst=K:=⟨_,rfl⟩;obtain⟨K4,hK4⟩:∃K,V.se.map Prod.fst=K:=⟨_,rfl⟩;obtain⟨K6,hK6⟩:∃K,V.gr.map Prod.fst=K:=⟨_,rfl⟩;obtain⟨K7,hK7⟩:∃K,V.re.map Prod.fst=K:=⟨_,rfl⟩;rw [hK3]at H3 HB_ HC_ HD_ HE_;rw [hK4]at H4 HC_ HD_ HE_;rw [hK6]at H6;rw [hK7]at H7;have hl3:V.cr.length=K3.length:=by rw [<-hK3,length_map]
 have hl4:V.se.length=K4.length:=by rw [<-hK4,length_map]
 have hl6:K6.length=V.gr.length:=by rw [<-hK6,length_map]
 have hl7:K7.length=V.re.length:=by rw [<-hK7,length_map]
 rw [hl3]at hn3;rw [hl4]at hn4;replace hK6:=zh hK6;replace hK7:=zh hK7;have HL6:=zh hl6;have HL7:=zh hl7;obtain⟨h3l,a3,k3,rfl,-⟩:=id H3;obtain⟨h4l,a4,k4,rfl,-⟩:=id H4;obtain⟨h5l,a5,k5,rfl,-⟩:=h.le;obtain⟨h6l,a6,k6,rfl,-⟩:=id H6;obtain⟨h7l,a7,k7,rfl,-⟩:=id H7;have hk3:K3.length<=k3:=hcp.1 _ _ _ rfl;have hk6:K6.length<=k6:=hcp.2.1 _ _ _ rfl;have hk7:K7.length<=k7:=hcp.2.2 _ _ _ rfl;replace H3:=zh H3;replace H4:=zh H4;replace H6:=zh H6;replace H7:=zh H7;replace hn3:=zh hn3;replace hn4:=zh hn4;generalize dK V.le=L at *;obtain⟨env,c⟩:=L;dsimp only at HLT HA HB_ HC_ HD_ HE_;replace HA:=zh HA;replace HB_:=zh HB_;replace HC_:=zh HC_;replace HD_:=zh HD_;replace HE_:=zh HE_;have HC3:=zh hk3;have HC6:=zh hk6;have HC7:=zh hk7;clear h hs ht hK3 hK4 hl3 hl4 hl6 hl7 hcp hk3 hk6 hk7;by_cases hc:c=0
 case neg=>
  have hc2:(c !=0)=true:=by simpa using hc
  have HF:=zh (HA.out hc);clear hc
  go_enter func124,ntmps124
  go_wp2_with (go_at_call 157;refine(HLT.out _ af).mono ?_;rintro e' w' ⟨x,rfl,⟨bs,d,rfl⟩,hbd⟩)
  go_returns
  exact⟨by rw [HF.out]<;>rfl,af⟩
 subst hc
 go_enter func124,ntmps124
 go_wp2_with (go_at_call 157;refine(HLT.out _ af).mono ?_;rintro e' w' ⟨x,rfl,⟨bs,d,rfl⟩,hbd⟩;have HBD:=zh hbd;obtain⟨-,xa,xc,rfl,-⟩:=hbd)
 refine gy (fun W hW=>?_);have HG:Hid (w.Grows W):=zh (by rw [<-hW];exact af);have HBX:Hid (lH W w.heap.size (.int .i64 x0) (.int .i64 x1) (.int .i64 x2) (.slice a3 K3.length k3) (.slice a4 K4.length k4) (.slice a5 V.le.length k5) (.slice a6 K6.length k6) (.slice a7 K7.length k7)):=zh yL;have HEV:Hid (aW W (.slice xa env.length xc) env):=zh (by rw [<-hW];exact HBD.out);have HTW:=zh (HT.out.grows HG.out);clear hW HBD HLT HA
 go_loopw [28] (fun v4 wr=>∃i:Nat,i<=K3.length/\v4= .int .i64 i/\Hid (ky [] K3=ky (K3.take i) (K3.drop i))/\W.Grows wr) (fun v4 _=>K3.length-(intOf v4).toNat)
 case atStart=>exact⟨0,by omega,rfl,zh rfl,.refl _⟩
 case round=>
  obtain⟨i,hi,rfl,HAT,hgr⟩:=hrel;obtain⟨W1,rfl⟩:∃W1,W1=wr:=⟨_,rfl⟩;have HG1:=zh hgr;have HGW:=zh (World.Grows.trans' HG.out hgr);have HBX1:=zh (HBX.out.grows hgr);have q3:=HBX1.out.lt;have q0:=HBX1.out.c3;clear hgr;by_cases hlt:i<K3.length
  ·obtain⟨b,off,kcap,hkv,hkb,hkx⟩:=(H3.out.grows HGW.out).open_ hlt;simp only [Value.slice.injEq,true_and]at hkv;obtain⟨rfl,rfl⟩:=hkv;obtain⟨z,q2⟩:=(hn3.out.grows HGW.out).at hlt (show 1<2 by omega);have q1:=hkx i hlt;have HKL:=zh hlt;have d1:(i:Int)<(K3.length:Int):=by omega
   have d9:(i:Int)<=(k3:Int):=by have:=HC3.out;omega
   have d8:i<=k3:=by have:=HC3.out;omega
   have HAD:=zh (HAT.out.trans (Et hlt))
   have HCF:=zh (fun w' (hg:W1.Grows w') (hb:w'.heap[W1.heap.size]? =some (.cells #[.int .i64 (K3.getD i 0),.int .i64 z] 129 (0,0)))=>by
    have:=KC 159 #[.pointer (some ⟨W1.heap.size,0,none⟩)] R6 (fun k=>decide (K3.getD k 0=K3.getD i 0)) (.slice (some ⟨b,off,none⟩) i k3) i w' (MP ((H3.out.grows HGW.out).grows hg) ((hn3.out.grows HGW.out).grows hg) rfl ze _ _ (fun k z' hk w2 hg2=>Gb (K3.getD k 0) (K3.getD i 0) (.int .i64 z') (.int .i64 z) W1.heap.size w2 ((hg2.below.block _ (Array.getElem?_eq_some_iff.1 hb).1).trans hb)));rw [Eb ze]at this
    exact this)
   generalize hq:(K3.take i).contains (K3.getD i 0)=q at *;generalize K3.getD i 0=y at *;clear hkx hlt hq;cases q
   case true=>
    have HF:Hid (aX V=10):=zh (HB_.out trivial (by rw [HAD.out,Bool.true_or]))
    go_wp2_with ((first|(go_at_call 158;refine(HCF.out _ af zN).mono ?_;rintro e' w' ⟨rfl,bs0,d0,rfl⟩)|(go_at_call 162;first|((with_reducible refine(HN1.out _ af).mono ?_);rintro e' w' ⟨rfl,bs1,d1,rfl⟩)|((with_reducible refine(HN2.out _ af).mono ?_);rintro e' w' ⟨rfl,bs2,d2,rfl⟩))))
    go_returns
    exact⟨by rw [HF.out]<;>rfl,World.Grows.trans' HG.out (World.Grows.trans' HG1.out af)⟩
   have HNX:Hid (ky [] K3=ky (K3.take (i+1)) (K3.drop (i+1))):=zh (by rw [HAD.out,Bool.false_or])
   go_wp2_with ((first|(go_at_call 158;refine(HCF.out _ af zN).mono ?_;rintro e' w' ⟨rfl,bs0,d0,rfl⟩)|(go_at_call 162;first|((with_reducible refine(HN1.out _ af).mono ?_);rintro e' w' ⟨rfl,bs1,d1,rfl⟩)|((with_reducible refine(HN2.out _ af).mono ?_);rintro e' w' ⟨rfl,bs2,d2,rfl⟩))))
   go_roundw
   case rel=>exact⟨i+1,HKL.out,by go_num,HNX,World.Grows.trans' HG1.out af⟩
   case measure=>simp [intOf];have:=HKL.out;omega
  obtain rfl:i=K3.length:=by omega
  have H3D:Hid (ky [] K3=false):=zh (HAT.out.trans FB);clear HAT;have q4:=HBX1.out.c4
  go_wp2_with fail
  go_loopw [43] (fun v6 wr=>∃k:Nat,k<=K4.length/\v6= .int .i64 k/\Hid (∀j,j+1<k->K4.getD j 0<K4.getD (j+1) 0)/\W.Grows wr) (fun v6 _=>K4.length-(intOf v6).toNat)
  case atStart=>exact⟨0,by omega,rfl,zh (fun j hj=>by omega),HG1.out⟩
  case round=>
   obtain⟨k,hk,rfl,HAS,hgr⟩:=hrel;obtain⟨W1,rfl⟩:∃W1,W1=wr:=⟨_,rfl⟩;have HG1:=zh hgr;have HGW:=zh (World.Grows.trans' HG.out hgr);have HBX1:=zh (HBX.out.grows hgr);have q3:=HBX1.out.lt;have q0:=HBX1.out.c4;clear hgr;by_cases hlt:k<K4.length
   ·have HKL:=zh hlt;obtain⟨b,off,kcap,hkv,hkb,hkx⟩:=(H4.out.grows HGW.out).open_ hlt;simp only [Value.slice.injEq,true_and]at hkv;obtain⟨rfl,rfl⟩:=hkv;obtain⟨z1,q4⟩:=(hn4.out.grows HGW.out).at hlt (show 1<3 by omega);obtain⟨z2,q5⟩:=(hn4.out.grows HGW.out).at hlt (show 2<3 by omega);have q1:=hkx k hlt;have d1:(k:Int)<(K4.length:Int):=by omega
    by_cases hk0:k=0
    ·subst hk0;simp only [Nat.zero_mul,Nat.add_zero]at q1 q4 q5;have e1:0<K4.length:=hlt;obtain⟨y,hy⟩:∃z,K4.getD 0 0=z:=⟨_,rfl⟩;rw [hy]at q1;clear hkx hlt hk d1 hy
     go_wp2_with fail
     go_region
     go_wp2_with fail
     go_roundw
     case rel=>exact⟨1,HKL.out,by go_num,zh (fun j hj=>by omega),World.Grows.trans' HG1.out af⟩
     case measure=>simp [intOf];have:=HKL.out;omega
    obtain⟨t,hkt⟩:∃t,k=t+1:=⟨k-1,by omega⟩;have q2:=hkx t ze;have d2:(k:Int)-1=(t:Int):=by omega
    have d3:(t:Int)<(K4.length:Int):=by omega
    have d4:(0:Int)<=(t:Int):=by omega
    have d5:(0:Int)<(k:Int):=by omega
    have d6:0<k:=by omega
    have HT:=zh hkt;clear hkx hkt hk hlt hk0;by_cases hle:K4.getD k 0<=K4.getD t 0
    ·have HF:Hid (aX V=1):=zh (HC_.out trivial H3D.out (Lr (j:=t) (by rw [<-HT.out];exact HKL.out) (by rw [<-HT.out];exact hle)));obtain⟨y,hy⟩:∃z,K4.getD k 0=z:=⟨_,rfl⟩;obtain⟨z,hz⟩:∃z,K4.getD t 0=z:=⟨_,rfl⟩;rw [hy]at q1 hle;rw [hz]at q2 hle;clear hy hz
     go_wp2_with fail
     go_quiet (fail)
     go_wp2_with fail
     go_returns
     exact⟨by rw [HF.out]<;>rfl,World.Grows.trans' HG.out (World.Grows.trans' HG1.out af)⟩
    ·have HLE:=zh hle;obtain⟨zk,hzk⟩:∃z,K4.getD k 0=z:=⟨_,rfl⟩;obtain⟨zt,hzt⟩:∃z,K4.getD t 0=z:=⟨_,rfl⟩;rw [hzk]at q1 hle;rw [hzt]at q2 hle;have hle2:zt<zk:=by omega
     clear hzk hzt
     go_wp2_with fail
     go_quiet (fail)
     go_wp2_with fail
     go_roundw
     case rel=>exact⟨k+1,HKL.out,by go_num,zh (fun j hj=>by
      by_cases ej:j+1=k
      ·have:=HLE.out;have e:j=t:=by have:=HT.out;omega
       rw [ej,e];omega
      ·exact HAS.out j ze),World.Grows.trans' HG1.out af⟩
     case measure=>simp [intOf];have:=HKL.out;omega
   obtain rfl:k=K4.length:=by omega
   have hK:si K4=true:=(sO K4).2 fun j hj=>HAS.out j ze;have H4D:=zh hK;have HDD:Hid (∀c,c≠0->grG env [] V.gr=c->aX V=c):=zh (fun c hc h=>by rw [<-h];exact HD_.out trivial H3D.out H4D.out (by rw [h];exact hc));have HEE:Hid (grG env [] V.gr=0->aX V=reG env [] V.re):=zh (fun h=>HE_.out trivial H3D.out H4D.out h);clear HAS hK hk hlt;have q6:=HBX1.out.c6
   go_wp2_with fail
   go_loopw [66] (fun v7 wr=>∃i:Nat,i<=K6.length/\v7= .int .i64 i/\Hid (grG env [] V.gr=grG env (K6.take i) (V.gr.drop i))/\W.Grows wr) (fun v7 _=>K6.length-(intOf v7).toNat)
   case atStart=>exact⟨0,by omega,rfl,zh rfl,HG1.out⟩
   case round=>
    obtain⟨i,hi,rfl,HAT,hgr⟩:=hrel;obtain⟨W1,rfl⟩:∃W1,W1=wr:=⟨_,rfl⟩;have HG1:=zh hgr;have HGW:=zh (World.Grows.trans' HG.out hgr);have HBX1:=zh (HBX.out.grows hgr);have q3:=HBX1.out.lt;have q0:=HBX1.out.c6;clear hgr;by_cases hlk:i<K6.length
    ·have HKL:=zh hlk;have hlt:i<V.gr.length:=by rw [<-HL6.out];exact hlk
     have hil:i<=V.gr.length:=by omega
     have d1:(i:Int)<(K6.length:Int):=by omega
     have d9:(i:Int)<=(k6:Int):=by have:=HC6.out;omega
     have d8:i<=k6:=by have:=HC6.out;omega
     have HGR1:=zh (HV.out.gr.grows HGW.out);obtain⟨-,a',c',hvv,hx⟩:=HGR1.out;simp only [Value.slice.injEq]at hvv;obtain⟨rfl,-,rfl⟩:=hvv;rcases hx with h0|⟨b,off,rfl,hbw,hx⟩
     ·omega
     obtain⟨u,u',hg⟩:=hx i hlt;have hsm:=HS.out.gr _ (fD hlt);have hfa:=mF hK6.out hlt;have HGN:=zh (fun h=>HAT.out.trans (BG (env:=env) hK6.out hlt h));have HGB:=zh (fun h=>HAT.out.trans (yR (env:=env) hK6.out hlt h))
     have HCF:=zh (fun w' (hg:W1.Grows w') (a1 a2 a3 a4 a5 a6 a7 a8 a9 a10 a11 a12:Value) (hb:w'.heap[W1.heap.size]? =some (.cells #[.int .i64 (V.gr.getD i default).1,a1,a2,a3,a4,a5,a6,a7,a8,a9,a10,a11,a12] 97 (0,0)))=>by
      have:=KA 161 #[.pointer (some ⟨W1.heap.size,0,none⟩)] R5 (fun k=>decide (K6.getD k 0=K6.getD i 0)) (.slice (some ⟨b,off,none⟩) i k6) i w' (MO (HGR1.out.grows hg) hil _ _ (fun k hk b1 b2 b3 b4 b5 b6 b7 b8 b9 b10 b11 b12 w2 hg2=>by
       rw [mF hK6.out (show k<V.gr.length by omega),hfa]
       exact Ga _ _ b1 b2 b3 b4 b5 b6 b7 b8 b9 b10 b11 b12 a1 a2 a3 a4 a5 a6 a7 a8 a9 a10 a11 a12 W1.heap.size w2 ((hg2.below.block _ (Array.getElem?_eq_some_iff.1 hb).1).trans hb)))
      rw [Eb (by have:=HL6.out;omega),hfa]at this
      exact this)
     rw [<-hfa]at HCF;have HSD:=zh (fun(h:(K6.take i).contains (K6.getD i 0)=true)=>Fu (env:=env) (pre:=K6.take i) (g:=V.gr.getD i default) (by rw [<-hfa];exact h));have HS1:=zh (fun(h:(K6.take i).contains (K6.getD i 0)=false)=>Fs (env:=env) (pre:=K6.take i) (g:=V.gr.getD i default) (by rw [<-hfa];exact h));generalize(K6.take i).contains (K6.getD i 0)=q at *;rw [hfa]at HCF;generalize V.gr.getD i default=g at *;obtain⟨gn,ge,gp⟩:=g;obtain⟨m,m0,m1,m2,m3,m4,m5,n0,n1,n2,n3,n4,n5,r1,r2⟩:=hg;dsimp only at m m0 m1 m2 m3 m4 m5 n0 n1 n2 n3 n4 n5 r1 r2 hsm HSD HS1 HGN HGB HCF;obtain⟨ua,uc,rfl⟩:=r1.form0;obtain⟨va,vc,rfl⟩:=r2.form0;have HR1:=zh r1;have HR2:=zh r2;have HEW:=zh (HEV.out.grows HG1.out);have HTV:=zh (HTW.out.grows HG1.out);have HN1:=zh (fun w' (hg:W1.Grows w')=>tF env ge _ _ 1 w' (HR1.out.grows hg) hsm.1 (HTV.out.grows hg) (HEW.out.grows hg));have HN2:=zh (fun w' (hg:W1.Grows w')=>tF env gp _ _ 4 w' (HR2.out.grows hg) hsm.2 (HTV.out.grows hg) (HEW.out.grows hg));unfold exV at HN1 HN2;replace HCF:=zh (fun w' hg=>HCF.out w' hg (.int .i64 ge.op) (.int .i64 ge.num) (.int .i64 ge.den) (.int .i64 ge.dim) (.string ge.name) (.slice ua ge.args.length uc) (.int .i64 gp.op) (.int .i64 gp.num) (.int .i64 gp.den) (.int .i64 gp.dim) (.string gp.name) (.slice va gp.args.length vc));clear r1 r2 hx hlt hsm hfa hlk hil;cases q
     case true=>
      have hs:=HSD.out rfl;have HF:Hid (aX V=10):=zh (HDD.out 10 zo ((HGB.out (by rw [hs];decide)).trans hs));clear hs
      go_wp2_with ((first|(go_at_call 160;refine(HCF.out _ af zN).mono ?_;rintro e' w' ⟨rfl,bs0,d0,rfl⟩)|(go_at_call 162;first|((with_reducible refine(HN1.out _ af).mono ?_);rintro e' w' ⟨rfl,bs1,d1,rfl⟩)|((with_reducible refine(HN2.out _ af).mono ?_);rintro e' w' ⟨rfl,bs2,d2,rfl⟩))))
      go_returns
      exact⟨by rw [HF.out]<;>rfl,World.Grows.trans' HG.out (World.Grows.trans' HG1.out af)⟩
     have HST:=zh (HS1.out rfl);generalize eu env ge 1=c1 at *;generalize eu env gp 4=c2 at *;by_cases h1:c1=0
     case neg=>
      have hb:(c1 !=0)=true:=by simpa using h1
      have HF:Hid (aX V=c1):=zh (HDD.out c1 h1 ((HGB.out (by rw [HST.out,if_pos h1];exact h1)).trans (by rw [HST.out,if_pos h1])));clear h1
      go_wp2_with ((first|(go_at_call 160;refine(HCF.out _ af zN).mono ?_;rintro e' w' ⟨rfl,bs0,d0,rfl⟩)|(go_at_call 162;first|((with_reducible refine(HN1.out _ af).mono ?_);rintro e' w' ⟨rfl,bs1,d1,rfl⟩)|((with_reducible refine(HN2.out _ af).mono ?_);rintro e' w' ⟨rfl,bs2,d2,rfl⟩))))
      go_returns
      exact⟨by rw [HF.out]<;>rfl,World.Grows.trans' HG.out (World.Grows.trans' HG1.out af)⟩
     subst h1;by_cases h2:c2=0
     case neg=>
      have hb:(c2 !=0)=true:=by simpa using h2
      have HF:Hid (aX V=c2):=zh (HDD.out c2 h2 ((HGB.out (by rw [HST.out,if_neg zg];exact h2)).trans yp));clear h2
      go_wp2_with ((first|(go_at_call 160;refine(HCF.out _ af zN).mono ?_;rintro e' w' ⟨rfl,bs0,d0,rfl⟩)|(go_at_call 162;first|((with_reducible refine(HN1.out _ af).mono ?_);rintro e' w' ⟨rfl,bs1,d1,rfl⟩)|((with_reducible refine(HN2.out _ af).mono ?_);rintro e' w' ⟨rfl,bs2,d2,rfl⟩))))
      go_returns
      exact⟨by rw [HF.out]<;>rfl,World.Grows.trans' HG.out (World.Grows.trans' HG1.out af)⟩
     subst h2;have HNX:=zh (HGN.out yp)
     go_wp2_with ((first|(go_at_call 160;refine(HCF.out _ af zN).mono ?_;rintro e' w' ⟨rfl,bs0,d0,rfl⟩)|(go_at_call 162;first|((with_reducible refine(HN1.out _ af).mono ?_);rintro e' w' ⟨rfl,bs1,d1,rfl⟩)|((with_reducible refine(HN2.out _ af).mono ?_);rintro e' w' ⟨rfl,bs2,d2,rfl⟩))))
     go_roundw
     case rel=>exact⟨i+1,HKL.out,by go_num,HNX,World.Grows.trans' HG1.out af⟩
     case measure=>simp [intOf];have:=HKL.out;omega
    obtain rfl:i=K6.length:=by omega
    have HEF:Hid (aX V=reG env [] V.re):=zh (HEE.out (HAT.out.trans (by rw [HL6.out,drop_length,grG])));clear HAT HDD HEE;have HEE:=HEF;clear HEF;have q7:=HBX1.out.c7
    go_wp2_with fail
    go_loopw [95] (fun v11 wr=>∃i:Nat,i<=K7.length/\v11= .int .i64 i/\Hid (reG env [] V.re=reG env (K7.take i) (V.re.drop i))/\W.Grows wr) (fun v11 _=>K7.length-(intOf v11).toNat)
    case atStart=>exact⟨0,by omega,rfl,zh rfl,HG1.out⟩
    case round=>
     obtain⟨i,hi,rfl,HAT,hgr⟩:=hrel;obtain⟨W1,rfl⟩:∃W1,W1=wr:=⟨_,rfl⟩;have HG1:=zh hgr;have HGW:=zh (World.Grows.trans' HG.out hgr);have HBX1:=zh (HBX.out.grows hgr);have q3:=HBX1.out.lt;have q0:=HBX1.out.c7;clear hgr;by_cases hlk:i<K7.length
     ·have HKL:=zh hlk;have hlt:i<V.re.length:=by rw [<-HL7.out];exact hlk
      have hil:i<=V.re.length:=by omega
      have d1:(i:Int)<(K7.length:Int):=by omega
      have d9:(i:Int)<=(k7:Int):=by have:=HC7.out;omega
      have d8:i<=k7:=by have:=HC7.out;omega
      have HGR1:=zh (HV.out.re.grows HGW.out);obtain⟨-,a',c',hvv,hx⟩:=HGR1.out;simp only [Value.slice.injEq]at hvv;obtain⟨rfl,-,rfl⟩:=hvv;rcases hx with h0|⟨b,off,rfl,hbw,hx⟩
      ·omega
      obtain⟨u,hg⟩:=hx i hlt;have hsm:=HS.out.re _ (fD hlt);have hfa:=mF hK7.out hlt;have HGN:=zh (fun h=>HAT.out.trans (AA (env:=env) hK7.out hlt h));have HGB:=zh (fun h=>HAT.out.trans (xU (env:=env) hK7.out hlt h))
      have HCF:=zh (fun w' (hg:W1.Grows w') (a1 a2 a3 a4 a5 a6:Value) (hb:w'.heap[W1.heap.size]? =some (.cells #[.int .i64 (V.re.getD i default).1,a1,a2,a3,a4,a5,a6] 134 (0,0)))=>by
       have:=Kz 164 #[.pointer (some ⟨W1.heap.size,0,none⟩)] R4 (fun k=>decide (K7.getD k 0=K7.getD i 0)) (.slice (some ⟨b,off,none⟩) i k7) i w' (MM (HGR1.out.grows hg) hil _ _ (fun k hk b1 b2 b3 b4 b5 b6 w2 hg2=>by
        rw [mF hK7.out (show k<V.re.length by omega),hfa]
        exact F9 _ _ b1 b2 b3 b4 b5 b6 a1 a2 a3 a4 a5 a6 W1.heap.size w2 ((hg2.below.block _ (Array.getElem?_eq_some_iff.1 hb).1).trans hb)))
       rw [Eb (by have:=HL7.out;omega),hfa]at this
       exact this)
      rw [<-hfa]at HCF;have HSD:=zh (fun(h:(K7.take i).contains (K7.getD i 0)=true)=>EQ (env:=env) (pre:=K7.take i) (g:=V.re.getD i default) (by rw [<-hfa];exact h));have HS1:=zh (fun(h:(K7.take i).contains (K7.getD i 0)=false)=>EP (env:=env) (pre:=K7.take i) (g:=V.re.getD i default) (by rw [<-hfa];exact h));generalize(K7.take i).contains (K7.getD i 0)=q at *;rw [hfa]at HCF;generalize V.re.getD i default=g at *;obtain⟨gn,ge⟩:=g;obtain⟨m,m0,m1,m2,m3,m4,m5,r1⟩:=hg;dsimp only at m m0 m1 m2 m3 m4 m5 r1 hsm HSD HS1 HGN HGB HCF;obtain⟨ua,uc,rfl⟩:=r1.form0;have HR1:=zh r1;have HEW:=zh (HEV.out.grows HG1.out);have HTV:=zh (HTW.out.grows HG1.out);have HN1:=zh (fun w' (hg:W1.Grows w')=>tF env ge _ _ 2 w' (HR1.out.grows hg) hsm (HTV.out.grows hg) (HEW.out.grows hg));unfold exV at HN1;have HN2:=HN1;replace HCF:=zh (fun w' hg=>HCF.out w' hg (.int .i64 ge.op) (.int .i64 ge.num) (.int .i64 ge.den) (.int .i64 ge.dim) (.string ge.name) (.slice ua ge.args.length uc));clear r1 hx hlt hsm hfa hlk hil;cases q
      case true=>
       have hs:=HSD.out rfl;have HF:Hid (aX V=10):=zh (HEE.out.trans ((HGB.out (by rw [hs];decide)).trans hs));clear hs
       go_wp2_with ((first|(go_at_call 163;refine(HCF.out _ af zN).mono ?_;rintro e' w' ⟨rfl,bs0,d0,rfl⟩)|(go_at_call 162;first|((with_reducible refine(HN1.out _ af).mono ?_);rintro e' w' ⟨rfl,bs1,d1,rfl⟩)|((with_reducible refine(HN2.out _ af).mono ?_);rintro e' w' ⟨rfl,bs2,d2,rfl⟩))))
       go_returns
       exact⟨by rw [HF.out]<;>rfl,World.Grows.trans' HG.out (World.Grows.trans' HG1.out af)⟩
      have HST:=zh (HS1.out rfl);generalize eu env ge 2=c1 at *;by_cases h1:c1=0
      case neg=>
       have hb:(c1 !=0)=true:=by simpa using h1
       have HF:Hid (aX V=c1):=zh (HEE.out.trans ((HGB.out (by rw [HST.out];exact h1)).trans HST.out));clear h1
       go_wp2_with ((first|(go_at_call 163;refine(HCF.out _ af zN).mono ?_;rintro e' w' ⟨rfl,bs0,d0,rfl⟩)|(go_at_call 162;first|((with_reducible refine(HN1.out _ af).mono ?_);rintro e' w' ⟨rfl,bs1,d1,rfl⟩)|((with_reducible refine(HN2.out _ af).mono ?_);rintro e' w' ⟨rfl,bs2,d2,rfl⟩))))
       go_returns
       exact⟨by rw [HF.out]<;>rfl,World.Grows.trans' HG.out (World.Grows.trans' HG1.out af)⟩
      subst h1;have HNX:=zh (HGN.out HST.out)
      go_wp2_with ((first|(go_at_call 163;refine(HCF.out _ af zN).mono ?_;rintro e' w' ⟨rfl,bs0,d0,rfl⟩)|(go_at_call 162;first|((with_reducible refine(HN1.out _ af).mono ?_);rintro e' w' ⟨rfl,bs1,d1,rfl⟩)|((with_reducible refine(HN2.out _ af).mono ?_);rintro e' w' ⟨rfl,bs2,d2,rfl⟩))))
      go_roundw
      case rel=>exact⟨i+1,HKL.out,by go_num,HNX,World.Grows.trans' HG1.out af⟩
      case measure=>simp [intOf];have:=HKL.out;omega
     obtain rfl:i=K7.length:=by omega
     have HF:Hid (aX V=0):=zh (HEE.out.trans (HAT.out.trans (by rw [HL7.out,drop_length,reG])));clear HAT HEE
     go_wp2_with fail
     go_returns
     exact⟨by rw [HF.out]<;>rfl,World.Grows.trans' HG.out (World.Grows.trans' HG1.out af)⟩
def iO(V:cO)(v:Vw):Int:=if v.ok=false then 1 else aX V
theorem xH(V:cO)(v:Vw)(y:Value)(x0 x1 x2:Int)(v3 v4 v5 v6 v7:Value)(w:World)(h:vv w V v3 v4 v5 v6 v7)(hnx:gV 2 w v3 V.cr.length/\gV 3 w v4 V.se.length)(hcp:jg v3/\jg v6/\jg v7)(hs:kT V)(ht:Tab w)(hrng:dN v)(hY:bK w y v.years) :
 Calls prog 77 #[.agg #[.int .i64 x0,.int .i64 x1,.int .i64 x2,v3,v4,v5,v6,v7],vwV v y] w fun e w'=>e= .returned (.int .i64 (iO V v))/\w.Grows w':=by
 have HV:=zh h;have HN:=zh hnx;have HCP:=zh hcp;have HS:=zh hs;have HT:=zh ht;have HY:=zh hY;have HVW:=zh (fun w' (hg:w.Grows w')=>fK v y w' hrng (HY.out.grows hg));have HVR:=zh (fun w' (hg:w.Grows w')=>Af V x0 x1 x2 v3 v4 v5 v6 v7 w' (HV.out.grows hg) ⟨HN.out.1.grows hg,HN.out.2.grows hg⟩ HCP.out HS.out (HT.out.grows hg));obtain⟨-,a3,k3,rfl,-⟩:=h.cr;obtain⟨-,a4,k4,rfl,-⟩:=h.se;obtain⟨-,a5,k5,rfl,-⟩:=h.le;obtain⟨-,a6,k6,rfl,-⟩:=h.gr;obtain⟨-,a7,k7,rfl,-⟩:=h.re;obtain⟨-,ya,yc,rfl,-⟩:=hY;unfold vwV at HVW;unfold vwV;simp only [length_map]at HVR ⊢;clear h hnx hcp hs ht hrng
 cases hok:v.ok with
 |false=>
  have HF:Hid (iO V v=1):=zh (by unfold iO;rw [if_pos hok]);rw [hok]at HVW;clear hok
  go_enter func77,ntmps77
  go_wp2_with (go_at_call 20;refine(HVW.out _ af).mono ?_;rintro e' w' ⟨rfl,bs,d,rfl⟩)
  go_returns
  exact⟨by rw [HF.out]<;>rfl,af⟩
 |true=>
  have HF:Hid (iO V v=aX V):=zh (by unfold iO;rw [if_neg (by rw [hok];simp)]);rw [hok]at HVW;clear hok
  go_enter func77,ntmps77
  go_wp2_with (first|(go_at_call 20;refine(HVW.out _ af).mono ?_;rintro e' w' ⟨rfl,bs,d,rfl⟩)|(go_at_call 124;refine(HVR.out _ af).mono ?_;rintro e' w' ⟨rfl,bs2,d2,rfl⟩))
  go_returns
  exact⟨by rw [HF.out]<;>rfl,af⟩
theorem uG(v:Vw)(y:Value)(st:List (ByteArray × Val))(p:ByteArray × Val)(vb:Value)(X:Nat)(w:World)(hev:w.heap[X]? =some (.cells (evC v y vb) 126 (0,0)))(hst:aV w vb (st++[p])) :
 Calls prog 81 #[.pointer (some ⟨X,0,none⟩)] w fun e w'=>e= .returned (dM p.2)/\w.Grows w':=by
 obtain⟨h1000,a,cap,rfl,h0|⟨b,off,rfl,hb,hc⟩⟩:=hst
 ·simp at h0
 obtain⟨s0,s1,s2,s3,s4⟩:=hc st.length zg;have e1:stV (st++[p]) st.length=p.2:=by simp [stV,getD_eq_getElem?_getD]
 have hl:(st++[p]).length=st.length+1:=by simp
 rw [e1]at s1 s2 s3 s4;rw [hl]at hev h1000;have x13:w.cell? ⟨X,13,none⟩=some (.slice (some ⟨b,off,none⟩) (st.length+1) cap):=by rw [cell_of_row w _ _ _ _ _ hev];rfl
 have hX:X<w.heap.size:=(Array.getElem?_eq_some_iff.1 hev).1;generalize st.length=n at *;have d1:((n+1:Nat):Int)-1=(n:Int):=by omega
 have d2:(n:Int)<((n+1:Nat):Int):=by omega
 have d3:(0:Int)<=(n:Int):=by omega
 obtain⟨nm,x⟩:=p;dsimp only at s1 s2 s3 s4;unfold dM;dsimp only;clear hc hev e1 hl s0
 go_enter func81,ntmps81
 go_wp2_with fail
 go_region
 go_wp2_with fail
 go_returns
 exact⟨rfl,.of_below ag⟩
theorem RZ(m n d:Int)(y:Bool)(w:World):(Instr.field 34 (.agg #[.int .i64 m,.bool y,.int .i64 n,.int .i64 d]) 1).run prog w= .ok (.bool y) w:=by kernel_rfl
theorem Rp(m n d:Int)(y:Bool)(w:World):(Instr.field 34 (.agg #[.int .i64 m,.bool y,.int .i64 n,.int .i64 d]) 2).run prog w= .ok (.agg #[.int .i64 n,.int .i64 d]) w:=by kernel_rfl
theorem BH{env:List (ByteArray × Int)}:∀(l:List (Int × Ex × Ex)) (pre:List Int),grG env pre l=0->(∀g∈l,pre.contains g.1=false)/\l.Pairwise (fun a b=>a.1≠b.1)
 | [],_,_=>⟨fun _ h=>by(cases h),.nil⟩
 |g::r,pre,h=>by
  rw [grG]at h
  split at h
  ·cases h
  rename_i h0
  split at h
  ·rename_i h1;exact absurd h h1
  split at h
  ·rename_i h1;exact absurd h h1
  obtain⟨a,b⟩:=BH r _ h;have ha:=fun x hx=>Bool.eq_false_iff.1 (a x hx);refine⟨fun x hx=>?_,pairwise_cons.2 ⟨fun x hx e=>ha x hx (contains_iff_mem.2 (mem_append.2 (.inr (by simp [e])))),b⟩⟩;rcases mem_cons.1 hx with rfl|hx
  ·simpa using h0
  ·exact Bool.eq_false_iff.2 fun c=>ha x hx (contains_iff_mem.2 (mem_append.2 (.inl (contains_iff_mem.1 c))))
theorem AB{env:List (ByteArray × Int)}:∀(l:List (Int × Ex)) (pre:List Int),reG env pre l=0->(∀g∈l,pre.contains g.1=false)/\l.Pairwise (fun a b=>a.1≠b.1)
 | [],_,_=>⟨fun _ h=>by(cases h),.nil⟩
 |g::r,pre,h=>by
  rw [reG]at h
  split at h
  ·cases h
  rename_i h0
  split at h
  ·rename_i h1;exact absurd h h1
  obtain⟨a,b⟩:=AB r _ h;have ha:=fun x hx=>Bool.eq_false_iff.1 (a x hx);refine⟨fun x hx=>?_,pairwise_cons.2 ⟨fun x hx e=>ha x hx (contains_iff_mem.2 (mem_append.2 (.inr (by simp [e])))),b⟩⟩;rcases mem_cons.1 hx with rfl|hx
  ·simpa using h0
  ·exact Bool.eq_false_iff.2 fun c=>ha x hx (contains_iff_mem.2 (mem_append.2 (.inl (contains_iff_mem.1 c))))
theorem tC{V:cO}(h:aX V=0):V.gr.Pairwise (fun a b=>a.1≠b.1)/\V.re.Pairwise (fun a b=>a.1≠b.1):=by
 unfold aX at h
 split at h
 ·rename_i h1;exact absurd h h1
 split at h
 ·cases h
 split at h
 ·cases h
 split at h
 ·rename_i h2;exact absurd h h2
 rename_i h2
 exact⟨(BH _ _ (Decidable.byContradiction h2)).2,(AB _ _ h).2⟩
theorem rT{β:Type}[Inhabited (Int × β)]{l:List (Int × β)}{b:Int}{k:Nat}(h:l.Pairwise (fun a b=>a.1≠b.1))(hk:k<l.length)(hb:(l.getD k default).1=b):∀j,j<k->(l.getD j default).1≠b:=fun j hj e=>by
 have hjl:j<l.length:=by omega
 have g:∀i (hi:i<l.length),l.getD i default=l[i]:=fun i hi=>by rw [getD_eq_getElem?_getD,getElem?_eq_getElem hi];rfl
 exact pairwise_iff_getElem.1 h j k hjl hk hj (by rw [<-g j hjl,<-g k hk,e,hb])
theorem Hy{V:cO}{b:Int}{v:Vw}{c:Int}(h:iO V v=c)(hc:c≠0):gH V b v=((false,0,0),[],c):=by
 unfold iO at h
 split at h
 ·subst h;exact BK zv
 ·subst h;exact Fw (by simpa using ‹¬v.ok=false›) hc
theorem Gj{V:cO}{b:Int}{v:Vw}{c:Int}(h:iO V v=c)(hc:c≠0):lN V b v=((0,0),c):=by
 unfold iO at h
 split at h
 ·subst h;exact AC zv
 ·subst h;exact EX (by simpa using ‹¬v.ok=false›) hc
theorem uX{V:cO}{v:Vw}(h:iO V v=0):v.ok=true/\aX V=0:=by
 unfold iO at h
 split at h
 ·cases h
 ·exact⟨by simpa using ‹¬v.ok=false›,h⟩
theorem Ev{v:Vw}{ls:List (ByteArray × Ex)}{e:Ex}{nm:ByteArray}{D0 D:List Nat}{st0 st:List (ByteArray × Val)}(h:dX v ls e nm D0 st0=(D,st,0)):∃st' x,st=st'++[(nm,x)]/\gD v ls (aA e ls) D0 st0=(D,st',0)/\ai v st' e=(x,0):=by
 unfold dX at h
 split at h
 ·rename_i h1;rw [h]at h1;exact absurd rfl h1
 rename_i h1
 split at h
 ·rename_i h2;exact absurd (Prod.mk.inj (Prod.mk.inj h).2).2 h2
 rename_i h2
 obtain⟨h3,h4⟩:=Prod.mk.inj h;obtain⟨h4,-⟩:=Prod.mk.inj h4;exact⟨_,_,h4.symm,Prod.ext h3 (Prod.ext rfl (Decidable.byContradiction h1)),Prod.ext rfl (Decidable.byContradiction h2)⟩
theorem iC.start{W0 w1:World}{X N:Nat}{v:Vw}{y:Value}{n:Nat}(hg:W0.Grows w1)(h1:w1.heap[X]? =some (.cells (evC v y (.slice none 0 0)) 126 (0,0)))(h2:w1.heap[N]? =some (.cells (madeCells #[.bool false] n) 4 (0,0))):iC W0 w1 X N v y (.slice none 0 0) n [] []:=
 ⟨hg,h1,⟨_,by rw [h2,Cw],Marks.zero n⟩,World.ownsRow_nil _ _ _ _,fun k hk=>by cases hk⟩
theorem MN(fn:FuncId){w:World}{a:Option Addr}{cap n i:Nat}{l:List (Int × Ex × Ex)}(h:iW w (.slice a n cap) l)(hi:i<=l.length)(lb:Array Value)(p:Nat->Bool)
 (hp:∀k,k<i->∀(a1 a2 a3 a4 a5 a6 a7 a8 a9 a10 a11 a12:Value),∀w',w.Grows w'->Calls prog fn (#[.agg (.int .i64 (l.getD k default).1::[a1,a2,a3,a4,a5,a6,a7,a8,a9,a10,a11,a12]).toArray]++lb) w' fun r w''=>r= .returned (.bool (p k))/\w'.Grows w'') :
 vB 13 fn lb p w (.slice a i cap) i:=by
 obtain⟨h0,a1,c1,hv1,h1⟩:=h;simp only [Value.slice.injEq]at hv1;obtain⟨rfl,rfl,rfl⟩:=hv1;refine⟨by omega,a,cap,rfl, ?_⟩;by_cases hz:i=0
 ·exact .inl hz
 rcases h1 with h1|⟨b,off,rfl,hb,hc⟩
 ·omega
 refine .inr ⟨b,off,rfl,hb,fun k hk=>?_⟩;obtain⟨u,u',g⟩:=hc k ze;refine⟨[.int .i64 (l.getD k default).1,.int .i64 (l.getD k default).2.1.op,.int .i64 (l.getD k default).2.1.num,.int .i64 (l.getD k default).2.1.den,.int .i64 (l.getD k default).2.1.dim,.string (l.getD k default).2.1.name,u,.int .i64 (l.getD k default).2.2.op,.int .i64 (l.getD k default).2.2.num,.int .i64 (l.getD k default).2.2.den,.int .i64 (l.getD k default).2.2.dim,.string (l.getD k default).2.2.name,u'],rfl,fun j x hj=>?_,hp k hk _ _ _ _ _ _ _ _ _ _ _ _⟩
 match j,hj with
 |0,hj=>cases hj;exact g.nm
 |1,hj=>cases hj;exact g.c0
 |2,hj=>cases hj;exact g.c1
 |3,hj=>cases hj;exact g.c2
 |4,hj=>cases hj;exact g.c3
 |5,hj=>cases hj;exact g.c4
 |6,hj=>cases hj;exact g.c5
 |7,hj=>cases hj;exact g.e0
 |8,hj=>cases hj;exact g.e1
 |9,hj=>cases hj;exact g.e2
 |10,hj=>cases hj;exact g.e3
 |11,hj=>cases hj;exact g.e4
 |12,hj=>cases hj;exact g.e5
theorem ML(fn:FuncId){w:World}{a:Option Addr}{cap n i:Nat}{l:List (Int × Ex)}(h:mU w (.slice a n cap) l)(hi:i<=l.length)(lb:Array Value)(p:Nat->Bool)
 (hp:∀k,k<i->∀(a1 a2 a3 a4 a5 a6:Value),∀w',w.Grows w'->Calls prog fn (#[.agg (.int .i64 (l.getD k default).1::[a1,a2,a3,a4,a5,a6]).toArray]++lb) w' fun r w''=>r= .returned (.bool (p k))/\w'.Grows w'') :
 vB 7 fn lb p w (.slice a i cap) i:=by
 obtain⟨h0,a1,c1,hv1,h1⟩:=h;simp only [Value.slice.injEq]at hv1;obtain⟨rfl,rfl,rfl⟩:=hv1;refine⟨by omega,a,cap,rfl, ?_⟩;by_cases hz:i=0
 ·exact .inl hz
 rcases h1 with h1|⟨b,off,rfl,hb,hc⟩
 ·omega
 refine .inr ⟨b,off,rfl,hb,fun k hk=>?_⟩;obtain⟨u,g⟩:=hc k ze;refine⟨[.int .i64 (l.getD k default).1,.int .i64 (l.getD k default).2.op,.int .i64 (l.getD k default).2.num,.int .i64 (l.getD k default).2.den,.int .i64 (l.getD k default).2.dim,.string (l.getD k default).2.name,u],rfl,fun j x hj=>?_,hp k hk _ _ _ _ _ _⟩
 match j,hj with
 |0,hj=>cases hj;exact g.nm
 |1,hj=>cases hj;exact g.c0
 |2,hj=>cases hj;exact g.c1
 |3,hj=>cases hj;exact g.c2
 |4,hj=>cases hj;exact g.c3
 |5,hj=>cases hj;exact g.c4
 |6,hj=>cases hj;exact g.c5
theorem Rt:∀args w,(callFunc 86 args).run prog w= .ok (.enter 86 args) w:=enters_of func86 zf rfl
theorem Dj(z y:Int)(a1 a2 a3 a4 a5 a6 a7 a8 a9 a10 a11 a12:Value)(b:Nat)(w:World)(hb:w.heap[b]? =some (.cells #[.int .i64 y] 3 (0,0))) :
 Calls prog 86 (#[.agg (.int .i64 z::[a1,a2,a3,a4,a5,a6,a7,a8,a9,a10,a11,a12]).toArray]++#[.pointer (some ⟨b,0,none⟩)]) w fun r w'=>r= .returned (.bool (decide (z=y)))/\w.Grows w':=by
 show Calls prog 86 #[.agg #[.int .i64 z,a1,a2,a3,a4,a5,a6,a7,a8,a9,a10,a11,a12],.pointer (some ⟨b,0,none⟩)] w _;have hbl:b<w.heap.size:=(Array.getElem?_eq_some_iff.1 hb).1;have x0:w.cell? ⟨b,0,none⟩=some (.int .i64 y):=by rw [cell_of_row w b _ _ _ _ hb];rfl
 clear hb;by_cases hn:z=y
 ·have h2:(z==y)=true:=by rw [hn];simp
  have HD:Hid (decide (z=y)=true):=zh (decide_eq_true hn);clear hn
  go_enter func86,ntmps86
  go_wp2_with fail
  go_returns
  exact⟨au HD.out.symm,.of_below ag⟩
 ·have h2:(z==y)=false:=by simpa using hn
  have HD:Hid (decide (z=y)=false):=zh (decide_eq_false hn);clear hn
  go_enter func86,ntmps86
  go_wp2_with fail
  go_returns
  exact⟨au HD.out.symm,.of_below ag⟩
theorem Rs:∀args w,(callFunc 79 args).run prog w= .ok (.enter 79 args) w:=enters_of func79 zf rfl
theorem Di(z y:Int)(a1 a2 a3 a4 a5 a6:Value)(b:Nat)(w:World)(hb:w.heap[b]? =some (.cells #[.int .i64 y] 3 (0,0))) :
 Calls prog 79 (#[.agg (.int .i64 z::[a1,a2,a3,a4,a5,a6]).toArray]++#[.pointer (some ⟨b,0,none⟩)]) w fun r w'=>r= .returned (.bool (decide (z=y)))/\w.Grows w':=by
 show Calls prog 79 #[.agg #[.int .i64 z,a1,a2,a3,a4,a5,a6],.pointer (some ⟨b,0,none⟩)] w _;have hbl:b<w.heap.size:=(Array.getElem?_eq_some_iff.1 hb).1;have x0:w.cell? ⟨b,0,none⟩=some (.int .i64 y):=by rw [cell_of_row w b _ _ _ _ hb];rfl
 clear hb;by_cases hn:z=y
 ·have h2:(z==y)=true:=by rw [hn];simp
  have HD:Hid (decide (z=y)=true):=zh (decide_eq_true hn);clear hn
  go_enter func79,ntmps79
  go_wp2_with fail
  go_returns
  exact⟨au HD.out.symm,.of_below ag⟩
 ·have h2:(z==y)=false:=by simpa using hn
  have HD:Hid (decide (z=y)=false):=zh (decide_eq_false hn);clear hn
  go_enter func79,ntmps79
  go_wp2_with fail
  go_returns
  exact⟨au HD.out.symm,.of_below ag⟩
end Go.Proofs.YtlheailebbngiaaGreatDoor
