import Derived.Test.YtlheailebbngiaaGreatDoorGLt5
import Derived.Test.YtlheailebbngiaaGreatDoorGUsW
set_option linter.all false
set_option maxHeartbeats 16000000
set_option maxRecDepth 1000000
namespace Go.Proofs.YtlheailebbngiaaGreatDoor
open Go.Proofs.Tryz List
open Go.RowKit
theorem sN(env:List (ByteArray × Int))(e:Ex)(v ve:Value)(want:Int)(w:World)(h:aC (fun _=>True) w e v)(hbig:e.size<=1000000)(ht:Tab w)(hv:aU w ve env) :
 Calls prog 162 #[exV e v,ve,.int .i64 want] w fun r w'=>r= .returned (.int .i64 (dZ env e want))/\w.Grows w':=by
 have HR:=zh h;have HV:=zh hv;have HT:=zh ht;obtain⟨a,cap,rfl⟩:=h.form0;obtain⟨-,ba,bc,rfl,-⟩:=hv;have HI:=zh (fun w' (hg:w.Grows w')=>ow (fun _=>True) env e (.slice a e.args.length cap) (.slice ba env.length bc) w' (HR.out.grows hg) ze (HT.out.grows hg) (HV.out.grows hg));unfold jh exV at HI;have HN:Hid (dZ env e want=if(aT env e).2=0/\(aT env e).1≠want then 6 else(aT env e).2):=zh rfl;generalize aT env e=r at *;obtain⟨d,c⟩:=r;dsimp only at HI HN;clear h ht;by_cases hc:c=0
 ·subst hc;by_cases hd:d=want
  ·subst hd;have HF:Hid (dZ env e d=0):=zh (by rw [HN.out];simp)
   go_enter func162,ntmps162
   go_wp2_with (go_at_call 67;refine(HI.out _ ag).mono ?_;rintro e' w' ⟨rfl,bs,d',rfl⟩)
   go_returns
   exact⟨by rw [HF.out]<;>rfl,ag⟩
  ·have hd2:(d !=want)=true:=by simpa using hd
   have HF:Hid (dZ env e want=6):=zh (by rw [HN.out,if_pos ⟨rfl,hd⟩]);clear hd
   go_enter func162,ntmps162
   go_wp2_with (go_at_call 67;refine(HI.out _ ag).mono ?_;rintro e' w' ⟨rfl,bs,d',rfl⟩)
   go_returns
   exact⟨by rw [HF.out]<;>rfl,ag⟩
 ·have hc2:(c !=0)=true:=by simpa using hc
  have HF:Hid (dZ env e want=c):=zh (by rw [HN.out,if_neg (fun h=>hc h.1)]);clear hc
  go_enter func162,ntmps162
  go_wp2_with (go_at_call 67;refine(HI.out _ ag).mono ?_;rintro e' w' ⟨rfl,bs,d',rfl⟩)
  go_returns
  exact⟨by rw [HF.out]<;>rfl,ag⟩
theorem Rp:∀args w,(callFunc 159 args).run prog w= .ok (.enter 159 args) w:=enters_of func159 zf rfl
theorem FH(z y:Int)(a1 b1:Value)(b:Nat)(w:World)(hb:w.heap[b]? =some (.cells #[.int .i64 y,b1] 129 (0,0))) :
 Calls prog 159 (#[.agg (.int .i64 z::[a1]).toArray]++#[.pointer (some ⟨b,0,none⟩)]) w fun r w'=>r= .returned (.bool (decide (z=y)))/\w.Grows w':=by
 show Calls prog 159 #[.agg #[.int .i64 z,a1],.pointer (some ⟨b,0,none⟩)] w _;have hbl:b<w.heap.size:=(Array.getElem?_eq_some_iff.1 hb).1;have x0:w.cell? ⟨b,0,none⟩=some (.int .i64 y):=by rw [cell_of_row w b _ _ _ _ hb];rfl
 clear hb;by_cases hn:z=y
 ·have h2:(z==y)=true:=by rw [hn];simp
  have HD:Hid (decide (z=y)=true):=zh (decide_eq_true hn);clear hn
  go_enter func159,ntmps159
  go_wp2_with fail
  go_returns
  exact⟨au HD.out.symm,.of_below af⟩
 ·have h2:(z==y)=false:=by simpa using hn
  have HD:Hid (decide (z=y)=false):=zh (decide_eq_false hn);clear hn
  go_enter func159,ntmps159
  go_wp2_with fail
  go_returns
  exact⟨au HD.out.symm,.of_below af⟩
theorem Ro:∀args w,(callFunc 161 args).run prog w= .ok (.enter 161 args) w:=enters_of func161 zf rfl
theorem FE(z y:Int)(a1 a2 a3 a4 a5 a6 a7 a8 a9 a10 a11 a12 b1 b2 b3 b4 b5 b6 b7 b8 b9 b10 b11 b12:Value)(b:Nat)(w:World)(hb:w.heap[b]? =some (.cells #[.int .i64 y,b1,b2,b3,b4,b5,b6,b7,b8,b9,b10,b11,b12] 97 (0,0))) :
 Calls prog 161 (#[.agg (.int .i64 z::[a1,a2,a3,a4,a5,a6,a7,a8,a9,a10,a11,a12]).toArray]++#[.pointer (some ⟨b,0,none⟩)]) w fun r w'=>r= .returned (.bool (decide (z=y)))/\w.Grows w':=by
 show Calls prog 161 #[.agg #[.int .i64 z,a1,a2,a3,a4,a5,a6,a7,a8,a9,a10,a11,a12],.pointer (some ⟨b,0,none⟩)] w _;have hbl:b<w.heap.size:=(Array.getElem?_eq_some_iff.1 hb).1;have x0:w.cell? ⟨b,0,none⟩=some (.int .i64 y):=by rw [cell_of_row w b _ _ _ _ hb];rfl
 clear hb;by_cases hn:z=y
 ·have h2:(z==y)=true:=by rw [hn];simp
  have HD:Hid (decide (z=y)=true):=zh (decide_eq_true hn);clear hn
  go_enter func161,ntmps161
  go_wp2_with fail
  go_returns
  exact⟨au HD.out.symm,.of_below af⟩
 ·have h2:(z==y)=false:=by simpa using hn
  have HD:Hid (decide (z=y)=false):=zh (decide_eq_false hn);clear hn
  go_enter func161,ntmps161
  go_wp2_with fail
  go_returns
  exact⟨au HD.out.symm,.of_below af⟩
theorem Rn:∀args w,(callFunc 164 args).run prog w= .ok (.enter 164 args) w:=enters_of func164 zf rfl
theorem FD(z y:Int)(a1 a2 a3 a4 a5 a6 b1 b2 b3 b4 b5 b6:Value)(b:Nat)(w:World)(hb:w.heap[b]? =some (.cells #[.int .i64 y,b1,b2,b3,b4,b5,b6] 134 (0,0))) :
 Calls prog 164 (#[.agg (.int .i64 z::[a1,a2,a3,a4,a5,a6]).toArray]++#[.pointer (some ⟨b,0,none⟩)]) w fun r w'=>r= .returned (.bool (decide (z=y)))/\w.Grows w':=by
 show Calls prog 164 #[.agg #[.int .i64 z,a1,a2,a3,a4,a5,a6],.pointer (some ⟨b,0,none⟩)] w _;have hbl:b<w.heap.size:=(Array.getElem?_eq_some_iff.1 hb).1;have x0:w.cell? ⟨b,0,none⟩=some (.int .i64 y):=by rw [cell_of_row w b _ _ _ _ hb];rfl
 clear hb;by_cases hn:z=y
 ·have h2:(z==y)=true:=by rw [hn];simp
  have HD:Hid (decide (z=y)=true):=zh (decide_eq_true hn);clear hn
  go_enter func164,ntmps164
  go_wp2_with fail
  go_returns
  exact⟨au HD.out.symm,.of_below af⟩
 ·have h2:(z==y)=false:=by simpa using hn
  have HD:Hid (decide (z=y)=false):=zh (decide_eq_false hn);clear hn
  go_enter func164,ntmps164
  go_wp2_with fail
  go_returns
  exact⟨au HD.out.symm,.of_below af⟩
theorem Mh{w:World}{a:Option Addr}{cap n i:Nat}{K:List Int}(h:jN 2 w (.slice a K.length cap) K)(hx:iA 2 w (.slice a K.length cap) n)(hn:n=K.length)(hi:i<=K.length)(lb:Array Value)(p:Nat->Bool)(hp:∀k z,k<i->∀w',w.Grows w'->Calls prog 159 (#[.agg (.int .i64 (K.getD k 0)::[.int .i64 z]).toArray]++lb) w' fun r w''=>r= .returned (.bool (p k))/\w'.Grows w'') :
 vD 2 159 lb p w (.slice a i cap) i:=by
 subst hn;obtain⟨h0,a1,c1,hv1,h1⟩:=h;obtain⟨a2,c2,hv2,h2⟩:=hx;simp only [Value.slice.injEq,true_and]at hv1 hv2;obtain⟨rfl,rfl⟩:=hv1;obtain⟨rfl,rfl⟩:=hv2;refine⟨by omega,a,cap,rfl, ?_⟩;by_cases hz:i=0
 ·exact .inl hz
 rcases h1 with h1|⟨b,off,rfl,hb,hc⟩
 ·omega
 rcases h2 with h2|⟨b',off',ha,hb',hc'⟩
 ·omega
 simp only [Option.some.injEq,Addr.mk.injEq,and_true]at ha;obtain⟨rfl,rfl⟩:=ha;refine .inr ⟨b,off,rfl,hb,fun k hk=>?_⟩;obtain⟨z,hz⟩:=hc' k ze 1 ze;refine⟨[.int .i64 (K.getD k 0),.int .i64 z],rfl,fun j x hj=>?_,hp k z hk⟩
 match j,hj with
 |0,hj=>cases hj;exact hc k ze
 |1,hj=>cases hj;exact hz
theorem Mg{w:World}{a:Option Addr}{cap n i:Nat}{l:List (Int × Ex × Ex)}(h:iR w (.slice a n cap) l)(hi:i<=l.length)(lb:Array Value)(p:Nat->Bool)
 (hp:∀k,k<i->∀(a1 a2 a3 a4 a5 a6 a7 a8 a9 a10 a11 a12:Value),∀w',w.Grows w'->Calls prog 161 (#[.agg (.int .i64 (l.getD k default).1::[a1,a2,a3,a4,a5,a6,a7,a8,a9,a10,a11,a12]).toArray]++lb) w' fun r w''=>r= .returned (.bool (p k))/\w'.Grows w'') :
 vD 13 161 lb p w (.slice a i cap) i:=by
 obtain⟨h0,a1,c1,hv1,h1⟩:=h;simp only [Value.slice.injEq]at hv1;obtain⟨rfl,rfl,rfl⟩:=hv1;refine⟨by omega,a,cap,rfl, ?_⟩;by_cases hz:i=0
 ·exact .inl hz
 rcases h1 with h1|⟨b,off,rfl,hb,hc⟩
 ·omega
 refine .inr ⟨b,off,rfl,hb,fun k hk=>?_⟩;obtain⟨u,u',g⟩:=hc k ze;refine⟨[.int .i64 (l.getD k default).1,.int .i64 (l.getD k default).2.1.op,.int .i64 (l.getD k default).2.1.num,.int .i64 (l.getD k default).2.1.den,.int .i64 (l.getD k default).2.1.dim,.string (l.getD k default).2.1.name,u,.int .i64 (l.getD k default).2.2.op,.int .i64 (l.getD k default).2.2.num,.int .i64 (l.getD k default).2.2.den,.int .i64 (l.getD k default).2.2.dim,.string (l.getD k default).2.2.name,u'],rfl,fun j x hj=>?_,hp k hk _ _ _ _ _ _ _ _ _ _ _ _⟩
 match j,hj with
 |0,hj=>cases hj;exact g.nm
 |1,hj=>cases hj;exact g.c0
 |2,hj=>cases hj;exact g.c1
 |3,hj=>cases hj;exact g.c2
 |4,hj=>cases hj;exact g.c3
 |5,hj=>cases hj;exact g.c4
 |6,hj=>cases hj;exact g.c5
 |7,hj=>cases hj;exact g.e0
 |8,hj=>cases hj;exact g.e1
 |9,hj=>cases hj;exact g.e2
 |10,hj=>cases hj;exact g.e3
 |11,hj=>cases hj;exact g.e4
 |12,hj=>cases hj;exact g.e5
theorem Me{w:World}{a:Option Addr}{cap n i:Nat}{l:List (Int × Ex)}(h:om w (.slice a n cap) l)(hi:i<=l.length)(lb:Array Value)(p:Nat->Bool)
 (hp:∀k,k<i->∀(a1 a2 a3 a4 a5 a6:Value),∀w',w.Grows w'->Calls prog 164 (#[.agg (.int .i64 (l.getD k default).1::[a1,a2,a3,a4,a5,a6]).toArray]++lb) w' fun r w''=>r= .returned (.bool (p k))/\w'.Grows w'') :
 vD 7 164 lb p w (.slice a i cap) i:=by
 obtain⟨h0,a1,c1,hv1,h1⟩:=h;simp only [Value.slice.injEq]at hv1;obtain⟨rfl,rfl,rfl⟩:=hv1;refine⟨by omega,a,cap,rfl, ?_⟩;by_cases hz:i=0
 ·exact .inl hz
 rcases h1 with h1|⟨b,off,rfl,hb,hc⟩
 ·omega
 refine .inr ⟨b,off,rfl,hb,fun k hk=>?_⟩;obtain⟨u,g⟩:=hc k ze;refine⟨[.int .i64 (l.getD k default).1,.int .i64 (l.getD k default).2.op,.int .i64 (l.getD k default).2.num,.int .i64 (l.getD k default).2.den,.int .i64 (l.getD k default).2.dim,.string (l.getD k default).2.name,u],rfl,fun j x hj=>?_,hp k hk _ _ _ _ _ _⟩
 match j,hj with
 |0,hj=>cases hj;exact g.nm
 |1,hj=>cases hj;exact g.c0
 |2,hj=>cases hj;exact g.c1
 |3,hj=>cases hj;exact g.c2
 |4,hj=>cases hj;exact g.c3
 |5,hj=>cases hj;exact g.c4
 |6,hj=>cases hj;exact g.c5
theorem iA.at{c:Nat}{w:World}{b off n cap i j:Nat}(h:iA c w (.slice (some ⟨b,off,none⟩) n cap) n)(hi:i<n)(hj:j<c):∃z,w.cell? ⟨b,off+i*c+j,none⟩=some (.int .i64 z):=by
 obtain⟨a',cap',hv,h0|⟨b',off',rfl,hb,hc⟩⟩:=h
 ·omega
 ·simp only [Value.slice.injEq,Option.some.injEq,Addr.mk.injEq,and_true,true_and]at hv;obtain⟨⟨rfl,rfl⟩,rfl⟩:=hv;exact hc i hi j hj
theorem Dy{K:List Int}{i:Nat}(hi:i<=K.length)(y:Int):((List.range i).any fun k=>decide (K.getD k 0=y))=(K.take i).contains y:=(sP hi).symm
theorem yM(V:dK)(x0 x1 x2:Int)(v3 v4 v5 v6 v7:Value)(w:World)(h:yN w V v3 v4 v5 v6 v7)(hnx:iA 2 w v3 V.cr.length/\iA 3 w v4 V.se.length)(hcp:kQ v3/\kQ v6/\kQ v7)(hs:nK V)(ht:Tab w) :
 Calls prog 124 #[.agg #[.int .i64 x0,.int .i64 x1,.int .i64 x2,v3,v4,v5,v6,v7]] w fun e w'=>e= .returned (.int .i64 (bH V))/\w.Grows w':=by
 have HV:=zh h;have HS:=zh hs;have HT:=zh ht;have HLT:=zh (fun w' (hg:w.Grows w')=>IG V.le v5 w' (h.le.grows hg) hs.le (HT.out.grows hg));unfold lC at HLT;have HA:=IX (V:=V);have HB_:=IW (V:=V);have HC_:=IV (V:=V);have HD_:=IU (V:=V);have HE_:=IR (V:=V);have H3:=h.cr;have H4:=h.se;have H6:=h.gr.nums;have H7:=h.re.nums;obtain⟨hn3,hn4⟩:=hnx;obtain⟨K3,hK3⟩:∃K,V.cr.map Prod.fst=K:=⟨_,rfl⟩;obtain⟨K4,hK4⟩:∃K,V.se.map Prod.fst=K:=⟨_,rfl⟩;obtain⟨K6,hK6⟩:∃K,V.gr.map Prod.fst=K:=⟨_,rfl⟩;obtain⟨K7,hK7⟩:∃K,V.re.map Prod.fst=K:=⟨_,rfl⟩;rw [hK3]at H3 HB_ HC_ HD_ HE_;rw [hK4]at H4 HC_ HD_ HE_;rw [hK6]at H6;rw [hK7]at H7;have hl3:V.cr.length=K3.length:=by rw [<-hK3,length_map]
 have hl4:V.se.length=K4.length:=by rw [<-hK4,length_map]
 have hl6:K6.length=V.gr.length:=by rw [<-hK6,length_map]
 have hl7:K7.length=V.re.length:=by rw [<-hK7,length_map]
 rw [hl3]at hn3;rw [hl4]at hn4;replace hK6:=zh hK6;replace hK7:=zh hK7;have HL6:=zh hl6;have HL7:=zh hl7;obtain⟨h3l,a3,k3,rfl,-⟩:=id H3;obtain⟨h4l,a4,k4,rfl,-⟩:=id H4;obtain⟨h5l,a5,k5,rfl,-⟩:=h.le;obtain⟨h6l,a6,k6,rfl,-⟩:=id H6;obtain⟨h7l,a7,k7,rfl,-⟩:=id H7;have hk3:K3.length<=k3:=hcp.1 _ _ _ rfl;have hk6:K6.length<=k6:=hcp.2.1 _ _ _ rfl;have hk7:K7.length<=k7:=hcp.2.2 _ _ _ rfl;replace H3:=zh H3;replace H4:=zh H4;replace H6:=zh H6;replace H7:=zh H7;replace hn3:=zh hn3;replace hn4:=zh hn4;generalize dN V.le=L at *;obtain⟨env,c⟩:=L;dsimp only at HLT HA HB_ HC_ HD_ HE_;replace HA:=zh HA;replace HB_:=zh HB_;replace HC_:=zh HC_;replace HD_:=zh HD_;replace HE_:=zh HE_;have HC3:=zh hk3;have HC6:=zh hk6;have HC7:=zh hk7;clear h hs ht hK3 hK4 hl3 hl4 hl6 hl7 hcp hk3 hk6 hk7;by_cases hc:c=0
 case neg=>
  have hc2:(c !=0)=true:=by simpa using hc
  have HF:=zh (HA.out hc);clear hc
  go_enter func124,ntmps124
  go_wp2_with (go_at_call 157;refine(HLT.out _ ag).mono ?_;rintro e' w' ⟨x,rfl,⟨bs,d,rfl⟩,hbd⟩)
  go_returns
  exact⟨by rw [HF.out]<;>rfl,ag⟩
 subst hc
 go_enter func124,ntmps124
 go_wp2_with (go_at_call 157;refine(HLT.out _ ag).mono ?_;rintro e' w' ⟨x,rfl,⟨bs,d,rfl⟩,hbd⟩;have HBD:=zh hbd;obtain⟨-,xa,xc,rfl,-⟩:=hbd)
 refine gy (fun W hW=>?_);have HG:Hid (w.Grows W):=zh (by rw [<-hW];exact ag);have HBX:Hid (lF W w.heap.size (.int .i64 x0) (.int .i64 x1) (.int .i64 x2) (.slice a3 K3.length k3) (.slice a4 K4.length k4) (.slice a5 V.le.length k5) (.slice a6 K6.length k6) (.slice a7 K7.length k7)):=zh yI;have HEV:Hid (aU W (.slice xa env.length xc) env):=zh (by rw [<-hW];exact HBD.out);have HTW:=zh (HT.out.grows HG.out);clear hW HBD HLT HA
 go_loopw [28] (fun v4 wr=>∃i:Nat,i<=K3.length/\v4= .int .i64 i/\Hid (jZ [] K3=jZ (K3.take i) (K3.drop i))/\W.Grows wr) (fun v4 _=>K3.length-(intOf v4).toNat)
 case atStart=>exact⟨0,by omega,rfl,zh rfl,.refl _⟩
 case round=>
  obtain⟨i,hi,rfl,HAT,hgr⟩:=hrel;obtain⟨W1,rfl⟩:∃W1,W1=wr:=⟨_,rfl⟩;have HG1:=zh hgr;have HGW:=zh (World.Grows.trans' HG.out hgr);have HBX1:=zh (HBX.out.grows hgr);have q3:=HBX1.out.lt;have q0:=HBX1.out.c3;clear hgr;by_cases hlt:i<K3.length
  ·obtain⟨b,off,kcap,hkv,hkb,hkx⟩:=(H3.out.grows HGW.out).open_ hlt;simp only [Value.slice.injEq,true_and]at hkv;obtain⟨rfl,rfl⟩:=hkv;obtain⟨z,q2⟩:=(hn3.out.grows HGW.out).at hlt (show 1<2 by omega);have q1:=hkx i hlt;have HKL:=zh hlt;have d1:(i:Int)<(K3.length:Int):=by omega
   have d9:(i:Int)<=(k3:Int):=by have:=HC3.out;omega
   have d8:i<=k3:=by have:=HC3.out;omega
   have HAD:=zh (HAT.out.trans (DY hlt))
   have HCF:=zh (fun w' (hg:W1.Grows w') (hb:w'.heap[W1.heap.size]? =some (.cells #[.int .i64 (K3.getD i 0),.int .i64 z] 129 (0,0)))=>by
    have:=J4 159 #[.pointer (some ⟨W1.heap.size,0,none⟩)] Rp (fun k=>decide (K3.getD k 0=K3.getD i 0)) (.slice (some ⟨b,off,none⟩) i k3) i w' (Mh ((H3.out.grows HGW.out).grows hg) ((hn3.out.grows HGW.out).grows hg) rfl ze _ _ (fun k z' hk w2 hg2=>FH (K3.getD k 0) (K3.getD i 0) (.int .i64 z') (.int .i64 z) W1.heap.size w2 ((hg2.below.block _ (Array.getElem?_eq_some_iff.1 hb).1).trans hb)));rw [Dy ze]at this
    exact this)
   generalize hq:(K3.take i).contains (K3.getD i 0)=q at *;generalize K3.getD i 0=y at *;clear hkx hlt hq;cases q
   case true=>
    have HF:Hid (bH V=10):=zh (HB_.out trivial (by rw [HAD.out,Bool.true_or]))
    go_wp2_with ((first|(go_at_call 158;refine(HCF.out _ ag zN).mono ?_;rintro e' w' ⟨rfl,bs0,d0,rfl⟩)|(go_at_call 162;first|((with_reducible refine(HN1.out _ ag).mono ?_);rintro e' w' ⟨rfl,bs1,d1,rfl⟩)|((with_reducible refine(HN2.out _ ag).mono ?_);rintro e' w' ⟨rfl,bs2,d2,rfl⟩))))
    go_returns
    exact⟨by rw [HF.out]<;>rfl,World.Grows.trans' HG.out (World.Grows.trans' HG1.out ag)⟩
   have HNX:Hid (jZ [] K3=jZ (K3.take (i+1)) (K3.drop (i+1))):=zh (by rw [HAD.out,Bool.false_or])
   go_wp2_with ((first|(go_at_call 158;refine(HCF.out _ ag zN).mono ?_;rintro e' w' ⟨rfl,bs0,d0,rfl⟩)|(go_at_call 162;first|((with_reducible refine(HN1.out _ ag).mono ?_);rintro e' w' ⟨rfl,bs1,d1,rfl⟩)|((with_reducible refine(HN2.out _ ag).mono ?_);rintro e' w' ⟨rfl,bs2,d2,rfl⟩))))
   go_roundw
   case rel=>exact⟨i+1,HKL.out,by go_num,HNX,World.Grows.trans' HG1.out ag⟩
   case measure=>simp [intOf];have:=HKL.out;omega
  obtain rfl:i=K3.length:=by omega
  have H3D:Hid (jZ [] K3=false):=zh (HAT.out.trans ES);clear HAT;have q4:=HBX1.out.c4
  go_wp2_with fail
  go_loopw [43] (fun v6 wr=>∃k:Nat,k<=K4.length/\v6= .int .i64 k/\Hid (∀j,j+1<k->K4.getD j 0<K4.getD (j+1) 0)/\W.Grows wr) (fun v6 _=>K4.length-(intOf v6).toNat)
  case atStart=>exact⟨0,by omega,rfl,zh (fun j hj=>by omega),HG1.out⟩
  case round=>
   obtain⟨k,hk,rfl,HAS,hgr⟩:=hrel;obtain⟨W1,rfl⟩:∃W1,W1=wr:=⟨_,rfl⟩;have HG1:=zh hgr;have HGW:=zh (World.Grows.trans' HG.out hgr);have HBX1:=zh (HBX.out.grows hgr);have q3:=HBX1.out.lt;have q0:=HBX1.out.c4;clear hgr;by_cases hlt:k<K4.length
   ·have HKL:=zh hlt;obtain⟨b,off,kcap,hkv,hkb,hkx⟩:=(H4.out.grows HGW.out).open_ hlt;simp only [Value.slice.injEq,true_and]at hkv;obtain⟨rfl,rfl⟩:=hkv;obtain⟨z1,q4⟩:=(hn4.out.grows HGW.out).at hlt (show 1<3 by omega);obtain⟨z2,q5⟩:=(hn4.out.grows HGW.out).at hlt (show 2<3 by omega);have q1:=hkx k hlt;have d1:(k:Int)<(K4.length:Int):=by omega
    by_cases hk0:k=0
    ·subst hk0;simp only [Nat.zero_mul,Nat.add_zero]at q1 q4 q5;have e1:0<K4.length:=hlt;obtain⟨y,hy⟩:∃z,K4.getD 0 0=z:=⟨_,rfl⟩;rw [hy]at q1;clear hkx hlt hk d1 hy
     go_wp2_with fail
     go_region
     go_wp2_with fail
     go_roundw
     case rel=>exact⟨1,HKL.out,by go_num,zh (fun j hj=>by omega),World.Grows.trans' HG1.out ag⟩
     case measure=>simp [intOf];have:=HKL.out;omega
    obtain⟨t,hkt⟩:∃t,k=t+1:=⟨k-1,by omega⟩;have q2:=hkx t ze;have d2:(k:Int)-1=(t:Int):=by omega
    have d3:(t:Int)<(K4.length:Int):=by omega
    have d4:(0:Int)<=(t:Int):=by omega
    have d5:(0:Int)<(k:Int):=by omega
    have d6:0<k:=by omega
    have HT:=zh hkt;clear hkx hkt hk hlt hk0;by_cases hle:K4.getD k 0<=K4.getD t 0
    ·have HF:Hid (bH V=1):=zh (HC_.out trivial H3D.out (KT (j:=t) (by rw [<-HT.out];exact HKL.out) (by rw [<-HT.out];exact hle)));obtain⟨y,hy⟩:∃z,K4.getD k 0=z:=⟨_,rfl⟩;obtain⟨z,hz⟩:∃z,K4.getD t 0=z:=⟨_,rfl⟩;rw [hy]at q1 hle;rw [hz]at q2 hle;clear hy hz
     go_wp2_with fail
     go_quiet (fail)
     go_wp2_with fail
     go_returns
     exact⟨by rw [HF.out]<;>rfl,World.Grows.trans' HG.out (World.Grows.trans' HG1.out ag)⟩
    ·have HLE:=zh hle;obtain⟨zk,hzk⟩:∃z,K4.getD k 0=z:=⟨_,rfl⟩;obtain⟨zt,hzt⟩:∃z,K4.getD t 0=z:=⟨_,rfl⟩;rw [hzk]at q1 hle;rw [hzt]at q2 hle;have hle2:zt<zk:=by omega
     clear hzk hzt
     go_wp2_with fail
     go_quiet (fail)
     go_wp2_with fail
     go_roundw
     case rel=>exact⟨k+1,HKL.out,by go_num,zh (fun j hj=>by
      by_cases ej:j+1=k
      ·have:=HLE.out;have e:j=t:=by have:=HT.out;omega
       rw [ej,e];omega
      ·exact HAS.out j ze),World.Grows.trans' HG1.out ag⟩
     case measure=>simp [intOf];have:=HKL.out;omega
   obtain rfl:k=K4.length:=by omega
   have hK:rQ K4=true:=(sw K4).2 fun j hj=>HAS.out j ze;have H4D:=zh hK;have HDD:Hid (∀c,c≠0->grG env [] V.gr=c->bH V=c):=zh (fun c hc h=>by rw [<-h];exact HD_.out trivial H3D.out H4D.out (by rw [h];exact hc));have HEE:Hid (grG env [] V.gr=0->bH V=reG env [] V.re):=zh (fun h=>HE_.out trivial H3D.out H4D.out h);clear HAS hK hk hlt;have q6:=HBX1.out.c6
   go_wp2_with fail
   go_loopw [66] (fun v7 wr=>∃i:Nat,i<=K6.length/\v7= .int .i64 i/\Hid (grG env [] V.gr=grG env (K6.take i) (V.gr.drop i))/\W.Grows wr) (fun v7 _=>K6.length-(intOf v7).toNat)
   case atStart=>exact⟨0,by omega,rfl,zh rfl,HG1.out⟩
   case round=>
    obtain⟨i,hi,rfl,HAT,hgr⟩:=hrel;obtain⟨W1,rfl⟩:∃W1,W1=wr:=⟨_,rfl⟩;have HG1:=zh hgr;have HGW:=zh (World.Grows.trans' HG.out hgr);have HBX1:=zh (HBX.out.grows hgr);have q3:=HBX1.out.lt;have q0:=HBX1.out.c6;clear hgr;by_cases hlk:i<K6.length
    ·have HKL:=zh hlk;have hlt:i<V.gr.length:=by rw [<-HL6.out];exact hlk
     have hil:i<=V.gr.length:=by omega
     have d1:(i:Int)<(K6.length:Int):=by omega
     have d9:(i:Int)<=(k6:Int):=by have:=HC6.out;omega
     have d8:i<=k6:=by have:=HC6.out;omega
     have HGR1:=zh (HV.out.gr.grows HGW.out);obtain⟨-,a',c',hvv,hx⟩:=HGR1.out;simp only [Value.slice.injEq]at hvv;obtain⟨rfl,-,rfl⟩:=hvv;rcases hx with h0|⟨b,off,rfl,hbw,hx⟩
     ·omega
     obtain⟨u,u',hg⟩:=hx i hlt;have hsm:=HS.out.gr _ (fZ hlt);have hfa:=mg hK6.out hlt;have HGN:=zh (fun h=>HAT.out.trans (Bd (env:=env) hK6.out hlt h));have HGB:=zh (fun h=>HAT.out.trans (xO (env:=env) hK6.out hlt h))
     have HCF:=zh (fun w' (hg:W1.Grows w') (a1 a2 a3 a4 a5 a6 a7 a8 a9 a10 a11 a12:Value) (hb:w'.heap[W1.heap.size]? =some (.cells #[.int .i64 (V.gr.getD i default).1,a1,a2,a3,a4,a5,a6,a7,a8,a9,a10,a11,a12] 97 (0,0)))=>by
      have:=J3 161 #[.pointer (some ⟨W1.heap.size,0,none⟩)] Ro (fun k=>decide (K6.getD k 0=K6.getD i 0)) (.slice (some ⟨b,off,none⟩) i k6) i w' (Mg (HGR1.out.grows hg) hil _ _ (fun k hk b1 b2 b3 b4 b5 b6 b7 b8 b9 b10 b11 b12 w2 hg2=>by
       rw [mg hK6.out (show k<V.gr.length by omega),hfa]
       exact FE _ _ b1 b2 b3 b4 b5 b6 b7 b8 b9 b10 b11 b12 a1 a2 a3 a4 a5 a6 a7 a8 a9 a10 a11 a12 W1.heap.size w2 ((hg2.below.block _ (Array.getElem?_eq_some_iff.1 hb).1).trans hb)))
      rw [Dy (by have:=HL6.out;omega),hfa]at this
      exact this)
     rw [<-hfa]at HCF;have HSD:=zh (fun(h:(K6.take i).contains (K6.getD i 0)=true)=>EM (env:=env) (pre:=K6.take i) (g:=V.gr.getD i default) (by rw [<-hfa];exact h));have HS1:=zh (fun(h:(K6.take i).contains (K6.getD i 0)=false)=>EL (env:=env) (pre:=K6.take i) (g:=V.gr.getD i default) (by rw [<-hfa];exact h));generalize(K6.take i).contains (K6.getD i 0)=q at *;rw [hfa]at HCF;generalize V.gr.getD i default=g at *;obtain⟨gn,ge,gp⟩:=g;obtain⟨m,m0,m1,m2,m3,m4,m5,n0,n1,n2,n3,n4,n5,r1,r2⟩:=hg;dsimp only at m m0 m1 m2 m3 m4 m5 n0 n1 n2 n3 n4 n5 r1 r2 hsm HSD HS1 HGN HGB HCF;obtain⟨ua,uc,rfl⟩:=r1.form0;obtain⟨va,vc,rfl⟩:=r2.form0;have HR1:=zh r1;have HR2:=zh r2;have HEW:=zh (HEV.out.grows HG1.out);have HTV:=zh (HTW.out.grows HG1.out);have HN1:=zh (fun w' (hg:W1.Grows w')=>sN env ge _ _ 1 w' (HR1.out.grows hg) hsm.1 (HTV.out.grows hg) (HEW.out.grows hg));have HN2:=zh (fun w' (hg:W1.Grows w')=>sN env gp _ _ 4 w' (HR2.out.grows hg) hsm.2 (HTV.out.grows hg) (HEW.out.grows hg));unfold exV at HN1 HN2;replace HCF:=zh (fun w' hg=>HCF.out w' hg (.int .i64 ge.op) (.int .i64 ge.num) (.int .i64 ge.den) (.int .i64 ge.dim) (.string ge.name) (.slice ua ge.args.length uc) (.int .i64 gp.op) (.int .i64 gp.num) (.int .i64 gp.den) (.int .i64 gp.dim) (.string gp.name) (.slice va gp.args.length vc));clear r1 r2 hx hlt hsm hfa hlk hil;cases q
     case true=>
      have hs:=HSD.out rfl;have HF:Hid (bH V=10):=zh (HDD.out 10 zo ((HGB.out (by rw [hs];decide)).trans hs));clear hs
      go_wp2_with ((first|(go_at_call 160;refine(HCF.out _ ag zN).mono ?_;rintro e' w' ⟨rfl,bs0,d0,rfl⟩)|(go_at_call 162;first|((with_reducible refine(HN1.out _ ag).mono ?_);rintro e' w' ⟨rfl,bs1,d1,rfl⟩)|((with_reducible refine(HN2.out _ ag).mono ?_);rintro e' w' ⟨rfl,bs2,d2,rfl⟩))))
      go_returns
      exact⟨by rw [HF.out]<;>rfl,World.Grows.trans' HG.out (World.Grows.trans' HG1.out ag)⟩
     have HST:=zh (HS1.out rfl);generalize dZ env ge 1=c1 at *;generalize dZ env gp 4=c2 at *;by_cases h1:c1=0
     case neg=>
      have hb:(c1 !=0)=true:=by simpa using h1
      have HF:Hid (bH V=c1):=zh (HDD.out c1 h1 ((HGB.out (by rw [HST.out,if_pos h1];exact h1)).trans (by rw [HST.out,if_pos h1])));clear h1
      go_wp2_with ((first|(go_at_call 160;refine(HCF.out _ ag zN).mono ?_;rintro e' w' ⟨rfl,bs0,d0,rfl⟩)|(go_at_call 162;first|((with_reducible refine(HN1.out _ ag).mono ?_);rintro e' w' ⟨rfl,bs1,d1,rfl⟩)|((with_reducible refine(HN2.out _ ag).mono ?_);rintro e' w' ⟨rfl,bs2,d2,rfl⟩))))
      go_returns
      exact⟨by rw [HF.out]<;>rfl,World.Grows.trans' HG.out (World.Grows.trans' HG1.out ag)⟩
     subst h1;by_cases h2:c2=0
     case neg=>
      have hb:(c2 !=0)=true:=by simpa using h2
      have HF:Hid (bH V=c2):=zh (HDD.out c2 h2 ((HGB.out (by rw [HST.out,if_neg zg];exact h2)).trans yk));clear h2
      go_wp2_with ((first|(go_at_call 160;refine(HCF.out _ ag zN).mono ?_;rintro e' w' ⟨rfl,bs0,d0,rfl⟩)|(go_at_call 162;first|((with_reducible refine(HN1.out _ ag).mono ?_);rintro e' w' ⟨rfl,bs1,d1,rfl⟩)|((with_reducible refine(HN2.out _ ag).mono ?_);rintro e' w' ⟨rfl,bs2,d2,rfl⟩))))
      go_returns
      exact⟨by rw [HF.out]<;>rfl,World.Grows.trans' HG.out (World.Grows.trans' HG1.out ag)⟩
     subst h2;have HNX:=zh (HGN.out yk)
     go_wp2_with ((first|(go_at_call 160;refine(HCF.out _ ag zN).mono ?_;rintro e' w' ⟨rfl,bs0,d0,rfl⟩)|(go_at_call 162;first|((with_reducible refine(HN1.out _ ag).mono ?_);rintro e' w' ⟨rfl,bs1,d1,rfl⟩)|((with_reducible refine(HN2.out _ ag).mono ?_);rintro e' w' ⟨rfl,bs2,d2,rfl⟩))))
     go_roundw
     case rel=>exact⟨i+1,HKL.out,by go_num,HNX,World.Grows.trans' HG1.out ag⟩
     case measure=>simp [intOf];have:=HKL.out;omega
    obtain rfl:i=K6.length:=by omega
    have HEF:Hid (bH V=reG env [] V.re):=zh (HEE.out (HAT.out.trans (by rw [HL6.out,drop_length,grG])));clear HAT HDD HEE;have HEE:=HEF;clear HEF;have q7:=HBX1.out.c7
    go_wp2_with fail
    go_loopw [95] (fun v11 wr=>∃i:Nat,i<=K7.length/\v11= .int .i64 i/\Hid (reG env [] V.re=reG env (K7.take i) (V.re.drop i))/\W.Grows wr) (fun v11 _=>K7.length-(intOf v11).toNat)
    case atStart=>exact⟨0,by omega,rfl,zh rfl,HG1.out⟩
    case round=>
     obtain⟨i,hi,rfl,HAT,hgr⟩:=hrel;obtain⟨W1,rfl⟩:∃W1,W1=wr:=⟨_,rfl⟩;have HG1:=zh hgr;have HGW:=zh (World.Grows.trans' HG.out hgr);have HBX1:=zh (HBX.out.grows hgr);have q3:=HBX1.out.lt;have q0:=HBX1.out.c7;clear hgr;by_cases hlk:i<K7.length
     ·have HKL:=zh hlk;have hlt:i<V.re.length:=by rw [<-HL7.out];exact hlk
      have hil:i<=V.re.length:=by omega
      have d1:(i:Int)<(K7.length:Int):=by omega
      have d9:(i:Int)<=(k7:Int):=by have:=HC7.out;omega
      have d8:i<=k7:=by have:=HC7.out;omega
      have HGR1:=zh (HV.out.re.grows HGW.out);obtain⟨-,a',c',hvv,hx⟩:=HGR1.out;simp only [Value.slice.injEq]at hvv;obtain⟨rfl,-,rfl⟩:=hvv;rcases hx with h0|⟨b,off,rfl,hbw,hx⟩
      ·omega
      obtain⟨u,hg⟩:=hx i hlt;have hsm:=HS.out.re _ (fZ hlt);have hfa:=mg hK7.out hlt;have HGN:=zh (fun h=>HAT.out.trans (Ae (env:=env) hK7.out hlt h));have HGB:=zh (fun h=>HAT.out.trans (xA (env:=env) hK7.out hlt h))
      have HCF:=zh (fun w' (hg:W1.Grows w') (a1 a2 a3 a4 a5 a6:Value) (hb:w'.heap[W1.heap.size]? =some (.cells #[.int .i64 (V.re.getD i default).1,a1,a2,a3,a4,a5,a6] 134 (0,0)))=>by
       have:=J2 164 #[.pointer (some ⟨W1.heap.size,0,none⟩)] Rn (fun k=>decide (K7.getD k 0=K7.getD i 0)) (.slice (some ⟨b,off,none⟩) i k7) i w' (Me (HGR1.out.grows hg) hil _ _ (fun k hk b1 b2 b3 b4 b5 b6 w2 hg2=>by
        rw [mg hK7.out (show k<V.re.length by omega),hfa]
        exact FD _ _ b1 b2 b3 b4 b5 b6 a1 a2 a3 a4 a5 a6 W1.heap.size w2 ((hg2.below.block _ (Array.getElem?_eq_some_iff.1 hb).1).trans hb)))
       rw [Dy (by have:=HL7.out;omega),hfa]at this
       exact this)
      rw [<-hfa]at HCF;have HSD:=zh (fun(h:(K7.take i).contains (K7.getD i 0)=true)=>Et (env:=env) (pre:=K7.take i) (g:=V.re.getD i default) (by rw [<-hfa];exact h));have HS1:=zh (fun(h:(K7.take i).contains (K7.getD i 0)=false)=>Es (env:=env) (pre:=K7.take i) (g:=V.re.getD i default) (by rw [<-hfa];exact h));generalize(K7.take i).contains (K7.getD i 0)=q at *;rw [hfa]at HCF;generalize V.re.getD i default=g at *;obtain⟨gn,ge⟩:=g;obtain⟨m,m0,m1,m2,m3,m4,m5,r1⟩:=hg;dsimp only at m m0 m1 m2 m3 m4 m5 r1 hsm HSD HS1 HGN HGB HCF;obtain⟨ua,uc,rfl⟩:=r1.form0;have HR1:=zh r1;have HEW:=zh (HEV.out.grows HG1.out);have HTV:=zh (HTW.out.grows HG1.out);have HN1:=zh (fun w' (hg:W1.Grows w')=>sN env ge _ _ 2 w' (HR1.out.grows hg) hsm (HTV.out.grows hg) (HEW.out.grows hg));unfold exV at HN1;have HN2:=HN1;replace HCF:=zh (fun w' hg=>HCF.out w' hg (.int .i64 ge.op) (.int .i64 ge.num) (.int .i64 ge.den) (.int .i64 ge.dim) (.string ge.name) (.slice ua ge.args.length uc));clear r1 hx hlt hsm hfa hlk hil;cases q
      case true=>
       have hs:=HSD.out rfl;have HF:Hid (bH V=10):=zh (HEE.out.trans ((HGB.out (by rw [hs];decide)).trans hs));clear hs
       go_wp2_with ((first|(go_at_call 163;refine(HCF.out _ ag zN).mono ?_;rintro e' w' ⟨rfl,bs0,d0,rfl⟩)|(go_at_call 162;first|((with_reducible refine(HN1.out _ ag).mono ?_);rintro e' w' ⟨rfl,bs1,d1,rfl⟩)|((with_reducible refine(HN2.out _ ag).mono ?_);rintro e' w' ⟨rfl,bs2,d2,rfl⟩))))
       go_returns
       exact⟨by rw [HF.out]<;>rfl,World.Grows.trans' HG.out (World.Grows.trans' HG1.out ag)⟩
      have HST:=zh (HS1.out rfl);generalize dZ env ge 2=c1 at *;by_cases h1:c1=0
      case neg=>
       have hb:(c1 !=0)=true:=by simpa using h1
       have HF:Hid (bH V=c1):=zh (HEE.out.trans ((HGB.out (by rw [HST.out];exact h1)).trans HST.out));clear h1
       go_wp2_with ((first|(go_at_call 163;refine(HCF.out _ ag zN).mono ?_;rintro e' w' ⟨rfl,bs0,d0,rfl⟩)|(go_at_call 162;first|((with_reducible refine(HN1.out _ ag).mono ?_);rintro e' w' ⟨rfl,bs1,d1,rfl⟩)|((with_reducible refine(HN2.out _ ag).mono ?_);rintro e' w' ⟨rfl,bs2,d2,rfl⟩))))
       go_returns
       exact⟨by rw [HF.out]<;>rfl,World.Grows.trans' HG.out (World.Grows.trans' HG1.out ag)⟩
      subst h1;have HNX:=zh (HGN.out HST.out)
      go_wp2_with ((first|(go_at_call 163;refine(HCF.out _ ag zN).mono ?_;rintro e' w' ⟨rfl,bs0,d0,rfl⟩)|(go_at_call 162;first|((with_reducible refine(HN1.out _ ag).mono ?_);rintro e' w' ⟨rfl,bs1,d1,rfl⟩)|((with_reducible refine(HN2.out _ ag).mono ?_);rintro e' w' ⟨rfl,bs2,d2,rfl⟩))))
      go_roundw
      case rel=>exact⟨i+1,HKL.out,by go_num,HNX,World.Grows.trans' HG1.out ag⟩
      case measure=>simp [intOf];have:=HKL.out;omega
     obtain rfl:i=K7.length:=by omega
     have HF:Hid (bH V=0):=zh (HEE.out.trans (HAT.out.trans (by rw [HL7.out,drop_length,reG])));clear HAT HEE
     go_wp2_with fail
     go_returns
     exact⟨by rw [HF.out]<;>rfl,World.Grows.trans' HG.out (World.Grows.trans' HG1.out ag)⟩
end Go.Proofs.YtlheailebbngiaaGreatDoor
