import Derived.Test.YtcfpoofhokbhlaaGreatDoorVLtQ
set_option linter.all false
set_option maxHeartbeats 16000000
set_option maxRecDepth 1000000
namespace Go.Proofs.YtcfpoofhokbhlaaGreatDoor
open Go.Proofs.Tryz Tryz List
open Go.RowKit
theorem Em(s:ByteArray):cB (.mk 2 0 0 0 s [])=fq s:=by
 unfold cB;rw [eP];simp [Ex.depth,Ex.depths,Ex.size,Ex.sizes,Ex.args,Ex.op,Ex.num,Ex.den,Ex.dim,Ex.name,aU]
theorem DT(s:ByteArray)(hs:s.size<=140737488355328)(w:World)(ht:Tab w):Calls prog 115 #[.string s] w fun e w'=>e= .returned (.bool (fq s))/\w.Grows w':=by
 have HV:=yq (fun w (ht:Tab w)=>vz (fun _=>True) (.mk 2 0 0 0 s []) (.slice none 0 0) w (yq (.mk _ none 0 (fun _=>.slice none 0 0) ⟨(show I64 (2:Int)from⟨by decide,by decide⟩),(show I64 (0:Int)from⟨by decide,by decide⟩),(show I64 (0:Int)from⟨by decide,by decide⟩),(show I64 (0:Int)from⟨by decide,by decide⟩),by simp [Ex.args],hs⟩ (.inl rfl) (fun i hi=>by simp [Ex.args]at hi))) (yq (by simp [Ex.size,Ex.sizes])) (yq ht));have HT:=yq ht;clear ht;unfold exV at HV;dsimp only [Ex.op,Ex.num,Ex.den,Ex.dim,Ex.name]at HV;rw [Em]at HV;generalize fq s=b at *
 go_enter func115,ntmps115
 go_wp2_with (go_at_call 140;refine gvq (HV.out _ HT.out) ?_;intro bs d)
 exact lU
theorem EA(ls:List (ByteArray × Ex))(v:Value)(w:World)(h:gI w v ls)(hl:10<ls.length):Calls prog 83 #[v] w (lw (dJ ls) w):=by
 obtain⟨hl1000,la,lc,rfl,-⟩:=h;have hn:(10:Int)<(ls.length:Int):=by omega
 have HF:Hid (dJ ls=([],7)):=yq (by unfold dJ;rw [if_pos hl])
 go_enter func83,ntmps83
 go_wp2_with fail
 go_returns
 exact lw.bad HF.out (.of_below af)
theorem Iz:∀args w,(callFunc 117 args).run prog w= .ok (.enter 117 args) w:=enters_of func117 zf rfl
theorem Iq(env:List (ByteArray × Int))(ve:Value)(s:ByteArray)(c1 c2 c3 c4 c5 c6:Value)(b:Nat)(w:World)(hb:w.heap[b]? =some (.cells #[.string s,c1,c2,c3,c4,c5,c6] 72 (0,0)))(he:aT w ve env) :
 Calls prog 116 #[ve,.func (.func 117) #[] #[.pointer (some ⟨b,0,none⟩)]] w fun r w'=>r= .returned (.bool (env.any fun p=>decide (p.1=s)))/\w.Grows w':=by
 rw [<-Ri];refine nM 117 #[.pointer (some ⟨b,0,none⟩)] Iz env ve (fun k=>decide (bdN env k=s)) w he (yq (fun k hk w2 hg=>?_));have hb2:w2.heap[b]? =some (.cells #[.string s,c1,c2,c3,c4,c5,c6] 72 (0,0)):=(hg.below.block b (Array.getElem?_eq_some_iff.1 hb).1).trans hb;have hbl:b<w2.heap.size:=(Array.getElem?_eq_some_iff.1 hb2).1;have x0:w2.cell? ⟨b,0,none⟩=some (.string s):=by rw [cell_of_row w2 b _ _ _ _ hb2];rfl
 dsimp only;generalize bdN env k=n at *;generalize bdD env k=m at *;clear hb hb2 he hg;show Calls prog 117 #[.agg #[.string n,.int .i64 m],.pointer (some ⟨b,0,none⟩)] w2 _;by_cases hn:n=s
 ·have h2:(n.toList==s.toList)=true:=by rw [hn];simp
  have HD:Hid (decide (n=s)=true):=yq (decide_eq_true hn);clear hn
  go_enter func117,ntmps117
  go_wp2_with fail
  go_returns
  exact⟨au HD.out.symm,.of_below af⟩
 ·have h2:(n.toList==s.toList)=false:=by rw [beq_eq_false_iff_ne];exact fun h=>hn (mQ h)
  have HD:Hid (decide (n=s)=false):=yq (decide_eq_false hn);clear hn
  go_enter func117,ntmps117
  go_wp2_with fail
  go_returns
  exact⟨au HD.out.symm,.of_below af⟩
theorem J3(ls:List (ByteArray × Ex))(v:Value)(w:World)(h:gI w v ls)(hs:sS ls)(ht:Tab w):Calls prog 83 #[v] w (lw (dJ ls) w):=by
 by_cases hlen:ls.length<=10
 case neg=>exact EA ls v w h ze
 obtain⟨i0,hi,hz0,hz1,hz2⟩:=info_parts Lt;have HL:=yq h;have HS:=yq hs;have HT:=yq ht;obtain⟨hl1000,la,lc,rfl,-⟩:=h;rw [qx hlen];have hn:¬(10:Int)<(ls.length:Int):=by omega
 clear hs ht
 go_enter func83,ntmps83
 go_wp2_with fail
 go_loopw [4,16] (fun v4 v16 wr=>∃(k:Nat) (vb:Value) (env:List (ByteArray × Int)),vb=v4/\k<=ls.length/\v16= .int .i64 k/\Below w.heap.size w wr/\wr.ownsRow w.heap.size 74 2 vb k (pJ env)/\Hid (kC ls k env)) (fun _ v16 _=>ls.length-(intOf v16).toNat)
 case atStart=>exact⟨0,_,[],rfl,by omega,rfl,.refl _ _,World.ownsRow_nil _ _ _ _,yq (kC.zero ls)⟩
 case round=>
  obtain⟨k,vb,env,rfl,hk,rfl,hB,hown,HA⟩:=hrel;obtain⟨W1,rfl⟩:∃W1,W1=wr:=⟨_,rfl⟩;have HB:=yq hB;have HO:=yq hown;have HG:Hid (w.Grows W1):=yq (.of_below hB);have HT1:=yq (HT.out.grows HG.out);have hsW:=hB.size;by_cases hlt:k<ls.length
  ·obtain⟨-,a',c',hvv,hx⟩:=HL.out.grows HG.out;simp only [Value.slice.injEq,true_and]at hvv;obtain⟨rfl,rfl⟩:=hvv;rcases hx with h0|⟨b,off,rfl,hbw,hx⟩
   ·omega
   obtain⟨uk,hsk⟩:=hx k hlt;have hsm:=HS.out _ (gq hlt);have HTB:=yq (HA.out.bad hlt);have HTN:=yq (HA.out.next hlt);have HEL:=yq HA.out.len;have d1:(k:Int)<(ls.length:Int):=by omega
   generalize ls.getD k default=tt at *;obtain⟨s,ek⟩:=tt;dsimp only at hsm;obtain⟨y0,y1,y2,y3,y4,y5,y6,hrk⟩:=hsk;obtain⟨ka,kc,rfl⟩:=hrk.form0;have HRK:=yq hrk;have HBD:Hid (aT W1 vb env):=yq (aT.of_own (by rw [HEL.out];exact hown) (by rw [HEL.out];omega));have HI5:=yq (jQ s);have HN5:=yq (fun w ht=>DT s hsm.1 w ht);have HDC:=yq (fun w' b hb (hg:W1.Grows w')=>Iq env vb s (.int .i64 ek.op) (.int .i64 ek.num) (.int .i64 ek.den) (.int .i64 ek.dim) (.string ek.name) (.slice ka ek.args.length kc) b w' hb (HBD.out.grows hg));have HIF:=yq (fun w' (hg:W1.Grows w')=>vE (fun _=>True) env ek (.slice ka ek.args.length kc) vb w' (HRK.out.grows hg) (by have:=hsm.2;omega) (HT1.out.grows hg) (HBD.out.grows hg));unfold jR exV at HIF;have HKL:=yq hlt;have hk10:k<=10:=by omega
   have hvf:∃va vn vc,vb= .slice va vn vc:=by obtain⟨-,a,c,h,-⟩:=HBD.out;exact⟨_,_,_,h⟩
   clear hx hrk hsm HA hB hown hlt hk;dsimp only at y0 y1 y2 y3 y4 y5 y6;by_cases hd:bQ s.toList=0
   case neg=>
    have HC:Hid (ib ls []=([],5)):=yq yZ;rw [decide_eq_true hd]at HI5;generalize bQ s.toList=d0 at *;exact vz8
   rw [hd]at HI5;have HD:=yq hd;clear hd;cases hnb:fq s
   case false=>
    have HC:Hid (ib ls []=([],5)):=yq yY;rw [hnb]at HN5;clear hnb;exact vz8
   rw [hnb]at HN5;have HNB:=yq hnb;clear hnb;obtain⟨va,vn,vc,rfl⟩:=hvf;cases hdu:env.any fun p=>decide (p.1=s)
   case true=>
    have HC:Hid (ib ls []=([],10)):=yq (by have h5:=uB (e:=ek) HD.out HNB.out hdu;have:=HTB.out zY;rw [h5]at this;exact this);rw [hdu]at HDC;clear hdu;exact vz8
   have HST:Hid (fV env (s,ek)=(aR env ek).2):=yq (uA HD.out HNB.out hdu);rw [hdu]at HDC;clear hdu;generalize hr:aR env ek=r at *;obtain⟨dk,ck⟩:=r;dsimp only at HIF HST HTN;clear hr;by_cases hc:ck=0
   ·subst hc;have HNX:=yq (HTN.out HST.out)
    go_wp2_with (first
     |((first|(go_at_call 114;refine gw (HI5.out _) ?_)|(go_at_call 115;refine gvq (HN5.out _ (HT1.out.grows ag)) ?_;intro bs1 d1')|(go_at_call 116;refine gvq (HDC.out _ _ ((World.heap_grow _ _ _ zg).trans (bP _ _ _ zg)) ag) ?_;intro bs2 d2')|(go_at_call 118;refine gvq (HIF.out _ ag) ?_;intro bs3 d3')))
     |(at_builtin;refine wpList_append_own _ rfl _ _ 65 rfl w.heap.size 74 i0 _ 2 24 underlying65 hi hz0 hz1 hz2 rfl zo _ _ _ rfl (bK HO.out ag) ⟨_,0,none⟩ 1 1 [.string s,.int .i64 dk] rfl rfl ?c1 ?c2 ?c3 ?c4 ?c5 ?_))
    case c1=>exact aQ _ [.string s,.int .i64 dk] _ _ zg
    case c2=>intro u hu;simp at hu;rcases hu with rfl|rfl<;>rfl
    case c3=>unfold maxLen;omega
    case c4=>omega
    case c5=>simp;omega
    intro v' w1 hown' hgrow _;have HB4:=yq ((show Below w.heap.size w _ from by have:=HB.out;(exact af)).grown hgrow zp (fun k hk=>(HO.out.lt k hk).1));have HO4:=yq hown';clear hown' hgrow
    go_wp2_with fail
    go_roundw
    case rel=>exact⟨k+1,_,_,rfl,HKL.out,by go_num,HB4.out,by rw [ow];exact HO4.out,HNX⟩
    case measure=>simp [intOf];have:=HKL.out;omega
   ·have hc2:(ck !=0)=true:=by simpa using hc
    have HC:Hid (ib ls []=([],ck)):=yq xg;clear hc;exact vz8
  ·obtain rfl:k=ls.length:=by omega
   have HD:=yq HA.out.done;have HBD:Hid (aT W1 vb env):=yq (aT.of_own (by rw [HA.out.len];exact HO.out) (by rw [HA.out.len];omega));clear hB hown
   go_wp2_with fail
   go_returns
   exact⟨_,by rw [HD.out];rfl,HG.out,by rw [HD.out];exact HBD.out⟩
theorem tH(env:List (ByteArray × Int))(e:Ex)(v ve:Value)(want:Int)(w:World)(h:aB (fun _=>True) w e v)(hbig:e.size<=1000000)(ht:Tab w)(hv:aT w ve env) :
 Calls prog 88 #[exV e v,ve,.int .i64 want] w fun r w'=>r= .returned (.int .i64 (dS env e want))/\w.Grows w':=by
 have HR:=yq h;have HV:=yq hv;have HT:=yq ht;obtain⟨a,cap,rfl⟩:=h.form0;obtain⟨-,ba,bc,rfl,-⟩:=hv;have HI:=yq (fun w' (hg:w.Grows w')=>vE (fun _=>True) env e (.slice a e.args.length cap) (.slice ba env.length bc) w' (HR.out.grows hg) ze (HT.out.grows hg) (HV.out.grows hg));unfold jR exV at HI;have HN:Hid (dS env e want=if(aR env e).2=0/\(aR env e).1≠want then 6 else(aR env e).2):=yq rfl;generalize aR env e=r at *;obtain⟨d,c⟩:=r;dsimp only at HI HN;clear h ht;by_cases hc:c=0
 ·subst hc;by_cases hd:d=want
  ·subst hd;have HF:Hid (dS env e d=0):=yq (by rw [HN.out];simp)
   go_enter func88,ntmps88
   go_wp2_with (go_at_call 118;refine gvq (HI.out _ ag) ?_;intro bs d')
   go_returns
   exact⟨by rw [HF.out]<;>rfl,ag⟩
  ·have hd2:(d !=want)=true:=by simpa using hd
   have HF:Hid (dS env e want=6):=yq (by rw [HN.out,if_pos ⟨rfl,hd⟩]);clear hd
   go_enter func88,ntmps88
   go_wp2_with (go_at_call 118;refine gvq (HI.out _ ag) ?_;intro bs d')
   go_returns
   exact⟨by rw [HF.out]<;>rfl,ag⟩
 ·have hc2:(c !=0)=true:=by simpa using hc
  have HF:Hid (dS env e want=c):=yq (by rw [HN.out,if_neg (fun h=>hc h.1)]);clear hc
  go_enter func88,ntmps88
  go_wp2_with (go_at_call 118;refine gvq (HI.out _ ag) ?_;intro bs d')
  go_returns
  exact⟨by rw [HF.out]<;>rfl,ag⟩
theorem Tn:∀args w,(callFunc 85 args).run prog w= .ok (.enter 85 args) w:=enters_of func85 zf rfl
theorem Hl(z y:Int)(a1 b1:Value)(b:Nat)(w:World)(hb:w.heap[b]? =some (.cells #[.int .i64 y,b1] 60 (0,0))) :
 Calls prog 85 (#[.agg (.int .i64 z::[a1]).toArray]++#[.pointer (some ⟨b,0,none⟩)]) w fun r w'=>r= .returned (.bool (decide (z=y)))/\w.Grows w':=by
 show Calls prog 85 #[.agg #[.int .i64 z,a1],.pointer (some ⟨b,0,none⟩)] w _;have hbl:b<w.heap.size:=(Array.getElem?_eq_some_iff.1 hb).1;have x0:w.cell? ⟨b,0,none⟩=some (.int .i64 y):=by rw [cell_of_row w b _ _ _ _ hb];rfl
 clear hb;by_cases hn:z=y
 ·have h2:(z==y)=true:=by rw [hn];simp
  have HD:Hid (decide (z=y)=true):=yq (decide_eq_true hn);clear hn
  go_enter func85,ntmps85
  go_wp2_with fail
  go_returns
  exact⟨au HD.out.symm,.of_below af⟩
 ·have h2:(z==y)=false:=by simpa using hn
  have HD:Hid (decide (z=y)=false):=yq (decide_eq_false hn);clear hn
  go_enter func85,ntmps85
  go_wp2_with fail
  go_returns
  exact⟨au HD.out.symm,.of_below af⟩
theorem Tm:∀args w,(callFunc 87 args).run prog w= .ok (.enter 87 args) w:=enters_of func87 zf rfl
theorem Hd(z y:Int)(a1 a2 a3 a4 a5 a6 a7 a8 a9 a10 a11 a12 b1 b2 b3 b4 b5 b6 b7 b8 b9 b10 b11 b12:Value)(b:Nat)(w:World)(hb:w.heap[b]? =some (.cells #[.int .i64 y,b1,b2,b3,b4,b5,b6,b7,b8,b9,b10,b11,b12] 76 (0,0))) :
 Calls prog 87 (#[.agg (.int .i64 z::[a1,a2,a3,a4,a5,a6,a7,a8,a9,a10,a11,a12]).toArray]++#[.pointer (some ⟨b,0,none⟩)]) w fun r w'=>r= .returned (.bool (decide (z=y)))/\w.Grows w':=by
 show Calls prog 87 #[.agg #[.int .i64 z,a1,a2,a3,a4,a5,a6,a7,a8,a9,a10,a11,a12],.pointer (some ⟨b,0,none⟩)] w _;have hbl:b<w.heap.size:=(Array.getElem?_eq_some_iff.1 hb).1;have x0:w.cell? ⟨b,0,none⟩=some (.int .i64 y):=by rw [cell_of_row w b _ _ _ _ hb];rfl
 clear hb;by_cases hn:z=y
 ·have h2:(z==y)=true:=by rw [hn];simp
  have HD:Hid (decide (z=y)=true):=yq (decide_eq_true hn);clear hn
  go_enter func87,ntmps87
  go_wp2_with fail
  go_returns
  exact⟨au HD.out.symm,.of_below af⟩
 ·have h2:(z==y)=false:=by simpa using hn
  have HD:Hid (decide (z=y)=false):=yq (decide_eq_false hn);clear hn
  go_enter func87,ntmps87
  go_wp2_with fail
  go_returns
  exact⟨au HD.out.symm,.of_below af⟩
theorem Tk:∀args w,(callFunc 90 args).run prog w= .ok (.enter 90 args) w:=enters_of func90 zf rfl
theorem Ha(z y:Int)(a1 a2 a3 a4 a5 a6 b1 b2 b3 b4 b5 b6:Value)(b:Nat)(w:World)(hb:w.heap[b]? =some (.cells #[.int .i64 y,b1,b2,b3,b4,b5,b6] 78 (0,0))) :
 Calls prog 90 (#[.agg (.int .i64 z::[a1,a2,a3,a4,a5,a6]).toArray]++#[.pointer (some ⟨b,0,none⟩)]) w fun r w'=>r= .returned (.bool (decide (z=y)))/\w.Grows w':=by
 show Calls prog 90 #[.agg #[.int .i64 z,a1,a2,a3,a4,a5,a6],.pointer (some ⟨b,0,none⟩)] w _;have hbl:b<w.heap.size:=(Array.getElem?_eq_some_iff.1 hb).1;have x0:w.cell? ⟨b,0,none⟩=some (.int .i64 y):=by rw [cell_of_row w b _ _ _ _ hb];rfl
 clear hb;by_cases hn:z=y
 ·have h2:(z==y)=true:=by rw [hn];simp
  have HD:Hid (decide (z=y)=true):=yq (decide_eq_true hn);clear hn
  go_enter func90,ntmps90
  go_wp2_with fail
  go_returns
  exact⟨au HD.out.symm,.of_below af⟩
 ·have h2:(z==y)=false:=by simpa using hn
  have HD:Hid (decide (z=y)=false):=yq (decide_eq_false hn);clear hn
  go_enter func90,ntmps90
  go_wp2_with fail
  go_returns
  exact⟨au HD.out.symm,.of_below af⟩
theorem NL{w:World}{a:Option Addr}{cap n i:Nat}{K:List Int}(h:jP 2 w (.slice a K.length cap) K)(hx:gT 2 w (.slice a K.length cap) n)(hn:n=K.length)(hi:i<=K.length)(lb:Array Value)(p:Nat->Bool)(hp:∀k z,k<i->∀w',w.Grows w'->Calls prog 85 (#[.agg (.int .i64 (K.getD k 0)::[.int .i64 z]).toArray]++lb) w' fun r w''=>r= .returned (.bool (p k))/\w'.Grows w'') :
 vS 2 85 lb p w (.slice a i cap) i:=by
 subst hn;obtain⟨h0,a1,c1,hv1,h1⟩:=h;obtain⟨a2,c2,hv2,h2⟩:=hx;simp only [Value.slice.injEq,true_and]at hv1 hv2;obtain⟨rfl,rfl⟩:=hv1;obtain⟨rfl,rfl⟩:=hv2;refine⟨by omega,a,cap,rfl, ?_⟩;by_cases hz:i=0
 ·exact .inl hz
 rcases h1 with h1|⟨b,off,rfl,hb,hc⟩
 ·omega
 rcases h2 with h2|⟨b',off',ha,hb',hc'⟩
 ·omega
 simp only [Option.some.injEq,Addr.mk.injEq,and_true]at ha;obtain⟨rfl,rfl⟩:=ha;refine .inr ⟨b,off,rfl,hb,fun k hk=>?_⟩;obtain⟨z,hz⟩:=hc' k ze 1 ze;refine⟨[.int .i64 (K.getD k 0),.int .i64 z],rfl,fun j x hj=>?_,hp k z hk⟩
 match j,hj with
 |0,hj=>cases hj;exact hc k ze
 |1,hj=>cases hj;exact hz
theorem NK{w:World}{a:Option Addr}{cap n i:Nat}{l:List (Int × Ex × Ex)}(h:iT w (.slice a n cap) l)(hi:i<=l.length)(lb:Array Value)(p:Nat->Bool)
 (hp:∀k,k<i->∀(a1 a2 a3 a4 a5 a6 a7 a8 a9 a10 a11 a12:Value),∀w',w.Grows w'->Calls prog 87 (#[.agg (.int .i64 (l.getD k default).1::[a1,a2,a3,a4,a5,a6,a7,a8,a9,a10,a11,a12]).toArray]++lb) w' fun r w''=>r= .returned (.bool (p k))/\w'.Grows w'') :
 vS 13 87 lb p w (.slice a i cap) i:=by
 obtain⟨h0,a1,c1,hv1,h1⟩:=h;simp only [Value.slice.injEq]at hv1;obtain⟨rfl,rfl,rfl⟩:=hv1;refine⟨by omega,a,cap,rfl, ?_⟩;by_cases hz:i=0
 ·exact .inl hz
 rcases h1 with h1|⟨b,off,rfl,hb,hc⟩
 ·omega
 refine .inr ⟨b,off,rfl,hb,fun k hk=>?_⟩;obtain⟨u,u',g⟩:=hc k ze;refine⟨[.int .i64 (l.getD k default).1,.int .i64 (l.getD k default).2.1.op,.int .i64 (l.getD k default).2.1.num,.int .i64 (l.getD k default).2.1.den,.int .i64 (l.getD k default).2.1.dim,.string (l.getD k default).2.1.name,u,.int .i64 (l.getD k default).2.2.op,.int .i64 (l.getD k default).2.2.num,.int .i64 (l.getD k default).2.2.den,.int .i64 (l.getD k default).2.2.dim,.string (l.getD k default).2.2.name,u'],rfl,fun j x hj=>?_,hp k hk _ _ _ _ _ _ _ _ _ _ _ _⟩
 match j,hj with
 |0,hj=>cases hj;exact g.nm
 |1,hj=>cases hj;exact g.c0
 |2,hj=>cases hj;exact g.c1
 |3,hj=>cases hj;exact g.c2
 |4,hj=>cases hj;exact g.c3
 |5,hj=>cases hj;exact g.c4
 |6,hj=>cases hj;exact g.c5
 |7,hj=>cases hj;exact g.e0
 |8,hj=>cases hj;exact g.e1
 |9,hj=>cases hj;exact g.e2
 |10,hj=>cases hj;exact g.e3
 |11,hj=>cases hj;exact g.e4
 |12,hj=>cases hj;exact g.e5
theorem NI{w:World}{a:Option Addr}{cap n i:Nat}{l:List (Int × Ex)}(h:oC w (.slice a n cap) l)(hi:i<=l.length)(lb:Array Value)(p:Nat->Bool)
 (hp:∀k,k<i->∀(a1 a2 a3 a4 a5 a6:Value),∀w',w.Grows w'->Calls prog 90 (#[.agg (.int .i64 (l.getD k default).1::[a1,a2,a3,a4,a5,a6]).toArray]++lb) w' fun r w''=>r= .returned (.bool (p k))/\w'.Grows w'') :
 vS 7 90 lb p w (.slice a i cap) i:=by
 obtain⟨h0,a1,c1,hv1,h1⟩:=h;simp only [Value.slice.injEq]at hv1;obtain⟨rfl,rfl,rfl⟩:=hv1;refine⟨by omega,a,cap,rfl, ?_⟩;by_cases hz:i=0
 ·exact .inl hz
 rcases h1 with h1|⟨b,off,rfl,hb,hc⟩
 ·omega
 refine .inr ⟨b,off,rfl,hb,fun k hk=>?_⟩;obtain⟨u,g⟩:=hc k ze;refine⟨[.int .i64 (l.getD k default).1,.int .i64 (l.getD k default).2.op,.int .i64 (l.getD k default).2.num,.int .i64 (l.getD k default).2.den,.int .i64 (l.getD k default).2.dim,.string (l.getD k default).2.name,u],rfl,fun j x hj=>?_,hp k hk _ _ _ _ _ _⟩
 match j,hj with
 |0,hj=>cases hj;exact g.nm
 |1,hj=>cases hj;exact g.c0
 |2,hj=>cases hj;exact g.c1
 |3,hj=>cases hj;exact g.c2
 |4,hj=>cases hj;exact g.c3
 |5,hj=>cases hj;exact g.c4
 |6,hj=>cases hj;exact g.c5
theorem gT.at{c:Nat}{w:World}{b off n cap i j:Nat}(h:gT c w (.slice (some ⟨b,off,none⟩) n cap) n)(hi:i<n)(hj:j<c):∃z,w.cell? ⟨b,off+i*c+j,none⟩=some (.int .i64 z):=by
 obtain⟨a',cap',hv,h0|⟨b',off',rfl,hb,hc⟩⟩:=h
 ·omega
 ·simp only [Value.slice.injEq,Option.some.injEq,Addr.mk.injEq,and_true,true_and]at hv;obtain⟨⟨rfl,rfl⟩,rfl⟩:=hv;exact hc i hi j hj
theorem EL{K:List Int}{i:Nat}(hi:i<=K.length)(y:Int):((List.range i).any fun k=>decide (K.getD k 0=y))=(K.take i).contains y:=(tJ hi).symm
theorem AR(V:dH)(x0 x1 x2:Int)(v3 v4 v5 v6 v7:Value)(w:World)(h:vw w V v3 v4 v5 v6 v7)(hnx:gT 2 w v3 V.cr.length/\gT 3 w v4 V.se.length)(hcp:je v3/\je v6/\je v7)(hs:lI V)(ht:Tab w) :
 Calls prog 64 #[.agg #[.int .i64 x0,.int .i64 x1,.int .i64 x2,v3,v4,v5,v6,v7]] w fun e w'=>e= .returned (.int .i64 (bF V))/\w.Grows w':=by
 have HV:=yq h;have HS:=yq hs;have HT:=yq ht;have HLT:=yq (fun w' (hg:w.Grows w')=>J3 V.le v5 w' (h.le.grows hg) hs.le (HT.out.grows hg));unfold lw at HLT;have HA:=Kj (V:=V);have HB_:=Ki (V:=V);have HC_:=Kh (V:=V);have HD_:=Kg (V:=V);have HE_:=Ke (V:=V);have H3:=h.cr;have H4:=h.se;have H6:=h.gr.nums;have H7:=h.re.nums;obtain⟨hn3,hn4⟩:=hnx;obtain⟨K3,hK3⟩:∃K,V.cr.map Prod.fst=K:=⟨_,rfl⟩;obtain⟨K4,hK4⟩:∃K,V.se.map Prod.fst=K:=⟨_,rfl⟩;obtain⟨K6,hK6⟩:∃K,V.gr.map Prod.fst=K:=⟨_,rfl⟩;obtain⟨K7,hK7⟩:∃K,V.re.map Prod.fst=K:=⟨_,rfl⟩;rw [hK3]at H3 HB_ HC_ HD_ HE_;rw [hK4]at H4 HC_ HD_ HE_;rw [hK6]at H6;rw [hK7]at H7;have hl3:V.cr.length=K3.length:=by rw [<-hK3,length_map]
 have hl4:V.se.length=K4.length:=by rw [<-hK4,length_map]
 have hl6:K6.length=V.gr.length:=by rw [<-hK6,length_map]
 have hl7:K7.length=V.re.length:=by rw [<-hK7,length_map]
 rw [hl3]at hn3;rw [hl4]at hn4;replace hK6:=yq hK6;replace hK7:=yq hK7;have HL6:=yq hl6;have HL7:=yq hl7;obtain⟨h3l,a3,k3,rfl,-⟩:=id H3;obtain⟨h4l,a4,k4,rfl,-⟩:=id H4;obtain⟨h5l,a5,k5,rfl,-⟩:=h.le;obtain⟨h6l,a6,k6,rfl,-⟩:=id H6;obtain⟨h7l,a7,k7,rfl,-⟩:=id H7;have hk3:K3.length<=k3:=hcp.1 _ _ _ rfl;have hk6:K6.length<=k6:=hcp.2.1 _ _ _ rfl;have hk7:K7.length<=k7:=hcp.2.2 _ _ _ rfl;replace H3:=yq H3;replace H4:=yq H4;replace H6:=yq H6;replace H7:=yq H7;replace hn3:=yq hn3;replace hn4:=yq hn4;generalize dJ V.le=L at *;obtain⟨env,c⟩:=L;dsimp only at HLT HA HB_ HC_ HD_ HE_;replace HA:=yq HA;replace HB_:=yq HB_;replace HC_:=yq HC_;replace HD_:=yq HD_;replace HE_:=yq HE_;have HC3:=yq hk3;have HC6:=yq hk6;have HC7:=yq hk7;clear h hs ht hK3 hK4 hl3 hl4 hl6 hl7 hcp hk3 hk6 hk7;by_cases hc:c=0
 case neg=>
  have hc2:(c !=0)=true:=by simpa using hc
  have HF:=yq (HA.out hc);clear hc
  go_enter func64,ntmps64
  go_wp2_with (go_at_call 83;refine(HLT.out _ ag).mono ?_;rintro e' w' ⟨x,rfl,⟨bs,d,rfl⟩,hbd⟩)
  go_returns
  exact⟨by rw [HF.out]<;>rfl,ag⟩
 subst hc
 go_enter func64,ntmps64
 go_wp2_with (go_at_call 83;refine(HLT.out _ ag).mono ?_;rintro e' w' ⟨x,rfl,⟨bs,d,rfl⟩,hbd⟩;have HBD:=yq hbd;obtain⟨-,xa,xc,rfl,-⟩:=hbd)
 refine fF (fun W hW=>?_);have HG:Hid (w.Grows W):=yq (by rw [<-hW];exact ag);have HBX:Hid (lD W w.heap.size (.int .i64 x0) (.int .i64 x1) (.int .i64 x2) (.slice a3 K3.length k3) (.slice a4 K4.length k4) (.slice a5 V.le.length k5) (.slice a6 K6.length k6) (.slice a7 K7.length k7)):=yq xf;have HEV:Hid (aT W (.slice xa env.length xc) env):=yq (by rw [<-hW];exact HBD.out);have HTW:=yq (HT.out.grows HG.out);clear hW HBD HLT HA
 go_loopw [28] (fun v4 wr=>∃i:Nat,i<=K3.length/\v4= .int .i64 i/\Hid (ko [] K3=ko (K3.take i) (K3.drop i))/\W.Grows wr) (fun v4 _=>K3.length-(intOf v4).toNat)
 case atStart=>exact⟨0,by omega,rfl,yq rfl,.refl _⟩
 case round=>
  obtain⟨i,hi,rfl,HAT,hgr⟩:=hrel;obtain⟨W1,rfl⟩:∃W1,W1=wr:=⟨_,rfl⟩;have HG1:=yq hgr;have HGW:=yq (gqq HG.out hgr);have HBX1:=yq (HBX.out.grows hgr);have q3:=HBX1.out.lt;have q0:=HBX1.out.c3;clear hgr;by_cases hlt:i<K3.length
  ·obtain⟨b,off,kcap,hkv,hkb,hkx⟩:=(H3.out.grows HGW.out).open_ hlt;simp only [Value.slice.injEq,true_and]at hkv;obtain⟨rfl,rfl⟩:=hkv;obtain⟨z,q2⟩:=(hn3.out.grows HGW.out).at hlt (show 1<2 by omega);have q1:=hkx i hlt;have HKL:=yq hlt;have d1:(i:Int)<(K3.length:Int):=by omega
   have d9:(i:Int)<=(k3:Int):=by have:=HC3.out;omega
   have d8:i<=k3:=by have:=HC3.out;omega
   have HAD:=yq (HAT.out.trans (E8 hlt))
   have HCF:=yq (fun w' (hg:W1.Grows w') (hb:w'.heap[W1.heap.size]? =some (.cells #[.int .i64 (K3.getD i 0),.int .i64 z] 60 (0,0)))=>by
    have:=LJ 85 #[.pointer (some ⟨W1.heap.size,0,none⟩)] Tn (fun k=>decide (K3.getD k 0=K3.getD i 0)) (.slice (some ⟨b,off,none⟩) i k3) i w' (NL ((H3.out.grows HGW.out).grows hg) ((hn3.out.grows HGW.out).grows hg) rfl ze _ _ (fun k z' hk w2 hg2=>Hl (K3.getD k 0) (K3.getD i 0) (.int .i64 z') (.int .i64 z) W1.heap.size w2 ((hg2.below.block _ (Array.getElem?_eq_some_iff.1 hb).1).trans hb)));rw [EL ze]at this
    exact this)
   generalize hq:(K3.take i).contains (K3.getD i 0)=q at *;generalize K3.getD i 0=y at *;clear hkx hlt hq;cases q
   case true=>
    have HF:Hid (bF V=10):=yq (HB_.out trivial (by rw [HAD.out,Bool.true_or]))
    go_wp2_with ((first|(go_at_call 84;refine gvq (HCF.out _ ag zN) ?_;intro bs0 d0)|(go_at_call 88;first|((with_reducible refine gvq (HN1.out _ ag) ?_);intro bs1 d1)|((with_reducible refine gvq (HN2.out _ ag) ?_);intro bs2 d2))))
    go_returns
    exact⟨by rw [HF.out]<;>rfl,gqq HG.out (gqq HG1.out ag)⟩
   have HNX:Hid (ko [] K3=ko (K3.take (i+1)) (K3.drop (i+1))):=yq (by rw [HAD.out,Bool.false_or])
   go_wp2_with ((first|(go_at_call 84;refine gvq (HCF.out _ ag zN) ?_;intro bs0 d0)|(go_at_call 88;first|((with_reducible refine gvq (HN1.out _ ag) ?_);intro bs1 d1)|((with_reducible refine gvq (HN2.out _ ag) ?_);intro bs2 d2))))
   go_roundw
   case rel=>exact⟨i+1,HKL.out,by go_num,HNX,gqq HG1.out ag⟩
   case measure=>simp [intOf];have:=HKL.out;omega
  obtain rfl:i=K3.length:=by omega
  have H3D:Hid (ko [] K3=false):=yq (HAT.out.trans Gl);clear HAT;have q4:=HBX1.out.c4
  go_wp2_with fail
  go_loopw [43] (fun v6 wr=>∃k:Nat,k<=K4.length/\v6= .int .i64 k/\Hid (∀j,j+1<k->K4.getD j 0<K4.getD (j+1) 0)/\W.Grows wr) (fun v6 _=>K4.length-(intOf v6).toNat)
  case atStart=>exact⟨0,by omega,rfl,yq (fun j hj=>by omega),HG1.out⟩
  case round=>
   obtain⟨k,hk,rfl,HAS,hgr⟩:=hrel;obtain⟨W1,rfl⟩:∃W1,W1=wr:=⟨_,rfl⟩;have HG1:=yq hgr;have HGW:=yq (gqq HG.out hgr);have HBX1:=yq (HBX.out.grows hgr);have q3:=HBX1.out.lt;have q0:=HBX1.out.c4;clear hgr;by_cases hlt:k<K4.length
   ·have HKL:=yq hlt;obtain⟨b,off,kcap,hkv,hkb,hkx⟩:=(H4.out.grows HGW.out).open_ hlt;simp only [Value.slice.injEq,true_and]at hkv;obtain⟨rfl,rfl⟩:=hkv;obtain⟨z1,q4⟩:=(hn4.out.grows HGW.out).at hlt (show 1<3 by omega);obtain⟨z2,q5⟩:=(hn4.out.grows HGW.out).at hlt (show 2<3 by omega);have q1:=hkx k hlt;have d1:(k:Int)<(K4.length:Int):=by omega
    by_cases hk0:k=0
    ·subst hk0;simp only [Nat.zero_mul,Nat.add_zero]at q1 q4 q5;have e1:0<K4.length:=hlt;obtain⟨y,hy⟩:∃z,K4.getD 0 0=z:=⟨_,rfl⟩;rw [hy]at q1;clear hkx hlt hk d1 hy
     go_wp2_with fail
     go_region
     go_wp2_with fail
     go_roundw
     case rel=>exact⟨1,HKL.out,by go_num,yq (fun j hj=>by omega),gqq HG1.out ag⟩
     case measure=>simp [intOf];have:=HKL.out;omega
    obtain⟨t,hkt⟩:∃t,k=t+1:=⟨k-1,by omega⟩;have q2:=hkx t ze;have d2:(k:Int)-1=(t:Int):=by omega
    have d3:(t:Int)<(K4.length:Int):=by omega
    have d4:(0:Int)<=(t:Int):=by omega
    have d5:(0:Int)<(k:Int):=by omega
    have d6:0<k:=by omega
    have HT:=yq hkt;clear hkx hkt hk hlt hk0;by_cases hle:K4.getD k 0<=K4.getD t 0
    ·have HF:Hid (bF V=1):=yq (HC_.out trivial H3D.out (ME (j:=t) (by rw [<-HT.out];exact HKL.out) (by rw [<-HT.out];exact hle)));obtain⟨y,hy⟩:∃z,K4.getD k 0=z:=⟨_,rfl⟩;obtain⟨z,hz⟩:∃z,K4.getD t 0=z:=⟨_,rfl⟩;rw [hy]at q1 hle;rw [hz]at q2 hle;clear hy hz
     go_wp2_with fail
     go_quiet (fail)
     go_wp2_with fail
     go_returns
     exact⟨by rw [HF.out]<;>rfl,gqq HG.out (gqq HG1.out ag)⟩
    ·have HLE:=yq hle;obtain⟨zk,hzk⟩:∃z,K4.getD k 0=z:=⟨_,rfl⟩;obtain⟨zt,hzt⟩:∃z,K4.getD t 0=z:=⟨_,rfl⟩;rw [hzk]at q1 hle;rw [hzt]at q2 hle;have hle2:zt<zk:=by omega
     clear hzk hzt
     go_wp2_with fail
     go_quiet (fail)
     go_wp2_with fail
     go_roundw
     case rel=>exact⟨k+1,HKL.out,by go_num,yq (fun j hj=>by
      by_cases ej:j+1=k
      ·have:=HLE.out;have e:j=t:=by have:=HT.out;omega
       rw [ej,e];omega
      ·exact HAS.out j ze),gqq HG1.out ag⟩
     case measure=>simp [intOf];have:=HKL.out;omega
   obtain rfl:k=K4.length:=by omega
   have hK:r9 K4=true:=(sO K4).2 fun j hj=>HAS.out j ze;have H4D:=yq hK;have HDD:Hid (∀c,c≠0->grG env [] V.gr=c->bF V=c):=yq (fun c hc h=>by rw [<-h];exact HD_.out trivial H3D.out H4D.out (by rw [h];exact hc));have HEE:Hid (grG env [] V.gr=0->bF V=reG env [] V.re):=yq (fun h=>HE_.out trivial H3D.out H4D.out h);clear HAS hK hk hlt;have q6:=HBX1.out.c6
   go_wp2_with fail
   go_loopw [66] (fun v7 wr=>∃i:Nat,i<=K6.length/\v7= .int .i64 i/\Hid (grG env [] V.gr=grG env (K6.take i) (V.gr.drop i))/\W.Grows wr) (fun v7 _=>K6.length-(intOf v7).toNat)
   case atStart=>exact⟨0,by omega,rfl,yq rfl,HG1.out⟩
   case round=>
    obtain⟨i,hi,rfl,HAT,hgr⟩:=hrel;obtain⟨W1,rfl⟩:∃W1,W1=wr:=⟨_,rfl⟩;have HG1:=yq hgr;have HGW:=yq (gqq HG.out hgr);have HBX1:=yq (HBX.out.grows hgr);have q3:=HBX1.out.lt;have q0:=HBX1.out.c6;clear hgr;by_cases hlk:i<K6.length
    ·have HKL:=yq hlk;have hlt:i<V.gr.length:=by rw [<-HL6.out];exact hlk
     have hil:i<=V.gr.length:=by omega
     have d1:(i:Int)<(K6.length:Int):=by omega
     have d9:(i:Int)<=(k6:Int):=by have:=HC6.out;omega
     have d8:i<=k6:=by have:=HC6.out;omega
     have HGR1:=yq (HV.out.gr.grows HGW.out);obtain⟨-,a',c',hvv,hx⟩:=HGR1.out;simp only [Value.slice.injEq]at hvv;obtain⟨rfl,-,rfl⟩:=hvv;rcases hx with h0|⟨b,off,rfl,hbw,hx⟩
     ·omega
     obtain⟨u,u',hg⟩:=hx i hlt;have hsm:=HS.out.gr _ (gq hlt);have hfa:=mq hK6.out hlt;have HGN:=yq (fun h=>HAT.out.trans (Cq (env:=env) hK6.out hlt h));have HGB:=yq (fun h=>HAT.out.trans (Av (env:=env) hK6.out hlt h))
     have HCF:=yq (fun w' (hg:W1.Grows w') (a1 a2 a3 a4 a5 a6 a7 a8 a9 a10 a11 a12:Value) (hb:w'.heap[W1.heap.size]? =some (.cells #[.int .i64 (V.gr.getD i default).1,a1,a2,a3,a4,a5,a6,a7,a8,a9,a10,a11,a12] 76 (0,0)))=>by
      have:=LH 87 #[.pointer (some ⟨W1.heap.size,0,none⟩)] Tm (fun k=>decide (K6.getD k 0=K6.getD i 0)) (.slice (some ⟨b,off,none⟩) i k6) i w' (NK (HGR1.out.grows hg) hil _ _ (fun k hk b1 b2 b3 b4 b5 b6 b7 b8 b9 b10 b11 b12 w2 hg2=>by
       rw [mq hK6.out (show k<V.gr.length by omega),hfa]
       exact Hd _ _ b1 b2 b3 b4 b5 b6 b7 b8 b9 b10 b11 b12 a1 a2 a3 a4 a5 a6 a7 a8 a9 a10 a11 a12 W1.heap.size w2 ((hg2.below.block _ (Array.getElem?_eq_some_iff.1 hb).1).trans hb)))
      rw [EL (by have:=HL6.out;omega),hfa]at this
      exact this)
     rw [<-hfa]at HCF;have HSD:=yq (fun(h:(K6.take i).contains (K6.getD i 0)=true)=>Gf (env:=env) (pre:=K6.take i) (g:=V.gr.getD i default) yE);have HS1:=yq (fun(h:(K6.take i).contains (K6.getD i 0)=false)=>Gd (env:=env) (pre:=K6.take i) (g:=V.gr.getD i default) yE);generalize(K6.take i).contains (K6.getD i 0)=q at *;rw [hfa]at HCF;generalize V.gr.getD i default=g at *;obtain⟨gn,ge,gp⟩:=g;obtain⟨m,m0,m1,m2,m3,m4,m5,n0,n1,n2,n3,n4,n5,r1,r2⟩:=hg;dsimp only at m m0 m1 m2 m3 m4 m5 n0 n1 n2 n3 n4 n5 r1 r2 hsm HSD HS1 HGN HGB HCF;obtain⟨ua,uc,rfl⟩:=r1.form0;obtain⟨va,vc,rfl⟩:=r2.form0;have HR1:=yq r1;have HR2:=yq r2;have HEW:=yq (HEV.out.grows HG1.out);have HTV:=yq (HTW.out.grows HG1.out);have HN1:=yq (fun w' (hg:W1.Grows w')=>tH env ge _ _ 1 w' (HR1.out.grows hg) hsm.1 (HTV.out.grows hg) (HEW.out.grows hg));have HN2:=yq (fun w' (hg:W1.Grows w')=>tH env gp _ _ 4 w' (HR2.out.grows hg) hsm.2 (HTV.out.grows hg) (HEW.out.grows hg));unfold exV at HN1 HN2;replace HCF:=yq (fun w' hg=>HCF.out w' hg (.int .i64 ge.op) (.int .i64 ge.num) (.int .i64 ge.den) (.int .i64 ge.dim) (.string ge.name) (.slice ua ge.args.length uc) (.int .i64 gp.op) (.int .i64 gp.num) (.int .i64 gp.den) (.int .i64 gp.dim) (.string gp.name) (.slice va gp.args.length vc));clear r1 r2 hx hlt hsm hfa hlk hil;cases q
     case true=>
      have hs:=HSD.out rfl;have HF:Hid (bF V=10):=yq (HDD.out 10 zo ((HGB.out yF).trans hs));clear hs
      go_wp2_with ((first|(go_at_call 86;refine gvq (HCF.out _ ag zN) ?_;intro bs0 d0)|(go_at_call 88;first|((with_reducible refine gvq (HN1.out _ ag) ?_);intro bs1 d1)|((with_reducible refine gvq (HN2.out _ ag) ?_);intro bs2 d2))))
      go_returns
      exact⟨by rw [HF.out]<;>rfl,gqq HG.out (gqq HG1.out ag)⟩
     have HST:=yq (HS1.out rfl);generalize dS env ge 1=c1 at *;generalize dS env gp 4=c2 at *;by_cases h1:c1=0
     case neg=>
      have hb:(c1 !=0)=true:=by simpa using h1
      have HF:Hid (bF V=c1):=yq (HDD.out c1 h1 ((HGB.out (by rw [HST.out,if_pos h1];exact h1)).trans (by rw [HST.out,if_pos h1])));clear h1
      go_wp2_with ((first|(go_at_call 86;refine gvq (HCF.out _ ag zN) ?_;intro bs0 d0)|(go_at_call 88;first|((with_reducible refine gvq (HN1.out _ ag) ?_);intro bs1 d1)|((with_reducible refine gvq (HN2.out _ ag) ?_);intro bs2 d2))))
      go_returns
      exact⟨by rw [HF.out]<;>rfl,gqq HG.out (gqq HG1.out ag)⟩
     subst h1;by_cases h2:c2=0
     case neg=>
      have hb:(c2 !=0)=true:=by simpa using h2
      have HF:Hid (bF V=c2):=yq (HDD.out c2 h2 ((HGB.out (by rw [HST.out,if_neg zg];exact h2)).trans yz));clear h2
      go_wp2_with ((first|(go_at_call 86;refine gvq (HCF.out _ ag zN) ?_;intro bs0 d0)|(go_at_call 88;first|((with_reducible refine gvq (HN1.out _ ag) ?_);intro bs1 d1)|((with_reducible refine gvq (HN2.out _ ag) ?_);intro bs2 d2))))
      go_returns
      exact⟨by rw [HF.out]<;>rfl,gqq HG.out (gqq HG1.out ag)⟩
     subst h2;have HNX:=yq (HGN.out yz)
     go_wp2_with ((first|(go_at_call 86;refine gvq (HCF.out _ ag zN) ?_;intro bs0 d0)|(go_at_call 88;first|((with_reducible refine gvq (HN1.out _ ag) ?_);intro bs1 d1)|((with_reducible refine gvq (HN2.out _ ag) ?_);intro bs2 d2))))
     go_roundw
     case rel=>exact⟨i+1,HKL.out,by go_num,HNX,gqq HG1.out ag⟩
     case measure=>simp [intOf];have:=HKL.out;omega
    obtain rfl:i=K6.length:=by omega
    have HEF:Hid (bF V=reG env [] V.re):=yq (HEE.out (HAT.out.trans (by rw [HL6.out,drop_length,grG])));clear HAT HDD HEE;have HEE:=HEF;clear HEF;have q7:=HBX1.out.c7
    go_wp2_with fail
    go_loopw [95] (fun v11 wr=>∃i:Nat,i<=K7.length/\v11= .int .i64 i/\Hid (reG env [] V.re=reG env (K7.take i) (V.re.drop i))/\W.Grows wr) (fun v11 _=>K7.length-(intOf v11).toNat)
    case atStart=>exact⟨0,by omega,rfl,yq rfl,HG1.out⟩
    case round=>
     obtain⟨i,hi,rfl,HAT,hgr⟩:=hrel;obtain⟨W1,rfl⟩:∃W1,W1=wr:=⟨_,rfl⟩;have HG1:=yq hgr;have HGW:=yq (gqq HG.out hgr);have HBX1:=yq (HBX.out.grows hgr);have q3:=HBX1.out.lt;have q0:=HBX1.out.c7;clear hgr;by_cases hlk:i<K7.length
     ·have HKL:=yq hlk;have hlt:i<V.re.length:=by rw [<-HL7.out];exact hlk
      have hil:i<=V.re.length:=by omega
      have d1:(i:Int)<(K7.length:Int):=by omega
      have d9:(i:Int)<=(k7:Int):=by have:=HC7.out;omega
      have d8:i<=k7:=by have:=HC7.out;omega
      have HGR1:=yq (HV.out.re.grows HGW.out);obtain⟨-,a',c',hvv,hx⟩:=HGR1.out;simp only [Value.slice.injEq]at hvv;obtain⟨rfl,-,rfl⟩:=hvv;rcases hx with h0|⟨b,off,rfl,hbw,hx⟩
      ·omega
      obtain⟨u,hg⟩:=hx i hlt;have hsm:=HS.out.re _ (gq hlt);have hfa:=mq hK7.out hlt;have HGN:=yq (fun h=>HAT.out.trans (Bt (env:=env) hK7.out hlt h));have HGB:=yq (fun h=>HAT.out.trans (Af (env:=env) hK7.out hlt h))
      have HCF:=yq (fun w' (hg:W1.Grows w') (a1 a2 a3 a4 a5 a6:Value) (hb:w'.heap[W1.heap.size]? =some (.cells #[.int .i64 (V.re.getD i default).1,a1,a2,a3,a4,a5,a6] 78 (0,0)))=>by
       have:=LG 90 #[.pointer (some ⟨W1.heap.size,0,none⟩)] Tk (fun k=>decide (K7.getD k 0=K7.getD i 0)) (.slice (some ⟨b,off,none⟩) i k7) i w' (NI (HGR1.out.grows hg) hil _ _ (fun k hk b1 b2 b3 b4 b5 b6 w2 hg2=>by
        rw [mq hK7.out (show k<V.re.length by omega),hfa]
        exact Ha _ _ b1 b2 b3 b4 b5 b6 a1 a2 a3 a4 a5 a6 W1.heap.size w2 ((hg2.below.block _ (Array.getElem?_eq_some_iff.1 hb).1).trans hb)))
       rw [EL (by have:=HL7.out;omega),hfa]at this
       exact this)
      rw [<-hfa]at HCF;have HSD:=yq (fun(h:(K7.take i).contains (K7.getD i 0)=true)=>FO (env:=env) (pre:=K7.take i) (g:=V.re.getD i default) yE);have HS1:=yq (fun(h:(K7.take i).contains (K7.getD i 0)=false)=>FM (env:=env) (pre:=K7.take i) (g:=V.re.getD i default) yE);generalize(K7.take i).contains (K7.getD i 0)=q at *;rw [hfa]at HCF;generalize V.re.getD i default=g at *;obtain⟨gn,ge⟩:=g;obtain⟨m,m0,m1,m2,m3,m4,m5,r1⟩:=hg;dsimp only at m m0 m1 m2 m3 m4 m5 r1 hsm HSD HS1 HGN HGB HCF;obtain⟨ua,uc,rfl⟩:=r1.form0;have HR1:=yq r1;have HEW:=yq (HEV.out.grows HG1.out);have HTV:=yq (HTW.out.grows HG1.out);have HN1:=yq (fun w' (hg:W1.Grows w')=>tH env ge _ _ 2 w' (HR1.out.grows hg) hsm (HTV.out.grows hg) (HEW.out.grows hg));unfold exV at HN1;have HN2:=HN1;replace HCF:=yq (fun w' hg=>HCF.out w' hg (.int .i64 ge.op) (.int .i64 ge.num) (.int .i64 ge.den) (.int .i64 ge.dim) (.string ge.name) (.slice ua ge.args.length uc));clear r1 hx hlt hsm hfa hlk hil;cases q
      case true=>
       have hs:=HSD.out rfl;have HF:Hid (bF V=10):=yq (HEE.out.trans ((HGB.out yF).trans hs));clear hs
       go_wp2_with ((first|(go_at_call 89;refine gvq (HCF.out _ ag zN) ?_;intro bs0 d0)|(go_at_call 88;first|((with_reducible refine gvq (HN1.out _ ag) ?_);intro bs1 d1)|((with_reducible refine gvq (HN2.out _ ag) ?_);intro bs2 d2))))
       go_returns
       exact⟨by rw [HF.out]<;>rfl,gqq HG.out (gqq HG1.out ag)⟩
      have HST:=yq (HS1.out rfl);generalize dS env ge 2=c1 at *;by_cases h1:c1=0
      case neg=>
       have hb:(c1 !=0)=true:=by simpa using h1
       have HF:Hid (bF V=c1):=yq (HEE.out.trans ((HGB.out (by rw [HST.out];exact h1)).trans HST.out));clear h1
       go_wp2_with ((first|(go_at_call 89;refine gvq (HCF.out _ ag zN) ?_;intro bs0 d0)|(go_at_call 88;first|((with_reducible refine gvq (HN1.out _ ag) ?_);intro bs1 d1)|((with_reducible refine gvq (HN2.out _ ag) ?_);intro bs2 d2))))
       go_returns
       exact⟨by rw [HF.out]<;>rfl,gqq HG.out (gqq HG1.out ag)⟩
      subst h1;have HNX:=yq (HGN.out HST.out)
      go_wp2_with ((first|(go_at_call 89;refine gvq (HCF.out _ ag zN) ?_;intro bs0 d0)|(go_at_call 88;first|((with_reducible refine gvq (HN1.out _ ag) ?_);intro bs1 d1)|((with_reducible refine gvq (HN2.out _ ag) ?_);intro bs2 d2))))
      go_roundw
      case rel=>exact⟨i+1,HKL.out,by go_num,HNX,gqq HG1.out ag⟩
      case measure=>simp [intOf];have:=HKL.out;omega
     obtain rfl:i=K7.length:=by omega
     have HF:Hid (bF V=0):=yq (HEE.out.trans (HAT.out.trans (by rw [HL7.out,drop_length,reG])));clear HAT HEE
     go_wp2_with fail
     go_returns
     exact⟨by rw [HF.out]<;>rfl,gqq HG.out (gqq HG1.out ag)⟩
end Go.Proofs.YtcfpoofhokbhlaaGreatDoor
