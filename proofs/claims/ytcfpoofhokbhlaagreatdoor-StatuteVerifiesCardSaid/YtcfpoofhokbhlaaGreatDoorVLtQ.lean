import Derived.Test.YtcfpoofhokbhlaaGreatDoorVTypV
import Derived.Test.YtcfpoofhokbhlaaGreatDoorVAw8
set_option linter.all false
set_option maxHeartbeats 16000000
set_option maxRecDepth 1000000
namespace Go.Proofs.YtcfpoofhokbhlaaGreatDoor
open Go.Proofs.Tryz Tryz List
open Go.RowKit
def sS(ls:List (ByteArray × Ex)):Prop:=∀t∈ls,t.1.size<=140737488355328/\t.2.size<=1000000
def lw(r:List (ByteArray × Int) × Int)(w:World)(e:Ending)(w':World):Prop:=∃x,e= .returned (.tuple #[x,.int .i64 r.2])/\w.Grows w'/\aT w' x r.1
theorem lw.bad{r:List (ByteArray × Int) × Int}{c:Int}{w w':World}(h:r=([],c))(hg:w.Grows w'):lw r w (.returned (.tuple #[.slice none 0 0,.int .i64 c])) w':=by
 subst h;exact⟨_,rfl,hg,by simp,none,0,rfl,.inl rfl⟩
theorem rz{env:List (ByteArray × Int)}{s:ByteArray}{e:Ex}(h:bQ s.toList≠0\/fq s=false):fV env (s,e)=5:=by unfold fV;rw [if_pos h]
theorem uB{env:List (ByteArray × Int)}{s:ByteArray}{e:Ex}(h:bQ s.toList=0)(h2:fq s=true)(h3:env.any (fun p=>decide (p.1=s))=true):fV env (s,e)=10:=by
 unfold fV;rw [if_neg (by rw [h2];simp [h]),if_pos h3]
theorem uA{env:List (ByteArray × Int)}{s:ByteArray}{e:Ex}(h:bQ s.toList=0)(h2:fq s=true)(h3:env.any (fun p=>decide (p.1=s))=false):fV env (s,e)=(aR env e).2:=by
 unfold fV;rw [if_neg (by rw [h2];simp [h]),if_neg (by rw [h3];simp)]
theorem gq{α:Type}[Inhabited α]{l:List α}{k:Nat}(h:k<l.length):l.getD k default∈l:=by
 rw [getD_eq_getElem?_getD,getElem?_eq_getElem h];exact getElem_mem h
theorem tT{k:Nat}{p:Nat->Bool}(h:∀j,j<k->p j=false):(List.range k).any p=false:=by
 rw [Bool.eq_false_iff];intro hc;obtain⟨j,hj,hp⟩:=any_eq_true.1 hc;rw [h j (mem_range.1 hj)]at hp;cases hp
theorem tQ{k:Nat}{p:Nat->Bool}(j:Nat)(h:j<k)(hp:p j=true):(List.range k).any p=true:=any_eq_true.2 ⟨j,mem_range.2 h,hp⟩
theorem Ri(env:List (ByteArray × Int))(s:ByteArray):((List.range env.length).any fun k=>decide (bdN env k=s))=env.any fun p=>decide (p.1=s):=by
 rw [Bool.eq_iff_iff,any_eq_true,any_eq_true];constructor
 ·rintro⟨k,hk,hp⟩;have hk:=mem_range.1 hk;refine⟨env[k],getElem_mem hk, ?_⟩;unfold bdN at hp;simpa [getD_eq_getElem?_getD,getElem?_eq_getElem hk]using hp
 ·rintro⟨p,hp,hs⟩;obtain⟨k,hk,rfl⟩:=mem_iff_getElem.1 hp;refine⟨k,mem_range.2 hk, ?_⟩;unfold bdN;simpa [getD_eq_getElem?_getD,getElem?_eq_getElem hk]using hs
def rT(r:List (ByteArray × Int) × Int)(w:World)(e:Ending)(w':World):Prop:=∃x,e= .returned (.tuple #[x,.int .i64 r.2])/\w.Grows w'/\aT w' x r.1/\∀a n c,x= .slice a n c->n<=c
theorem rT.bad{r:List (ByteArray × Int) × Int}{c:Int}{w w':World}(h:r=([],c))(hg:w.Grows w'):rT r w (.returned (.tuple #[.slice none 0 0,.int .i64 c])) w':=by
 subst h;exact⟨_,rfl,hg,⟨by simp,none,0,rfl,.inl rfl⟩,fun a n c h=>by simp only [Value.slice.injEq]at h;omega⟩
theorem Ou{w:World}{b size n:Nat}{e:TypeId}{v:Value}{xs:List Value}(h:w.ownsRow b e size v n xs):∀a m c,v= .slice a m c->m<=c:=by
 intro a m c hv;rcases h.2 with ⟨rfl,-⟩|⟨g,cap,cur,rfl,-,-,hle,-⟩
 ·simp only [Value.slice.injEq]at hv;omega
 ·simp only [Value.slice.injEq]at hv;omega
theorem Ez(ls:List (ByteArray × Ex))(v:Value)(w:World)(h:gI w v ls)(hl:10<ls.length):Calls prog 30 #[v] w (rT (dJ ls) w):=by
 obtain⟨hl1000,la,lc,rfl,-⟩:=h;have hn:(10:Int)<(ls.length:Int):=by omega
 have HF:Hid (dJ ls=([],7)):=yq (by unfold dJ;rw [if_pos hl])
 go_enter func30,ntmps30
 go_wp2_with fail
 go_returns
 exact rT.bad HF.out (.of_below af)
theorem AY(ls:List (ByteArray × Ex))(v:Value)(w:World)(h:gI w v ls)(hs:sS ls):Calls prog 30 #[v] w (rT (dJ ls) w):=by
 by_cases hlen:ls.length<=10
 case neg=>exact Ez ls v w h ze
 obtain⟨i0,hi,hz0,hz1,hz2⟩:=info_parts Lt;have HL:=yq h;have HS:=yq hs;obtain⟨hl1000,la,lc,rfl,-⟩:=h;rw [qx hlen];have hn:¬(10:Int)<(ls.length:Int):=by omega
 clear hs
 go_enter func30,ntmps30
 go_wp2_with fail
 go_loopw [4,5] (fun v4 v5 wr=>∃(k:Nat) (vb:Value) (env:List (ByteArray × Int)),vb=v4/\k<=ls.length/\v5= .int .i64 k/\Below w.heap.size w wr/\wr.ownsRow w.heap.size 74 2 vb k (pJ env)/\Hid (kC ls k env)) (fun _ v5 _=>ls.length-(intOf v5).toNat)
 case atStart=>exact⟨0,_,[],rfl,by omega,rfl,.refl _ _,World.ownsRow_nil _ _ _ _,yq (kC.zero ls)⟩
 case round=>
  obtain⟨k,vb,env,rfl,hk,rfl,hB,hown,HA⟩:=hrel;obtain⟨W1,rfl⟩:∃W1,W1=wr:=⟨_,rfl⟩;have HB:=yq hB;have HO:=yq hown;have HG:Hid (w.Grows W1):=yq (.of_below hB);have hsW:=hB.size;by_cases hlt:k<ls.length
  ·obtain⟨-,a',c',hvv,hx⟩:=HL.out.grows HG.out;simp only [Value.slice.injEq,true_and]at hvv;obtain⟨rfl,rfl⟩:=hvv;rcases hx with h0|⟨b,off,rfl,hbw,hx⟩
   ·omega
   obtain⟨uk,hsk⟩:=hx k hlt;have hsm:=HS.out _ (gq hlt);have HX:=yq hx;have HTB:=yq (HA.out.bad hlt);have HTN:=yq (HA.out.next hlt);have HDU:=yq (HA.out.dup hk);have HEL:=yq HA.out.len;have d1:(k:Int)<(ls.length:Int):=by omega
   generalize ht:ls.getD k default=tt at *;obtain⟨s,ek⟩:=tt;dsimp only at hsm;obtain⟨y0,y1,y2,y3,y4,y5,y6,hrk⟩:=hsk;obtain⟨ka,kc,rfl⟩:=hrk.form0;have HRK:=yq hrk;have HI5:=yq (gJ s);have HN5:=yq (fun w=>vD s w (by have:=hsm.1;unfold maxLen;omega));have HIF:=yq (fun w' ve hr hv=>oF (fun _=>True) env ek (.slice ka ek.args.length kc) ve w' hr (by have:=hsm.2;omega) hv);have HKL:=yq hlt;have hk10:k<=10:=by omega
   clear hx hrk hsm HA hB hown hlt hk;dsimp only at y0 y1 y2 y3 y4 y5 y6;by_cases hd:bQ s.toList=0
   case neg=>
    have HC:Hid (ib ls []=([],5)):=yq yZ;rw [decide_eq_true hd]at HI5;generalize bQ s.toList=d0 at *;exact RN
   rw [hd]at HI5;have HD:=yq hd;clear hd;cases hnb:fq s
   case false=>
    have HC:Hid (ib ls []=([],5)):=yq yY;rw [hnb]at HN5;clear hnb;exact RN
   rw [hnb]at HN5;have HNB:=yq hnb;clear hnb
   go_wp2_with ((first|(go_at_call 55;refine gw (HI5.out _) ?_)|(go_at_call 56;refine gw (HN5.out _) ?_)))
   go_loopw [8] (fun v8 wr=>∃j:Nat,j<=k/\v8= .int .i64 j/\Hid (∀i,i<j->decide ((ls.getD i default).1=s)=false)/\W1.Grows wr) (fun v8 _=>k-(intOf v8).toNat)
   case atStart=>exact⟨0,by omega,rfl,yq (fun i hi=>by omega),.refl _⟩
   case round=>
    obtain⟨j,hj,rfl,HNO,hgr⟩:=hrel;have HG2:=yq hgr;have HG3:Hid (w.Grows wr):=yq (gqq HG.out hgr);obtain⟨bs,d,rfl⟩:=hgr;by_cases hjk:j<k
    ·obtain⟨uj,hsj⟩:=HX.out j zM;have x0:=hsj.nm;have e1:(j:Int)<(k:Int):=by omega
     have e2:(j:Int)<(ls.length:Int):=by omega
     clear hsj;generalize hnj:(ls.getD j default).1=nj at *;by_cases he:nj=s
     ·have he2:(nj.toList==s.toList)=true:=by rw [he];simp
      have HC:Hid (ib ls []=([],10)):=yq (by have h5:=uB (e:=ek) HD.out HNB.out (HDU.out s|>.trans (tQ j hjk (by rw [hnj,he];simp)));have:=HTB.out zY;rw [h5]at this;exact this);clear he hnj
      go_wp2_with fail
      go_region
      go_wp2_with fail
      go_returns
      exact rT.bad HC.out (gqq HG.out ag)
     ·have he2:(nj.toList==s.toList)=false:=by rw [beq_eq_false_iff_ne];exact fun h=>he (toList_inj h)
      have HE:Hid (decide ((ls.getD j default).1=s)=false):=yq (by rw [hnj];exact decide_eq_false he);clear he hnj
      go_wp2_with fail
      go_region
      go_wp2_with fail
      go_roundw
      case rel=>exact⟨j+1,by omega,by go_num,yq (fun i hi=>by
       by_cases ei:i=j
       ·subst ei;exact HE.out
       ·exact HNO.out i ze),ag⟩
      case measure=>simp [intOf];omega
    ·obtain rfl:j=k:=by omega
     have HDN:Hid (env.any (fun p=>decide (p.1=s))=false):=yq ((HDU.out s).trans (tT HNO.out));have HST:Hid (fV env (s,ek)=(aR env ek).2):=yq (uA HD.out HNB.out HDN.out);have HO2:=yq (bK HO.out HG2.out);have HBD:Hid (aT (W1.grow bs d) vb env):=yq (aT.of_own (by rw [HEL.out];exact HO2.out) (by rw [HEL.out];omega));have hI:=HIF.out (W1.grow bs d) vb (HRK.out.grows HG2.out) HBD.out;generalize hr:aR env ek=r at *;obtain⟨dk,ck⟩:=r;unfold jR at hI;dsimp only at hI HST HTN;have HI:=yq hI;clear hI hjk;by_cases hc:ck=0
     ·subst hc;have HNX:=yq (HTN.out HST.out)
      go_wp2_with (first
       |(go_at_call 57;refine HI.out.mono ?_;rintro e' w' ⟨rfl,bs2,d2,rfl⟩)
       |(at_builtin;refine wpList_append_own _ rfl _ _ 65 rfl w.heap.size 74 i0 _ 2 24 underlying65 hi hz0 hz1 hz2 rfl zo _ _ _ rfl (bK HO.out ag) ⟨_,0,none⟩ 1 1 [.string s,.int .i64 dk] rfl rfl ?c1 ?c2 ?c3 ?c4 ?c5 ?_))
      case c1=>exact aQ _ [.string s,.int .i64 dk] _ _ zg
      case c2=>intro u hu;simp at hu;rcases hu with rfl|rfl<;>rfl
      case c3=>unfold maxLen;omega
      case c4=>omega
      case c5=>simp;omega
      intro v' w1 hown' hgrow _;have HB4:=yq ((show Below w.heap.size w _ from by have:=HB.out;(exact af)).grown hgrow zp (fun k hk=>(HO.out.lt k hk).1));have HO4:=yq hown';clear hown' hgrow
      go_wp2_with fail
      go_roundw
      case rel=>exact⟨j+1,_,_,rfl,HKL.out,by go_num,HB4.out,by rw [ow];exact HO4.out,HNX⟩
      case measure=>simp [intOf];have:=HKL.out;omega
     ·have hc2:(ck !=0)=true:=by simpa using hc
      have HC:Hid (ib ls []=([],ck)):=yq xg;clear hc
      go_wp2_with (go_at_call 57;refine HI.out.mono ?_;rintro e' w' ⟨rfl,bs2,d2,rfl⟩)
      go_returns
      exact rT.bad HC.out (gqq HG.out ag)
  ·obtain rfl:k=ls.length:=by omega
   have HD:=yq HA.out.done;have HBD:Hid (aT W1 vb env):=yq (aT.of_own (by rw [HA.out.len];exact HO.out) (by rw [HA.out.len];omega));clear hB hown
   go_wp2_with fail
   go_returns
   exact⟨_,by rw [HD.out];rfl,HG.out,by rw [HD.out];exact HBD.out,Ou HO.out⟩
theorem J2(ls:List (ByteArray × Ex))(v:Value)(w:World)(h:gI w v ls)(hs:sS ls):Calls prog 30 #[v] w (lw (dJ ls) w):=(AY ls v w h hs).mono fun _ _ ⟨x,h1,h2,h3,_⟩=>⟨x,h1,h2,h3⟩
theorem nR(env:List (ByteArray × Int))(e:Ex)(v ve:Value)(want:Int)(w:World)(h:aB (fun _=>True) w e v)(hbig:e.size<=1000000)(hv:aT w ve env) :
 Calls prog 31 #[exV e v,ve,.int .i64 want] w fun r w'=>r= .returned (.int .i64 (dS env e want))/\w.Grows w':=by
 have HR:=yq h;have HV:=yq hv;obtain⟨a,cap,rfl⟩:=h.form0;obtain⟨-,ba,bc,rfl,-⟩:=hv;have HI:=yq (fun w' (hg:w.Grows w')=>oF (fun _=>True) env e (.slice a e.args.length cap) (.slice ba env.length bc) w' (HR.out.grows hg) ze (HV.out.grows hg));unfold jR exV at HI;have HN:Hid (dS env e want=if(aR env e).2=0/\(aR env e).1≠want then 6 else(aR env e).2):=yq rfl;generalize aR env e=r at *;obtain⟨d,c⟩:=r;dsimp only at HI HN;clear h;by_cases hc:c=0
 ·subst hc;by_cases hd:d=want
  ·subst hd;have HF:Hid (dS env e d=0):=yq (by rw [HN.out];simp)
   go_enter func31,ntmps31
   go_wp2_with (go_at_call 57;refine gvq (HI.out _ ag) ?_;intro bs d')
   go_returns
   exact⟨by rw [HF.out]<;>rfl,ag⟩
  ·have hd2:(d !=want)=true:=by simpa using hd
   have HF:Hid (dS env e want=6):=yq (by rw [HN.out,if_pos ⟨rfl,hd⟩]);clear hd
   go_enter func31,ntmps31
   go_wp2_with (go_at_call 57;refine gvq (HI.out _ ag) ?_;intro bs d')
   go_returns
   exact⟨by rw [HF.out]<;>rfl,ag⟩
 ·have hc2:(c==0)=false:=by simpa using hc
  have HF:Hid (dS env e want=c):=yq (by rw [HN.out,if_neg (fun h=>hc h.1)]);clear hc
  go_enter func31,ntmps31
  go_wp2_with (go_at_call 57;refine gvq (HI.out _ ag) ?_;intro bs d')
  go_returns
  exact⟨by rw [HF.out]<;>rfl,ag⟩
structure lI(V:dH):Prop where
 le:sS V.le
 gr:∀t∈V.gr,t.2.1.size<=1000000/\t.2.2.size<=1000000
 re:∀t∈V.re,t.2.size<=1000000
def lD(w:World)(b:Nat)(c0 c1 c2 v3 v4 v5 v6 v7:Value):Prop:=w.heap[b]? =some (.cells #[c0,c1,c2,v3,v4,v5,v6,v7] 36 (0,0))
section
variable {w w' : World} {b : Nat} {c0 c1 c2 v3 v4 v5 v6 v7 : Value}
theorem lD.grows(h:lD w b c0 c1 c2 v3 v4 v5 v6 v7)(hg:w.Grows w'):lD w' b c0 c1 c2 v3 v4 v5 v6 v7:=(hg.below.block b (Array.getElem?_eq_some_iff.1 h).1).trans h
theorem lD.lt(h:lD w b c0 c1 c2 v3 v4 v5 v6 v7):b<w.heap.size:=(Array.getElem?_eq_some_iff.1 h).1
theorem lD.c3(h:lD w b c0 c1 c2 v3 v4 v5 v6 v7):w.cell? ⟨b,3,none⟩=some v3:=by rw [cell_of_row w b _ _ _ _ h];rfl
theorem lD.c4(h:lD w b c0 c1 c2 v3 v4 v5 v6 v7):w.cell? ⟨b,4,none⟩=some v4:=by rw [cell_of_row w b _ _ _ _ h];rfl
theorem lD.c5(h:lD w b c0 c1 c2 v3 v4 v5 v6 v7):w.cell? ⟨b,5,none⟩=some v5:=by rw [cell_of_row w b _ _ _ _ h];rfl
theorem lD.c6(h:lD w b c0 c1 c2 v3 v4 v5 v6 v7):w.cell? ⟨b,6,none⟩=some v6:=by rw [cell_of_row w b _ _ _ _ h];rfl
theorem lD.c7(h:lD w b c0 c1 c2 v3 v4 v5 v6 v7):w.cell? ⟨b,7,none⟩=some v7:=by rw [cell_of_row w b _ _ _ _ h];rfl
end
theorem jP.open_{c:Nat}{w:World}{v:Value}{l:List Int}(h:jP c w v l){i:Nat}(hi:i<l.length):∃b off cap,v= .slice (some ⟨b,off,none⟩) l.length cap/\b<w.heap.size/\∀i,i<l.length->w.cell? ⟨b,off+i*c,none⟩=some (.int .i64 (l.getD i 0)):=by
 obtain⟨-,a,cap,rfl,h0|⟨b,off,rfl,hb,hx⟩⟩:=h
 ·omega
 ·exact⟨b,off,cap,rfl,hb,hx⟩
theorem iT.nums{w:World}{v:Value}{l:List (Int × Ex × Ex)}(h:iT w v l):jP 13 w v (l.map Prod.fst):=by
 obtain⟨h0,a,cap,hv,h1⟩:=h;refine⟨by simpa using h0,a,cap,by simpa using hv,h1.imp zg ?_⟩;rintro⟨b,off,ha,hb,hc⟩;refine⟨b,off,ha,hb,fun i hi=>?_⟩;rw [length_map]at hi;obtain⟨u,u',hu⟩:=hc i hi;rw [hu.nm];simp [getD_eq_getElem?_getD,getElem?_map,getElem?_eq_getElem hi]
theorem oC.nums{w:World}{v:Value}{l:List (Int × Ex)}(h:oC w v l):jP 7 w v (l.map Prod.fst):=by
 obtain⟨h0,a,cap,hv,h1⟩:=h;refine⟨by simpa using h0,a,cap,by simpa using hv,h1.imp zg ?_⟩;rintro⟨b,off,ha,hb,hc⟩;refine⟨b,off,ha,hb,fun i hi=>?_⟩;rw [length_map]at hi;obtain⟨u,hu⟩:=hc i hi;rw [hu.nm];simp [getD_eq_getElem?_getD,getElem?_map,getElem?_eq_getElem hi]
theorem mq{β:Type}[Inhabited (Int × β)]{l:List (Int × β)}{K:List Int}(h:l.map Prod.fst=K){k:Nat}(hk:k<l.length):K.getD k 0=(l.getD k default).1:=by
 subst h;simp [getD_eq_getElem?_getD,getElem?_map,getElem?_eq_getElem hk]
theorem Av{env:List (ByteArray × Int)}{l:List (Int × Ex × Ex)}{K:List Int}{k:Nat}(hK:l.map Prod.fst=K)(hk:k<l.length)(h:iY env (K.take k) (l.getD k default)≠0):grG env (K.take k) (l.drop k)=iY env (K.take k) (l.getD k default):=by
 subst hK;rw [<-map_take]at h ⊢;exact Q5 hk h
theorem Cq{env:List (ByteArray × Int)}{l:List (Int × Ex × Ex)}{K:List Int}{k:Nat}(hK:l.map Prod.fst=K)(hk:k<l.length)(h:iY env (K.take k) (l.getD k default)=0):grG env (K.take k) (l.drop k)=grG env (K.take (k+1)) (l.drop (k+1)):=by
 subst hK;rw [<-map_take]at h ⊢;rw [<-map_take];exact OY hk h
theorem Af{env:List (ByteArray × Int)}{l:List (Int × Ex)}{K:List Int}{k:Nat}(hK:l.map Prod.fst=K)(hk:k<l.length)(h:iV env (K.take k) (l.getD k default)≠0):reG env (K.take k) (l.drop k)=iV env (K.take k) (l.getD k default):=by
 subst hK;rw [<-map_take]at h ⊢;exact QS hk h
theorem Bt{env:List (ByteArray × Int)}{l:List (Int × Ex)}{K:List Int}{k:Nat}(hK:l.map Prod.fst=K)(hk:k<l.length)(h:iV env (K.take k) (l.getD k default)=0):reG env (K.take k) (l.drop k)=reG env (K.take (k+1)) (l.drop (k+1)):=by
 subst hK;rw [<-map_take]at h ⊢;rw [<-map_take];exact Oq hk h
theorem Gf{env:List (ByteArray × Int)}{pre:List Int}{g:Int × Ex × Ex}(h:pre.contains g.1=true):iY env pre g=10:=by unfold iY;rw [if_pos h]
theorem Gd{env:List (ByteArray × Int)}{pre:List Int}{g:Int × Ex × Ex}(h:pre.contains g.1=false):iY env pre g=if dS env g.2.1 1≠0 then dS env g.2.1 1 else dS env g.2.2 4:=by unfold iY;rw [if_neg yu]
theorem FO{env:List (ByteArray × Int)}{pre:List Int}{g:Int × Ex}(h:pre.contains g.1=true):iV env pre g=10:=by unfold iV;rw [if_pos h]
theorem FM{env:List (ByteArray × Int)}{pre:List Int}{g:Int × Ex}(h:pre.contains g.1=false):iV env pre g=dS env g.2 2:=by unfold iV;rw [if_neg yu]
theorem AQ(V:dH)(x0 x1 x2:Int)(v3 v4 v5 v6 v7:Value)(w:World)(h:vw w V v3 v4 v5 v6 v7)(hs:lI V) :
 Calls prog 17 #[.agg #[.int .i64 x0,.int .i64 x1,.int .i64 x2,v3,v4,v5,v6,v7]] w fun e w'=>e= .returned (.int .i64 (bF V))/\w.Grows w':=by
 have HV:=yq h;have HS:=yq hs;have HLT:=yq (fun w' (hg:w.Grows w')=>J2 V.le v5 w' (h.le.grows hg) hs.le);unfold lw at HLT;have HA:=Kj (V:=V);have HB_:=Ki (V:=V);have HC_:=Kh (V:=V);have HD_:=Kg (V:=V);have HE_:=Ke (V:=V);have H3:=h.cr;have H4:=h.se;have H6:=h.gr.nums;have H7:=h.re.nums;obtain⟨K3,hK3⟩:∃K,V.cr.map Prod.fst=K:=⟨_,rfl⟩;obtain⟨K4,hK4⟩:∃K,V.se.map Prod.fst=K:=⟨_,rfl⟩;obtain⟨K6,hK6⟩:∃K,V.gr.map Prod.fst=K:=⟨_,rfl⟩;obtain⟨K7,hK7⟩:∃K,V.re.map Prod.fst=K:=⟨_,rfl⟩;rw [hK3]at H3 HB_ HC_ HD_ HE_;rw [hK4]at H4 HC_ HD_ HE_;rw [hK6]at H6;rw [hK7]at H7;have hl6:K6.length=V.gr.length:=by rw [<-hK6,length_map]
 have hl7:K7.length=V.re.length:=by rw [<-hK7,length_map]
 replace hK6:=yq hK6;replace hK7:=yq hK7;have HL6:=yq hl6;have HL7:=yq hl7;obtain⟨h3l,a3,k3,rfl,-⟩:=id H3;obtain⟨h4l,a4,k4,rfl,-⟩:=id H4;obtain⟨h5l,a5,k5,rfl,-⟩:=h.le;obtain⟨h6l,a6,k6,rfl,-⟩:=id H6;obtain⟨h7l,a7,k7,rfl,-⟩:=id H7;replace H3:=yq H3;replace H4:=yq H4;replace H6:=yq H6;replace H7:=yq H7;generalize dJ V.le=L at *;obtain⟨env,c⟩:=L;dsimp only at HLT HA HB_ HC_ HD_ HE_;replace HA:=yq HA;replace HB_:=yq HB_;replace HC_:=yq HC_;replace HD_:=yq HD_;replace HE_:=yq HE_;clear h hs hK3 hK4 hl6 hl7;by_cases hc:c=0
 case neg=>
  have hc2:(c !=0)=true:=by simpa using hc
  have HF:=yq (HA.out hc);clear hc
  go_enter func17,ntmps17
  go_wp2_with (go_at_call 30;refine(HLT.out _ ag).mono ?_;rintro e' w' ⟨x,rfl,⟨bs,d,rfl⟩,hbd⟩)
  go_returns
  exact⟨by rw [HF.out]<;>rfl,ag⟩
 subst hc
 go_enter func17,ntmps17
 go_wp2_with (go_at_call 30;refine(HLT.out _ ag).mono ?_;rintro e' w' ⟨x,rfl,⟨bs,d,rfl⟩,hbd⟩;have HBD:=yq hbd;obtain⟨-,xa,xc,rfl,-⟩:=hbd)
 refine fF (fun W hW=>?_);have HG:Hid (w.Grows W):=yq (by rw [<-hW];exact ag);have HBX:Hid (lD W w.heap.size (.int .i64 x0) (.int .i64 x1) (.int .i64 x2) (.slice a3 K3.length k3) (.slice a4 K4.length k4) (.slice a5 V.le.length k5) (.slice a6 K6.length k6) (.slice a7 K7.length k7)):=yq xf;have HEV:Hid (aT W (.slice xa env.length xc) env):=yq (by rw [<-hW];exact HBD.out);clear hW HBD HLT HA
 go_loopw [5] (fun v4 wr=>∃i:Nat,i<=K3.length/\v4= .int .i64 i/\Hid (ko [] K3=ko (K3.take i) (K3.drop i))/\W.Grows wr) (fun v4 _=>K3.length-(intOf v4).toNat)
 case atStart=>exact⟨0,by omega,rfl,yq rfl,.refl _⟩
 case round=>
  obtain⟨i,hi,rfl,HAT,hgr⟩:=hrel;obtain⟨W1,rfl⟩:∃W1,W1=wr:=⟨_,rfl⟩;have HG1:=yq hgr;have HBX1:=yq (HBX.out.grows hgr);have q3:=HBX1.out.lt;have q0:=HBX1.out.c3;clear hgr;by_cases hlt:i<K3.length
  ·have HKL:=yq hlt;have d1:(i:Int)<(K3.length:Int):=by omega
   clear hlt
   go_wp2_with fail
   go_loopw [6] (fun vj wr=>∃j:Nat,j<=i/\vj= .int .i64 j/\Hid (∀t,t<j->decide (K3.getD t 0=K3.getD i 0)=false)/\W1.Grows wr) (fun vj _=>i-(intOf vj).toNat)
   case atStart=>exact⟨0,by omega,rfl,yq (fun t ht=>by omega),.refl _⟩
   case round=>
    obtain⟨j,hj,rfl,HNO,hgr⟩:=hrel;have HG2:=yq (gqq HG1.out hgr);have HG3:=yq hgr;have HBX2:=yq (HBX.out.grows HG2.out);by_cases hji:j<i
    ·obtain⟨b,off,kcap,hkv,hkb,hkx⟩:=(H3.out.grows (gqq HG.out HG2.out)).open_ HKL.out;have q0:=HBX2.out.c3;rw [hkv]at q0;have q1:=hkx j zM;have q2:=hkx i HKL.out;have q3:=HBX2.out.lt;have e1:(j:Int)<(i:Int):=by omega
     have e2:(j:Int)<(K3.length:Int):=by have:=HKL.out;omega
     have e3:(i:Int)<(K3.length:Int):=by have:=HKL.out;omega
     clear hkv hkx hgr;by_cases he:K3.getD j 0=K3.getD i 0
     ·have HHAS:Hid ((K3.take i).contains (K3.getD i 0)=true):=yq yL;rw [he]at q1;have HF:Hid (bF V=10):=yq (HB_.out trivial (by rw [HAT.out,E8 HKL.out,HHAS.out,Bool.true_or]));generalize K3.getD i 0=z at *;clear he HNO
      go_wp2_with fail
      go_region
      go_wp2_with fail
      go_returns
      exact⟨by rw [HF.out]<;>rfl,gqq HG.out (gqq HG2.out ag)⟩
     ·have he2:(K3.getD j 0==K3.getD i 0)=false:=by simpa using he
      have HE:Hid (decide (K3.getD j 0=K3.getD i 0)=false):=yq (decide_eq_false he);obtain⟨zj,hzj⟩:∃z,K3.getD j 0=z:=⟨_,rfl⟩;obtain⟨zi,hzi⟩:∃z,K3.getD i 0=z:=⟨_,rfl⟩;rw [hzj]at q1 he he2;rw [hzi]at q2 he he2;clear hzj hzi
      go_wp2_with fail
      go_region
      go_wp2_with fail
      go_roundw
      case rel=>exact⟨j+1,by omega,by go_num,yq (fun t ht=>by
       by_cases et:t=j
       ·subst et;exact HE.out
       ·exact HNO.out t ze),gqq HG3.out ag⟩
      case measure=>simp [intOf];omega
    ·obtain rfl:j=i:=by omega
     have HHAS:Hid ((K3.take j).contains (K3.getD j 0)=false):=yq yN;clear HNO hji hj;have HNX:Hid (ko [] K3=ko (K3.take (j+1)) (K3.drop (j+1))):=yq (by rw [HAT.out,E8 HKL.out,HHAS.out,Bool.false_or])
     go_wp2_with fail
     go_roundw
     case rel=>exact⟨j+1,HKL.out,by go_num,HNX,gqq HG2.out ag⟩
     case measure=>simp [intOf];have:=HKL.out;omega
  obtain rfl:i=K3.length:=by omega
  have H3D:Hid (ko [] K3=false):=yq (HAT.out.trans Gl);clear HAT
  go_wp2_with fail
  go_loopw [7] (fun v6 wr=>∃k t:Nat,k=t+1/\(k<=K4.length\/t=0)/\v6= .int .i64 k/\Hid (∀j,j+1<k->K4.getD j 0<K4.getD (j+1) 0)/\W.Grows wr) (fun v6 _=>K4.length-(intOf v6).toNat)
  case atStart=>exact⟨1,0,rfl,.inr rfl,rfl,yq (fun j hj=>by omega),HG1.out⟩
  case round=>
   obtain⟨k,t,hkt,hk,rfl,HAS,hgr⟩:=hrel;obtain⟨W1,rfl⟩:∃W1,W1=wr:=⟨_,rfl⟩;have HG1:=yq hgr;have HBX1:=yq (HBX.out.grows hgr);have q3:=HBX1.out.lt;have q0:=HBX1.out.c4;clear hgr;by_cases hlt:k<K4.length
   ·have HKL:=yq hlt;obtain⟨b,off,kcap,hkv,hkb,hkx⟩:=(H4.out.grows (gqq HG.out HG1.out)).open_ hlt;rw [hkv]at q0;have q1:=hkx k hlt;have q2:=hkx t ze;have d1:(k:Int)<(K4.length:Int):=by omega
    have d2:(k:Int)-1=(t:Int):=by omega
    have d3:(t:Int)<(K4.length:Int):=by omega
    have d4:(0:Int)<=(t:Int):=by omega
    have HT:=yq hkt;clear hkv hkx hkt hk hlt;by_cases hle:K4.getD k 0<=K4.getD t 0
    ·have HF:Hid (bF V=1):=yq (HC_.out trivial H3D.out (ME (j:=t) (by rw [<-HT.out];exact HKL.out) (by rw [<-HT.out];exact hle)));generalize K4.getD k 0=y at *;generalize K4.getD t 0=z at *
     go_wp2_with fail
     go_region
     go_wp2_with fail
     go_returns
     exact⟨by rw [HF.out]<;>rfl,gqq HG.out (gqq HG1.out ag)⟩
    ·have HLE:=yq hle;obtain⟨zk,hzk⟩:∃z,K4.getD k 0=z:=⟨_,rfl⟩;obtain⟨zt,hzt⟩:∃z,K4.getD t 0=z:=⟨_,rfl⟩;rw [hzk]at q1 hle;rw [hzt]at q2 hle;have hle2:zt<zk:=by omega
     clear hzk hzt
     go_wp2_with fail
     go_region
     go_wp2_with fail
     go_roundw
     case rel=>exact⟨k+1,k,rfl,.inl HKL.out,by go_num,yq (fun j hj=>by
      by_cases ej:j+1=k
      ·have:=HLE.out;have e:j=t:=by have:=HT.out;omega
       rw [ej,e];omega
      ·exact HAS.out j ze),gqq HG1.out ag⟩
     case measure=>simp [intOf];have:=HKL.out;omega
   have hK:r9 K4=true:=(sO K4).2 fun j hj=>HAS.out j ze;have H4D:=yq hK;have d1:¬(k:Int)<(K4.length:Int):=by omega
   have HDD:Hid (∀c,c≠0->grG env [] V.gr=c->bF V=c):=yq (fun c hc h=>by rw [<-h];exact HD_.out trivial H3D.out H4D.out (by rw [h];exact hc));have HEE:Hid (grG env [] V.gr=0->bF V=reG env [] V.re):=yq (fun h=>HE_.out trivial H3D.out H4D.out h);clear HAS hK hkt hk hlt
   go_wp2_with fail
   go_loopw [8] (fun v7 wr=>∃i:Nat,i<=K6.length/\v7= .int .i64 i/\Hid (grG env [] V.gr=grG env (K6.take i) (V.gr.drop i))/\W.Grows wr) (fun v7 _=>K6.length-(intOf v7).toNat)
   case atStart=>exact⟨0,by omega,rfl,yq rfl,HG1.out⟩
   case round=>
    obtain⟨i,hi,rfl,HAT,hgr⟩:=hrel;obtain⟨W1,rfl⟩:∃W1,W1=wr:=⟨_,rfl⟩;have HG1:=yq hgr;have HBX1:=yq (HBX.out.grows hgr);have q3:=HBX1.out.lt;have q0:=HBX1.out.c6;clear hgr;by_cases hlk:i<K6.length
    ·have HKL:=yq hlk;have hlt:i<V.gr.length:=by rw [<-HL6.out];exact hlk
     have d1:(i:Int)<(K6.length:Int):=by omega
     clear hlk
     go_wp2_with fail
     go_loopw [9] (fun vj wr=>∃j:Nat,j<=i/\vj= .int .i64 j/\Hid (∀t,t<j->decide (K6.getD t 0=K6.getD i 0)=false)/\W1.Grows wr) (fun vj _=>i-(intOf vj).toNat)
     case atStart=>exact⟨0,by omega,rfl,yq (fun t ht=>by omega),.refl _⟩
     case round=>
      obtain⟨j,hj,rfl,HNO,hgr⟩:=hrel;have HG2:=yq (gqq HG1.out hgr);have HG3:=yq hgr;have HBX2:=yq (HBX.out.grows HG2.out);by_cases hji:j<i
      ·obtain⟨b,off,kcap,hkv,hkb,hkx⟩:=(H6.out.grows (gqq HG.out HG2.out)).open_ HKL.out;have q0:=HBX2.out.c6;rw [hkv]at q0;have q1:=hkx j zM;have q2:=hkx i HKL.out;have q3:=HBX2.out.lt;have e1:(j:Int)<(i:Int):=by omega
       have e2:(j:Int)<(K6.length:Int):=by have:=HKL.out;omega
       have e3:(i:Int)<(K6.length:Int):=by have:=HKL.out;omega
       clear hkv hkx hgr;by_cases he:K6.getD j 0=K6.getD i 0
       ·have HHAS:Hid ((K6.take i).contains (K6.getD i 0)=true):=yq yL;rw [he]at q1
        have HF:Hid (bF V=10):=yq (by
         have hs:=Gf (env:=env) (pre:=K6.take i) (g:=V.gr.getD i default) (by rw [<-mq hK6.out hlt];exact HHAS.out)
         exact HDD.out 10 zo (HAT.out.trans ((Av (env:=env) hK6.out hlt yF).trans hs)))
        generalize K6.getD i 0=z at *;clear he HNO
        go_wp2_with fail
        go_region
        go_wp2_with fail
        go_returns
        exact⟨by rw [HF.out]<;>rfl,gqq HG.out (gqq HG2.out ag)⟩
       ·have he2:(K6.getD j 0==K6.getD i 0)=false:=by simpa using he
        have HE:Hid (decide (K6.getD j 0=K6.getD i 0)=false):=yq (decide_eq_false he);obtain⟨zj,hzj⟩:∃z,K6.getD j 0=z:=⟨_,rfl⟩;obtain⟨zi,hzi⟩:∃z,K6.getD i 0=z:=⟨_,rfl⟩;rw [hzj]at q1 he he2;rw [hzi]at q2 he he2;clear hzj hzi
        go_wp2_with fail
        go_region
        go_wp2_with fail
        go_roundw
        case rel=>exact⟨j+1,by omega,by go_num,yq (fun t ht=>by
         by_cases et:t=j
         ·subst et;exact HE.out
         ·exact HNO.out t ze),gqq HG3.out ag⟩
        case measure=>simp [intOf];omega
      ·obtain rfl:j=i:=by omega
       have HHAS:Hid ((K6.take j).contains (K6.getD j 0)=false):=yq yN;clear HNO hji hj;obtain⟨-,a',c',hvv,hx⟩:=HV.out.gr.grows (gqq HG.out HG2.out);simp only [Value.slice.injEq]at hvv;obtain⟨rfl,-,rfl⟩:=hvv;rcases hx with h0|⟨b,off,rfl,hbw,hx⟩
       ·have:=hlt;omega
       obtain⟨u,u',hg⟩:=hx j hlt;have hsm:=HS.out.gr _ (gq hlt);have HGN:=yq (fun h=>HAT.out.trans (Cq (env:=env) hK6.out hlt h));have HGB:=yq (fun h=>HAT.out.trans (Av (env:=env) hK6.out hlt h));have HST:=yq (Gd (env:=env) (pre:=K6.take j) (g:=V.gr.getD j default) (by rw [<-mq hK6.out hlt];exact HHAS.out));have p0:=HBX2.out.c6;have p1:=HBX2.out.lt;have e3:(j:Int)<(K6.length:Int):=by have:=HKL.out;omega
       generalize V.gr.getD j default=g at *;obtain⟨gn,ge,gp⟩:=g;obtain⟨-,m0,m1,m2,m3,m4,m5,n0,n1,n2,n3,n4,n5,r1,r2⟩:=hg;dsimp only at m0 m1 m2 m3 m4 m5 n0 n1 n2 n3 n4 n5 r1 r2 hsm HST HGN HGB;obtain⟨ua,uc,rfl⟩:=r1.form0;obtain⟨va,vc,rfl⟩:=r2.form0;have HR1:=yq r1;have HR2:=yq r2;have HEW:=yq (HEV.out.grows HG2.out);have HN1:=yq (fun w' (hg:wr.Grows w')=>nR env ge _ _ 1 w' (HR1.out.grows hg) hsm.1 (HEW.out.grows hg));have HN2:=yq (fun w' (hg:wr.Grows w')=>nR env gp _ _ 4 w' (HR2.out.grows hg) hsm.2 (HEW.out.grows hg));unfold exV at HN1 HN2;clear r1 r2 hx hlt hsm;generalize dS env ge 1=c1 at *;generalize dS env gp 4=c2 at *;by_cases h1:c1=0
       case neg=>
        have hb:(c1 !=0)=true:=by simpa using h1
        have HF:Hid (bF V=c1):=yq (HDD.out c1 h1 ((HGB.out (by rw [HST.out,if_pos h1];exact h1)).trans (by rw [HST.out,if_pos h1])));clear h1
        go_wp2_with (go_at_call 31;first|((with_reducible refine gvq (HN1.out _ ag) ?_);intro bs1 d1)|((with_reducible refine gvq (HN2.out _ ag) ?_);intro bs2 d2))
        go_returns
        exact⟨by rw [HF.out]<;>rfl,gqq HG.out (gqq HG2.out ag)⟩
       subst h1;by_cases h2:c2=0
       case neg=>
        have hb:(c2 !=0)=true:=by simpa using h2
        have HF:Hid (bF V=c2):=yq (HDD.out c2 h2 ((HGB.out (by rw [HST.out,if_neg zg];exact h2)).trans yz));clear h2
        go_wp2_with (go_at_call 31;first|((with_reducible refine gvq (HN1.out _ ag) ?_);intro bs1 d1)|((with_reducible refine gvq (HN2.out _ ag) ?_);intro bs2 d2))
        go_returns
        exact⟨by rw [HF.out]<;>rfl,gqq HG.out (gqq HG2.out ag)⟩
       subst h2;have HNX:=yq (HGN.out yz)
       go_wp2_with (go_at_call 31;first|((with_reducible refine gvq (HN1.out _ ag) ?_);intro bs1 d1)|((with_reducible refine gvq (HN2.out _ ag) ?_);intro bs2 d2))
       go_roundw
       case rel=>exact⟨j+1,HKL.out,by go_num,HNX,gqq HG2.out ag⟩
       case measure=>simp [intOf];have:=HKL.out;omega
    obtain rfl:i=K6.length:=by omega
    have HEF:Hid (bF V=reG env [] V.re):=yq (HEE.out (HAT.out.trans (by rw [HL6.out,drop_length,grG])));clear HAT HDD HEE;have HEE:=HEF;clear HEF
    go_wp2_with fail
    go_loopw [12] (fun v11 wr=>∃i:Nat,i<=K7.length/\v11= .int .i64 i/\Hid (reG env [] V.re=reG env (K7.take i) (V.re.drop i))/\W.Grows wr) (fun v11 _=>K7.length-(intOf v11).toNat)
    case atStart=>exact⟨0,by omega,rfl,yq rfl,HG1.out⟩
    case round=>
     obtain⟨i,hi,rfl,HAT,hgr⟩:=hrel;obtain⟨W1,rfl⟩:∃W1,W1=wr:=⟨_,rfl⟩;have HG1:=yq hgr;have HBX1:=yq (HBX.out.grows hgr);have q3:=HBX1.out.lt;have q0:=HBX1.out.c7;clear hgr;by_cases hlk:i<K7.length
     ·have HKL:=yq hlk;have hlt:i<V.re.length:=by rw [<-HL7.out];exact hlk
      have d1:(i:Int)<(K7.length:Int):=by omega
      clear hlk
      go_wp2_with fail
      go_loopw [13] (fun vj wr=>∃j:Nat,j<=i/\vj= .int .i64 j/\Hid (∀t,t<j->decide (K7.getD t 0=K7.getD i 0)=false)/\W1.Grows wr) (fun vj _=>i-(intOf vj).toNat)
      case atStart=>exact⟨0,by omega,rfl,yq (fun t ht=>by omega),.refl _⟩
      case round=>
       obtain⟨j,hj,rfl,HNO,hgr⟩:=hrel;have HG2:=yq (gqq HG1.out hgr);have HG3:=yq hgr;have HBX2:=yq (HBX.out.grows HG2.out);by_cases hji:j<i
       ·obtain⟨b,off,kcap,hkv,hkb,hkx⟩:=(H7.out.grows (gqq HG.out HG2.out)).open_ HKL.out;have q0:=HBX2.out.c7;rw [hkv]at q0;have q1:=hkx j zM;have q2:=hkx i HKL.out;have q3:=HBX2.out.lt;have e1:(j:Int)<(i:Int):=by omega
        have e2:(j:Int)<(K7.length:Int):=by have:=HKL.out;omega
        have e3:(i:Int)<(K7.length:Int):=by have:=HKL.out;omega
        clear hkv hkx hgr;by_cases he:K7.getD j 0=K7.getD i 0
        ·have HHAS:Hid ((K7.take i).contains (K7.getD i 0)=true):=yq yL;rw [he]at q1
         have HF:Hid (bF V=10):=yq (by
          have hs:=FO (env:=env) (pre:=K7.take i) (g:=V.re.getD i default) (by rw [<-mq hK7.out hlt];exact HHAS.out)
          exact HEE.out.trans (HAT.out.trans ((Af (env:=env) hK7.out hlt yF).trans hs)))
         generalize K7.getD i 0=z at *;clear he HNO
         go_wp2_with fail
         go_region
         go_wp2_with fail
         go_returns
         exact⟨by rw [HF.out]<;>rfl,gqq HG.out (gqq HG2.out ag)⟩
        ·have he2:(K7.getD j 0==K7.getD i 0)=false:=by simpa using he
         have HE:Hid (decide (K7.getD j 0=K7.getD i 0)=false):=yq (decide_eq_false he);obtain⟨zj,hzj⟩:∃z,K7.getD j 0=z:=⟨_,rfl⟩;obtain⟨zi,hzi⟩:∃z,K7.getD i 0=z:=⟨_,rfl⟩;rw [hzj]at q1 he he2;rw [hzi]at q2 he he2;clear hzj hzi
         go_wp2_with fail
         go_region
         go_wp2_with fail
         go_roundw
         case rel=>exact⟨j+1,by omega,by go_num,yq (fun t ht=>by
          by_cases et:t=j
          ·subst et;exact HE.out
          ·exact HNO.out t ze),gqq HG3.out ag⟩
         case measure=>simp [intOf];omega
       ·obtain rfl:j=i:=by omega
        have HHAS:Hid ((K7.take j).contains (K7.getD j 0)=false):=yq yN;clear HNO hji hj;obtain⟨-,a',c',hvv,hx⟩:=HV.out.re.grows (gqq HG.out HG2.out);simp only [Value.slice.injEq]at hvv;obtain⟨rfl,-,rfl⟩:=hvv;rcases hx with h0|⟨b,off,rfl,hbw,hx⟩
        ·have:=hlt;omega
        obtain⟨u,hg⟩:=hx j hlt;have hsm:=HS.out.re _ (gq hlt);have HGN:=yq (fun h=>HAT.out.trans (Bt (env:=env) hK7.out hlt h));have HGB:=yq (fun h=>HAT.out.trans (Af (env:=env) hK7.out hlt h));have HST:=yq (FM (env:=env) (pre:=K7.take j) (g:=V.re.getD j default) (by rw [<-mq hK7.out hlt];exact HHAS.out));have p0:=HBX2.out.c7;have p1:=HBX2.out.lt;have e3:(j:Int)<(K7.length:Int):=by have:=HKL.out;omega
        generalize V.re.getD j default=g at *;obtain⟨gn,ge⟩:=g;obtain⟨-,m0,m1,m2,m3,m4,m5,r1⟩:=hg;dsimp only at m0 m1 m2 m3 m4 m5 r1 hsm HST HGN HGB;obtain⟨ua,uc,rfl⟩:=r1.form0;have HR1:=yq r1;have HEW:=yq (HEV.out.grows HG2.out);have HN1:=yq (fun w' (hg:wr.Grows w')=>nR env ge _ _ 2 w' (HR1.out.grows hg) hsm (HEW.out.grows hg));have HN2:=HN1;unfold exV at HN1;clear r1 hx hlt hsm;generalize dS env ge 2=c1 at *;by_cases h1:c1=0
        case neg=>
         have hb:(c1 !=0)=true:=by simpa using h1
         have HF:Hid (bF V=c1):=yq (HEE.out.trans ((HGB.out (by rw [HST.out];exact h1)).trans HST.out));clear h1
         go_wp2_with (go_at_call 31;first|((with_reducible refine gvq (HN1.out _ ag) ?_);intro bs1 d1)|((with_reducible refine gvq (HN2.out _ ag) ?_);intro bs2 d2))
         go_returns
         exact⟨by rw [HF.out]<;>rfl,gqq HG.out (gqq HG2.out ag)⟩
        subst h1;have HNX:=yq (HGN.out HST.out)
        go_wp2_with (go_at_call 31;first|((with_reducible refine gvq (HN1.out _ ag) ?_);intro bs1 d1)|((with_reducible refine gvq (HN2.out _ ag) ?_);intro bs2 d2))
        go_roundw
        case rel=>exact⟨j+1,HKL.out,by go_num,HNX,gqq HG2.out ag⟩
        case measure=>simp [intOf];have:=HKL.out;omega
     obtain rfl:i=K7.length:=by omega
     have HF:Hid (bF V=0):=yq (HEE.out.trans (HAT.out.trans (by rw [HL7.out,drop_length,reG])));clear HAT HEE
     go_wp2_with fail
     go_returns
     exact⟨by rw [HF.out]<;>rfl,gqq HG.out (gqq HG1.out ag)⟩
theorem ax.growsG{w w':World}{v:Value}{zs:List Int}(h:ax w v zs)(hg:w.Grows w'):ax w' v zs:=by
 obtain⟨bs,d,rfl⟩:=hg;exact h.grow bs d
theorem ax.list{w:World}{v:Value}{zs:List Int}{s:Nat}(h:ax w v zs)(hs:w.heap.size<=s):aH w s v zs:=by
 obtain⟨h0,-,a,cap,hv,h1⟩:=h;refine⟨h0,a,cap,hv,h1.imp id ?_⟩;rintro⟨b,off,ha,hb,hc⟩;exact⟨b,off,ha,hb,by omega,hc⟩
theorem mP(zs:List Int)(env:List (ByteArray × Int))(dim:Int):(lJ zs env dim).size<=1000000:=by
 have h1:=uQ zs env 5 dim 0 24;have h2:=jB zs env dim (aP zs env 5 dim 0 24).2.1 0;have hc5:aO 5=2307:=rfl;unfold lJ
 split<;>omega
theorem vV(R:VwR):dV (nJ R):=by
 have h:=Kc R;unfold Vw.ok at h;simp only [Bool.and_eq_true]at h;have:=aC h.1.2.1;exact⟨⟨by omega,by omega⟩,⟨by omega,by omega⟩⟩
theorem OH{n d:Int}(h2:1<=d)(he:mkE n d=0):mkD n d ∣ d:=by
 unfold mkE kJ at he;unfold mkD l8;rw [if_neg ze]at he ⊢
 split at he<;>rename_i hc
 ·simp at he
 rw [if_neg hc];obtain⟨b,rfl⟩:=Int.eq_ofNat_of_zero_le (show 0<=d by omega);rw [Int.natAbs_natCast];exact Int.natCast_dvd_natCast.2 (Nat.div_dvd_of_dvd (Nat.gcd_dvd_right _ _))
theorem QY{n d:Int}(h1:0<=n)(h2:1<=d):mkN n d<=n:=by
 unfold mkN jZ;rw [if_neg ze,decide_eq_false ze,decide_eq_false ze]
 split
 ·omega
 ·have:=Nat.div_le_self n.natAbs (Nat.gcd n.natAbs d.natAbs);simp only [bne_self_eq_false,Bool.false_eq_true,if_false];omega
theorem Q3{n d m:Int}(h1:0<=n)(h2:n<=1000000)(h3:1<=d)(h4:d ∣ 10000)(h5:2<=m/\m<=4):dG (mkN n d) (mkD n d) m=true:=by
 have hd:d<=10000:=Int.le_of_dvd ze h4;have he:=wI h1 ze h3 ze;have hv:=BI (show d≠0 by omega) he;have hb:=aC hv;have hn:=uu h1 h3;have hl:=QY h1 h3;have hdv:mkD n d ∣ 10000:=Int.dvd_trans (OH h3 he) h4;have hq:mkN n d / mkD n d<=mkN n d:=Int.ediv_le_self _ hn;unfold dG;rw [hv,decide_eq_true hn,decide_eq_true (Int.emod_eq_zero_of_dvd hdv),decide_eq_true h5.1,decide_eq_true h5.2,decide_eq_true ze];rfl
theorem num_ok(zs:List Int)(p:Nat){m:Int}(h5:2<=m/\m<=4):dG (Ia zs p) (Ib zs p) m=true:=by
 have h1:=fA zs p 4000 ze;have h2:=fA zs (p+1) 7 ze;unfold Ia Ib;refine Q3 h1.1 ze ?_ ?_ h5
 all_goals
  generalize aJ zs (p+1) 7=i at *;rcases(show i=0\/i=1\/i=2\/i=3\/i=4\/i=5\/i=6 by omega)with rfl|rfl|rfl|rfl|rfl|rfl|rfl<;>decide
def DL(n dim:Int):Val:=if dim=1 then⟨1,decide (n.tmod 2=0),0,0⟩else⟨dim,false,mkN (n.tmod 100000) (1+pick (n.tdiv 7) 12),mkD (n.tmod 100000) (1+pick (n.tdiv 7) 12)⟩
theorem Kz(n:Int):-100000<n.tmod 100000/\n.tmod 100000<100000:=by
 have h:=Int.tmod_lt_of_pos n (show(0:Int)<100000 by omega);have h2:=Int.tmod_lt_of_pos (-n) (show(0:Int)<100000 by omega);rw [Int.neg_tmod]at h2;omega
end Go.Proofs.YtcfpoofhokbhlaaGreatDoor
namespace Go
section
variable {P : Program} {ops : Array Oper} {Q : Exit -> Act -> World -> Prop} {S : World -> Prop} {T : List Nat} {f : Nat} {oi : Oper} {v : Value} {listed : Array Bool} {a a' : Act} {w : World}
theorem TS.skB(i:Nat)(hS:S w)(h:TS P ops Q S T f (listed.setIfInBounds i true) a' w)
 (hi:ops[i]? =some oi:=by rfl) (hs:Region.noSelect ops=true:=by kernel_rfl) (hf:Region.free .any ops listed i=true:=by kernel_rfl) (hr:(Region.ready .any ops listed).contains i=true:=by kernel_rfl) (hit:i∉T:=by decide)
 (hQ:∀c a w,Q (.panic c) (a.put oi.dst v) w->Q (.panic c) a w:=by exact fun _ _ _ h=>h) (hw:Region.wanted oi (yielded ops a.tmps)=true:=by rfl) (hy:∀w,S w->(execOp a.eval oi).run P w= .ok (.value v) w:=by intro wS hSw;(try dsimp only at hSw);go_simp;rfl)
 (ha:a.put oi.dst v=a':=by first|(simp only [nS];rfl)|rfl):TS P ops Q S T (f+1) listed a w:=by
 subst ha;exact TS.takeV hi hs hf hr hit hQ hw hS hy h
end
def Rel(Y:World)(row:Option Nat)(w:World):Prop:=Y.heap.size<=w.heap.size/\∀k,k<Y.heap.size->some k≠row->w.heap[k]? =Y.heap[k]?
section
variable {Y w w' : World} {row : Option Nat}
theorem Rel.refl(Y:World)(row:Option Nat):Rel Y row Y:=⟨Nat.le_refl _,fun _ _ _=>rfl⟩
theorem Rel.grows(h:Rel Y row w)(hg:w.Grows w'):Rel Y row w':=⟨Nat.le_trans h.1 hg.below.size,fun k h1 h2=>(hg.below.block k (Nat.lt_of_lt_of_le h1 h.1)).trans (h.2 k h1 h2)⟩
theorem Rel.grown(h:Rel Y row w)(hg:w.grownBy w' row):Rel Y row w':=⟨Nat.le_trans h.1 hg.size,fun k h1 h2=>(hg.block k (Nat.lt_of_lt_of_le h1 h.1) h2).trans (h.2 k h1 h2)⟩
theorem Rel.cell(h:Rel Y row w){b o:Nat}(hb:b<Y.heap.size)(hr:some b≠row):w.cell? ⟨b,o,none⟩=Y.cell? ⟨b,o,none⟩:=World.cell?_of_block (h.2 b hb hr)
end
end Go
namespace Go.Proofs.YtcfpoofhokbhlaaGreatDoor
open Go.Proofs.Tryz Tryz List
open Go.RowKit

theorem Jz{y:Nat->Int}{year:Int}{n:Nat}(h:¬dI y year n<0):(dI y year n).toNat<n:=by
 have:=qP y year n;omega

theorem sM{y z:Nat->Int}{year:Int}{n:Nat}(h:∀i,i<n->-9223372036854775808<=z i/\z i<=9223372036854775807):-9223372036854775808<=fZ y z year n/\fZ y z year n<=9223372036854775807:=by
 unfold fZ
 split
 ·omega
 ·rename_i hb
  exact h _ (Jz hb)

theorem Lv{amount tn td fn fd:Int}(h:mi amount tn td fn fd=true):∃A T TD FN FD:Nat,amount=A/\tn=T/\td=TD/\fn=FN/\fd=FD/\A<=1000000000000/\0<T/\T<=10000000000000/\1<=TD/\TD<=10000/\0<FN/\FN<=10000000000000/\1<=FD/\FD<=10000:=by
 simp only [mi,Bool.and_eq_true,decide_eq_true_eq]at h;obtain⟨⟨⟨h1,h2⟩,h3⟩,h4⟩:=h;have h5:=tF h3;have h6:=tF h4;exact⟨amount.toNat,tn.toNat,td.toNat,fn.toNat,fd.toNat,by omega,by omega,by omega,by omega,by omega,by omega,by omega,by omega,by omega,by omega,by omega,by omega,by omega,by omega⟩

theorem uM(A T TD FN FD:Nat):rX A T TD FN FD=((A*(T*FD) / (TD*FN):Nat):Int):=by
 unfold rX;rw [<-Int.natCast_mul,<-Int.natCast_mul,<-Int.natCast_mul,Int.natCast_ediv]

theorem OW{amount tn td fn fd Y h:Int}(hok:mi amount tn td fn fd=true)(hbig:Y<=h->1000000000000<rX amount tn td fn fd) :
 Cm Y h (rX amount tn td fn fd)= .tuple #[.int .i64 (Ar amount tn td fn fd),.int .i64 (Au amount tn td fn fd)]:=by
 unfold Cm;by_cases c:1000000000000<rX amount tn td fn fd
 ·rw [if_pos (.inr c),(Gc hok c).1,(Gc hok c).2]
 ·rw [if_neg (by intro hc;rcases hc with hc|hc;exact c (hbig hc);exact c hc),(F9 hok c).1,(F9 hok c).2]

theorem wrapN(X:Nat)(h:X<18446744073709551616):IntKind.u64.wrap (X:Int)=X:=IntWalk.u64_in _ ze

theorem OV{amount:Int}{ut uf:Bool}(h:¬(decide (0<=amount/\amount<=1000000000000)&&ut&&uf)=true):amount<0\/1000000000000<amount\/ut=false\/uf=false:=by
 cases ut<;>cases uf<;>simp at h ⊢
 by_cases c:0<=amount
 ·have:=h c;omega
 ·omega

theorem A7(c0 c1 c2 c3 c4 c5 c6 c7:Value)(n:Nat)(y nu de:Nat->Int)(amount year ref:Int)(w:World)(h:mJ w c4 n y nu de)
 (hnu:∀i,i<n->-9223372036854775808<=nu i/\nu i<=9223372036854775807) (hde:∀i,i<n->-9223372036854775808<=de i/\de i<=9223372036854775807) :
 Calls prog 19 #[.agg #[c0,c1,c2,c3,c4,c5,c6,c7],.int .i64 amount,.int .i64 year,.int .i64 ref] w fun e w'=>
  e= .returned (.tuple #[.int .i64 (Ar amount (fZ y nu ref n) (fZ y de ref n) (fZ y nu year n) (fZ y de year n)),.int .i64 (Au amount (fZ y nu ref n) (fZ y de ref n) (fZ y nu year n) (fZ y de year n))])/\w.Grows w':=by
 have HT:Hid (∀w':World,w.Grows w'->Calls prog 35 #[.agg #[c0,c1,c2,c3,c4,c5,c6,c7],.int .i64 ref] w' fun e w''=>e= .returned (.agg #[.int .i64 (fZ y nu ref n),.int .i64 (fZ y de ref n)])/\w'.Grows w''):=by
  rintro w' ⟨bs,d,rfl⟩;exact rU c0 c1 c2 c3 c4 c5 c6 c7 n y nu de ref _ (h.grow bs d)
 have HF:Hid (∀w':World,w.Grows w'->Calls prog 35 #[.agg #[c0,c1,c2,c3,c4,c5,c6,c7],.int .i64 year] w' fun e w''=>e= .returned (.agg #[.int .i64 (fZ y nu year n),.int .i64 (fZ y de year n)])/\w'.Grows w''):=by
  rintro w' ⟨bs,d,rfl⟩;exact rU c0 c1 c2 c3 c4 c5 c6 c7 n y nu de year _ (h.grow bs d)
 have r1:=sM (y:=y) (year:=ref) hnu;have r2:=sM (y:=y) (year:=ref) hde;have r3:=sM (y:=y) (year:=year) hnu;have r4:=sM (y:=y) (year:=year) hde;generalize fZ y nu ref n=tn at *;generalize fZ y de ref n=td at *;generalize fZ y nu year n=fn at *;generalize fZ y de year n=fd at *;have HU:Hid (∀w':World,Calls prog 36 #[.agg #[.int .i64 tn,.int .i64 td]] w' fun e w''=>e= .returned (.bool (eU tn td))/\w'.Grows w''):=fun w'=>q8 tn td w' r1.1 r1.2 r2.1 r2.2;have HV:Hid (∀w':World,Calls prog 36 #[.agg #[.int .i64 fn,.int .i64 fd]] w' fun e w''=>e= .returned (.bool (eU fn fd))/\w'.Grows w''):=fun w'=>q8 fn fd w' r3.1 r3.2 r4.1 r4.2;by_cases hok:mi amount tn td fn fd=true
 ·have hok':=hok;simp only [mi,Bool.and_eq_true]at hok';obtain⟨A,T,TD,FN,FD,rfl,rfl,rfl,rfl,rfl,hA,hT,hT2,hTD,hTD2,hFN,hFN2,hFD,hFD2⟩:=Lv hok;have hX:T*FD<=10000000000000*10000:=Nat.mul_le_mul hT2 hFD2;have hY:TD*FN<=10000*10000000000000:=Nat.mul_le_mul hTD2 hFN2;have hY0:0<TD*FN:=Nat.mul_pos ze hFN;have hP:A*(T*FD)<=1000000000000*100000000000000000:=Nat.mul_le_mul hA hX
  have key:=AZ c0 c1 c2 c3 c4 c5 c6 c7 A year ref T TD FN FD (T*FD:Nat) (TD*FN:Nat) (hiW (A*(T*FD))) (loW (A*(T*FD))) (rX A T TD FN FD) (lK (A*(T*FD)) (TD*FN)) _ _ w hok'.1.2 hok'.2
   ze ze ze ze ze ze ze ze ze ze
   xz xz (by rw [uM];exact Int.natCast_nonneg _) HT HF HU HV
   (fun w'=>by
    have:=bits_Mul64 A (T*FD) ze ze w'
    exact this.mono fun e w'' ⟨he,hw⟩=>⟨he,hw.symm⟩)
   (fun hlt w'=>by
    unfold hiW at hlt;have:=nD (A*(T*FD) / 18446744073709551616) (A*(T*FD) % 18446744073709551616) (TD*FN) w' ze (Nat.mod_lt _ ze) ze;rw [Nat.div_add_mod',<-uM]at this
    exact this)
  rw [OW hok (fun hle=>by
   rw [uM];unfold hiW at hle
   have h2:18446744073709551616<=A*(T*FD) / (TD*FN):=by
    rw [Nat.le_div_iff_mul_le hY0];have h3:=Nat.div_mul_le_self (A*(T*FD)) 18446744073709551616;have h4:18446744073709551616*(TD*FN)<=18446744073709551616*(A*(T*FD) / 18446744073709551616):=Nat.mul_le_mul_left _ ze;omega
   generalize A*(T*FD) / (TD*FN)=z at *
   omega)]at key
  exact key
 ·have hno:mi amount tn td fn fd=false:=by simpa using hok
  rw [(F8 hno).1,(F8 hno).2];exact Dv c0 c1 c2 c3 c4 c5 c6 c7 amount year ref tn td fn fd _ _ w (OV hok) HT HF HU HV


def awY(i:Nat):Int:=if i=0 then 1960 else 1990
def awN(i:Nat):Int:=if i=0 then 1 else 5
def awD(i:Nat):Int:=if i=0 then 1 else 2
theorem Rf:fZ awY awN 1995 2=5/\fZ awY awD 1995 2=2/\fZ awY awN 1970 2=1/\fZ awY awD 1970 2=1:=by decide+kernel
theorem MC:Ar 100 5 2 1 1=250/\Au 100 5 2 1 1=0:=by decide+kernel
theorem JH(w:World):Calls prog 9 #[] w fun e w'=>e= .returned (.bool true)/\w.Grows w':=by
 have HI:Hid (∀(w':World) (b:Nat),b<w'.heap.size->(∀i u,#[Value.int .i64 1960,.int .i64 1,.int .i64 1,.int .i64 1990,.int .i64 5,.int .i64 2][i]? =some u->w'.cell? ⟨b,i,none⟩=some u)->
  Calls prog 19 #[.agg #[.int .i64 0,.int .i64 0,.int .i64 0,.slice none 0 0,.slice (some ⟨b,0,none⟩) 2 2,.slice none 0 0,.slice none 0 0,.slice none 0 0],.int .i64 100,.int .i64 1970,.int .i64 1995] w' fun e w''=>
   e= .returned (.tuple #[.int .i64 250,.int .i64 0])/\w'.Grows w''):=by
  refine yq fun w' b hb hc=>?_
  have:=A7 (.int .i64 0) (.int .i64 0) (.int .i64 0) (.slice none 0 0) (.slice (some ⟨b,0,none⟩) 2 2) (.slice none 0 0) (.slice none 0 0) (.slice none 0 0) 2 awY awN awD 100 1970 1995 w'
   ⟨by omega,_,_,rfl,.inr ⟨b,0,rfl,hb,fun i hi=>by
    obtain rfl|rfl:i=0\/i=1:=by omega
    ·exact⟨hc 0 _ rfl,hc 1 _ rfl,hc 2 _ rfl⟩
    ·exact⟨hc 3 _ rfl,hc 4 _ rfl,hc 5 _ rfl⟩⟩⟩ (fun i _=>by unfold awN;split<;>omega) (fun i _=>by unfold awD;split<;>omega)
  obtain⟨e1,e2,e3,e4⟩:=Rf;rw [e1,e2,e3,e4,MC.1,MC.2]at this;exact this
 go_enter func9,ntmps9
 go_wp2_with fail
 refine(HI.out _ w.heap.size zp ?_).mono ?_
 ·intro i u hu;rcases i with _|_|_|_|_|_|i<;>simp at hu<;>subst hu<;>simp [go_sem]
 rintro e w' ⟨rfl,bs,d,rfl⟩;exact nE
theorem DU(n:Int)(V:dH):(bG n V).cr.length=V.cr.length/\(bG n V).se.length=V.se.length/\(bG n V).le.length=V.le.length/\(bG n V).gr.length=V.gr.length/\(bG n V).re.length=V.re.length:=by
 unfold bG
 repeat' split
 all_goals simp_all
theorem FX(R:cO):(ofP R).cr.length<=1000/\(ofP R).se.length<=1000/\(ofP R).le.length<=10/\(ofP R).gr.length<=1000/\(ofP R).re.length<=1000:=by
 have h:(fB R).cr.length<=1000/\(fB R).se.length<=1000/\(fB R).le.length<=10/\(fB R).gr.length<=1000/\(fB R).re.length<=1000:=by
  simp only [fB,length_map,length_range];unfold gZ l6 fP vK BH;omega
 unfold ofP
 split
 ·exact h
 ·split
  ·obtain⟨a,b,c,d,e⟩:=DU (pick (R.twist.tdiv 8) 7) (fB R);rw [a,b,c,d,e];exact h
  ·exact h
theorem Ak(R:cO):lI (fB R):=by
 refine⟨fun t ht=>?_,fun t ht=>?_,fun t ht=>?_⟩
 ·obtain⟨i,_,rfl⟩:=mem_map.1 ht;exact⟨by rw [wN];omega,mP _ _ _⟩
 ·obtain⟨i,_,rfl⟩:=mem_map.1 ht;exact⟨mP _ _ _,mP _ _ _⟩
 ·obtain⟨i,_,rfl⟩:=mem_map.1 ht;exact mP _ _ _
theorem Kr(n:Int){V:dH}(h:lI V):lI (bG n V):=by
 obtain⟨h1,h2,h3⟩:=h;unfold bG
 split
 ·refine⟨h1,fun t ht=>?_,h3⟩;simp only at ht
  split at ht
  ·rename_i a r he
   rcases mem_cons.1 ht with rfl|ht
   ·have:=h2 a yj;exact⟨this.1,this.1⟩
   ·exact h2 t yP
  ·cases ht
 split
 ·refine⟨h1,fun t ht=>?_,h3⟩;simp only at ht
  split at ht
  ·rename_i a b r he
   rcases mem_cons.1 ht with rfl|ht
   ·exact h2 t yj
   ·rcases mem_cons.1 ht with rfl|ht
    ·exact h2 b (by rw [he];simp)
    ·exact h2 t (by rw [he];simp [ht])
  ·exact h2 t ht
 split
 ·refine⟨fun t ht=>?_,h2,h3⟩;simp only at ht
  split at ht
  ·rename_i a b r he
   rcases mem_cons.1 ht with rfl|ht
   ·exact h1 t yj
   ·rcases mem_cons.1 ht with rfl|ht
    ·exact⟨(h1 a (by rw [he];simp)).1,(h1 b (by rw [he];simp)).2⟩
    ·exact h1 t (by rw [he];simp [ht])
  ·exact h1 t ht
 split
 ·refine⟨fun t ht=>?_,h2,h3⟩;simp only at ht
  split at ht
  ·rename_i a r he
   rcases mem_cons.1 ht with rfl|ht
   ·refine⟨(h1 a yj).1, ?_⟩;show qA.size<=1000000;simp [qA,Ex.size,Ex.sizes]
   ·exact h1 t yP
  ·cases ht
 split
 ·exact⟨h1,h2,h3⟩
 split
 ·exact⟨h1,h2,h3⟩
 ·refine⟨fun t ht=>?_,h2,h3⟩;simp only at ht
  split at ht
  ·rename_i a r he
   rcases mem_cons.1 ht with rfl|ht
   ·refine⟨?_,(h1 a yj).2⟩;show MI.size<=_;decide
   ·exact h1 t yP
  ·cases ht
theorem PZ(R:cO):lI (ofP R):=by
 unfold ofP
 split
 ·exact Ak R
 ·split
  ·exact Kr _ (Ak R)
  ·exact Ak R
open Go.RowKit Go.ChangeShapes Go.WideShapes Go.Deep
section
variable {H : Type} {enc : TypeId × Value -> H} {P : Program} {w : World}
theorem eQ.of_trod{t e q:TypeId}{fuel:Nat}{v:Value}{x:DataW H × List MemPlace}(ht:P.underlying t=some (.slice e))(he:P.underlying e=some (.slice q))(hq:P.underlying q=some (.int .i64))(ce:P.cellsOf e=1)(cq:P.cellsOf q=1)(be:P.bytesOf e=24)(bq:P.bytesOf q=8)
 (h:DataW.trod enc P w 0 (fun _=>true) true fuel t [v]=some x) (hf:fits P t x.1):∃zss,eQ w v zss:=by
 rcases open_int_rows ht he hq ce cq h with ⟨hcs,_⟩|⟨a,len,cap,A,L,C,Z,hcs,_,hl,hm,hx,hr⟩
 ·simp at hcs;subst hcs;exact⟨[],by simp,none,0,rfl,.inl rfl⟩
 ·simp at hcs;subst hcs
  have h8:len<=140737488355328:=by
   have h9:=hf ((len+(cap-len))*24) (by rw [hx];simp [DataW.weights,ht,be]);omega
  have hrow:∀r,r<len->ax w (.slice (A r) (L r) (C r)) ((Z r).take (L r)):=by
   intro r hrl;obtain⟨h1,h2,h3,h4,h5,h6,h7⟩:=hr r ze;refine ax.of_cells h2 h4 h5 ?_ (fun e=>by have:=h6 e;omega) (fun x' hx' i hi=>(h7 x' hx').2 i hi)
   cases hA:A r with
   |none=>have:=h6 hA;omega
   |some y=>
    have h9:=hf ((L r+(C r-L r))*8) (by
     rw [hx];simp only [DataW.weights,ht,mem_cons,mem_append];right;left
     have key:∀(l:List Nat),r∈l->(L r+(C r-L r))*8∈DataW.weightsAll P e (l.map fun r=>(intRow (H:=H) .i64 (A r) (L r) (Z r))):=by
      intro l
      induction l with
      |nil=>intro h;cases h
      |cons y' l ih=>
       intro h;simp only [map_cons,DataW.weightsAll,mem_append];rcases mem_cons.1 h with rfl|h
       ·left;simp [intRow,hA,DataW.weights,he,lits,bq,h4,Nat.min_eq_left h2]
       ·exact .inr (ih h)
     exact key _ (mem_range.2 hrl))
    omega
  refine⟨(List.range len).map fun r=>(Z r).take (L r),by simpa using h8,some a,cap,by simp, ?_⟩;by_cases h0:len=0
  ·left;simp [h0]
  ·right;obtain⟨b,off,spot⟩:=a;have h1:=(hr 0 ze).1;have hspot:spot=none:=by simpa [Addr.add]using World.cell?_spot h1
   subst hspot
   have h2:∀i,i<cap->w.cell? ⟨b,off+i,none⟩=some (.slice (A i) (L i) (C i)):=fun i hi=>by
    rw [<-Gv];exact(hr i hi).1
   refine⟨b,off,rfl,Gu (h2 0 ze),fun i hi=>?_⟩;have hi':i<len:=by simpa using hi
   refine⟨_,h2 i ze, ?_⟩;have:((List.range len).map fun r=>(Z r).take (L r)).getD i []=(Z i).take (L i):=by simp [getD_eq_getElem?_getD,hi']
   rw [this];exact hrow i hi'
end
theorem PP{α:Type}{cs:Array α}(h:cs.size=10):∃c0 c1 c2 c3 c4 c5 c6 c7 c8 c9,cs=#[c0,c1,c2,c3,c4,c5,c6,c7,c8,c9]:=by
 obtain⟨l⟩:=cs
 match l,h with
 | [c0,c1,c2,c3,c4,c5,c6,c7,c8,c9],_=>exact⟨c0,c1,c2,c3,c4,c5,c6,c7,c8,c9,rfl⟩
theorem c25:(prog).cellsOf 25=10:=by kernel_rfl
theorem nP.of_trod{H:Type}{enc:TypeId × Value->H}{w:World}{r:Reach}{b0:Nat}{v:Value}{d:DataW H}{p:List MemPlace}(hv:Value.okWide prog w r b0 25 v)
 (h:DataW.Trod enc prog w 0 (fun _=>true) true 25 v d p) (hf:fits prog 25 d) :
 ∃R cs,v= .agg cs/\nP w cs.toList R:=by
 have ht:=underlying25;obtain⟨cs,rfl,hsz⟩:=okWide_struct ht hv;obtain⟨c0,c1,c2,c3',c4,c5,c6,c7,c8,c9,rfl⟩:=PP (hsz.trans c25);obtain⟨fuel,h⟩:=h;obtain⟨xs,n,_,hx,_,hlen,hF⟩:=DataW.trod_struct ht h;simp only [Prod.mk.injEq]at hx;obtain⟨rfl,-⟩:=hx;have k0:=hF 0 _ rfl;have k1:=hF 1 _ rfl;have k2:=hF 2 _ rfl;have k3:=hF 3 _ rfl;have k4:=hF 4 _ rfl;have k5:=hF 5 _ rfl;have k6:=hF 6 _ rfl;have k7:=hF 7 _ rfl;have k8:=hF 8 _ rfl;have k9:=hF 9 _ rfl;simp only [Value.cells,drop_zero,drop_succ_cons,take_succ_cons,take_zero]at k0 k1 k2 k3 k4 k5 k6 k7 k8 k9
 match xs,hlen with
 | [y0,y1,y2,y3,y4,y5,y6,y7,y8,y9],_=>
   obtain⟨n0,rfl,w0⟩:=eH k0;obtain⟨n1,rfl,w1⟩:=eH k1;obtain⟨n2,rfl,w2⟩:=eH k2;obtain⟨n9,rfl,w9⟩:=eH k9;obtain⟨z3,w3⟩:=ax.of_trod underlying22 underlying3 c3 b3 k3 (gP ht hf (i:=3) rfl rfl);obtain⟨z4,w4⟩:=ax.of_trod underlying22 underlying3 c3 b3 k4 (gP ht hf (i:=4) rfl rfl);obtain⟨z5,w5⟩:=eQ.of_trod underlying23 underlying22 underlying3 c22 c3 b22 b3 k5 (gP ht hf (i:=5) rfl rfl);obtain⟨z6,w6⟩:=eQ.of_trod underlying23 underlying22 underlying3 c22 c3 b22 b3 k6 (gP ht hf (i:=6) rfl rfl);obtain⟨z7,w7⟩:=eQ.of_trod underlying23 underlying22 underlying3 c22 c3 b22 b3 k7 (gP ht hf (i:=7) rfl rfl);obtain⟨z8,w8⟩:=eQ.of_trod underlying23 underlying22 underlying3 c22 c3 b22 b3 k8 (gP ht hf (i:=8) rfl rfl);exact⟨⟨n0,n1,n2,z3,z4,z5,z6,z7,z8,n9⟩,_,rfl,w0,w1,w2,w9,c3',c4,c5,c6,c7,c8,rfl,w3,w4,w5,w6,w7,w8⟩
theorem Rh{α:Type}{cs:Array α}(h:cs.size=7):∃c0 c1 c2 c3 c4 c5 c6,cs=#[c0,c1,c2,c3,c4,c5,c6]:=by
 obtain⟨l⟩:=cs
 match l,h with
 | [c0,c1,c2,c3,c4,c5,c6],_=>exact⟨c0,c1,c2,c3,c4,c5,c6,rfl⟩
theorem c7w:(prog).cellsOf 27=7:=by kernel_rfl
theorem VwR.of_trod{H:Type}{enc:TypeId × Value->H}{w:World}{r:Reach}{b0:Nat}{v:Value}{d:DataW H}{p:List MemPlace}(hv:Value.okWide prog w r b0 27 v)
 (h:DataW.Trod enc prog w 0 (fun _=>true) true 27 v d p) (hf:fits prog 27 d) :
 ∃(R:VwR) (vd vy:Value),v= .agg #[.int .i64 R.age,.int .i64 R.year,.int .i64 R.children,.int .i64 R.base,.int .i64 R.den,vd,vy]/\ax w vd R.days/\ax w vy R.years:=by
 have ht:=underlying27;obtain⟨cs,rfl,hsz⟩:=okWide_struct ht hv;obtain⟨c0,c1,c2,c3',c4,c5,c6,rfl⟩:=Rh (hsz.trans c7w);obtain⟨fuel,h⟩:=h;obtain⟨xs,n,_,hx,_,hlen,hF⟩:=DataW.trod_struct ht h;simp only [Prod.mk.injEq]at hx;obtain⟨rfl,-⟩:=hx;have k0:=hF 0 _ rfl;have k1:=hF 1 _ rfl;have k2:=hF 2 _ rfl;have k3:=hF 3 _ rfl;have k4:=hF 4 _ rfl;have k5:=hF 5 _ rfl;have k6:=hF 6 _ rfl;simp only [Value.cells,drop_zero,drop_succ_cons,take_succ_cons,take_zero]at k0 k1 k2 k3 k4 k5 k6
 match xs,hlen with
 | [y0,y1,y2,y3,y4,y5,y6],_=>
   obtain⟨n0,rfl,w0⟩:=eH k0;obtain⟨n1,rfl,w1⟩:=eH k1;obtain⟨n2,rfl,w2⟩:=eH k2;obtain⟨n3,rfl,w3⟩:=eH k3;obtain⟨n4,rfl,w4⟩:=eH k4;obtain⟨z5,w5⟩:=ax.of_trod underlying22 underlying3 c3 b3 k5 (gP ht hf (i:=5) rfl rfl);obtain⟨z6,w6⟩:=ax.of_trod underlying22 underlying3 c3 b3 k6 (gP ht hf (i:=6) rfl rfl);exact⟨⟨n0,n1,n2,n3,n4,z5,z6⟩,_,_,rfl,w5,w6⟩
end Go.Proofs.YtcfpoofhokbhlaaGreatDoor
