import Derived.Test.YtlheailebbngiaaGreatDoorGStpW
set_option linter.all false
set_option maxHeartbeats 16000000
set_option maxRecDepth 1000000
namespace Go.Proofs.YtlheailebbngiaaGreatDoor
open Go.Proofs.Tryz List
open Go.RowKit
def rG(r:List (ByteArray × Int) × Int)(w:World)(e:Ending)(w':World):Prop:=∃x,e= .returned (.tuple #[x,.int .i64 r.2])/\w.Grows w'/\aU w' x r.1/\∀a n c,x= .slice a n c->n<=c
theorem rG.bad{r:List (ByteArray × Int) × Int}{c:Int}{w w':World}(h:r=([],c))(hg:w.Grows w'):rG r w (.returned (.tuple #[.slice none 0 0,.int .i64 c])) w':=by
 subst h;exact⟨_,rfl,hg,⟨by simp,none,0,rfl,.inl rfl⟩,fun a n c h=>by simp only [Value.slice.injEq]at h;omega⟩
theorem MS{w:World}{b size n:Nat}{e:TypeId}{v:Value}{xs:List Value}(h:w.ownsRow b e size v n xs):∀a m c,v= .slice a m c->m<=c:=by
 intro a m c hv;rcases h.2 with ⟨rfl,-⟩|⟨g,cap,cur,rfl,-,-,hle,-⟩
 ·simp only [Value.slice.injEq]at hv;omega
 ·simp only [Value.slice.injEq]at hv;omega
theorem Dk(ls:List (ByteArray × Ex))(v:Value)(w:World)(h:gI w v ls)(hl:10<ls.length):Calls prog 45 #[v] w (rG (dN ls) w):=by
 obtain⟨hl1000,la,lc,rfl,-⟩:=h;have hn:(10:Int)<(ls.length:Int):=by omega
 have HF:Hid (dN ls=([],7)):=zh (by unfold dN;rw [if_pos hl])
 go_enter func45,ntmps45
 go_wp2_with fail
 go_returns
 exact rG.bad HF.out (.of_below af)
theorem yQ(ls:List (ByteArray × Ex))(v:Value)(w:World)(h:gI w v ls)(hs:sG ls):Calls prog 45 #[v] w (rG (dN ls) w):=by
 by_cases hlen:ls.length<=10
 case neg=>exact Dk ls v w h ze
 obtain⟨i0,hi,hz0,hz1,hz2⟩:=info_parts EI;have HL:=zh h;have HS:=zh hs;obtain⟨hl1000,la,lc,rfl,-⟩:=h;rw [qi hlen];have hn:¬(10:Int)<(ls.length:Int):=by omega
 clear hs
 go_enter func45,ntmps45
 go_wp2_with fail
 go_loopw [4,5] (fun v4 v5 wr=>∃(k:Nat) (vb:Value) (env:List (ByteArray × Int)),vb=v4/\k<=ls.length/\v5= .int .i64 k/\Below w.heap.size w wr/\wr.ownsRow w.heap.size 64 2 vb k (nH env)/\Hid (kw ls k env)) (fun _ v5 _=>ls.length-(intOf v5).toNat)
 case atStart=>exact⟨0,_,[],rfl,by omega,rfl,.refl _ _,World.ownsRow_nil _ _ _ _,zh (kw.zero ls)⟩
 case round=>
  obtain⟨k,vb,env,rfl,hk,rfl,hB,hown,HA⟩:=hrel;obtain⟨W1,rfl⟩:∃W1,W1=wr:=⟨_,rfl⟩;have HB:=zh hB;have HO:=zh hown;have HG:Hid (w.Grows W1):=zh (.of_below hB);have hsW:=hB.size;by_cases hlt:k<ls.length
  ·obtain⟨-,a',c',hvv,hx⟩:=HL.out.grows HG.out;simp only [Value.slice.injEq,true_and]at hvv;obtain⟨rfl,rfl⟩:=hvv;rcases hx with h0|⟨b,off,rfl,hbw,hx⟩
   ·omega
   obtain⟨uk,hsk⟩:=hx k hlt;have hsm:=HS.out _ (fZ hlt);have HX:=zh hx;have HTB:=zh (HA.out.bad hlt);have HTN:=zh (HA.out.next hlt);have HDU:=zh (HA.out.dup hk);have HEL:=zh HA.out.len;have d1:(k:Int)<(ls.length:Int):=by omega
   generalize ht:ls.getD k default=tt at *;obtain⟨s,ek⟩:=tt;dsimp only at hsm;obtain⟨y0,y1,y2,y3,y4,y5,y6,hrk⟩:=hsk;obtain⟨ka,kc,rfl⟩:=hrk.form0;have HRK:=zh hrk;have HI5:=zh (gJ s);have HN5:=zh (fun w=>uQ s w (by have:=hsm.1;unfold maxLen;omega));have HIF:=zh (fun w' ve hr hv=>oq (fun _=>True) env ek (.slice ka ek.args.length kc) ve w' hr (by have:=hsm.2;omega) hv);have HKL:=zh hlt;have hk10:k<=10:=by omega
   clear hx hrk hsm HA hB hown hlt hk;dsimp only at y0 y1 y2 y3 y4 y5 y6;by_cases hd:bT s.toList=0
   case neg=>
    have HC:Hid (gZ ls []=([],5)):=zh yF;rw [decide_eq_true hd]at HI5;generalize bT s.toList=d0 at *;exact QE
   rw [hd]at HI5;have HD:=zh hd;clear hd;cases hnb:eY s
   case false=>
    have HC:Hid (gZ ls []=([],5)):=zh yE;rw [hnb]at HN5;clear hnb;exact QE
   rw [hnb]at HN5;have HNB:=zh hnb;clear hnb
   go_wp2_with ((first|(go_at_call 49;refine(HI5.out _).mono ?_;rintro e' w' ⟨rfl,rfl⟩)|(go_at_call 89;refine(HN5.out _).mono ?_;rintro e' w' ⟨rfl,rfl⟩)))
   go_loopw [8] (fun v8 wr=>∃j:Nat,j<=k/\v8= .int .i64 j/\Hid (∀i,i<j->decide ((ls.getD i default).1=s)=false)/\W1.Grows wr) (fun v8 _=>k-(intOf v8).toNat)
   case atStart=>exact⟨0,by omega,rfl,zh (fun i hi=>by omega),.refl _⟩
   case round=>
    obtain⟨j,hj,rfl,HNO,hgr⟩:=hrel;have HG2:=zh hgr;have HG3:Hid (w.Grows wr):=zh (World.Grows.trans' HG.out hgr);obtain⟨bs,d,rfl⟩:=hgr;by_cases hjk:j<k
    ·obtain⟨uj,hsj⟩:=HX.out j zM;have x0:=hsj.nm;have e1:(j:Int)<(k:Int):=by omega
     have e2:(j:Int)<(ls.length:Int):=by omega
     clear hsj;generalize hnj:(ls.getD j default).1=nj at *;by_cases he:nj=s
     ·have he2:(nj.toList==s.toList)=true:=by rw [he];simp
      have HC:Hid (gZ ls []=([],10)):=zh (by have h5:=tY (e:=ek) HD.out HNB.out (HDU.out s|>.trans (sW j hjk (by rw [hnj,he];simp)));have:=HTB.out zY;rw [h5]at this;exact this);clear he hnj
      go_wp2_with fail
      go_region
      go_wp2_with fail
      go_returns
      exact rG.bad HC.out (World.Grows.trans' HG.out ag)
     ·have he2:(nj.toList==s.toList)=false:=by rw [beq_eq_false_iff_ne];exact fun h=>he (toList_inj h)
      have HE:Hid (decide ((ls.getD j default).1=s)=false):=zh (by rw [hnj];exact decide_eq_false he);clear he hnj
      go_wp2_with fail
      go_region
      go_wp2_with fail
      go_roundw
      case rel=>exact⟨j+1,by omega,by go_num,zh (fun i hi=>by
       by_cases ei:i=j
       ·subst ei;exact HE.out
       ·exact HNO.out i ze),ag⟩
      case measure=>simp [intOf];omega
    ·obtain rfl:j=k:=by omega
     have HDN:Hid (env.any (fun p=>decide (p.1=s))=false):=zh ((HDU.out s).trans (sZ HNO.out));have HST:Hid (fU env (s,ek)=(aT env ek).2):=zh (tX HD.out HNB.out HDN.out);have HO2:=zh (bQ HO.out HG2.out);have HBD:Hid (aU (W1.grow bs d) vb env):=zh (aU.of_own (by rw [HEL.out];exact HO2.out) (by rw [HEL.out];omega));have hI:=HIF.out (W1.grow bs d) vb (HRK.out.grows HG2.out) HBD.out;generalize hr:aT env ek=r at *;obtain⟨dk,ck⟩:=r;unfold jh at hI;dsimp only at hI HST HTN;have HI:=zh hI;clear hI hjk;by_cases hc:ck=0
     ·subst hc;have HNX:=zh (HTN.out HST.out)
      go_wp2_with (first
       |(go_at_call 69;refine HI.out.mono ?_;rintro e' w' ⟨rfl,bs2,d2,rfl⟩)
       |(at_builtin;refine wpList_append_own _ rfl _ _ 54 rfl w.heap.size 64 i0 _ 2 24 underlying54 hi hz0 hz1 hz2 rfl zo _ _ _ rfl (bQ HO.out ag) ⟨_,0,none⟩ 1 1 [.string s,.int .i64 dk] rfl rfl ?c1 ?c2 ?c3 ?c4 ?c5 ?_))
      case c1=>exact aR _ [.string s,.int .i64 dk] _ _ zg
      case c2=>intro u hu;simp at hu;rcases hu with rfl|rfl<;>rfl
      case c3=>unfold maxLen;omega
      case c4=>omega
      case c5=>simp;omega
      intro v' w1 hown' hgrow _;have HB4:=zh ((show Below w.heap.size w _ from by have:=HB.out;(exact af)).grown hgrow zp (fun k hk=>(HO.out.lt k hk).1));have HO4:=zh hown';clear hown' hgrow
      go_wp2_with fail
      go_roundw
      case rel=>exact⟨j+1,_,_,rfl,HKL.out,by go_num,HB4.out,by rw [lh];exact HO4.out,HNX⟩
      case measure=>simp [intOf];have:=HKL.out;omega
     ·have hc2:(ck !=0)=true:=by simpa using hc
      have HC:Hid (gZ ls []=([],ck)):=zh (by have:=HTB.out (by rw [HST.out];exact hc);rw [HST.out]at this;exact this);clear hc
      go_wp2_with (go_at_call 69;refine HI.out.mono ?_;rintro e' w' ⟨rfl,bs2,d2,rfl⟩)
      go_returns
      exact rG.bad HC.out (World.Grows.trans' HG.out ag)
  ·obtain rfl:k=ls.length:=by omega
   have HD:=zh HA.out.done;have HBD:Hid (aU W1 vb env):=zh (aU.of_own (by rw [HA.out.len];exact HO.out) (by rw [HA.out.len];omega));clear hB hown
   go_wp2_with fail
   go_returns
   exact⟨_,by rw [HD.out];rfl,HG.out,by rw [HD.out];exact HBD.out,MS HO.out⟩
theorem IE(ls:List (ByteArray × Ex))(v:Value)(w:World)(h:gI w v ls)(hs:sG ls):Calls prog 45 #[v] w (lC (dN ls) w):=(yQ ls v w h hs).mono fun _ _ ⟨x,h1,h2,h3,_⟩=>⟨x,h1,h2,h3⟩
theorem nM(env:List (ByteArray × Int))(e:Ex)(v ve:Value)(want:Int)(w:World)(h:aC (fun _=>True) w e v)(hbig:e.size<=1000000)(hv:aU w ve env) :
 Calls prog 125 #[exV e v,ve,.int .i64 want] w fun r w'=>r= .returned (.int .i64 (dZ env e want))/\w.Grows w':=by
 have HR:=zh h;have HV:=zh hv;obtain⟨a,cap,rfl⟩:=h.form0;obtain⟨-,ba,bc,rfl,-⟩:=hv;have HI:=zh (fun w' (hg:w.Grows w')=>oq (fun _=>True) env e (.slice a e.args.length cap) (.slice ba env.length bc) w' (HR.out.grows hg) ze (HV.out.grows hg));unfold jh exV at HI;have HN:Hid (dZ env e want=if(aT env e).2=0/\(aT env e).1≠want then 6 else(aT env e).2):=zh rfl;generalize aT env e=r at *;obtain⟨d,c⟩:=r;dsimp only at HI HN;clear h;by_cases hc:c=0
 ·subst hc;by_cases hd:d=want
  ·subst hd;have HF:Hid (dZ env e d=0):=zh (by rw [HN.out];simp)
   go_enter func125,ntmps125
   go_wp2_with (go_at_call 69;refine(HI.out _ ag).mono ?_;rintro e' w' ⟨rfl,bs,d',rfl⟩)
   go_returns
   exact⟨by rw [HF.out]<;>rfl,ag⟩
  ·have hd2:(d !=want)=true:=by simpa using hd
   have HF:Hid (dZ env e want=6):=zh (by rw [HN.out,if_pos ⟨rfl,hd⟩]);clear hd
   go_enter func125,ntmps125
   go_wp2_with (go_at_call 69;refine(HI.out _ ag).mono ?_;rintro e' w' ⟨rfl,bs,d',rfl⟩)
   go_returns
   exact⟨by rw [HF.out]<;>rfl,ag⟩
 ·have hc2:(c==0)=false:=by simpa using hc
  have HF:Hid (dZ env e want=c):=zh (by rw [HN.out,if_neg (fun h=>hc h.1)]);clear hc
  go_enter func125,ntmps125
  go_wp2_with (go_at_call 69;refine(HI.out _ ag).mono ?_;rintro e' w' ⟨rfl,bs,d',rfl⟩)
  go_returns
  exact⟨by rw [HF.out]<;>rfl,ag⟩
structure nK(V:dK):Prop where
 le:sG V.le
 gr:∀t∈V.gr,t.2.1.size<=1000000/\t.2.2.size<=1000000
 re:∀t∈V.re,t.2.size<=1000000
def lF(w:World)(b:Nat)(c0 c1 c2 v3 v4 v5 v6 v7:Value):Prop:=w.heap[b]? =some (.cells #[c0,c1,c2,v3,v4,v5,v6,v7] 81 (0,0))
section
variable {w w' : World} {b : Nat} {c0 c1 c2 v3 v4 v5 v6 v7 : Value}
theorem lF.grows(h:lF w b c0 c1 c2 v3 v4 v5 v6 v7)(hg:w.Grows w'):lF w' b c0 c1 c2 v3 v4 v5 v6 v7:=(hg.below.block b (Array.getElem?_eq_some_iff.1 h).1).trans h
theorem lF.lt(h:lF w b c0 c1 c2 v3 v4 v5 v6 v7):b<w.heap.size:=(Array.getElem?_eq_some_iff.1 h).1
theorem lF.c3(h:lF w b c0 c1 c2 v3 v4 v5 v6 v7):w.cell? ⟨b,3,none⟩=some v3:=by rw [cell_of_row w b _ _ _ _ h];rfl
theorem lF.c4(h:lF w b c0 c1 c2 v3 v4 v5 v6 v7):w.cell? ⟨b,4,none⟩=some v4:=by rw [cell_of_row w b _ _ _ _ h];rfl
theorem lF.c5(h:lF w b c0 c1 c2 v3 v4 v5 v6 v7):w.cell? ⟨b,5,none⟩=some v5:=by rw [cell_of_row w b _ _ _ _ h];rfl
theorem lF.c6(h:lF w b c0 c1 c2 v3 v4 v5 v6 v7):w.cell? ⟨b,6,none⟩=some v6:=by rw [cell_of_row w b _ _ _ _ h];rfl
theorem lF.c7(h:lF w b c0 c1 c2 v3 v4 v5 v6 v7):w.cell? ⟨b,7,none⟩=some v7:=by rw [cell_of_row w b _ _ _ _ h];rfl
end
theorem jN.open_{c:Nat}{w:World}{v:Value}{l:List Int}(h:jN c w v l){i:Nat}(hi:i<l.length):∃b off cap,v= .slice (some ⟨b,off,none⟩) l.length cap/\b<w.heap.size/\∀i,i<l.length->w.cell? ⟨b,off+i*c,none⟩=some (.int .i64 (l.getD i 0)):=by
 obtain⟨-,a,cap,rfl,h0|⟨b,off,rfl,hb,hx⟩⟩:=h
 ·omega
 ·exact⟨b,off,cap,rfl,hb,hx⟩
theorem iR.nums{w:World}{v:Value}{l:List (Int × Ex × Ex)}(h:iR w v l):jN 13 w v (l.map Prod.fst):=by
 obtain⟨h0,a,cap,hv,h1⟩:=h;refine⟨by simpa using h0,a,cap,by simpa using hv,h1.imp zg ?_⟩;rintro⟨b,off,ha,hb,hc⟩;refine⟨b,off,ha,hb,fun i hi=>?_⟩;rw [length_map]at hi;obtain⟨u,u',hu⟩:=hc i hi;rw [hu.nm];simp [getD_eq_getElem?_getD,getElem?_map,getElem?_eq_getElem hi]
theorem om.nums{w:World}{v:Value}{l:List (Int × Ex)}(h:om w v l):jN 7 w v (l.map Prod.fst):=by
 obtain⟨h0,a,cap,hv,h1⟩:=h;refine⟨by simpa using h0,a,cap,by simpa using hv,h1.imp zg ?_⟩;rintro⟨b,off,ha,hb,hc⟩;refine⟨b,off,ha,hb,fun i hi=>?_⟩;rw [length_map]at hi;obtain⟨u,hu⟩:=hc i hi;rw [hu.nm];simp [getD_eq_getElem?_getD,getElem?_map,getElem?_eq_getElem hi]
theorem mg{β:Type}[Inhabited (Int × β)]{l:List (Int × β)}{K:List Int}(h:l.map Prod.fst=K){k:Nat}(hk:k<l.length):K.getD k 0=(l.getD k default).1:=by
 subst h;simp [getD_eq_getElem?_getD,getElem?_map,getElem?_eq_getElem hk]
theorem xO{env:List (ByteArray × Int)}{l:List (Int × Ex × Ex)}{K:List Int}{k:Nat}(hK:l.map Prod.fst=K)(hk:k<l.length)(h:iY env (K.take k) (l.getD k default)≠0):grG env (K.take k) (l.drop k)=iY env (K.take k) (l.getD k default):=by
 subst hK;rw [<-map_take]at h ⊢;exact PL hk h
theorem Bd{env:List (ByteArray × Int)}{l:List (Int × Ex × Ex)}{K:List Int}{k:Nat}(hK:l.map Prod.fst=K)(hk:k<l.length)(h:iY env (K.take k) (l.getD k default)=0):grG env (K.take k) (l.drop k)=grG env (K.take (k+1)) (l.drop (k+1)):=by
 subst hK;rw [<-map_take]at h ⊢;rw [<-map_take];exact Nu hk h
theorem xA{env:List (ByteArray × Int)}{l:List (Int × Ex)}{K:List Int}{k:Nat}(hK:l.map Prod.fst=K)(hk:k<l.length)(h:iV env (K.take k) (l.getD k default)≠0):reG env (K.take k) (l.drop k)=iV env (K.take k) (l.getD k default):=by
 subst hK;rw [<-map_take]at h ⊢;exact Pb hk h
theorem Ae{env:List (ByteArray × Int)}{l:List (Int × Ex)}{K:List Int}{k:Nat}(hK:l.map Prod.fst=K)(hk:k<l.length)(h:iV env (K.take k) (l.getD k default)=0):reG env (K.take k) (l.drop k)=reG env (K.take (k+1)) (l.drop (k+1)):=by
 subst hK;rw [<-map_take]at h ⊢;rw [<-map_take];exact MQ hk h
theorem EM{env:List (ByteArray × Int)}{pre:List Int}{g:Int × Ex × Ex}(h:pre.contains g.1=true):iY env pre g=10:=by unfold iY;rw [if_pos h]
theorem EL{env:List (ByteArray × Int)}{pre:List Int}{g:Int × Ex × Ex}(h:pre.contains g.1=false):iY env pre g=if dZ env g.2.1 1≠0 then dZ env g.2.1 1 else dZ env g.2.2 4:=by unfold iY;rw [if_neg (by rw [h];simp)]
theorem Et{env:List (ByteArray × Int)}{pre:List Int}{g:Int × Ex}(h:pre.contains g.1=true):iV env pre g=10:=by unfold iV;rw [if_pos h]
theorem Es{env:List (ByteArray × Int)}{pre:List Int}{g:Int × Ex}(h:pre.contains g.1=false):iV env pre g=dZ env g.2 2:=by unfold iV;rw [if_neg (by rw [h];simp)]
theorem yL(V:dK)(x0 x1 x2:Int)(v3 v4 v5 v6 v7:Value)(w:World)(h:yN w V v3 v4 v5 v6 v7)(hs:nK V) :
 Calls prog 82 #[.agg #[.int .i64 x0,.int .i64 x1,.int .i64 x2,v3,v4,v5,v6,v7]] w fun e w'=>e= .returned (.int .i64 (bH V))/\w.Grows w':=by
 have HV:=zh h;have HS:=zh hs;have HLT:=zh (fun w' (hg:w.Grows w')=>IE V.le v5 w' (h.le.grows hg) hs.le);unfold lC at HLT;have HA:=IX (V:=V);have HB_:=IW (V:=V);have HC_:=IV (V:=V);have HD_:=IU (V:=V);have HE_:=IR (V:=V);have H3:=h.cr;have H4:=h.se;have H6:=h.gr.nums;have H7:=h.re.nums;obtain⟨K3,hK3⟩:∃K,V.cr.map Prod.fst=K:=⟨_,rfl⟩;obtain⟨K4,hK4⟩:∃K,V.se.map Prod.fst=K:=⟨_,rfl⟩;obtain⟨K6,hK6⟩:∃K,V.gr.map Prod.fst=K:=⟨_,rfl⟩;obtain⟨K7,hK7⟩:∃K,V.re.map Prod.fst=K:=⟨_,rfl⟩;rw [hK3]at H3 HB_ HC_ HD_ HE_;rw [hK4]at H4 HC_ HD_ HE_;rw [hK6]at H6;rw [hK7]at H7;have hl6:K6.length=V.gr.length:=by rw [<-hK6,length_map]
 have hl7:K7.length=V.re.length:=by rw [<-hK7,length_map]
 replace hK6:=zh hK6;replace hK7:=zh hK7;have HL6:=zh hl6;have HL7:=zh hl7;obtain⟨h3l,a3,k3,rfl,-⟩:=id H3;obtain⟨h4l,a4,k4,rfl,-⟩:=id H4;obtain⟨h5l,a5,k5,rfl,-⟩:=h.le;obtain⟨h6l,a6,k6,rfl,-⟩:=id H6;obtain⟨h7l,a7,k7,rfl,-⟩:=id H7;replace H3:=zh H3;replace H4:=zh H4;replace H6:=zh H6;replace H7:=zh H7;generalize dN V.le=L at *;obtain⟨env,c⟩:=L;dsimp only at HLT HA HB_ HC_ HD_ HE_;replace HA:=zh HA;replace HB_:=zh HB_;replace HC_:=zh HC_;replace HD_:=zh HD_;replace HE_:=zh HE_;clear h hs hK3 hK4 hl6 hl7;by_cases hc:c=0
 case neg=>
  have hc2:(c !=0)=true:=by simpa using hc
  have HF:=zh (HA.out hc);clear hc
  go_enter func82,ntmps82
  go_wp2_with (go_at_call 45;refine(HLT.out _ ag).mono ?_;rintro e' w' ⟨x,rfl,⟨bs,d,rfl⟩,hbd⟩)
  go_returns
  exact⟨by rw [HF.out]<;>rfl,ag⟩
 subst hc
 go_enter func82,ntmps82
 go_wp2_with (go_at_call 45;refine(HLT.out _ ag).mono ?_;rintro e' w' ⟨x,rfl,⟨bs,d,rfl⟩,hbd⟩;have HBD:=zh hbd;obtain⟨-,xa,xc,rfl,-⟩:=hbd)
 refine gy (fun W hW=>?_);have HG:Hid (w.Grows W):=zh (by rw [<-hW];exact ag);have HBX:Hid (lF W w.heap.size (.int .i64 x0) (.int .i64 x1) (.int .i64 x2) (.slice a3 K3.length k3) (.slice a4 K4.length k4) (.slice a5 V.le.length k5) (.slice a6 K6.length k6) (.slice a7 K7.length k7)):=zh yI;have HEV:Hid (aU W (.slice xa env.length xc) env):=zh (by rw [<-hW];exact HBD.out);clear hW HBD HLT HA
 go_loopw [5] (fun v4 wr=>∃i:Nat,i<=K3.length/\v4= .int .i64 i/\Hid (jZ [] K3=jZ (K3.take i) (K3.drop i))/\W.Grows wr) (fun v4 _=>K3.length-(intOf v4).toNat)
 case atStart=>exact⟨0,by omega,rfl,zh rfl,.refl _⟩
 case round=>
  obtain⟨i,hi,rfl,HAT,hgr⟩:=hrel;obtain⟨W1,rfl⟩:∃W1,W1=wr:=⟨_,rfl⟩;have HG1:=zh hgr;have HBX1:=zh (HBX.out.grows hgr);have q3:=HBX1.out.lt;have q0:=HBX1.out.c3;clear hgr;by_cases hlt:i<K3.length
  ·have HKL:=zh hlt;have d1:(i:Int)<(K3.length:Int):=by omega
   clear hlt
   go_wp2_with fail
   go_loopw [6] (fun vj wr=>∃j:Nat,j<=i/\vj= .int .i64 j/\Hid (∀t,t<j->decide (K3.getD t 0=K3.getD i 0)=false)/\W1.Grows wr) (fun vj _=>i-(intOf vj).toNat)
   case atStart=>exact⟨0,by omega,rfl,zh (fun t ht=>by omega),.refl _⟩
   case round=>
    obtain⟨j,hj,rfl,HNO,hgr⟩:=hrel;have HG2:=zh (World.Grows.trans' HG1.out hgr);have HG3:=zh hgr;have HBX2:=zh (HBX.out.grows HG2.out);by_cases hji:j<i
    ·obtain⟨b,off,kcap,hkv,hkb,hkx⟩:=(H3.out.grows (World.Grows.trans' HG.out HG2.out)).open_ HKL.out;have q0:=HBX2.out.c3;rw [hkv]at q0;have q1:=hkx j zM;have q2:=hkx i HKL.out;have q3:=HBX2.out.lt;have e1:(j:Int)<(i:Int):=by omega
     have e2:(j:Int)<(K3.length:Int):=by have:=HKL.out;omega
     have e3:(i:Int)<(K3.length:Int):=by have:=HKL.out;omega
     clear hkv hkx hgr;by_cases he:K3.getD j 0=K3.getD i 0
     ·have HHAS:Hid ((K3.take i).contains (K3.getD i 0)=true):=zh yu;rw [he]at q1;have HF:Hid (bH V=10):=zh (HB_.out trivial (by rw [HAT.out,DY HKL.out,HHAS.out,Bool.true_or]));generalize K3.getD i 0=z at *;clear he HNO
      go_wp2_with fail
      go_region
      go_wp2_with fail
      go_returns
      exact⟨by rw [HF.out]<;>rfl,World.Grows.trans' HG.out (World.Grows.trans' HG2.out ag)⟩
     ·have he2:(K3.getD j 0==K3.getD i 0)=false:=by simpa using he
      have HE:Hid (decide (K3.getD j 0=K3.getD i 0)=false):=zh (decide_eq_false he);obtain⟨zj,hzj⟩:∃z,K3.getD j 0=z:=⟨_,rfl⟩;obtain⟨zi,hzi⟩:∃z,K3.getD i 0=z:=⟨_,rfl⟩;rw [hzj]at q1 he he2;rw [hzi]at q2 he he2;clear hzj hzi
      go_wp2_with fail
      go_region
      go_wp2_with fail
      go_roundw
      case rel=>exact⟨j+1,by omega,by go_num,zh (fun t ht=>by
       by_cases et:t=j
       ·subst et;exact HE.out
       ·exact HNO.out t ze),World.Grows.trans' HG3.out ag⟩
      case measure=>simp [intOf];omega
    ·obtain rfl:j=i:=by omega
     have HHAS:Hid ((K3.take j).contains (K3.getD j 0)=false):=zh yx;clear HNO hji hj;have HNX:Hid (jZ [] K3=jZ (K3.take (j+1)) (K3.drop (j+1))):=zh (by rw [HAT.out,DY HKL.out,HHAS.out,Bool.false_or])
     go_wp2_with fail
     go_roundw
     case rel=>exact⟨j+1,HKL.out,by go_num,HNX,World.Grows.trans' HG2.out ag⟩
     case measure=>simp [intOf];have:=HKL.out;omega
  obtain rfl:i=K3.length:=by omega
  have H3D:Hid (jZ [] K3=false):=zh (HAT.out.trans ES);clear HAT
  go_wp2_with fail
  go_loopw [7] (fun v6 wr=>∃k t:Nat,k=t+1/\(k<=K4.length\/t=0)/\v6= .int .i64 k/\Hid (∀j,j+1<k->K4.getD j 0<K4.getD (j+1) 0)/\W.Grows wr) (fun v6 _=>K4.length-(intOf v6).toNat)
  case atStart=>exact⟨1,0,rfl,.inr rfl,rfl,zh (fun j hj=>by omega),HG1.out⟩
  case round=>
   obtain⟨k,t,hkt,hk,rfl,HAS,hgr⟩:=hrel;obtain⟨W1,rfl⟩:∃W1,W1=wr:=⟨_,rfl⟩;have HG1:=zh hgr;have HBX1:=zh (HBX.out.grows hgr);have q3:=HBX1.out.lt;have q0:=HBX1.out.c4;clear hgr;by_cases hlt:k<K4.length
   ·have HKL:=zh hlt;obtain⟨b,off,kcap,hkv,hkb,hkx⟩:=(H4.out.grows (World.Grows.trans' HG.out HG1.out)).open_ hlt;rw [hkv]at q0;have q1:=hkx k hlt;have q2:=hkx t ze;have d1:(k:Int)<(K4.length:Int):=by omega
    have d2:(k:Int)-1=(t:Int):=by omega
    have d3:(t:Int)<(K4.length:Int):=by omega
    have d4:(0:Int)<=(t:Int):=by omega
    have HT:=zh hkt;clear hkv hkx hkt hk hlt;by_cases hle:K4.getD k 0<=K4.getD t 0
    ·have HF:Hid (bH V=1):=zh (HC_.out trivial H3D.out (KT (j:=t) (by rw [<-HT.out];exact HKL.out) (by rw [<-HT.out];exact hle)));generalize K4.getD k 0=y at *;generalize K4.getD t 0=z at *
     go_wp2_with fail
     go_region
     go_wp2_with fail
     go_returns
     exact⟨by rw [HF.out]<;>rfl,World.Grows.trans' HG.out (World.Grows.trans' HG1.out ag)⟩
    ·have HLE:=zh hle;obtain⟨zk,hzk⟩:∃z,K4.getD k 0=z:=⟨_,rfl⟩;obtain⟨zt,hzt⟩:∃z,K4.getD t 0=z:=⟨_,rfl⟩;rw [hzk]at q1 hle;rw [hzt]at q2 hle;have hle2:zt<zk:=by omega
     clear hzk hzt
     go_wp2_with fail
     go_region
     go_wp2_with fail
     go_roundw
     case rel=>exact⟨k+1,k,rfl,.inl HKL.out,by go_num,zh (fun j hj=>by
      by_cases ej:j+1=k
      ·have:=HLE.out;have e:j=t:=by have:=HT.out;omega
       rw [ej,e];omega
      ·exact HAS.out j ze),World.Grows.trans' HG1.out ag⟩
     case measure=>simp [intOf];have:=HKL.out;omega
   have hK:rQ K4=true:=(sw K4).2 fun j hj=>HAS.out j ze;have H4D:=zh hK;have d1:¬(k:Int)<(K4.length:Int):=by omega
   have HDD:Hid (∀c,c≠0->grG env [] V.gr=c->bH V=c):=zh (fun c hc h=>by rw [<-h];exact HD_.out trivial H3D.out H4D.out (by rw [h];exact hc));have HEE:Hid (grG env [] V.gr=0->bH V=reG env [] V.re):=zh (fun h=>HE_.out trivial H3D.out H4D.out h);clear HAS hK hkt hk hlt
   go_wp2_with fail
   go_loopw [8] (fun v7 wr=>∃i:Nat,i<=K6.length/\v7= .int .i64 i/\Hid (grG env [] V.gr=grG env (K6.take i) (V.gr.drop i))/\W.Grows wr) (fun v7 _=>K6.length-(intOf v7).toNat)
   case atStart=>exact⟨0,by omega,rfl,zh rfl,HG1.out⟩
   case round=>
    obtain⟨i,hi,rfl,HAT,hgr⟩:=hrel;obtain⟨W1,rfl⟩:∃W1,W1=wr:=⟨_,rfl⟩;have HG1:=zh hgr;have HBX1:=zh (HBX.out.grows hgr);have q3:=HBX1.out.lt;have q0:=HBX1.out.c6;clear hgr;by_cases hlk:i<K6.length
    ·have HKL:=zh hlk;have hlt:i<V.gr.length:=by rw [<-HL6.out];exact hlk
     have d1:(i:Int)<(K6.length:Int):=by omega
     clear hlk
     go_wp2_with fail
     go_loopw [9] (fun vj wr=>∃j:Nat,j<=i/\vj= .int .i64 j/\Hid (∀t,t<j->decide (K6.getD t 0=K6.getD i 0)=false)/\W1.Grows wr) (fun vj _=>i-(intOf vj).toNat)
     case atStart=>exact⟨0,by omega,rfl,zh (fun t ht=>by omega),.refl _⟩
     case round=>
      obtain⟨j,hj,rfl,HNO,hgr⟩:=hrel;have HG2:=zh (World.Grows.trans' HG1.out hgr);have HG3:=zh hgr;have HBX2:=zh (HBX.out.grows HG2.out);by_cases hji:j<i
      ·obtain⟨b,off,kcap,hkv,hkb,hkx⟩:=(H6.out.grows (World.Grows.trans' HG.out HG2.out)).open_ HKL.out;have q0:=HBX2.out.c6;rw [hkv]at q0;have q1:=hkx j zM;have q2:=hkx i HKL.out;have q3:=HBX2.out.lt;have e1:(j:Int)<(i:Int):=by omega
       have e2:(j:Int)<(K6.length:Int):=by have:=HKL.out;omega
       have e3:(i:Int)<(K6.length:Int):=by have:=HKL.out;omega
       clear hkv hkx hgr;by_cases he:K6.getD j 0=K6.getD i 0
       ·have HHAS:Hid ((K6.take i).contains (K6.getD i 0)=true):=zh yu;rw [he]at q1
        have HF:Hid (bH V=10):=zh (by
         have hs:=EM (env:=env) (pre:=K6.take i) (g:=V.gr.getD i default) (by rw [<-mg hK6.out hlt];exact HHAS.out)
         exact HDD.out 10 zo (HAT.out.trans ((xO (env:=env) hK6.out hlt (by rw [hs];decide)).trans hs)))
        generalize K6.getD i 0=z at *;clear he HNO
        go_wp2_with fail
        go_region
        go_wp2_with fail
        go_returns
        exact⟨by rw [HF.out]<;>rfl,World.Grows.trans' HG.out (World.Grows.trans' HG2.out ag)⟩
       ·have he2:(K6.getD j 0==K6.getD i 0)=false:=by simpa using he
        have HE:Hid (decide (K6.getD j 0=K6.getD i 0)=false):=zh (decide_eq_false he);obtain⟨zj,hzj⟩:∃z,K6.getD j 0=z:=⟨_,rfl⟩;obtain⟨zi,hzi⟩:∃z,K6.getD i 0=z:=⟨_,rfl⟩;rw [hzj]at q1 he he2;rw [hzi]at q2 he he2;clear hzj hzi
        go_wp2_with fail
        go_region
        go_wp2_with fail
        go_roundw
        case rel=>exact⟨j+1,by omega,by go_num,zh (fun t ht=>by
         by_cases et:t=j
         ·subst et;exact HE.out
         ·exact HNO.out t ze),World.Grows.trans' HG3.out ag⟩
        case measure=>simp [intOf];omega
      ·obtain rfl:j=i:=by omega
       have HHAS:Hid ((K6.take j).contains (K6.getD j 0)=false):=zh yx;clear HNO hji hj;obtain⟨-,a',c',hvv,hx⟩:=HV.out.gr.grows (World.Grows.trans' HG.out HG2.out);simp only [Value.slice.injEq]at hvv;obtain⟨rfl,-,rfl⟩:=hvv;rcases hx with h0|⟨b,off,rfl,hbw,hx⟩
       ·have:=hlt;omega
       obtain⟨u,u',hg⟩:=hx j hlt;have hsm:=HS.out.gr _ (fZ hlt);have HGN:=zh (fun h=>HAT.out.trans (Bd (env:=env) hK6.out hlt h));have HGB:=zh (fun h=>HAT.out.trans (xO (env:=env) hK6.out hlt h));have HST:=zh (EL (env:=env) (pre:=K6.take j) (g:=V.gr.getD j default) (by rw [<-mg hK6.out hlt];exact HHAS.out));have p0:=HBX2.out.c6;have p1:=HBX2.out.lt;have e3:(j:Int)<(K6.length:Int):=by have:=HKL.out;omega
       generalize V.gr.getD j default=g at *;obtain⟨gn,ge,gp⟩:=g;obtain⟨-,m0,m1,m2,m3,m4,m5,n0,n1,n2,n3,n4,n5,r1,r2⟩:=hg;dsimp only at m0 m1 m2 m3 m4 m5 n0 n1 n2 n3 n4 n5 r1 r2 hsm HST HGN HGB;obtain⟨ua,uc,rfl⟩:=r1.form0;obtain⟨va,vc,rfl⟩:=r2.form0;have HR1:=zh r1;have HR2:=zh r2;have HEW:=zh (HEV.out.grows HG2.out);have HN1:=zh (fun w' (hg:wr.Grows w')=>nM env ge _ _ 1 w' (HR1.out.grows hg) hsm.1 (HEW.out.grows hg));have HN2:=zh (fun w' (hg:wr.Grows w')=>nM env gp _ _ 4 w' (HR2.out.grows hg) hsm.2 (HEW.out.grows hg));unfold exV at HN1 HN2;clear r1 r2 hx hlt hsm;generalize dZ env ge 1=c1 at *;generalize dZ env gp 4=c2 at *;by_cases h1:c1=0
       case neg=>
        have hb:(c1 !=0)=true:=by simpa using h1
        have HF:Hid (bH V=c1):=zh (HDD.out c1 h1 ((HGB.out (by rw [HST.out,if_pos h1];exact h1)).trans (by rw [HST.out,if_pos h1])));clear h1
        go_wp2_with (go_at_call 125;first|((with_reducible refine(HN1.out _ ag).mono ?_);rintro e' w' ⟨rfl,bs1,d1,rfl⟩)|((with_reducible refine(HN2.out _ ag).mono ?_);rintro e' w' ⟨rfl,bs2,d2,rfl⟩))
        go_returns
        exact⟨by rw [HF.out]<;>rfl,World.Grows.trans' HG.out (World.Grows.trans' HG2.out ag)⟩
       subst h1;by_cases h2:c2=0
       case neg=>
        have hb:(c2 !=0)=true:=by simpa using h2
        have HF:Hid (bH V=c2):=zh (HDD.out c2 h2 ((HGB.out (by rw [HST.out,if_neg zg];exact h2)).trans yk));clear h2
        go_wp2_with (go_at_call 125;first|((with_reducible refine(HN1.out _ ag).mono ?_);rintro e' w' ⟨rfl,bs1,d1,rfl⟩)|((with_reducible refine(HN2.out _ ag).mono ?_);rintro e' w' ⟨rfl,bs2,d2,rfl⟩))
        go_returns
        exact⟨by rw [HF.out]<;>rfl,World.Grows.trans' HG.out (World.Grows.trans' HG2.out ag)⟩
       subst h2;have HNX:=zh (HGN.out yk)
       go_wp2_with (go_at_call 125;first|((with_reducible refine(HN1.out _ ag).mono ?_);rintro e' w' ⟨rfl,bs1,d1,rfl⟩)|((with_reducible refine(HN2.out _ ag).mono ?_);rintro e' w' ⟨rfl,bs2,d2,rfl⟩))
       go_roundw
       case rel=>exact⟨j+1,HKL.out,by go_num,HNX,World.Grows.trans' HG2.out ag⟩
       case measure=>simp [intOf];have:=HKL.out;omega
    obtain rfl:i=K6.length:=by omega
    have HEF:Hid (bH V=reG env [] V.re):=zh (HEE.out (HAT.out.trans (by rw [HL6.out,drop_length,grG])));clear HAT HDD HEE;have HEE:=HEF;clear HEF
    go_wp2_with fail
    go_loopw [12] (fun v11 wr=>∃i:Nat,i<=K7.length/\v11= .int .i64 i/\Hid (reG env [] V.re=reG env (K7.take i) (V.re.drop i))/\W.Grows wr) (fun v11 _=>K7.length-(intOf v11).toNat)
    case atStart=>exact⟨0,by omega,rfl,zh rfl,HG1.out⟩
    case round=>
     obtain⟨i,hi,rfl,HAT,hgr⟩:=hrel;obtain⟨W1,rfl⟩:∃W1,W1=wr:=⟨_,rfl⟩;have HG1:=zh hgr;have HBX1:=zh (HBX.out.grows hgr);have q3:=HBX1.out.lt;have q0:=HBX1.out.c7;clear hgr;by_cases hlk:i<K7.length
     ·have HKL:=zh hlk;have hlt:i<V.re.length:=by rw [<-HL7.out];exact hlk
      have d1:(i:Int)<(K7.length:Int):=by omega
      clear hlk
      go_wp2_with fail
      go_loopw [13] (fun vj wr=>∃j:Nat,j<=i/\vj= .int .i64 j/\Hid (∀t,t<j->decide (K7.getD t 0=K7.getD i 0)=false)/\W1.Grows wr) (fun vj _=>i-(intOf vj).toNat)
      case atStart=>exact⟨0,by omega,rfl,zh (fun t ht=>by omega),.refl _⟩
      case round=>
       obtain⟨j,hj,rfl,HNO,hgr⟩:=hrel;have HG2:=zh (World.Grows.trans' HG1.out hgr);have HG3:=zh hgr;have HBX2:=zh (HBX.out.grows HG2.out);by_cases hji:j<i
       ·obtain⟨b,off,kcap,hkv,hkb,hkx⟩:=(H7.out.grows (World.Grows.trans' HG.out HG2.out)).open_ HKL.out;have q0:=HBX2.out.c7;rw [hkv]at q0;have q1:=hkx j zM;have q2:=hkx i HKL.out;have q3:=HBX2.out.lt;have e1:(j:Int)<(i:Int):=by omega
        have e2:(j:Int)<(K7.length:Int):=by have:=HKL.out;omega
        have e3:(i:Int)<(K7.length:Int):=by have:=HKL.out;omega
        clear hkv hkx hgr;by_cases he:K7.getD j 0=K7.getD i 0
        ·have HHAS:Hid ((K7.take i).contains (K7.getD i 0)=true):=zh yu;rw [he]at q1
         have HF:Hid (bH V=10):=zh (by
          have hs:=Et (env:=env) (pre:=K7.take i) (g:=V.re.getD i default) (by rw [<-mg hK7.out hlt];exact HHAS.out)
          exact HEE.out.trans (HAT.out.trans ((xA (env:=env) hK7.out hlt (by rw [hs];decide)).trans hs)))
         generalize K7.getD i 0=z at *;clear he HNO
         go_wp2_with fail
         go_region
         go_wp2_with fail
         go_returns
         exact⟨by rw [HF.out]<;>rfl,World.Grows.trans' HG.out (World.Grows.trans' HG2.out ag)⟩
        ·have he2:(K7.getD j 0==K7.getD i 0)=false:=by simpa using he
         have HE:Hid (decide (K7.getD j 0=K7.getD i 0)=false):=zh (decide_eq_false he);obtain⟨zj,hzj⟩:∃z,K7.getD j 0=z:=⟨_,rfl⟩;obtain⟨zi,hzi⟩:∃z,K7.getD i 0=z:=⟨_,rfl⟩;rw [hzj]at q1 he he2;rw [hzi]at q2 he he2;clear hzj hzi
         go_wp2_with fail
         go_region
         go_wp2_with fail
         go_roundw
         case rel=>exact⟨j+1,by omega,by go_num,zh (fun t ht=>by
          by_cases et:t=j
          ·subst et;exact HE.out
          ·exact HNO.out t ze),World.Grows.trans' HG3.out ag⟩
         case measure=>simp [intOf];omega
       ·obtain rfl:j=i:=by omega
        have HHAS:Hid ((K7.take j).contains (K7.getD j 0)=false):=zh yx;clear HNO hji hj;obtain⟨-,a',c',hvv,hx⟩:=HV.out.re.grows (World.Grows.trans' HG.out HG2.out);simp only [Value.slice.injEq]at hvv;obtain⟨rfl,-,rfl⟩:=hvv;rcases hx with h0|⟨b,off,rfl,hbw,hx⟩
        ·have:=hlt;omega
        obtain⟨u,hg⟩:=hx j hlt;have hsm:=HS.out.re _ (fZ hlt);have HGN:=zh (fun h=>HAT.out.trans (Ae (env:=env) hK7.out hlt h));have HGB:=zh (fun h=>HAT.out.trans (xA (env:=env) hK7.out hlt h));have HST:=zh (Es (env:=env) (pre:=K7.take j) (g:=V.re.getD j default) (by rw [<-mg hK7.out hlt];exact HHAS.out));have p0:=HBX2.out.c7;have p1:=HBX2.out.lt;have e3:(j:Int)<(K7.length:Int):=by have:=HKL.out;omega
        generalize V.re.getD j default=g at *;obtain⟨gn,ge⟩:=g;obtain⟨-,m0,m1,m2,m3,m4,m5,r1⟩:=hg;dsimp only at m0 m1 m2 m3 m4 m5 r1 hsm HST HGN HGB;obtain⟨ua,uc,rfl⟩:=r1.form0;have HR1:=zh r1;have HEW:=zh (HEV.out.grows HG2.out);have HN1:=zh (fun w' (hg:wr.Grows w')=>nM env ge _ _ 2 w' (HR1.out.grows hg) hsm (HEW.out.grows hg));have HN2:=HN1;unfold exV at HN1;clear r1 hx hlt hsm;generalize dZ env ge 2=c1 at *;by_cases h1:c1=0
        case neg=>
         have hb:(c1 !=0)=true:=by simpa using h1
         have HF:Hid (bH V=c1):=zh (HEE.out.trans ((HGB.out (by rw [HST.out];exact h1)).trans HST.out));clear h1
         go_wp2_with (go_at_call 125;first|((with_reducible refine(HN1.out _ ag).mono ?_);rintro e' w' ⟨rfl,bs1,d1,rfl⟩)|((with_reducible refine(HN2.out _ ag).mono ?_);rintro e' w' ⟨rfl,bs2,d2,rfl⟩))
         go_returns
         exact⟨by rw [HF.out]<;>rfl,World.Grows.trans' HG.out (World.Grows.trans' HG2.out ag)⟩
        subst h1;have HNX:=zh (HGN.out HST.out)
        go_wp2_with (go_at_call 125;first|((with_reducible refine(HN1.out _ ag).mono ?_);rintro e' w' ⟨rfl,bs1,d1,rfl⟩)|((with_reducible refine(HN2.out _ ag).mono ?_);rintro e' w' ⟨rfl,bs2,d2,rfl⟩))
        go_roundw
        case rel=>exact⟨j+1,HKL.out,by go_num,HNX,World.Grows.trans' HG2.out ag⟩
        case measure=>simp [intOf];have:=HKL.out;omega
     obtain rfl:i=K7.length:=by omega
     have HF:Hid (bH V=0):=zh (HEE.out.trans (HAT.out.trans (by rw [HL7.out,drop_length,reG])));clear HAT HEE
     go_wp2_with fail
     go_returns
     exact⟨by rw [HF.out]<;>rfl,World.Grows.trans' HG.out (World.Grows.trans' HG1.out ag)⟩
end Go.Proofs.YtlheailebbngiaaGreatDoor
