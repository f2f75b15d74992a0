import Derived.Test.YtfoefpoaomepbaaGreatDoorGTwistW
import Derived.Test.YtfoefpoaomepbaaGreatDoorGExp2
import Derived.Test.YtfoefpoaomepbaaGreatDoorGGrP
set_option linter.all false
set_option maxHeartbeats 16000000
set_option maxRecDepth 1000000
namespace Go.Proofs.YtfoefpoaomepbaaGreatDoor
open Go.Proofs.Tryz Tryz List
open Go.RowKit
def rR(r:List (ByteArray × Int) × Int)(w:World)(e:Ending)(w':World):Prop:=∃x,e= .returned (.tuple #[x,.int .i64 r.2])/\w.Grows w'/\aR w' x r.1/\∀a n c,x= .slice a n c->n<=c
theorem rR.bad{r:List (ByteArray × Int) × Int}{c:Int}{w w':World}(h:r=([],c))(hg:w.Grows w'):rR r w (.returned (.tuple #[.slice none 0 0,.int .i64 c])) w':=by
 subst h;exact⟨_,rfl,hg,⟨by simp,none,0,rfl,.inl rfl⟩,fun a n c h=>by simp only [Value.slice.injEq]at h;omega⟩
theorem OT{w:World}{b size n:Nat}{e:TypeId}{v:Value}{xs:List Value}(h:w.ownsRow b e size v n xs):∀a m c,v= .slice a m c->m<=c:=by
 intro a m c hv;rcases h.2 with ⟨rfl,-⟩|⟨g,cap,cur,rfl,-,-,hle,-⟩
 ·simp only [Value.slice.injEq]at hv;omega
 ·simp only [Value.slice.injEq]at hv;omega
theorem EB(ls:List (ByteArray × Ex))(v:Value)(w:World)(h:LetsAt w v ls)(hl:10<ls.length):Calls prog 19 #[v] w (rR (dn ls) w):=by
 obtain⟨hl1000,la,lc,rfl,-⟩:=h;have hn:(10:Int)<(ls.length:Int):=by omega
 have HF:Hid (dn ls=([],7)):=yq (by unfold dn;rw [if_pos hl])
 go_enter func19,ntmps19
 go_wp2_with fail
 go_returns
 exact rR.bad HF.out (.of_below af)
theorem Bi(ls:List (ByteArray × Ex))(v:Value)(w:World)(h:LetsAt w v ls)(hs:sJ ls):Calls prog 19 #[v] w (rR (dn ls) w):=by
 by_cases hlen:ls.length<=10
 case neg=>exact EB ls v w h zb
 obtain⟨i0,hi,hz0,hz1,hz2⟩:=info_parts QL;have HL:=yq h;have HS:=yq hs;obtain⟨hl1000,la,lc,rfl,-⟩:=h;rw [qy hlen];have hn:¬(10:Int)<(ls.length:Int):=by omega
 clear hs
 go_enter func19,ntmps19
 go_wp2_with fail
 go_loopw [4,5] (fun v4 v5 wr=>∃(k:Nat) (vb:Value) (env:List (ByteArray × Int)),vb=v4/\k<=ls.length/\v5= .int .i64 k/\Below w.heap.size w wr/\wr.ownsRow w.heap.size 106 2 vb k (rO env)/\Hid (jQ ls k env)) (fun _ v5 _=>ls.length-(intOf v5).toNat)
 case atStart=>exact⟨0,_,[],rfl,by omega,rfl,.refl _ _,World.ownsRow_nil _ _ _ _,yq (jQ.zero ls)⟩
 case round=>
  obtain⟨k,vb,env,rfl,hk,rfl,hB,hown,HA⟩:=hrel;obtain⟨W1,rfl⟩:∃W1,W1=wr:=⟨_,rfl⟩;have HB:=yq hB;have HO:=yq hown;have HG:Hid (w.Grows W1):=yq (.of_below hB);have hsW:=hB.size;by_cases hlt:k<ls.length
  ·obtain⟨-,a',c',hvv,hx⟩:=HL.out.grows HG.out;simp only [Value.slice.injEq,true_and]at hvv;obtain⟨rfl,rfl⟩:=hvv;rcases hx with h0|⟨b,off,rfl,hbw,hx⟩
   ·omega
   obtain⟨uk,hsk⟩:=hx k hlt;have hsm:=HS.out _ (getD_mem hlt);have HX:=yq hx;have HTB:=yq (HA.out.bad hlt);have HTN:=yq (HA.out.next hlt);have HDU:=yq (HA.out.dup hk);have HEL:=yq HA.out.len;have d1:(k:Int)<(ls.length:Int):=by omega
   generalize ht:ls.getD k default=tt at *;obtain⟨s,ek⟩:=tt;dsimp only at hsm;obtain⟨y0,y1,y2,y3,y4,y5,y6,hrk⟩:=hsk;obtain⟨ka,kc,rfl⟩:=hrk.form0;have HRK:=yq hrk;have HI5:=yq (jv s);have HN5:=yq (fun w=>oL s w (by have:=hsm.1;unfold maxLen;omega));have HIF:=yq (fun w' ve hr hv=>vG (fun _=>True) env ek (.slice ka ek.args.length kc) ve w' hr (by have:=hsm.2;omega) hv);have HKL:=yq hlt;have hk10:k<=10:=by omega
   clear hx hrk hsm HA hB hown hlt hk;dsimp only at y0 y1 y2 y3 y4 y5 y6;by_cases hd:df s.toList=0
   case neg=>
    have HC:Hid (gD ls []=([],5)):=yq yI;rw [decide_eq_true hd]at HI5;generalize df s.toList=d0 at *;exact Tw
   rw [hd]at HI5;have HD:=yq hd;clear hd;cases hnb:dI s
   case false=>
    have HC:Hid (gD ls []=([],5)):=yq yH;rw [hnb]at HN5;clear hnb;exact Tw
   rw [hnb]at HN5;have HNB:=yq hnb;clear hnb
   go_wp2_with ((first|(go_at_call 43;refine gw (HI5.out _) ?_)|(go_at_call 44;refine gw (HN5.out _) ?_)))
   go_loopw [8] (fun v8 wr=>∃j:Nat,j<=k/\v8= .int .i64 j/\Hid (∀i,i<j->decide ((ls.getD i default).1=s)=false)/\W1.Grows wr) (fun v8 _=>k-(intOf v8).toNat)
   case atStart=>exact⟨0,by omega,rfl,yq (fun i hi=>by omega),.refl _⟩
   case round=>
    obtain⟨j,hj,rfl,HNO,hgr⟩:=hrel;have HG2:=yq hgr;have HG3:Hid (w.Grows wr):=yq (gqq HG.out hgr);obtain⟨bs,d,rfl⟩:=hgr;by_cases hjk:j<k
    ·obtain⟨uj,hsj⟩:=HX.out j zG;have x0:=hsj.nm;have e1:(j:Int)<(k:Int):=by omega
     have e2:(j:Int)<(ls.length:Int):=by omega
     clear hsj;generalize hnj:(ls.getD j default).1=nj at *;by_cases he:nj=s
     ·have he2:(nj.toList==s.toList)=true:=by rw [he];simp
      have HC:Hid (gD ls []=([],10)):=yq (by have h5:=uh (e:=ek) HD.out HNB.out (HDU.out s|>.trans (tH j hjk (by rw [hnj,he];simp)));have:=HTB.out zR;rw [h5]at this;exact this);clear he hnj
      go_wp2_with fail
      go_region
      go_wp2_with fail
      go_returns
      exact rR.bad HC.out (gqq HG.out growsA)
     ·have he2:(nj.toList==s.toList)=false:=by rw [beq_eq_false_iff_ne];exact fun h=>he (toList_inj h)
      have HE:Hid (decide ((ls.getD j default).1=s)=false):=yq (by rw [hnj];exact decide_eq_false he);clear he hnj
      go_wp2_with fail
      go_region
      go_wp2_with fail
      go_roundw
      case rel=>exact⟨j+1,by omega,by go_num,yq (fun i hi=>by
       by_cases ei:i=j
       ·subst ei;exact HE.out
       ·exact HNO.out i zb),growsA⟩
      case measure=>simp [intOf];omega
    ·obtain rfl:j=k:=by omega
     have HDN:Hid (env.any (fun p=>decide (p.1=s))=false):=yq ((HDU.out s).trans (tJ HNO.out));have HST:Hid (fA env (s,ek)=(aQ env ek).2):=yq (ug HD.out HNB.out HDN.out);have HO2:=yq (lU HO.out HG2.out);have HBD:Hid (aR (W1.grow bs d) vb env):=yq (aR.of_own (by rw [HEL.out];exact HO2.out) (by rw [HEL.out];omega));have hI:=HIF.out (W1.grow bs d) vb (HRK.out.grows HG2.out) HBD.out;generalize hr:aQ env ek=r at *;obtain⟨dk,ck⟩:=r;unfold gq at hI;dsimp only at hI HST HTN;have HI:=yq hI;clear hI hjk;by_cases hc:ck=0
     ·subst hc;have HNX:=yq (HTN.out HST.out)
      go_wp2_with (first
       |(go_at_call 25;refine HI.out.mono ?_;rintro e' w' ⟨rfl,bs2,d2,rfl⟩)
       |(at_builtin;refine wpList_append_own _ rfl _ _ 52 rfl w.heap.size 106 i0 _ 2 24 underlying52 hi hz0 hz1 hz2 rfl zf _ _ _ rfl (lU HO.out growsA) ⟨_,0,none⟩ 1 1 [.string s,.int .i64 dk] rfl rfl ?c1 ?c2 ?c3 ?c4 ?c5 ?_))
      case c1=>exact news_cells _ [.string s,.int .i64 dk] _ _ zd
      case c2=>intro u hu;simp at hu;rcases hu with rfl|rfl<;>rfl
      case c3=>unfold maxLen;omega
      case c4=>omega
      case c5=>simp;omega
      intro v' w1 hown' hgrow _;have HB4:=yq ((show Below w.heap.size w _ from by have:=HB.out;(exact af)).grown hgrow zg (fun k hk=>(HO.out.lt k hk).1));have HO4:=yq hown';clear hown' hgrow
      go_wp2_with fail
      go_roundw
      case rel=>exact⟨j+1,_,_,rfl,HKL.out,by go_num,HB4.out,by rw [vo];exact HO4.out,HNX⟩
      case measure=>simp [intOf];have:=HKL.out;omega
     ·have hc2:(ck !=0)=true:=by simpa using hc
      have HC:Hid (gD ls []=([],ck)):=yq yO;clear hc
      go_wp2_with (go_at_call 25;refine HI.out.mono ?_;rintro e' w' ⟨rfl,bs2,d2,rfl⟩)
      go_returns
      exact rR.bad HC.out (gqq HG.out growsA)
  ·obtain rfl:k=ls.length:=by omega
   have HD:=yq HA.out.done;have HBD:Hid (aR W1 vb env):=yq (aR.of_own (by rw [HA.out.len];exact HO.out) (by rw [HA.out.len];omega));clear hB hown
   go_wp2_with fail
   go_returns
   exact⟨_,by rw [HD.out];rfl,HG.out,by rw [HD.out];exact HBD.out,OT HO.out⟩
theorem Kh(ls:List (ByteArray × Ex))(v:Value)(w:World)(h:LetsAt w v ls)(hs:sJ ls):Calls prog 19 #[v] w (kV (dn ls) w):=(Bi ls v w h hs).mono fun _ _ ⟨x,h1,h2,h3,_⟩=>⟨x,h1,h2,h3⟩
theorem nX(env:List (ByteArray × Int))(e:Ex)(v ve:Value)(want:Int)(w:World)(h:ax (fun _=>True) w e v)(hbig:e.size<=1000000)(hv:aR w ve env) :
 Calls prog 73 #[exV e v,ve,.int .i64 want] w fun r w'=>r= .returned (.int .i64 (dC env e want))/\w.Grows w':=by
 have HR:=yq h;have HV:=yq hv;obtain⟨a,cap,rfl⟩:=h.form0;obtain⟨-,ba,bc,rfl,-⟩:=hv;have HI:=yq (fun w' (hg:w.Grows w')=>vG (fun _=>True) env e (.slice a e.args.length cap) (.slice ba env.length bc) w' (HR.out.grows hg) zb (HV.out.grows hg));unfold gq exV at HI;have HN:Hid (dC env e want=if(aQ env e).2=0/\(aQ env e).1≠want then 6 else(aQ env e).2):=yq rfl;generalize aQ env e=r at *;obtain⟨d,c⟩:=r;dsimp only at HI HN;clear h;by_cases hc:c=0
 ·subst hc;by_cases hd:d=want
  ·subst hd;have HF:Hid (dC env e d=0):=yq (by rw [HN.out];simp)
   go_enter func73,ntmps73
   go_wp2_with (go_at_call 25;refine gv (HI.out _ growsA) ?_;intro bs d')
   go_returns
   exact⟨by rw [HF.out]<;>rfl,growsA⟩
  ·have hd2:(d !=want)=true:=by simpa using hd
   have HF:Hid (dC env e want=6):=yq (by rw [HN.out,if_pos ⟨rfl,hd⟩]);clear hd
   go_enter func73,ntmps73
   go_wp2_with (go_at_call 25;refine gv (HI.out _ growsA) ?_;intro bs d')
   go_returns
   exact⟨by rw [HF.out]<;>rfl,growsA⟩
 ·have hc2:(c==0)=false:=by simpa using hc
  have HF:Hid (dC env e want=c):=yq (by rw [HN.out,if_neg (fun h=>hc h.1)]);clear hc
  go_enter func73,ntmps73
  go_wp2_with (go_at_call 25;refine gv (HI.out _ growsA) ?_;intro bs d')
  go_returns
  exact⟨by rw [HF.out]<;>rfl,growsA⟩
structure pY(V:dK):Prop where
 le:sJ V.le
 gr:∀t∈V.gr,t.2.1.size<=1000000/\t.2.2.size<=1000000
 re:∀t∈V.re,t.2.size<=1000000
def mP(w:World)(b:Nat)(c0 c1 c2 v3 v4 v5 v6 v7:Value):Prop:=w.heap[b]? =some (.cells #[c0,c1,c2,v3,v4,v5,v6,v7] 82 (0,0))
section
variable {w w' : World} {b : Nat} {c0 c1 c2 v3 v4 v5 v6 v7 : Value}
theorem mP.grows(h:mP w b c0 c1 c2 v3 v4 v5 v6 v7)(hg:w.Grows w'):mP w' b c0 c1 c2 v3 v4 v5 v6 v7:=(hg.below.block b (Array.getElem?_eq_some_iff.1 h).1).trans h
theorem mP.lt(h:mP w b c0 c1 c2 v3 v4 v5 v6 v7):b<w.heap.size:=(Array.getElem?_eq_some_iff.1 h).1
theorem mP.c3(h:mP w b c0 c1 c2 v3 v4 v5 v6 v7):w.cell? ⟨b,3,none⟩=some v3:=by rw [cell_of_row w b _ _ _ _ h];rfl
theorem mP.c4(h:mP w b c0 c1 c2 v3 v4 v5 v6 v7):w.cell? ⟨b,4,none⟩=some v4:=by rw [cell_of_row w b _ _ _ _ h];rfl
theorem mP.c5(h:mP w b c0 c1 c2 v3 v4 v5 v6 v7):w.cell? ⟨b,5,none⟩=some v5:=by rw [cell_of_row w b _ _ _ _ h];rfl
theorem mP.c6(h:mP w b c0 c1 c2 v3 v4 v5 v6 v7):w.cell? ⟨b,6,none⟩=some v6:=by rw [cell_of_row w b _ _ _ _ h];rfl
theorem mP.c7(h:mP w b c0 c1 c2 v3 v4 v5 v6 v7):w.cell? ⟨b,7,none⟩=some v7:=by rw [cell_of_row w b _ _ _ _ h];rfl
end
theorem jr.open_{c:Nat}{w:World}{v:Value}{l:List Int}(h:jr c w v l){i:Nat}(hi:i<l.length):∃b off cap,v= .slice (some ⟨b,off,none⟩) l.length cap/\b<w.heap.size/\∀i,i<l.length->w.cell? ⟨b,off+i*c,none⟩=some (.int .i64 (l.getD i 0)):=by
 obtain⟨-,a,cap,rfl,h0|⟨b,off,rfl,hb,hx⟩⟩:=h
 ·omega
 ·exact⟨b,off,cap,rfl,hb,hx⟩
theorem gL.nums{w:World}{v:Value}{l:List (Int × Ex × Ex)}(h:gL w v l):jr 13 w v (l.map Prod.fst):=by
 obtain⟨h0,a,cap,hv,h1⟩:=h;refine⟨by simpa using h0,a,cap,by simpa using hv,h1.imp zd ?_⟩;rintro⟨b,off,ha,hb,hc⟩;refine⟨b,off,ha,hb,fun i hi=>?_⟩;rw [length_map]at hi;obtain⟨u,u',hu⟩:=hc i hi;rw [hu.nm];simp [getD_eq_getElem?_getD,getElem?_map,getElem?_eq_getElem hi]
theorem oJ.nums{w:World}{v:Value}{l:List (Int × Ex)}(h:oJ w v l):jr 7 w v (l.map Prod.fst):=by
 obtain⟨h0,a,cap,hv,h1⟩:=h;refine⟨by simpa using h0,a,cap,by simpa using hv,h1.imp zd ?_⟩;rintro⟨b,off,ha,hb,hc⟩;refine⟨b,off,ha,hb,fun i hi=>?_⟩;rw [length_map]at hi;obtain⟨u,hu⟩:=hc i hi;rw [hu.nm];simp [getD_eq_getElem?_getD,getElem?_map,getElem?_eq_getElem hi]
theorem mg{β:Type}[Inhabited (Int × β)]{l:List (Int × β)}{K:List Int}(h:l.map Prod.fst=K){k:Nat}(hk:k<l.length):K.getD k 0=(l.getD k default).1:=by
 subst h;simp [getD_eq_getElem?_getD,getElem?_map,getElem?_eq_getElem hk]
theorem AL{env:List (ByteArray × Int)}{l:List (Int × Ex × Ex)}{K:List Int}{k:Nat}(hK:l.map Prod.fst=K)(hk:k<l.length)(h:iH env (K.take k) (l.getD k default)≠0):grG env (K.take k) (l.drop k)=iH env (K.take k) (l.getD k default):=by
 subst hK;rw [<-map_take]at h ⊢;exact RH hk h
theorem Cz{env:List (ByteArray × Int)}{l:List (Int × Ex × Ex)}{K:List Int}{k:Nat}(hK:l.map Prod.fst=K)(hk:k<l.length)(h:iH env (K.take k) (l.getD k default)=0):grG env (K.take k) (l.drop k)=grG env (K.take (k+1)) (l.drop (k+1)):=by
 subst hK;rw [<-map_take]at h ⊢;rw [<-map_take];exact Py hk h
theorem Af{env:List (ByteArray × Int)}{l:List (Int × Ex)}{K:List Int}{k:Nat}(hK:l.map Prod.fst=K)(hk:k<l.length)(h:iF env (K.take k) (l.getD k default)≠0):reG env (K.take k) (l.drop k)=iF env (K.take k) (l.getD k default):=by
 subst hK;rw [<-map_take]at h ⊢;exact Q6 hk h
theorem BG{env:List (ByteArray × Int)}{l:List (Int × Ex)}{K:List Int}{k:Nat}(hK:l.map Prod.fst=K)(hk:k<l.length)(h:iF env (K.take k) (l.getD k default)=0):reG env (K.take k) (l.drop k)=reG env (K.take (k+1)) (l.drop (k+1)):=by
 subst hK;rw [<-map_take]at h ⊢;rw [<-map_take];exact OO hk h
theorem Gz{env:List (ByteArray × Int)}{pre:List Int}{g:Int × Ex × Ex}(h:pre.contains g.1=true):iH env pre g=10:=by unfold iH;rw [if_pos h]
theorem Gy{env:List (ByteArray × Int)}{pre:List Int}{g:Int × Ex × Ex}(h:pre.contains g.1=false):iH env pre g=if dC env g.2.1 1≠0 then dC env g.2.1 1 else dC env g.2.2 4:=by unfold iH;rw [if_neg (by rw [h];simp)]
theorem FR{env:List (ByteArray × Int)}{pre:List Int}{g:Int × Ex}(h:pre.contains g.1=true):iF env pre g=10:=by unfold iF;rw [if_pos h]
theorem FQ{env:List (ByteArray × Int)}{pre:List Int}{g:Int × Ex}(h:pre.contains g.1=false):iF env pre g=dC env g.2 2:=by unfold iF;rw [if_neg (by rw [h];simp)]
theorem Version5_any(V:dK)(x0 x1 x2:Int)(v3 v4 v5 v6 v7:Value)(w:World)(h:wh w V v3 v4 v5 v6 v7)(hs:pY V) :
 Calls prog 28 #[.agg #[.int .i64 x0,.int .i64 x1,.int .i64 x2,v3,v4,v5,v6,v7]] w fun e w'=>e= .returned (.int .i64 (bM V))/\w.Grows w':=by
 have HV:=yq h;have HS:=yq hs;have HLT:=yq (fun w' (hg:w.Grows w')=>Kh V.le v5 w' (h.le.grows hg) hs.le);unfold kV at HLT;have HA:=Kv (V:=V);have HB_:=Ku (V:=V);have HC_:=Kt (V:=V);have HD_:=Kr (V:=V);have HE_:=Kq (V:=V);have H3:=h.cr;have H4:=h.se;have H6:=h.gr.nums;have H7:=h.re.nums;obtain⟨K3,hK3⟩:∃K,V.cr.map Prod.fst=K:=⟨_,rfl⟩;obtain⟨K4,hK4⟩:∃K,V.se.map Prod.fst=K:=⟨_,rfl⟩;obtain⟨K6,hK6⟩:∃K,V.gr.map Prod.fst=K:=⟨_,rfl⟩;obtain⟨K7,hK7⟩:∃K,V.re.map Prod.fst=K:=⟨_,rfl⟩;rw [hK3]at H3 HB_ HC_ HD_ HE_;rw [hK4]at H4 HC_ HD_ HE_;rw [hK6]at H6;rw [hK7]at H7;have hl6:K6.length=V.gr.length:=by rw [<-hK6,length_map]
 have hl7:K7.length=V.re.length:=by rw [<-hK7,length_map]
 replace hK6:=yq hK6;replace hK7:=yq hK7;have HL6:=yq hl6;have HL7:=yq hl7;obtain⟨h3l,a3,k3,rfl,-⟩:=id H3;obtain⟨h4l,a4,k4,rfl,-⟩:=id H4;obtain⟨h5l,a5,k5,rfl,-⟩:=h.le;obtain⟨h6l,a6,k6,rfl,-⟩:=id H6;obtain⟨h7l,a7,k7,rfl,-⟩:=id H7;replace H3:=yq H3;replace H4:=yq H4;replace H6:=yq H6;replace H7:=yq H7;generalize dn V.le=L at *;obtain⟨env,c⟩:=L;dsimp only at HLT HA HB_ HC_ HD_ HE_;replace HA:=yq HA;replace HB_:=yq HB_;replace HC_:=yq HC_;replace HD_:=yq HD_;replace HE_:=yq HE_;clear h hs hK3 hK4 hl6 hl7;by_cases hc:c=0
 case neg=>
  have hc2:(c !=0)=true:=by simpa using hc
  have HF:=yq (HA.out hc);clear hc
  go_enter func28,ntmps28
  go_wp2_with (go_at_call 19;refine(HLT.out _ growsA).mono ?_;rintro e' w' ⟨x,rfl,⟨bs,d,rfl⟩,hbd⟩)
  go_returns
  exact⟨by rw [HF.out]<;>rfl,growsA⟩
 subst hc
 go_enter func28,ntmps28
 go_wp2_with (go_at_call 19;refine(HLT.out _ growsA).mono ?_;rintro e' w' ⟨x,rfl,⟨bs,d,rfl⟩,hbd⟩;have HBD:=yq hbd;obtain⟨-,xa,xc,rfl,-⟩:=hbd)
 refine wp_abs (fun W hW=>?_);have HG:Hid (w.Grows W):=yq (by rw [<-hW];exact growsA);have HBX:Hid (mP W w.heap.size (.int .i64 x0) (.int .i64 x1) (.int .i64 x2) (.slice a3 K3.length k3) (.slice a4 K4.length k4) (.slice a5 V.le.length k5) (.slice a6 K6.length k6) (.slice a7 K7.length k7)):=yq yN;have HEV:Hid (aR W (.slice xa env.length xc) env):=yq (by rw [<-hW];exact HBD.out);clear hW HBD HLT HA
 go_loopw [5] (fun v4 wr=>∃i:Nat,i<=K3.length/\v4= .int .i64 i/\Hid (jN [] K3=jN (K3.take i) (K3.drop i))/\W.Grows wr) (fun v4 _=>K3.length-(intOf v4).toNat)
 case atStart=>exact⟨0,by omega,rfl,yq rfl,.refl _⟩
 case round=>
  obtain⟨i,hi,rfl,HAT,hgr⟩:=hrel;obtain⟨W1,rfl⟩:∃W1,W1=wr:=⟨_,rfl⟩;have HG1:=yq hgr;have HBX1:=yq (HBX.out.grows hgr);have q3:=HBX1.out.lt;have q0:=HBX1.out.c3;clear hgr;by_cases hlt:i<K3.length
  ·have HKL:=yq hlt;have d1:(i:Int)<(K3.length:Int):=by omega
   clear hlt
   go_wp2_with fail
   go_loopw [6] (fun vj wr=>∃j:Nat,j<=i/\vj= .int .i64 j/\Hid (∀t,t<j->decide (K3.getD t 0=K3.getD i 0)=false)/\W1.Grows wr) (fun vj _=>i-(intOf vj).toNat)
   case atStart=>exact⟨0,by omega,rfl,yq (fun t ht=>by omega),.refl _⟩
   case round=>
    obtain⟨j,hj,rfl,HNO,hgr⟩:=hrel;have HG2:=yq (gqq HG1.out hgr);have HG3:=yq hgr;have HBX2:=yq (HBX.out.grows HG2.out);by_cases hji:j<i
    ·obtain⟨b,off,kcap,hkv,hkb,hkx⟩:=(H3.out.grows (gqq HG.out HG2.out)).open_ HKL.out;have q0:=HBX2.out.c3;rw [hkv]at q0;have q1:=hkx j zG;have q2:=hkx i HKL.out;have q3:=HBX2.out.lt;have e1:(j:Int)<(i:Int):=by omega
     have e2:(j:Int)<(K3.length:Int):=by have:=HKL.out;omega
     have e3:(i:Int)<(K3.length:Int):=by have:=HKL.out;omega
     clear hkv hkx hgr;by_cases he:K3.getD j 0=K3.getD i 0
     ·have HHAS:Hid ((K3.take i).contains (K3.getD i 0)=true):=yq yw;rw [he]at q1;have HF:Hid (bM V=10):=yq (HB_.out trivial (by rw [HAT.out,Fg HKL.out,HHAS.out,Bool.true_or]));generalize K3.getD i 0=z at *;clear he HNO
      go_wp2_with fail
      go_region
      go_wp2_with fail
      go_returns
      exact⟨by rw [HF.out]<;>rfl,gqq HG.out (gqq HG2.out growsA)⟩
     ·have he2:(K3.getD j 0==K3.getD i 0)=false:=by simpa using he
      have HE:Hid (decide (K3.getD j 0=K3.getD i 0)=false):=yq (decide_eq_false he);obtain⟨zj,hzj⟩:∃z,K3.getD j 0=z:=⟨_,rfl⟩;obtain⟨zi,hzi⟩:∃z,K3.getD i 0=z:=⟨_,rfl⟩;rw [hzj]at q1 he he2;rw [hzi]at q2 he he2;clear hzj hzi
      go_wp2_with fail
      go_region
      go_wp2_with fail
      go_roundw
      case rel=>exact⟨j+1,by omega,by go_num,yq (fun t ht=>by
       by_cases et:t=j
       ·subst et;exact HE.out
       ·exact HNO.out t zb),gqq HG3.out growsA⟩
      case measure=>simp [intOf];omega
    ·obtain rfl:j=i:=by omega
     have HHAS:Hid ((K3.take j).contains (K3.getD j 0)=false):=yq yx;clear HNO hji hj;have HNX:Hid (jN [] K3=jN (K3.take (j+1)) (K3.drop (j+1))):=yq (by rw [HAT.out,Fg HKL.out,HHAS.out,Bool.false_or])
     go_wp2_with fail
     go_roundw
     case rel=>exact⟨j+1,HKL.out,by go_num,HNX,gqq HG2.out growsA⟩
     case measure=>simp [intOf];have:=HKL.out;omega
  obtain rfl:i=K3.length:=by omega
  have H3D:Hid (jN [] K3=false):=yq (HAT.out.trans GH);clear HAT
  go_wp2_with fail
  go_loopw [7] (fun v6 wr=>∃k t:Nat,k=t+1/\(k<=K4.length\/t=0)/\v6= .int .i64 k/\Hid (∀j,j+1<k->K4.getD j 0<K4.getD (j+1) 0)/\W.Grows wr) (fun v6 _=>K4.length-(intOf v6).toNat)
  case atStart=>exact⟨1,0,rfl,.inr rfl,rfl,yq (fun j hj=>by omega),HG1.out⟩
  case round=>
   obtain⟨k,t,hkt,hk,rfl,HAS,hgr⟩:=hrel;obtain⟨W1,rfl⟩:∃W1,W1=wr:=⟨_,rfl⟩;have HG1:=yq hgr;have HBX1:=yq (HBX.out.grows hgr);have q3:=HBX1.out.lt;have q0:=HBX1.out.c4;clear hgr;by_cases hlt:k<K4.length
   ·have HKL:=yq hlt;obtain⟨b,off,kcap,hkv,hkb,hkx⟩:=(H4.out.grows (gqq HG.out HG1.out)).open_ hlt;rw [hkv]at q0;have q1:=hkx k hlt;have q2:=hkx t zb;have d1:(k:Int)<(K4.length:Int):=by omega
    have d2:(k:Int)-1=(t:Int):=by omega
    have d3:(t:Int)<(K4.length:Int):=by omega
    have d4:(0:Int)<=(t:Int):=by omega
    have HT:=yq hkt;clear hkv hkx hkt hk hlt;by_cases hle:K4.getD k 0<=K4.getD t 0
    ·have HF:Hid (bM V=1):=yq (HC_.out trivial H3D.out (Ni (j:=t) (by rw [<-HT.out];exact HKL.out) (by rw [<-HT.out];exact hle)));generalize K4.getD k 0=y at *;generalize K4.getD t 0=z at *
     go_wp2_with fail
     go_region
     go_wp2_with fail
     go_returns
     exact⟨by rw [HF.out]<;>rfl,gqq HG.out (gqq HG1.out growsA)⟩
    ·have HLE:=yq hle;obtain⟨zk,hzk⟩:∃z,K4.getD k 0=z:=⟨_,rfl⟩;obtain⟨zt,hzt⟩:∃z,K4.getD t 0=z:=⟨_,rfl⟩;rw [hzk]at q1 hle;rw [hzt]at q2 hle;have hle2:zt<zk:=by omega
     clear hzk hzt
     go_wp2_with fail
     go_region
     go_wp2_with fail
     go_roundw
     case rel=>exact⟨k+1,k,rfl,.inl HKL.out,by go_num,yq (fun j hj=>by
      by_cases ej:j+1=k
      ·have:=HLE.out;have e:j=t:=by have:=HT.out;omega
       rw [ej,e];omega
      ·exact HAS.out j zb),gqq HG1.out growsA⟩
     case measure=>simp [intOf];have:=HKL.out;omega
   have hK:su K4=true:=(sI K4).2 fun j hj=>HAS.out j zb;have H4D:=yq hK;have d1:¬(k:Int)<(K4.length:Int):=by omega
   have HDD:Hid (∀c,c≠0->grG env [] V.gr=c->bM V=c):=yq (fun c hc h=>by rw [<-h];exact HD_.out trivial H3D.out H4D.out (by rw [h];exact hc));have HEE:Hid (grG env [] V.gr=0->bM V=reG env [] V.re):=yq (fun h=>HE_.out trivial H3D.out H4D.out h);clear HAS hK hkt hk hlt
   go_wp2_with fail
   go_loopw [8] (fun v7 wr=>∃i:Nat,i<=K6.length/\v7= .int .i64 i/\Hid (grG env [] V.gr=grG env (K6.take i) (V.gr.drop i))/\W.Grows wr) (fun v7 _=>K6.length-(intOf v7).toNat)
   case atStart=>exact⟨0,by omega,rfl,yq rfl,HG1.out⟩
   case round=>
    obtain⟨i,hi,rfl,HAT,hgr⟩:=hrel;obtain⟨W1,rfl⟩:∃W1,W1=wr:=⟨_,rfl⟩;have HG1:=yq hgr;have HBX1:=yq (HBX.out.grows hgr);have q3:=HBX1.out.lt;have q0:=HBX1.out.c6;clear hgr;by_cases hlk:i<K6.length
    ·have HKL:=yq hlk;have hlt:i<V.gr.length:=by rw [<-HL6.out];exact hlk
     have d1:(i:Int)<(K6.length:Int):=by omega
     clear hlk
     go_wp2_with fail
     go_loopw [9] (fun vj wr=>∃j:Nat,j<=i/\vj= .int .i64 j/\Hid (∀t,t<j->decide (K6.getD t 0=K6.getD i 0)=false)/\W1.Grows wr) (fun vj _=>i-(intOf vj).toNat)
     case atStart=>exact⟨0,by omega,rfl,yq (fun t ht=>by omega),.refl _⟩
     case round=>
      obtain⟨j,hj,rfl,HNO,hgr⟩:=hrel;have HG2:=yq (gqq HG1.out hgr);have HG3:=yq hgr;have HBX2:=yq (HBX.out.grows HG2.out);by_cases hji:j<i
      ·obtain⟨b,off,kcap,hkv,hkb,hkx⟩:=(H6.out.grows (gqq HG.out HG2.out)).open_ HKL.out;have q0:=HBX2.out.c6;rw [hkv]at q0;have q1:=hkx j zG;have q2:=hkx i HKL.out;have q3:=HBX2.out.lt;have e1:(j:Int)<(i:Int):=by omega
       have e2:(j:Int)<(K6.length:Int):=by have:=HKL.out;omega
       have e3:(i:Int)<(K6.length:Int):=by have:=HKL.out;omega
       clear hkv hkx hgr;by_cases he:K6.getD j 0=K6.getD i 0
       ·have HHAS:Hid ((K6.take i).contains (K6.getD i 0)=true):=yq yw;rw [he]at q1
        have HF:Hid (bM V=10):=yq (by
         have hs:=Gz (env:=env) (pre:=K6.take i) (g:=V.gr.getD i default) (by rw [<-mg hK6.out hlt];exact HHAS.out)
         exact HDD.out 10 zf (HAT.out.trans ((AL (env:=env) hK6.out hlt yt).trans hs)))
        generalize K6.getD i 0=z at *;clear he HNO
        go_wp2_with fail
        go_region
        go_wp2_with fail
        go_returns
        exact⟨by rw [HF.out]<;>rfl,gqq HG.out (gqq HG2.out growsA)⟩
       ·have he2:(K6.getD j 0==K6.getD i 0)=false:=by simpa using he
        have HE:Hid (decide (K6.getD j 0=K6.getD i 0)=false):=yq (decide_eq_false he);obtain⟨zj,hzj⟩:∃z,K6.getD j 0=z:=⟨_,rfl⟩;obtain⟨zi,hzi⟩:∃z,K6.getD i 0=z:=⟨_,rfl⟩;rw [hzj]at q1 he he2;rw [hzi]at q2 he he2;clear hzj hzi
        go_wp2_with fail
        go_region
        go_wp2_with fail
        go_roundw
        case rel=>exact⟨j+1,by omega,by go_num,yq (fun t ht=>by
         by_cases et:t=j
         ·subst et;exact HE.out
         ·exact HNO.out t zb),gqq HG3.out growsA⟩
        case measure=>simp [intOf];omega
      ·obtain rfl:j=i:=by omega
       have HHAS:Hid ((K6.take j).contains (K6.getD j 0)=false):=yq yx;clear HNO hji hj;obtain⟨-,a',c',hvv,hx⟩:=HV.out.gr.grows (gqq HG.out HG2.out);simp only [Value.slice.injEq]at hvv;obtain⟨rfl,-,rfl⟩:=hvv;rcases hx with h0|⟨b,off,rfl,hbw,hx⟩
       ·have:=hlt;omega
       obtain⟨u,u',hg⟩:=hx j hlt;have hsm:=HS.out.gr _ (getD_mem hlt);have HGN:=yq (fun h=>HAT.out.trans (Cz (env:=env) hK6.out hlt h));have HGB:=yq (fun h=>HAT.out.trans (AL (env:=env) hK6.out hlt h));have HST:=yq (Gy (env:=env) (pre:=K6.take j) (g:=V.gr.getD j default) (by rw [<-mg hK6.out hlt];exact HHAS.out));have p0:=HBX2.out.c6;have p1:=HBX2.out.lt;have e3:(j:Int)<(K6.length:Int):=by have:=HKL.out;omega
       generalize V.gr.getD j default=g at *;obtain⟨gn,ge,gp⟩:=g;obtain⟨-,m0,m1,m2,m3,m4,m5,n0,n1,n2,n3,n4,n5,r1,r2⟩:=hg;dsimp only at m0 m1 m2 m3 m4 m5 n0 n1 n2 n3 n4 n5 r1 r2 hsm HST HGN HGB;obtain⟨ua,uc,rfl⟩:=r1.form0;obtain⟨va,vc,rfl⟩:=r2.form0;have HR1:=yq r1;have HR2:=yq r2;have HEW:=yq (HEV.out.grows HG2.out);have HN1:=yq (fun w' (hg:wr.Grows w')=>nX env ge _ _ 1 w' (HR1.out.grows hg) hsm.1 (HEW.out.grows hg));have HN2:=yq (fun w' (hg:wr.Grows w')=>nX env gp _ _ 4 w' (HR2.out.grows hg) hsm.2 (HEW.out.grows hg));unfold exV at HN1 HN2;clear r1 r2 hx hlt hsm;generalize dC env ge 1=c1 at *;generalize dC env gp 4=c2 at *;by_cases h1:c1=0
       case neg=>
        have hb:(c1 !=0)=true:=by simpa using h1
        have HF:Hid (bM V=c1):=yq (HDD.out c1 h1 ((HGB.out (by rw [HST.out,if_pos h1];exact h1)).trans (by rw [HST.out,if_pos h1])));clear h1
        go_wp2_with (go_at_call 73;first|((with_reducible refine gv (HN1.out _ growsA) ?_);intro bs1 d1)|((with_reducible refine gv (HN2.out _ growsA) ?_);intro bs2 d2))
        go_returns
        exact⟨by rw [HF.out]<;>rfl,gqq HG.out (gqq HG2.out growsA)⟩
       subst h1;by_cases h2:c2=0
       case neg=>
        have hb:(c2 !=0)=true:=by simpa using h2
        have HF:Hid (bM V=c2):=yq (HDD.out c2 h2 ((HGB.out (by rw [HST.out,if_neg zd];exact h2)).trans yj));clear h2
        go_wp2_with (go_at_call 73;first|((with_reducible refine gv (HN1.out _ growsA) ?_);intro bs1 d1)|((with_reducible refine gv (HN2.out _ growsA) ?_);intro bs2 d2))
        go_returns
        exact⟨by rw [HF.out]<;>rfl,gqq HG.out (gqq HG2.out growsA)⟩
       subst h2;have HNX:=yq (HGN.out yj)
       go_wp2_with (go_at_call 73;first|((with_reducible refine gv (HN1.out _ growsA) ?_);intro bs1 d1)|((with_reducible refine gv (HN2.out _ growsA) ?_);intro bs2 d2))
       go_roundw
       case rel=>exact⟨j+1,HKL.out,by go_num,HNX,gqq HG2.out growsA⟩
       case measure=>simp [intOf];have:=HKL.out;omega
    obtain rfl:i=K6.length:=by omega
    have HEF:Hid (bM V=reG env [] V.re):=yq (HEE.out (HAT.out.trans (by rw [HL6.out,drop_length,grG])));clear HAT HDD HEE;have HEE:=HEF;clear HEF
    go_wp2_with fail
    go_loopw [12] (fun v11 wr=>∃i:Nat,i<=K7.length/\v11= .int .i64 i/\Hid (reG env [] V.re=reG env (K7.take i) (V.re.drop i))/\W.Grows wr) (fun v11 _=>K7.length-(intOf v11).toNat)
    case atStart=>exact⟨0,by omega,rfl,yq rfl,HG1.out⟩
    case round=>
     obtain⟨i,hi,rfl,HAT,hgr⟩:=hrel;obtain⟨W1,rfl⟩:∃W1,W1=wr:=⟨_,rfl⟩;have HG1:=yq hgr;have HBX1:=yq (HBX.out.grows hgr);have q3:=HBX1.out.lt;have q0:=HBX1.out.c7;clear hgr;by_cases hlk:i<K7.length
     ·have HKL:=yq hlk;have hlt:i<V.re.length:=by rw [<-HL7.out];exact hlk
      have d1:(i:Int)<(K7.length:Int):=by omega
      clear hlk
      go_wp2_with fail
      go_loopw [13] (fun vj wr=>∃j:Nat,j<=i/\vj= .int .i64 j/\Hid (∀t,t<j->decide (K7.getD t 0=K7.getD i 0)=false)/\W1.Grows wr) (fun vj _=>i-(intOf vj).toNat)
      case atStart=>exact⟨0,by omega,rfl,yq (fun t ht=>by omega),.refl _⟩
      case round=>
       obtain⟨j,hj,rfl,HNO,hgr⟩:=hrel;have HG2:=yq (gqq HG1.out hgr);have HG3:=yq hgr;have HBX2:=yq (HBX.out.grows HG2.out);by_cases hji:j<i
       ·obtain⟨b,off,kcap,hkv,hkb,hkx⟩:=(H7.out.grows (gqq HG.out HG2.out)).open_ HKL.out;have q0:=HBX2.out.c7;rw [hkv]at q0;have q1:=hkx j zG;have q2:=hkx i HKL.out;have q3:=HBX2.out.lt;have e1:(j:Int)<(i:Int):=by omega
        have e2:(j:Int)<(K7.length:Int):=by have:=HKL.out;omega
        have e3:(i:Int)<(K7.length:Int):=by have:=HKL.out;omega
        clear hkv hkx hgr;by_cases he:K7.getD j 0=K7.getD i 0
        ·have HHAS:Hid ((K7.take i).contains (K7.getD i 0)=true):=yq yw;rw [he]at q1
         have HF:Hid (bM V=10):=yq (by
          have hs:=FR (env:=env) (pre:=K7.take i) (g:=V.re.getD i default) (by rw [<-mg hK7.out hlt];exact HHAS.out)
          exact HEE.out.trans (HAT.out.trans ((Af (env:=env) hK7.out hlt yt).trans hs)))
         generalize K7.getD i 0=z at *;clear he HNO
         go_wp2_with fail
         go_region
         go_wp2_with fail
         go_returns
         exact⟨by rw [HF.out]<;>rfl,gqq HG.out (gqq HG2.out growsA)⟩
        ·have he2:(K7.getD j 0==K7.getD i 0)=false:=by simpa using he
         have HE:Hid (decide (K7.getD j 0=K7.getD i 0)=false):=yq (decide_eq_false he);obtain⟨zj,hzj⟩:∃z,K7.getD j 0=z:=⟨_,rfl⟩;obtain⟨zi,hzi⟩:∃z,K7.getD i 0=z:=⟨_,rfl⟩;rw [hzj]at q1 he he2;rw [hzi]at q2 he he2;clear hzj hzi
         go_wp2_with fail
         go_region
         go_wp2_with fail
         go_roundw
         case rel=>exact⟨j+1,by omega,by go_num,yq (fun t ht=>by
          by_cases et:t=j
          ·subst et;exact HE.out
          ·exact HNO.out t zb),gqq HG3.out growsA⟩
         case measure=>simp [intOf];omega
       ·obtain rfl:j=i:=by omega
        have HHAS:Hid ((K7.take j).contains (K7.getD j 0)=false):=yq yx;clear HNO hji hj;obtain⟨-,a',c',hvv,hx⟩:=HV.out.re.grows (gqq HG.out HG2.out);simp only [Value.slice.injEq]at hvv;obtain⟨rfl,-,rfl⟩:=hvv;rcases hx with h0|⟨b,off,rfl,hbw,hx⟩
        ·have:=hlt;omega
        obtain⟨u,hg⟩:=hx j hlt;have hsm:=HS.out.re _ (getD_mem hlt);have HGN:=yq (fun h=>HAT.out.trans (BG (env:=env) hK7.out hlt h));have HGB:=yq (fun h=>HAT.out.trans (Af (env:=env) hK7.out hlt h));have HST:=yq (FQ (env:=env) (pre:=K7.take j) (g:=V.re.getD j default) (by rw [<-mg hK7.out hlt];exact HHAS.out));have p0:=HBX2.out.c7;have p1:=HBX2.out.lt;have e3:(j:Int)<(K7.length:Int):=by have:=HKL.out;omega
        generalize V.re.getD j default=g at *;obtain⟨gn,ge⟩:=g;obtain⟨-,m0,m1,m2,m3,m4,m5,r1⟩:=hg;dsimp only at m0 m1 m2 m3 m4 m5 r1 hsm HST HGN HGB;obtain⟨ua,uc,rfl⟩:=r1.form0;have HR1:=yq r1;have HEW:=yq (HEV.out.grows HG2.out);have HN1:=yq (fun w' (hg:wr.Grows w')=>nX env ge _ _ 2 w' (HR1.out.grows hg) hsm (HEW.out.grows hg));have HN2:=HN1;unfold exV at HN1;clear r1 hx hlt hsm;generalize dC env ge 2=c1 at *;by_cases h1:c1=0
        case neg=>
         have hb:(c1 !=0)=true:=by simpa using h1
         have HF:Hid (bM V=c1):=yq (HEE.out.trans ((HGB.out (by rw [HST.out];exact h1)).trans HST.out));clear h1
         go_wp2_with (go_at_call 73;first|((with_reducible refine gv (HN1.out _ growsA) ?_);intro bs1 d1)|((with_reducible refine gv (HN2.out _ growsA) ?_);intro bs2 d2))
         go_returns
         exact⟨by rw [HF.out]<;>rfl,gqq HG.out (gqq HG2.out growsA)⟩
        subst h1;have HNX:=yq (HGN.out HST.out)
        go_wp2_with (go_at_call 73;first|((with_reducible refine gv (HN1.out _ growsA) ?_);intro bs1 d1)|((with_reducible refine gv (HN2.out _ growsA) ?_);intro bs2 d2))
        go_roundw
        case rel=>exact⟨j+1,HKL.out,by go_num,HNX,gqq HG2.out growsA⟩
        case measure=>simp [intOf];have:=HKL.out;omega
     obtain rfl:i=K7.length:=by omega
     have HF:Hid (bM V=0):=yq (HEE.out.trans (HAT.out.trans (by rw [HL7.out,drop_length,reG])));clear HAT HEE
     go_wp2_with fail
     go_returns
     exact⟨by rw [HF.out]<;>rfl,gqq HG.out (gqq HG1.out growsA)⟩
theorem Ej(s:ByteArray):bB (.mk 2 0 0 0 s [])=dI s:=by
 unfold bB;rw [dh];simp [Ex.depth,Ex.depths,Ex.size,Ex.sizes,Ex.args,Ex.op,Ex.num,Ex.den,Ex.dim,Ex.name,aJ]
theorem DY(s:ByteArray)(hs:s.size<=140737488355328)(w:World)(ht:Tab w):Calls prog 100 #[.string s] w fun e w'=>e= .returned (.bool (dI s))/\w.Grows w':=by
 have HV:=yq (fun w (ht:Tab w)=>mG (fun _=>True) (.mk 2 0 0 0 s []) (.slice none 0 0) w (yq (.mk _ none 0 (fun _=>.slice none 0 0) ⟨(show I64 (2:Int)from⟨by decide,by decide⟩),(show I64 (0:Int)from⟨by decide,by decide⟩),(show I64 (0:Int)from⟨by decide,by decide⟩),(show I64 (0:Int)from⟨by decide,by decide⟩),by simp [Ex.args],hs⟩ (.inl rfl) (fun i hi=>by simp [Ex.args]at hi))) (yq (by simp [Ex.size,Ex.sizes])) (yq ht));have HT:=yq ht;clear ht;unfold exV at HV;dsimp only [Ex.op,Ex.num,Ex.den,Ex.dim,Ex.name]at HV;rw [Ej]at HV;generalize dI s=b at *
 go_enter func100,ntmps100
 go_wp2_with (go_at_call 35;refine gv (HV.out _ HT.out) ?_;intro bs d)
 exact Pj
theorem EC(ls:List (ByteArray × Ex))(v:Value)(w:World)(h:LetsAt w v ls)(hl:10<ls.length):Calls prog 45 #[v] w (kV (dn ls) w):=by
 obtain⟨hl1000,la,lc,rfl,-⟩:=h;have hn:(10:Int)<(ls.length:Int):=by omega
 have HF:Hid (dn ls=([],7)):=yq (by unfold dn;rw [if_pos hl])
 go_enter func45,ntmps45
 go_wp2_with fail
 go_returns
 exact kV.bad HF.out (.of_below af)
theorem I8:∀args w,(callFunc 102 args).run prog w= .ok (.enter 102 args) w:=enters_of func102 ze rfl
theorem IX(env:List (ByteArray × Int))(ve:Value)(s:ByteArray)(c1 c2 c3 c4 c5 c6:Value)(b:Nat)(w:World)(hb:w.heap[b]? =some (.cells #[.string s,c1,c2,c3,c4,c5,c6] 63 (0,0)))(he:aR w ve env) :
 Calls prog 101 #[ve,.func (.func 102) #[] #[.pointer (some ⟨b,0,none⟩)]] w fun r w'=>r= .returned (.bool (env.any fun p=>decide (p.1=s)))/\w.Grows w':=by
 rw [<-Sd];refine nP 102 #[.pointer (some ⟨b,0,none⟩)] I8 env ve (fun k=>decide (bdN env k=s)) w he (yq (fun k hk w2 hg=>?_));have hb2:w2.heap[b]? =some (.cells #[.string s,c1,c2,c3,c4,c5,c6] 63 (0,0)):=(hg.below.block b (Array.getElem?_eq_some_iff.1 hb).1).trans hb;have hbl:b<w2.heap.size:=(Array.getElem?_eq_some_iff.1 hb2).1;have x0:w2.cell? ⟨b,0,none⟩=some (.string s):=by rw [cell_of_row w2 b _ _ _ _ hb2];rfl
 dsimp only;generalize bdN env k=n at *;generalize bdD env k=m at *;clear hb hb2 he hg;show Calls prog 102 #[.agg #[.string n,.int .i64 m],.pointer (some ⟨b,0,none⟩)] w2 _;by_cases hn:n=s
 ·have h2:(n.toList==s.toList)=true:=by rw [hn];simp
  have HD:Hid (decide (n=s)=true):=yq (decide_eq_true hn);clear hn
  go_enter func102,ntmps102
  go_wp2_with fail
  go_returns
  exact⟨av HD.out.symm,.of_below af⟩
 ·have h2:(n.toList==s.toList)=false:=by rw [beq_eq_false_iff_ne];exact fun h=>hn (qi h)
  have HD:Hid (decide (n=s)=false):=yq (decide_eq_false hn);clear hn
  go_enter func102,ntmps102
  go_wp2_with fail
  go_returns
  exact⟨av HD.out.symm,.of_below af⟩
theorem Ki(ls:List (ByteArray × Ex))(v:Value)(w:World)(h:LetsAt w v ls)(hs:sJ ls)(ht:Tab w):Calls prog 45 #[v] w (kV (dn ls) w):=by
 by_cases hlen:ls.length<=10
 case neg=>exact EC ls v w h zb
 obtain⟨i0,hi,hz0,hz1,hz2⟩:=info_parts QL;have HL:=yq h;have HS:=yq hs;have HT:=yq ht;obtain⟨hl1000,la,lc,rfl,-⟩:=h;rw [qy hlen];have hn:¬(10:Int)<(ls.length:Int):=by omega
 clear hs ht
 go_enter func45,ntmps45
 go_wp2_with fail
 go_loopw [4,16] (fun v4 v16 wr=>∃(k:Nat) (vb:Value) (env:List (ByteArray × Int)),vb=v4/\k<=ls.length/\v16= .int .i64 k/\Below w.heap.size w wr/\wr.ownsRow w.heap.size 106 2 vb k (rO env)/\Hid (jQ ls k env)) (fun _ v16 _=>ls.length-(intOf v16).toNat)
 case atStart=>exact⟨0,_,[],rfl,by omega,rfl,.refl _ _,World.ownsRow_nil _ _ _ _,yq (jQ.zero ls)⟩
 case round=>
  obtain⟨k,vb,env,rfl,hk,rfl,hB,hown,HA⟩:=hrel;obtain⟨W1,rfl⟩:∃W1,W1=wr:=⟨_,rfl⟩;have HB:=yq hB;have HO:=yq hown;have HG:Hid (w.Grows W1):=yq (.of_below hB);have HT1:=yq (HT.out.grows HG.out);have hsW:=hB.size;by_cases hlt:k<ls.length
  ·obtain⟨-,a',c',hvv,hx⟩:=HL.out.grows HG.out;simp only [Value.slice.injEq,true_and]at hvv;obtain⟨rfl,rfl⟩:=hvv;rcases hx with h0|⟨b,off,rfl,hbw,hx⟩
   ·omega
   obtain⟨uk,hsk⟩:=hx k hlt;have hsm:=HS.out _ (getD_mem hlt);have HTB:=yq (HA.out.bad hlt);have HTN:=yq (HA.out.next hlt);have HEL:=yq HA.out.len;have d1:(k:Int)<(ls.length:Int):=by omega
   generalize ls.getD k default=tt at *;obtain⟨s,ek⟩:=tt;dsimp only at hsm;obtain⟨y0,y1,y2,y3,y4,y5,y6,hrk⟩:=hsk;obtain⟨ka,kc,rfl⟩:=hrk.form0;have HRK:=yq hrk;have HBD:Hid (aR W1 vb env):=yq (aR.of_own (by rw [HEL.out];exact hown) (by rw [HEL.out];omega));have HI5:=yq (oM s);have HN5:=yq (fun w ht=>DY s hsm.1 w ht);have HDC:=yq (fun w' b hb (hg:W1.Grows w')=>IX env vb s (.int .i64 ek.op) (.int .i64 ek.num) (.int .i64 ek.den) (.int .i64 ek.dim) (.string ek.name) (.slice ka ek.args.length kc) b w' hb (HBD.out.grows hg));have HIF:=yq (fun w' (hg:W1.Grows w')=>dH (fun _=>True) env ek (.slice ka ek.args.length kc) vb w' (HRK.out.grows hg) (by have:=hsm.2;omega) (HT1.out.grows hg) (HBD.out.grows hg));unfold gq exV at HIF;have HKL:=yq hlt;have hk10:k<=10:=by omega
   have hvf:∃va vn vc,vb= .slice va vn vc:=by obtain⟨-,a,c,h,-⟩:=HBD.out;exact⟨_,_,_,h⟩
   clear hx hrk hsm HA hB hown hlt hk;dsimp only at y0 y1 y2 y3 y4 y5 y6;by_cases hd:df s.toList=0
   case neg=>
    have HC:Hid (gD ls []=([],5)):=yq yI;rw [decide_eq_true hd]at HI5;generalize df s.toList=d0 at *;exact gz7
   rw [hd]at HI5;have HD:=yq hd;clear hd;cases hnb:dI s
   case false=>
    have HC:Hid (gD ls []=([],5)):=yq yH;rw [hnb]at HN5;clear hnb;exact gz7
   rw [hnb]at HN5;have HNB:=yq hnb;clear hnb;obtain⟨va,vn,vc,rfl⟩:=hvf;cases hdu:env.any fun p=>decide (p.1=s)
   case true=>
    have HC:Hid (gD ls []=([],10)):=yq (by have h5:=uh (e:=ek) HD.out HNB.out hdu;have:=HTB.out zR;rw [h5]at this;exact this);rw [hdu]at HDC;clear hdu;exact gz7
   have HST:Hid (fA env (s,ek)=(aQ env ek).2):=yq (ug HD.out HNB.out hdu);rw [hdu]at HDC;clear hdu;generalize hr:aQ env ek=r at *;obtain⟨dk,ck⟩:=r;dsimp only at HIF HST HTN;clear hr;by_cases hc:ck=0
   ·subst hc;have HNX:=yq (HTN.out HST.out)
    go_wp2_with (first
     |((first|(go_at_call 99;refine gw (HI5.out _) ?_)|(go_at_call 100;refine gv (HN5.out _ (HT1.out.grows growsA)) ?_;intro bs1 d1')|(go_at_call 101;refine gv (HDC.out _ _ ((World.heap_grow _ _ _ zd).trans (heap_new _ _ _ zd)) growsA) ?_;intro bs2 d2')|(go_at_call 46;refine gv (HIF.out _ growsA) ?_;intro bs3 d3')))
     |(at_builtin;refine wpList_append_own _ rfl _ _ 52 rfl w.heap.size 106 i0 _ 2 24 underlying52 hi hz0 hz1 hz2 rfl zf _ _ _ rfl (lU HO.out growsA) ⟨_,0,none⟩ 1 1 [.string s,.int .i64 dk] rfl rfl ?c1 ?c2 ?c3 ?c4 ?c5 ?_))
    case c1=>exact news_cells _ [.string s,.int .i64 dk] _ _ zd
    case c2=>intro u hu;simp at hu;rcases hu with rfl|rfl<;>rfl
    case c3=>unfold maxLen;omega
    case c4=>omega
    case c5=>simp;omega
    intro v' w1 hown' hgrow _;have HB4:=yq ((show Below w.heap.size w _ from by have:=HB.out;(exact af)).grown hgrow zg (fun k hk=>(HO.out.lt k hk).1));have HO4:=yq hown';clear hown' hgrow
    go_wp2_with fail
    go_roundw
    case rel=>exact⟨k+1,_,_,rfl,HKL.out,by go_num,HB4.out,by rw [vo];exact HO4.out,HNX⟩
    case measure=>simp [intOf];have:=HKL.out;omega
   ·have hc2:(ck !=0)=true:=by simpa using hc
    have HC:Hid (gD ls []=([],ck)):=yq yO;clear hc;exact gz7
  ·obtain rfl:k=ls.length:=by omega
   have HD:=yq HA.out.done;have HBD:Hid (aR W1 vb env):=yq (aR.of_own (by rw [HA.out.len];exact HO.out) (by rw [HA.out.len];omega));clear hB hown
   go_wp2_with fail
   go_returns
   exact⟨_,by rw [HD.out];rfl,HG.out,by rw [HD.out];exact HBD.out⟩
theorem sU(env:List (ByteArray × Int))(e:Ex)(v ve:Value)(want:Int)(w:World)(h:ax (fun _=>True) w e v)(hbig:e.size<=1000000)(ht:Tab w)(hv:aR w ve env) :
 Calls prog 122 #[exV e v,ve,.int .i64 want] w fun r w'=>r= .returned (.int .i64 (dC env e want))/\w.Grows w':=by
 have HR:=yq h;have HV:=yq hv;have HT:=yq ht;obtain⟨a,cap,rfl⟩:=h.form0;obtain⟨-,ba,bc,rfl,-⟩:=hv;have HI:=yq (fun w' (hg:w.Grows w')=>dH (fun _=>True) env e (.slice a e.args.length cap) (.slice ba env.length bc) w' (HR.out.grows hg) zb (HT.out.grows hg) (HV.out.grows hg));unfold gq exV at HI;have HN:Hid (dC env e want=if(aQ env e).2=0/\(aQ env e).1≠want then 6 else(aQ env e).2):=yq rfl;generalize aQ env e=r at *;obtain⟨d,c⟩:=r;dsimp only at HI HN;clear h ht;by_cases hc:c=0
 ·subst hc;by_cases hd:d=want
  ·subst hd;have HF:Hid (dC env e d=0):=yq (by rw [HN.out];simp)
   go_enter func122,ntmps122
   go_wp2_with (go_at_call 46;refine gv (HI.out _ growsA) ?_;intro bs d')
   go_returns
   exact⟨by rw [HF.out]<;>rfl,growsA⟩
  ·have hd2:(d !=want)=true:=by simpa using hd
   have HF:Hid (dC env e want=6):=yq (by rw [HN.out,if_pos ⟨rfl,hd⟩]);clear hd
   go_enter func122,ntmps122
   go_wp2_with (go_at_call 46;refine gv (HI.out _ growsA) ?_;intro bs d')
   go_returns
   exact⟨by rw [HF.out]<;>rfl,growsA⟩
 ·have hc2:(c !=0)=true:=by simpa using hc
  have HF:Hid (dC env e want=c):=yq (by rw [HN.out,if_neg (fun h=>hc h.1)]);clear hc
  go_enter func122,ntmps122
  go_wp2_with (go_at_call 46;refine gv (HI.out _ growsA) ?_;intro bs d')
  go_returns
  exact⟨by rw [HF.out]<;>rfl,growsA⟩
theorem UF:∀args w,(callFunc 119 args).run prog w= .ok (.enter 119 args) w:=enters_of func119 ze rfl
theorem Ih(z y:Int)(a1 b1:Value)(b:Nat)(w:World)(hb:w.heap[b]? =some (.cells #[.int .i64 y,b1] 133 (0,0))) :
 Calls prog 119 (#[.agg (.int .i64 z::[a1]).toArray]++#[.pointer (some ⟨b,0,none⟩)]) w fun r w'=>r= .returned (.bool (decide (z=y)))/\w.Grows w':=by
 show Calls prog 119 #[.agg #[.int .i64 z,a1],.pointer (some ⟨b,0,none⟩)] w _;have hbl:b<w.heap.size:=(Array.getElem?_eq_some_iff.1 hb).1;have x0:w.cell? ⟨b,0,none⟩=some (.int .i64 y):=by rw [cell_of_row w b _ _ _ _ hb];rfl
 clear hb;by_cases hn:z=y
 ·have h2:(z==y)=true:=by rw [hn];simp
  have HD:Hid (decide (z=y)=true):=yq (decide_eq_true hn);clear hn
  go_enter func119,ntmps119
  go_wp2_with fail
  go_returns
  exact⟨av HD.out.symm,.of_below af⟩
 ·have h2:(z==y)=false:=by simpa using hn
  have HD:Hid (decide (z=y)=false):=yq (decide_eq_false hn);clear hn
  go_enter func119,ntmps119
  go_wp2_with fail
  go_returns
  exact⟨av HD.out.symm,.of_below af⟩
theorem UE:∀args w,(callFunc 121 args).run prog w= .ok (.enter 121 args) w:=enters_of func121 ze rfl
theorem Ig(z y:Int)(a1 a2 a3 a4 a5 a6 a7 a8 a9 a10 a11 a12 b1 b2 b3 b4 b5 b6 b7 b8 b9 b10 b11 b12:Value)(b:Nat)(w:World)(hb:w.heap[b]? =some (.cells #[.int .i64 y,b1,b2,b3,b4,b5,b6,b7,b8,b9,b10,b11,b12] 86 (0,0))) :
 Calls prog 121 (#[.agg (.int .i64 z::[a1,a2,a3,a4,a5,a6,a7,a8,a9,a10,a11,a12]).toArray]++#[.pointer (some ⟨b,0,none⟩)]) w fun r w'=>r= .returned (.bool (decide (z=y)))/\w.Grows w':=by
 show Calls prog 121 #[.agg #[.int .i64 z,a1,a2,a3,a4,a5,a6,a7,a8,a9,a10,a11,a12],.pointer (some ⟨b,0,none⟩)] w _;have hbl:b<w.heap.size:=(Array.getElem?_eq_some_iff.1 hb).1;have x0:w.cell? ⟨b,0,none⟩=some (.int .i64 y):=by rw [cell_of_row w b _ _ _ _ hb];rfl
 clear hb;by_cases hn:z=y
 ·have h2:(z==y)=true:=by rw [hn];simp
  have HD:Hid (decide (z=y)=true):=yq (decide_eq_true hn);clear hn
  go_enter func121,ntmps121
  go_wp2_with fail
  go_returns
  exact⟨av HD.out.symm,.of_below af⟩
 ·have h2:(z==y)=false:=by simpa using hn
  have HD:Hid (decide (z=y)=false):=yq (decide_eq_false hn);clear hn
  go_enter func121,ntmps121
  go_wp2_with fail
  go_returns
  exact⟨av HD.out.symm,.of_below af⟩
theorem UD:∀args w,(callFunc 124 args).run prog w= .ok (.enter 124 args) w:=enters_of func124 ze rfl
theorem Ie(z y:Int)(a1 a2 a3 a4 a5 a6 b1 b2 b3 b4 b5 b6:Value)(b:Nat)(w:World)(hb:w.heap[b]? =some (.cells #[.int .i64 y,b1,b2,b3,b4,b5,b6] 138 (0,0))) :
 Calls prog 124 (#[.agg (.int .i64 z::[a1,a2,a3,a4,a5,a6]).toArray]++#[.pointer (some ⟨b,0,none⟩)]) w fun r w'=>r= .returned (.bool (decide (z=y)))/\w.Grows w':=by
 show Calls prog 124 #[.agg #[.int .i64 z,a1,a2,a3,a4,a5,a6],.pointer (some ⟨b,0,none⟩)] w _;have hbl:b<w.heap.size:=(Array.getElem?_eq_some_iff.1 hb).1;have x0:w.cell? ⟨b,0,none⟩=some (.int .i64 y):=by rw [cell_of_row w b _ _ _ _ hb];rfl
 clear hb;by_cases hn:z=y
 ·have h2:(z==y)=true:=by rw [hn];simp
  have HD:Hid (decide (z=y)=true):=yq (decide_eq_true hn);clear hn
  go_enter func124,ntmps124
  go_wp2_with fail
  go_returns
  exact⟨av HD.out.symm,.of_below af⟩
 ·have h2:(z==y)=false:=by simpa using hn
  have HD:Hid (decide (z=y)=false):=yq (decide_eq_false hn);clear hn
  go_enter func124,ntmps124
  go_wp2_with fail
  go_returns
  exact⟨av HD.out.symm,.of_below af⟩
theorem Oh{w:World}{a:Option Addr}{cap n i:Nat}{K:List Int}(h:jr 2 w (.slice a K.length cap) K)(hx:fP 2 w (.slice a K.length cap) n)(hn:n=K.length)(hi:i<=K.length)(lb:Array Value)(p:Nat->Bool)(hp:∀k z,k<i->∀w',w.Grows w'->Calls prog 119 (#[.agg (.int .i64 (K.getD k 0)::[.int .i64 z]).toArray]++lb) w' fun r w''=>r= .returned (.bool (p k))/\w'.Grows w'') :
 wu 2 119 lb p w (.slice a i cap) i:=by
 subst hn;obtain⟨h0,a1,c1,hv1,h1⟩:=h;obtain⟨a2,c2,hv2,h2⟩:=hx;simp only [Value.slice.injEq,true_and]at hv1 hv2;obtain⟨rfl,rfl⟩:=hv1;obtain⟨rfl,rfl⟩:=hv2;refine⟨by omega,a,cap,rfl, ?_⟩;by_cases hz:i=0
 ·exact .inl hz
 rcases h1 with h1|⟨b,off,rfl,hb,hc⟩
 ·omega
 rcases h2 with h2|⟨b',off',ha,hb',hc'⟩
 ·omega
 simp only [Option.some.injEq,Addr.mk.injEq,and_true]at ha;obtain⟨rfl,rfl⟩:=ha;refine .inr ⟨b,off,rfl,hb,fun k hk=>?_⟩;obtain⟨z,hz⟩:=hc' k zb 1 zb;refine⟨[.int .i64 (K.getD k 0),.int .i64 z],rfl,fun j x hj=>?_,hp k z hk⟩
 match j,hj with
 |0,hj=>cases hj;exact hc k zb
 |1,hj=>cases hj;exact hz
theorem Og{w:World}{a:Option Addr}{cap n i:Nat}{l:List (Int × Ex × Ex)}(h:gL w (.slice a n cap) l)(hi:i<=l.length)(lb:Array Value)(p:Nat->Bool)
 (hp:∀k,k<i->∀(a1 a2 a3 a4 a5 a6 a7 a8 a9 a10 a11 a12:Value),∀w',w.Grows w'->Calls prog 121 (#[.agg (.int .i64 (l.getD k default).1::[a1,a2,a3,a4,a5,a6,a7,a8,a9,a10,a11,a12]).toArray]++lb) w' fun r w''=>r= .returned (.bool (p k))/\w'.Grows w'') :
 wu 13 121 lb p w (.slice a i cap) i:=by
 obtain⟨h0,a1,c1,hv1,h1⟩:=h;simp only [Value.slice.injEq]at hv1;obtain⟨rfl,rfl,rfl⟩:=hv1;refine⟨by omega,a,cap,rfl, ?_⟩;by_cases hz:i=0
 ·exact .inl hz
 rcases h1 with h1|⟨b,off,rfl,hb,hc⟩
 ·omega
 refine .inr ⟨b,off,rfl,hb,fun k hk=>?_⟩;obtain⟨u,u',g⟩:=hc k zb;refine⟨[.int .i64 (l.getD k default).1,.int .i64 (l.getD k default).2.1.op,.int .i64 (l.getD k default).2.1.num,.int .i64 (l.getD k default).2.1.den,.int .i64 (l.getD k default).2.1.dim,.string (l.getD k default).2.1.name,u,.int .i64 (l.getD k default).2.2.op,.int .i64 (l.getD k default).2.2.num,.int .i64 (l.getD k default).2.2.den,.int .i64 (l.getD k default).2.2.dim,.string (l.getD k default).2.2.name,u'],rfl,fun j x hj=>?_,hp k hk _ _ _ _ _ _ _ _ _ _ _ _⟩
 match j,hj with
 |0,hj=>cases hj;exact g.nm
 |1,hj=>cases hj;exact g.c0
 |2,hj=>cases hj;exact g.c1
 |3,hj=>cases hj;exact g.c2
 |4,hj=>cases hj;exact g.c3
 |5,hj=>cases hj;exact g.c4
 |6,hj=>cases hj;exact g.c5
 |7,hj=>cases hj;exact g.e0
 |8,hj=>cases hj;exact g.e1
 |9,hj=>cases hj;exact g.e2
 |10,hj=>cases hj;exact g.e3
 |11,hj=>cases hj;exact g.e4
 |12,hj=>cases hj;exact g.e5
theorem Oe{w:World}{a:Option Addr}{cap n i:Nat}{l:List (Int × Ex)}(h:oJ w (.slice a n cap) l)(hi:i<=l.length)(lb:Array Value)(p:Nat->Bool)
 (hp:∀k,k<i->∀(a1 a2 a3 a4 a5 a6:Value),∀w',w.Grows w'->Calls prog 124 (#[.agg (.int .i64 (l.getD k default).1::[a1,a2,a3,a4,a5,a6]).toArray]++lb) w' fun r w''=>r= .returned (.bool (p k))/\w'.Grows w'') :
 wu 7 124 lb p w (.slice a i cap) i:=by
 obtain⟨h0,a1,c1,hv1,h1⟩:=h;simp only [Value.slice.injEq]at hv1;obtain⟨rfl,rfl,rfl⟩:=hv1;refine⟨by omega,a,cap,rfl, ?_⟩;by_cases hz:i=0
 ·exact .inl hz
 rcases h1 with h1|⟨b,off,rfl,hb,hc⟩
 ·omega
 refine .inr ⟨b,off,rfl,hb,fun k hk=>?_⟩;obtain⟨u,g⟩:=hc k zb;refine⟨[.int .i64 (l.getD k default).1,.int .i64 (l.getD k default).2.op,.int .i64 (l.getD k default).2.num,.int .i64 (l.getD k default).2.den,.int .i64 (l.getD k default).2.dim,.string (l.getD k default).2.name,u],rfl,fun j x hj=>?_,hp k hk _ _ _ _ _ _⟩
 match j,hj with
 |0,hj=>cases hj;exact g.nm
 |1,hj=>cases hj;exact g.c0
 |2,hj=>cases hj;exact g.c1
 |3,hj=>cases hj;exact g.c2
 |4,hj=>cases hj;exact g.c3
 |5,hj=>cases hj;exact g.c4
 |6,hj=>cases hj;exact g.c5
theorem fP.at{c:Nat}{w:World}{b off n cap i j:Nat}(h:fP c w (.slice (some ⟨b,off,none⟩) n cap) n)(hi:i<n)(hj:j<c):∃z,w.cell? ⟨b,off+i*c+j,none⟩=some (.int .i64 z):=by
 obtain⟨a',cap',hv,h0|⟨b',off',rfl,hb,hc⟩⟩:=h
 ·omega
 ·simp only [Value.slice.injEq,Option.some.injEq,Addr.mk.injEq,and_true,true_and]at hv;obtain⟨⟨rfl,rfl⟩,rfl⟩:=hv;exact hc i hi j hj
theorem EN{K:List Int}{i:Nat}(hi:i<=K.length)(y:Int):((List.range i).any fun k=>decide (K.getD k 0=y))=(K.take i).contains y:=(sV hi).symm
theorem kU(V:dK)(x0 x1 x2:Int)(v3 v4 v5 v6 v7:Value)(w:World)(h:wh w V v3 v4 v5 v6 v7)(hnx:fP 2 w v3 V.cr.length/\fP 3 w v4 V.se.length)(hcp:iM v3/\iM v6/\iM v7)(hs:pY V)(ht:Tab w) :
 Calls prog 64 #[.agg #[.int .i64 x0,.int .i64 x1,.int .i64 x2,v3,v4,v5,v6,v7]] w fun e w'=>e= .returned (.int .i64 (bM V))/\w.Grows w':=by
 have HV:=yq h;have HS:=yq hs;have HT:=yq ht;have HLT:=yq (fun w' (hg:w.Grows w')=>Ki V.le v5 w' (h.le.grows hg) hs.le (HT.out.grows hg));unfold kV at HLT;have HA:=Kv (V:=V);have HB_:=Ku (V:=V);have HC_:=Kt (V:=V);have HD_:=Kr (V:=V);have HE_:=Kq (V:=V);have H3:=h.cr;have H4:=h.se;have H6:=h.gr.nums;have H7:=h.re.nums;obtain⟨hn3,hn4⟩:=hnx;obtain⟨K3,hK3⟩:∃K,V.cr.map Prod.fst=K:=⟨_,rfl⟩;obtain⟨K4,hK4⟩:∃K,V.se.map Prod.fst=K:=⟨_,rfl⟩;obtain⟨K6,hK6⟩:∃K,V.gr.map Prod.fst=K:=⟨_,rfl⟩;obtain⟨K7,hK7⟩:∃K,V.re.map Prod.fst=K:=⟨_,rfl⟩;rw [hK3]at H3 HB_ HC_ HD_ HE_;rw [hK4]at H4 HC_ HD_ HE_;rw [hK6]at H6;rw [hK7]at H7;have hl3:V.cr.length=K3.length:=by rw [<-hK3,length_map]
 have hl4:V.se.length=K4.length:=by rw [<-hK4,length_map]
 have hl6:K6.length=V.gr.length:=by rw [<-hK6,length_map]
 have hl7:K7.length=V.re.length:=by rw [<-hK7,length_map]
 rw [hl3]at hn3;rw [hl4]at hn4;replace hK6:=yq hK6;replace hK7:=yq hK7;have HL6:=yq hl6;have HL7:=yq hl7;obtain⟨h3l,a3,k3,rfl,-⟩:=id H3;obtain⟨h4l,a4,k4,rfl,-⟩:=id H4;obtain⟨h5l,a5,k5,rfl,-⟩:=h.le;obtain⟨h6l,a6,k6,rfl,-⟩:=id H6;obtain⟨h7l,a7,k7,rfl,-⟩:=id H7;have hk3:K3.length<=k3:=hcp.1 _ _ _ rfl;have hk6:K6.length<=k6:=hcp.2.1 _ _ _ rfl;have hk7:K7.length<=k7:=hcp.2.2 _ _ _ rfl;replace H3:=yq H3;replace H4:=yq H4;replace H6:=yq H6;replace H7:=yq H7;replace hn3:=yq hn3;replace hn4:=yq hn4;generalize dn V.le=L at *;obtain⟨env,c⟩:=L;dsimp only at HLT HA HB_ HC_ HD_ HE_;replace HA:=yq HA;replace HB_:=yq HB_;replace HC_:=yq HC_;replace HD_:=yq HD_;replace HE_:=yq HE_;have HC3:=yq hk3;have HC6:=yq hk6;have HC7:=yq hk7;clear h hs ht hK3 hK4 hl3 hl4 hl6 hl7 hcp hk3 hk6 hk7;by_cases hc:c=0
 case neg=>
  have hc2:(c !=0)=true:=by simpa using hc
  have HF:=yq (HA.out hc);clear hc
  go_enter func64,ntmps64
  go_wp2_with (go_at_call 45;refine(HLT.out _ growsA).mono ?_;rintro e' w' ⟨x,rfl,⟨bs,d,rfl⟩,hbd⟩)
  go_returns
  exact⟨by rw [HF.out]<;>rfl,growsA⟩
 subst hc
 go_enter func64,ntmps64
 go_wp2_with (go_at_call 45;refine(HLT.out _ growsA).mono ?_;rintro e' w' ⟨x,rfl,⟨bs,d,rfl⟩,hbd⟩;have HBD:=yq hbd;obtain⟨-,xa,xc,rfl,-⟩:=hbd)
 refine wp_abs (fun W hW=>?_);have HG:Hid (w.Grows W):=yq (by rw [<-hW];exact growsA);have HBX:Hid (mP W w.heap.size (.int .i64 x0) (.int .i64 x1) (.int .i64 x2) (.slice a3 K3.length k3) (.slice a4 K4.length k4) (.slice a5 V.le.length k5) (.slice a6 K6.length k6) (.slice a7 K7.length k7)):=yq yN;have HEV:Hid (aR W (.slice xa env.length xc) env):=yq (by rw [<-hW];exact HBD.out);have HTW:=yq (HT.out.grows HG.out);clear hW HBD HLT HA
 go_loopw [28] (fun v4 wr=>∃i:Nat,i<=K3.length/\v4= .int .i64 i/\Hid (jN [] K3=jN (K3.take i) (K3.drop i))/\W.Grows wr) (fun v4 _=>K3.length-(intOf v4).toNat)
 case atStart=>exact⟨0,by omega,rfl,yq rfl,.refl _⟩
 case round=>
  obtain⟨i,hi,rfl,HAT,hgr⟩:=hrel;obtain⟨W1,rfl⟩:∃W1,W1=wr:=⟨_,rfl⟩;have HG1:=yq hgr;have HGW:=yq (gqq HG.out hgr);have HBX1:=yq (HBX.out.grows hgr);have q3:=HBX1.out.lt;have q0:=HBX1.out.c3;clear hgr;by_cases hlt:i<K3.length
  ·obtain⟨b,off,kcap,hkv,hkb,hkx⟩:=(H3.out.grows HGW.out).open_ hlt;simp only [Value.slice.injEq,true_and]at hkv;obtain⟨rfl,rfl⟩:=hkv;obtain⟨z,q2⟩:=(hn3.out.grows HGW.out).at hlt (show 1<2 by omega);have q1:=hkx i hlt;have HKL:=yq hlt;have d1:(i:Int)<(K3.length:Int):=by omega
   have d9:(i:Int)<=(k3:Int):=by have:=HC3.out;omega
   have d8:i<=k3:=by have:=HC3.out;omega
   have HAD:=yq (HAT.out.trans (Fg hlt))
   have HCF:=yq (fun w' (hg:W1.Grows w') (hb:w'.heap[W1.heap.size]? =some (.cells #[.int .i64 (K3.getD i 0),.int .i64 z] 133 (0,0)))=>by
    have:=Mr 119 #[.pointer (some ⟨W1.heap.size,0,none⟩)] UF (fun k=>decide (K3.getD k 0=K3.getD i 0)) (.slice (some ⟨b,off,none⟩) i k3) i w' (Oh ((H3.out.grows HGW.out).grows hg) ((hn3.out.grows HGW.out).grows hg) rfl zb _ _ (fun k z' hk w2 hg2=>Ih (K3.getD k 0) (K3.getD i 0) (.int .i64 z') (.int .i64 z) W1.heap.size w2 ((hg2.below.block _ (Array.getElem?_eq_some_iff.1 hb).1).trans hb)));rw [EN zb]at this
    exact this)
   generalize hq:(K3.take i).contains (K3.getD i 0)=q at *;generalize K3.getD i 0=y at *;clear hkx hlt hq;cases q
   case true=>
    have HF:Hid (bM V=10):=yq (HB_.out trivial (by rw [HAD.out,Bool.true_or]))
    go_wp2_with ((first|(go_at_call 118;refine gv (HCF.out _ growsA zI) ?_;intro bs0 d0)|(go_at_call 122;first|((with_reducible refine gv (HN1.out _ growsA) ?_);intro bs1 d1)|((with_reducible refine gv (HN2.out _ growsA) ?_);intro bs2 d2))))
    go_returns
    exact⟨by rw [HF.out]<;>rfl,gqq HG.out (gqq HG1.out growsA)⟩
   have HNX:Hid (jN [] K3=jN (K3.take (i+1)) (K3.drop (i+1))):=yq (by rw [HAD.out,Bool.false_or])
   go_wp2_with ((first|(go_at_call 118;refine gv (HCF.out _ growsA zI) ?_;intro bs0 d0)|(go_at_call 122;first|((with_reducible refine gv (HN1.out _ growsA) ?_);intro bs1 d1)|((with_reducible refine gv (HN2.out _ growsA) ?_);intro bs2 d2))))
   go_roundw
   case rel=>exact⟨i+1,HKL.out,by go_num,HNX,gqq HG1.out growsA⟩
   case measure=>simp [intOf];have:=HKL.out;omega
  obtain rfl:i=K3.length:=by omega
  have H3D:Hid (jN [] K3=false):=yq (HAT.out.trans GH);clear HAT;have q4:=HBX1.out.c4
  go_wp2_with fail
  go_loopw [43] (fun v6 wr=>∃k:Nat,k<=K4.length/\v6= .int .i64 k/\Hid (∀j,j+1<k->K4.getD j 0<K4.getD (j+1) 0)/\W.Grows wr) (fun v6 _=>K4.length-(intOf v6).toNat)
  case atStart=>exact⟨0,by omega,rfl,yq (fun j hj=>by omega),HG1.out⟩
  case round=>
   obtain⟨k,hk,rfl,HAS,hgr⟩:=hrel;obtain⟨W1,rfl⟩:∃W1,W1=wr:=⟨_,rfl⟩;have HG1:=yq hgr;have HGW:=yq (gqq HG.out hgr);have HBX1:=yq (HBX.out.grows hgr);have q3:=HBX1.out.lt;have q0:=HBX1.out.c4;clear hgr;by_cases hlt:k<K4.length
   ·have HKL:=yq hlt;obtain⟨b,off,kcap,hkv,hkb,hkx⟩:=(H4.out.grows HGW.out).open_ hlt;simp only [Value.slice.injEq,true_and]at hkv;obtain⟨rfl,rfl⟩:=hkv;obtain⟨z1,q4⟩:=(hn4.out.grows HGW.out).at hlt (show 1<3 by omega);obtain⟨z2,q5⟩:=(hn4.out.grows HGW.out).at hlt (show 2<3 by omega);have q1:=hkx k hlt;have d1:(k:Int)<(K4.length:Int):=by omega
    by_cases hk0:k=0
    ·subst hk0;simp only [Nat.zero_mul,Nat.add_zero]at q1 q4 q5;have e1:0<K4.length:=hlt;obtain⟨y,hy⟩:∃z,K4.getD 0 0=z:=⟨_,rfl⟩;rw [hy]at q1;clear hkx hlt hk d1 hy
     go_wp2_with fail
     go_region
     go_wp2_with fail
     go_roundw
     case rel=>exact⟨1,HKL.out,by go_num,yq (fun j hj=>by omega),gqq HG1.out growsA⟩
     case measure=>simp [intOf];have:=HKL.out;omega
    obtain⟨t,hkt⟩:∃t,k=t+1:=⟨k-1,by omega⟩;have q2:=hkx t zb;have d2:(k:Int)-1=(t:Int):=by omega
    have d3:(t:Int)<(K4.length:Int):=by omega
    have d4:(0:Int)<=(t:Int):=by omega
    have d5:(0:Int)<(k:Int):=by omega
    have d6:0<k:=by omega
    have HT:=yq hkt;clear hkx hkt hk hlt hk0;by_cases hle:K4.getD k 0<=K4.getD t 0
    ·have HF:Hid (bM V=1):=yq (HC_.out trivial H3D.out (Ni (j:=t) (by rw [<-HT.out];exact HKL.out) (by rw [<-HT.out];exact hle)));obtain⟨y,hy⟩:∃z,K4.getD k 0=z:=⟨_,rfl⟩;obtain⟨z,hz⟩:∃z,K4.getD t 0=z:=⟨_,rfl⟩;rw [hy]at q1 hle;rw [hz]at q2 hle;clear hy hz
     go_wp2_with fail
     go_quiet (fail)
     go_wp2_with fail
     go_returns
     exact⟨by rw [HF.out]<;>rfl,gqq HG.out (gqq HG1.out growsA)⟩
    ·have HLE:=yq hle;obtain⟨zk,hzk⟩:∃z,K4.getD k 0=z:=⟨_,rfl⟩;obtain⟨zt,hzt⟩:∃z,K4.getD t 0=z:=⟨_,rfl⟩;rw [hzk]at q1 hle;rw [hzt]at q2 hle;have hle2:zt<zk:=by omega
     clear hzk hzt
     go_wp2_with fail
     go_quiet (fail)
     go_wp2_with fail
     go_roundw
     case rel=>exact⟨k+1,HKL.out,by go_num,yq (fun j hj=>by
      by_cases ej:j+1=k
      ·have:=HLE.out;have e:j=t:=by have:=HT.out;omega
       rw [ej,e];omega
      ·exact HAS.out j zb),gqq HG1.out growsA⟩
     case measure=>simp [intOf];have:=HKL.out;omega
   obtain rfl:k=K4.length:=by omega
   have hK:su K4=true:=(sI K4).2 fun j hj=>HAS.out j zb;have H4D:=yq hK;have HDD:Hid (∀c,c≠0->grG env [] V.gr=c->bM V=c):=yq (fun c hc h=>by rw [<-h];exact HD_.out trivial H3D.out H4D.out (by rw [h];exact hc));have HEE:Hid (grG env [] V.gr=0->bM V=reG env [] V.re):=yq (fun h=>HE_.out trivial H3D.out H4D.out h);clear HAS hK hk hlt;have q6:=HBX1.out.c6
   go_wp2_with fail
   go_loopw [66] (fun v7 wr=>∃i:Nat,i<=K6.length/\v7= .int .i64 i/\Hid (grG env [] V.gr=grG env (K6.take i) (V.gr.drop i))/\W.Grows wr) (fun v7 _=>K6.length-(intOf v7).toNat)
   case atStart=>exact⟨0,by omega,rfl,yq rfl,HG1.out⟩
   case round=>
    obtain⟨i,hi,rfl,HAT,hgr⟩:=hrel;obtain⟨W1,rfl⟩:∃W1,W1=wr:=⟨_,rfl⟩;have HG1:=yq hgr;have HGW:=yq (gqq HG.out hgr);have HBX1:=yq (HBX.out.grows hgr);have q3:=HBX1.out.lt;have q0:=HBX1.out.c6;clear hgr;by_cases hlk:i<K6.length
    ·have HKL:=yq hlk;have hlt:i<V.gr.length:=by rw [<-HL6.out];exact hlk
     have hil:i<=V.gr.length:=by omega
     have d1:(i:Int)<(K6.length:Int):=by omega
     have d9:(i:Int)<=(k6:Int):=by have:=HC6.out;omega
     have d8:i<=k6:=by have:=HC6.out;omega
     have HGR1:=yq (HV.out.gr.grows HGW.out);obtain⟨-,a',c',hvv,hx⟩:=HGR1.out;simp only [Value.slice.injEq]at hvv;obtain⟨rfl,-,rfl⟩:=hvv;rcases hx with h0|⟨b,off,rfl,hbw,hx⟩
     ·omega
     obtain⟨u,u',hg⟩:=hx i hlt;have hsm:=HS.out.gr _ (getD_mem hlt);have hfa:=mg hK6.out hlt;have HGN:=yq (fun h=>HAT.out.trans (Cz (env:=env) hK6.out hlt h));have HGB:=yq (fun h=>HAT.out.trans (AL (env:=env) hK6.out hlt h))
     have HCF:=yq (fun w' (hg:W1.Grows w') (a1 a2 a3 a4 a5 a6 a7 a8 a9 a10 a11 a12:Value) (hb:w'.heap[W1.heap.size]? =some (.cells #[.int .i64 (V.gr.getD i default).1,a1,a2,a3,a4,a5,a6,a7,a8,a9,a10,a11,a12] 86 (0,0)))=>by
      have:=Mq 121 #[.pointer (some ⟨W1.heap.size,0,none⟩)] UE (fun k=>decide (K6.getD k 0=K6.getD i 0)) (.slice (some ⟨b,off,none⟩) i k6) i w' (Og (HGR1.out.grows hg) hil _ _ (fun k hk b1 b2 b3 b4 b5 b6 b7 b8 b9 b10 b11 b12 w2 hg2=>by
       rw [mg hK6.out (show k<V.gr.length by omega),hfa]
       exact Ig _ _ b1 b2 b3 b4 b5 b6 b7 b8 b9 b10 b11 b12 a1 a2 a3 a4 a5 a6 a7 a8 a9 a10 a11 a12 W1.heap.size w2 ((hg2.below.block _ (Array.getElem?_eq_some_iff.1 hb).1).trans hb)))
      rw [EN (by have:=HL6.out;omega),hfa]at this
      exact this)
     rw [<-hfa]at HCF;have HSD:=yq (fun(h:(K6.take i).contains (K6.getD i 0)=true)=>Gz (env:=env) (pre:=K6.take i) (g:=V.gr.getD i default) yr);have HS1:=yq (fun(h:(K6.take i).contains (K6.getD i 0)=false)=>Gy (env:=env) (pre:=K6.take i) (g:=V.gr.getD i default) yr);generalize(K6.take i).contains (K6.getD i 0)=q at *;rw [hfa]at HCF;generalize V.gr.getD i default=g at *;obtain⟨gn,ge,gp⟩:=g;obtain⟨m,m0,m1,m2,m3,m4,m5,n0,n1,n2,n3,n4,n5,r1,r2⟩:=hg;dsimp only at m m0 m1 m2 m3 m4 m5 n0 n1 n2 n3 n4 n5 r1 r2 hsm HSD HS1 HGN HGB HCF;obtain⟨ua,uc,rfl⟩:=r1.form0;obtain⟨va,vc,rfl⟩:=r2.form0;have HR1:=yq r1;have HR2:=yq r2;have HEW:=yq (HEV.out.grows HG1.out);have HTV:=yq (HTW.out.grows HG1.out);have HN1:=yq (fun w' (hg:W1.Grows w')=>sU env ge _ _ 1 w' (HR1.out.grows hg) hsm.1 (HTV.out.grows hg) (HEW.out.grows hg));have HN2:=yq (fun w' (hg:W1.Grows w')=>sU env gp _ _ 4 w' (HR2.out.grows hg) hsm.2 (HTV.out.grows hg) (HEW.out.grows hg));unfold exV at HN1 HN2;replace HCF:=yq (fun w' hg=>HCF.out w' hg (.int .i64 ge.op) (.int .i64 ge.num) (.int .i64 ge.den) (.int .i64 ge.dim) (.string ge.name) (.slice ua ge.args.length uc) (.int .i64 gp.op) (.int .i64 gp.num) (.int .i64 gp.den) (.int .i64 gp.dim) (.string gp.name) (.slice va gp.args.length vc));clear r1 r2 hx hlt hsm hfa hlk hil;cases q
     case true=>
      have hs:=HSD.out rfl;have HF:Hid (bM V=10):=yq (HDD.out 10 zf ((HGB.out yt).trans hs));clear hs
      go_wp2_with ((first|(go_at_call 120;refine gv (HCF.out _ growsA zI) ?_;intro bs0 d0)|(go_at_call 122;first|((with_reducible refine gv (HN1.out _ growsA) ?_);intro bs1 d1)|((with_reducible refine gv (HN2.out _ growsA) ?_);intro bs2 d2))))
      go_returns
      exact⟨by rw [HF.out]<;>rfl,gqq HG.out (gqq HG1.out growsA)⟩
     have HST:=yq (HS1.out rfl);generalize dC env ge 1=c1 at *;generalize dC env gp 4=c2 at *;by_cases h1:c1=0
     case neg=>
      have hb:(c1 !=0)=true:=by simpa using h1
      have HF:Hid (bM V=c1):=yq (HDD.out c1 h1 ((HGB.out (by rw [HST.out,if_pos h1];exact h1)).trans (by rw [HST.out,if_pos h1])));clear h1
      go_wp2_with ((first|(go_at_call 120;refine gv (HCF.out _ growsA zI) ?_;intro bs0 d0)|(go_at_call 122;first|((with_reducible refine gv (HN1.out _ growsA) ?_);intro bs1 d1)|((with_reducible refine gv (HN2.out _ growsA) ?_);intro bs2 d2))))
      go_returns
      exact⟨by rw [HF.out]<;>rfl,gqq HG.out (gqq HG1.out growsA)⟩
     subst h1;by_cases h2:c2=0
     case neg=>
      have hb:(c2 !=0)=true:=by simpa using h2
      have HF:Hid (bM V=c2):=yq (HDD.out c2 h2 ((HGB.out (by rw [HST.out,if_neg zd];exact h2)).trans yj));clear h2
      go_wp2_with ((first|(go_at_call 120;refine gv (HCF.out _ growsA zI) ?_;intro bs0 d0)|(go_at_call 122;first|((with_reducible refine gv (HN1.out _ growsA) ?_);intro bs1 d1)|((with_reducible refine gv (HN2.out _ growsA) ?_);intro bs2 d2))))
      go_returns
      exact⟨by rw [HF.out]<;>rfl,gqq HG.out (gqq HG1.out growsA)⟩
     subst h2;have HNX:=yq (HGN.out yj)
     go_wp2_with ((first|(go_at_call 120;refine gv (HCF.out _ growsA zI) ?_;intro bs0 d0)|(go_at_call 122;first|((with_reducible refine gv (HN1.out _ growsA) ?_);intro bs1 d1)|((with_reducible refine gv (HN2.out _ growsA) ?_);intro bs2 d2))))
     go_roundw
     case rel=>exact⟨i+1,HKL.out,by go_num,HNX,gqq HG1.out growsA⟩
     case measure=>simp [intOf];have:=HKL.out;omega
    obtain rfl:i=K6.length:=by omega
    have HEF:Hid (bM V=reG env [] V.re):=yq (HEE.out (HAT.out.trans (by rw [HL6.out,drop_length,grG])));clear HAT HDD HEE;have HEE:=HEF;clear HEF;have q7:=HBX1.out.c7
    go_wp2_with fail
    go_loopw [95] (fun v11 wr=>∃i:Nat,i<=K7.length/\v11= .int .i64 i/\Hid (reG env [] V.re=reG env (K7.take i) (V.re.drop i))/\W.Grows wr) (fun v11 _=>K7.length-(intOf v11).toNat)
    case atStart=>exact⟨0,by omega,rfl,yq rfl,HG1.out⟩
    case round=>
     obtain⟨i,hi,rfl,HAT,hgr⟩:=hrel;obtain⟨W1,rfl⟩:∃W1,W1=wr:=⟨_,rfl⟩;have HG1:=yq hgr;have HGW:=yq (gqq HG.out hgr);have HBX1:=yq (HBX.out.grows hgr);have q3:=HBX1.out.lt;have q0:=HBX1.out.c7;clear hgr;by_cases hlk:i<K7.length
     ·have HKL:=yq hlk;have hlt:i<V.re.length:=by rw [<-HL7.out];exact hlk
      have hil:i<=V.re.length:=by omega
      have d1:(i:Int)<(K7.length:Int):=by omega
      have d9:(i:Int)<=(k7:Int):=by have:=HC7.out;omega
      have d8:i<=k7:=by have:=HC7.out;omega
      have HGR1:=yq (HV.out.re.grows HGW.out);obtain⟨-,a',c',hvv,hx⟩:=HGR1.out;simp only [Value.slice.injEq]at hvv;obtain⟨rfl,-,rfl⟩:=hvv;rcases hx with h0|⟨b,off,rfl,hbw,hx⟩
      ·omega
      obtain⟨u,hg⟩:=hx i hlt;have hsm:=HS.out.re _ (getD_mem hlt);have hfa:=mg hK7.out hlt;have HGN:=yq (fun h=>HAT.out.trans (BG (env:=env) hK7.out hlt h));have HGB:=yq (fun h=>HAT.out.trans (Af (env:=env) hK7.out hlt h))
      have HCF:=yq (fun w' (hg:W1.Grows w') (a1 a2 a3 a4 a5 a6:Value) (hb:w'.heap[W1.heap.size]? =some (.cells #[.int .i64 (V.re.getD i default).1,a1,a2,a3,a4,a5,a6] 138 (0,0)))=>by
       have:=Mo 124 #[.pointer (some ⟨W1.heap.size,0,none⟩)] UD (fun k=>decide (K7.getD k 0=K7.getD i 0)) (.slice (some ⟨b,off,none⟩) i k7) i w' (Oe (HGR1.out.grows hg) hil _ _ (fun k hk b1 b2 b3 b4 b5 b6 w2 hg2=>by
        rw [mg hK7.out (show k<V.re.length by omega),hfa]
        exact Ie _ _ b1 b2 b3 b4 b5 b6 a1 a2 a3 a4 a5 a6 W1.heap.size w2 ((hg2.below.block _ (Array.getElem?_eq_some_iff.1 hb).1).trans hb)))
       rw [EN (by have:=HL7.out;omega),hfa]at this
       exact this)
      rw [<-hfa]at HCF;have HSD:=yq (fun(h:(K7.take i).contains (K7.getD i 0)=true)=>FR (env:=env) (pre:=K7.take i) (g:=V.re.getD i default) yr);have HS1:=yq (fun(h:(K7.take i).contains (K7.getD i 0)=false)=>FQ (env:=env) (pre:=K7.take i) (g:=V.re.getD i default) yr);generalize(K7.take i).contains (K7.getD i 0)=q at *;rw [hfa]at HCF;generalize V.re.getD i default=g at *;obtain⟨gn,ge⟩:=g;obtain⟨m,m0,m1,m2,m3,m4,m5,r1⟩:=hg;dsimp only at m m0 m1 m2 m3 m4 m5 r1 hsm HSD HS1 HGN HGB HCF;obtain⟨ua,uc,rfl⟩:=r1.form0;have HR1:=yq r1;have HEW:=yq (HEV.out.grows HG1.out);have HTV:=yq (HTW.out.grows HG1.out);have HN1:=yq (fun w' (hg:W1.Grows w')=>sU env ge _ _ 2 w' (HR1.out.grows hg) hsm (HTV.out.grows hg) (HEW.out.grows hg));unfold exV at HN1;have HN2:=HN1;replace HCF:=yq (fun w' hg=>HCF.out w' hg (.int .i64 ge.op) (.int .i64 ge.num) (.int .i64 ge.den) (.int .i64 ge.dim) (.string ge.name) (.slice ua ge.args.length uc));clear r1 hx hlt hsm hfa hlk hil;cases q
      case true=>
       have hs:=HSD.out rfl;have HF:Hid (bM V=10):=yq (HEE.out.trans ((HGB.out yt).trans hs));clear hs
       go_wp2_with ((first|(go_at_call 123;refine gv (HCF.out _ growsA zI) ?_;intro bs0 d0)|(go_at_call 122;first|((with_reducible refine gv (HN1.out _ growsA) ?_);intro bs1 d1)|((with_reducible refine gv (HN2.out _ growsA) ?_);intro bs2 d2))))
       go_returns
       exact⟨by rw [HF.out]<;>rfl,gqq HG.out (gqq HG1.out growsA)⟩
      have HST:=yq (HS1.out rfl);generalize dC env ge 2=c1 at *;by_cases h1:c1=0
      case neg=>
       have hb:(c1 !=0)=true:=by simpa using h1
       have HF:Hid (bM V=c1):=yq (HEE.out.trans ((HGB.out (by rw [HST.out];exact h1)).trans HST.out));clear h1
       go_wp2_with ((first|(go_at_call 123;refine gv (HCF.out _ growsA zI) ?_;intro bs0 d0)|(go_at_call 122;first|((with_reducible refine gv (HN1.out _ growsA) ?_);intro bs1 d1)|((with_reducible refine gv (HN2.out _ growsA) ?_);intro bs2 d2))))
       go_returns
       exact⟨by rw [HF.out]<;>rfl,gqq HG.out (gqq HG1.out growsA)⟩
      subst h1;have HNX:=yq (HGN.out HST.out)
      go_wp2_with ((first|(go_at_call 123;refine gv (HCF.out _ growsA zI) ?_;intro bs0 d0)|(go_at_call 122;first|((with_reducible refine gv (HN1.out _ growsA) ?_);intro bs1 d1)|((with_reducible refine gv (HN2.out _ growsA) ?_);intro bs2 d2))))
      go_roundw
      case rel=>exact⟨i+1,HKL.out,by go_num,HNX,gqq HG1.out growsA⟩
      case measure=>simp [intOf];have:=HKL.out;omega
     obtain rfl:i=K7.length:=by omega
     have HF:Hid (bM V=0):=yq (HEE.out.trans (HAT.out.trans (by rw [HL7.out,drop_length,reG])));clear HAT HEE
     go_wp2_with fail
     go_returns
     exact⟨by rw [HF.out]<;>rfl,gqq HG.out (gqq HG1.out growsA)⟩
theorem RF{S:Nat->Prop}{N base g:Nat}{w:World}{v vs ve:Value}{l:List Ins}{sl:List ByteArray}(n d m:Int)(s:ByteArray)(k:Nat)(hk:jd s=some k)(h:bL S N base g w v vs l sl)(hl:l.length<=1000000) :
 Calls prog 107 #[.pointer (some ⟨g,0,none⟩),.agg #[.int .i64 2,.int .i64 n,.int .i64 d,.int .i64 m,.string s,ve]] w (mM (.tuple #[]) S N base g w v vs (l++[⟨2,k,0,0⟩]) sl):=by
 have HII:Hid (pK vQ s=(k:Int)):=yq (by rw [Cq];unfold Md;rw [hk]);have HE:=yq (fun W (hg:w.Grows W)=>jk 2 k (h.grows hg) hl);have d1:(0:Int)<=(k:Int):=by omega
 clear h hl hk
 go_enter func107,ntmps107
 go_upto_region 12 with fail
 refine TS.begin [4] (World.Grows ((w.alloc (.cells #[.int .i64 2,.int .i64 n,.int .i64 d,.int .i64 m,.string s,ve] 27)))) ze ze grows_drew0 (fun hS=>?_);refine kq 1 hS ?_;refine kq 2 hS ?_;refine TS.one (i:=0) ze rfl (fun K1 hK1=>?_);have HK1:=yq hK1;clear hK1 hS;dsimp only [getElem_toArray,getElem_cons_succ,getElem_cons_zero]
 go_simp
 go_at_call 153
 refine(rU _).mono ?_;rintro e' w' ⟨g0,rfl,⟨bs,d0,rfl⟩,ty,hh⟩;have HH:=yq (Gr hh);clear hh;refine TS.go HK1.out growsR (fun hS=>?_);clear HK1 K1
 (try simp only [nS])
 refine TS.one (i:=3) ze rfl (fun K1 hK1=>?_);have HK1:=yq hK1;clear hK1 hS;dsimp only [getElem_toArray,getElem_cons_succ,getElem_cons_zero]
 go_simp
 go_at_call 71
 refine(kD vQ s _ _ (HH.out.grows growsR)).mono ?_;rintro e' w' ⟨rfl,⟨bs1,d1,rfl⟩⟩;rw [HII.out];refine TS.go HK1.out growsR (fun hS=>?_);clear HK1 K1
 (try simp only [nS])
 refine TS.weB 4 ?_;clear hS
 go_wp2_with (go_at_call 70;refine(HE.out _ growsR).mono ?_;rintro e' w1 ⟨a1,c1,rfl,hp,hx⟩;have HP:=yq hp;have HX:=yq (bR.grows (w:=w) growsR hx);clear hp hx)
 go_returns
 exact⟨a1,c1,rfl,HP.out,HX.out⟩
theorem Pv{S:Nat->Prop}{N base g:Nat}{w:World}{v vs ve:Value}{l:List Ins}{sl:List ByteArray}(n d m:Int)(s:ByteArray)(hk:jd s=none)(hs:s∈sl)(h:bL S N base g w v vs l sl)(hl:l.length<=1000000) :
 Calls prog 107 #[.pointer (some ⟨g,0,none⟩),.agg #[.int .i64 2,.int .i64 n,.int .i64 d,.int .i64 m,.string s,ve]] w (mM (.tuple #[]) S N base g w v vs (l++[⟨3,slK sl s,0,0⟩]) sl):=by
 have HII:Hid (pK vQ s= -1):=yq (by rw [Cq];unfold Md;rw [hk]);have HIS:Hid (pK sl s=(slK sl s:Nat)):=yq (by unfold pK;rw [if_pos (any_eq_true.2 ⟨s,hs,by simp⟩)]);have HT:=yq h.pre.sl.txt;have HE:=yq (fun W (hg:w.Grows W)=>jk 3 (slK sl s:Nat) (h.grows hg) hl);have hgl:=h.glt;have x1:=h.c1;obtain⟨sa,sc,rfl⟩:=h.pre.sl.txt.form;generalize(slK sl s)=k at *;clear h hl hk hs
 go_enter func107,ntmps107
 go_upto_region 12 with fail
 refine TS.begin [4] (World.Grows ((w.alloc (.cells #[.int .i64 2,.int .i64 n,.int .i64 d,.int .i64 m,.string s,ve] 27)))) ze ze grows_drew0 (fun hS=>?_);refine kq 1 hS ?_;refine kq 2 hS ?_;refine TS.one (i:=0) ze rfl (fun K1 hK1=>?_);have HK1:=yq hK1;clear hK1 hS;dsimp only [getElem_toArray,getElem_cons_succ,getElem_cons_zero]
 go_simp
 go_at_call 153
 refine(rU _).mono ?_;rintro e' w' ⟨g0,rfl,⟨bs,d0,rfl⟩,ty,hh⟩;have HH:=yq (Gr hh);clear hh;refine TS.go HK1.out growsR (fun hS=>?_);clear HK1 K1
 (try simp only [nS])
 refine TS.one (i:=3) ze rfl (fun K1 hK1=>?_);have HK1:=yq hK1;clear hK1 hS;dsimp only [getElem_toArray,getElem_cons_succ,getElem_cons_zero]
 go_simp
 go_at_call 71
 refine(kD vQ s _ _ (HH.out.grows growsR)).mono ?_;rintro e' w' ⟨rfl,⟨bs1,d1,rfl⟩⟩;rw [HII.out];refine TS.go HK1.out growsR (fun hS=>?_);clear HK1 K1
 (try simp only [nS])
 refine TS.weB 4 ?_;clear hS
 go_upto_region 15 with fail
 refine TS.begin [8] (World.Grows ((w.alloc (.cells #[.int .i64 2,.int .i64 n,.int .i64 d,.int .i64 m,.string s,ve] 27)))) ze ze growsR (fun hS=>?_);refine kq 0 hS ?_;refine kq 1 hS ?_;refine kq 2 hS ?_;refine kq 3 hS ?_;refine kq 4 hS ?_;refine kq 5 hS ?_;refine kq 6 hS ?_;refine TS.one (i:=7) ze rfl (fun K1 hK1=>?_);have HK1:=yq hK1;clear hK1 hS;dsimp only [getElem_toArray,getElem_cons_succ,getElem_cons_zero]
 go_simp
 go_at_call 71
 refine(kD sl s _ _ (HT.out.grows growsR)).mono ?_;rintro e' w' ⟨rfl,⟨bs2,d2,rfl⟩⟩;rw [HIS.out];refine TS.go HK1.out growsR (fun hS=>?_);clear HK1 K1
 (try simp only [nS])
 refine TS.one (i:=8) ze rfl (fun K1 hK1=>?_);have HK1:=yq hK1;clear hK1 hS;dsimp only [getElem_toArray,getElem_cons_succ,getElem_cons_zero]
 go_simp
 go_at_call 70
 refine(HE.out _ growsR).mono ?_;rintro e' w1 ⟨a1,c1,rfl,hp,hx⟩;have HP:=yq hp;have HX:=yq (bR.grows (w:=w) growsR hx);clear hp hx;refine HK1.out _ _ (fun h=>absurd zf h) (TS.done ze ?_);clear HK1 K1
 (try simp only [nS])
 go_wp2_with fail
 go_returns
 exact⟨a1,c1,rfl,HP.out,HX.out⟩
theorem RB{S:Nat->Prop}{N base g:Nat}{w:World}{v vs ve:Value}{l:List Ins}{sl:List ByteArray}(e:Ex)(ho:0<=e.op/\e.op<=100)(o1:e.op≠1)(o2:e.op≠2)(o3:e.op≠3)(o17:e.op≠17)(o18:e.op≠18)(o21:e.op≠21)
 (hIH:∀k,k<e.args.length->vH sl (e.arg k)) (h:bL S N base g w v vs l sl) (hr:ax S w e ve) (hl:l.length+(fw (bP (slK sl) e.args) l.length).length+1<=1000000) (hal:e.args.length<=1000) :
 Calls prog 107 #[.pointer (some ⟨g,0,none⟩),exV e ve] w (mM (.tuple #[]) S N base g w v vs (l++(fw (bP (slK sl) e.args) l.length++[⟨lH e.op,0,0,0⟩])) sl):=by
 obtain⟨ea,ec,rfl⟩:=hr.form0;have h0:GSt S N base g ((w.alloc (.cells #[.int .i64 e.op,.int .i64 e.num,.int .i64 e.den,.int .i64 e.dim,.string e.name,.slice ea e.args.length ec] 27))) ((w.alloc (.cells #[.int .i64 e.op,.int .i64 e.num,.int .i64 e.den,.int .i64 e.dim,.string e.name,.slice ea e.args.length ec] 27))) v v vs l sl e ea ec:=⟨h.grows growsR,bR.of (.refl _),hr.grows growsR⟩;have HS0:=yq h0;have HNW:=yq h.new;have HNG:Hid (w.heap.size≠g):=yq yp;have HL:=yq hl;have HIH:=yq hIH;have q1:(e.op==1)=false:=by simpa using o1
 have q2:(e.op==2)=false:=by simpa using o2
 have q3:(e.op==3)=false:=by simpa using o3
 have q17:(e.op==17)=false:=by simpa using o17
 have q18:(e.op==18)=false:=by simpa using o18
 have q21:(e.op==21)=false:=by simpa using o21
 have HO:=yq ho;clear hIH h hr hl o1 o2 o3 o17 o18 o21 h0 ho;unfold exV
 go_enter func107,ntmps107
 go_wp2_with fail
 go_loopw [13] (fun v13 wr=>∃k:Nat,k<=e.args.length/\v13= .int .i64 k/\∃vr,Hid (GSt S N base g ((w.alloc (.cells #[.int .i64 e.op,.int .i64 e.num,.int .i64 e.den,.int .i64 e.dim,.string e.name,.slice ea e.args.length ec] 27))) wr v vr vs (l++fw ((bP (slK sl) e.args).take k) l.length) sl e ea ec)) (fun v13 _=>e.args.length-(intOf v13).toNat)
 case atStart=>exact⟨0,by omega,rfl,v,yq (by simpa [fw]using HS0.out)⟩
 case round=>
  obtain⟨k,hk,rfl,vr,HST⟩:=hrel;have hbx:=HST.out.box HNW.out HNG.out;have x0:=cell_of_row wr _ 0 _ _ _ hbx;have x5:=cell_of_row wr _ 5 _ _ _ hbx;have hbl:=(Array.getElem?_eq_some_iff.1 hbx).1;clear hbx;by_cases hlt:k<e.args.length
  ·have d1:(k:Int)<(e.args.length:Int):=by omega
   obtain⟨b,off,rfl,hb,hx⟩:=HST.out.arg zb;obtain⟨ak,ck,⟨y0,y1,y2,y3,y4,y5⟩,hra⟩:=hx k hlt;have hcl:=uX (slK sl) e.args k hlt;have hst:=wK _ k l.length _ hcl;have hsl:=wL (bP (slK sl) e.args) (k+1) l.length;rw [hst,length_append]at hsl;have hlen:(l++fw ((bP (slK sl) e.args).take k) l.length).length=l.length+(fw ((bP (slK sl) e.args).take k) l.length).length:=length_append;have HC:=yq ((HST.out.grows (W:=((wr.alloc (.cells #[.int .i64 (e.arg k).op,.int .i64 (e.arg k).num,.int .i64 (e.arg k).den,.int .i64 (e.arg k).dim,.string (e.arg k).name,.slice ak (e.arg k).args.length ck] 27)))) growsR).call k _ (hra.grows growsR) (HIH.out k hlt) (by rw [hlen];have:=HL.out;show _+(codeF (slK sl) (e.args.getD k default) _).length<=_;omega))
   have heq:(l++fw ((bP (slK sl) e.args).take k) l.length)++codeF (slK sl) (e.arg k) (l++fw ((bP (slK sl) e.args).take k) l.length).length=l++fw ((bP (slK sl) e.args).take (k+1)) l.length:=by
    rw [hst,hlen,append_assoc];rfl
   have HLT:=yq hlt;rw [heq]at HC;unfold exV at HC;generalize e.arg k=a at *;clear hx hcl hst hsl hlen hk hlt hra heq HST
   go_wp2_with (go_at_call 107;refine HC.out.mono ?_;rintro e' w2 ⟨a2,c2,rfl,h2⟩;have H2:=yq h2;clear h2)
   go_roundw
   case rel=>exact⟨k+1,HLT.out,by go_num,_,H2⟩
   case measure=>simp [intOf];have:=HLT.out;omega
  ·obtain rfl:k=e.args.length:=by omega
   have hfin:fw ((bP (slK sl) e.args).take e.args.length) l.length=fw (bP (slK sl) e.args) l.length:=by rw [take_of_length_le (Nat.le_of_eq (Fs _ _))]
   rw [hfin]at HST;have HE:=yq (HST.out.emit (lH e.op) 0 (by rw [length_append];have:=HL.out;omega));rw [append_assoc]at HE;clear hk hlt hfin HST
   go_wp2_with (first
    |(go_at_call 155;refine gw (IA _ HO.out _) ?_)
    |(go_at_call 70;refine HE.out.mono ?_;rintro e' w2 ⟨a2,c2,rfl,h2⟩;have H2:=yq h2;clear h2))
   go_returns
   exact GSt.done growsR H2.out
theorem AJ{S:Nat->Prop}{N base g:Nat}{w:World}{v vs ve:Value}{L:List Ins}{sl:List ByteArray}(e:Ex)(ho:e.op=17\/e.op=18\/e.op=21)(hr:ax S w e ve)
 (hB:∀W,w.Grows W->Calls prog 154 #[.pointer (some ⟨g,0,none⟩),exV e ve] W (mM (.tuple #[]) S N base g W v vs L sl)) :
 Calls prog 107 #[.pointer (some ⟨g,0,none⟩),exV e ve] w (mM (.tuple #[]) S N base g w v vs L sl):=by
 obtain⟨ea,ec,rfl⟩:=hr.form0;have HB:=yq hB;unfold exV at HB;clear hB hr;unfold exV;rcases ho with ho|ho|ho
 focus
  have q1:(e.op==1)=false:=by rw [ho];rfl
  have q2:(e.op==2)=false:=by rw [ho];rfl
  have q3:(e.op==3)=false:=by rw [ho];rfl
  have q17:(e.op==17)=true:=by rw [ho];rfl
  have q18:(e.op==18)=false:=by rw [ho];rfl
  have q21:(e.op==21)=false:=by rw [ho];rfl
 rotate_left
 focus
  have q1:(e.op==1)=false:=by rw [ho];rfl
  have q2:(e.op==2)=false:=by rw [ho];rfl
  have q3:(e.op==3)=false:=by rw [ho];rfl
  have q17:(e.op==17)=false:=by rw [ho];rfl
  have q18:(e.op==18)=true:=by rw [ho];rfl
  have q21:(e.op==21)=false:=by rw [ho];rfl
 rotate_left
 focus
  have q1:(e.op==1)=false:=by rw [ho];rfl
  have q2:(e.op==2)=false:=by rw [ho];rfl
  have q3:(e.op==3)=false:=by rw [ho];rfl
  have q17:(e.op==17)=false:=by rw [ho];rfl
  have q18:(e.op==18)=false:=by rw [ho];rfl
  have q21:(e.op==21)=true:=by rw [ho];rfl
 rotate_left
 all_goals
  clear ho
  go_enter func107,ntmps107
  go_wp2_with (go_at_call 154;refine(HB.out _ growsR).mono ?_;rintro e' w1 ⟨a1,c1,rfl,hp,hx⟩;have HP:=yq hp;have HX:=yq (bR.grows (w:=w) growsR hx);clear hp hx)
  go_returns
  exact⟨a1,c1,rfl,HP.out,HX.out⟩
def QF(sl:List ByteArray)(e:Ex):Prop:=ay e=true->(∀s,aP s e=true->jd s=none->s∈sl)->vH sl e
theorem Pt{sl:List ByteArray}{op nn d mm:Int}{s:ByteArray}{xs:List Ex}(ih:∀a∈xs,QF sl a):QF sl (.mk op nn d mm s xs):=by
 intro hf hn S N base g w v vs ve l hp hr hl;have hnames:∀a∈xs,∀u,aP u a=true->jd u=none->u∈sl:=fun a ha u h1 h2=>hn u yB h2;rw [ay,Bool.and_eq_true,decide_eq_true_eq]at hf;obtain⟨hlen,hf⟩:=hf;have hl0:l.length<=1000000:=by omega
 rw [codeF]at hl ⊢;unfold iE at hl ⊢;by_cases h1:op=1
 ·subst h1;exact RD nn d mm s hp hl0
 by_cases h2:op=2
 ·subst h2;rw [if_neg zf,if_pos rfl];unfold BV
  cases hk:jd s with
  |some k=>exact RF nn d mm s k hk hp hl0
  |none=>exact Pv nn d mm s hk (hn s (by rw [aP];simp) hk) hp hl0
 by_cases h3:op=3
 ·subst h3;exact Pw nn d mm s hp hl0
 simp only [if_neg h1,if_neg h2,if_neg h3]at hf hl ⊢;have hfa:=jI (Bool.and_eq_true_iff.1 hf).1
 have hIH:∀k,k<xs.length->vH sl (xs.getD k default):=fun k hk=>by
  have hm:xs.getD k default∈xs:=by rw [getD_eq_getElem?_getD,getElem?_eq_getElem hk];exact getElem_mem hk
  exact ih _ hm (hfa _ hm) (hnames _ hm)
 have hop:=Nk hlen;by_cases h17:op=17
 ·subst h17;have hx:xs.length=2:=by have:aJ 17=2:=rfl;omega
  simp only [if_pos]at hl ⊢;rw [gY _ _ 0 zb,gY _ _ 1 zb]at hl ⊢;obtain⟨e1,e2⟩:=vg l (codeF (slK sl) (xs.getD 0 default)) (codeF (slK sl) (xs.getD 1 default)) (fun _=>[⟨24,0,0,0⟩]) _ _ _ _ _ _ rfl rfl rfl rfl rfl rfl;rw [<-e1];exact AJ (.mk 17 nn d mm s xs) (.inl rfl) hr fun W hg=>RG (.mk 17 nn d mm s xs) rfl hx hIH (hp.grows hg) (hr.grows hg) _ _ _ _ _ _ rfl rfl rfl rfl rfl rfl (by rw [e2];exact hl)
 by_cases h18:op=18
 ·subst h18;have hx:xs.length=2:=by have:aJ 18=2:=rfl;omega
  simp only [if_neg h17,if_pos]at hl ⊢;rw [gY _ _ 0 zb,gY _ _ 1 zb]at hl ⊢;obtain⟨e1,e2⟩:=vg l (codeF (slK sl) (xs.getD 0 default)) (fun _=>[⟨23,0,0,0⟩]) (codeF (slK sl) (xs.getD 1 default)) _ _ _ _ _ _ rfl rfl rfl rfl rfl rfl;rw [<-e1];exact AJ (.mk 18 nn d mm s xs) (.inr (.inl rfl)) hr fun W hg=>TI (.mk 18 nn d mm s xs) rfl hx hIH (hp.grows hg) (hr.grows hg) _ _ _ _ _ _ rfl rfl rfl rfl rfl rfl (by rw [e2];exact hl)
 by_cases h21:op=21
 ·subst h21;have hx:xs.length=3:=by have:aJ 21=3:=rfl;omega
  simp only [if_neg h17,if_neg h18,if_pos]at hl ⊢;rw [gY _ _ 0 zb,gY _ _ 1 zb,gY _ _ 2 zb]at hl ⊢;obtain⟨e1,e2⟩:=vg l (codeF (slK sl) (xs.getD 0 default)) (codeF (slK sl) (xs.getD 1 default)) (codeF (slK sl) (xs.getD 2 default)) _ _ _ _ _ _ rfl rfl rfl rfl rfl rfl;rw [<-e1];exact AJ (.mk 21 nn d mm s xs) (.inr (.inr rfl)) hr fun W hg=>TJ (.mk 21 nn d mm s xs) rfl hx hIH (hp.grows hg) (hr.grows hg) _ _ _ _ _ _ rfl rfl rfl rfl rfl rfl (by rw [e2];exact hl)
 simp only [if_neg h17,if_neg h18,if_neg h21]at hl ⊢;exact RB (.mk op nn d mm s xs) (by show 0<=op/\op<=100;omega) h1 h2 h3 h17 h18 h21 hIH hp hr (by rw [length_append]at hl;exact hl) (by show xs.length<=1000;omega)
mutual
theorem CK{sl:List ByteArray}:∀e:Ex,QF sl e
 | .mk _ _ _ _ _ xs=>Pt (xy xs)
theorem xy{sl:List ByteArray}:∀xs:List Ex,∀a∈xs,QF sl a
 | [],_,ha=>by cases ha
 |e::r,a,ha=>by
  rcases mem_cons.1 ha with h|ha
  ·rw [h];exact CK e
  ·exact xy r a ha
end
end Go.Proofs.YtfoefpoaomepbaaGreatDoor
