import Derived.Test.YthionhbjmheimaaDoorLUsR
import Derived.Test.YthionhbjmheimaaDoorLExp2
import Derived.Test.YthionhbjmheimaaDoorLK
set_option linter.all false
set_option maxHeartbeats 16000000
set_option maxRecDepth 1000000
namespace Go.Proofs.YthionhbjmheimaaDoor
open Go.RowKit
def LtCap(r:List (ByteArray × Int) × Int)(w:World)(e:Ending)(w':World):Prop:=∃x,e= .returned (.tuple #[x,.int .i64 r.2])∧w.Grows w'∧BindAt w' x r.1∧∀a n c,x= .slice a n c→n≤c
theorem LtCap.bad{r:List (ByteArray × Int) × Int}{c:Int}{w w':World}(h:r=([],c))(hg:w.Grows w'):LtCap r w (.returned (.tuple #[.slice none 0 0,.int .i64 c])) w':=by
 subst h;exact⟨_,rfl,hg,⟨by simp,none,0,rfl,.inl rfl⟩,fun a n c h=>by simp only [Value.slice.injEq]at h;omega⟩
theorem own_cap{w:World}{b size n:Nat}{e:TypeId}{v:Value}{xs:List Value}(h:w.ownsRow b e size v n xs):∀a m c,v= .slice a m c→m≤c:=by
 intro a m c hv
 rcases h.2 with ⟨rfl,-⟩|⟨g,cap,cur,rfl,-,-,hle,-⟩
 ·simp only [Value.slice.injEq]at hv;omega
 ·simp only [Value.slice.injEq]at hv;omega
theorem lets5_long(ls:List (ByteArray × Ex))(v:Value)(w:World)(h:LetsAt w v ls)(hl:10<ls.length):Calls Tryd.prog 25 #[v] w (LtCap (letsF ls) w):=by
 obtain⟨hl1000,la,lc,rfl,-⟩:=h
 have hn:(10:Int)<(ls.length:Int):=by omega
 have HF:Hid (letsF ls=([],7)):=Lib.hid (by unfold letsF;rw [if_pos hl])
 go_enter Tryd.func25,Tryd.ntmps25
 go_wp2_with fail
 go_returns
 exact LtCap.bad HF.out (.of_below belB)
theorem Lets5cap_any(ls:List (ByteArray × Ex))(v:Value)(w:World)(h:LetsAt w v ls)(hs:LsSmall ls):Calls Tryd.prog 25 #[v] w (LtCap (letsF ls) w):=by
 by_cases hlen:ls.length≤10
 case neg=>exact lets5_long ls v w h (by omega)
 obtain⟨i0,hi,hz0,hz1,hz2⟩:=info_parts infoB
 have HL:=Lib.hid h
 have HS:=Lib.hid hs
 obtain⟨hl1000,la,lc,rfl,-⟩:=h
 rw [letsF_len hlen]
 have hn:¬(10:Int)<(ls.length:Int):=by omega
 clear hs
 go_enter Tryd.func25,Tryd.ntmps25
 go_wp2_with fail
 go_loopw [4,5] (fun v4 v5 wr=>∃(k:Nat) (vb:Value) (env:List (ByteArray × Int)),vb=v4∧k≤ls.length∧v5= .int .i64 k∧Below w.heap.size w wr∧wr.ownsRow w.heap.size 79 2 vb k (bindL env)∧Hid (LtAt ls k env)) (fun _ v5 _=>ls.length-(intOf v5).toNat)
 case atStart=>exact⟨0,_,[],rfl,by omega,rfl,.refl _ _,World.ownsRow_nil _ _ _ _,Lib.hid (LtAt.zero ls)⟩
 case round=>
  obtain⟨k,vb,env,rfl,hk,rfl,hB,hown,HA⟩:=hrel
  obtain⟨W1,rfl⟩:∃W1,W1=wr:=⟨_,rfl⟩
  have HB:=Lib.hid hB
  have HO:=Lib.hid hown
  have HG:Hid (w.Grows W1):=Lib.hid (.of_below hB)
  have hsW:=hB.size
  by_cases hlt:k<ls.length
  ·obtain⟨-,a',c',hvv,hx⟩:=HL.out.grows HG.out
   simp only [Value.slice.injEq,true_and]at hvv
   obtain⟨rfl,rfl⟩:=hvv
   rcases hx with h0|⟨b,off,rfl,hbw,hx⟩
   ·omega
   obtain⟨uk,hsk⟩:=hx k hlt
   have hsm:=HS.out _ (getD_mem hlt)
   have HX:=Lib.hid hx
   have HTB:=Lib.hid (HA.out.bad hlt)
   have HTN:=Lib.hid (HA.out.next hlt)
   have HDU:=Lib.hid (HA.out.dup hk)
   have HEL:=Lib.hid HA.out.len
   have d1:(k:Int)<(ls.length:Int):=by omega
   generalize ht:ls.getD k default=tt at *
   obtain⟨s,ek⟩:=tt
   dsimp only at hsm
   obtain⟨y0,y1,y2,y3,y4,y5,y6,hrk⟩:=hsk
   obtain⟨ka,kc,rfl⟩:=hrk.form0
   have HRK:=Lib.hid hrk
   have HI5:=Lib.hid (Input5_any s)
   have HN5:=Lib.hid (fun w=>IsName_any s w (by have:=hsm.1;unfold maxLen;omega))
   have HIF:=Lib.hid (fun w' ve hr hv=>Infer5_any (fun _=>True) env ek (.slice ka ek.args.length kc) ve w' hr (by have:=hsm.2;omega) hv)
   have HKL:=Lib.hid hlt
   have hk10:k≤10:=by omega
   clear hx hrk hsm HA hB hown hlt hk
   dsimp only at y0 y1 y2 y3 y4 y5 y6
   by_cases hd:inpD s.toList=0
   case neg=>
    have HC:Hid (letsG ls []=([],5)):=Lib.hid (by have h5:=ltStep_word (env:=env) (e:=ek) (.inl hd);have:=HTB.out (by rw [h5];decide);rw [h5]at this;exact this)
    rw [decide_eq_true hd]at HI5
    generalize inpD s.toList=d0 at *
    exact lz14
   rw [hd]at HI5
   have HD:=Lib.hid hd
   clear hd
   cases hnb:nameB s
   case false=>
    have HC:Hid (letsG ls []=([],5)):=Lib.hid (by have h5:=ltStep_word (env:=env) (e:=ek) (.inr hnb);have:=HTB.out (by rw [h5];decide);rw [h5]at this;exact this)
    rw [hnb]at HN5
    clear hnb
    exact lz14
   rw [hnb]at HN5
   have HNB:=Lib.hid hnb
   clear hnb
   go_wp2_with ((first|(go_at_call 44;refine(HI5.out _).mono ?_;rintro e' w' ⟨rfl,rfl⟩)|(go_at_call 45;refine(HN5.out _).mono ?_;rintro e' w' ⟨rfl,rfl⟩)))
   go_loopw [8] (fun v8 wr=>∃j:Nat,j≤k∧v8= .int .i64 j∧Hid (∀i,i<j→decide ((ls.getD i default).1=s)=false)∧W1.Grows wr) (fun v8 _=>k-(intOf v8).toNat)
   case atStart=>exact⟨0,by omega,rfl,Lib.hid (fun i hi=>by omega),.refl _⟩
   case round=>
    obtain⟨j,hj,rfl,HNO,hgr⟩:=hrel
    have HG2:=Lib.hid hgr
    have HG3:Hid (w.Grows wr):=Lib.hid (World.Grows.trans' HG.out hgr)
    obtain⟨bs,d,rfl⟩:=hgr
    by_cases hjk:j<k
    ·obtain⟨uj,hsj⟩:=HX.out j (by have:=HKL.out;omega)
     have x0:=hsj.nm
     have e1:(j:Int)<(k:Int):=by omega
     have e2:(j:Int)<(ls.length:Int):=by omega
     clear hsj
     generalize hnj:(ls.getD j default).1=nj at *
     by_cases he:nj=s
     ·have he2:(nj.toList==s.toList)=true:=by rw [he];simp
      have HC:Hid (letsG ls []=([],10)):=Lib.hid (by have h5:=ltStep_dup (e:=ek) HD.out HNB.out (HDU.out s|>.trans (range_some j hjk (by rw [hnj,he];simp)));have:=HTB.out (by rw [h5];decide);rw [h5]at this;exact this)
      clear he hnj
      go_wp2_with fail
      go_region
      go_wp2_with fail
      go_returns
      exact LtCap.bad HC.out (World.Grows.trans' HG.out growsA)
     ·have he2:(nj.toList==s.toList)=false:=by rw [beq_eq_false_iff_ne];exact fun h=>he (toList_inj h)
      have HE:Hid (decide ((ls.getD j default).1=s)=false):=Lib.hid (by rw [hnj];exact decide_eq_false he)
      clear he hnj
      go_wp2_with fail
      go_region
      go_wp2_with fail
      go_roundw
      case rel=>exact⟨j+1,by omega,by go_num,Lib.hid (fun i hi=>by
       by_cases ei:i=j
       ·subst ei;exact HE.out
       ·exact HNO.out i (by omega)),growsA⟩
      case measure=>simp [intOf];omega
    ·obtain rfl:j=k:=by omega
     have HDN:Hid (env.any (fun p=>decide (p.1=s))=false):=Lib.hid ((HDU.out s).trans (range_none HNO.out))
     have HST:Hid (ltStep env (s,ek)=(inferE env ek).2):=Lib.hid (ltStep_inf HD.out HNB.out HDN.out)
     have HO2:=Lib.hid (own_grow HO.out HG2.out)
     have HBD:Hid (BindAt (W1.grow bs d) vb env):=Lib.hid (BindAt.of_own (by rw [HEL.out];exact HO2.out) (by rw [HEL.out];omega))
     have hI:=HIF.out (W1.grow bs d) vb (HRK.out.grows HG2.out) HBD.out
     generalize hr:inferE env ek=r at *
     obtain⟨dk,ck⟩:=r
     unfold InfP at hI
     dsimp only at hI HST HTN
     have HI:=Lib.hid hI
     clear hI hjk
     by_cases hc:ck=0
     ·subst hc
      have HNX:=Lib.hid (HTN.out HST.out)
      go_wp2_with (first
       |(go_at_call 46;refine HI.out.mono ?_;rintro e' w' ⟨rfl,bs2,d2,rfl⟩)
       |(at_builtin;refine wpList_append_own _ rfl _ _ 73 rfl w.heap.size 79 i0 _ 2 24 Tryd.underlying73 hi hz0 hz1 hz2 rfl (by decide) _ _ _ rfl (own_grow HO.out growsA) ⟨_,0,none⟩ 1 1 [.string s,.int .i64 dk] rfl rfl ?c1 ?c2 ?c3 ?c4 ?c5 ?_))
      case c1=>exact news_cells _ [.string s,.int .i64 dk] _ _ (by simp)
      case c2=>intro u hu;simp at hu;rcases hu with rfl|rfl<;>rfl
      case c3=>unfold maxLen;omega
      case c4=>omega
      case c5=>simp;omega
      intro v' w1 hown' hgrow _
      have HB4:=Lib.hid ((show Below w.heap.size w _ from by have:=HB.out;(exact belB)).grown hgrow (by simp;omega) (fun k hk=>(HO.out.lt k hk).1))
      have HO4:=Lib.hid hown'
      clear hown' hgrow
      go_wp2_with fail
      go_roundw
      case rel=>exact⟨j+1,_,_,rfl,HKL.out,by go_num,HB4.out,by rw [bindL_snoc];exact HO4.out,HNX⟩
      case measure=>simp [intOf];have:=HKL.out;omega
     ·have hc2:(ck !=0)=true:=by simpa using hc
      have HC:Hid (letsG ls []=([],ck)):=Lib.hid (by have:=HTB.out (by rw [HST.out];exact hc);rw [HST.out]at this;exact this)
      clear hc
      go_wp2_with (go_at_call 46;refine HI.out.mono ?_;rintro e' w' ⟨rfl,bs2,d2,rfl⟩)
      go_returns
      exact LtCap.bad HC.out (World.Grows.trans' HG.out growsA)
  ·obtain rfl:k=ls.length:=by omega
   have HD:=Lib.hid HA.out.done
   have HBD:Hid (BindAt W1 vb env):=Lib.hid (BindAt.of_own (by rw [HA.out.len];exact HO.out) (by rw [HA.out.len];omega))
   clear hB hown
   go_wp2_with fail
   go_returns
   exact⟨_,by rw [HD.out];rfl,HG.out,by rw [HD.out];exact HBD.out,own_cap HO.out⟩
theorem Lets5_any(ls:List (ByteArray × Ex))(v:Value)(w:World)(h:LetsAt w v ls)(hs:LsSmall ls):Calls Tryd.prog 25 #[v] w (LtPost (letsF ls) w):=(Lets5cap_any ls v w h hs).mono fun _ _ ⟨x,h1,h2,h3,_⟩=>⟨x,h1,h2,h3⟩
theorem needs5_any(env:List (ByteArray × Int))(e:Ex)(v ve:Value)(want:Int)(w:World)(h:RepE (fun _=>True) w e v)(hbig:e.size≤1000000)(hv:BindAt w ve env) :
 Calls Tryd.prog 26 #[exV e v,ve,.int .i64 want] w fun r w'=>r= .returned (.int .i64 (needF env e want))∧w.Grows w':=by
 have HR:=Lib.hid h
 have HV:=Lib.hid hv
 obtain⟨a,cap,rfl⟩:=h.form0
 obtain⟨-,ba,bc,rfl,-⟩:=hv
 have HI:=Lib.hid (fun w' (hg:w.Grows w')=>Infer5_any (fun _=>True) env e (.slice a e.args.length cap) (.slice ba env.length bc) w' (HR.out.grows hg) (by omega) (HV.out.grows hg))
 unfold InfP exV at HI
 have HN:Hid (needF env e want=if(inferE env e).2=0∧(inferE env e).1≠want then 6 else(inferE env e).2):=Lib.hid rfl
 generalize inferE env e=r at *
 obtain⟨d,c⟩:=r
 dsimp only at HI HN
 clear h
 by_cases hc:c=0
 ·subst hc
  by_cases hd:d=want
  ·subst hd
   have HF:Hid (needF env e d=0):=Lib.hid (by rw [HN.out];simp)
   go_enter Tryd.func26,Tryd.ntmps26
   go_wp2_with (go_at_call 46;refine(HI.out _ growsA).mono ?_;rintro e' w' ⟨rfl,bs,d',rfl⟩)
   go_returns
   exact⟨by rw [HF.out]<;>rfl,growsA⟩
  ·have hd2:(d !=want)=true:=by simpa using hd
   have HF:Hid (needF env e want=6):=Lib.hid (by rw [HN.out,if_pos ⟨rfl,hd⟩])
   clear hd
   go_enter Tryd.func26,Tryd.ntmps26
   go_wp2_with (go_at_call 46;refine(HI.out _ growsA).mono ?_;rintro e' w' ⟨rfl,bs,d',rfl⟩)
   go_returns
   exact⟨by rw [HF.out]<;>rfl,growsA⟩
 ·have hc2:(c==0)=false:=by simpa using hc
  have HF:Hid (needF env e want=c):=Lib.hid (by rw [HN.out,if_neg (fun h=>hc h.1)])
  clear hc
  go_enter Tryd.func26,Tryd.ntmps26
  go_wp2_with (go_at_call 46;refine(HI.out _ growsA).mono ?_;rintro e' w' ⟨rfl,bs,d',rfl⟩)
  go_returns
  exact⟨by rw [HF.out]<;>rfl,growsA⟩
structure VerSm(V:VerP):Prop where
 le:LsSmall V.le
 gr:∀t∈V.gr,t.2.1.size≤1000000∧t.2.2.size≤1000000
 re:∀t∈V.re,t.2.size≤1000000
def BoxV(w:World)(b:Nat)(c0 c1 c2 v3 v4 v5 v6 v7:Value):Prop:=w.heap[b]? =some (.cells #[c0,c1,c2,v3,v4,v5,v6,v7] 44 (0,0))
section
variable {w w' : World} {b : Nat} {c0 c1 c2 v3 v4 v5 v6 v7 : Value}
theorem BoxV.grows(h:BoxV w b c0 c1 c2 v3 v4 v5 v6 v7)(hg:w.Grows w'):BoxV w' b c0 c1 c2 v3 v4 v5 v6 v7:=(hg.below.block b (Array.getElem?_eq_some_iff.1 h).1).trans h
theorem BoxV.lt(h:BoxV w b c0 c1 c2 v3 v4 v5 v6 v7):b<w.heap.size:=(Array.getElem?_eq_some_iff.1 h).1
theorem BoxV.c3(h:BoxV w b c0 c1 c2 v3 v4 v5 v6 v7):w.cell? ⟨b,3,none⟩=some v3:=by rw [cell_of_row w b _ _ _ _ h];rfl
theorem BoxV.c4(h:BoxV w b c0 c1 c2 v3 v4 v5 v6 v7):w.cell? ⟨b,4,none⟩=some v4:=by rw [cell_of_row w b _ _ _ _ h];rfl
theorem BoxV.c5(h:BoxV w b c0 c1 c2 v3 v4 v5 v6 v7):w.cell? ⟨b,5,none⟩=some v5:=by rw [cell_of_row w b _ _ _ _ h];rfl
theorem BoxV.c6(h:BoxV w b c0 c1 c2 v3 v4 v5 v6 v7):w.cell? ⟨b,6,none⟩=some v6:=by rw [cell_of_row w b _ _ _ _ h];rfl
theorem BoxV.c7(h:BoxV w b c0 c1 c2 v3 v4 v5 v6 v7):w.cell? ⟨b,7,none⟩=some v7:=by rw [cell_of_row w b _ _ _ _ h];rfl
end
theorem NumsAt.open_{c:Nat}{w:World}{v:Value}{l:List Int}(h:NumsAt c w v l){i:Nat}(hi:i<l.length):∃b off cap,v= .slice (some ⟨b,off,none⟩) l.length cap∧b<w.heap.size∧∀i,i<l.length→w.cell? ⟨b,off+i*c,none⟩=some (.int .i64 (l.getD i 0)):=by
 obtain⟨-,a,cap,rfl,h0|⟨b,off,rfl,hb,hx⟩⟩:=h
 ·omega
 ·exact⟨b,off,cap,rfl,hb,hx⟩
theorem GrantsAt.nums{w:World}{v:Value}{l:List (Int × Ex × Ex)}(h:GrantsAt w v l):NumsAt 13 w v (l.map Prod.fst):=by
 obtain⟨h0,a,cap,hv,h1⟩:=h
 refine⟨by simpa using h0,a,cap,by simpa using hv,h1.imp (by simp) ?_⟩
 rintro⟨b,off,ha,hb,hc⟩
 refine⟨b,off,ha,hb,fun i hi=>?_⟩
 rw [List.length_map]at hi
 obtain⟨u,u',hu⟩:=hc i hi
 rw [hu.nm]
 simp [List.getD_eq_getElem?_getD,List.getElem?_map,List.getElem?_eq_getElem hi]
theorem RedsAt.nums{w:World}{v:Value}{l:List (Int × Ex)}(h:RedsAt w v l):NumsAt 7 w v (l.map Prod.fst):=by
 obtain⟨h0,a,cap,hv,h1⟩:=h
 refine⟨by simpa using h0,a,cap,by simpa using hv,h1.imp (by simp) ?_⟩
 rintro⟨b,off,ha,hb,hc⟩
 refine⟨b,off,ha,hb,fun i hi=>?_⟩
 rw [List.length_map]at hi
 obtain⟨u,hu⟩:=hc i hi
 rw [hu.nm]
 simp [List.getD_eq_getElem?_getD,List.getElem?_map,List.getElem?_eq_getElem hi]
theorem fst_at{β:Type}[Inhabited (Int × β)]{l:List (Int × β)}{K:List Int}(h:l.map Prod.fst=K){k:Nat}(hk:k<l.length):K.getD k 0=(l.getD k default).1:=by
 subst h
 simp [List.getD_eq_getElem?_getD,List.getElem?_map,List.getElem?_eq_getElem hk]
theorem gr_bad'{env:List (ByteArray × Int)}{l:List (Int × Ex × Ex)}{K:List Int}{k:Nat}(hK:l.map Prod.fst=K)(hk:k<l.length)(h:grStep env (K.take k) (l.getD k default)≠0):grG env (K.take k) (l.drop k)=grStep env (K.take k) (l.getD k default):=by
 subst hK;rw [←List.map_take]at h ⊢;exact gr_bad hk h
theorem gr_next'{env:List (ByteArray × Int)}{l:List (Int × Ex × Ex)}{K:List Int}{k:Nat}(hK:l.map Prod.fst=K)(hk:k<l.length)(h:grStep env (K.take k) (l.getD k default)=0):grG env (K.take k) (l.drop k)=grG env (K.take (k+1)) (l.drop (k+1)):=by
 subst hK;rw [←List.map_take]at h ⊢;rw [←List.map_take];exact gr_next hk h
theorem re_bad'{env:List (ByteArray × Int)}{l:List (Int × Ex)}{K:List Int}{k:Nat}(hK:l.map Prod.fst=K)(hk:k<l.length)(h:reStep env (K.take k) (l.getD k default)≠0):reG env (K.take k) (l.drop k)=reStep env (K.take k) (l.getD k default):=by
 subst hK;rw [←List.map_take]at h ⊢;exact re_bad hk h
theorem re_next'{env:List (ByteArray × Int)}{l:List (Int × Ex)}{K:List Int}{k:Nat}(hK:l.map Prod.fst=K)(hk:k<l.length)(h:reStep env (K.take k) (l.getD k default)=0):reG env (K.take k) (l.drop k)=reG env (K.take (k+1)) (l.drop (k+1)):=by
 subst hK;rw [←List.map_take]at h ⊢;rw [←List.map_take];exact re_next hk h
theorem gst_dup{env:List (ByteArray × Int)}{pre:List Int}{g:Int × Ex × Ex}(h:pre.contains g.1=true):grStep env pre g=10:=by unfold grStep;rw [if_pos h]
theorem gst_one{env:List (ByteArray × Int)}{pre:List Int}{g:Int × Ex × Ex}(h:pre.contains g.1=false):grStep env pre g=if needF env g.2.1 1≠0 then needF env g.2.1 1 else needF env g.2.2 4:=by unfold grStep;rw [if_neg (by rw [h];simp)]
theorem rst_dup{env:List (ByteArray × Int)}{pre:List Int}{g:Int × Ex}(h:pre.contains g.1=true):reStep env pre g=10:=by unfold reStep;rw [if_pos h]
theorem rst_one{env:List (ByteArray × Int)}{pre:List Int}{g:Int × Ex}(h:pre.contains g.1=false):reStep env pre g=needF env g.2 2:=by unfold reStep;rw [if_neg (by rw [h];simp)]
theorem Version5_any(V:VerP)(x0 x1 x2:Int)(v3 v4 v5 v6 v7:Value)(w:World)(h:VerC w V v3 v4 v5 v6 v7)(hs:VerSm V) :
 Calls Tryd.prog 13 #[.agg #[.int .i64 x0,.int .i64 x1,.int .i64 x2,v3,v4,v5,v6,v7]] w fun e w'=>e= .returned (.int .i64 (versF V))∧w.Grows w':=by
 have HV:=Lib.hid h
 have HS:=Lib.hid hs
 have HLT:=Lib.hid (fun w' (hg:w.Grows w')=>Lets5_any V.le v5 w' (h.le.grows hg) hs.le)
 unfold LtPost at HLT
 have HA:=vers_a (V:=V)
 have HB_:=vers_b (V:=V)
 have HC_:=vers_c (V:=V)
 have HD_:=vers_d (V:=V)
 have HE_:=vers_e (V:=V)
 have H3:=h.cr
 have H4:=h.se
 have H6:=h.gr.nums
 have H7:=h.re.nums
 obtain⟨K3,hK3⟩:∃K,V.cr.map Prod.fst=K:=⟨_,rfl⟩
 obtain⟨K4,hK4⟩:∃K,V.se.map Prod.fst=K:=⟨_,rfl⟩
 obtain⟨K6,hK6⟩:∃K,V.gr.map Prod.fst=K:=⟨_,rfl⟩
 obtain⟨K7,hK7⟩:∃K,V.re.map Prod.fst=K:=⟨_,rfl⟩
 rw [hK3]at H3 HB_ HC_ HD_ HE_
 rw [hK4]at H4 HC_ HD_ HE_
 rw [hK6]at H6
 rw [hK7]at H7
 have hl6:K6.length=V.gr.length:=by rw [←hK6,List.length_map]
 have hl7:K7.length=V.re.length:=by rw [←hK7,List.length_map]
 replace hK6:=Lib.hid hK6
 replace hK7:=Lib.hid hK7
 have HL6:=Lib.hid hl6
 have HL7:=Lib.hid hl7
 obtain⟨h3l,a3,k3,rfl,-⟩:=id H3
 obtain⟨h4l,a4,k4,rfl,-⟩:=id H4
 obtain⟨h5l,a5,k5,rfl,-⟩:=h.le
 obtain⟨h6l,a6,k6,rfl,-⟩:=id H6
 obtain⟨h7l,a7,k7,rfl,-⟩:=id H7
 replace H3:=Lib.hid H3
 replace H4:=Lib.hid H4
 replace H6:=Lib.hid H6
 replace H7:=Lib.hid H7
 generalize letsF V.le=L at *
 obtain⟨env,c⟩:=L
 dsimp only at HLT HA HB_ HC_ HD_ HE_
 replace HA:=Lib.hid HA
 replace HB_:=Lib.hid HB_
 replace HC_:=Lib.hid HC_
 replace HD_:=Lib.hid HD_
 replace HE_:=Lib.hid HE_
 clear h hs hK3 hK4 hl6 hl7
 by_cases hc:c=0
 case neg=>
  have hc2:(c !=0)=true:=by simpa using hc
  have HF:=Lib.hid (HA.out hc)
  clear hc
  go_enter Tryd.func13,Tryd.ntmps13
  go_wp2_with (go_at_call 25;refine(HLT.out _ growsA).mono ?_;rintro e' w' ⟨x,rfl,⟨bs,d,rfl⟩,hbd⟩)
  go_returns
  exact⟨by rw [HF.out]<;>rfl,growsA⟩
 subst hc
 go_enter Tryd.func13,Tryd.ntmps13
 go_wp2_with (go_at_call 25;refine(HLT.out _ growsA).mono ?_;rintro e' w' ⟨x,rfl,⟨bs,d,rfl⟩,hbd⟩;have HBD:=Lib.hid hbd;obtain⟨-,xa,xc,rfl,-⟩:=hbd)
 refine wp_abs (fun W hW=>?_)
 have HG:Hid (w.Grows W):=Lib.hid (by rw [←hW];exact growsA)
 have HBX:Hid (BoxV W w.heap.size (.int .i64 x0) (.int .i64 x1) (.int .i64 x2) (.slice a3 K3.length k3) (.slice a4 K4.length k4) (.slice a5 V.le.length k5) (.slice a6 K6.length k6) (.slice a7 K7.length k7)):=Lib.hid (by rw [←hW];exact(World.heap_grow _ _ _ (by simp)).trans (heap_new _ _ _ rfl))
 have HEV:Hid (BindAt W (.slice xa env.length xc) env):=Lib.hid (by rw [←hW];exact HBD.out)
 clear hW HBD HLT HA
 go_loopw [5] (fun v4 wr=>∃i:Nat,i≤K3.length∧v4= .int .i64 i∧Hid (dupG [] K3=dupG (K3.take i) (K3.drop i))∧W.Grows wr) (fun v4 _=>K3.length-(intOf v4).toNat)
 case atStart=>exact⟨0,by omega,rfl,Lib.hid rfl,.refl _⟩
 case round=>
  obtain⟨i,hi,rfl,HAT,hgr⟩:=hrel
  obtain⟨W1,rfl⟩:∃W1,W1=wr:=⟨_,rfl⟩
  have HG1:=Lib.hid hgr
  have HBX1:=Lib.hid (HBX.out.grows hgr)
  have q3:=HBX1.out.lt
  have q0:=HBX1.out.c3
  clear hgr
  by_cases hlt:i<K3.length
  ·have HKL:=Lib.hid hlt
   have d1:(i:Int)<(K3.length:Int):=by omega
   clear hlt
   go_wp2_with fail
   go_loopw [6] (fun vj wr=>∃j:Nat,j≤i∧vj= .int .i64 j∧Hid (∀t,t<j→decide (K3.getD t 0=K3.getD i 0)=false)∧W1.Grows wr) (fun vj _=>i-(intOf vj).toNat)
   case atStart=>exact⟨0,by omega,rfl,Lib.hid (fun t ht=>by omega),.refl _⟩
   case round=>
    obtain⟨j,hj,rfl,HNO,hgr⟩:=hrel
    have HG2:=Lib.hid (World.Grows.trans' HG1.out hgr)
    have HG3:=Lib.hid hgr
    have HBX2:=Lib.hid (HBX.out.grows HG2.out)
    by_cases hji:j<i
    ·obtain⟨b,off,kcap,hkv,hkb,hkx⟩:=(H3.out.grows (World.Grows.trans' HG.out HG2.out)).open_ HKL.out
     have q0:=HBX2.out.c3
     rw [hkv]at q0
     have q1:=hkx j (by have:=HKL.out;omega)
     have q2:=hkx i HKL.out
     have q3:=HBX2.out.lt
     have e1:(j:Int)<(i:Int):=by omega
     have e2:(j:Int)<(K3.length:Int):=by have:=HKL.out;omega
     have e3:(i:Int)<(K3.length:Int):=by have:=HKL.out;omega
     clear hkv hkx hgr
     by_cases he:K3.getD j 0=K3.getD i 0
     ·have HHAS:Hid ((K3.take i).contains (K3.getD i 0)=true):=Lib.hid (by rw [take_has (by have:=HKL.out;omega)];exact range_some j hji (decide_eq_true he))
      rw [he]at q1
      have HF:Hid (versF V=10):=Lib.hid (HB_.out trivial (by rw [HAT.out,dup_at HKL.out,HHAS.out,Bool.true_or]))
      generalize K3.getD i 0=z at *
      clear he HNO
      go_wp2_with fail
      go_region
      go_wp2_with fail
      go_returns
      exact⟨by rw [HF.out]<;>rfl,World.Grows.trans' HG.out (World.Grows.trans' HG2.out growsA)⟩
     ·have he2:(K3.getD j 0==K3.getD i 0)=false:=by simpa using he
      have HE:Hid (decide (K3.getD j 0=K3.getD i 0)=false):=Lib.hid (decide_eq_false he)
      obtain⟨zj,hzj⟩:∃z,K3.getD j 0=z:=⟨_,rfl⟩
      obtain⟨zi,hzi⟩:∃z,K3.getD i 0=z:=⟨_,rfl⟩
      rw [hzj]at q1 he he2
      rw [hzi]at q2 he he2
      clear hzj hzi
      go_wp2_with fail
      go_region
      go_wp2_with fail
      go_roundw
      case rel=>exact⟨j+1,by omega,by go_num,Lib.hid (fun t ht=>by
       by_cases et:t=j
       ·subst et;exact HE.out
       ·exact HNO.out t (by omega)),World.Grows.trans' HG3.out growsA⟩
      case measure=>simp [intOf];omega
    ·obtain rfl:j=i:=by omega
     have HHAS:Hid ((K3.take j).contains (K3.getD j 0)=false):=Lib.hid (by rw [take_has (by have:=HKL.out;omega)];exact range_none HNO.out)
     clear HNO hji hj
     have HNX:Hid (dupG [] K3=dupG (K3.take (j+1)) (K3.drop (j+1))):=Lib.hid (by rw [HAT.out,dup_at HKL.out,HHAS.out,Bool.false_or])
     go_wp2_with fail
     go_roundw
     case rel=>exact⟨j+1,HKL.out,by go_num,HNX,World.Grows.trans' HG2.out growsA⟩
     case measure=>simp [intOf];have:=HKL.out;omega
  obtain rfl:i=K3.length:=by omega
  have H3D:Hid (dupG [] K3=false):=Lib.hid (HAT.out.trans dup_end)
  clear HAT
  go_wp2_with fail
  go_loopw [7] (fun v6 wr=>∃k t:Nat,k=t+1∧(k≤K4.length∨t=0)∧v6= .int .i64 k∧Hid (∀j,j+1<k→K4.getD j 0<K4.getD (j+1) 0)∧W.Grows wr) (fun v6 _=>K4.length-(intOf v6).toNat)
  case atStart=>exact⟨1,0,rfl,.inr rfl,rfl,Lib.hid (fun j hj=>by omega),HG1.out⟩
  case round=>
   obtain⟨k,t,hkt,hk,rfl,HAS,hgr⟩:=hrel
   obtain⟨W1,rfl⟩:∃W1,W1=wr:=⟨_,rfl⟩
   have HG1:=Lib.hid hgr
   have HBX1:=Lib.hid (HBX.out.grows hgr)
   have q3:=HBX1.out.lt
   have q0:=HBX1.out.c4
   clear hgr
   by_cases hlt:k<K4.length
   ·have HKL:=Lib.hid hlt
    obtain⟨b,off,kcap,hkv,hkb,hkx⟩:=(H4.out.grows (World.Grows.trans' HG.out HG1.out)).open_ hlt
    rw [hkv]at q0
    have q1:=hkx k hlt
    have q2:=hkx t (by omega)
    have d1:(k:Int)<(K4.length:Int):=by omega
    have d2:(k:Int)-1=(t:Int):=by omega
    have d3:(t:Int)<(K4.length:Int):=by omega
    have d4:(0:Int)≤(t:Int):=by omega
    have HT:=Lib.hid hkt
    clear hkv hkx hkt hk hlt
    by_cases hle:K4.getD k 0≤K4.getD t 0
    ·have HF:Hid (versF V=1):=Lib.hid (HC_.out trivial H3D.out (asc_no (j:=t) (by rw [←HT.out];exact HKL.out) (by rw [←HT.out];exact hle)))
     generalize K4.getD k 0=y at *
     generalize K4.getD t 0=z at *
     go_wp2_with fail
     go_region
     go_wp2_with fail
     go_returns
     exact⟨by rw [HF.out]<;>rfl,World.Grows.trans' HG.out (World.Grows.trans' HG1.out growsA)⟩
    ·have HLE:=Lib.hid hle
     obtain⟨zk,hzk⟩:∃z,K4.getD k 0=z:=⟨_,rfl⟩
     obtain⟨zt,hzt⟩:∃z,K4.getD t 0=z:=⟨_,rfl⟩
     rw [hzk]at q1 hle
     rw [hzt]at q2 hle
     have hle2:zt<zk:=by omega
     clear hzk hzt
     go_wp2_with fail
     go_region
     go_wp2_with fail
     go_roundw
     case rel=>exact⟨k+1,k,rfl,.inl HKL.out,by go_num,Lib.hid (fun j hj=>by
      by_cases ej:j+1=k
      ·have:=HLE.out;have e:j=t:=by have:=HT.out;omega
       rw [ej,e];omega
      ·exact HAS.out j (by omega)),World.Grows.trans' HG1.out growsA⟩
     case measure=>simp [intOf];have:=HKL.out;omega
   have hK:ascG K4=true:=(asc_iff K4).2 fun j hj=>HAS.out j (by omega)
   have H4D:=Lib.hid hK
   have d1:¬(k:Int)<(K4.length:Int):=by omega
   have HDD:Hid (∀c,c≠0→grG env [] V.gr=c→versF V=c):=Lib.hid (fun c hc h=>by rw [←h];exact HD_.out trivial H3D.out H4D.out (by rw [h];exact hc))
   have HEE:Hid (grG env [] V.gr=0→versF V=reG env [] V.re):=Lib.hid (fun h=>HE_.out trivial H3D.out H4D.out h)
   clear HAS hK hkt hk hlt
   go_wp2_with fail
   go_loopw [8] (fun v7 wr=>∃i:Nat,i≤K6.length∧v7= .int .i64 i∧Hid (grG env [] V.gr=grG env (K6.take i) (V.gr.drop i))∧W.Grows wr) (fun v7 _=>K6.length-(intOf v7).toNat)
   case atStart=>exact⟨0,by omega,rfl,Lib.hid rfl,HG1.out⟩
   case round=>
    obtain⟨i,hi,rfl,HAT,hgr⟩:=hrel
    obtain⟨W1,rfl⟩:∃W1,W1=wr:=⟨_,rfl⟩
    have HG1:=Lib.hid hgr
    have HBX1:=Lib.hid (HBX.out.grows hgr)
    have q3:=HBX1.out.lt
    have q0:=HBX1.out.c6
    clear hgr
    by_cases hlk:i<K6.length
    ·have HKL:=Lib.hid hlk
     have hlt:i<V.gr.length:=by rw [←HL6.out];exact hlk
     have d1:(i:Int)<(K6.length:Int):=by omega
     clear hlk
     go_wp2_with fail
     go_loopw [9] (fun vj wr=>∃j:Nat,j≤i∧vj= .int .i64 j∧Hid (∀t,t<j→decide (K6.getD t 0=K6.getD i 0)=false)∧W1.Grows wr) (fun vj _=>i-(intOf vj).toNat)
     case atStart=>exact⟨0,by omega,rfl,Lib.hid (fun t ht=>by omega),.refl _⟩
     case round=>
      obtain⟨j,hj,rfl,HNO,hgr⟩:=hrel
      have HG2:=Lib.hid (World.Grows.trans' HG1.out hgr)
      have HG3:=Lib.hid hgr
      have HBX2:=Lib.hid (HBX.out.grows HG2.out)
      by_cases hji:j<i
      ·obtain⟨b,off,kcap,hkv,hkb,hkx⟩:=(H6.out.grows (World.Grows.trans' HG.out HG2.out)).open_ HKL.out
       have q0:=HBX2.out.c6
       rw [hkv]at q0
       have q1:=hkx j (by have:=HKL.out;omega)
       have q2:=hkx i HKL.out
       have q3:=HBX2.out.lt
       have e1:(j:Int)<(i:Int):=by omega
       have e2:(j:Int)<(K6.length:Int):=by have:=HKL.out;omega
       have e3:(i:Int)<(K6.length:Int):=by have:=HKL.out;omega
       clear hkv hkx hgr
       by_cases he:K6.getD j 0=K6.getD i 0
       ·have HHAS:Hid ((K6.take i).contains (K6.getD i 0)=true):=Lib.hid (by rw [take_has (by have:=HKL.out;omega)];exact range_some j hji (decide_eq_true he))
        rw [he]at q1
        have HF:Hid (versF V=10):=Lib.hid (by
         have hs:=gst_dup (env:=env) (pre:=K6.take i) (g:=V.gr.getD i default) (by rw [←fst_at hK6.out hlt];exact HHAS.out)
         exact HDD.out 10 (by decide) (HAT.out.trans ((gr_bad' (env:=env) hK6.out hlt (by rw [hs];decide)).trans hs)))
        generalize K6.getD i 0=z at *
        clear he HNO
        go_wp2_with fail
        go_region
        go_wp2_with fail
        go_returns
        exact⟨by rw [HF.out]<;>rfl,World.Grows.trans' HG.out (World.Grows.trans' HG2.out growsA)⟩
       ·have he2:(K6.getD j 0==K6.getD i 0)=false:=by simpa using he
        have HE:Hid (decide (K6.getD j 0=K6.getD i 0)=false):=Lib.hid (decide_eq_false he)
        obtain⟨zj,hzj⟩:∃z,K6.getD j 0=z:=⟨_,rfl⟩
        obtain⟨zi,hzi⟩:∃z,K6.getD i 0=z:=⟨_,rfl⟩
        rw [hzj]at q1 he he2
        rw [hzi]at q2 he he2
        clear hzj hzi
        go_wp2_with fail
        go_region
        go_wp2_with fail
        go_roundw
        case rel=>exact⟨j+1,by omega,by go_num,Lib.hid (fun t ht=>by
         by_cases et:t=j
         ·subst et;exact HE.out
         ·exact HNO.out t (by omega)),World.Grows.trans' HG3.out growsA⟩
        case measure=>simp [intOf];omega
      ·obtain rfl:j=i:=by omega
       have HHAS:Hid ((K6.take j).contains (K6.getD j 0)=false):=Lib.hid (by rw [take_has (by have:=HKL.out;omega)];exact range_none HNO.out)
       clear HNO hji hj
       obtain⟨-,a',c',hvv,hx⟩:=HV.out.gr.grows (World.Grows.trans' HG.out HG2.out)
       simp only [Value.slice.injEq]at hvv
       obtain⟨rfl,-,rfl⟩:=hvv
       rcases hx with h0|⟨b,off,rfl,hbw,hx⟩
       ·have:=hlt;omega
       obtain⟨u,u',hg⟩:=hx j hlt
       have hsm:=HS.out.gr _ (getD_mem hlt)
       have HGN:=Lib.hid (fun h=>HAT.out.trans (gr_next' (env:=env) hK6.out hlt h))
       have HGB:=Lib.hid (fun h=>HAT.out.trans (gr_bad' (env:=env) hK6.out hlt h))
       have HST:=Lib.hid (gst_one (env:=env) (pre:=K6.take j) (g:=V.gr.getD j default) (by rw [←fst_at hK6.out hlt];exact HHAS.out))
       have p0:=HBX2.out.c6
       have p1:=HBX2.out.lt
       have e3:(j:Int)<(K6.length:Int):=by have:=HKL.out;omega
       generalize V.gr.getD j default=g at *
       obtain⟨gn,ge,gp⟩:=g
       obtain⟨-,m0,m1,m2,m3,m4,m5,n0,n1,n2,n3,n4,n5,r1,r2⟩:=hg
       dsimp only at m0 m1 m2 m3 m4 m5 n0 n1 n2 n3 n4 n5 r1 r2 hsm HST HGN HGB
       obtain⟨ua,uc,rfl⟩:=r1.form0
       obtain⟨va,vc,rfl⟩:=r2.form0
       have HR1:=Lib.hid r1
       have HR2:=Lib.hid r2
       have HEW:=Lib.hid (HEV.out.grows HG2.out)
       have HN1:=Lib.hid (fun w' (hg:wr.Grows w')=>needs5_any env ge _ _ 1 w' (HR1.out.grows hg) hsm.1 (HEW.out.grows hg))
       have HN2:=Lib.hid (fun w' (hg:wr.Grows w')=>needs5_any env gp _ _ 4 w' (HR2.out.grows hg) hsm.2 (HEW.out.grows hg))
       unfold exV at HN1 HN2
       clear r1 r2 hx hlt hsm
       generalize needF env ge 1=c1 at *
       generalize needF env gp 4=c2 at *
       by_cases h1:c1=0
       case neg=>
        have hb:(c1 !=0)=true:=by simpa using h1
        have HF:Hid (versF V=c1):=Lib.hid (HDD.out c1 h1 ((HGB.out (by rw [HST.out,if_pos h1];exact h1)).trans (by rw [HST.out,if_pos h1])))
        clear h1
        go_wp2_with (go_at_call 26;first|((with_reducible refine(HN1.out _ growsA).mono ?_);rintro e' w' ⟨rfl,bs1,d1,rfl⟩)|((with_reducible refine(HN2.out _ growsA).mono ?_);rintro e' w' ⟨rfl,bs2,d2,rfl⟩))
        go_returns
        exact⟨by rw [HF.out]<;>rfl,World.Grows.trans' HG.out (World.Grows.trans' HG2.out growsA)⟩
       subst h1
       by_cases h2:c2=0
       case neg=>
        have hb:(c2 !=0)=true:=by simpa using h2
        have HF:Hid (versF V=c2):=Lib.hid (HDD.out c2 h2 ((HGB.out (by rw [HST.out,if_neg (by simp)];exact h2)).trans (by rw [HST.out,if_neg (by simp)])))
        clear h2
        go_wp2_with (go_at_call 26;first|((with_reducible refine(HN1.out _ growsA).mono ?_);rintro e' w' ⟨rfl,bs1,d1,rfl⟩)|((with_reducible refine(HN2.out _ growsA).mono ?_);rintro e' w' ⟨rfl,bs2,d2,rfl⟩))
        go_returns
        exact⟨by rw [HF.out]<;>rfl,World.Grows.trans' HG.out (World.Grows.trans' HG2.out growsA)⟩
       subst h2
       have HNX:=Lib.hid (HGN.out (by rw [HST.out,if_neg (by simp)]))
       go_wp2_with (go_at_call 26;first|((with_reducible refine(HN1.out _ growsA).mono ?_);rintro e' w' ⟨rfl,bs1,d1,rfl⟩)|((with_reducible refine(HN2.out _ growsA).mono ?_);rintro e' w' ⟨rfl,bs2,d2,rfl⟩))
       go_roundw
       case rel=>exact⟨j+1,HKL.out,by go_num,HNX,World.Grows.trans' HG2.out growsA⟩
       case measure=>simp [intOf];have:=HKL.out;omega
    obtain rfl:i=K6.length:=by omega
    have HEF:Hid (versF V=reG env [] V.re):=Lib.hid (HEE.out (HAT.out.trans (by rw [HL6.out,List.drop_length,grG])))
    clear HAT HDD HEE
    have HEE:=HEF
    clear HEF
    go_wp2_with fail
    go_loopw [12] (fun v11 wr=>∃i:Nat,i≤K7.length∧v11= .int .i64 i∧Hid (reG env [] V.re=reG env (K7.take i) (V.re.drop i))∧W.Grows wr) (fun v11 _=>K7.length-(intOf v11).toNat)
    case atStart=>exact⟨0,by omega,rfl,Lib.hid rfl,HG1.out⟩
    case round=>
     obtain⟨i,hi,rfl,HAT,hgr⟩:=hrel
     obtain⟨W1,rfl⟩:∃W1,W1=wr:=⟨_,rfl⟩
     have HG1:=Lib.hid hgr
     have HBX1:=Lib.hid (HBX.out.grows hgr)
     have q3:=HBX1.out.lt
     have q0:=HBX1.out.c7
     clear hgr
     by_cases hlk:i<K7.length
     ·have HKL:=Lib.hid hlk
      have hlt:i<V.re.length:=by rw [←HL7.out];exact hlk
      have d1:(i:Int)<(K7.length:Int):=by omega
      clear hlk
      go_wp2_with fail
      go_loopw [13] (fun vj wr=>∃j:Nat,j≤i∧vj= .int .i64 j∧Hid (∀t,t<j→decide (K7.getD t 0=K7.getD i 0)=false)∧W1.Grows wr) (fun vj _=>i-(intOf vj).toNat)
      case atStart=>exact⟨0,by omega,rfl,Lib.hid (fun t ht=>by omega),.refl _⟩
      case round=>
       obtain⟨j,hj,rfl,HNO,hgr⟩:=hrel
       have HG2:=Lib.hid (World.Grows.trans' HG1.out hgr)
       have HG3:=Lib.hid hgr
       have HBX2:=Lib.hid (HBX.out.grows HG2.out)
       by_cases hji:j<i
       ·obtain⟨b,off,kcap,hkv,hkb,hkx⟩:=(H7.out.grows (World.Grows.trans' HG.out HG2.out)).open_ HKL.out
        have q0:=HBX2.out.c7
        rw [hkv]at q0
        have q1:=hkx j (by have:=HKL.out;omega)
        have q2:=hkx i HKL.out
        have q3:=HBX2.out.lt
        have e1:(j:Int)<(i:Int):=by omega
        have e2:(j:Int)<(K7.length:Int):=by have:=HKL.out;omega
        have e3:(i:Int)<(K7.length:Int):=by have:=HKL.out;omega
        clear hkv hkx hgr
        by_cases he:K7.getD j 0=K7.getD i 0
        ·have HHAS:Hid ((K7.take i).contains (K7.getD i 0)=true):=Lib.hid (by rw [take_has (by have:=HKL.out;omega)];exact range_some j hji (decide_eq_true he))
         rw [he]at q1
         have HF:Hid (versF V=10):=Lib.hid (by
          have hs:=rst_dup (env:=env) (pre:=K7.take i) (g:=V.re.getD i default) (by rw [←fst_at hK7.out hlt];exact HHAS.out)
          exact HEE.out.trans (HAT.out.trans ((re_bad' (env:=env) hK7.out hlt (by rw [hs];decide)).trans hs)))
         generalize K7.getD i 0=z at *
         clear he HNO
         go_wp2_with fail
         go_region
         go_wp2_with fail
         go_returns
         exact⟨by rw [HF.out]<;>rfl,World.Grows.trans' HG.out (World.Grows.trans' HG2.out growsA)⟩
        ·have he2:(K7.getD j 0==K7.getD i 0)=false:=by simpa using he
         have HE:Hid (decide (K7.getD j 0=K7.getD i 0)=false):=Lib.hid (decide_eq_false he)
         obtain⟨zj,hzj⟩:∃z,K7.getD j 0=z:=⟨_,rfl⟩
         obtain⟨zi,hzi⟩:∃z,K7.getD i 0=z:=⟨_,rfl⟩
         rw [hzj]at q1 he he2
         rw [hzi]at q2 he he2
         clear hzj hzi
         go_wp2_with fail
         go_region
         go_wp2_with fail
         go_roundw
         case rel=>exact⟨j+1,by omega,by go_num,Lib.hid (fun t ht=>by
          by_cases et:t=j
          ·subst et;exact HE.out
          ·exact HNO.out t (by omega)),World.Grows.trans' HG3.out growsA⟩
         case measure=>simp [intOf];omega
       ·obtain rfl:j=i:=by omega
        have HHAS:Hid ((K7.take j).contains (K7.getD j 0)=false):=Lib.hid (by rw [take_has (by have:=HKL.out;omega)];exact range_none HNO.out)
        clear HNO hji hj
        obtain⟨-,a',c',hvv,hx⟩:=HV.out.re.grows (World.Grows.trans' HG.out HG2.out)
        simp only [Value.slice.injEq]at hvv
        obtain⟨rfl,-,rfl⟩:=hvv
        rcases hx with h0|⟨b,off,rfl,hbw,hx⟩
        ·have:=hlt;omega
        obtain⟨u,hg⟩:=hx j hlt
        have hsm:=HS.out.re _ (getD_mem hlt)
        have HGN:=Lib.hid (fun h=>HAT.out.trans (re_next' (env:=env) hK7.out hlt h))
        have HGB:=Lib.hid (fun h=>HAT.out.trans (re_bad' (env:=env) hK7.out hlt h))
        have HST:=Lib.hid (rst_one (env:=env) (pre:=K7.take j) (g:=V.re.getD j default) (by rw [←fst_at hK7.out hlt];exact HHAS.out))
        have p0:=HBX2.out.c7
        have p1:=HBX2.out.lt
        have e3:(j:Int)<(K7.length:Int):=by have:=HKL.out;omega
        generalize V.re.getD j default=g at *
        obtain⟨gn,ge⟩:=g
        obtain⟨-,m0,m1,m2,m3,m4,m5,r1⟩:=hg
        dsimp only at m0 m1 m2 m3 m4 m5 r1 hsm HST HGN HGB
        obtain⟨ua,uc,rfl⟩:=r1.form0
        have HR1:=Lib.hid r1
        have HEW:=Lib.hid (HEV.out.grows HG2.out)
        have HN1:=Lib.hid (fun w' (hg:wr.Grows w')=>needs5_any env ge _ _ 2 w' (HR1.out.grows hg) hsm (HEW.out.grows hg))
        have HN2:=HN1
        unfold exV at HN1
        clear r1 hx hlt hsm
        generalize needF env ge 2=c1 at *
        by_cases h1:c1=0
        case neg=>
         have hb:(c1 !=0)=true:=by simpa using h1
         have HF:Hid (versF V=c1):=Lib.hid (HEE.out.trans ((HGB.out (by rw [HST.out];exact h1)).trans HST.out))
         clear h1
         go_wp2_with (go_at_call 26;first|((with_reducible refine(HN1.out _ growsA).mono ?_);rintro e' w' ⟨rfl,bs1,d1,rfl⟩)|((with_reducible refine(HN2.out _ growsA).mono ?_);rintro e' w' ⟨rfl,bs2,d2,rfl⟩))
         go_returns
         exact⟨by rw [HF.out]<;>rfl,World.Grows.trans' HG.out (World.Grows.trans' HG2.out growsA)⟩
        subst h1
        have HNX:=Lib.hid (HGN.out HST.out)
        go_wp2_with (go_at_call 26;first|((with_reducible refine(HN1.out _ growsA).mono ?_);rintro e' w' ⟨rfl,bs1,d1,rfl⟩)|((with_reducible refine(HN2.out _ growsA).mono ?_);rintro e' w' ⟨rfl,bs2,d2,rfl⟩))
        go_roundw
        case rel=>exact⟨j+1,HKL.out,by go_num,HNX,World.Grows.trans' HG2.out growsA⟩
        case measure=>simp [intOf];have:=HKL.out;omega
     obtain rfl:i=K7.length:=by omega
     have HF:Hid (versF V=0):=Lib.hid (HEE.out.trans (HAT.out.trans (by rw [HL7.out,List.drop_length,reG])))
     clear HAT HEE
     go_wp2_with fail
     go_returns
     exact⟨by rw [HF.out]<;>rfl,World.Grows.trans' HG.out (World.Grows.trans' HG1.out growsA)⟩
end Go.Proofs.YthionhbjmheimaaDoor
