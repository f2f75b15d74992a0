import Derived.Test.YtlheailebbngiaaGreatDoorNTypV
import Derived.Test.YtlheailebbngiaaGreatDoorNUsR
import Derived.Test.YtlheailebbngiaaGreatDoorNTyG
set_option linter.all false
set_option maxHeartbeats 16000000
set_option maxRecDepth 1000000
namespace Go.Proofs.YtlheailebbngiaaGreatDoor
open Go.RowKit
def LsSmall(ls:List (ByteArray × Ex)):Prop:=∀t∈ls,t.1.size≤140737488355328∧t.2.size≤1000000
def LtPost(r:List (ByteArray × Int) × Int)(w:World)(e:Ending)(w':World):Prop:=∃x,e= .returned (.tuple #[x,.int .i64 r.2])∧w.Grows w'∧BindAt w' x r.1
theorem LtPost.bad{r:List (ByteArray × Int) × Int}{c:Int}{w w':World}(h:r=([],c))(hg:w.Grows w'):LtPost r w (.returned (.tuple #[.slice none 0 0,.int .i64 c])) w':=by
 subst h;exact⟨_,rfl,hg,by simp,none,0,rfl,.inl rfl⟩
theorem ltStep_word{env:List (ByteArray × Int)}{s:ByteArray}{e:Ex}(h:inpD s.toList≠0∨nameB s=false):ltStep env (s,e)=5:=by unfold ltStep;rw [if_pos h]
theorem ltStep_dup{env:List (ByteArray × Int)}{s:ByteArray}{e:Ex}(h:inpD s.toList=0)(h2:nameB s=true)(h3:env.any (fun p=>decide (p.1=s))=true):ltStep env (s,e)=10:=by
 unfold ltStep;rw [if_neg (by rw [h2];simp [h]),if_pos h3]
theorem ltStep_inf{env:List (ByteArray × Int)}{s:ByteArray}{e:Ex}(h:inpD s.toList=0)(h2:nameB s=true)(h3:env.any (fun p=>decide (p.1=s))=false):ltStep env (s,e)=(inferE env e).2:=by
 unfold ltStep;rw [if_neg (by rw [h2];simp [h]),if_neg (by rw [h3];simp)]
theorem getD_mem{α:Type}[Inhabited α]{l:List α}{k:Nat}(h:k<l.length):l.getD k default∈l:=by
 rw [List.getD_eq_getElem?_getD,List.getElem?_eq_getElem h];exact List.getElem_mem h
theorem range_none{k:Nat}{p:Nat→Bool}(h:∀j,j<k→p j=false):(List.range k).any p=false:=by
 rw [Bool.eq_false_iff];intro hc;obtain⟨j,hj,hp⟩:=List.any_eq_true.1 hc;rw [h j (List.mem_range.1 hj)]at hp;cases hp
theorem range_some{k:Nat}{p:Nat→Bool}(j:Nat)(h:j<k)(hp:p j=true):(List.range k).any p=true:=List.any_eq_true.2 ⟨j,List.mem_range.2 h,hp⟩
theorem any_bd(env:List (ByteArray × Int))(s:ByteArray):((List.range env.length).any fun k=>decide (bdN env k=s))=env.any fun p=>decide (p.1=s):=by
 rw [Bool.eq_iff_iff,List.any_eq_true,List.any_eq_true];constructor
 ·rintro⟨k,hk,hp⟩;have hk:=List.mem_range.1 hk;refine⟨env[k],List.getElem_mem hk, ?_⟩;unfold bdN at hp;simpa [List.getD_eq_getElem?_getD,List.getElem?_eq_getElem hk]using hp
 ·rintro⟨p,hp,hs⟩;obtain⟨k,hk,rfl⟩:=List.mem_iff_getElem.1 hp;refine⟨k,List.mem_range.2 hk, ?_⟩;unfold bdN;simpa [List.getD_eq_getElem?_getD,List.getElem?_eq_getElem hk]using hs
def LtCap(r:List (ByteArray × Int) × Int)(w:World)(e:Ending)(w':World):Prop:=∃x,e= .returned (.tuple #[x,.int .i64 r.2])∧w.Grows w'∧BindAt w' x r.1∧∀a n c,x= .slice a n c→n≤c
theorem LtCap.bad{r:List (ByteArray × Int) × Int}{c:Int}{w w':World}(h:r=([],c))(hg:w.Grows w'):LtCap r w (.returned (.tuple #[.slice none 0 0,.int .i64 c])) w':=by
 subst h;exact⟨_,rfl,hg,⟨by simp,none,0,rfl,.inl rfl⟩,fun a n c h=>by simp only [Value.slice.injEq]at h;omega⟩
theorem own_cap{w:World}{b size n:Nat}{e:TypeId}{v:Value}{xs:List Value}(h:w.ownsRow b e size v n xs):∀a m c,v= .slice a m c→m≤c:=by
 intro a m c hv;rcases h.2 with ⟨rfl,-⟩|⟨g,cap,cur,rfl,-,-,hle,-⟩
 ·simp only [Value.slice.injEq]at hv;omega
 ·simp only [Value.slice.injEq]at hv;omega
theorem lets5_long(ls:List (ByteArray × Ex))(v:Value)(w:World)(h:LetsAt w v ls)(hl:10<ls.length):Calls Tryz.prog 45 #[v] w (LtCap (letsF ls) w):=by
 obtain⟨hl1000,la,lc,rfl,-⟩:=h;have hn:(10:Int)<(ls.length:Int):=by omega
 have HF:Hid (letsF ls=([],7)):=zh (by unfold letsF;rw [if_pos hl])
 go_enter Tryz.func45,Tryz.ntmps45
 go_wp2_with fail
 go_returns
 exact LtCap.bad HF.out (.of_below belB)
theorem Lets5cap_any(ls:List (ByteArray × Ex))(v:Value)(w:World)(h:LetsAt w v ls)(hs:LsSmall ls):Calls Tryz.prog 45 #[v] w (LtCap (letsF ls) w):=by
 by_cases hlen:ls.length≤10
 case neg=>exact lets5_long ls v w h (by omega)
 obtain⟨i0,hi,hz0,hz1,hz2⟩:=info_parts infoB;have HL:=zh h;have HS:=zh hs;obtain⟨hl1000,la,lc,rfl,-⟩:=h;rw [letsF_len hlen];have hn:¬(10:Int)<(ls.length:Int):=by omega
 clear hs
 go_enter Tryz.func45,Tryz.ntmps45
 go_wp2_with fail
 go_loopw [4,5] (fun v4 v5 wr=>∃(k:Nat) (vb:Value) (env:List (ByteArray × Int)),vb=v4∧k≤ls.length∧v5= .int .i64 k∧Below w.heap.size w wr∧wr.ownsRow w.heap.size 64 2 vb k (bindL env)∧Hid (LtAt ls k env)) (fun _ v5 _=>ls.length-(intOf v5).toNat)
 case atStart=>exact⟨0,_,[],rfl,by omega,rfl,.refl _ _,World.ownsRow_nil _ _ _ _,zh (LtAt.zero ls)⟩
 case round=>
  obtain⟨k,vb,env,rfl,hk,rfl,hB,hown,HA⟩:=hrel;obtain⟨W1,rfl⟩:∃W1,W1=wr:=⟨_,rfl⟩;have HB:=zh hB;have HO:=zh hown;have HG:Hid (w.Grows W1):=zh (.of_below hB);have hsW:=hB.size;by_cases hlt:k<ls.length
  ·obtain⟨-,a',c',hvv,hx⟩:=HL.out.grows HG.out;simp only [Value.slice.injEq,true_and]at hvv;obtain⟨rfl,rfl⟩:=hvv;rcases hx with h0|⟨b,off,rfl,hbw,hx⟩
   ·omega
   obtain⟨uk,hsk⟩:=hx k hlt;have hsm:=HS.out _ (getD_mem hlt);have HX:=zh hx;have HTB:=zh (HA.out.bad hlt);have HTN:=zh (HA.out.next hlt);have HDU:=zh (HA.out.dup hk);have HEL:=zh HA.out.len;have d1:(k:Int)<(ls.length:Int):=by omega
   generalize ht:ls.getD k default=tt at *;obtain⟨s,ek⟩:=tt;dsimp only at hsm;obtain⟨y0,y1,y2,y3,y4,y5,y6,hrk⟩:=hsk;obtain⟨ka,kc,rfl⟩:=hrk.form0;have HRK:=zh hrk;have HI5:=zh (Input5_any s);have HN5:=zh (fun w=>IsName_any s w (by have:=hsm.1;unfold maxLen;omega));have HIF:=zh (fun w' ve hr hv=>Infer5_any (fun _=>True) env ek (.slice ka ek.args.length kc) ve w' hr (by have:=hsm.2;omega) hv);have HKL:=zh hlt;have hk10:k≤10:=by omega
   clear hx hrk hsm HA hB hown hlt hk;dsimp only at y0 y1 y2 y3 y4 y5 y6;by_cases hd:inpD s.toList=0
   case neg=>
    have HC:Hid (letsG ls []=([],5)):=zh (by have h5:=ltStep_word (env:=env) (e:=ek) (.inl hd);have:=HTB.out (by rw [h5];decide);rw [h5]at this;exact this);rw [decide_eq_true hd]at HI5;generalize inpD s.toList=d0 at *;exact nz1
   rw [hd]at HI5;have HD:=zh hd;clear hd;cases hnb:nameB s
   case false=>
    have HC:Hid (letsG ls []=([],5)):=zh (by have h5:=ltStep_word (env:=env) (e:=ek) (.inr hnb);have:=HTB.out (by rw [h5];decide);rw [h5]at this;exact this);rw [hnb]at HN5;clear hnb;exact nz1
   rw [hnb]at HN5;have HNB:=zh hnb;clear hnb
   go_wp2_with ((first|(go_at_call 49;refine(HI5.out _).mono ?_;rintro e' w' ⟨rfl,rfl⟩)|(go_at_call 89;refine(HN5.out _).mono ?_;rintro e' w' ⟨rfl,rfl⟩)))
   go_loopw [8] (fun v8 wr=>∃j:Nat,j≤k∧v8= .int .i64 j∧Hid (∀i,i<j→decide ((ls.getD i default).1=s)=false)∧W1.Grows wr) (fun v8 _=>k-(intOf v8).toNat)
   case atStart=>exact⟨0,by omega,rfl,zh (fun i hi=>by omega),.refl _⟩
   case round=>
    obtain⟨j,hj,rfl,HNO,hgr⟩:=hrel;have HG2:=zh hgr;have HG3:Hid (w.Grows wr):=zh (World.Grows.trans' HG.out hgr);obtain⟨bs,d,rfl⟩:=hgr;by_cases hjk:j<k
    ·obtain⟨uj,hsj⟩:=HX.out j (by have:=HKL.out;omega);have x0:=hsj.nm;have e1:(j:Int)<(k:Int):=by omega
     have e2:(j:Int)<(ls.length:Int):=by omega
     clear hsj;generalize hnj:(ls.getD j default).1=nj at *;by_cases he:nj=s
     ·have he2:(nj.toList==s.toList)=true:=by rw [he];simp
      have HC:Hid (letsG ls []=([],10)):=zh (by have h5:=ltStep_dup (e:=ek) HD.out HNB.out (HDU.out s|>.trans (range_some j hjk (by rw [hnj,he];simp)));have:=HTB.out (by rw [h5];decide);rw [h5]at this;exact this);clear he hnj
      go_wp2_with fail
      go_region
      go_wp2_with fail
      go_returns
      exact LtCap.bad HC.out (World.Grows.trans' HG.out growsA)
     ·have he2:(nj.toList==s.toList)=false:=by rw [beq_eq_false_iff_ne];exact fun h=>he (toList_inj h)
      have HE:Hid (decide ((ls.getD j default).1=s)=false):=zh (by rw [hnj];exact decide_eq_false he);clear he hnj
      go_wp2_with fail
      go_region
      go_wp2_with fail
      go_roundw
      case rel=>exact⟨j+1,by omega,by go_num,zh (fun i hi=>by
       by_cases ei:i=j
       ·subst ei;exact HE.out
       ·exact HNO.out i (by omega)),growsA⟩
      case measure=>simp [intOf];omega
    ·obtain rfl:j=k:=by omega
     have HDN:Hid (env.any (fun p=>decide (p.1=s))=false):=zh ((HDU.out s).trans (range_none HNO.out));have HST:Hid (ltStep env (s,ek)=(inferE env ek).2):=zh (ltStep_inf HD.out HNB.out HDN.out);have HO2:=zh (own_grow HO.out HG2.out);have HBD:Hid (BindAt (W1.grow bs d) vb env):=zh (BindAt.of_own (by rw [HEL.out];exact HO2.out) (by rw [HEL.out];omega));have hI:=HIF.out (W1.grow bs d) vb (HRK.out.grows HG2.out) HBD.out;generalize hr:inferE env ek=r at *;obtain⟨dk,ck⟩:=r;unfold InfP at hI;dsimp only at hI HST HTN;have HI:=zh hI;clear hI hjk;by_cases hc:ck=0
     ·subst hc;have HNX:=zh (HTN.out HST.out)
      go_wp2_with (first
       |(go_at_call 69;refine HI.out.mono ?_;rintro e' w' ⟨rfl,bs2,d2,rfl⟩)
       |(at_builtin;refine wpList_append_own _ rfl _ _ 54 rfl w.heap.size 64 i0 _ 2 24 Tryz.underlying54 hi hz0 hz1 hz2 rfl (by decide) _ _ _ rfl (own_grow HO.out growsA) ⟨_,0,none⟩ 1 1 [.string s,.int .i64 dk] rfl rfl ?c1 ?c2 ?c3 ?c4 ?c5 ?_))
      case c1=>exact news_cells _ [.string s,.int .i64 dk] _ _ (by simp)
      case c2=>intro u hu;simp at hu;rcases hu with rfl|rfl<;>rfl
      case c3=>unfold maxLen;omega
      case c4=>omega
      case c5=>simp;omega
      intro v' w1 hown' hgrow _;have HB4:=zh ((show Below w.heap.size w _ from by have:=HB.out;(exact belB)).grown hgrow (by simp;omega) (fun k hk=>(HO.out.lt k hk).1));have HO4:=zh hown';clear hown' hgrow
      go_wp2_with fail
      go_roundw
      case rel=>exact⟨j+1,_,_,rfl,HKL.out,by go_num,HB4.out,by rw [bindL_snoc];exact HO4.out,HNX⟩
      case measure=>simp [intOf];have:=HKL.out;omega
     ·have hc2:(ck !=0)=true:=by simpa using hc
      have HC:Hid (letsG ls []=([],ck)):=zh (by have:=HTB.out (by rw [HST.out];exact hc);rw [HST.out]at this;exact this);clear hc
      go_wp2_with (go_at_call 69;refine HI.out.mono ?_;rintro e' w' ⟨rfl,bs2,d2,rfl⟩)
      go_returns
      exact LtCap.bad HC.out (World.Grows.trans' HG.out growsA)
  ·obtain rfl:k=ls.length:=by omega
   have HD:=zh HA.out.done;have HBD:Hid (BindAt W1 vb env):=zh (BindAt.of_own (by rw [HA.out.len];exact HO.out) (by rw [HA.out.len];omega));clear hB hown
   go_wp2_with fail
   go_returns
   exact⟨_,by rw [HD.out];rfl,HG.out,by rw [HD.out];exact HBD.out,own_cap HO.out⟩
structure VerSm(V:VerP):Prop where
 le:LsSmall V.le
 gr:∀t∈V.gr,t.2.1.size≤1000000∧t.2.2.size≤1000000
 re:∀t∈V.re,t.2.size≤1000000
def BoxV(w:World)(b:Nat)(c0 c1 c2 v3 v4 v5 v6 v7:Value):Prop:=w.heap[b]? =some (.cells #[c0,c1,c2,v3,v4,v5,v6,v7] 81 (0,0))
section
variable {w w' : World} {b : Nat} {c0 c1 c2 v3 v4 v5 v6 v7 : Value}
theorem BoxV.grows(h:BoxV w b c0 c1 c2 v3 v4 v5 v6 v7)(hg:w.Grows w'):BoxV w' b c0 c1 c2 v3 v4 v5 v6 v7:=(hg.below.block b (Array.getElem?_eq_some_iff.1 h).1).trans h
theorem BoxV.lt(h:BoxV w b c0 c1 c2 v3 v4 v5 v6 v7):b<w.heap.size:=(Array.getElem?_eq_some_iff.1 h).1
theorem BoxV.c3(h:BoxV w b c0 c1 c2 v3 v4 v5 v6 v7):w.cell? ⟨b,3,none⟩=some v3:=by rw [cell_of_row w b _ _ _ _ h];rfl
theorem BoxV.c4(h:BoxV w b c0 c1 c2 v3 v4 v5 v6 v7):w.cell? ⟨b,4,none⟩=some v4:=by rw [cell_of_row w b _ _ _ _ h];rfl
theorem BoxV.c5(h:BoxV w b c0 c1 c2 v3 v4 v5 v6 v7):w.cell? ⟨b,5,none⟩=some v5:=by rw [cell_of_row w b _ _ _ _ h];rfl
theorem BoxV.c6(h:BoxV w b c0 c1 c2 v3 v4 v5 v6 v7):w.cell? ⟨b,6,none⟩=some v6:=by rw [cell_of_row w b _ _ _ _ h];rfl
theorem BoxV.c7(h:BoxV w b c0 c1 c2 v3 v4 v5 v6 v7):w.cell? ⟨b,7,none⟩=some v7:=by rw [cell_of_row w b _ _ _ _ h];rfl
end
theorem NumsAt.open_{c:Nat}{w:World}{v:Value}{l:List Int}(h:NumsAt c w v l){i:Nat}(hi:i<l.length):∃b off cap,v= .slice (some ⟨b,off,none⟩) l.length cap∧b<w.heap.size∧∀i,i<l.length→w.cell? ⟨b,off+i*c,none⟩=some (.int .i64 (l.getD i 0)):=by
 obtain⟨-,a,cap,rfl,h0|⟨b,off,rfl,hb,hx⟩⟩:=h
 ·omega
 ·exact⟨b,off,cap,rfl,hb,hx⟩
theorem GrantsAt.nums{w:World}{v:Value}{l:List (Int × Ex × Ex)}(h:GrantsAt w v l):NumsAt 13 w v (l.map Prod.fst):=by
 obtain⟨h0,a,cap,hv,h1⟩:=h;refine⟨by simpa using h0,a,cap,by simpa using hv,h1.imp (by simp) ?_⟩;rintro⟨b,off,ha,hb,hc⟩;refine⟨b,off,ha,hb,fun i hi=>?_⟩;rw [List.length_map]at hi;obtain⟨u,u',hu⟩:=hc i hi;rw [hu.nm];simp [List.getD_eq_getElem?_getD,List.getElem?_map,List.getElem?_eq_getElem hi]
theorem RedsAt.nums{w:World}{v:Value}{l:List (Int × Ex)}(h:RedsAt w v l):NumsAt 7 w v (l.map Prod.fst):=by
 obtain⟨h0,a,cap,hv,h1⟩:=h;refine⟨by simpa using h0,a,cap,by simpa using hv,h1.imp (by simp) ?_⟩;rintro⟨b,off,ha,hb,hc⟩;refine⟨b,off,ha,hb,fun i hi=>?_⟩;rw [List.length_map]at hi;obtain⟨u,hu⟩:=hc i hi;rw [hu.nm];simp [List.getD_eq_getElem?_getD,List.getElem?_map,List.getElem?_eq_getElem hi]
theorem fst_at{β:Type}[Inhabited (Int × β)]{l:List (Int × β)}{K:List Int}(h:l.map Prod.fst=K){k:Nat}(hk:k<l.length):K.getD k 0=(l.getD k default).1:=by
 subst h;simp [List.getD_eq_getElem?_getD,List.getElem?_map,List.getElem?_eq_getElem hk]
theorem gr_bad'{env:List (ByteArray × Int)}{l:List (Int × Ex × Ex)}{K:List Int}{k:Nat}(hK:l.map Prod.fst=K)(hk:k<l.length)(h:grStep env (K.take k) (l.getD k default)≠0):grG env (K.take k) (l.drop k)=grStep env (K.take k) (l.getD k default):=by
 subst hK;rw [←List.map_take]at h ⊢;exact gr_bad hk h
theorem gr_next'{env:List (ByteArray × Int)}{l:List (Int × Ex × Ex)}{K:List Int}{k:Nat}(hK:l.map Prod.fst=K)(hk:k<l.length)(h:grStep env (K.take k) (l.getD k default)=0):grG env (K.take k) (l.drop k)=grG env (K.take (k+1)) (l.drop (k+1)):=by
 subst hK;rw [←List.map_take]at h ⊢;rw [←List.map_take];exact gr_next hk h
theorem re_bad'{env:List (ByteArray × Int)}{l:List (Int × Ex)}{K:List Int}{k:Nat}(hK:l.map Prod.fst=K)(hk:k<l.length)(h:reStep env (K.take k) (l.getD k default)≠0):reG env (K.take k) (l.drop k)=reStep env (K.take k) (l.getD k default):=by
 subst hK;rw [←List.map_take]at h ⊢;exact re_bad hk h
theorem re_next'{env:List (ByteArray × Int)}{l:List (Int × Ex)}{K:List Int}{k:Nat}(hK:l.map Prod.fst=K)(hk:k<l.length)(h:reStep env (K.take k) (l.getD k default)=0):reG env (K.take k) (l.drop k)=reG env (K.take (k+1)) (l.drop (k+1)):=by
 subst hK;rw [←List.map_take]at h ⊢;rw [←List.map_take];exact re_next hk h
theorem gst_dup{env:List (ByteArray × Int)}{pre:List Int}{g:Int × Ex × Ex}(h:pre.contains g.1=true):grStep env pre g=10:=by unfold grStep;rw [if_pos h]
theorem gst_one{env:List (ByteArray × Int)}{pre:List Int}{g:Int × Ex × Ex}(h:pre.contains g.1=false):grStep env pre g=if needF env g.2.1 1≠0 then needF env g.2.1 1 else needF env g.2.2 4:=by unfold grStep;rw [if_neg (by rw [h];simp)]
theorem rst_dup{env:List (ByteArray × Int)}{pre:List Int}{g:Int × Ex}(h:pre.contains g.1=true):reStep env pre g=10:=by unfold reStep;rw [if_pos h]
theorem rst_one{env:List (ByteArray × Int)}{pre:List Int}{g:Int × Ex}(h:pre.contains g.1=false):reStep env pre g=needF env g.2 2:=by unfold reStep;rw [if_neg (by rw [h];simp)]
theorem name_valid(s:ByteArray):validB (.mk 2 0 0 0 s [])=nameB s:=by
 unfold validB;rw [formedB_eq];simp [Ex.depth,Ex.depths,Ex.size,Ex.sizes,Ex.args,Ex.op,Ex.num,Ex.den,Ex.dim,Ex.name,argsN]
theorem tyName_any(s:ByteArray)(hs:s.size≤140737488355328)(w:World)(ht:Tab w):Calls Tryz.prog 194 #[.string s] w fun e w'=>e= .returned (.bool (nameB s))∧w.Grows w':=by
 have HV:=zh (fun w (ht:Tab w)=>ValidExpr2_any (fun _=>True) (.mk 2 0 0 0 s []) (.slice none 0 0) w (zh (.mk _ none 0 (fun _=>.slice none 0 0) ⟨(show I64 (2:Int)from⟨by decide,by decide⟩),(show I64 (0:Int)from⟨by decide,by decide⟩),(show I64 (0:Int)from⟨by decide,by decide⟩),(show I64 (0:Int)from⟨by decide,by decide⟩),by simp [Ex.args],hs⟩ (.inl rfl) (fun i hi=>by simp [Ex.args]at hi))) (zh (by simp [Ex.size,Ex.sizes])) (zh ht));have HT:=zh ht;clear ht;unfold exV at HV;dsimp only [Ex.op,Ex.num,Ex.den,Ex.dim,Ex.name]at HV;rw [name_valid]at HV;generalize nameB s=b at *
 go_enter Tryz.func194,Tryz.ntmps194
 go_wp2_with (go_at_call 108;refine(HV.out _ HT.out).mono ?_;rintro e' w' ⟨rfl,bs,d,rfl⟩)
 go_returns
 exact⟨rfl,.of_below belB⟩
theorem lets2_long(ls:List (ByteArray × Ex))(v:Value)(w:World)(h:LetsAt w v ls)(hl:10<ls.length):Calls Tryz.prog 157 #[v] w (LtPost (letsF ls) w):=by
 obtain⟨hl1000,la,lc,rfl,-⟩:=h;have hn:(10:Int)<(ls.length:Int):=by omega
 have HF:Hid (letsF ls=([],7)):=zh (by unfold letsF;rw [if_pos hl])
 go_enter Tryz.func157,Tryz.ntmps157
 go_wp2_with fail
 go_returns
 exact LtPost.bad HF.out (.of_below belB)
theorem lets_clos:∀args w,(callFunc 195 args).run Tryz.prog w= .ok (.enter 195 args) w:=enters_of Tryz.func195 (by kernel_rfl) rfl
theorem ltDup_any(env:List (ByteArray × Int))(ve:Value)(s:ByteArray)(c1 c2 c3 c4 c5 c6:Value)(b:Nat)(w:World)(hb:w.heap[b]? =some (.cells #[.string s,c1,c2,c3,c4,c5,c6] 84 (0,0)))(he:BindAt w ve env) :
 Calls Tryz.prog 109 #[ve,.func (.func 195) #[] #[.pointer (some ⟨b,0,none⟩)]] w fun r w'=>r= .returned (.bool (env.any fun p=>decide (p.1=s)))∧w.Grows w':=by
 rw [←any_bd];refine containsB_any 195 #[.pointer (some ⟨b,0,none⟩)] lets_clos env ve (fun k=>decide (bdN env k=s)) w he (zh (fun k hk w2 hg=>?_));have hb2:w2.heap[b]? =some (.cells #[.string s,c1,c2,c3,c4,c5,c6] 84 (0,0)):=(hg.below.block b (Array.getElem?_eq_some_iff.1 hb).1).trans hb;have hbl:b<w2.heap.size:=(Array.getElem?_eq_some_iff.1 hb2).1;have x0:w2.cell? ⟨b,0,none⟩=some (.string s):=by rw [cell_of_row w2 b _ _ _ _ hb2];rfl
 dsimp only;generalize bdN env k=n at *;generalize bdD env k=m at *;clear hb hb2 he hg;show Calls Tryz.prog 195 #[.agg #[.string n,.int .i64 m],.pointer (some ⟨b,0,none⟩)] w2 _;by_cases hn:n=s
 ·have h2:(n.toList==s.toList)=true:=by rw [hn];simp
  have HD:Hid (decide (n=s)=true):=zh (decide_eq_true hn);clear hn
  go_enter Tryz.func195,Tryz.ntmps195
  go_wp2_with fail
  go_returns
  exact⟨ret_bool HD.out.symm,.of_below belB⟩
 ·have h2:(n.toList==s.toList)=false:=by rw [beq_eq_false_iff_ne];exact fun h=>hn (toList_in h)
  have HD:Hid (decide (n=s)=false):=zh (decide_eq_false hn);clear hn
  go_enter Tryz.func195,Tryz.ntmps195
  go_wp2_with fail
  go_returns
  exact⟨ret_bool HD.out.symm,.of_below belB⟩
theorem Lets2_any(ls:List (ByteArray × Ex))(v:Value)(w:World)(h:LetsAt w v ls)(hs:LsSmall ls)(ht:Tab w):Calls Tryz.prog 157 #[v] w (LtPost (letsF ls) w):=by
 by_cases hlen:ls.length≤10
 case neg=>exact lets2_long ls v w h (by omega)
 obtain⟨i0,hi,hz0,hz1,hz2⟩:=info_parts infoB;have HL:=zh h;have HS:=zh hs;have HT:=zh ht;obtain⟨hl1000,la,lc,rfl,-⟩:=h;rw [letsF_len hlen];have hn:¬(10:Int)<(ls.length:Int):=by omega
 clear hs ht
 go_enter Tryz.func157,Tryz.ntmps157
 go_wp2_with fail
 go_loopw [4,16] (fun v4 v16 wr=>∃(k:Nat) (vb:Value) (env:List (ByteArray × Int)),vb=v4∧k≤ls.length∧v16= .int .i64 k∧Below w.heap.size w wr∧wr.ownsRow w.heap.size 64 2 vb k (bindL env)∧Hid (LtAt ls k env)) (fun _ v16 _=>ls.length-(intOf v16).toNat)
 case atStart=>exact⟨0,_,[],rfl,by omega,rfl,.refl _ _,World.ownsRow_nil _ _ _ _,zh (LtAt.zero ls)⟩
 case round=>
  obtain⟨k,vb,env,rfl,hk,rfl,hB,hown,HA⟩:=hrel;obtain⟨W1,rfl⟩:∃W1,W1=wr:=⟨_,rfl⟩;have HB:=zh hB;have HO:=zh hown;have HG:Hid (w.Grows W1):=zh (.of_below hB);have HT1:=zh (HT.out.grows HG.out);have hsW:=hB.size;by_cases hlt:k<ls.length
  ·obtain⟨-,a',c',hvv,hx⟩:=HL.out.grows HG.out;simp only [Value.slice.injEq,true_and]at hvv;obtain⟨rfl,rfl⟩:=hvv;rcases hx with h0|⟨b,off,rfl,hbw,hx⟩
   ·omega
   obtain⟨uk,hsk⟩:=hx k hlt;have hsm:=HS.out _ (getD_mem hlt);have HTB:=zh (HA.out.bad hlt);have HTN:=zh (HA.out.next hlt);have HEL:=zh HA.out.len;have d1:(k:Int)<(ls.length:Int):=by omega
   generalize ls.getD k default=tt at *;obtain⟨s,ek⟩:=tt;dsimp only at hsm;obtain⟨y0,y1,y2,y3,y4,y5,y6,hrk⟩:=hsk;obtain⟨ka,kc,rfl⟩:=hrk.form0;have HRK:=zh hrk;have HBD:Hid (BindAt W1 vb env):=zh (BindAt.of_own (by rw [HEL.out];exact hown) (by rw [HEL.out];omega));have HI5:=zh (Input2_any s);have HN5:=zh (fun w ht=>tyName_any s hsm.1 w ht);have HDC:=zh (fun w' b hb (hg:W1.Grows w')=>ltDup_any env vb s (.int .i64 ek.op) (.int .i64 ek.num) (.int .i64 ek.den) (.int .i64 ek.dim) (.string ek.name) (.slice ka ek.args.length kc) b w' hb (HBD.out.grows hg));have HIF:=zh (fun w' (hg:W1.Grows w')=>Infer2_any (fun _=>True) env ek (.slice ka ek.args.length kc) vb w' (HRK.out.grows hg) (by have:=hsm.2;omega) (HT1.out.grows hg) (HBD.out.grows hg));unfold InfP exV at HIF;have HKL:=zh hlt;have hk10:k≤10:=by omega
   have hvf:∃va vn vc,vb= .slice va vn vc:=by obtain⟨-,a,c,h,-⟩:=HBD.out;exact⟨_,_,_,h⟩
   clear hx hrk hsm HA hB hown hlt hk;dsimp only at y0 y1 y2 y3 y4 y5 y6;by_cases hd:inpD s.toList=0
   case neg=>
    have HC:Hid (letsG ls []=([],5)):=zh (by have h5:=ltStep_word (env:=env) (e:=ek) (.inl hd);have:=HTB.out (by rw [h5];decide);rw [h5]at this;exact this);rw [decide_eq_true hd]at HI5;generalize inpD s.toList=d0 at *;exact nz0
   rw [hd]at HI5;have HD:=zh hd;clear hd;cases hnb:nameB s
   case false=>
    have HC:Hid (letsG ls []=([],5)):=zh (by have h5:=ltStep_word (env:=env) (e:=ek) (.inr hnb);have:=HTB.out (by rw [h5];decide);rw [h5]at this;exact this);rw [hnb]at HN5;clear hnb;exact nz0
   rw [hnb]at HN5;have HNB:=zh hnb;clear hnb;obtain⟨va,vn,vc,rfl⟩:=hvf;cases hdu:env.any fun p=>decide (p.1=s)
   case true=>
    have HC:Hid (letsG ls []=([],10)):=zh (by have h5:=ltStep_dup (e:=ek) HD.out HNB.out hdu;have:=HTB.out (by rw [h5];decide);rw [h5]at this;exact this);rw [hdu]at HDC;clear hdu;exact nz0
   have HST:Hid (ltStep env (s,ek)=(inferE env ek).2):=zh (ltStep_inf HD.out HNB.out hdu);rw [hdu]at HDC;clear hdu;generalize hr:inferE env ek=r at *;obtain⟨dk,ck⟩:=r;dsimp only at HIF HST HTN;clear hr;by_cases hc:ck=0
   ·subst hc;have HNX:=zh (HTN.out HST.out)
    go_wp2_with (first
     |((first|(go_at_call 47;refine(HI5.out _).mono ?_;rintro e' w' ⟨rfl,rfl⟩)|(go_at_call 194;refine(HN5.out _ (HT1.out.grows growsA)).mono ?_;rintro e' w' ⟨rfl,bs1,d1',rfl⟩)|(go_at_call 109;refine(HDC.out _ _ ((World.heap_grow _ _ _ (by simp)).trans (heap_new _ _ _ (by simp))) growsA).mono ?_;rintro e' w' ⟨rfl,bs2,d2',rfl⟩)|(go_at_call 67;refine(HIF.out _ growsA).mono ?_;rintro e' w' ⟨rfl,bs3,d3',rfl⟩)))
     |(at_builtin;refine wpList_append_own _ rfl _ _ 54 rfl w.heap.size 64 i0 _ 2 24 Tryz.underlying54 hi hz0 hz1 hz2 rfl (by decide) _ _ _ rfl (own_grow HO.out growsA) ⟨_,0,none⟩ 1 1 [.string s,.int .i64 dk] rfl rfl ?c1 ?c2 ?c3 ?c4 ?c5 ?_))
    case c1=>exact news_cells _ [.string s,.int .i64 dk] _ _ (by simp)
    case c2=>intro u hu;simp at hu;rcases hu with rfl|rfl<;>rfl
    case c3=>unfold maxLen;omega
    case c4=>omega
    case c5=>simp;omega
    intro v' w1 hown' hgrow _;have HB4:=zh ((show Below w.heap.size w _ from by have:=HB.out;(exact belB)).grown hgrow (by simp;omega) (fun k hk=>(HO.out.lt k hk).1));have HO4:=zh hown';clear hown' hgrow
    go_wp2_with fail
    go_roundw
    case rel=>exact⟨k+1,_,_,rfl,HKL.out,by go_num,HB4.out,by rw [bindL_snoc];exact HO4.out,HNX⟩
    case measure=>simp [intOf];have:=HKL.out;omega
   ·have hc2:(ck !=0)=true:=by simpa using hc
    have HC:Hid (letsG ls []=([],ck)):=zh (by have:=HTB.out (by rw [HST.out];exact hc);rw [HST.out]at this;exact this);clear hc;exact nz0
  ·obtain rfl:k=ls.length:=by omega
   have HD:=zh HA.out.done;have HBD:Hid (BindAt W1 vb env):=zh (BindAt.of_own (by rw [HA.out.len];exact HO.out) (by rw [HA.out.len];omega));clear hB hown
   go_wp2_with fail
   go_returns
   exact⟨_,by rw [HD.out];rfl,HG.out,by rw [HD.out];exact HBD.out⟩
theorem tyOf_any(env:List (ByteArray × Int))(e:Ex)(v ve:Value)(want:Int)(w:World)(h:RepE (fun _=>True) w e v)(hbig:e.size≤1000000)(ht:Tab w)(hv:BindAt w ve env) :
 Calls Tryz.prog 162 #[exV e v,ve,.int .i64 want] w fun r w'=>r= .returned (.int .i64 (needF env e want))∧w.Grows w':=by
 have HR:=zh h;have HV:=zh hv;have HT:=zh ht;obtain⟨a,cap,rfl⟩:=h.form0;obtain⟨-,ba,bc,rfl,-⟩:=hv;have HI:=zh (fun w' (hg:w.Grows w')=>Infer2_any (fun _=>True) env e (.slice a e.args.length cap) (.slice ba env.length bc) w' (HR.out.grows hg) (by omega) (HT.out.grows hg) (HV.out.grows hg));unfold InfP exV at HI;have HN:Hid (needF env e want=if(inferE env e).2=0∧(inferE env e).1≠want then 6 else(inferE env e).2):=zh rfl;generalize inferE env e=r at *;obtain⟨d,c⟩:=r;dsimp only at HI HN;clear h ht;by_cases hc:c=0
 ·subst hc;by_cases hd:d=want
  ·subst hd;have HF:Hid (needF env e d=0):=zh (by rw [HN.out];simp)
   go_enter Tryz.func162,Tryz.ntmps162
   go_wp2_with (go_at_call 67;refine(HI.out _ growsA).mono ?_;rintro e' w' ⟨rfl,bs,d',rfl⟩)
   go_returns
   exact⟨by rw [HF.out]<;>rfl,growsA⟩
  ·have hd2:(d !=want)=true:=by simpa using hd
   have HF:Hid (needF env e want=6):=zh (by rw [HN.out,if_pos ⟨rfl,hd⟩]);clear hd
   go_enter Tryz.func162,Tryz.ntmps162
   go_wp2_with (go_at_call 67;refine(HI.out _ growsA).mono ?_;rintro e' w' ⟨rfl,bs,d',rfl⟩)
   go_returns
   exact⟨by rw [HF.out]<;>rfl,growsA⟩
 ·have hc2:(c !=0)=true:=by simpa using hc
  have HF:Hid (needF env e want=c):=zh (by rw [HN.out,if_neg (fun h=>hc h.1)]);clear hc
  go_enter Tryz.func162,Tryz.ntmps162
  go_wp2_with (go_at_call 67;refine(HI.out _ growsA).mono ?_;rintro e' w' ⟨rfl,bs,d',rfl⟩)
  go_returns
  exact⟨by rw [HF.out]<;>rfl,growsA⟩
theorem cloC:∀args w,(callFunc 159 args).run Tryz.prog w= .ok (.enter 159 args) w:=enters_of Tryz.func159 (by kernel_rfl) rfl
theorem sameC_any(z y:Int)(a1 b1:Value)(b:Nat)(w:World)(hb:w.heap[b]? =some (.cells #[.int .i64 y,b1] 129 (0,0))) :
 Calls Tryz.prog 159 (#[.agg (.int .i64 z::[a1]).toArray]++#[.pointer (some ⟨b,0,none⟩)]) w fun r w'=>r= .returned (.bool (decide (z=y)))∧w.Grows w':=by
 show Calls Tryz.prog 159 #[.agg #[.int .i64 z,a1],.pointer (some ⟨b,0,none⟩)] w _;have hbl:b<w.heap.size:=(Array.getElem?_eq_some_iff.1 hb).1;have x0:w.cell? ⟨b,0,none⟩=some (.int .i64 y):=by rw [cell_of_row w b _ _ _ _ hb];rfl
 clear hb;by_cases hn:z=y
 ·have h2:(z==y)=true:=by rw [hn];simp
  have HD:Hid (decide (z=y)=true):=zh (decide_eq_true hn);clear hn
  go_enter Tryz.func159,Tryz.ntmps159
  go_wp2_with fail
  go_returns
  exact⟨ret_bool HD.out.symm,.of_below belB⟩
 ·have h2:(z==y)=false:=by simpa using hn
  have HD:Hid (decide (z=y)=false):=zh (decide_eq_false hn);clear hn
  go_enter Tryz.func159,Tryz.ntmps159
  go_wp2_with fail
  go_returns
  exact⟨ret_bool HD.out.symm,.of_below belB⟩
theorem cloG:∀args w,(callFunc 161 args).run Tryz.prog w= .ok (.enter 161 args) w:=enters_of Tryz.func161 (by kernel_rfl) rfl
theorem sameG_any(z y:Int)(a1 a2 a3 a4 a5 a6 a7 a8 a9 a10 a11 a12 b1 b2 b3 b4 b5 b6 b7 b8 b9 b10 b11 b12:Value)(b:Nat)(w:World)(hb:w.heap[b]? =some (.cells #[.int .i64 y,b1,b2,b3,b4,b5,b6,b7,b8,b9,b10,b11,b12] 97 (0,0))) :
 Calls Tryz.prog 161 (#[.agg (.int .i64 z::[a1,a2,a3,a4,a5,a6,a7,a8,a9,a10,a11,a12]).toArray]++#[.pointer (some ⟨b,0,none⟩)]) w fun r w'=>r= .returned (.bool (decide (z=y)))∧w.Grows w':=by
 show Calls Tryz.prog 161 #[.agg #[.int .i64 z,a1,a2,a3,a4,a5,a6,a7,a8,a9,a10,a11,a12],.pointer (some ⟨b,0,none⟩)] w _;have hbl:b<w.heap.size:=(Array.getElem?_eq_some_iff.1 hb).1;have x0:w.cell? ⟨b,0,none⟩=some (.int .i64 y):=by rw [cell_of_row w b _ _ _ _ hb];rfl
 clear hb;by_cases hn:z=y
 ·have h2:(z==y)=true:=by rw [hn];simp
  have HD:Hid (decide (z=y)=true):=zh (decide_eq_true hn);clear hn
  go_enter Tryz.func161,Tryz.ntmps161
  go_wp2_with fail
  go_returns
  exact⟨ret_bool HD.out.symm,.of_below belB⟩
 ·have h2:(z==y)=false:=by simpa using hn
  have HD:Hid (decide (z=y)=false):=zh (decide_eq_false hn);clear hn
  go_enter Tryz.func161,Tryz.ntmps161
  go_wp2_with fail
  go_returns
  exact⟨ret_bool HD.out.symm,.of_below belB⟩
theorem cloR:∀args w,(callFunc 164 args).run Tryz.prog w= .ok (.enter 164 args) w:=enters_of Tryz.func164 (by kernel_rfl) rfl
theorem sameR_any(z y:Int)(a1 a2 a3 a4 a5 a6 b1 b2 b3 b4 b5 b6:Value)(b:Nat)(w:World)(hb:w.heap[b]? =some (.cells #[.int .i64 y,b1,b2,b3,b4,b5,b6] 134 (0,0))) :
 Calls Tryz.prog 164 (#[.agg (.int .i64 z::[a1,a2,a3,a4,a5,a6]).toArray]++#[.pointer (some ⟨b,0,none⟩)]) w fun r w'=>r= .returned (.bool (decide (z=y)))∧w.Grows w':=by
 show Calls Tryz.prog 164 #[.agg #[.int .i64 z,a1,a2,a3,a4,a5,a6],.pointer (some ⟨b,0,none⟩)] w _;have hbl:b<w.heap.size:=(Array.getElem?_eq_some_iff.1 hb).1;have x0:w.cell? ⟨b,0,none⟩=some (.int .i64 y):=by rw [cell_of_row w b _ _ _ _ hb];rfl
 clear hb;by_cases hn:z=y
 ·have h2:(z==y)=true:=by rw [hn];simp
  have HD:Hid (decide (z=y)=true):=zh (decide_eq_true hn);clear hn
  go_enter Tryz.func164,Tryz.ntmps164
  go_wp2_with fail
  go_returns
  exact⟨ret_bool HD.out.symm,.of_below belB⟩
 ·have h2:(z==y)=false:=by simpa using hn
  have HD:Hid (decide (z=y)=false):=zh (decide_eq_false hn);clear hn
  go_enter Tryz.func164,Tryz.ntmps164
  go_wp2_with fail
  go_returns
  exact⟨ret_bool HD.out.symm,.of_below belB⟩
theorem rowC_of{w:World}{a:Option Addr}{cap n i:Nat}{K:List Int}(h:NumsAt 2 w (.slice a K.length cap) K)(hx:NumsX 2 w (.slice a K.length cap) n)(hn:n=K.length)(hi:i≤K.length)(lb:Array Value)(p:Nat→Bool)(hp:∀k z,k<i→∀w',w.Grows w'→Calls Tryz.prog 159 (#[.agg (.int .i64 (K.getD k 0)::[.int .i64 z]).toArray]++lb) w' fun r w''=>r= .returned (.bool (p k))∧w'.Grows w'') :
 RowP 2 159 lb p w (.slice a i cap) i:=by
 subst hn;obtain⟨h0,a1,c1,hv1,h1⟩:=h;obtain⟨a2,c2,hv2,h2⟩:=hx;simp only [Value.slice.injEq,true_and]at hv1 hv2;obtain⟨rfl,rfl⟩:=hv1;obtain⟨rfl,rfl⟩:=hv2;refine⟨by omega,a,cap,rfl, ?_⟩;by_cases hz:i=0
 ·exact .inl hz
 rcases h1 with h1|⟨b,off,rfl,hb,hc⟩
 ·omega
 rcases h2 with h2|⟨b',off',ha,hb',hc'⟩
 ·omega
 simp only [Option.some.injEq,Addr.mk.injEq,and_true]at ha;obtain⟨rfl,rfl⟩:=ha;refine .inr ⟨b,off,rfl,hb,fun k hk=>?_⟩;obtain⟨z,hz⟩:=hc' k (by omega) 1 (by omega);refine⟨[.int .i64 (K.getD k 0),.int .i64 z],rfl,fun j x hj=>?_,hp k z hk⟩
 match j,hj with
 |0,hj=>cases hj;exact hc k (by omega)
 |1,hj=>cases hj;exact hz
theorem rowG_of{w:World}{a:Option Addr}{cap n i:Nat}{l:List (Int × Ex × Ex)}(h:GrantsAt w (.slice a n cap) l)(hi:i≤l.length)(lb:Array Value)(p:Nat→Bool)
 (hp:∀k,k<i→∀(a1 a2 a3 a4 a5 a6 a7 a8 a9 a10 a11 a12:Value),∀w',w.Grows w'→Calls Tryz.prog 161 (#[.agg (.int .i64 (l.getD k default).1::[a1,a2,a3,a4,a5,a6,a7,a8,a9,a10,a11,a12]).toArray]++lb) w' fun r w''=>r= .returned (.bool (p k))∧w'.Grows w'') :
 RowP 13 161 lb p w (.slice a i cap) i:=by
 obtain⟨h0,a1,c1,hv1,h1⟩:=h;simp only [Value.slice.injEq]at hv1;obtain⟨rfl,rfl,rfl⟩:=hv1;refine⟨by omega,a,cap,rfl, ?_⟩;by_cases hz:i=0
 ·exact .inl hz
 rcases h1 with h1|⟨b,off,rfl,hb,hc⟩
 ·omega
 refine .inr ⟨b,off,rfl,hb,fun k hk=>?_⟩;obtain⟨u,u',g⟩:=hc k (by omega);refine⟨[.int .i64 (l.getD k default).1,.int .i64 (l.getD k default).2.1.op,.int .i64 (l.getD k default).2.1.num,.int .i64 (l.getD k default).2.1.den,.int .i64 (l.getD k default).2.1.dim,.string (l.getD k default).2.1.name,u,.int .i64 (l.getD k default).2.2.op,.int .i64 (l.getD k default).2.2.num,.int .i64 (l.getD k default).2.2.den,.int .i64 (l.getD k default).2.2.dim,.string (l.getD k default).2.2.name,u'],rfl,fun j x hj=>?_,hp k hk _ _ _ _ _ _ _ _ _ _ _ _⟩
 match j,hj with
 |0,hj=>cases hj;exact g.nm
 |1,hj=>cases hj;exact g.c0
 |2,hj=>cases hj;exact g.c1
 |3,hj=>cases hj;exact g.c2
 |4,hj=>cases hj;exact g.c3
 |5,hj=>cases hj;exact g.c4
 |6,hj=>cases hj;exact g.c5
 |7,hj=>cases hj;exact g.e0
 |8,hj=>cases hj;exact g.e1
 |9,hj=>cases hj;exact g.e2
 |10,hj=>cases hj;exact g.e3
 |11,hj=>cases hj;exact g.e4
 |12,hj=>cases hj;exact g.e5
theorem rowR_of{w:World}{a:Option Addr}{cap n i:Nat}{l:List (Int × Ex)}(h:RedsAt w (.slice a n cap) l)(hi:i≤l.length)(lb:Array Value)(p:Nat→Bool)
 (hp:∀k,k<i→∀(a1 a2 a3 a4 a5 a6:Value),∀w',w.Grows w'→Calls Tryz.prog 164 (#[.agg (.int .i64 (l.getD k default).1::[a1,a2,a3,a4,a5,a6]).toArray]++lb) w' fun r w''=>r= .returned (.bool (p k))∧w'.Grows w'') :
 RowP 7 164 lb p w (.slice a i cap) i:=by
 obtain⟨h0,a1,c1,hv1,h1⟩:=h;simp only [Value.slice.injEq]at hv1;obtain⟨rfl,rfl,rfl⟩:=hv1;refine⟨by omega,a,cap,rfl, ?_⟩;by_cases hz:i=0
 ·exact .inl hz
 rcases h1 with h1|⟨b,off,rfl,hb,hc⟩
 ·omega
 refine .inr ⟨b,off,rfl,hb,fun k hk=>?_⟩;obtain⟨u,g⟩:=hc k (by omega);refine⟨[.int .i64 (l.getD k default).1,.int .i64 (l.getD k default).2.op,.int .i64 (l.getD k default).2.num,.int .i64 (l.getD k default).2.den,.int .i64 (l.getD k default).2.dim,.string (l.getD k default).2.name,u],rfl,fun j x hj=>?_,hp k hk _ _ _ _ _ _⟩
 match j,hj with
 |0,hj=>cases hj;exact g.nm
 |1,hj=>cases hj;exact g.c0
 |2,hj=>cases hj;exact g.c1
 |3,hj=>cases hj;exact g.c2
 |4,hj=>cases hj;exact g.c3
 |5,hj=>cases hj;exact g.c4
 |6,hj=>cases hj;exact g.c5
theorem NumsX.at{c:Nat}{w:World}{b off n cap i j:Nat}(h:NumsX c w (.slice (some ⟨b,off,none⟩) n cap) n)(hi:i<n)(hj:j<c):∃z,w.cell? ⟨b,off+i*c+j,none⟩=some (.int .i64 z):=by
 obtain⟨a',cap',hv,h0|⟨b',off',rfl,hb,hc⟩⟩:=h
 ·omega
 ·simp only [Value.slice.injEq,Option.some.injEq,Addr.mk.injEq,and_true,true_and]at hv;obtain⟨⟨rfl,rfl⟩,rfl⟩:=hv;exact hc i hi j hj
theorem has_at{K:List Int}{i:Nat}(hi:i≤K.length)(y:Int):((List.range i).any fun k=>decide (K.getD k 0=y))=(K.take i).contains y:=(take_has hi).symm
theorem Version2_any(V:VerP)(x0 x1 x2:Int)(v3 v4 v5 v6 v7:Value)(w:World)(h:VerC w V v3 v4 v5 v6 v7)(hnx:NumsX 2 w v3 V.cr.length∧NumsX 3 w v4 V.se.length)(hcp:CapOk v3∧CapOk v6∧CapOk v7)(hs:VerSm V)(ht:Tab w) :
 Calls Tryz.prog 124 #[.agg #[.int .i64 x0,.int .i64 x1,.int .i64 x2,v3,v4,v5,v6,v7]] w fun e w'=>e= .returned (.int .i64 (versF V))∧w.Grows w':=by
 have HV:=zh h;have HS:=zh hs;have HT:=zh ht;have HLT:=zh (fun w' (hg:w.Grows w')=>Lets2_any V.le v5 w' (h.le.grows hg) hs.le (HT.out.grows hg));unfold LtPost at HLT;have HA:=vers_a (V:=V);have HB_:=vers_b (V:=V);have HC_:=vers_c (V:=V);have HD_:=vers_d (V:=V);have HE_:=vers_e (V:=V);have H3:=h.cr;have H4:=h.se;have H6:=h.gr.nums;have H7:=h.re.nums;obtain⟨hn3,hn4⟩:=hnx;obtain⟨K3,hK3⟩:∃K,V.cr.map Prod.fst=K:=⟨_,rfl⟩;obtain⟨K4,hK4⟩:∃K,V.se.map Prod.fst=K:=⟨_,rfl⟩;obtain⟨K6,hK6⟩:∃K,V.gr.map Prod.fst=K:=⟨_,rfl⟩;obtain⟨K7,hK7⟩:∃K,V.re.map Prod.fst=K:=⟨_,rfl⟩;rw [hK3]at H3 HB_ HC_ HD_ HE_;rw [hK4]at H4 HC_ HD_ HE_;rw [hK6]at H6;rw [hK7]at H7;have hl3:V.cr.length=K3.length:=by rw [←hK3,List.length_map]
 have hl4:V.se.length=K4.length:=by rw [←hK4,List.length_map]
 have hl6:K6.length=V.gr.length:=by rw [←hK6,List.length_map]
 have hl7:K7.length=V.re.length:=by rw [←hK7,List.length_map]
 rw [hl3]at hn3;rw [hl4]at hn4;replace hK6:=zh hK6;replace hK7:=zh hK7;have HL6:=zh hl6;have HL7:=zh hl7;obtain⟨h3l,a3,k3,rfl,-⟩:=id H3;obtain⟨h4l,a4,k4,rfl,-⟩:=id H4;obtain⟨h5l,a5,k5,rfl,-⟩:=h.le;obtain⟨h6l,a6,k6,rfl,-⟩:=id H6;obtain⟨h7l,a7,k7,rfl,-⟩:=id H7;have hk3:K3.length≤k3:=hcp.1 _ _ _ rfl;have hk6:K6.length≤k6:=hcp.2.1 _ _ _ rfl;have hk7:K7.length≤k7:=hcp.2.2 _ _ _ rfl;replace H3:=zh H3;replace H4:=zh H4;replace H6:=zh H6;replace H7:=zh H7;replace hn3:=zh hn3;replace hn4:=zh hn4;generalize letsF V.le=L at *;obtain⟨env,c⟩:=L;dsimp only at HLT HA HB_ HC_ HD_ HE_;replace HA:=zh HA;replace HB_:=zh HB_;replace HC_:=zh HC_;replace HD_:=zh HD_;replace HE_:=zh HE_;have HC3:=zh hk3;have HC6:=zh hk6;have HC7:=zh hk7;clear h hs ht hK3 hK4 hl3 hl4 hl6 hl7 hcp hk3 hk6 hk7;by_cases hc:c=0
 case neg=>
  have hc2:(c !=0)=true:=by simpa using hc
  have HF:=zh (HA.out hc);clear hc
  go_enter Tryz.func124,Tryz.ntmps124
  go_wp2_with (go_at_call 157;refine(HLT.out _ growsA).mono ?_;rintro e' w' ⟨x,rfl,⟨bs,d,rfl⟩,hbd⟩)
  go_returns
  exact⟨by rw [HF.out]<;>rfl,growsA⟩
 subst hc
 go_enter Tryz.func124,Tryz.ntmps124
 go_wp2_with (go_at_call 157;refine(HLT.out _ growsA).mono ?_;rintro e' w' ⟨x,rfl,⟨bs,d,rfl⟩,hbd⟩;have HBD:=zh hbd;obtain⟨-,xa,xc,rfl,-⟩:=hbd)
 refine wp_abs (fun W hW=>?_);have HG:Hid (w.Grows W):=zh (by rw [←hW];exact growsA);have HBX:Hid (BoxV W w.heap.size (.int .i64 x0) (.int .i64 x1) (.int .i64 x2) (.slice a3 K3.length k3) (.slice a4 K4.length k4) (.slice a5 V.le.length k5) (.slice a6 K6.length k6) (.slice a7 K7.length k7)):=zh (by rw [←hW];exact(World.heap_grow _ _ _ (by simp)).trans (heap_new _ _ _ rfl));have HEV:Hid (BindAt W (.slice xa env.length xc) env):=zh (by rw [←hW];exact HBD.out);have HTW:=zh (HT.out.grows HG.out);clear hW HBD HLT HA
 go_loopw [28] (fun v4 wr=>∃i:Nat,i≤K3.length∧v4= .int .i64 i∧Hid (dupG [] K3=dupG (K3.take i) (K3.drop i))∧W.Grows wr) (fun v4 _=>K3.length-(intOf v4).toNat)
 case atStart=>exact⟨0,by omega,rfl,zh rfl,.refl _⟩
 case round=>
  obtain⟨i,hi,rfl,HAT,hgr⟩:=hrel;obtain⟨W1,rfl⟩:∃W1,W1=wr:=⟨_,rfl⟩;have HG1:=zh hgr;have HGW:=zh (World.Grows.trans' HG.out hgr);have HBX1:=zh (HBX.out.grows hgr);have q3:=HBX1.out.lt;have q0:=HBX1.out.c3;clear hgr;by_cases hlt:i<K3.length
  ·obtain⟨b,off,kcap,hkv,hkb,hkx⟩:=(H3.out.grows HGW.out).open_ hlt;simp only [Value.slice.injEq,true_and]at hkv;obtain⟨rfl,rfl⟩:=hkv;obtain⟨z,q2⟩:=(hn3.out.grows HGW.out).at hlt (show 1<2 by omega);have q1:=hkx i hlt;have HKL:=zh hlt;have d1:(i:Int)<(K3.length:Int):=by omega
   have d9:(i:Int)≤(k3:Int):=by have:=HC3.out;omega
   have d8:i≤k3:=by have:=HC3.out;omega
   have HAD:=zh (HAT.out.trans (dup_at hlt))
   have HCF:=zh (fun w' (hg:W1.Grows w') (hb:w'.heap[W1.heap.size]? =some (.cells #[.int .i64 (K3.getD i 0),.int .i64 z] 129 (0,0)))=>by
    have:=hasC_any 159 #[.pointer (some ⟨W1.heap.size,0,none⟩)] cloC (fun k=>decide (K3.getD k 0=K3.getD i 0)) (.slice (some ⟨b,off,none⟩) i k3) i w' (rowC_of ((H3.out.grows HGW.out).grows hg) ((hn3.out.grows HGW.out).grows hg) rfl (by omega) _ _ (fun k z' hk w2 hg2=>sameC_any (K3.getD k 0) (K3.getD i 0) (.int .i64 z') (.int .i64 z) W1.heap.size w2 ((hg2.below.block _ (Array.getElem?_eq_some_iff.1 hb).1).trans hb)));rw [has_at (by omega)]at this
    exact this)
   generalize hq:(K3.take i).contains (K3.getD i 0)=q at *;generalize K3.getD i 0=y at *;clear hkx hlt hq;cases q
   case true=>
    have HF:Hid (versF V=10):=zh (HB_.out trivial (by rw [HAD.out,Bool.true_or]))
    go_wp2_with ((first|(go_at_call 158;refine(HCF.out _ growsA (by first|exact heap_new _ _ _ (by simp)|exact(World.heap_grow _ _ _ (by simp)).trans (heap_new _ _ _ (by simp)))).mono ?_;rintro e' w' ⟨rfl,bs0,d0,rfl⟩)|(go_at_call 162;first|((with_reducible refine(HN1.out _ growsA).mono ?_);rintro e' w' ⟨rfl,bs1,d1,rfl⟩)|((with_reducible refine(HN2.out _ growsA).mono ?_);rintro e' w' ⟨rfl,bs2,d2,rfl⟩))))
    go_returns
    exact⟨by rw [HF.out]<;>rfl,World.Grows.trans' HG.out (World.Grows.trans' HG1.out growsA)⟩
   have HNX:Hid (dupG [] K3=dupG (K3.take (i+1)) (K3.drop (i+1))):=zh (by rw [HAD.out,Bool.false_or])
   go_wp2_with ((first|(go_at_call 158;refine(HCF.out _ growsA (by first|exact heap_new _ _ _ (by simp)|exact(World.heap_grow _ _ _ (by simp)).trans (heap_new _ _ _ (by simp)))).mono ?_;rintro e' w' ⟨rfl,bs0,d0,rfl⟩)|(go_at_call 162;first|((with_reducible refine(HN1.out _ growsA).mono ?_);rintro e' w' ⟨rfl,bs1,d1,rfl⟩)|((with_reducible refine(HN2.out _ growsA).mono ?_);rintro e' w' ⟨rfl,bs2,d2,rfl⟩))))
   go_roundw
   case rel=>exact⟨i+1,HKL.out,by go_num,HNX,World.Grows.trans' HG1.out growsA⟩
   case measure=>simp [intOf];have:=HKL.out;omega
  obtain rfl:i=K3.length:=by omega
  have H3D:Hid (dupG [] K3=false):=zh (HAT.out.trans dup_end);clear HAT;have q4:=HBX1.out.c4
  go_wp2_with fail
  go_loopw [43] (fun v6 wr=>∃k:Nat,k≤K4.length∧v6= .int .i64 k∧Hid (∀j,j+1<k→K4.getD j 0<K4.getD (j+1) 0)∧W.Grows wr) (fun v6 _=>K4.length-(intOf v6).toNat)
  case atStart=>exact⟨0,by omega,rfl,zh (fun j hj=>by omega),HG1.out⟩
  case round=>
   obtain⟨k,hk,rfl,HAS,hgr⟩:=hrel;obtain⟨W1,rfl⟩:∃W1,W1=wr:=⟨_,rfl⟩;have HG1:=zh hgr;have HGW:=zh (World.Grows.trans' HG.out hgr);have HBX1:=zh (HBX.out.grows hgr);have q3:=HBX1.out.lt;have q0:=HBX1.out.c4;clear hgr;by_cases hlt:k<K4.length
   ·have HKL:=zh hlt;obtain⟨b,off,kcap,hkv,hkb,hkx⟩:=(H4.out.grows HGW.out).open_ hlt;simp only [Value.slice.injEq,true_and]at hkv;obtain⟨rfl,rfl⟩:=hkv;obtain⟨z1,q4⟩:=(hn4.out.grows HGW.out).at hlt (show 1<3 by omega);obtain⟨z2,q5⟩:=(hn4.out.grows HGW.out).at hlt (show 2<3 by omega);have q1:=hkx k hlt;have d1:(k:Int)<(K4.length:Int):=by omega
    by_cases hk0:k=0
    ·subst hk0;simp only [Nat.zero_mul,Nat.add_zero]at q1 q4 q5;have e1:0<K4.length:=hlt;obtain⟨y,hy⟩:∃z,K4.getD 0 0=z:=⟨_,rfl⟩;rw [hy]at q1;clear hkx hlt hk d1 hy
     go_wp2_with fail
     go_region
     go_wp2_with fail
     go_roundw
     case rel=>exact⟨1,HKL.out,by go_num,zh (fun j hj=>by omega),World.Grows.trans' HG1.out growsA⟩
     case measure=>simp [intOf];have:=HKL.out;omega
    obtain⟨t,hkt⟩:∃t,k=t+1:=⟨k-1,by omega⟩;have q2:=hkx t (by omega);have d2:(k:Int)-1=(t:Int):=by omega
    have d3:(t:Int)<(K4.length:Int):=by omega
    have d4:(0:Int)≤(t:Int):=by omega
    have d5:(0:Int)<(k:Int):=by omega
    have d6:0<k:=by omega
    have HT:=zh hkt;clear hkx hkt hk hlt hk0;by_cases hle:K4.getD k 0≤K4.getD t 0
    ·have HF:Hid (versF V=1):=zh (HC_.out trivial H3D.out (asc_no (j:=t) (by rw [←HT.out];exact HKL.out) (by rw [←HT.out];exact hle)));obtain⟨y,hy⟩:∃z,K4.getD k 0=z:=⟨_,rfl⟩;obtain⟨z,hz⟩:∃z,K4.getD t 0=z:=⟨_,rfl⟩;rw [hy]at q1 hle;rw [hz]at q2 hle;clear hy hz
     go_wp2_with fail
     go_quiet (fail)
     go_wp2_with fail
     go_returns
     exact⟨by rw [HF.out]<;>rfl,World.Grows.trans' HG.out (World.Grows.trans' HG1.out growsA)⟩
    ·have HLE:=zh hle;obtain⟨zk,hzk⟩:∃z,K4.getD k 0=z:=⟨_,rfl⟩;obtain⟨zt,hzt⟩:∃z,K4.getD t 0=z:=⟨_,rfl⟩;rw [hzk]at q1 hle;rw [hzt]at q2 hle;have hle2:zt<zk:=by omega
     clear hzk hzt
     go_wp2_with fail
     go_quiet (fail)
     go_wp2_with fail
     go_roundw
     case rel=>exact⟨k+1,HKL.out,by go_num,zh (fun j hj=>by
      by_cases ej:j+1=k
      ·have:=HLE.out;have e:j=t:=by have:=HT.out;omega
       rw [ej,e];omega
      ·exact HAS.out j (by omega)),World.Grows.trans' HG1.out growsA⟩
     case measure=>simp [intOf];have:=HKL.out;omega
   obtain rfl:k=K4.length:=by omega
   have hK:ascG K4=true:=(asc_iff K4).2 fun j hj=>HAS.out j (by omega);have H4D:=zh hK;have HDD:Hid (∀c,c≠0→grG env [] V.gr=c→versF V=c):=zh (fun c hc h=>by rw [←h];exact HD_.out trivial H3D.out H4D.out (by rw [h];exact hc));have HEE:Hid (grG env [] V.gr=0→versF V=reG env [] V.re):=zh (fun h=>HE_.out trivial H3D.out H4D.out h);clear HAS hK hk hlt;have q6:=HBX1.out.c6
   go_wp2_with fail
   go_loopw [66] (fun v7 wr=>∃i:Nat,i≤K6.length∧v7= .int .i64 i∧Hid (grG env [] V.gr=grG env (K6.take i) (V.gr.drop i))∧W.Grows wr) (fun v7 _=>K6.length-(intOf v7).toNat)
   case atStart=>exact⟨0,by omega,rfl,zh rfl,HG1.out⟩
   case round=>
    obtain⟨i,hi,rfl,HAT,hgr⟩:=hrel;obtain⟨W1,rfl⟩:∃W1,W1=wr:=⟨_,rfl⟩;have HG1:=zh hgr;have HGW:=zh (World.Grows.trans' HG.out hgr);have HBX1:=zh (HBX.out.grows hgr);have q3:=HBX1.out.lt;have q0:=HBX1.out.c6;clear hgr;by_cases hlk:i<K6.length
    ·have HKL:=zh hlk;have hlt:i<V.gr.length:=by rw [←HL6.out];exact hlk
     have hil:i≤V.gr.length:=by omega
     have d1:(i:Int)<(K6.length:Int):=by omega
     have d9:(i:Int)≤(k6:Int):=by have:=HC6.out;omega
     have d8:i≤k6:=by have:=HC6.out;omega
     have HGR1:=zh (HV.out.gr.grows HGW.out);obtain⟨-,a',c',hvv,hx⟩:=HGR1.out;simp only [Value.slice.injEq]at hvv;obtain⟨rfl,-,rfl⟩:=hvv;rcases hx with h0|⟨b,off,rfl,hbw,hx⟩
     ·omega
     obtain⟨u,u',hg⟩:=hx i hlt;have hsm:=HS.out.gr _ (getD_mem hlt);have hfa:=fst_at hK6.out hlt;have HGN:=zh (fun h=>HAT.out.trans (gr_next' (env:=env) hK6.out hlt h));have HGB:=zh (fun h=>HAT.out.trans (gr_bad' (env:=env) hK6.out hlt h))
     have HCF:=zh (fun w' (hg:W1.Grows w') (a1 a2 a3 a4 a5 a6 a7 a8 a9 a10 a11 a12:Value) (hb:w'.heap[W1.heap.size]? =some (.cells #[.int .i64 (V.gr.getD i default).1,a1,a2,a3,a4,a5,a6,a7,a8,a9,a10,a11,a12] 97 (0,0)))=>by
      have:=hasG_any 161 #[.pointer (some ⟨W1.heap.size,0,none⟩)] cloG (fun k=>decide (K6.getD k 0=K6.getD i 0)) (.slice (some ⟨b,off,none⟩) i k6) i w' (rowG_of (HGR1.out.grows hg) hil _ _ (fun k hk b1 b2 b3 b4 b5 b6 b7 b8 b9 b10 b11 b12 w2 hg2=>by
       rw [fst_at hK6.out (show k<V.gr.length by omega),hfa]
       exact sameG_any _ _ b1 b2 b3 b4 b5 b6 b7 b8 b9 b10 b11 b12 a1 a2 a3 a4 a5 a6 a7 a8 a9 a10 a11 a12 W1.heap.size w2 ((hg2.below.block _ (Array.getElem?_eq_some_iff.1 hb).1).trans hb)))
      rw [has_at (by have:=HL6.out;omega),hfa]at this
      exact this)
     rw [←hfa]at HCF;have HSD:=zh (fun(h:(K6.take i).contains (K6.getD i 0)=true)=>gst_dup (env:=env) (pre:=K6.take i) (g:=V.gr.getD i default) (by rw [←hfa];exact h));have HS1:=zh (fun(h:(K6.take i).contains (K6.getD i 0)=false)=>gst_one (env:=env) (pre:=K6.take i) (g:=V.gr.getD i default) (by rw [←hfa];exact h));generalize(K6.take i).contains (K6.getD i 0)=q at *;rw [hfa]at HCF;generalize V.gr.getD i default=g at *;obtain⟨gn,ge,gp⟩:=g;obtain⟨m,m0,m1,m2,m3,m4,m5,n0,n1,n2,n3,n4,n5,r1,r2⟩:=hg;dsimp only at m m0 m1 m2 m3 m4 m5 n0 n1 n2 n3 n4 n5 r1 r2 hsm HSD HS1 HGN HGB HCF;obtain⟨ua,uc,rfl⟩:=r1.form0;obtain⟨va,vc,rfl⟩:=r2.form0;have HR1:=zh r1;have HR2:=zh r2;have HEW:=zh (HEV.out.grows HG1.out);have HTV:=zh (HTW.out.grows HG1.out);have HN1:=zh (fun w' (hg:W1.Grows w')=>tyOf_any env ge _ _ 1 w' (HR1.out.grows hg) hsm.1 (HTV.out.grows hg) (HEW.out.grows hg));have HN2:=zh (fun w' (hg:W1.Grows w')=>tyOf_any env gp _ _ 4 w' (HR2.out.grows hg) hsm.2 (HTV.out.grows hg) (HEW.out.grows hg));unfold exV at HN1 HN2;replace HCF:=zh (fun w' hg=>HCF.out w' hg (.int .i64 ge.op) (.int .i64 ge.num) (.int .i64 ge.den) (.int .i64 ge.dim) (.string ge.name) (.slice ua ge.args.length uc) (.int .i64 gp.op) (.int .i64 gp.num) (.int .i64 gp.den) (.int .i64 gp.dim) (.string gp.name) (.slice va gp.args.length vc));clear r1 r2 hx hlt hsm hfa hlk hil;cases q
     case true=>
      have hs:=HSD.out rfl;have HF:Hid (versF V=10):=zh (HDD.out 10 (by decide) ((HGB.out (by rw [hs];decide)).trans hs));clear hs
      go_wp2_with ((first|(go_at_call 160;refine(HCF.out _ growsA (by first|exact heap_new _ _ _ (by simp)|exact(World.heap_grow _ _ _ (by simp)).trans (heap_new _ _ _ (by simp)))).mono ?_;rintro e' w' ⟨rfl,bs0,d0,rfl⟩)|(go_at_call 162;first|((with_reducible refine(HN1.out _ growsA).mono ?_);rintro e' w' ⟨rfl,bs1,d1,rfl⟩)|((with_reducible refine(HN2.out _ growsA).mono ?_);rintro e' w' ⟨rfl,bs2,d2,rfl⟩))))
      go_returns
      exact⟨by rw [HF.out]<;>rfl,World.Grows.trans' HG.out (World.Grows.trans' HG1.out growsA)⟩
     have HST:=zh (HS1.out rfl);generalize needF env ge 1=c1 at *;generalize needF env gp 4=c2 at *;by_cases h1:c1=0
     case neg=>
      have hb:(c1 !=0)=true:=by simpa using h1
      have HF:Hid (versF V=c1):=zh (HDD.out c1 h1 ((HGB.out (by rw [HST.out,if_pos h1];exact h1)).trans (by rw [HST.out,if_pos h1])));clear h1
      go_wp2_with ((first|(go_at_call 160;refine(HCF.out _ growsA (by first|exact heap_new _ _ _ (by simp)|exact(World.heap_grow _ _ _ (by simp)).trans (heap_new _ _ _ (by simp)))).mono ?_;rintro e' w' ⟨rfl,bs0,d0,rfl⟩)|(go_at_call 162;first|((with_reducible refine(HN1.out _ growsA).mono ?_);rintro e' w' ⟨rfl,bs1,d1,rfl⟩)|((with_reducible refine(HN2.out _ growsA).mono ?_);rintro e' w' ⟨rfl,bs2,d2,rfl⟩))))
      go_returns
      exact⟨by rw [HF.out]<;>rfl,World.Grows.trans' HG.out (World.Grows.trans' HG1.out growsA)⟩
     subst h1;by_cases h2:c2=0
     case neg=>
      have hb:(c2 !=0)=true:=by simpa using h2
      have HF:Hid (versF V=c2):=zh (HDD.out c2 h2 ((HGB.out (by rw [HST.out,if_neg (by simp)];exact h2)).trans (by rw [HST.out,if_neg (by simp)])));clear h2
      go_wp2_with ((first|(go_at_call 160;refine(HCF.out _ growsA (by first|exact heap_new _ _ _ (by simp)|exact(World.heap_grow _ _ _ (by simp)).trans (heap_new _ _ _ (by simp)))).mono ?_;rintro e' w' ⟨rfl,bs0,d0,rfl⟩)|(go_at_call 162;first|((with_reducible refine(HN1.out _ growsA).mono ?_);rintro e' w' ⟨rfl,bs1,d1,rfl⟩)|((with_reducible refine(HN2.out _ growsA).mono ?_);rintro e' w' ⟨rfl,bs2,d2,rfl⟩))))
      go_returns
      exact⟨by rw [HF.out]<;>rfl,World.Grows.trans' HG.out (World.Grows.trans' HG1.out growsA)⟩
     subst h2;have HNX:=zh (HGN.out (by rw [HST.out,if_neg (by simp)]))
     go_wp2_with ((first|(go_at_call 160;refine(HCF.out _ growsA (by first|exact heap_new _ _ _ (by simp)|exact(World.heap_grow _ _ _ (by simp)).trans (heap_new _ _ _ (by simp)))).mono ?_;rintro e' w' ⟨rfl,bs0,d0,rfl⟩)|(go_at_call 162;first|((with_reducible refine(HN1.out _ growsA).mono ?_);rintro e' w' ⟨rfl,bs1,d1,rfl⟩)|((with_reducible refine(HN2.out _ growsA).mono ?_);rintro e' w' ⟨rfl,bs2,d2,rfl⟩))))
     go_roundw
     case rel=>exact⟨i+1,HKL.out,by go_num,HNX,World.Grows.trans' HG1.out growsA⟩
     case measure=>simp [intOf];have:=HKL.out;omega
    obtain rfl:i=K6.length:=by omega
    have HEF:Hid (versF V=reG env [] V.re):=zh (HEE.out (HAT.out.trans (by rw [HL6.out,List.drop_length,grG])));clear HAT HDD HEE;have HEE:=HEF;clear HEF;have q7:=HBX1.out.c7
    go_wp2_with fail
    go_loopw [95] (fun v11 wr=>∃i:Nat,i≤K7.length∧v11= .int .i64 i∧Hid (reG env [] V.re=reG env (K7.take i) (V.re.drop i))∧W.Grows wr) (fun v11 _=>K7.length-(intOf v11).toNat)
    case atStart=>exact⟨0,by omega,rfl,zh rfl,HG1.out⟩
    case round=>
     obtain⟨i,hi,rfl,HAT,hgr⟩:=hrel;obtain⟨W1,rfl⟩:∃W1,W1=wr:=⟨_,rfl⟩;have HG1:=zh hgr;have HGW:=zh (World.Grows.trans' HG.out hgr);have HBX1:=zh (HBX.out.grows hgr);have q3:=HBX1.out.lt;have q0:=HBX1.out.c7;clear hgr;by_cases hlk:i<K7.length
     ·have HKL:=zh hlk;have hlt:i<V.re.length:=by rw [←HL7.out];exact hlk
      have hil:i≤V.re.length:=by omega
      have d1:(i:Int)<(K7.length:Int):=by omega
      have d9:(i:Int)≤(k7:Int):=by have:=HC7.out;omega
      have d8:i≤k7:=by have:=HC7.out;omega
      have HGR1:=zh (HV.out.re.grows HGW.out);obtain⟨-,a',c',hvv,hx⟩:=HGR1.out;simp only [Value.slice.injEq]at hvv;obtain⟨rfl,-,rfl⟩:=hvv;rcases hx with h0|⟨b,off,rfl,hbw,hx⟩
      ·omega
      obtain⟨u,hg⟩:=hx i hlt;have hsm:=HS.out.re _ (getD_mem hlt);have hfa:=fst_at hK7.out hlt;have HGN:=zh (fun h=>HAT.out.trans (re_next' (env:=env) hK7.out hlt h));have HGB:=zh (fun h=>HAT.out.trans (re_bad' (env:=env) hK7.out hlt h))
      have HCF:=zh (fun w' (hg:W1.Grows w') (a1 a2 a3 a4 a5 a6:Value) (hb:w'.heap[W1.heap.size]? =some (.cells #[.int .i64 (V.re.getD i default).1,a1,a2,a3,a4,a5,a6] 134 (0,0)))=>by
       have:=hasR_any 164 #[.pointer (some ⟨W1.heap.size,0,none⟩)] cloR (fun k=>decide (K7.getD k 0=K7.getD i 0)) (.slice (some ⟨b,off,none⟩) i k7) i w' (rowR_of (HGR1.out.grows hg) hil _ _ (fun k hk b1 b2 b3 b4 b5 b6 w2 hg2=>by
        rw [fst_at hK7.out (show k<V.re.length by omega),hfa]
        exact sameR_any _ _ b1 b2 b3 b4 b5 b6 a1 a2 a3 a4 a5 a6 W1.heap.size w2 ((hg2.below.block _ (Array.getElem?_eq_some_iff.1 hb).1).trans hb)))
       rw [has_at (by have:=HL7.out;omega),hfa]at this
       exact this)
      rw [←hfa]at HCF;have HSD:=zh (fun(h:(K7.take i).contains (K7.getD i 0)=true)=>rst_dup (env:=env) (pre:=K7.take i) (g:=V.re.getD i default) (by rw [←hfa];exact h));have HS1:=zh (fun(h:(K7.take i).contains (K7.getD i 0)=false)=>rst_one (env:=env) (pre:=K7.take i) (g:=V.re.getD i default) (by rw [←hfa];exact h));generalize(K7.take i).contains (K7.getD i 0)=q at *;rw [hfa]at HCF;generalize V.re.getD i default=g at *;obtain⟨gn,ge⟩:=g;obtain⟨m,m0,m1,m2,m3,m4,m5,r1⟩:=hg;dsimp only at m m0 m1 m2 m3 m4 m5 r1 hsm HSD HS1 HGN HGB HCF;obtain⟨ua,uc,rfl⟩:=r1.form0;have HR1:=zh r1;have HEW:=zh (HEV.out.grows HG1.out);have HTV:=zh (HTW.out.grows HG1.out);have HN1:=zh (fun w' (hg:W1.Grows w')=>tyOf_any env ge _ _ 2 w' (HR1.out.grows hg) hsm (HTV.out.grows hg) (HEW.out.grows hg));unfold exV at HN1;have HN2:=HN1;replace HCF:=zh (fun w' hg=>HCF.out w' hg (.int .i64 ge.op) (.int .i64 ge.num) (.int .i64 ge.den) (.int .i64 ge.dim) (.string ge.name) (.slice ua ge.args.length uc));clear r1 hx hlt hsm hfa hlk hil;cases q
      case true=>
       have hs:=HSD.out rfl;have HF:Hid (versF V=10):=zh (HEE.out.trans ((HGB.out (by rw [hs];decide)).trans hs));clear hs
       go_wp2_with ((first|(go_at_call 163;refine(HCF.out _ growsA (by first|exact heap_new _ _ _ (by simp)|exact(World.heap_grow _ _ _ (by simp)).trans (heap_new _ _ _ (by simp)))).mono ?_;rintro e' w' ⟨rfl,bs0,d0,rfl⟩)|(go_at_call 162;first|((with_reducible refine(HN1.out _ growsA).mono ?_);rintro e' w' ⟨rfl,bs1,d1,rfl⟩)|((with_reducible refine(HN2.out _ growsA).mono ?_);rintro e' w' ⟨rfl,bs2,d2,rfl⟩))))
       go_returns
       exact⟨by rw [HF.out]<;>rfl,World.Grows.trans' HG.out (World.Grows.trans' HG1.out growsA)⟩
      have HST:=zh (HS1.out rfl);generalize needF env ge 2=c1 at *;by_cases h1:c1=0
      case neg=>
       have hb:(c1 !=0)=true:=by simpa using h1
       have HF:Hid (versF V=c1):=zh (HEE.out.trans ((HGB.out (by rw [HST.out];exact h1)).trans HST.out));clear h1
       go_wp2_with ((first|(go_at_call 163;refine(HCF.out _ growsA (by first|exact heap_new _ _ _ (by simp)|exact(World.heap_grow _ _ _ (by simp)).trans (heap_new _ _ _ (by simp)))).mono ?_;rintro e' w' ⟨rfl,bs0,d0,rfl⟩)|(go_at_call 162;first|((with_reducible refine(HN1.out _ growsA).mono ?_);rintro e' w' ⟨rfl,bs1,d1,rfl⟩)|((with_reducible refine(HN2.out _ growsA).mono ?_);rintro e' w' ⟨rfl,bs2,d2,rfl⟩))))
       go_returns
       exact⟨by rw [HF.out]<;>rfl,World.Grows.trans' HG.out (World.Grows.trans' HG1.out growsA)⟩
      subst h1;have HNX:=zh (HGN.out HST.out)
      go_wp2_with ((first|(go_at_call 163;refine(HCF.out _ growsA (by first|exact heap_new _ _ _ (by simp)|exact(World.heap_grow _ _ _ (by simp)).trans (heap_new _ _ _ (by simp)))).mono ?_;rintro e' w' ⟨rfl,bs0,d0,rfl⟩)|(go_at_call 162;first|((with_reducible refine(HN1.out _ growsA).mono ?_);rintro e' w' ⟨rfl,bs1,d1,rfl⟩)|((with_reducible refine(HN2.out _ growsA).mono ?_);rintro e' w' ⟨rfl,bs2,d2,rfl⟩))))
      go_roundw
      case rel=>exact⟨i+1,HKL.out,by go_num,HNX,World.Grows.trans' HG1.out growsA⟩
      case measure=>simp [intOf];have:=HKL.out;omega
     obtain rfl:i=K7.length:=by omega
     have HF:Hid (versF V=0):=zh (HEE.out.trans (HAT.out.trans (by rw [HL7.out,List.drop_length,reG])));clear HAT HEE
     go_wp2_with fail
     go_returns
     exact⟨by rw [HF.out]<;>rfl,World.Grows.trans' HG.out (World.Grows.trans' HG1.out growsA)⟩
theorem twist_lens(n:Int)(V:VerP):(twistP n V).cr.length=V.cr.length∧(twistP n V).se.length=V.se.length∧(twistP n V).le.length=V.le.length∧(twistP n V).gr.length=V.gr.length∧(twistP n V).re.length=V.re.length:=by
 unfold twistP
 repeat' split
 all_goals simp_all
theorem of_lens(R:RawV):(ofP R).cr.length≤1000∧(ofP R).se.length≤1000∧(ofP R).le.length≤10∧(ofP R).gr.length≤1000∧(ofP R).re.length≤1000:=by
 have h:(madeP R).cr.length≤1000∧(madeP R).se.length≤1000∧(madeP R).le.length≤10∧(madeP R).gr.length≤1000∧(madeP R).re.length≤1000:=by
  simp only [madeP,List.length_map,List.length_range];unfold nCred nSer nLet nPay nCut;omega
 unfold ofP
 split
 ·exact h
 ·split
  ·obtain⟨a,b,c,d,e⟩:=twist_lens (pick (R.twist.tdiv 8) 7) (madeP R);rw [a,b,c,d,e];exact h
  ·exact h
theorem made_sm(R:RawV):VerSm (madeP R):=by
 refine⟨fun t ht=>?_,fun t ht=>?_,fun t ht=>?_⟩
 ·obtain⟨i,_,rfl⟩:=List.mem_map.1 ht;exact⟨by rw [letN_size];omega,topF_size _ _ _⟩
 ·obtain⟨i,_,rfl⟩:=List.mem_map.1 ht;exact⟨topF_size _ _ _,topF_size _ _ _⟩
 ·obtain⟨i,_,rfl⟩:=List.mem_map.1 ht;exact topF_size _ _ _
theorem twist_sm(n:Int){V:VerP}(h:VerSm V):VerSm (twistP n V):=by
 obtain⟨h1,h2,h3⟩:=h;unfold twistP
 split
 ·refine⟨h1,fun t ht=>?_,h3⟩;simp only at ht
  split at ht
  ·rename_i a r he
   rcases List.mem_cons.1 ht with rfl|ht
   ·have:=h2 a (by rw [he];exact List.mem_cons_self);exact⟨this.1,this.1⟩
   ·exact h2 t (by rw [he];exact List.mem_cons_of_mem _ ht)
  ·cases ht
 split
 ·refine⟨h1,fun t ht=>?_,h3⟩;simp only at ht
  split at ht
  ·rename_i a b r he
   rcases List.mem_cons.1 ht with rfl|ht
   ·exact h2 t (by rw [he];exact List.mem_cons_self)
   ·rcases List.mem_cons.1 ht with rfl|ht
    ·exact h2 b (by rw [he];simp)
    ·exact h2 t (by rw [he];simp [ht])
  ·exact h2 t ht
 split
 ·refine⟨fun t ht=>?_,h2,h3⟩;simp only at ht
  split at ht
  ·rename_i a b r he
   rcases List.mem_cons.1 ht with rfl|ht
   ·exact h1 t (by rw [he];exact List.mem_cons_self)
   ·rcases List.mem_cons.1 ht with rfl|ht
    ·exact⟨(h1 a (by rw [he];simp)).1,(h1 b (by rw [he];simp)).2⟩
    ·exact h1 t (by rw [he];simp [ht])
  ·exact h1 t ht
 split
 ·refine⟨fun t ht=>?_,h2,h3⟩;simp only at ht
  split at ht
  ·rename_i a r he
   rcases List.mem_cons.1 ht with rfl|ht
   ·refine⟨(h1 a (by rw [he];exact List.mem_cons_self)).1, ?_⟩;show laterE.size≤1000000;simp [laterE,Ex.size,Ex.sizes]
   ·exact h1 t (by rw [he];exact List.mem_cons_of_mem _ ht)
  ·cases ht
 split
 ·exact⟨h1,h2,h3⟩
 split
 ·exact⟨h1,h2,h3⟩
 ·refine⟨fun t ht=>?_,h2,h3⟩;simp only at ht
  split at ht
  ·rename_i a r he
   rcases List.mem_cons.1 ht with rfl|ht
   ·refine⟨?_,(h1 a (by rw [he];exact List.mem_cons_self)).2⟩;show ageN.size≤_;decide
   ·exact h1 t (by rw [he];exact List.mem_cons_of_mem _ ht)
  ·cases ht
theorem of_sm(R:RawV):VerSm (ofP R):=by
 unfold ofP
 split
 ·exact made_sm R
 ·split
  ·exact twist_sm _ (made_sm R)
  ·exact made_sm R
end Go.Proofs.YtlheailebbngiaaGreatDoor
