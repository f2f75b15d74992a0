import Derived.Test.YtfoefpoaomepbaaGreatDoorTTyN
import Derived.Test.YtfoefpoaomepbaaGreatDoorTEvU
import Derived.Test.YtfoefpoaomepbaaGreatDoorTUsR
import Derived.Test.YtfoefpoaomepbaaGreatDoorTK
set_option linter.all false
set_option maxHeartbeats 16000000
set_option maxRecDepth 1000000
namespace Go.Proofs.YtfoefpoaomepbaaGreatDoor
open Go.RowKit
def bindL(l:List (ByteArray × Int)):List Value:=l.flatMap fun p=>[.string p.1,.int .i64 p.2]
theorem bindL_get(l:List (ByteArray × Int)):∀i,i<l.length→(bindL l)[i*2]? =some (.string (bdN l i))∧(bindL l)[i*2+1]? =some (.int .i64 (bdD l i)):=by
 induction l with
 |nil=>intro i hi;simp at hi
 |cons p r ih=>
  intro i hi
  cases i with
  |zero=>exact⟨rfl,rfl⟩
  |succ i=>
   obtain⟨h1,h2⟩:=ih i (by simpa using hi)
   have e1:(i+1)*2=i*2+1+1:=by omega
   have e2:(i+1)*2+1=i*2+1+1+1:=by omega
   rw [e1,show i*2+1+1+1=(i*2+1)+1+1 by omega]
   exact⟨h1,h2⟩
theorem bindL_snoc(l:List (ByteArray × Int))(p:ByteArray × Int):bindL (l++[p])=bindL l++[.string p.1,.int .i64 p.2]:=by
 unfold bindL;simp
theorem BindAt.of_own{w:World}{base:Nat}{v:Value}{l:List (ByteArray × Int)}(h:w.ownsRow base 106 2 v l.length (bindL l))(hl:l.length≤1000):BindAt w v l:=by
 obtain⟨-,⟨rfl,h0⟩|⟨g,cap,cur,rfl,hb,hg,h2,h3,h4,h5⟩⟩:=id h
 ·exact⟨by omega,none,0,by rw [h0],.inl h0⟩
 ·refine⟨by omega,_,cap,rfl,.inr ⟨g,0,rfl,(Array.getElem?_eq_some_iff.1 hg).1,fun i hi=>?_⟩⟩
  obtain⟨g1,g2⟩:=bindL_get l i hi
  rw [Nat.zero_add,h.cellAt (i*2) (by omega),h.cellAt (i*2+1) (by omega)]
  exact⟨g1,g2⟩
theorem infoB:(Tryz.prog.info? 106).map (fun i=>(i.zero,i.size,i.bytes))=some (some (.agg #[.string ⟨#[]⟩,.int .i64 0]),2,24):=by kernel_rfl
theorem name_valid(s:ByteArray):validB (.mk 2 0 0 0 s [])=nameB s:=by
 unfold validB
 rw [formedB_eq]
 simp [Ex.depth,Ex.depths,Ex.size,Ex.sizes,Ex.args,Ex.op,Ex.num,Ex.den,Ex.dim,Ex.name,argsN]
theorem tyName_any(s:ByteArray)(hs:s.size≤140737488355328)(w:World)(ht:Tab w):Calls Tryz.prog 100 #[.string s] w fun e w'=>e= .returned (.bool (nameB s))∧w.Grows w':=by
 have HV:=Lib.hid (fun w (ht:Tab w)=>ValidExpr2_any (fun _=>True) (.mk 2 0 0 0 s []) (.slice none 0 0) w (Lib.hid (.mk _ none 0 (fun _=>.slice none 0 0) ⟨(show I64 (2:Int)from⟨by decide,by decide⟩),(show I64 (0:Int)from⟨by decide,by decide⟩),(show I64 (0:Int)from⟨by decide,by decide⟩),(show I64 (0:Int)from⟨by decide,by decide⟩),by simp [Ex.args],hs⟩ (.inl rfl) (fun i hi=>by simp [Ex.args]at hi))) (Lib.hid (by simp [Ex.size,Ex.sizes])) (Lib.hid ht))
 have HT:=Lib.hid ht
 clear ht
 unfold exV at HV
 dsimp only [Ex.op,Ex.num,Ex.den,Ex.dim,Ex.name]at HV
 rw [name_valid]at HV
 generalize nameB s=b at *
 go_enter Tryz.func100,Tryz.ntmps100
 go_wp2_with (go_at_call 35;refine(HV.out _ HT.out).mono ?_;rintro e' w' ⟨rfl,bs,d,rfl⟩)
 exact tz59
theorem lets2_long(ls:List (ByteArray × Ex))(v:Value)(w:World)(h:LetsAt w v ls)(hl:10<ls.length):Calls Tryz.prog 45 #[v] w (LtPost (letsF ls) w):=by
 obtain⟨hl1000,la,lc,rfl,-⟩:=h
 have hn:(10:Int)<(ls.length:Int):=by omega
 have HF:Hid (letsF ls=([],7)):=Lib.hid (by unfold letsF;rw [if_pos hl])
 go_enter Tryz.func45,Tryz.ntmps45
 go_wp2_with fail
 go_returns
 exact LtPost.bad HF.out (.of_below belB)
theorem lets_clos:∀args w,(callFunc 102 args).run Tryz.prog w= .ok (.enter 102 args) w:=enters_of Tryz.func102 (by kernel_rfl) rfl
theorem ltDup_any(env:List (ByteArray × Int))(ve:Value)(s:ByteArray)(c1 c2 c3 c4 c5 c6:Value)(b:Nat)(w:World)(hb:w.heap[b]? =some (.cells #[.string s,c1,c2,c3,c4,c5,c6] 63 (0,0)))(he:BindAt w ve env) :
 Calls Tryz.prog 101 #[ve,.func (.func 102) #[] #[.pointer (some ⟨b,0,none⟩)]] w fun r w'=>r= .returned (.bool (env.any fun p=>decide (p.1=s)))∧w.Grows w':=by
 rw [←any_bd]
 refine containsB_any 102 #[.pointer (some ⟨b,0,none⟩)] lets_clos env ve (fun k=>decide (bdN env k=s)) w he (Lib.hid (fun k hk w2 hg=>?_))
 have hb2:w2.heap[b]? =some (.cells #[.string s,c1,c2,c3,c4,c5,c6] 63 (0,0)):=(hg.below.block b (Array.getElem?_eq_some_iff.1 hb).1).trans hb
 have hbl:b<w2.heap.size:=(Array.getElem?_eq_some_iff.1 hb2).1
 have x0:w2.cell? ⟨b,0,none⟩=some (.string s):=by rw [cell_of_row w2 b _ _ _ _ hb2];rfl
 dsimp only
 generalize bdN env k=n at *
 generalize bdD env k=m at *
 clear hb hb2 he hg
 show Calls Tryz.prog 102 #[.agg #[.string n,.int .i64 m],.pointer (some ⟨b,0,none⟩)] w2 _
 by_cases hn:n=s
 ·have h2:(n.toList==s.toList)=true:=by rw [hn];simp
  have HD:Hid (decide (n=s)=true):=Lib.hid (decide_eq_true hn)
  clear hn
  go_enter Tryz.func102,Tryz.ntmps102
  go_wp2_with fail
  go_returns
  exact⟨ret_bool HD.out.symm,.of_below belB⟩
 ·have h2:(n.toList==s.toList)=false:=by rw [beq_eq_false_iff_ne];exact fun h=>hn (toList_in h)
  have HD:Hid (decide (n=s)=false):=Lib.hid (decide_eq_false hn)
  clear hn
  go_enter Tryz.func102,Tryz.ntmps102
  go_wp2_with fail
  go_returns
  exact⟨ret_bool HD.out.symm,.of_below belB⟩
theorem Lets2_any(ls:List (ByteArray × Ex))(v:Value)(w:World)(h:LetsAt w v ls)(hs:LsSmall ls)(ht:Tab w):Calls Tryz.prog 45 #[v] w (LtPost (letsF ls) w):=by
 by_cases hlen:ls.length≤10
 case neg=>exact lets2_long ls v w h (by omega)
 obtain⟨i0,hi,hz0,hz1,hz2⟩:=info_parts infoB
 have HL:=Lib.hid h
 have HS:=Lib.hid hs
 have HT:=Lib.hid ht
 obtain⟨hl1000,la,lc,rfl,-⟩:=h
 rw [letsF_len hlen]
 have hn:¬(10:Int)<(ls.length:Int):=by omega
 clear hs ht
 go_enter Tryz.func45,Tryz.ntmps45
 go_wp2_with fail
 go_loopw [4,16] (fun v4 v16 wr=>∃(k:Nat) (vb:Value) (env:List (ByteArray × Int)),vb=v4∧k≤ls.length∧v16= .int .i64 k∧Below w.heap.size w wr∧wr.ownsRow w.heap.size 106 2 vb k (bindL env)∧Hid (LtAt ls k env)) (fun _ v16 _=>ls.length-(intOf v16).toNat)
 case atStart=>exact⟨0,_,[],rfl,by omega,rfl,.refl _ _,World.ownsRow_nil _ _ _ _,Lib.hid (LtAt.zero ls)⟩
 case round=>
  obtain⟨k,vb,env,rfl,hk,rfl,hB,hown,HA⟩:=hrel
  obtain⟨W1,rfl⟩:∃W1,W1=wr:=⟨_,rfl⟩
  have HB:=Lib.hid hB
  have HO:=Lib.hid hown
  have HG:Hid (w.Grows W1):=Lib.hid (.of_below hB)
  have HT1:=Lib.hid (HT.out.grows HG.out)
  have hsW:=hB.size
  by_cases hlt:k<ls.length
  ·obtain⟨-,a',c',hvv,hx⟩:=HL.out.grows HG.out
   simp only [Value.slice.injEq,true_and]at hvv
   obtain⟨rfl,rfl⟩:=hvv
   rcases hx with h0|⟨b,off,rfl,hbw,hx⟩
   ·omega
   obtain⟨uk,hsk⟩:=hx k hlt
   have hsm:=HS.out _ (getD_mem hlt)
   have HTB:=Lib.hid (HA.out.bad hlt)
   have HTN:=Lib.hid (HA.out.next hlt)
   have HEL:=Lib.hid HA.out.len
   have d1:(k:Int)<(ls.length:Int):=by omega
   generalize ls.getD k default=tt at *
   obtain⟨s,ek⟩:=tt
   dsimp only at hsm
   obtain⟨y0,y1,y2,y3,y4,y5,y6,hrk⟩:=hsk
   obtain⟨ka,kc,rfl⟩:=hrk.form0
   have HRK:=Lib.hid hrk
   have HBD:Hid (BindAt W1 vb env):=Lib.hid (BindAt.of_own (by rw [HEL.out];exact hown) (by rw [HEL.out];omega))
   have HI5:=Lib.hid (Input2_any s)
   have HN5:=Lib.hid (fun w ht=>tyName_any s hsm.1 w ht)
   have HDC:=Lib.hid (fun w' b hb (hg:W1.Grows w')=>ltDup_any env vb s (.int .i64 ek.op) (.int .i64 ek.num) (.int .i64 ek.den) (.int .i64 ek.dim) (.string ek.name) (.slice ka ek.args.length kc) b w' hb (HBD.out.grows hg))
   have HIF:=Lib.hid (fun w' (hg:W1.Grows w')=>Infer2_any (fun _=>True) env ek (.slice ka ek.args.length kc) vb w' (HRK.out.grows hg) (by have:=hsm.2;omega) (HT1.out.grows hg) (HBD.out.grows hg))
   unfold InfP exV at HIF
   have HKL:=Lib.hid hlt
   have hk10:k≤10:=by omega
   have hvf:∃va vn vc,vb= .slice va vn vc:=by obtain⟨-,a,c,h,-⟩:=HBD.out;exact⟨_,_,_,h⟩
   clear hx hrk hsm HA hB hown hlt hk
   dsimp only at y0 y1 y2 y3 y4 y5 y6
   by_cases hd:inpD s.toList=0
   case neg=>
    have HC:Hid (letsG ls []=([],5)):=Lib.hid (by have h5:=ltStep_word (env:=env) (e:=ek) (.inl hd);have:=HTB.out (by rw [h5];decide);rw [h5]at this;exact this)
    rw [decide_eq_true hd]at HI5
    generalize inpD s.toList=d0 at *
    exact tz7
   rw [hd]at HI5
   have HD:=Lib.hid hd
   clear hd
   cases hnb:nameB s
   case false=>
    have HC:Hid (letsG ls []=([],5)):=Lib.hid (by have h5:=ltStep_word (env:=env) (e:=ek) (.inr hnb);have:=HTB.out (by rw [h5];decide);rw [h5]at this;exact this)
    rw [hnb]at HN5
    clear hnb
    exact tz7
   rw [hnb]at HN5
   have HNB:=Lib.hid hnb
   clear hnb
   obtain⟨va,vn,vc,rfl⟩:=hvf
   cases hdu:env.any fun p=>decide (p.1=s)
   case true=>
    have HC:Hid (letsG ls []=([],10)):=Lib.hid (by have h5:=ltStep_dup (e:=ek) HD.out HNB.out hdu;have:=HTB.out (by rw [h5];decide);rw [h5]at this;exact this)
    rw [hdu]at HDC
    clear hdu
    exact tz7
   have HST:Hid (ltStep env (s,ek)=(inferE env ek).2):=Lib.hid (ltStep_inf HD.out HNB.out hdu)
   rw [hdu]at HDC
   clear hdu
   generalize hr:inferE env ek=r at *
   obtain⟨dk,ck⟩:=r
   dsimp only at HIF HST HTN
   clear hr
   by_cases hc:ck=0
   ·subst hc
    have HNX:=Lib.hid (HTN.out HST.out)
    go_wp2_with (first
     |((first|(go_at_call 99;refine(HI5.out _).mono ?_;rintro e' w' ⟨rfl,rfl⟩)|(go_at_call 100;refine(HN5.out _ (HT1.out.grows growsA)).mono ?_;rintro e' w' ⟨rfl,bs1,d1',rfl⟩)|(go_at_call 101;refine(HDC.out _ _ ((World.heap_grow _ _ _ (by simp)).trans (heap_new _ _ _ (by simp))) growsA).mono ?_;rintro e' w' ⟨rfl,bs2,d2',rfl⟩)|(go_at_call 46;refine(HIF.out _ growsA).mono ?_;rintro e' w' ⟨rfl,bs3,d3',rfl⟩)))
     |(at_builtin;refine wpList_append_own _ rfl _ _ 52 rfl w.heap.size 106 i0 _ 2 24 Tryz.underlying52 hi hz0 hz1 hz2 rfl (by decide) _ _ _ rfl (own_grow HO.out growsA) ⟨_,0,none⟩ 1 1 [.string s,.int .i64 dk] rfl rfl ?c1 ?c2 ?c3 ?c4 ?c5 ?_))
    case c1=>exact news_cells _ [.string s,.int .i64 dk] _ _ (by simp)
    case c2=>intro u hu;simp at hu;rcases hu with rfl|rfl<;>rfl
    case c3=>unfold maxLen;omega
    case c4=>omega
    case c5=>simp;omega
    intro v' w1 hown' hgrow _
    have HB4:=Lib.hid ((show Below w.heap.size w _ from by have:=HB.out;(exact belB)).grown hgrow (by simp;omega) (fun k hk=>(HO.out.lt k hk).1))
    have HO4:=Lib.hid hown'
    clear hown' hgrow
    go_wp2_with fail
    go_roundw
    case rel=>exact⟨k+1,_,_,rfl,HKL.out,by go_num,HB4.out,by rw [bindL_snoc];exact HO4.out,HNX⟩
    case measure=>simp [intOf];have:=HKL.out;omega
   ·have hc2:(ck !=0)=true:=by simpa using hc
    have HC:Hid (letsG ls []=([],ck)):=Lib.hid (by have:=HTB.out (by rw [HST.out];exact hc);rw [HST.out]at this;exact this)
    clear hc
    exact tz7
  ·obtain rfl:k=ls.length:=by omega
   have HD:=Lib.hid HA.out.done
   have HBD:Hid (BindAt W1 vb env):=Lib.hid (BindAt.of_own (by rw [HA.out.len];exact HO.out) (by rw [HA.out.len];omega))
   clear hB hown
   go_wp2_with fail
   go_returns
   exact⟨_,by rw [HD.out];rfl,HG.out,by rw [HD.out];exact HBD.out⟩
end Go.Proofs.YtfoefpoaomepbaaGreatDoor
