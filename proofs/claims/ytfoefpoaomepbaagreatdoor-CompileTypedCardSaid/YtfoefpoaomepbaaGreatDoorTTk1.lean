import Derived.Test.YtfoefpoaomepbaaGreatDoorTEvP
import Derived.Test.YtfoefpoaomepbaaGreatDoorTExpr
import Derived.Test.YtfoefpoaomepbaaGreatDoorTK
import Derived.Deep.CutBlock
import Derived.Deep.CutRange
import Derived.Deep.DeepCutAuto
import Derived.StillTail
import Derived.RegionTactic
import Derived.Deep.AppendLies
import Derived.Deep.QuietTactic
import Derived.BigRegion
import Derived.OrdersHeld
set_option linter.all false
set_option maxHeartbeats 16000000
set_option maxRecDepth 1000000
namespace Go.Proofs.YtfoefpoaomepbaaGreatDoor
open Go.RowKit
def plainC(c:Int):Prop:=c≠10∧c≠35∧c≠9∧c≠13∧c≠32
theorem skip_any(s:ByteArray)(p q:Nat)(w:World)(hs:s.size≤maxLen)(hq:q≤s.size)(hpq:q=p∨(q=p+1∧byt s p=32))(hend:q=s.size∨(q<s.size∧plainC (byt s q))):Calls Tryz.prog 195 #[.string s,.int .i64 p] w fun e w'=>e= .returned (.int .i64 q)∧w=w':=by
 unfold maxLen at hs
 go_enter Tryz.func195,Tryz.ntmps195
 go_wp2
 go_loop [1,5] (fun v1 v5=>∃k:Nat,(k=p∨k=q)∧v1= .int .i64 k∧v5= .bool false) (fun v1 _=>s.size-(intOf v1).toNat)
 case atStart=>exact⟨p,.inl rfl,rfl,rfl⟩
 case round=>
  obtain⟨k,hk,rfl,rfl⟩:=hrel
  by_cases hkq:k=q
  ·subst hkq
   rcases hend with h|⟨h,hp⟩
   ·have h1:¬(k:Int)<(s.size:Int):=by omega
    go_wp2
    go_ret
    exact⟨rfl,rfl⟩
   ·obtain⟨h1,h2,h3,h4,h5⟩:=hp
    rw [byt_eq s k h]at h1 h2 h3 h4 h5
    have g1:((s[k].toNat:Int)==10)=false:=by simpa using h1
    have g2:((s[k].toNat:Int)==35)=false:=by simpa using h2
    have g3:((s[k].toNat:Int)!=9)=true:=by simpa using h3
    have g4:((s[k].toNat:Int)!=13)=true:=by simpa using h4
    have g5:((s[k].toNat:Int)!=32)=true:=by simpa using h5
    go_wp2
    go_ret
    exact⟨rfl,rfl⟩
  ·have hkp:k=p:=by omega
   subst hkp
   have hq1:q=k+1:=by omega
   have hb:byt s k=32:=by omega
   have hlt:k<s.size:=by omega
   rw [byt_eq s k hlt]at hb
   have g5:((s[k].toNat:Int)!=32)=false:=by simp [hb]
   go_wp2
   go_round
   case rel=>exact⟨k+1,by omega,by go_num,rfl⟩
   case measure=>simp [intOf];omega
def runTk(c:Int):Bool:=lowc c || digc c
theorem run_any5(s:ByteArray)(p m:Nat)(pt:Bool)(w:World)(hs:s.size≤maxLen)(hm:p+m≤s.size)(hin:∀k,k<m→runTk (byt s (p+k))=true)(hend:p+m=s.size∨(runTk (byt s (p+m))=false∧byt s (p+m)≠95∧byt s (p+m)≠46)) :
 Calls Tryz.prog 196 #[.string s,.int .i64 p,.bool pt] w fun e w'=>e= .returned (.int .i64 m)∧w=w':=by
 unfold maxLen at hs
 go_enter Tryz.func196,Tryz.ntmps196
 go_wp2
 go_loop [7] (fun v7=>∃k:Nat,k≤m∧v7= .int .i64 k) (fun v7=>m-(intOf v7).toNat)
 case atStart=>exact⟨0,Nat.zero_le _,rfl⟩
 case round=>
  obtain⟨k,hk,rfl⟩:=hrel
  by_cases hkm:k=m
  ·subst hkm
   rcases hend with h|⟨h,h95,h46⟩
   ·have h1:¬((p:Int)+(k:Int)<(s.size:Int)):=by omega
    go_wp2
    go_ret
    exact⟨rfl,rfl⟩
   ·by_cases hlt:p+k<s.size
    ·rw [byt_eq s (p+k) hlt]at h h95 h46
     unfold runTk at h
     rw [Bool.or_eq_false_iff]at h
     have hL:=h.1
     have hD:=h.2
     have h1:((p:Int)+(k:Int)<(s.size:Int)):=by omega
     have g1:((s[p+k].toNat:Int)==95)=false:=by simpa using h95
     have g2:((s[p+k].toNat:Int)==46)=false:=by simpa using h46
     cases pt
     all_goals
      go_wp2_with (first|((go_at_call 108;(with_reducible refine(letter1_any _ _).mono ?_);rintro e w' ⟨rfl,rfl⟩;simp only [hL]))|((go_at_call 109;(with_reducible refine(digit1_any _ _).mono ?_);rintro e w' ⟨rfl,rfl⟩;simp only [hD])))
      go_ret
      exact⟨rfl,rfl⟩
    ·have h1:¬((p:Int)+(k:Int)<(s.size:Int)):=by omega
     go_wp2
     go_ret
     exact⟨rfl,rfl⟩
  ·have hlt:p+k<s.size:=by omega
   have h1:((p:Int)+(k:Int)<(s.size:Int)):=by omega
   have hr:=hin k (by omega)
   rw [byt_eq s (p+k) hlt]at hr
   unfold runTk at hr
   cases hL:lowc (s[p+k].toNat:Int)
   ·rw [hL,Bool.false_or]at hr
    have hD:=hr
    go_wp2_with (first|((go_at_call 108;(with_reducible refine(letter1_any _ _).mono ?_);rintro e w' ⟨rfl,rfl⟩;simp only [hL]))|((go_at_call 109;(with_reducible refine(digit1_any _ _).mono ?_);rintro e w' ⟨rfl,rfl⟩;simp only [hD])))
    go_round
    case rel=>exact⟨k+1,by omega,by go_num⟩
    case measure=>simp [intOf];omega
   ·go_wp2_with (first|((go_at_call 108;(with_reducible refine(letter1_any _ _).mono ?_);rintro e w' ⟨rfl,rfl⟩;simp only [hL]))|((go_at_call 109;(with_reducible refine(digit1_any _ _).mono ?_);rintro e w' ⟨rfl,rfl⟩;simp only [hD])))
    go_round
    case rel=>exact⟨k+1,by omega,by go_num⟩
    case measure=>simp [intOf];omega
theorem sign_one(s:ByteArray)(p:Nat)(w:World)(hs:s.size≤maxLen)(hp:p+1<s.size)(hc:byt s p=42∨byt s p=43)(t1:((s.extract p (p+2)).toList== [60,61])=false)(t2:((s.extract p (p+2)).toList== [62,61])=false)(t3:((s.extract p (p+2)).toList== [60,62])=false):Calls Tryz.prog 199 #[.string s,.int .i64 p] w fun e w'=>e= .returned (.int .i64 1)∧w=w':=by
 unfold maxLen at hs
 have hlt:p<s.size:=by omega
 have h1:((p:Int)+1<(s.size:Int)):=by omega
 rw [byt_eq s p hlt]at hc
 rcases hc with hc|hc
 all_goals
  have g1:((s[p].toNat:Int)==60)=false:=by simp [hc]
  have g2:((s[p].toNat:Int)==62)=false:=by simp [hc]
  have g3:((s[p].toNat:Int)==61)=false:=by simp [hc]
  go_enter Tryz.func199,Tryz.ntmps199
  go_wp2
  go_returns
  exact⟨rfl,rfl⟩
theorem parts_one(t:ByteArray)(w:World)(hz:t.size=1)(hD0:digc (byt t 0)=true)(hex:t.extract 0 1=t)(hap:t++(⟨#[]⟩:ByteArray)=t):Calls Tryz.prog 197 #[.string t] w fun e w'=>e= .returned (.tuple #[.string t,.string ⟨#[]⟩,.int .i64 2,.bool true])∧w=w':=by
 have hlt:0<t.size:=by omega
 have hb:=hD0
 rw [byt_eq t 0 hlt]at hb
 have hD:=hb
 have e100:((t[0].toNat:Int)==100)=false:=by unfold digc at hb;simp only [Bool.and_eq_true,decide_eq_true_eq]at hb;simp;omega
 have e109:((t[0].toNat:Int)==109)=false:=by unfold digc at hb;simp only [Bool.and_eq_true,decide_eq_true_eq]at hb;simp;omega
 have e46:((t[0].toNat:Int)==46)=false:=by unfold digc at hb;simp only [Bool.and_eq_true,decide_eq_true_eq]at hb;simp;omega
 unfold digc at hb
 simp only [Bool.and_eq_true,decide_eq_true_eq]at hb
 go_enter Tryz.func197,Tryz.ntmps197
 go_wp2_with fail
 go_loop [8,9] (fun v8 v9=>v8= .int .i64 1∧(v9= .int .i64 0∨v9= .int .i64 (-1))) (fun _ v9=>(intOf v9+1).toNat)
 case atStart=>exact⟨rfl,.inl rfl⟩
 case round=>
  obtain⟨rfl,hrel⟩:=hrel
  rcases hrel with rfl|rfl
  ·go_wp2_with fail
   go_round
   case rel=>exact⟨rfl,.inr rfl⟩
   case measure=>simp [intOf]
  ·go_wp2_with fail
   have hfl:(9223372036854775807<t.size+0)=False:=by simp [hz]
   go_loop [12] (fun v12=>v12= .int .i64 0∨v12= .int .i64 1) (fun v12=>(1-intOf v12).toNat)
   case atStart=>exact .inl rfl
   case round=>
    rcases hrel with rfl|rfl
    ·go_wp2_with ((go_at_call 109;(with_reducible refine(digit1_any _ _).mono ?_);rintro e w' ⟨rfl,rfl⟩;simp only [hD]))
     go_round
     case rel=>exact .inr rfl
     case measure=>simp [intOf]
    ·exact tz16
theorem decimal_one(t:ByteArray)(n:Int)(w:World)(hz:t.size=1)(hn:byt t 0=48+n)(h0:0≤n∧n≤9)(hex:t.extract 0 1=t)(hap:t++(⟨#[]⟩:ByteArray)=t)(HM:Hid (∀w,Calls Tryz.prog 39 #[.int .i64 n,.int .i64 1] w fun e w'=>e= .returned (.tuple #[.agg #[.int .i64 n,.int .i64 1],.int .i64 0])∧w.Grows w')):Calls Tryz.prog 167 #[.string t] w fun e w'=>e= .returned (.tuple #[.agg #[.int .i64 n,.int .i64 1],.int .i64 2,.bool true])∧w.Grows w':=by
 have hlt:0<t.size:=by omega
 have hD0:digc (byt t 0)=true:=by rw [hn];unfold digc;simp;omega
 rw [byt_eq t 0 hlt]at hn
 have hfl:(9223372036854775807<t.size+0)=False:=by simp [hz]
 go_enter Tryz.func167,Tryz.ntmps167
 go_wp2_with ((first|(go_at_call 197;refine(parts_one t _ hz hD0 hex hap).mono ?_;rintro e' w' ⟨rfl,rfl⟩)|(go_at_call 39;refine(HM.out _).mono ?_;rintro e' w' ⟨rfl,bs,d,rfl⟩)))
 go_loopw [9,10,11] (fun v9 v10 v11 wr=>((v9= .int .i64 0∧v11= .int .i64 0)∨(v9= .int .i64 n∧v11= .int .i64 1))∧v10= .int .i64 1∧wr=w.alloc (.cells #[.int .i64 0,.int .i64 0] 24)) (fun _ _ v11 _=>(1-intOf v11).toNat)
 case atStart=>exact⟨.inl ⟨rfl,rfl⟩,rfl,rfl⟩
 case round=>
  obtain⟨hrel,rfl,rfl⟩:=hrel
  rcases hrel with ⟨rfl,rfl⟩|⟨rfl,rfl⟩
  ·have hw8:IntKind.u8.wrap ((t[0].toNat:Int)-48)=n:=by rw [hn];unfold IntKind.wrap;simp [IntKind.bits,IntKind.signed];omega
   go_wp2_with fail
   go_roundw
   case rel=>exact⟨.inr ⟨by go_num,rfl⟩,by simp⟩
   case measure=>simp [intOf]
  ·go_wp2_with ((first|(go_at_call 197;refine(parts_one t _ hz hD0 hex hap).mono ?_;rintro e' w' ⟨rfl,rfl⟩)|(go_at_call 39;refine(HM.out _).mono ?_;rintro e' w' ⟨rfl,bs,d,rfl⟩)))
   exact tz27
def NxP(s:ByteArray)(p:Nat)(kind:Int)(t:ByteArray)(q r:Nat):Prop:=∀w,Calls Tryz.prog 163 #[.string s,.int .i64 p] w fun e w'=>e= .returned (.tuple #[.agg #[.int .i64 kind,.string t,.int .i64 q],.int .i64 r,.int .i64 0])∧w.Grows w'
theorem next_end(s:ByteArray)(p:Nat)(hs:s.size≤maxLen)(hp:p≤s.size)(HSK:Hid (∀w,Calls Tryz.prog 195 #[.string s,.int .i64 p] w fun e w'=>e= .returned (.int .i64 s.size)∧w=w')):NxP s p 0 ⟨#[]⟩ s.size s.size:=by
 intro w
 unfold maxLen at hs
 have h0:¬(p:Int)<0:=by omega
 have h1:¬(s.size:Int)<(p:Int):=by omega
 go_enter Tryz.func163,Tryz.ntmps163
 go_wp2_with ((go_at_call 195;refine(HSK.out _).mono ?_;rintro e w' ⟨rfl,rfl⟩))
 exact tz27
theorem next_word(s:ByteArray)(p q n:Nat)(hs:s.size≤maxLen)(hp:p≤s.size)(hq:q+n≤s.size)(hn:0<n∧n≤12)(HSK:Hid (∀w,Calls Tryz.prog 195 #[.string s,.int .i64 p] w fun e w'=>e= .returned (.int .i64 q)∧w=w'))(hl:lowc (byt s q)=true)(HRN:Hid (∀w,Calls Tryz.prog 196 #[.string s,.int .i64 q,.bool false] w fun e w'=>e= .returned (.int .i64 n)∧w=w')):NxP s p 1 (s.extract q (q+n)) q (q+n):=by
 intro w
 unfold maxLen at hs
 have h0:¬(p:Int)<0:=by omega
 have h1:¬(s.size:Int)<(p:Int):=by omega
 have hlt:q<s.size:=by omega
 have h2:((q:Int)==(s.size:Int))=false:=by simp;omega
 have h3:(n:Int)≤12:=by omega
 rw [byt_eq s q hlt]at hl
 have hL:=hl
 go_enter Tryz.func163,Tryz.ntmps163
 go_wp2_with (first|((go_at_call 195;refine(HSK.out _).mono ?_;rintro e w' ⟨rfl,rfl⟩))|((go_at_call 108;(with_reducible refine(letter1_any _ _).mono ?_);rintro e w' ⟨rfl,rfl⟩;simp only [hL]))|((go_at_call 196;refine(HRN.out _).mono ?_;rintro e w' ⟨rfl,rfl⟩)))
 go_returns
 exact⟨by rw [Int.natCast_add],growsR⟩
theorem next_num(s:ByteArray)(p q:Nat)(hs:s.size≤maxLen)(hp:p≤s.size)(hq:q+1≤s.size)(HSK:Hid (∀w,Calls Tryz.prog 195 #[.string s,.int .i64 p] w fun e w'=>e= .returned (.int .i64 q)∧w=w'))(hl:lowc (byt s q)=false)(hd:digc (byt s q)=true)(HRN:Hid (∀w,Calls Tryz.prog 196 #[.string s,.int .i64 q,.bool true] w fun e w'=>e= .returned (.int .i64 1)∧w=w'))
 (HPT:Hid (∀w,Calls Tryz.prog 197 #[.string (s.extract q (q+1))] w fun e w'=>e= .returned (.tuple #[.string (s.extract q (q+1)),.string ⟨#[]⟩,.int .i64 2,.bool true])∧w=w')):NxP s p 2 (s.extract q (q+1)) q (q+1):=by
 intro w
 unfold maxLen at hs
 have h0:¬(p:Int)<0:=by omega
 have h1:¬(s.size:Int)<(p:Int):=by omega
 have hlt:q<s.size:=by omega
 have h2:((q:Int)==(s.size:Int))=false:=by simp;omega
 rw [byt_eq s q hlt]at hl hd
 have hL:=hl
 have hD:=hd
 go_enter Tryz.func163,Tryz.ntmps163
 go_wp2_with (first|((go_at_call 195;refine(HSK.out _).mono ?_;rintro e w' ⟨rfl,rfl⟩))|((go_at_call 108;(with_reducible refine(letter1_any _ _).mono ?_);rintro e w' ⟨rfl,rfl⟩;simp only [hL]))|((go_at_call 109;(with_reducible refine(digit1_any _ _).mono ?_);rintro e w' ⟨rfl,rfl⟩;simp only [hD]))|((go_at_call 196;refine(HRN.out _).mono ?_;rintro e w' ⟨rfl,rfl⟩))|(go_at_call 197;refine(HPT.out _).mono ?_;rintro e w' ⟨rfl,rfl⟩))
 go_returns
 exact⟨by rw [Int.natCast_add];rfl,growsR⟩
theorem next_sign(s:ByteArray)(p q:Nat)(hs:s.size≤maxLen)(hp:p≤s.size)(hq:q+1≤s.size)(HSK:Hid (∀w,Calls Tryz.prog 195 #[.string s,.int .i64 p] w fun e w'=>e= .returned (.int .i64 q)∧w=w'))(hl:lowc (byt s q)=false)(hd:digc (byt s q)=false)(h64:byt s q≠64)
 (HSG:Hid (∀w,Calls Tryz.prog 199 #[.string s,.int .i64 q] w fun e w'=>e= .returned (.int .i64 1)∧w=w')):NxP s p 4 (s.extract q (q+1)) q (q+1):=by
 intro w
 unfold maxLen at hs
 have h0:¬(p:Int)<0:=by omega
 have h1:¬(s.size:Int)<(p:Int):=by omega
 have hlt:q<s.size:=by omega
 have h2:((q:Int)==(s.size:Int))=false:=by simp;omega
 rw [byt_eq s q hlt]at hl hd h64
 have hL:=hl
 have hD:=hd
 have h3:((s[q].toNat:Int)==64)=false:=by simpa using h64
 go_enter Tryz.func163,Tryz.ntmps163
 go_wp2_with (first|((go_at_call 195;refine(HSK.out _).mono ?_;rintro e w' ⟨rfl,rfl⟩))|((go_at_call 108;(with_reducible refine(letter1_any _ _).mono ?_);rintro e w' ⟨rfl,rfl⟩;simp only [hL]))|((go_at_call 109;(with_reducible refine(digit1_any _ _).mono ?_);rintro e w' ⟨rfl,rfl⟩;simp only [hD]))|(go_at_call 199;refine(HSG.out _).mono ?_;rintro e w' ⟨rfl,rfl⟩))
 go_returns
 exact⟨by rw [Int.natCast_add];rfl,growsR⟩
abbrev Tk:=Int × ByteArray × Nat
instance:Inhabited Tk:=⟨(0,ByteArray.empty,0)⟩
def tkC(t:Tk):List Value:=[.int .i64 t.1,.string t.2.1,.int .i64 t.2.2]
def tkV(l:List Tk):List Value:=l.flatMap tkC
theorem tkV_app(a b:List Tk):tkV (a++b)=tkV a++tkV b:=by unfold tkV;rw [List.flatMap_append]
theorem infoTk:(Tryz.prog.info? 197).map (fun i=>(i.zero,i.size,i.bytes))=some (some (.agg #[.int .i64 0,.string ⟨#[]⟩,.int .i64 0]),3,32):=by kernel_rfl
theorem own_growT{w w':World}{base:Nat}{T:TypeId}{c n:Nat}{v:Value}{xs:List Value}(h:w.ownsRow base T c v n xs)(hg:w.Grows w'):w'.ownsRow base T c v n xs:=ownsRow_keep h fun k _ hlt=>hg.below.block k hlt
theorem own_formT{w:World}{base:Nat}{T:TypeId}{c n:Nat}{v:Value}{xs:List Value}(h:w.ownsRow base T c v n xs):∃a cap,v= .slice a n cap:=by
 rcases h.2 with ⟨rfl,h0⟩|⟨g,cap,cur,rfl,_⟩
 ·exact⟨none,0,by rw [h0]⟩
 ·exact⟨_,cap,rfl⟩
def slLen:Value→Nat| .slice _ n _=>n|_=>0
def AllP(T:List Tk)(w:World)(e:Ending)(w':World):Prop:=∃v,e= .returned (.tuple #[v,.int .i64 0,.int .i64 0])∧w.Grows w'∧w'.ownsRow w.heap.size 197 3 v T.length (tkV T)
theorem all_any(s:ByteArray)(T:List Tk)(pos:Nat→Nat)(w:World)(hs:s.size≤8000)(hT:T.length≤8000)(h0:pos 0=0)(hpos:∀k,pos k≤8000)(hN:Hid (∀k,k<T.length→NxP s (pos k) (T.getD k default).1 (T.getD k default).2.1 (T.getD k default).2.2 (pos (k+1))))(hK:Hid (∀k,k<T.length→(T.getD k default).1≠0))(hE:Hid (NxP s (pos T.length) 0 ⟨#[]⟩ s.size s.size)):Calls Tryz.prog 127 #[.string s] w (AllP T w):=by
 obtain⟨i0,hi,hz0,hz1,hz2⟩:=info_parts infoTk
 have HPOS:=Lib.hid hpos
 have HH0:=Lib.hid h0
 have h1:¬(8000:Int)<(s.size:Int):=by omega
 have HT8:=Lib.hid hT
 clear hpos h0 hT
 go_enter Tryz.func127,Tryz.ntmps127
 go_wp2_with fail
 go_loopw [5,6] (fun v5 v6 wr=>∃(k:Nat) (a:Option Addr) (c:Nat),k≤T.length∧v5= .slice a k c∧v6= .int .i64 (pos k:Nat)∧w.Grows wr∧Hid (wr.ownsRow w.heap.size 197 3 (.slice a k c) k (tkV (T.take k)))) (fun v5 _ _=>T.length-slLen v5)
 case atStart=>exact⟨0,none,0,by omega,rfl,by rw [HH0.out];rfl,.refl _,Lib.hid (World.ownsRow_nil _ _ _ _)⟩
 case round=>
  obtain⟨k,a,c,hk,rfl,rfl,hg,HR⟩:=hrel
  have HG:=Lib.hid hg
  by_cases hlt:k<T.length
  ·have HNX:=Lib.hid (hN.out k hlt)
   have hkn:=hK.out k hlt
   have HTK:Hid (tkV (T.take (k+1))=tkV (T.take k)++tkC (T.getD k default)):=Lib.hid (by
    rw [List.take_succ_eq_append_getElem hlt,tkV_app]
    congr 1
    rw [List.getD_eq_getElem?_getD,List.getElem?_eq_getElem hlt]
    show List.flatMap tkC [_]=_
    simp)
   obtain⟨⟨kd,tx,ta⟩,ht⟩:∃t,T.getD k default=t:=⟨_,rfl⟩
   rw [ht]at HNX hkn HTK
   dsimp only at HNX hkn
   have hk0:(kd==0)=false:=by simpa using hkn
   have HLT:=Lib.hid hlt
   have HOW:=Lib.hid (fun W (hgW:wr.Grows W)=>own_growT HR.out hgW)
   obtain⟨nx,hnx⟩:∃n,pos (k+1)=n:=⟨_,rfl⟩
   rw [hnx]at HNX
   have HNXE:=Lib.hid hnx
   unfold NxP at HNX
   clear ht hkn hlt hk hnx hg
   go_wp2_with (first
    |(go_at_call 163;refine(HNX.out _).mono ?_;rintro e' w' ⟨rfl,bs,d,rfl⟩)
    |(at_builtin;refine wpList_append_lies _ rfl _ _ 155 rfl w.heap.size 197 i0 _ 3 32 Tryz.underlying155 hi hz0 hz1 hz2 rfl (by decide) (.slice a k c) k (tkV (T.take k)) rfl (HOW.out _ growsR) ⟨_,0,none⟩ 1 1 [.int .i64 kd,.string tx,.int .i64 (ta:Nat)] rfl rfl (news_cells _ [.int .i64 kd,.string tx,.int .i64 (ta:Nat)] _ _ (by simp)) (by intro u hu;simp at hu;rcases hu with rfl|rfl|rfl<;>rfl) (by decide) ?c3 ?c4 ?c5 _ rfl ?_))
   case c3=>have:=HLT.out;have:=HT8.out;unfold maxLen;omega
   case c4=>have:=HLT.out;have:=HT8.out;omega
   case c5=>have:=HG.out.below.size;simp;omega
   intro g' cap' w1 hown' hgrow hat hlt'
   have hg1:w.Grows w1:=World.Grows.grown (World.Grows.trans' HG.out growsR) hgrow (fun j hj=>by have:=(HR.out.lt j hj).1;simpa using this)
   have HG1:=Lib.hid hg1
   have HR1:=Lib.hid hown'
   clear hown' hgrow hat hlt' hg1
   go_wp2_with fail
   go_roundw
   case rel=>exact⟨k+1,some ⟨g',0,none⟩,cap',HLT.out,rfl,by rw [HNXE.out],HG1.out,Lib.hid (by rw [HTK.out];exact HR1.out)⟩
   case measure=>simp [slLen];have:=HLT.out;omega
  ·obtain rfl:k=T.length:=by omega
   have HNX:=Lib.hid hE.out
   unfold NxP at HNX
   clear hg
   go_wp2_with (go_at_call 163;refine(HNX.out _).mono ?_;rintro e' w' ⟨rfl,bs,d,rfl⟩)
   go_returns
   exact⟨_,rfl,World.Grows.trans' HG.out growsR,by have h9:=HR.out;rw [List.take_length]at h9;exact own_growT h9 growsR⟩
theorem heap_newT(w:World)(o:Obj)(k:Nat)(h:k=w.heap.size):(w.alloc o).heap[k]? =some o:=by subst h;exact heap_alloc_new _ _
def BegP(T:List Tk)(n:Nat)(w:World)(e:Ending)(w':World):Prop:=∃v g,e= .returned (.tuple #[.pointer (some ⟨g,0,none⟩),.int .i64 0,.int .i64 0])∧w.Grows w'∧w.heap.size≤g∧w'.heap[g]? =some (.cells #[v,.int .i64 0,.int .i64 n,.bool false] 157 (0,0))∧w'.ownsRow w.heap.size 197 3 v T.length (tkV T)∧v.ownBlock≠some g
theorem begin_any(s:ByteArray)(T:List Tk)(w:World)(hs:s.size≤8000)(HA:Hid (∀w,Calls Tryz.prog 127 #[.string s] w (AllP T w))):Calls Tryz.prog 80 #[.string s] w (BegP T s.size w):=by
 go_enter Tryz.func80,Tryz.ntmps80
 go_wp2_with (go_at_call 127;refine(HA.out _).mono ?_;rintro e' w' ⟨v,rfl,⟨bs,d,rfl⟩,hown⟩;have HO:=Lib.hid hown;obtain⟨a,c,rfl⟩:=own_formT hown;clear hown)
 go_returns
 exact⟨.slice a T.length c,_,rfl,growsR,by simp,heap_newT _ _ _ (by simp),own_growT HO.out growsR,fun e=>by have:=(HO.out.lt _ e).2;simp at this⟩
def TkAt(w:World)(a:Option Addr)(T:List Tk):Prop:=T.length≤8000∧∃b,a=some ⟨b,0,none⟩∧b<w.heap.size∧∀k,k<T.length→w.cell? ⟨b,k*3,none⟩=some (.int .i64 (T.getD k default).1)∧w.cell? ⟨b,k*3+1,none⟩=some (.string (T.getD k default).2.1)∧w.cell? ⟨b,k*3+2,none⟩=some (.int .i64 ((T.getD k default).2.2:Nat))
structure RdAt(T:List Tk)(g:Nat)(a:Option Addr)(c n p:Nat)(w:World):Prop where
 rd:w.heap[g]? =some (.cells #[.slice a T.length c,.int .i64 p,.int .i64 n,.bool false] 157 (0,0))
 tk:TkAt w a T
 ne:∀b,a=some ⟨b,0,none⟩→b≠g
theorem RdAt.lt{T:List Tk}{g c n p:Nat}{a:Option Addr}{w:World}(h:RdAt T g a c n p w):g<w.heap.size:=(Array.getElem?_eq_some_iff.1 h.rd).1
theorem RdAt.keep{T:List Tk}{g c n p:Nat}{a:Option Addr}{w w':World}(h:RdAt T g a c n p w)(hsz:w.heap.size≤w'.heap.size)(hw:∀k,k<w.heap.size→w'.heap[k]? =w.heap[k]?):RdAt T g a c n p w':=by
 obtain⟨h0,b,rfl,hb,hc⟩:=h.tk
 refine⟨(hw g h.lt).trans h.rd,⟨h0,b,rfl,Nat.lt_of_lt_of_le hb hsz,fun k hk=>?_⟩,h.ne⟩
 obtain⟨e0,e1,e2⟩:=hc k hk
 exact⟨(World.cell?_of_block (hw b hb)).trans e0,(World.cell?_of_block (hw b hb)).trans e1,(World.cell?_of_block (hw b hb)).trans e2⟩
theorem RdAt.grows{T:List Tk}{g c n p:Nat}{a:Option Addr}{w w':World}(h:RdAt T g a c n p w)(hg:w.Grows w'):RdAt T g a c n p w':=h.keep hg.below.size fun k hk=>hg.below.block k hk
def isB(T:List Tk)(p:Nat)(s:ByteArray):Bool:=decide (p<T.length)&&((T.getD p default).2.1.toList==s.toList)
def kindB(T:List Tk)(p:Nat)(k:Int):Bool:=decide (p<T.length)&&((T.getD p default).1==k)
theorem is_any(T:List Tk)(g c n p:Nat)(a:Option Addr)(s:ByteArray)(w:World)(h:RdAt T g a c n p w):Calls Tryz.prog 164 #[.pointer (some ⟨g,0,none⟩),.string s] w fun e w'=>e= .returned (.bool (isB T p s))∧w.Grows w':=by
 have c0:=cell_of_row w g 0 _ _ _ h.rd
 have c1:=cell_of_row w g 1 _ _ _ h.rd
 have c3:=cell_of_row w g 3 _ _ _ h.rd
 have hg:=h.lt
 obtain⟨h8,b,rfl,hb,hc⟩:=h.tk
 by_cases hp:p<T.length
 ·obtain⟨-,e1,-⟩:=hc p hp
  have hp1:(p:Int)<(T.length:Int):=by omega
  have HF:Hid (isB T p s=((T.getD p default).2.1.toList==s.toList)):=Lib.hid (by unfold isB;rw [decide_eq_true hp,Bool.true_and])
  generalize(T.getD p default).2.1=tx at *
  rw [HF.out]
  clear hc h HF
  cases hq:tx.toList==s.toList
  all_goals
   go_enter Tryz.func164,Tryz.ntmps164
   exact tz41
 ·have HF:Hid (isB T p s=false):=Lib.hid (by unfold isB;rw [decide_eq_false hp,Bool.false_and])
  have hp1:¬(p:Int)<(T.length:Int):=by omega
  rw [HF.out]
  clear hc h HF
  go_enter Tryz.func164,Tryz.ntmps164
  exact tz41
theorem kind_any(T:List Tk)(g c n p:Nat)(a:Option Addr)(k:Int)(w:World)(h:RdAt T g a c n p w):Calls Tryz.prog 166 #[.pointer (some ⟨g,0,none⟩),.int .i64 k] w fun e w'=>e= .returned (.bool (kindB T p k))∧w.Grows w':=by
 have c0:=cell_of_row w g 0 _ _ _ h.rd
 have c1:=cell_of_row w g 1 _ _ _ h.rd
 have c3:=cell_of_row w g 3 _ _ _ h.rd
 have hg:=h.lt
 obtain⟨h8,b,rfl,hb,hc⟩:=h.tk
 by_cases hp:p<T.length
 ·obtain⟨e1,-,-⟩:=hc p hp
  have hp1:(p:Int)<(T.length:Int):=by omega
  have HF:Hid (kindB T p k=((T.getD p default).1==k)):=Lib.hid (by unfold kindB;rw [decide_eq_true hp,Bool.true_and])
  generalize(T.getD p default).1=tx at *
  rw [HF.out]
  clear hc h HF
  cases hq:tx==k
  all_goals
   go_enter Tryz.func166,Tryz.ntmps166
   exact tz41
 ·have HF:Hid (kindB T p k=false):=Lib.hid (by unfold kindB;rw [decide_eq_false hp,Bool.false_and])
  have hp1:¬(p:Int)<(T.length:Int):=by omega
  rw [HF.out]
  clear hc h HF
  go_enter Tryz.func166,Tryz.ntmps166
  exact tz41
def Kp(B g:Nat)(w w':World):Prop:=Below B w w'∧w.heap.size≤w'.heap.size∧∀k,k<w.heap.size→k≠g→w'.heap[k]? =w.heap[k]?
theorem Kp.refl(B g:Nat)(w:World):Kp B g w w:=⟨Below.refl _ _,Nat.le_refl _,fun _ _ _=>rfl⟩
theorem Kp.grows{B g:Nat}{w w1 w2:World}(h:Kp B g w w1)(hB:B≤w.heap.size)(hg:w1.Grows w2):Kp B g w w2:=by
 have h3:=hg.below.mono (Nat.le_trans hB h.2.1)
 refine⟨h.1.trans h3,Nat.le_trans h.2.1 hg.below.size,fun k hk hne=>(hg.below.block k (Nat.lt_of_lt_of_le hk h.2.1)).trans (h.2.2 k hk hne)⟩
theorem Kp.trans{B g:Nat}{w w1 w2:World}(h:Kp B g w w1)(h2:Kp B g w1 w2):Kp B g w w2:=
 ⟨h.1.trans h2.1,Nat.le_trans h.2.1 h2.2.1,fun k hk hne=>(h2.2.2 k (Nat.lt_of_lt_of_le hk h.2.1) hne).trans (h.2.2 k hk hne)⟩
theorem RdAt.step{T:List Tk}{g c n p:Nat}{a:Option Addr}{w:World}(h:RdAt T g a c n p w):RdAt T g a c n (p+1) (w.setCell ⟨g,1,none⟩ (.int .i64 ((p:Int)+1))):=by
 obtain⟨h0,b,rfl,hb,hc⟩:=h.tk
 have hne:=h.ne b rfl
 have hw:(w.setCell ⟨g,1,none⟩ (.int .i64 ((p:Int)+1))).heap[b]? =w.heap[b]?:=Below.heap_setCell _ _ _ _ hne
 refine⟨?_,⟨h0,b,rfl,by simpa using hb,fun k hk=>?_⟩,h.ne⟩
 ·have:=Joins.block_setCell (i:=1) h.rd (.int .i64 ((p:Int)+1))
  simpa using this
 ·exact tz44
def lvF(op:Int):Int:=if op=21 then 0 else if op=18 then 1 else if op=17 then 2 else if op=5 then 3 else if 11≤op∧op≤16 then 4 else if op=7∨op=8 then 5 else if op=9∨op=10 then 6 else 7
def sgF(op:Int):ByteArray:=if op=7 then⟨#[43]⟩else if op=8 then⟨#[45]⟩else if op=9 then⟨#[42]⟩else if op=10 then⟨#[47]⟩else if op=11 then⟨#[60]⟩else if op=12 then⟨#[60,61]⟩else if op=13 then⟨#[61]⟩else if op=14 then⟨#[60,62]⟩else if op=15 then⟨#[62]⟩else if op=16 then⟨#[62,61]⟩else if op=17 then⟨#[97,110,100]⟩else⟨#[111,114]⟩
theorem level_any(op:Int)(w:World)(h:1≤op∧op≤21):Calls Tryz.prog 133 #[.int .i64 op] w fun e w'=>e= .returned (.int .i64 (lvF op))∧w=w':=by
 rcases(show op=1∨op=2∨op=3∨op=4∨op=5∨op=6∨op=7∨op=8∨op=9∨op=10∨op=11∨op=12∨op=13∨op=14∨op=15∨op=16∨op=17∨op=18∨op=19∨op=20∨op=21 by omega)with rfl|rfl|rfl|rfl|rfl|rfl|rfl|rfl|rfl|rfl|rfl|rfl|rfl|rfl|rfl|rfl|rfl|rfl|rfl|rfl|rfl
 all_goals
  go_enter Tryz.func133,Tryz.ntmps133
  exact tz16
theorem signOf_any(op:Int)(w:World)(h:7≤op∧op≤18):Calls Tryz.prog 171 #[.int .i64 op] w fun e w'=>e= .returned (.string (sgF op))∧w=w':=by
 rcases(show op=7∨op=8∨op=9∨op=10∨op=11∨op=12∨op=13∨op=14∨op=15∨op=16∨op=17∨op=18 by omega)with rfl|rfl|rfl|rfl|rfl|rfl|rfl|rfl|rfl|rfl|rfl|rfl
 all_goals
  go_enter Tryz.func171,Tryz.ntmps171
  exact tz16
def hitB(T:List Tk)(p:Nat)(n:Int)(j:Nat):Bool:=(lvF (7+j)==n)&&isB T p (sgF (7+j))
def BinOk(T:List Tk)(p:Nat)(n r:Int):Prop:=(r=0∧∀j,j<12→hitB T p n j=false)∨∃k:Nat,k<12∧r=7+k∧hitB T p n k=true∧∀j,j<k→hitB T p n j=false
theorem binary_any(T:List Tk)(g c n p:Nat)(a:Option Addr)(lv:Int)(w:World)(h:RdAt T g a c n p w):Calls Tryz.prog 131 #[.pointer (some ⟨g,0,none⟩),.int .i64 lv] w fun e w'=>∃r,e= .returned (.int .i64 r)∧BinOk T p lv r∧w.Grows w':=by
 have HR:=Lib.hid h
 clear h
 go_enter Tryz.func131,Tryz.ntmps131
 go_wp2_with fail
 go_loopw [5] (fun v5 wr=>∃k:Nat,k≤12∧v5= .int .i64 (7+k)∧w.Grows wr∧Hid (∀j,j<k→hitB T p lv j=false)) (fun v5 _=>(19-intOf v5).toNat)
 case atStart=>exact⟨0,by omega,rfl,.refl _,Lib.hid (fun j hj=>by omega)⟩
 case round=>
  obtain⟨k,hk,rfl,hg,HJ⟩:=hrel
  have HG:=Lib.hid hg
  by_cases hk12:k<12
  ·have hk1:(7:Int)+k≤18:=by omega
   have HLV:=Lib.hid (fun W=>level_any (7+k) W (by omega))
   have HSG:=Lib.hid (fun W=>signOf_any (7+k) W (by omega))
   have HIS:=Lib.hid (fun W (hw:w.Grows W)=>is_any T g c n p a (sgF (7+k)) W (HR.out.grows hw))
   have HH:Hid (hitB T p lv k=((lvF (7+k)==lv)&&isB T p (sgF (7+k)))):=Lib.hid rfl
   have HK:=Lib.hid hk12
   generalize sgF (7+k)=sg at *
   generalize lvF (7+k)=l7 at *
   clear hg hk
   cases hl:l7==lv
   ·go_wp2_with (go_at_call 133;refine(HLV.out _).mono ?_;rintro e' w' ⟨rfl,rfl⟩)
    go_roundw
    case rel=>exact⟨k+1,HK.out,by go_num,HG.out,Lib.hid (fun j hj=>by
     by_cases e:j=k
     ·rw [e,HH.out,hl];rfl
     ·exact HJ.out j (by omega))⟩
    case measure=>simp [intOf];omega
   ·cases hb:isB T p sg
    ·rw [hb]at HIS
     go_wp2_with (first
      |(go_at_call 133;refine(HLV.out _).mono ?_;rintro e' w' ⟨rfl,rfl⟩)
      |(go_at_call 171;refine(HSG.out _).mono ?_;rintro e' w' ⟨rfl,rfl⟩)
      |(go_at_call 164;refine(HIS.out _ (World.Grows.trans' HG.out growsR)).mono ?_;rintro e' w' ⟨rfl,bs,d,rfl⟩))
     go_roundw
     case rel=>exact⟨k+1,HK.out,by go_num,World.Grows.trans' HG.out growsR,Lib.hid (fun j hj=>by
      by_cases e:j=k
      ·rw [e,HH.out,hb,Bool.and_false]
      ·exact HJ.out j (by omega))⟩
     case measure=>simp [intOf];omega
    ·rw [hb]at HIS
     go_wp2_with (first
      |(go_at_call 133;refine(HLV.out _).mono ?_;rintro e' w' ⟨rfl,rfl⟩)
      |(go_at_call 171;refine(HSG.out _).mono ?_;rintro e' w' ⟨rfl,rfl⟩)
      |(go_at_call 164;refine(HIS.out _ (World.Grows.trans' HG.out growsR)).mono ?_;rintro e' w' ⟨rfl,bs,d,rfl⟩))
     go_returns
     exact⟨_,rfl,.inr ⟨k,HK.out,rfl,by rw [HH.out,hl,hb];rfl,HJ.out⟩,World.Grows.trans' HG.out growsR⟩
  ·obtain rfl:k=12:=by omega
   clear hg
   go_wp2_with fail
   go_returns
   exact⟨_,rfl,.inl ⟨rfl,HJ.out⟩,HG.out⟩
theorem RdAt.alloc{T:List Tk}{g c n p:Nat}{a:Option Addr}{w:World}(h:RdAt T g a c n p w)(o:Obj):RdAt T g a c n p (w.alloc o):=h.grows growsR
theorem RdAt.grow{T:List Tk}{g c n p:Nat}{a:Option Addr}{w:World}(h:RdAt T g a c n p w)(bs:Array Obj)(d:Nat):RdAt T g a c n p (w.grow bs d):=h.grows growsR
theorem RdAt.to{T:List Tk}{g c n p:Nat}{a:Option Addr}{w:World}(h:RdAt T g a c n p w)(q:Nat):RdAt T g a c n q (w.setCell ⟨g,1,none⟩ (.int .i64 (q:Nat))):=by
 obtain⟨h0,b,rfl,hb,hc⟩:=h.tk
 have hne:=h.ne b rfl
 have hw:(w.setCell ⟨g,1,none⟩ (.int .i64 (q:Nat))).heap[b]? =w.heap[b]?:=Below.heap_setCell _ _ _ _ hne
 refine⟨?_,⟨h0,b,rfl,by simpa using hb,fun k hk=>?_⟩,h.ne⟩
 ·have:=Joins.block_setCell (i:=1) h.rd (.int .i64 (q:Nat))
  simpa using this
 ·exact tz44
theorem setCell_two(w:World)(g:Nat)(v v':Value):(w.setCell ⟨g,1,none⟩ v).setCell ⟨g,1,none⟩ v'=w.setCell ⟨g,1,none⟩ v':=by
 simp only [World.setCell]
 congr 1
 apply Array.ext_getElem?
 intro k
 simp only [Array.getElem?_modify]
 by_cases hk:g=k
 ·subst hk
  cases w.heap[g]? with
  |none=>simp
  |some o=>cases o<;>simp
 ·simp [hk]
def ExQ(g q:Nat)(E:Ex)(X:World)(e:Ending)(w':World):Prop:=∃v bs d,e= .returned (.agg #[.int .i64 E.op,.int .i64 E.num,.int .i64 E.den,.int .i64 E.dim,.string E.name,v])∧w'=(X.setCell ⟨g,1,none⟩ (.int .i64 (q:Nat))).grow bs d∧RepE (X.heap.size≤·) w' E v
def ExO(T:List Tk)(g c n:Nat)(a:Option Addr)(lev:Int)(p q:Nat)(E:Ex):Prop:=∀X,RdAt T g a c n p X→Calls Tryz.prog 81 #[.pointer (some ⟨g,0,none⟩),.int .i64 lev] X (ExQ g q E X)
def FcO(T:List Tk)(g c n:Nat)(a:Option Addr)(p q:Nat)(E:Ex):Prop:=∀X,RdAt T g a c n p X→Calls Tryz.prog 130 #[.pointer (some ⟨g,0,none⟩)] X (ExQ g q E X)
theorem ExQ.of{g q:Nat}{E:Ex}{X w':World}{v:Value}(hw:(X.setCell ⟨g,1,none⟩ (.int .i64 (q:Nat))).Grows w')(hr:RepE (X.heap.size≤·) w' E v):ExQ g q E X (.returned (.agg #[.int .i64 E.op,.int .i64 E.num,.int .i64 E.den,.int .i64 E.dim,.string E.name,v])) w':=by
 obtain⟨bs,d,rfl⟩:=hw
 exact⟨v,bs,d,rfl,rfl,hr⟩
theorem expr_7(T:List Tk)(g c n p q:Nat)(a:Option Addr)(E:Ex)(HF:Hid (FcO T g c n a p q E)):ExO T g c n a 7 p q E:=by
 intro w h
 have HR:=Lib.hid h
 have c0:=cell_of_row w g 0 _ _ _ h.rd
 have c3:=cell_of_row w g 3 _ _ _ h.rd
 have hf:=fun j=>Joins.unfrozen_of_block h.rd j
 have hg:=h.lt
 clear h
 go_enter Tryz.func81,Tryz.ntmps81
 go_wp2_with (go_at_call 130;refine(HF.out _ (HR.out.alloc _)).mono ?_;rintro e' w' ⟨v,bs,d,rfl,rfl,HRP⟩;obtain⟨va,vc,rfl⟩:=RepE.form HRP;have HRP:=Lib.hid HRP)
 go_returns
 exact ExQ.of growsR ((HRP.out.lift0 (by simp) (by simp) d).mono fun b hb=>by simp at hb;omega)
attribute [local go_sem] setCell_two
theorem RdAt.drew{T:List Tk}{g c n p:Nat}{a:Option Addr}{w:World}(h:RdAt T g a c n p w):RdAt T g a c n p w.drew:=h.keep (Nat.le_refl _) fun _ _=>rfl
theorem box_blk(w:World)(g:Nat)(v v':Value)(z z' o o':Obj)(bs bs2 bs3:Array Obj)(d d2 d' d3 b:Nat)(h:w.heap.size+1≤b)(hne:b≠w.heap.size+1+bs.size)(hlt:b<w.heap.size+1+bs.size+1+bs2.size) :
 (((((w.setCell ⟨g,1,none⟩ v').alloc z').grow bs d').alloc o').grow (bs2++bs3) d3).heap[b]? =(((((w.setCell ⟨g,1,none⟩ v).alloc z).grow bs d).alloc o).grow bs2 d2).heap[b]?:=by
 have e1:∀u,(w.setCell ⟨g,1,none⟩ u).heap.size=w.heap.size:=fun u=>World.size_setCell _ _ _
 simp only [World.grow,World.alloc,Array.getElem?_append,Array.getElem?_push,Array.size_append,Array.size_push,e1]
 repeat' split
 all_goals first|rfl|omega
theorem RepE.boxed{w:World}{g:Nat}{v:Value}{z o:Obj}{bs bs2:Array Obj}{d d2:Nat}{e:Ex}{u:Value}(h:RepE (fun b=>w.heap.size+1≤b∧b≠w.heap.size+1+bs.size) (((((w.setCell ⟨g,1,none⟩ v).alloc z).grow bs d).alloc o).grow bs2 d2) e u)(v':Value)(z' o':Obj)(d' d3:Nat)(bs3:Array Obj) :
 RepE (fun b=>w.heap.size+1≤b∧b≠w.heap.size+1+bs.size) (((((w.setCell ⟨g,1,none⟩ v').alloc z').grow bs d').alloc o').grow (bs2++bs3) d3) e u:=
 h.keep (by simp;try omega) fun b o hb hlt=>World.cell?_of_block (box_blk w g _ _ _ _ _ _ bs bs2 bs3 _ _ _ _ b hb.1 hb.2 (by simpa using hlt))
theorem grows_ex{A W:World}{C:Prop}(h:A.Grows W)(hc:C):∃bs d,W=A.grow bs d∧C:=by
 obtain⟨bs,d,rfl⟩:=h
 exact⟨bs,d,rfl,hc⟩
def Chn(T:List Tk)(g c n:Nat)(a:Option Addr)(lev:Int):Nat→Nat→Ex→Nat→Ex→Prop
 |0,q,E,q',E'=>q=q'∧E=E'∧∀j,j<12→hitB T q lev j=false
 |m+1,q,E,q',E'=>∃(k q2:Nat) (E2:Ex),k<12∧hitB T q lev k=true∧(∀j,j<k→hitB T q lev j=false)∧q<q2∧ExO T g c n a (lev+1) (q+1) q2 E2∧Chn T g c n a lev m q2 (.mk (7+k) 0 0 0 ByteArray.empty [E,E2]) q' E'
theorem BinOk.no{T:List Tk}{p:Nat}{lv r:Int}(h:BinOk T p lv r)(hn:∀j,j<12→hitB T p lv j=false):r=0:=by
 rcases h with h|⟨k,hk,_,hh,_⟩
 ·exact h.1
 ·rw [hn k hk]at hh;cases hh
theorem BinOk.yes{T:List Tk}{p k:Nat}{lv r:Int}(h:BinOk T p lv r)(hk:k<12)(hh:hitB T p lv k=true)(hn:∀j,j<k→hitB T p lv j=false):r=7+k:=by
 rcases h with h|⟨j,hj,e,hh2,hn2⟩
 ·rw [h.2 k hk]at hh;cases hh
 ·rcases Nat.lt_trichotomy j k with h|h|h
  ·rw [hn j h]at hh2;cases hh2
  ·rw [e,h]
  ·rw [hn2 k h]at hh;cases hh
theorem hit_lt{T:List Tk}{p k:Nat}{lv:Int}(h:hitB T p lv k=true):p<T.length:=by
 unfold hitB isB at h
 simp at h
 exact h.2.1
theorem bin_no(T:List Tk)(g c n p:Nat)(a:Option Addr)(lv:Int)(w:World)(h:RdAt T g a c n p w)(hn:∀j,j<12→hitB T p lv j=false):Calls Tryz.prog 131 #[.pointer (some ⟨g,0,none⟩),.int .i64 lv] w fun e w'=>e= .returned (.int .i64 0)∧w.Grows w':=
 (binary_any T g c n p a lv w h).mono fun e w' h=>by obtain⟨r,he,hb,hw⟩:=h;rw [hb.no hn]at he;exact⟨he,hw⟩
theorem bin_yes(T:List Tk)(g c n p k:Nat)(a:Option Addr)(lv:Int)(w:World)(h:RdAt T g a c n p w)(hk:k<12)(hh:hitB T p lv k=true)(hn:∀j,j<k→hitB T p lv j=false):Calls Tryz.prog 131 #[.pointer (some ⟨g,0,none⟩),.int .i64 lv] w fun e w'=>e= .returned (.int .i64 (7+(k:Int)))∧w.Grows w':=
 (binary_any T g c n p a lv w h).mono fun e w' h=>by obtain⟨r,he,hb,hw⟩:=h;rw [hb.yes hk hh hn]at he;exact⟨he,hw⟩
theorem expr_chain(T:List Tk)(g c n p q q9 m:Nat)(a:Option Addr)(lev:Int)(E E9:Ex)(hl:1≤lev∧lev≤6)(h3:(lev==3)=false)(h4:m=0∨(lev==4)=false)(HS:Hid (ExO T g c n a (lev+1) p q E))(HC:Hid (Chn T g c n a lev m q E q9 E9)):ExO T g c n a lev p q9 E9:=by
 intro w h
 have HR:=Lib.hid h
 have HRQ:=Lib.hid h
 have HR1:=Lib.hid h
 have c0:=cell_of_row w g 0 _ _ _ h.rd
 have c1:=cell_of_row w g 1 _ _ _ h.rd
 have c2:=cell_of_row w g 2 _ _ _ h.rd
 have c3:=cell_of_row w g 3 _ _ _ h.rd
 have hf:=fun j=>Joins.unfrozen_of_block h.rd j
 have hg:=h.lt
 have h0:(lev==0)=false:=by simp;omega
 have h7:(lev==7)=false:=by simp;omega
 have H4:=Lib.hid h4
 clear h h4
 go_enter Tryz.func81,Tryz.ntmps81
 go_wp2_with (go_at_call 81;refine(HS.out _ ((by repeat' (first|(with_reducible exact HR.out)|(with_reducible exact HRQ.out)|(with_reducible exact HR1.out)|(with_reducible refine RdAt.grow ?_ _ _)|(with_reducible refine RdAt.alloc ?_ _)|(with_reducible refine RdAt.drew ?_))))).mono ?_;rintro e' w' ⟨v,bs,d,rfl,rfl,HRP⟩;obtain⟨va,vc,rfl⟩:=RepE.form HRP;have HRP:=Lib.hid HRP)
 have HQ0:Hid (RepE (fun b=>w.heap.size+1≤b∧b≠w.heap.size+1+bs.size) ((((w.setCell ⟨g,1,none⟩ (.int .i64 (q:Nat))).alloc ((.cells #[.int .i64 0,.int .i64 0,.int .i64 0,.int .i64 0,.string ⟨#[]⟩,.slice none 0 0] 27))).grow bs d).alloc (.cells #[.int .i64 E.op,.int .i64 E.num,.int .i64 E.den,.int .i64 E.dim,.string E.name,.slice va E.args.length vc] 27)) E (.slice va E.args.length vc)):=Lib.hid (((HRP.out.lift0 (A':=(w.setCell ⟨g,1,none⟩ (.int .i64 (q:Nat))).alloc ((.cells #[.int .i64 0,.int .i64 0,.int .i64 0,.int .i64 0,.string ⟨#[]⟩,.slice none 0 0] 27))) (by simp) (by simp) d).mono' (S':=fun b=>w.heap.size+1≤b∧b≠w.heap.size+1+bs.size) fun b hb hlt=>by simp at hb hlt;omega).alloc _)
 clear HRP
 go_loopw [] (fun wr=>∃(m q:Nat) (E:Ex) (va:Option Addr) (vc:Nat) (bs2:Array Obj) (d2:Nat),wr=((((w.setCell ⟨g,1,none⟩ (.int .i64 (q:Nat))).alloc ((.cells #[.int .i64 0,.int .i64 0,.int .i64 0,.int .i64 0,.string ⟨#[]⟩,.slice none 0 0] 27))).grow bs d).alloc (.cells #[.int .i64 E.op,.int .i64 E.num,.int .i64 E.den,.int .i64 E.dim,.string E.name,.slice va E.args.length vc] 27)).grow bs2 d2∧Hid (RepE (fun b=>w.heap.size+1≤b∧b≠w.heap.size+1+bs.size) wr E (.slice va E.args.length vc))∧Hid (Chn T g c n a lev m q E q9 E9)∧Hid (m=0∨(lev==4)=false)) (fun wr=>T.length-(intOf ((wr.cell? ⟨g,1,none⟩).getD undef)).toNat)
 case atStart=>exact⟨m,q,E,va,vc,#[],_,World.grow_self _,HQ0,HC,H4⟩
 case round=>
  clear HC H4 HQ0 HS
  obtain⟨m,q,E,va,vc,bs2,d2,rfl,HRP,HC,H4⟩:=hrel
  have HRQ:=Lib.hid (HR.out.to q)
  cases m with
  |zero=>
   obtain⟨rfl,rfl,hno⟩:=HC.out
   have HB:=Lib.hid (fun X (hX:RdAt T g a c n q X)=>bin_no T g c n q a lev X hX hno)
   clear HC hno
   go_wp2_with (go_at_call 131;refine(HB.out _ ((by repeat' (first|(with_reducible exact HR.out)|(with_reducible exact HRQ.out)|(with_reducible exact HR1.out)|(with_reducible refine RdAt.grow ?_ _ _)|(with_reducible refine RdAt.alloc ?_ _)|(with_reducible refine RdAt.drew ?_))))).mono ?_;rintro e' w' ⟨rfl,bs3,d3,rfl⟩)
   go_returns
   exact ExQ.of growsR ((HRP.out.boxed _ _ _ _ _ bs3).mono fun b hb=>by have:=hb.1;omega)
  |succ m=>
   obtain⟨k,q2,E2,hk,hh,hn,hq2,HE,HC2⟩:=HC.out
   have HB:=Lib.hid (fun X (hX:RdAt T g a c n q X)=>bin_yes T g c n q k a lev X hX hk hh hn)
   have HQ2:=Lib.hid hq2
   have HQT:=Lib.hid (hit_lt hh)
   have HEX:=Lib.hid HE
   have HC9:=Lib.hid HC2
   have h44:(lev==4)=false:=H4.out.resolve_left (by omega)
   have HR1:Hid (RdAt T g a c n (q+1) (w.setCell ⟨g,1,none⟩ (.int .i64 ((q:Int)+1)))):=Lib.hid (HR.out.to (q+1))
   have h80:q≤8000:=by have:=HR.out.tk.1;have:=HQT.out;omega
   clear HC hh hn hq2 HE HC2
   go_wp2_with (go_at_call 131;refine(HB.out _ ((by repeat' (first|(with_reducible exact HR.out)|(with_reducible exact HRQ.out)|(with_reducible exact HR1.out)|(with_reducible refine RdAt.grow ?_ _ _)|(with_reducible refine RdAt.alloc ?_ _)|(with_reducible refine RdAt.drew ?_))))).mono ?_;rintro e' w' ⟨rfl,bs3,d3,rfl⟩)
   refine TG.begin 8 (fun w'=>w'.cell? ⟨w.heap.size+1+bs.size,0,none⟩=some (.int .i64 E.op)∧w'.cell? ⟨w.heap.size+1+bs.size,1,none⟩=some (.int .i64 E.num)∧w'.cell? ⟨w.heap.size+1+bs.size,2,none⟩=some (.int .i64 E.den)∧w'.cell? ⟨w.heap.size+1+bs.size,3,none⟩=some (.int .i64 E.dim)∧w'.cell? ⟨w.heap.size+1+bs.size,4,none⟩=some (.string E.name)∧w'.cell? ⟨w.heap.size+1+bs.size,5,none⟩=some (.slice va E.args.length vc)) (by kernel_rfl) (by kernel_rfl) ?_ (fun hS=>?_)
   focus(refine⟨?_, ?_, ?_, ?_, ?_, ?_⟩<;>simp [go_sem])
   refine TG.tkB 0 hS ?_
   refine TG.tkB 1 hS ?_
   refine TG.tkB 2 hS ?_
   refine TG.tkB 3 hS ?_
   refine TG.tkB 4 hS ?_
   refine TG.one (i:=5) (by kernel_rfl) rfl (fun K1 hK1=>?_)
   go_simp
   rw [show IntKind.i64.wrap (lev+1)=lev+1 from IntWalk.i64_in _ (by omega)]
   go_at_call 81
   refine(HEX.out _ ((by repeat' (first|(with_reducible exact HR.out)|(with_reducible exact HRQ.out)|(with_reducible exact HR1.out)|(with_reducible refine RdAt.grow ?_ _ _)|(with_reducible refine RdAt.alloc ?_ _)|(with_reducible refine RdAt.drew ?_))))).mono ?_
   rintro e' w' ⟨v2,bs4,d4,rfl,rfl,HRP2⟩
   obtain⟨va2,vc2,rfl⟩:=RepE.form HRP2
   have HRP2:=Lib.hid HRP2
   have H2:=Lib.hid ((HRP2.out.lift0 (A':=(((((w.setCell ⟨g,1,none⟩ (.int .i64 (q2:Nat))).alloc ((.cells #[.int .i64 0,.int .i64 0,.int .i64 0,.int .i64 0,.string ⟨#[]⟩,.slice none 0 0] 27))).grow bs d).alloc (.cells #[.int .i64 E.op,.int .i64 E.num,.int .i64 E.den,.int .i64 E.dim,.string E.name,.slice va E.args.length vc] 27)).grow (bs2++bs3) (d3+1))) (by simp) (by simp) d4).mono' (S':=fun b=>w.heap.size+1≤b∧b≠w.heap.size+1+bs.size) fun b hb hlt=>by simp at hb hlt;omega)
   clear HRP2
   refine TG.go hK1 ?_ (fun hS=>?_)
   focus
    (try dsimp only)
    (refine⟨?_, ?_, ?_, ?_, ?_, ?_⟩<;>simp [go_sem])
   clear hK1 K1
   (try simp only [nS])
   refine TG.one (i:=6) (by kernel_rfl) rfl (fun K1 hK1=>?_)
   go_simp
   refine TG.go hK1 ?_ (fun hS=>?_)
   focus
    (try dsimp only)
    (refine⟨?_, ?_, ?_, ?_, ?_, ?_⟩<;>simp [go_sem])
   clear hK1 K1
   (try simp only [nS])
   refine TG.tkB 7 hS ?_
   refine TG.one (i:=8) (by kernel_rfl) rfl (fun K1 hK1=>?_)
   go_simp
   refine hK1 _ _ (fun h=>absurd rfl h) (TG.done (by kernel_rfl) ?_)
   clear hK1 K1 hS
   (try simp only [nS])
   go_wp2_with fail
   go_roundw
   case rel=>
    have R1:=(HRP.out.boxed (.int .i64 (q2:Nat)) ((.cells #[.int .i64 0,.int .i64 0,.int .i64 0,.int .i64 0,.string ⟨#[]⟩,.slice none 0 0] 27)) ((.cells #[.int .i64 (7+(k:Int)),.int .i64 0,.int .i64 0,.int .i64 0,.string ⟨#[]⟩,.slice (some ⟨w.heap.size+1+bs.size+1+(bs2.size+(bs3.size+bs4.size)),0,none⟩) 2 2] 27)) d d4 (bs3++bs4)).alloc ((.cells #[.int .i64 E.op,.int .i64 E.num,.int .i64 E.den,.int .i64 E.dim,.string E.name,.slice va E.args.length vc,.int .i64 E2.op,.int .i64 E2.num,.int .i64 E2.den,.int .i64 E2.dim,.string E2.name,.slice va2 E2.args.length vc2] 27))
    have R2:=((H2.out.eqw (w':=((((w.setCell ⟨g,1,none⟩ (.int .i64 (q2:Nat))).alloc ((.cells #[.int .i64 0,.int .i64 0,.int .i64 0,.int .i64 0,.string ⟨#[]⟩,.slice none 0 0] 27))).grow bs d).alloc (.cells #[.int .i64 E.op,.int .i64 E.num,.int .i64 E.den,.int .i64 E.dim,.string E.name,.slice va E.args.length vc] 27)).grow (bs2++(bs3++bs4)) d4) (by simp)).boxed (.int .i64 (q2:Nat)) ((.cells #[.int .i64 0,.int .i64 0,.int .i64 0,.int .i64 0,.string ⟨#[]⟩,.slice none 0 0] 27)) ((.cells #[.int .i64 (7+(k:Int)),.int .i64 0,.int .i64 0,.int .i64 0,.string ⟨#[]⟩,.slice (some ⟨w.heap.size+1+bs.size+1+(bs2.size+(bs3.size+bs4.size)),0,none⟩) 2 2] 27)) d d4 #[]).alloc ((.cells #[.int .i64 E.op,.int .i64 E.num,.int .i64 E.den,.int .i64 E.dim,.string E.name,.slice va E.args.length vc,.int .i64 E2.op,.int .i64 E2.num,.int .i64 E2.den,.int .i64 E2.dim,.string E2.name,.slice va2 E2.args.length vc2] 27))
    rw [Array.append_empty]at R2
    have R3:=RepE.pair (7+k) (by omega) (b:=w.heap.size+1+bs.size+1+(bs2.size+(bs3.size+bs4.size))) ⟨by omega,by omega⟩ (heap_new _ _ _ (by simp)) R1 R2
    exact⟨m,q2,.mk (7+k) 0 0 0 ByteArray.empty [E,E2],_,2,grows_ex (A:=(((w.setCell ⟨g,1,none⟩ (.int .i64 (q2:Nat))).alloc ((.cells #[.int .i64 0,.int .i64 0,.int .i64 0,.int .i64 0,.string ⟨#[]⟩,.slice none 0 0] 27))).grow bs d).alloc ((.cells #[.int .i64 (7+(k:Int)),.int .i64 0,.int .i64 0,.int .i64 0,.string ⟨#[]⟩,.slice (some ⟨w.heap.size+1+bs.size+1+(bs2.size+(bs3.size+bs4.size)),0,none⟩) 2 2] 27))) growsR ⟨Lib.hid R3,HC9,Lib.hid (.inr h44)⟩⟩
   case measure=>
    have:=HQ2.out
    have:=HQT.out
    simp [go_sem,intOf,c1,hg]
    omega
end Go.Proofs.YtfoefpoaomepbaaGreatDoor
namespace Go.Proofs.YtfoefpoaomepbaaGreatDoor
open Go.RowKit
attribute [local go_sem] setCell_two
theorem res_blk(w:World)(g:Nat)(v:Value)(z z':Obj)(bs bs2:Array Obj)(d d2 d3 b:Nat)(h:w.heap.size+1+bs.size≤b) :
 (((w.setCell ⟨g,1,none⟩ v).alloc z').grow (bs++bs2) d3).heap[b]? =((((w.alloc z).grow bs d).setCell ⟨g,1,none⟩ v).grow bs2 d2).heap[b]?:=by
 rw [World.grow,World.grow]
 have e1:((w.setCell ⟨g,1,none⟩ v).alloc z').heap.size=w.heap.size+1:=by simp
 have e2:(((w.alloc z).grow bs d).setCell ⟨g,1,none⟩ v).heap.size=w.heap.size+1+bs.size:=by simp
 simp only []
 rw [Array.getElem?_append_right (by omega),Array.getElem?_append_right (by omega),Array.getElem?_append_right (by omega),e1,e2]
 congr 1
 omega
theorem take_no(T:List Tk)(g c n p:Nat)(a:Option Addr)(s:ByteArray)(w:World)(h:RdAt T g a c n p w)(hb:isB T p s=false):Calls Tryz.prog 128 #[.pointer (some ⟨g,0,none⟩),.string s] w fun e w'=>e= .returned (.bool false)∧w.Grows w':=by
 have HI:=Lib.hid (is_any T g c n p a s w h)
 rw [hb]at HI
 have hg:=h.lt
 clear h
 go_enter Tryz.func128,Tryz.ntmps128
 go_wp2_with (go_at_call 164;refine(HI.out).mono ?_;rintro e' w' ⟨rfl,bs,d,rfl⟩)
 exact tz27
theorem expr_3(T:List Tk)(g c n p q:Nat)(a:Option Addr)(E:Ex)(hb:isB T p ⟨#[110,111,116]⟩=false)(HS:Hid (ExO T g c n a 4 p q E)):ExO T g c n a 3 p q E:=by
 intro w h
 have HR:=Lib.hid h
 have HR1:=Lib.hid h
 have c0:=cell_of_row w g 0 _ _ _ h.rd
 have c1:=cell_of_row w g 1 _ _ _ h.rd
 have c2:=cell_of_row w g 2 _ _ _ h.rd
 have c3:=cell_of_row w g 3 _ _ _ h.rd
 have hf:=fun j=>Joins.unfrozen_of_block h.rd j
 have hg:=h.lt
 have HT:=Lib.hid (fun X (hX:RdAt T g a c n p X)=>take_no T g c n p a ⟨#[110,111,116]⟩ X hX hb)
 exact tz11
theorem expr_0(T:List Tk)(g c n p q:Nat)(a:Option Addr)(E:Ex)(hb:isB T p ⟨#[105,102]⟩=false)(HS:Hid (ExO T g c n a 1 p q E)):ExO T g c n a 0 p q E:=by
 intro w h
 have HR:=Lib.hid h
 have HR1:=Lib.hid h
 have c0:=cell_of_row w g 0 _ _ _ h.rd
 have c1:=cell_of_row w g 1 _ _ _ h.rd
 have c2:=cell_of_row w g 2 _ _ _ h.rd
 have c3:=cell_of_row w g 3 _ _ _ h.rd
 have hf:=fun j=>Joins.unfrozen_of_block h.rd j
 have hg:=h.lt
 have HT:=Lib.hid (fun X (hX:RdAt T g a c n p X)=>take_no T g c n p a ⟨#[105,102]⟩ X hX hb)
 exact tz11
end Go.Proofs.YtfoefpoaomepbaaGreatDoor
namespace Go.Proofs.YtfoefpoaomepbaaGreatDoor
open Go.RowKit
attribute [local go_sem] setCell_two
theorem kind_as(T:List Tk)(g c n p:Nat)(a:Option Addr)(k:Int)(b:Bool)(w:World)(h:RdAt T g a c n p w)(hb:kindB T p k=b):Calls Tryz.prog 166 #[.pointer (some ⟨g,0,none⟩),.int .i64 k] w fun e w'=>e= .returned (.bool b)∧w.Grows w':=hb ▸ kind_any T g c n p a k w h
theorem kind_lt{T:List Tk}{p:Nat}{k:Int}(h:kindB T p k=true):p<T.length:=by
 unfold kindB at h
 simp at h
 exact h.1
theorem name_any(T:List Tk)(g c n p:Nat)(a:Option Addr)(t:ByteArray)(w:World)(h:RdAt T g a c n p w)(hk:kindB T p 1=true)(ht:(T.getD p default).2.1=t)(hz:t.size≤maxLen)(hn:nameB t=true):Calls Tryz.prog 170 #[.pointer (some ⟨g,0,none⟩)] w fun e w'=>e= .returned (.string t)∧∃bs d,w'=(w.setCell ⟨g,1,none⟩ (.int .i64 ((p+1:Nat)))).grow bs d:=by
 have HR:=Lib.hid h
 have c0:=cell_of_row w g 0 _ _ _ h.rd
 have c1:=cell_of_row w g 1 _ _ _ h.rd
 have hf:=fun j=>Joins.unfrozen_of_block h.rd j
 have hg:=h.lt
 have hlt:=kind_lt hk
 have HK:=Lib.hid (fun X (hX:RdAt T g a c n p X)=>kind_as T g c n p a 1 true X hX hk)
 have HN:=Lib.hid (fun X=>IsName_any t X hz)
 rw [hn]at HN
 obtain⟨h8,b,rfl,hb,hc⟩:=h.tk
 have hne:=h.ne b rfl
 obtain⟨-,e1,-⟩:=hc p hlt
 rw [ht]at e1
 have hp1:(p:Int)<(T.length:Int):=by omega
 have hp8:p≤8000:=by omega
 have HR1:Hid (RdAt T g (some ⟨b,0,none⟩) c n (p+1) (w.setCell ⟨g,1,none⟩ (.int .i64 ((p:Int)+1)))):=Lib.hid (HR.out.to (p+1))
 clear h hc hk ht
 go_enter Tryz.func170,Tryz.ntmps170
 go_wp2_with (first|(go_at_call 166;refine(HK.out _ ((by repeat' (first|(with_reducible exact HR.out)|(with_reducible exact HR1.out)|(with_reducible refine RdAt.grow ?_ _ _)|(with_reducible refine RdAt.alloc ?_ _)|(with_reducible refine RdAt.drew ?_))))).mono ?_;rintro e' w' ⟨rfl,bs0,d0,rfl⟩)|(go_at_call 44;refine(HN.out _).mono ?_;rintro e' w' ⟨rfl,rfl⟩))
 refine TG.begin 17 (fun w'=>w'.cell? ⟨g,0,none⟩=some (.slice (some ⟨b,0,none⟩) T.length c)∧w'.cell? ⟨g,1,none⟩=some (.int .i64 (p:Nat))∧w'.cell? ⟨b,p*3+1,none⟩=some (.string t)) (by kernel_rfl) (by kernel_rfl) ?_ (fun hS=>?_)
 focus(refine⟨?_, ?_, ?_⟩<;>simp [go_sem,c0,c1,e1])
 refine TG.tkB 0 hS ?_
 refine TG.one (i:=1) (by kernel_rfl) rfl (fun K1 hK1=>?_)
 go_simp
 go_at_call 166
 refine(HK.out _ ((by repeat' (first|(with_reducible exact HR.out)|(with_reducible exact HR1.out)|(with_reducible refine RdAt.grow ?_ _ _)|(with_reducible refine RdAt.alloc ?_ _)|(with_reducible refine RdAt.drew ?_))))).mono ?_
 rintro e' w' ⟨rfl,bs0,d0,rfl⟩
 (try simp only [World.drew_grow])
 refine TG.go hK1 ?_ (fun hS=>?_)
 focus
  (try dsimp only)
  (refine⟨?_, ?_, ?_⟩<;>simp [go_sem,c0,c1,e1,hg,hb])
 clear hK1 K1
 (try simp only [nS])
 refine TG.tkB 2 hS ?_
 refine TG.tkB 3 hS ?_
 refine TG.tkB 4 hS ?_
 refine TG.tkB 5 hS ?_
 refine TG.tkB 6 hS ?_
 refine TG.tkB 7 hS ?_
 refine TG.tkB 8 hS ?_
 refine TG.tkB 9 hS ?_
 refine TG.tkB 10 hS ?_
 refine TG.tkB 11 hS ?_
 refine TG.tkB 12 hS ?_
 refine TG.tkB 13 hS ?_
 refine TG.tkB 14 hS ?_
 refine TG.takeC (i:=15) (v:=.bool true) (fn:=44) (args:=#[.string t]) rfl (by kernel_rfl) (by kernel_rfl) (by kernel_rfl) (by decide) (fun _ _ _ h=>h) rfl hS ?_ ?_ ?_
 focus
  intro wS hSw
  (try dsimp only at hSw)
  go_simp
 focus exact fun wS _=>HN.out wS
 (try simp only [nS])
 refine TG.tkB 16 hS ?_
 refine TG.one (i:=17) (by kernel_rfl) rfl (fun K1 hK1=>?_)
 go_simp
 refine hK1 _ _ (fun h=>absurd rfl h) (TG.done (by kernel_rfl) ?_)
 clear hK1 K1 hS
 (try simp only [nS])
 go_wp2_with fail
 have f0:(w.setCell ⟨g,1,none⟩ (.int .i64 ((p:Int)+1))).cell? ⟨b,p*3+1,none⟩=some (.string t):=by rw [World.cell?_of_block (Below.heap_setCell _ _ _ _ hne)];exact e1
 go_quiet (fail)
 go_wp2_with fail
 go_returns
 exact⟨rfl,(growsR:World.Grows (w.setCell ⟨g,1,none⟩ (.int .i64 ((p:Int)+1))) _)⟩
theorem is_no(T:List Tk)(g c n p:Nat)(a:Option Addr)(s:ByteArray)(w:World)(h:RdAt T g a c n p w)(hb:isB T p s=false):Calls Tryz.prog 164 #[.pointer (some ⟨g,0,none⟩),.string s] w fun e w'=>e= .returned (.bool false)∧w.Grows w':=hb ▸ is_any T g c n p a s w h
theorem rng_name(t:ByteArray)(hz:t.size≤1000):ExRng (.mk 2 0 0 0 t []):=ExRng.lit 0 0 0 (by omega) (by omega) (by omega) 2 (by omega) t (by omega) [] (by simp)
def noWord(T:List Tk)(p:Nat):Bool:=!isB T p ⟨#[45]⟩&&!isB T p ⟨#[40]⟩&&!isB T p ⟨#[98,101,115,116]⟩&&!isB T p ⟨#[102,108,111,111,114]⟩&&!isB T p ⟨#[109,105,110]⟩&&!isB T p ⟨#[109,97,120]⟩
theorem fac_name(T:List Tk)(g c n p:Nat)(a:Option Addr)(t:ByteArray)(hk2:kindB T p 2=false)(hk:kindB T p 1=true)(ht:(T.getD p default).2.1=t)(hz:t.size≤1000)(hn:nameB t=true)(hw:noWord T p=true):FcO T g c n a p (p+1) (.mk 2 0 0 0 t []):=by
 intro w h
 have HR:=Lib.hid h
 have HR1:=Lib.hid h
 have hg:=h.lt
 have HK:=Lib.hid (fun X (hX:RdAt T g a c n p X)=>kind_as T g c n p a 2 false X hX hk2)
 have HN:=Lib.hid (fun X (hX:RdAt T g a c n p X)=>name_any T g c n p a t X hX hk ht (by unfold maxLen;omega) hn)
 have hw2:((((isB T p ⟨#[45]⟩=false∧isB T p ⟨#[40]⟩=false)∧isB T p ⟨#[98,101,115,116]⟩=false)∧isB T p ⟨#[102,108,111,111,114]⟩=false)∧isB T p ⟨#[109,105,110]⟩=false)∧isB T p ⟨#[109,97,120]⟩=false:=by
  unfold noWord at hw;simpa only [Bool.and_eq_true,Bool.not_eq_true']using hw
 obtain⟨⟨⟨⟨⟨b1,b2⟩,b3⟩,b4⟩,b5⟩,b6⟩:=hw2
 have T1:=Lib.hid (fun X (hX:RdAt T g a c n p X)=>take_no T g c n p a ⟨#[45]⟩ X hX b1)
 have T2:=Lib.hid (fun X (hX:RdAt T g a c n p X)=>take_no T g c n p a ⟨#[40]⟩ X hX b2)
 have T3:=Lib.hid (fun X (hX:RdAt T g a c n p X)=>take_no T g c n p a ⟨#[98,101,115,116]⟩ X hX b3)
 have I1:=Lib.hid (fun X (hX:RdAt T g a c n p X)=>is_no T g c n p a ⟨#[102,108,111,111,114]⟩ X hX b4)
 have I2:=Lib.hid (fun X (hX:RdAt T g a c n p X)=>is_no T g c n p a ⟨#[109,105,110]⟩ X hX b5)
 have I3:=Lib.hid (fun X (hX:RdAt T g a c n p X)=>is_no T g c n p a ⟨#[109,97,120]⟩ X hX b6)
 clear h hk2 hk ht hw b1 b2 b3 b4 b5 b6
 go_enter Tryz.func130,Tryz.ntmps130
 go_wp2_with ((first|(go_at_call 166;refine(HK.out _ ((by repeat' (first|(with_reducible exact HR.out)|(with_reducible exact HR1.out)|(with_reducible refine RdAt.grow ?_ _ _)|(with_reducible refine RdAt.alloc ?_ _)|(with_reducible refine RdAt.drew ?_))))).mono ?_;rintro e' w' ⟨rfl,bs0,d0,rfl⟩)|(go_at_call 128;(first|with_reducible refine(T1.out _ ((by repeat' (first|(with_reducible exact HR.out)|(with_reducible exact HR1.out)|(with_reducible refine RdAt.grow ?_ _ _)|(with_reducible refine RdAt.alloc ?_ _)|(with_reducible refine RdAt.drew ?_))))).mono ?_|with_reducible refine(T2.out _ ((by repeat' (first|(with_reducible exact HR.out)|(with_reducible exact HR1.out)|(with_reducible refine RdAt.grow ?_ _ _)|(with_reducible refine RdAt.alloc ?_ _)|(with_reducible refine RdAt.drew ?_))))).mono ?_|with_reducible refine(T3.out _ ((by repeat' (first|(with_reducible exact HR.out)|(with_reducible exact HR1.out)|(with_reducible refine RdAt.grow ?_ _ _)|(with_reducible refine RdAt.alloc ?_ _)|(with_reducible refine RdAt.drew ?_))))).mono ?_);rintro e' w' ⟨rfl,bs0,d0,rfl⟩)|(go_at_call 164;(first|with_reducible refine(I1.out _ ((by repeat' (first|(with_reducible exact HR.out)|(with_reducible exact HR1.out)|(with_reducible refine RdAt.grow ?_ _ _)|(with_reducible refine RdAt.alloc ?_ _)|(with_reducible refine RdAt.drew ?_))))).mono ?_|with_reducible refine(I2.out _ ((by repeat' (first|(with_reducible exact HR.out)|(with_reducible exact HR1.out)|(with_reducible refine RdAt.grow ?_ _ _)|(with_reducible refine RdAt.alloc ?_ _)|(with_reducible refine RdAt.drew ?_))))).mono ?_|with_reducible refine(I3.out _ ((by repeat' (first|(with_reducible exact HR.out)|(with_reducible exact HR1.out)|(with_reducible refine RdAt.grow ?_ _ _)|(with_reducible refine RdAt.alloc ?_ _)|(with_reducible refine RdAt.drew ?_))))).mono ?_);rintro e' w' ⟨rfl,bs0,d0,rfl⟩)|(go_at_call 170;refine(HN.out _ ((by repeat' (first|(with_reducible exact HR.out)|(with_reducible exact HR1.out)|(with_reducible refine RdAt.grow ?_ _ _)|(with_reducible refine RdAt.alloc ?_ _)|(with_reducible refine RdAt.drew ?_))))).mono ?_;rintro e' w' ⟨rfl,bs9,d9,rfl⟩)))
 go_returns
 exact ExQ.of (E:=.mk 2 0 0 0 t []) (growsR:World.Grows (w.setCell ⟨g,1,none⟩ (.int .i64 ((p:Int)+1))) _) (.nil (rng_name t hz) rfl)
end Go.Proofs.YtfoefpoaomepbaaGreatDoor
namespace Go.Proofs.YtfoefpoaomepbaaGreatDoor
open Go.RowKit
attribute [local go_sem] setCell_two
theorem rng_num(m:Int)(hm:0≤m∧m≤1000):ExRng (.mk 1 m 1 2 ByteArray.empty []):=ExRng.lit m 1 2 (by omega) (by omega) (by omega) 1 (by omega) ByteArray.empty (by decide) [] (by simp)
def DcP(t:ByteArray)(m:Int):Prop:=∀w,Calls Tryz.prog 167 #[.string t] w fun e w'=>e= .returned (.tuple #[.agg #[.int .i64 m,.int .i64 1],.int .i64 2,.bool true])∧w.Grows w'
theorem fac_num(T:List Tk)(g c n p:Nat)(a:Option Addr)(t:ByteArray)(m:Int)(hm:0≤m∧m≤1000)(hk2:kindB T p 2=true)(ht:(T.getD p default).2.1=t)(HD:Hid (DcP t m)):FcO T g c n a p (p+1) (.mk 1 m 1 2 ByteArray.empty []):=by
 intro w h
 have HR:=Lib.hid h
 have HR1:=Lib.hid h
 have c0:=cell_of_row w g 0 _ _ _ h.rd
 have c1:=cell_of_row w g 1 _ _ _ h.rd
 have hf:=fun j=>Joins.unfrozen_of_block h.rd j
 have hg:=h.lt
 have hlt:=kind_lt hk2
 have HK:=Lib.hid (fun X (hX:RdAt T g a c n p X)=>kind_as T g c n p a 2 true X hX hk2)
 obtain⟨h8,b,rfl,hb,hc⟩:=h.tk
 have hne:=h.ne b rfl
 obtain⟨-,e1,-⟩:=hc p hlt
 rw [ht]at e1
 have hp1:(p:Int)<(T.length:Int):=by omega
 have hp8:p≤8000:=by omega
 clear h hc hk2 ht
 go_enter Tryz.func130,Tryz.ntmps130
 go_wp2_with (go_at_call 166;refine(HK.out _ ((by repeat' (first|(with_reducible exact HR.out)|(with_reducible exact HR1.out)|(with_reducible refine RdAt.grow ?_ _ _)|(with_reducible refine RdAt.alloc ?_ _)|(with_reducible refine RdAt.drew ?_))))).mono ?_;rintro e' w' ⟨rfl,bs0,d0,rfl⟩)
 refine TS.begin [19] (fun w'=>w'.cell? ⟨g,0,none⟩=some (.slice (some ⟨b,0,none⟩) T.length c)∧w'.cell? ⟨g,1,none⟩=some (.int .i64 (p:Nat))∧w'.cell? ⟨b,p*3+1,none⟩=some (.string t)) (by kernel_rfl) (by kernel_rfl) ?_ (fun hS=>?_)
 focus(refine⟨?_, ?_, ?_⟩<;>simp [go_sem,c0,c1,e1,hg,hb])
 refine TS.takeV (i:=0) (v:=?_) rfl (by kernel_rfl) (by kernel_rfl) (by kernel_rfl) (by decide) (fun _ _ _ h=>h) rfl hS ?_ ?_
 rotate_left
 focus
  intro wS hSw
  (try dsimp only at hSw)
  go_simp
  rfl
 (try simp only [nS])
 refine TS.takeV (i:=1) (v:=?_) rfl (by kernel_rfl) (by kernel_rfl) (by kernel_rfl) (by decide) (fun _ _ _ h=>h) rfl hS ?_ ?_
 rotate_left
 focus
  intro wS hSw
  (try dsimp only at hSw)
  go_simp
  rfl
 (try simp only [nS])
 refine TS.takeV (i:=2) (v:=?_) rfl (by kernel_rfl) (by kernel_rfl) (by kernel_rfl) (by decide) (fun _ _ _ h=>h) rfl hS ?_ ?_
 rotate_left
 focus
  intro wS hSw
  (try dsimp only at hSw)
  go_simp
  rfl
 (try simp only [nS])
 refine TS.takeV (i:=3) (v:=?_) rfl (by kernel_rfl) (by kernel_rfl) (by kernel_rfl) (by decide) (fun _ _ _ h=>h) rfl hS ?_ ?_
 rotate_left
 focus
  intro wS hSw
  (try dsimp only at hSw)
  go_simp
  rfl
 (try simp only [nS])
 refine TS.takeV (i:=4) (v:=?_) rfl (by kernel_rfl) (by kernel_rfl) (by kernel_rfl) (by decide) (fun _ _ _ h=>h) rfl hS ?_ ?_
 rotate_left
 focus
  intro wS hSw
  (try dsimp only at hSw)
  go_simp
  rfl
 (try simp only [nS])
 refine TS.takeV (i:=5) (v:=?_) rfl (by kernel_rfl) (by kernel_rfl) (by kernel_rfl) (by decide) (fun _ _ _ h=>h) rfl hS ?_ ?_
 rotate_left
 focus
  intro wS hSw
  (try dsimp only at hSw)
  go_simp
  rfl
 (try simp only [nS])
 refine TS.takeV (i:=6) (v:=?_) rfl (by kernel_rfl) (by kernel_rfl) (by kernel_rfl) (by decide) (fun _ _ _ h=>h) rfl hS ?_ ?_
 rotate_left
 focus
  intro wS hSw
  (try dsimp only at hSw)
  go_simp
  rfl
 (try simp only [nS])
 refine TS.takeV (i:=7) (v:=?_) rfl (by kernel_rfl) (by kernel_rfl) (by kernel_rfl) (by decide) (fun _ _ _ h=>h) rfl hS ?_ ?_
 rotate_left
 focus
  intro wS hSw
  (try dsimp only at hSw)
  go_simp
  rfl
 (try simp only [nS])
 refine TS.takeV (i:=8) (v:=?_) rfl (by kernel_rfl) (by kernel_rfl) (by kernel_rfl) (by decide) (fun _ _ _ h=>h) rfl hS ?_ ?_
 rotate_left
 focus
  intro wS hSw
  (try dsimp only at hSw)
  go_simp
  rfl
 (try simp only [nS])
 refine TS.takeV (i:=9) (v:=?_) rfl (by kernel_rfl) (by kernel_rfl) (by kernel_rfl) (by decide) (fun _ _ _ h=>h) rfl hS ?_ ?_
 rotate_left
 focus
  intro wS hSw
  (try dsimp only at hSw)
  go_simp
  rfl
 (try simp only [nS])
 refine TS.takeV (i:=10) (v:=?_) rfl (by kernel_rfl) (by kernel_rfl) (by kernel_rfl) (by decide) (fun _ _ _ h=>h) rfl hS ?_ ?_
 rotate_left
 focus
  intro wS hSw
  (try dsimp only at hSw)
  go_simp
  rfl
 (try simp only [nS])
 refine TS.two (i:=11) (k:=16) (by kernel_rfl) rfl rfl (fun K1 hK1=>?_) (fun K1 hK1=>?_)
 case refine_1=>
  go_simp
  go_at_call 167
  refine(HD.out _).mono ?_
  rintro e' w' ⟨rfl,bs1,d1,rfl⟩
  (try simp only [World.drew_grow])
  refine TS.go hK1 ?_ (fun hS=>?_)
  focus
   (try dsimp only)
   (refine⟨?_, ?_, ?_⟩<;>simp [go_sem,c0,c1,e1,hg,hb])
  clear hK1 K1
  (try simp only [nS])
  refine TS.takeV (i:=12) (v:=?_) rfl (by kernel_rfl) (by kernel_rfl) (by kernel_rfl) (by decide) (fun _ _ _ h=>h) rfl hS ?_ ?_
  rotate_left
  focus
   intro wS hSw
   (try dsimp only at hSw)
   go_simp
   rfl
  (try simp only [nS])
  refine TS.takeV (i:=13) (v:=?_) rfl (by kernel_rfl) (by kernel_rfl) (by kernel_rfl) (by decide) (fun _ _ _ h=>h) rfl hS ?_ ?_
  rotate_left
  focus
   intro wS hSw
   (try dsimp only at hSw)
   go_simp
   rfl
  (try simp only [nS])
  refine TS.takeV (i:=14) (v:=?_) rfl (by kernel_rfl) (by kernel_rfl) (by kernel_rfl) (by decide) (fun _ _ _ h=>h) rfl hS ?_ ?_
  rotate_left
  focus
   intro wS hSw
   (try dsimp only at hSw)
   go_simp
   rfl
  (try simp only [nS])
  refine TS.takeV (i:=15) (v:=?_) rfl (by kernel_rfl) (by kernel_rfl) (by kernel_rfl) (by decide) (fun _ _ _ h=>h) rfl hS ?_ ?_
  rotate_left
  focus
   intro wS hSw
   (try dsimp only at hSw)
   go_simp
   rfl
  (try simp only [nS])
  refine TS.one (i:=16) (by kernel_rfl) rfl (fun K1 hK1=>?_)
  go_simp
  refine TS.go hK1 ?_ (fun hS=>?_)
  focus
   (try dsimp only)
   (refine⟨?_, ?_, ?_⟩<;>simp [go_sem,c0,c1,e1,hg,hb])
  clear hK1 K1
  exact tz12
 case refine_2=>
  go_simp
  refine TS.go hK1 ?_ (fun hS=>?_)
  focus
   (try dsimp only)
   (refine⟨?_, ?_, ?_⟩<;>simp [go_sem,c0,c1,e1,hg,hb])
  clear hK1 K1
  (try simp only [nS])
  refine TS.one (i:=11) (by kernel_rfl) rfl (fun K1 hK1=>?_)
  go_simp
  go_at_call 167
  refine(HD.out _).mono ?_
  rintro e' w' ⟨rfl,bs1,d1,rfl⟩
  (try simp only [World.drew_grow])
  refine TS.go hK1 ?_ (fun hS=>?_)
  focus
   (try dsimp only)
   (refine⟨?_, ?_, ?_⟩<;>simp [go_sem,c0,c1,e1,hg,hb])
  clear hK1 K1
  (try simp only [nS])
  refine TS.takeV (i:=12) (v:=?_) rfl (by kernel_rfl) (by kernel_rfl) (by kernel_rfl) (by decide) (fun _ _ _ h=>h) rfl hS ?_ ?_
  rotate_left
  focus
   intro wS hSw
   (try dsimp only at hSw)
   go_simp
   rfl
  (try simp only [nS])
  refine TS.takeV (i:=13) (v:=?_) rfl (by kernel_rfl) (by kernel_rfl) (by kernel_rfl) (by decide) (fun _ _ _ h=>h) rfl hS ?_ ?_
  rotate_left
  focus
   intro wS hSw
   (try dsimp only at hSw)
   go_simp
   rfl
  (try simp only [nS])
  refine TS.takeV (i:=14) (v:=?_) rfl (by kernel_rfl) (by kernel_rfl) (by kernel_rfl) (by decide) (fun _ _ _ h=>h) rfl hS ?_ ?_
  rotate_left
  focus
   intro wS hSw
   (try dsimp only at hSw)
   go_simp
   rfl
  (try simp only [nS])
  refine TS.takeV (i:=15) (v:=?_) rfl (by kernel_rfl) (by kernel_rfl) (by kernel_rfl) (by decide) (fun _ _ _ h=>h) rfl hS ?_ ?_
  rotate_left
  focus
   intro wS hSw
   (try dsimp only at hSw)
   go_simp
   rfl
  exact tz12
end Go.Proofs.YtfoefpoaomepbaaGreatDoor
namespace Go.Proofs.YtfoefpoaomepbaaGreatDoor
open Go.RowKit
theorem tkV_at:∀(T:List Tk) (k:Nat),k<T.length→(tkV T)[k*3]? =some (.int .i64 (T.getD k default).1)∧(tkV T)[k*3+1]? =some (.string (T.getD k default).2.1)∧(tkV T)[k*3+2]? =some (.int .i64 ((T.getD k default).2.2:Nat))
 | [],_,h=>absurd h (by simp)
 |t::T,0,_=>⟨rfl,rfl,rfl⟩
 |t::T,k+1,h=>by
  have ih:=tkV_at T k (by simpa using h)
  have e:tkV (t::T)=tkC t++tkV T:=rfl
  have e3:(tkC t).length=3:=rfl
  have a0:(k+1)*3=3+k*3:=by omega
  have a1:3+k*3+1=3+(k*3+1):=by omega
  have a2:3+k*3+2=3+(k*3+2):=by omega
  rw [e,a0,a1,a2,List.getElem?_append_right (by omega),List.getElem?_append_right (by omega),List.getElem?_append_right (by omega),e3,Nat.add_sub_cancel_left,Nat.add_sub_cancel_left,Nat.add_sub_cancel_left,List.getD_cons_succ]
  exact ih
theorem own_ne0{w:World}{base:Nat}{T:TypeId}{c n:Nat}{v:Value}{xs:List Value}(h:w.ownsRow base T c v n xs)(hn:0<n):∃g cap,v= .slice (some ⟨g,0,none⟩) n cap∧g<w.heap.size:=by
 rcases h.2 with ⟨_,h0⟩|⟨g,cap',cur,hv,hb,hg,_⟩
 ·omega
 ·exact⟨g,cap',hv,(Array.getElem?_eq_some_iff.1 hg).1⟩
theorem TkAt.own{w:World}{base:Nat}{v:Value}{T:List Tk}(h:w.ownsRow base 197 3 v T.length (tkV T))(h8:T.length≤8000)(hn:0<T.length):∃b cap,v= .slice (some ⟨b,0,none⟩) T.length cap∧TkAt w (some ⟨b,0,none⟩) T:=by
 obtain⟨b,cap,rfl,hb⟩:=own_ne0 h hn
 refine⟨b,cap,rfl,h8,b,rfl,hb,fun k hk=>?_⟩
 obtain⟨e0,e1,e2⟩:=tkV_at T k hk
 exact⟨(h.cellAt _ (by omega)).trans e0,(h.cellAt _ (by omega)).trans e1,(h.cellAt _ (by omega)).trans e2⟩
theorem grows_set{A:World}{bs:Array Obj}{d g:Nat}{v:Value}(h:A.heap.size≤g)(bs2:Array Obj)(d2:Nat):A.Grows (((A.grow bs d).setCell ⟨g,1,none⟩ v).grow bs2 d2):=.of_below ((((Below.refl _ _).grow (Nat.le_refl _) bs d).setCell h v).grow (by simp) bs2 d2)
def PxQ(E:Ex)(w:World)(e:Ending)(w':World):Prop:=∃v,e= .returned (.tuple #[.agg #[.int .i64 E.op,.int .i64 E.num,.int .i64 E.den,.int .i64 E.dim,.string E.name,v],.int .i64 0,.int .i64 0])∧w.Grows w'∧RepE (w.heap.size≤·) w' E v
theorem parse_any(s:ByteArray)(T:List Tk)(E:Ex)(w:World)(h8:T.length≤8000)(hn:0<T.length)(hd:E.depth≤10)(hs:E.size≤60)(HB:Hid (∀w,Calls Tryz.prog 80 #[.string s] w (BegP T s.size w)))(HE:Hid (∀g c a,ExO T g c s.size a 0 0 T.length E)):Calls Tryz.prog 33 #[.string s] w (PxQ E w):=by
 have hd1:¬(10:Int)<(E.depth:Int):=by omega
 have hs1:¬(60:Int)<(E.size:Int):=by omega
 have HDW:=Lib.hid (fun S v W (h:RepE S W E v)=>Depth_walk S E.size E (Nat.le_refl _) v W h (Lib.hid (by omega)))
 have HSW:=Lib.hid (fun S v W (h:RepE S W E v)=>Size_walk S E.size E (Nat.le_refl _) v W h (Lib.hid (by omega)))
 unfold exV at HDW HSW
 go_enter Tryz.func33,Tryz.ntmps33
 go_upto_region 4 with (go_at_call 80;refine(HB.out _).mono ?_;rintro e' w' ⟨v,g,rfl,⟨bs,d,rfl⟩,hgB,hgR,hown,hvg⟩)
 obtain⟨b,cap,rfl,htk⟩:=TkAt.own hown h8 hn
 have HR:Hid (RdAt T g (some ⟨b,0,none⟩) cap s.size 0 ((w.alloc ((.cells #[.int .i64 0,.int .i64 0,.int .i64 0,.int .i64 0,.string ⟨#[]⟩,.slice none 0 0] 27))).grow bs d)):=Lib.hid ⟨hgR,htk,fun b' hb' e=>hvg (by subst e;simpa [Value.ownBlock]using hb')⟩
 have HEX:=Lib.hid (HE.out g cap (some ⟨b,0,none⟩))
 have HGB:=Lib.hid hgB
 clear hown hgR htk hvg hgB
 go_upto_region 5 with (go_at_call 81;refine(HEX.out _ HR.out).mono ?_;rintro e' w' ⟨v2,bs2,d2,rfl,hw',HRP⟩;have HRq:RdAt T g (some ⟨b,0,none⟩) cap s.size T.length w':=(hw' ▸ (HR.out.to T.length).grow bs2 d2);have hG:(w.alloc ((.cells #[.int .i64 0,.int .i64 0,.int .i64 0,.int .i64 0,.string ⟨#[]⟩,.slice none 0 0] 27))).Grows w':=(hw' ▸ grows_set HGB.out bs2 d2);obtain⟨bs',d',hX⟩:=hG;clear hw';subst hX;obtain⟨va,vc,rfl⟩:=RepE.form HRP;have HRP:=Lib.hid (HRP.mono (S':=fun x=>w.heap.size+1≤x) (fun b hb=>by simp at hb;omega)))
 have c0:=cell_of_row _ g 0 _ _ _ HRq.rd
 have c1:=cell_of_row _ g 1 _ _ _ HRq.rd
 have c2:=cell_of_row _ g 2 _ _ _ HRq.rd
 have c3:=cell_of_row _ g 3 _ _ _ HRq.rd
 have hg:g<w.heap.size+1+bs'.size:=by simpa using HRq.lt
 go_quiet (fail)
 go_wp2_with (first|(go_at_call 76;refine(HDW.out (fun x=>w.heap.size+1≤x) _ _ ((by repeat' (first|(with_reducible exact HRP.out)|(with_reducible refine RepE.grow ?_ _ _)|(with_reducible refine RepE.alloc ?_ _)|(with_reducible refine RepE.drewN ?_ _))))).mono ?_;rintro e' w' ⟨rfl,bs8,d8,rfl⟩)|(go_at_call 17;refine(HSW.out (fun x=>w.heap.size+1≤x) _ _ ((by repeat' (first|(with_reducible exact HRP.out)|(with_reducible refine RepE.grow ?_ _ _)|(with_reducible refine RepE.alloc ?_ _)|(with_reducible refine RepE.drewN ?_ _))))).mono ?_;rintro e' w' ⟨rfl,bs9,d9,rfl⟩))
 go_returns
 exact⟨_,rfl,growsR,((((HRP.out.lift0 (A':=w.alloc (.cells #[.int .i64 E.op,.int .i64 E.num,.int .i64 E.den,.int .i64 E.dim,.string E.name,.slice va E.args.length vc] 27)) (by simp) (by simp) d').alloc _).grow _ _).mono fun b hb=>by omega)⟩
def tx0:ByteArray:=⟨#[50,32,42,32,51,32,43,32,97,103,101]⟩
def T0:List Tk:=[(2,⟨#[50]⟩,0),(4,⟨#[42]⟩,2),(2,⟨#[51]⟩,4),(4,⟨#[43]⟩,6),(1,⟨#[97,103,101]⟩,8)]
def pos0(k:Nat):Nat:=if k=0 then 0 else if k=1 then 1 else if k=2 then 3 else if k=3 then 5 else if k=4 then 7 else 11
def litE(m:Int):Ex:=.mk 1 m 1 2 ByteArray.empty []
def ageE:Ex:=.mk 2 0 0 0 ⟨#[97,103,101]⟩ []
def E0:Ex:=.mk 7 0 0 0 ByteArray.empty [.mk 9 0 0 0 ByteArray.empty [litE 2,litE 3],ageE]
theorem ext0:tx0.extract 0 1=⟨#[50]⟩∧tx0.extract 2 3=⟨#[42]⟩∧tx0.extract 4 5=⟨#[51]⟩∧tx0.extract 6 7=⟨#[43]⟩∧tx0.extract 8 11=⟨#[97,103,101]⟩:=⟨by kernel_rfl,by kernel_rfl,by kernel_rfl,by kernel_rfl,by kernel_rfl⟩
theorem sk0(p q:Nat)(hq:q≤tx0.size)(hpq:q=p∨(q=p+1∧byt tx0 p=32))(hend:q=tx0.size∨(q<tx0.size∧plainC (byt tx0 q))):Hid (∀w,Calls Tryz.prog 195 #[.string tx0,.int .i64 p] w fun e w'=>e= .returned (.int .i64 q)∧w=w'):=Lib.hid fun w=>skip_any tx0 p q w (by decide) hq hpq hend
theorem nx0:NxP tx0 0 2 ⟨#[50]⟩ 0 1:=by
 have h:=next_num tx0 0 0 (by decide) (by decide) (by decide) (sk0 0 0 (by decide) (by decide+kernel) (.inr ⟨by decide,by unfold plainC;decide+kernel⟩)) (by decide+kernel) (by decide+kernel) (Lib.hid fun w=>run_any5 tx0 0 1 true w (by decide) (by decide) (by decide+kernel) (by decide+kernel)) (Lib.hid fun w=>by rw [ext0.1];exact parts_one ⟨#[50]⟩ w rfl (by decide+kernel) (by kernel_rfl) (by kernel_rfl))
 rw [ext0.1]at h
 exact h
theorem nx1:NxP tx0 1 4 ⟨#[42]⟩ 2 3:=by
 have h:=next_sign tx0 1 2 (by decide) (by decide) (by decide) (sk0 1 2 (by decide) (by decide+kernel) (.inr ⟨by decide,by unfold plainC;decide+kernel⟩)) (by decide+kernel) (by decide+kernel) (by decide+kernel) (Lib.hid fun w=>sign_one tx0 2 w (by decide) (by decide) (by decide+kernel) (by decide+kernel) (by decide+kernel) (by decide+kernel))
 rw [ext0.2.1]at h
 exact h
theorem nx2:NxP tx0 3 2 ⟨#[51]⟩ 4 5:=by
 have h:=next_num tx0 3 4 (by decide) (by decide) (by decide) (sk0 3 4 (by decide) (by decide+kernel) (.inr ⟨by decide,by unfold plainC;decide+kernel⟩)) (by decide+kernel) (by decide+kernel) (Lib.hid fun w=>run_any5 tx0 4 1 true w (by decide) (by decide) (by decide+kernel) (by decide+kernel)) (Lib.hid fun w=>by rw [ext0.2.2.1];exact parts_one ⟨#[51]⟩ w rfl (by decide+kernel) (by kernel_rfl) (by kernel_rfl))
 rw [ext0.2.2.1]at h
 exact h
theorem nx3:NxP tx0 5 4 ⟨#[43]⟩ 6 7:=by
 have h:=next_sign tx0 5 6 (by decide) (by decide) (by decide) (sk0 5 6 (by decide) (by decide+kernel) (.inr ⟨by decide,by unfold plainC;decide+kernel⟩)) (by decide+kernel) (by decide+kernel) (by decide+kernel) (Lib.hid fun w=>sign_one tx0 6 w (by decide) (by decide) (by decide+kernel) (by decide+kernel) (by decide+kernel) (by decide+kernel))
 rw [ext0.2.2.2.1]at h
 exact h
theorem nx4:NxP tx0 7 1 ⟨#[97,103,101]⟩ 8 11:=by
 have h:=next_word tx0 7 8 3 (by decide) (by decide) (by decide) (by decide) (sk0 7 8 (by decide) (by decide+kernel) (.inr ⟨by decide,by unfold plainC;decide+kernel⟩)) (by decide+kernel) (Lib.hid fun w=>run_any5 tx0 8 3 false w (by decide) (by decide) (by decide+kernel) (by decide+kernel))
 rw [ext0.2.2.2.2]at h
 exact h
theorem nx5:NxP tx0 11 0 ⟨#[]⟩ tx0.size tx0.size:=next_end tx0 11 (by decide) (by decide) (sk0 11 11 (by decide) (.inl rfl) (.inl rfl))
theorem all0(w:World):Calls Tryz.prog 127 #[.string tx0] w (AllP T0 w):=by
 refine all_any tx0 T0 pos0 w (by decide) (by decide) rfl (fun k=>?_) (Lib.hid fun k hk=>?_) (Lib.hid fun k hk=>?_) (Lib.hid nx5)
 ·unfold pos0;repeat' split
  all_goals omega
 ·have hk5:k<5:=hk
  rcases(show k=0∨k=1∨k=2∨k=3∨k=4 by omega)with rfl|rfl|rfl|rfl|rfl
  ·exact nx0
  ·exact nx1
  ·exact nx2
  ·exact nx3
  ·exact nx4
 ·have hk5:k<5:=hk
  rcases(show k=0∨k=1∨k=2∨k=3∨k=4 by omega)with rfl|rfl|rfl|rfl|rfl<;>decide
theorem dec0(m:Int)(c:ByteArray)(hz:c.size=1)(hn:byt c 0=48+m)(h0:0≤m∧m≤9)(hex:c.extract 0 1=c)(hap:c++(⟨#[]⟩:ByteArray)=c)(hmk:mkN m 1=m∧mkD m 1=1∧mkE m 1=0):Hid (DcP c m):=Lib.hid fun w=>decimal_one c m w hz hn h0 hex hap (Lib.hid fun w=>(MakeFraction_any m 1 w (by omega) (by omega) (by omega) (by omega)).mono fun e w' h=>by
 obtain⟨he,hg⟩:=h
 rw [hmk.1,hmk.2.1,hmk.2.2]at he
 exact⟨he,hg⟩)
section
variable (g c n : Nat) (a : Option Addr)
theorem ex6:ExO T0 g c n a 6 0 3 (.mk 9 0 0 0 ByteArray.empty [litE 2,litE 3]):=
 expr_chain T0 g c n 0 1 3 1 a 6 (litE 2) _ (by decide) (by decide) (.inr (by decide)) (Lib.hid (expr_7 T0 g c n 0 1 a _ (Lib.hid (fac_num T0 g c n 0 a ⟨#[50]⟩ 2 (by decide) (by decide+kernel) rfl (dec0 2 ⟨#[50]⟩ rfl (by decide+kernel) (by decide) (by kernel_rfl) (by kernel_rfl) (by decide+kernel))))))
  (Lib.hid ⟨2,3,litE 3,by decide,by decide+kernel,by decide+kernel,by decide,expr_7 T0 g c n 2 3 a _ (Lib.hid (fac_num T0 g c n 2 a ⟨#[51]⟩ 3 (by decide) (by decide+kernel) rfl (dec0 3 ⟨#[51]⟩ rfl (by decide+kernel) (by decide) (by kernel_rfl) (by kernel_rfl) (by decide+kernel)))),rfl,rfl,by decide+kernel⟩)
theorem exA:ExO T0 g c n a 6 4 5 ageE:=
 expr_chain T0 g c n 4 5 5 0 a 6 ageE _ (by decide) (by decide) (.inl rfl) (Lib.hid (expr_7 T0 g c n 4 5 a _ (Lib.hid (fac_name T0 g c n 4 a ⟨#[97,103,101]⟩ (by decide+kernel) (by decide+kernel) rfl (by decide) (by decide+kernel) (by decide+kernel))))) (Lib.hid ⟨rfl,rfl,by decide+kernel⟩)
theorem ex5:ExO T0 g c n a 5 0 5 E0:=
 expr_chain T0 g c n 0 3 5 1 a 5 _ _ (by decide) (by decide) (.inr (by decide)) (Lib.hid (ex6 g c n a)) (Lib.hid ⟨0,5,ageE,by decide,by decide+kernel,by decide+kernel,by decide,exA g c n a,rfl,rfl,by decide+kernel⟩)
theorem ex0:ExO T0 g c n a 0 0 5 E0:=
 expr_0 T0 g c n 0 5 a _ (by decide+kernel) (Lib.hid (expr_chain T0 g c n 0 5 5 0 a 1 _ _ (by decide) (by decide) (.inl rfl) (Lib.hid (expr_chain T0 g c n 0 5 5 0 a 2 _ _ (by decide) (by decide) (.inl rfl) (Lib.hid (expr_3 T0 g c n 0 5 a _ (by decide+kernel) (Lib.hid (expr_chain T0 g c n 0 5 5 0 a 4 _ _ (by decide) (by decide) (.inl rfl) (Lib.hid (ex5 g c n a)) (Lib.hid ⟨rfl,rfl,by decide+kernel⟩))))) (Lib.hid ⟨rfl,rfl,by decide+kernel⟩))) (Lib.hid ⟨rfl,rfl,by decide+kernel⟩)))
end
theorem parse0(w:World):Calls Tryz.prog 33 #[.string tx0] w (PxQ E0 w):=
 parse_any tx0 T0 E0 w (by decide) (by decide) (by decide+kernel) (by decide+kernel) (Lib.hid fun w=>begin_any tx0 T0 w (by decide) (Lib.hid all0)) (Lib.hid fun g c a=>ex0 g c _ a)
end Go.Proofs.YtfoefpoaomepbaaGreatDoor
