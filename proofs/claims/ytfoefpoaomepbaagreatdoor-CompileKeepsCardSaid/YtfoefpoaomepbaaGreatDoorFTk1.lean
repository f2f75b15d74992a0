import Derived.Test.YtfoefpoaomepbaaGreatDoorFWide
import Derived.Test.YtfoefpoaomepbaaGreatDoorFK
import Derived.Deep.CutBlock
import Derived.Deep.CutRange
import Derived.Deep.DeepCutAuto
import Derived.StillTail
import Derived.RegionTactic
set_option linter.all false
set_option maxHeartbeats 16000000
set_option maxRecDepth 1000000
namespace Go.Proofs.YtfoefpoaomepbaaGreatDoor
open Go.RowKit
def plainC(c:Int):Prop:=c≠10∧c≠35∧c≠9∧c≠13∧c≠32
theorem skip_any(s:ByteArray)(p q:Nat)(w:World)(hs:s.size≤maxLen)(hq:q≤s.size)(hpq:q=p∨(q=p+1∧byt s p=32))(hend:q=s.size∨(q<s.size∧plainC (byt s q))):Calls Tryz.prog 195 #[.string s,.int .i64 p] w fun e w'=>e= .returned (.int .i64 q)∧w=w':=by
 unfold maxLen at hs
 go_enter Tryz.func195,Tryz.ntmps195
 go_wp2
 go_loop [1,5] (fun v1 v5=>∃k:Nat,(k=p∨k=q)∧v1= .int .i64 k∧v5= .bool false) (fun v1 _=>s.size-(intOf v1).toNat)
 case atStart=>exact⟨p,.inl rfl,rfl,rfl⟩
 case round=>
  obtain⟨k,hk,rfl,rfl⟩:=hrel
  by_cases hkq:k=q
  ·subst hkq
   rcases hend with h|⟨h,hp⟩
   ·have h1:¬(k:Int)<(s.size:Int):=by omega
    go_wp2
    go_ret
    exact⟨rfl,rfl⟩
   ·obtain⟨h1,h2,h3,h4,h5⟩:=hp
    rw [byt_eq s k h]at h1 h2 h3 h4 h5
    have g1:((s[k].toNat:Int)==10)=false:=by simpa using h1
    have g2:((s[k].toNat:Int)==35)=false:=by simpa using h2
    have g3:((s[k].toNat:Int)!=9)=true:=by simpa using h3
    have g4:((s[k].toNat:Int)!=13)=true:=by simpa using h4
    have g5:((s[k].toNat:Int)!=32)=true:=by simpa using h5
    go_wp2
    go_ret
    exact⟨rfl,rfl⟩
  ·have hkp:k=p:=by omega
   subst hkp
   have hq1:q=k+1:=by omega
   have hb:byt s k=32:=by omega
   have hlt:k<s.size:=by omega
   rw [byt_eq s k hlt]at hb
   have g5:((s[k].toNat:Int)!=32)=false:=by simp [hb]
   go_wp2
   go_round
   case rel=>exact⟨k+1,by omega,by go_num,rfl⟩
   case measure=>simp [intOf];omega
def runC(c:Int):Bool:=lowc c || digc c
theorem run_any5(s:ByteArray)(p m:Nat)(pt:Bool)(w:World)(hs:s.size≤maxLen)(hm:p+m≤s.size)(hin:∀k,k<m→runC (byt s (p+k))=true)(hend:p+m=s.size∨(runC (byt s (p+m))=false∧byt s (p+m)≠95∧byt s (p+m)≠46)) :
 Calls Tryz.prog 196 #[.string s,.int .i64 p,.bool pt] w fun e w'=>e= .returned (.int .i64 m)∧w=w':=by
 unfold maxLen at hs
 go_enter Tryz.func196,Tryz.ntmps196
 go_wp2
 go_loop [7] (fun v7=>∃k:Nat,k≤m∧v7= .int .i64 k) (fun v7=>m-(intOf v7).toNat)
 case atStart=>exact⟨0,Nat.zero_le _,rfl⟩
 case round=>
  obtain⟨k,hk,rfl⟩:=hrel
  by_cases hkm:k=m
  ·subst hkm
   rcases hend with h|⟨h,h95,h46⟩
   ·have h1:¬((p:Int)+(k:Int)<(s.size:Int)):=by omega
    go_wp2
    go_ret
    exact⟨rfl,rfl⟩
   ·by_cases hlt:p+k<s.size
    ·rw [byt_eq s (p+k) hlt]at h h95 h46
     unfold runC at h
     rw [Bool.or_eq_false_iff]at h
     have hL:=h.1
     have hD:=h.2
     have h1:((p:Int)+(k:Int)<(s.size:Int)):=by omega
     have g1:((s[p+k].toNat:Int)==95)=false:=by simpa using h95
     have g2:((s[p+k].toNat:Int)==46)=false:=by simpa using h46
     cases pt
     all_goals
      go_wp2_with (first|((go_at_call 108;(with_reducible refine(letter1_any _ _).mono ?_);rintro e w' ⟨rfl,rfl⟩;simp only [hL]))|((go_at_call 109;(with_reducible refine(digit1_any _ _).mono ?_);rintro e w' ⟨rfl,rfl⟩;simp only [hD])))
      go_ret
      exact⟨rfl,rfl⟩
    ·have h1:¬((p:Int)+(k:Int)<(s.size:Int)):=by omega
     go_wp2
     go_ret
     exact⟨rfl,rfl⟩
  ·have hlt:p+k<s.size:=by omega
   have h1:((p:Int)+(k:Int)<(s.size:Int)):=by omega
   have hr:=hin k (by omega)
   rw [byt_eq s (p+k) hlt]at hr
   unfold runC at hr
   cases hL:lowc (s[p+k].toNat:Int)
   ·rw [hL,Bool.false_or]at hr
    have hD:=hr
    go_wp2_with (first|((go_at_call 108;(with_reducible refine(letter1_any _ _).mono ?_);rintro e w' ⟨rfl,rfl⟩;simp only [hL]))|((go_at_call 109;(with_reducible refine(digit1_any _ _).mono ?_);rintro e w' ⟨rfl,rfl⟩;simp only [hD])))
    go_round
    case rel=>exact⟨k+1,by omega,by go_num⟩
    case measure=>simp [intOf];omega
   ·go_wp2_with (first|((go_at_call 108;(with_reducible refine(letter1_any _ _).mono ?_);rintro e w' ⟨rfl,rfl⟩;simp only [hL]))|((go_at_call 109;(with_reducible refine(digit1_any _ _).mono ?_);rintro e w' ⟨rfl,rfl⟩;simp only [hD])))
    go_round
    case rel=>exact⟨k+1,by omega,by go_num⟩
    case measure=>simp [intOf];omega
theorem sign_one(s:ByteArray)(p:Nat)(w:World)(hs:s.size≤maxLen)(hp:p+1<s.size)(hc:byt s p=42∨byt s p=43)(t1:((s.extract p (p+2)).toList== [60,61])=false)(t2:((s.extract p (p+2)).toList== [62,61])=false)(t3:((s.extract p (p+2)).toList== [60,62])=false):Calls Tryz.prog 199 #[.string s,.int .i64 p] w fun e w'=>e= .returned (.int .i64 1)∧w=w':=by
 unfold maxLen at hs
 have hlt:p<s.size:=by omega
 have h1:((p:Int)+1<(s.size:Int)):=by omega
 rw [byt_eq s p hlt]at hc
 rcases hc with hc|hc
 all_goals
  have g1:((s[p].toNat:Int)==60)=false:=by simp [hc]
  have g2:((s[p].toNat:Int)==62)=false:=by simp [hc]
  have g3:((s[p].toNat:Int)==61)=false:=by simp [hc]
  go_enter Tryz.func199,Tryz.ntmps199
  go_wp2
  go_returns
  exact⟨rfl,rfl⟩
theorem parts_one(t:ByteArray)(w:World)(hz:t.size=1)(hD0:digc (byt t 0)=true)(hex:t.extract 0 1=t)(hap:t++(⟨#[]⟩:ByteArray)=t):Calls Tryz.prog 197 #[.string t] w fun e w'=>e= .returned (.tuple #[.string t,.string ⟨#[]⟩,.int .i64 2,.bool true])∧w=w':=by
 have hlt:0<t.size:=by omega
 have hb:=hD0
 rw [byt_eq t 0 hlt]at hb
 have hD:=hb
 have e100:((t[0].toNat:Int)==100)=false:=by unfold digc at hb;simp only [Bool.and_eq_true,decide_eq_true_eq]at hb;simp;omega
 have e109:((t[0].toNat:Int)==109)=false:=by unfold digc at hb;simp only [Bool.and_eq_true,decide_eq_true_eq]at hb;simp;omega
 have e46:((t[0].toNat:Int)==46)=false:=by unfold digc at hb;simp only [Bool.and_eq_true,decide_eq_true_eq]at hb;simp;omega
 unfold digc at hb
 simp only [Bool.and_eq_true,decide_eq_true_eq]at hb
 go_enter Tryz.func197,Tryz.ntmps197
 go_wp2_with fail
 go_loop [8,9] (fun v8 v9=>v8= .int .i64 1∧(v9= .int .i64 0∨v9= .int .i64 (-1))) (fun _ v9=>(intOf v9+1).toNat)
 case atStart=>exact⟨rfl,.inl rfl⟩
 case round=>
  obtain⟨rfl,hrel⟩:=hrel
  rcases hrel with rfl|rfl
  ·go_wp2_with fail
   go_round
   case rel=>exact⟨rfl,.inr rfl⟩
   case measure=>simp [intOf]
  ·go_wp2_with fail
   have hfl:(9223372036854775807<t.size+0)=False:=by simp [hz]
   go_loop [12] (fun v12=>v12= .int .i64 0∨v12= .int .i64 1) (fun v12=>(1-intOf v12).toNat)
   case atStart=>exact .inl rfl
   case round=>
    rcases hrel with rfl|rfl
    ·go_wp2_with ((go_at_call 109;(with_reducible refine(digit1_any _ _).mono ?_);rintro e w' ⟨rfl,rfl⟩;simp only [hD]))
     go_round
     case rel=>exact .inr rfl
     case measure=>simp [intOf]
    ·exact fz20
theorem decimal_one(t:ByteArray)(n:Int)(w:World)(hz:t.size=1)(hn:byt t 0=48+n)(h0:0≤n∧n≤9)(hex:t.extract 0 1=t)(hap:t++(⟨#[]⟩:ByteArray)=t)(HM:Hid (∀w,Calls Tryz.prog 39 #[.int .i64 n,.int .i64 1] w fun e w'=>e= .returned (.tuple #[.agg #[.int .i64 n,.int .i64 1],.int .i64 0])∧w.Grows w')):Calls Tryz.prog 167 #[.string t] w fun e w'=>e= .returned (.tuple #[.agg #[.int .i64 n,.int .i64 1],.int .i64 2,.bool true])∧w.Grows w':=by
 have hlt:0<t.size:=by omega
 have hD0:digc (byt t 0)=true:=by rw [hn];unfold digc;simp;omega
 rw [byt_eq t 0 hlt]at hn
 have hfl:(9223372036854775807<t.size+0)=False:=by simp [hz]
 go_enter Tryz.func167,Tryz.ntmps167
 go_wp2_with ((first|(go_at_call 197;refine(parts_one t _ hz hD0 hex hap).mono ?_;rintro e' w' ⟨rfl,rfl⟩)|(go_at_call 39;refine(HM.out _).mono ?_;rintro e' w' ⟨rfl,bs,d,rfl⟩)))
 go_loopw [9,10,11] (fun v9 v10 v11 wr=>((v9= .int .i64 0∧v11= .int .i64 0)∨(v9= .int .i64 n∧v11= .int .i64 1))∧v10= .int .i64 1∧wr=w.alloc (.cells #[.int .i64 0,.int .i64 0] 24)) (fun _ _ v11 _=>(1-intOf v11).toNat)
 case atStart=>exact⟨.inl ⟨rfl,rfl⟩,rfl,rfl⟩
 case round=>
  obtain⟨hrel,rfl,rfl⟩:=hrel
  rcases hrel with ⟨rfl,rfl⟩|⟨rfl,rfl⟩
  ·have hw8:IntKind.u8.wrap ((t[0].toNat:Int)-48)=n:=by rw [hn];unfold IntKind.wrap;simp [IntKind.bits,IntKind.signed];omega
   go_wp2_with fail
   go_roundw
   case rel=>exact⟨.inr ⟨by go_num,rfl⟩,by simp⟩
   case measure=>simp [intOf]
  ·go_wp2_with ((first|(go_at_call 197;refine(parts_one t _ hz hD0 hex hap).mono ?_;rintro e' w' ⟨rfl,rfl⟩)|(go_at_call 39;refine(HM.out _).mono ?_;rintro e' w' ⟨rfl,bs,d,rfl⟩)))
   exact fz27
def NxP(s:ByteArray)(p:Nat)(kind:Int)(t:ByteArray)(q r:Nat):Prop:=∀w,Calls Tryz.prog 163 #[.string s,.int .i64 p] w fun e w'=>e= .returned (.tuple #[.agg #[.int .i64 kind,.string t,.int .i64 q],.int .i64 r,.int .i64 0])∧w.Grows w'
theorem next_end(s:ByteArray)(p:Nat)(hs:s.size≤maxLen)(hp:p≤s.size)(HSK:Hid (∀w,Calls Tryz.prog 195 #[.string s,.int .i64 p] w fun e w'=>e= .returned (.int .i64 s.size)∧w=w')):NxP s p 0 ⟨#[]⟩ s.size s.size:=by
 intro w
 unfold maxLen at hs
 have h0:¬(p:Int)<0:=by omega
 have h1:¬(s.size:Int)<(p:Int):=by omega
 go_enter Tryz.func163,Tryz.ntmps163
 go_wp2_with ((go_at_call 195;refine(HSK.out _).mono ?_;rintro e w' ⟨rfl,rfl⟩))
 exact fz27
theorem next_word(s:ByteArray)(p q n:Nat)(hs:s.size≤maxLen)(hp:p≤s.size)(hq:q+n≤s.size)(hn:0<n∧n≤12)(HSK:Hid (∀w,Calls Tryz.prog 195 #[.string s,.int .i64 p] w fun e w'=>e= .returned (.int .i64 q)∧w=w'))(hl:lowc (byt s q)=true)(HRN:Hid (∀w,Calls Tryz.prog 196 #[.string s,.int .i64 q,.bool false] w fun e w'=>e= .returned (.int .i64 n)∧w=w')):NxP s p 1 (s.extract q (q+n)) q (q+n):=by
 intro w
 unfold maxLen at hs
 have h0:¬(p:Int)<0:=by omega
 have h1:¬(s.size:Int)<(p:Int):=by omega
 have hlt:q<s.size:=by omega
 have h2:((q:Int)==(s.size:Int))=false:=by simp;omega
 have h3:(n:Int)≤12:=by omega
 rw [byt_eq s q hlt]at hl
 have hL:=hl
 go_enter Tryz.func163,Tryz.ntmps163
 go_wp2_with (first|((go_at_call 195;refine(HSK.out _).mono ?_;rintro e w' ⟨rfl,rfl⟩))|((go_at_call 108;(with_reducible refine(letter1_any _ _).mono ?_);rintro e w' ⟨rfl,rfl⟩;simp only [hL]))|((go_at_call 196;refine(HRN.out _).mono ?_;rintro e w' ⟨rfl,rfl⟩)))
 go_returns
 exact⟨by rw [Int.natCast_add],growsR⟩
theorem next_num(s:ByteArray)(p q:Nat)(hs:s.size≤maxLen)(hp:p≤s.size)(hq:q+1≤s.size)(HSK:Hid (∀w,Calls Tryz.prog 195 #[.string s,.int .i64 p] w fun e w'=>e= .returned (.int .i64 q)∧w=w'))(hl:lowc (byt s q)=false)(hd:digc (byt s q)=true)(HRN:Hid (∀w,Calls Tryz.prog 196 #[.string s,.int .i64 q,.bool true] w fun e w'=>e= .returned (.int .i64 1)∧w=w'))
 (HPT:Hid (∀w,Calls Tryz.prog 197 #[.string (s.extract q (q+1))] w fun e w'=>e= .returned (.tuple #[.string (s.extract q (q+1)),.string ⟨#[]⟩,.int .i64 2,.bool true])∧w=w')):NxP s p 2 (s.extract q (q+1)) q (q+1):=by
 intro w
 unfold maxLen at hs
 have h0:¬(p:Int)<0:=by omega
 have h1:¬(s.size:Int)<(p:Int):=by omega
 have hlt:q<s.size:=by omega
 have h2:((q:Int)==(s.size:Int))=false:=by simp;omega
 rw [byt_eq s q hlt]at hl hd
 have hL:=hl
 have hD:=hd
 go_enter Tryz.func163,Tryz.ntmps163
 go_wp2_with (first|((go_at_call 195;refine(HSK.out _).mono ?_;rintro e w' ⟨rfl,rfl⟩))|((go_at_call 108;(with_reducible refine(letter1_any _ _).mono ?_);rintro e w' ⟨rfl,rfl⟩;simp only [hL]))|((go_at_call 109;(with_reducible refine(digit1_any _ _).mono ?_);rintro e w' ⟨rfl,rfl⟩;simp only [hD]))|((go_at_call 196;refine(HRN.out _).mono ?_;rintro e w' ⟨rfl,rfl⟩))|(go_at_call 197;refine(HPT.out _).mono ?_;rintro e w' ⟨rfl,rfl⟩))
 go_returns
 exact⟨by rw [Int.natCast_add];rfl,growsR⟩
theorem next_sign(s:ByteArray)(p q:Nat)(hs:s.size≤maxLen)(hp:p≤s.size)(hq:q+1≤s.size)(HSK:Hid (∀w,Calls Tryz.prog 195 #[.string s,.int .i64 p] w fun e w'=>e= .returned (.int .i64 q)∧w=w'))(hl:lowc (byt s q)=false)(hd:digc (byt s q)=false)(h64:byt s q≠64)
 (HSG:Hid (∀w,Calls Tryz.prog 199 #[.string s,.int .i64 q] w fun e w'=>e= .returned (.int .i64 1)∧w=w')):NxP s p 4 (s.extract q (q+1)) q (q+1):=by
 intro w
 unfold maxLen at hs
 have h0:¬(p:Int)<0:=by omega
 have h1:¬(s.size:Int)<(p:Int):=by omega
 have hlt:q<s.size:=by omega
 have h2:((q:Int)==(s.size:Int))=false:=by simp;omega
 rw [byt_eq s q hlt]at hl hd h64
 have hL:=hl
 have hD:=hd
 have h3:((s[q].toNat:Int)==64)=false:=by simpa using h64
 go_enter Tryz.func163,Tryz.ntmps163
 go_wp2_with (first|((go_at_call 195;refine(HSK.out _).mono ?_;rintro e w' ⟨rfl,rfl⟩))|((go_at_call 108;(with_reducible refine(letter1_any _ _).mono ?_);rintro e w' ⟨rfl,rfl⟩;simp only [hL]))|((go_at_call 109;(with_reducible refine(digit1_any _ _).mono ?_);rintro e w' ⟨rfl,rfl⟩;simp only [hD]))|(go_at_call 199;refine(HSG.out _).mono ?_;rintro e w' ⟨rfl,rfl⟩))
 go_returns
 exact⟨by rw [Int.natCast_add];rfl,growsR⟩

def tenS:ByteArray:=⟨#[48,49,50,51,52,53,54,55,56,57]⟩
def digG:Nat→Int→Nat→ByteArray→ByteArray
 |0,_,_,s=>s
 |f+1,n,l,s=>if 0<n∨s.size<l then digG f (n / 10) l (tenS.extract (n % 10).toNat (n % 10+1).toNat++s)else s
def digS(n:Int)(l:Nat):ByteArray:=digG (n.toNat+l) n l ByteArray.empty
theorem digG_stop(f:Nat)(n:Int)(l:Nat)(s:ByteArray)(h:¬(0<n∨s.size<l)):digG f n l s=s:=by
 cases f with
 |zero=>rfl
 |succ f=>simp only [digG,if_neg h]
theorem digG_go(f:Nat)(n:Int)(l:Nat)(s:ByteArray)(h:0<n∨s.size<l)(hf:n.toNat+(l-s.size)≤f) :
 digG f n l s=digG (f-1) (n / 10) l (tenS.extract (n % 10).toNat (n % 10+1).toNat++s):=by
 cases f with
 |zero=>omega
 |succ f=>simp only [digG,if_pos h];rfl
theorem tenS_size:tenS.size=10:=rfl
theorem ten_piece(m:Int)(s:ByteArray):(tenS.extract (m % 10).toNat (m % 10+1).toNat++s).size=s.size+1:=by
 rw [ByteArray.size_append,ByteArray.size_extract,tenS_size];omega
theorem digG_size:∀(f:Nat) (n:Int) (l:Nat) (s:ByteArray),0≤n→(digG f n l s).size≤s.size+n.toNat+(l-s.size)
 |0,_,_,_,_=>by simp only [digG];omega
 |f+1,n,l,s,h=>by
  simp only [digG]
  split
  ·have:=digG_size f (n / 10) l (tenS.extract (n % 10).toNat (n % 10+1).toNat++s) (by omega)
   rw [ten_piece]at this
   omega
  ·omega
theorem digS_size(n:Int)(l:Nat)(h:0≤n):(digS n l).size≤n.toNat+l:=by
 have:=digG_size (n.toNat+l) n l ByteArray.empty h
 have e:ByteArray.empty.size=0:=rfl
 unfold digS;omega
theorem digits1_any(n:Int)(l:Nat)(w:World)(h0:0≤n)(h1:n≤9223372036854775807)(hl:l≤4):Calls Tryz.prog 188 #[.int .i64 n,.int .i64 l] w fun e w'=>e= .returned (.string (digS n l))∧w=w':=by
 go_enter Tryz.func188,Tryz.ntmps188
 go_wp2
 go_loop [0,5] (fun a b=>∃m:Int,∃s:ByteArray,∃f:Nat,0≤m∧(s.size:Int)+m≤9223372036854775807∧a= .int .i64 m∧b= .string s∧m.toNat+(l-s.size)≤f∧Hid (digG f m l s=digS n l)) (fun a b=>(intOf a).toNat+(l-(match b with| .string s=>s.size|_=>0)))
 case atStart=>exact⟨n,_,n.toNat+l,h0,by show((0:Nat):Int)+n≤_;omega,rfl,rfl,by omega,Lib.hid rfl⟩
 case round=>
  obtain⟨m,s,f,hm0,hm1,rfl,rfl,hf,hg⟩:=hrel
  have hr:0≤m % 10∧m % 10<10:=by omega
  have hpc:Hid (_):=Lib.hid (ten_piece m s)
  by_cases hp:0<m
  ·go_wp2
   go_round
   case rel=>exact⟨m / 10,_,f-1,by omega,by rw [show({data:=#[48,49,50,51,52,53,54,55,56,57]}:ByteArray)=tenS from rfl,hpc.out];omega,rfl,rfl,by rw [show({data:=#[48,49,50,51,52,53,54,55,56,57]}:ByteArray)=tenS from rfl,hpc.out];omega,Lib.hid (by rw [←hg.out,digG_go f m l s (.inl hp) hf];rfl)⟩
   case measure=>
    exact fz72
  ·by_cases hq:s.size<l
   ·go_wp2
    go_round
    case rel=>exact⟨m / 10,_,f-1,by omega,by rw [show({data:=#[48,49,50,51,52,53,54,55,56,57]}:ByteArray)=tenS from rfl,hpc.out];omega,rfl,rfl,by rw [show({data:=#[48,49,50,51,52,53,54,55,56,57]}:ByteArray)=tenS from rfl,hpc.out];omega,Lib.hid (by rw [←hg.out,digG_go f m l s (.inr hq) hf];rfl)⟩
    case measure=>
     exact fz72
   ·go_wp2
    go_returns
    exact⟨by rw [←hg.out,digG_stop f m l s (by omega)];rfl,rfl⟩

theorem ret_str{a b:ByteArray}(h:a=b):Ending.returned (.string a)= .returned (.string b):=by rw [h]
def fracS(n d:Int):ByteArray:=
 if vfrac n d=true then
  if n<0 then(if d=1 then⟨#[45]⟩++digS (absI n) 1 else⟨#[45]⟩++digS (absI n) 1++⟨#[47]⟩++digS d 1)
  else(if d=1 then digS (absI n) 1 else digS (absI n) 1++⟨#[47]⟩++digS d 1)
 else⟨#[]⟩
theorem digits1_one(n:Int)(w:World)(h0:0≤n)(h1:n≤9223372036854775807):Calls Tryz.prog 188 #[.int .i64 n,.int .i64 1] w fun e w'=>e= .returned (.string (digS n 1))∧w=w':=
 digits1_any n 1 w h0 h1 (by omega)
theorem fracS_no(n d:Int)(h:vfrac n d=false):fracS n d=⟨#[]⟩:=by simp [fracS,h]
theorem FormatFraction_any(n d:Int)(w:World)(h1:-9223372036854775808≤n)(h2:n≤9223372036854775807)(h3:-9223372036854775808≤d)(h4:d≤9223372036854775807):Calls Tryz.prog 145 #[.agg #[.int .i64 n,.int .i64 d]] w fun e w'=>e= .returned (.string (fracS n d))∧w.Grows w':=by
 cases hv:vfrac n d
 ·go_enter Tryz.func145,Tryz.ntmps145
  go_wp2_with ((first|(go_at_call 97;(with_reducible refine(Valid1_any _ _ _ (by omega) (by omega) (by omega) (by omega)).mono ?_);rintro e w' ⟨rfl,bs,dr,rfl⟩;simp only [hv])|(go_at_call 93;(with_reducible refine(size1_any _ _ (by omega) (by omega)).mono ?_);rintro e w' ⟨rfl,rfl⟩)|(go_at_call 188;(with_reducible refine(digits1_one _ _ (by omega) (by omega)).mono ?_);rintro e w' ⟨rfl,rfl⟩)))
  go_returns
  exact⟨ret_str (fracS_no n d hv).symm,.of_below belB⟩
 ·have⟨b1,b2,b3,b4⟩:=vfrac_bd hv
  have a0:0≤absI n:=by unfold absI;omega
  have a1:absI n≤1000000000000000:=by unfold absI;omega
  have e1:IntKind.i64.wrap (absI n)=absI n:=IntWalk.i64_in _ (by omega)
  have z1:((digS (absI n) 1).size:Int)≤1000000000000001:=by have:=digS_size (absI n) 1 a0;omega
  have z2:((digS d 1).size:Int)≤1000000001:=by have:=digS_size d 1 (by omega);omega
  by_cases cn:n<0
  ·exact fz18
  ·exact fz18

def decG:Nat→Int→Int→ByteArray→ByteArray
 |0,_,_,s=>s
 |f+1,r,k,s=>if 0<r then decG f (r % k) (k / 10) (s++tenS.extract (r / k).toNat (r / k+1).toNat)else s
def decOk(n d m:Int):Bool:=vfrac n d&&decide (0≤n)&&decide (10000 % d=0)&&decide (2≤m)&&decide (m≤4)&&decide (n / d≤999999999)
def restI(n d:Int):Int:=(n-n / d*d)*(10000 / d)
def sufS(m:Int):ByteArray:=if m=2 then⟨#[]⟩else if m=3 then⟨#[100]⟩else⟨#[109]⟩
def decS(n d m:Int):ByteArray:=
 (if 0<restI n d then decG 4 (restI n d) 1000 (digS (n / d) 1++⟨#[46]⟩)else digS (n / d) 1)++sufS m
theorem ret_dec{a b:ByteArray}{p q:Bool}(h:a=b)(g:p=q):Ending.returned (.tuple #[.string a,.bool p])= .returned (.tuple #[.string b,.bool q]):=by rw [h,g]
def decV(n d m:Int):Value:=.tuple #[.string (if decOk n d m=true then decS n d m else⟨#[]⟩),.bool (decOk n d m)]
theorem decV_no{n d m:Int}(h:decOk n d m=false):decV n d m= .tuple #[.string ⟨#[]⟩,.bool false]:=by simp [decV,h]
theorem decV_yes{n d m:Int}(h:decOk n d m=true):decV n d m= .tuple #[.string (decS n d m),.bool true]:=by simp [decV,h]
theorem FormatDecimal_no(n d m:Int)(w:World)(h1:-9223372036854775808≤n)(h2:n≤9223372036854775807)(h3:-9223372036854775808≤d)(h4:d≤9223372036854775807)(h:decOk n d m=false):Calls Tryz.prog 91 #[.agg #[.int .i64 n,.int .i64 d],.int .i64 m] w fun e w'=>e= .returned (decV n d m)∧w.Grows w':=by
 cases hv:vfrac n d
 ·have hq:Hid True:=Lib.hid trivial
  exact fz5
 ·have⟨b1,b2,b3,b4⟩:=vfrac_bd hv
  have hq:Hid True:=Lib.hid trivial
  by_cases c1:n<0
  ·exact fz5
  ·by_cases c2:10000 % d=0
   ·by_cases c3:m<2
    ·exact fz5
    ·by_cases c4:4<m
     ·exact fz5
     ·by_cases c5:n / d≤999999999
      ·exfalso;simp [decOk,hv,c2]at h;omega
      ·exact fz5
   ·exact fz5
theorem fracS_whole(q:Int)(h0:0≤q)(h1:q≤999999999):fracS q 1=digS q 1:=by
 have hv:vfrac q 1=true:=vfrac_of (by omega) (by simp)
 have ha:absI q=q:=absI_of_nonneg h0
 simp [fracS,hv,ha];intro h;omega
theorem rest_bd(n d:Int)(h0:0≤n)(h1:1≤d)(h2:10000 % d=0):0≤n / d∧0≤n / d*d∧n / d*d≤n∧n-n / d*d<d∧0≤10000 / d∧10000 / d≤10000∧0≤restI n d∧restI n d<10000:=by
 have a1:0≤n / d:=Int.ediv_nonneg h0 (by omega)
 have a2:0≤n % d:=Int.emod_nonneg _ (by omega)
 have a3:n % d<d:=Int.emod_lt_of_pos _ (by omega)
 have a4:d*(n / d)+n % d=n:=Int.mul_ediv_add_emod n d
 rw [Int.mul_comm]at a4
 have a5:0≤10000 / d:=Int.ediv_nonneg (by omega) (by omega)
 have a6:10000 / d≤10000:=Int.ediv_le_self _ (by omega)
 have a7:d*(10000 / d)+10000 % d=10000:=Int.mul_ediv_add_emod 10000 d
 have a8:n-n / d*d=n % d:=by omega
 have a9:0≤n / d*d:=Int.mul_nonneg a1 (by omega)
 refine⟨a1,a9,by omega,by omega,a5,a6, ?_, ?_⟩
 ·unfold restI;rw [a8];exact Int.mul_nonneg a2 a5
 ·unfold restI;rw [a8]
  have a10:0<10000 / d:=by
   rcases Int.lt_or_eq_of_le a5 with h|h
   ·exact h
   ·rw [←h]at a7;omega
  have:=Int.mul_lt_mul_of_pos_right a3 a10
  omega
theorem decG_stop(f:Nat)(r k:Int)(s:ByteArray)(h:¬0<r):decG f r k s=s:=by cases f<;>simp [decG,h]
theorem decG_go(f:Nat)(r k:Int)(s:ByteArray)(h:0<r):decG (f+1) r k s=decG f (r % k) (k / 10) (s++tenS.extract (r / k).toNat (r / k+1).toNat):=by simp [decG,h]
theorem ten_app(s:ByteArray)(x:Int)(h0:0≤x)(h1:x<10):(s++(⟨#[48,49,50,51,52,53,54,55,56,57]⟩:ByteArray).extract x.toNat (x+1).toNat).size=s.size+1:=by
 show(s++tenS.extract _ _).size=_
 rw [ByteArray.size_append,ByteArray.size_extract,tenS_size];omega
theorem dot_size(s:ByteArray):(s++(⟨#[46]⟩:ByteArray)).size=s.size+1:=by rw [ByteArray.size_append];rfl
theorem decS_dot{n d m r k:Int}{j:Nat}{s:ByteArray}(hp:0<restI n d)(g:decG j r k s=decG 4 (restI n d) 1000 (digS (n / d) 1++⟨#[46]⟩))(g6:decG j r k s=s):s++sufS m=decS n d m:=by
 unfold decS
 rw [if_pos hp,←g,g6]
theorem decS_whole{n d m r k:Int}{j:Nat}{s:ByteArray}(hp:¬0<restI n d)(g:decG j r k s=decG 4 (restI n d) 1000 (digS (n / d) 1))(g6:decG j r k s=s):s++sufS m=decS n d m:=by
 unfold decS
 rw [if_neg hp,←g6,g,decG_stop _ _ _ _ hp]
theorem FormatDecimal_yes(n d m:Int)(w:World)(h1:-9223372036854775808≤n)(h2:n≤9223372036854775807)(h3:-9223372036854775808≤d)(h4:d≤9223372036854775807)(h:decOk n d m=true):Calls Tryz.prog 91 #[.agg #[.int .i64 n,.int .i64 d],.int .i64 m] w fun e w'=>e= .returned (decV n d m)∧w.Grows w':=by
 rw [decV_yes h]
 simp only [decOk,Bool.and_eq_true,decide_eq_true_eq]at h
 obtain⟨⟨⟨⟨⟨hv,c1⟩,c2⟩,c3⟩,c4⟩,c5⟩:=h
 have⟨b1,b2,b3,b4⟩:=vfrac_bd hv
 have⟨r1,r2,r3,r4,r5,r6,r7,r8⟩:=rest_bd n d c1 b1 c2
 have hR:Hid (_):=Lib.hid (show restI n d=(n-n / d*d)*(10000 / d)from rfl)
 unfold restI at r7 r8
 have hq:=Lib.hid (fracS_whole (n / d) r1 c5)
 have z:=digS_size (n / d) 1 r1
 have z1:((digS (n / d) 1).size:Int)≤1000000000:=by omega
 clear z
 go_enter Tryz.func91,Tryz.ntmps91
 by_cases hp:0<(n-n / d*d)*(10000 / d)
 ·have HP:=Lib.hid (show 0<restI n d from hp)
  go_wp2_with ((first|(go_at_call 97;(with_reducible refine(Valid1_any _ _ _ (by omega) (by omega) (by omega) (by omega)).mono ?_);rintro e w' ⟨rfl,bs,dr,rfl⟩;simp only [hv])|(go_at_call 145;(with_reducible refine(FormatFraction_any _ _ _ (by omega) (by omega) (by omega) (by omega)).mono ?_);rintro e w' ⟨rfl,bs2,dr2,rfl⟩;simp only [hq.out])))
  go_quiet (fail)
  go_wp2_with fail
  go_loopw [7,8,9] (fun v7 v8 v9 wr=>∃j:Nat,∃r k:Int,∃s:ByteArray,v7= .string s∧v8= .int .i64 r∧v9= .int .i64 k∧0≤r∧((s.size:Int)≤1000000010-j)∧
   ((j=4∧k=1000∧r<10000)∨(j=3∧k=100∧r<1000)∨(j=2∧k=10∧r<100)∨(j=1∧k=1∧r<10)∨(j=0∧k=0∧r=0))∧
   Hid (decG j r k s=decG 4 (restI n d) 1000 (digS (n / d) 1++⟨#[46]⟩))∧World.Grows (w.alloc (.cells #[.int .i64 n,.int .i64 d] 24)) wr) (fun _ _ v9 _=>(intOf v9).toNat)
  case atStart=>exact⟨4,_,_,_,rfl,rfl,rfl,by omega,by first|(rw [dot_size];omega)|omega,.inl ⟨rfl,rfl,by omega⟩,Lib.hid (by rw [hR.out]),.of_below belB⟩
  case round=>
   obtain⟨j,r,k,s,rfl,rfl,rfl,g1,g2,g3,g4,bs3,dr3,rfl⟩:=hrel
   by_cases g0:0<r
   ·exact fz8
   ·have G6:=Lib.hid (decG_stop j r k s g0)
    obtain rfl|rfl|rfl:m=2∨m=3∨m=4:=by omega
    ·go_wp2_with fail
     go_returns
     exact⟨ret_dec (show s++sufS 2=decS n d 2 from decS_dot (by have:=HP.out;omega) g4.out G6.out) rfl,.of_below belB⟩
    ·go_wp2_with fail
     go_returns
     exact⟨ret_dec (show s++sufS 3=decS n d 3 from decS_dot (by have:=HP.out;omega) g4.out G6.out) rfl,.of_below belB⟩
    ·go_wp2_with fail
     go_returns
     exact⟨ret_dec (show s++sufS 4=decS n d 4 from decS_dot (by have:=HP.out;omega) g4.out G6.out) rfl,.of_below belB⟩
 ·have HP:=Lib.hid (show ¬0<restI n d from hp)
  go_wp2_with ((first|(go_at_call 97;(with_reducible refine(Valid1_any _ _ _ (by omega) (by omega) (by omega) (by omega)).mono ?_);rintro e w' ⟨rfl,bs,dr,rfl⟩;simp only [hv])|(go_at_call 145;(with_reducible refine(FormatFraction_any _ _ _ (by omega) (by omega) (by omega) (by omega)).mono ?_);rintro e w' ⟨rfl,bs2,dr2,rfl⟩;simp only [hq.out])))
  go_quiet (fail)
  go_wp2_with fail
  go_loopw [7,8,9] (fun v7 v8 v9 wr=>∃j:Nat,∃r k:Int,∃s:ByteArray,v7= .string s∧v8= .int .i64 r∧v9= .int .i64 k∧0≤r∧((s.size:Int)≤1000000010-j)∧
   ((j=4∧k=1000∧r<10000)∨(j=3∧k=100∧r<1000)∨(j=2∧k=10∧r<100)∨(j=1∧k=1∧r<10)∨(j=0∧k=0∧r=0))∧
   Hid (decG j r k s=decG 4 (restI n d) 1000 (digS (n / d) 1))∧World.Grows (w.alloc (.cells #[.int .i64 n,.int .i64 d] 24)) wr) (fun _ _ v9 _=>(intOf v9).toNat)
  case atStart=>exact⟨4,_,_,_,rfl,rfl,rfl,by omega,by first|(rw [dot_size];omega)|omega,.inl ⟨rfl,rfl,by omega⟩,Lib.hid (by rw [hR.out]),.of_below belB⟩
  case round=>
   obtain⟨j,r,k,s,rfl,rfl,rfl,g1,g2,g3,g4,bs3,dr3,rfl⟩:=hrel
   by_cases g0:0<r
   ·exact fz8
   ·have G6:=Lib.hid (decG_stop j r k s g0)
    obtain rfl|rfl|rfl:m=2∨m=3∨m=4:=by omega
    ·go_wp2_with fail
     go_returns
     exact⟨ret_dec (show s++sufS 2=decS n d 2 from decS_whole (by have:=HP.out;omega) g4.out G6.out) rfl,.of_below belB⟩
    ·go_wp2_with fail
     go_returns
     exact⟨ret_dec (show s++sufS 3=decS n d 3 from decS_whole (by have:=HP.out;omega) g4.out G6.out) rfl,.of_below belB⟩
    ·go_wp2_with fail
     go_returns
     exact⟨ret_dec (show s++sufS 4=decS n d 4 from decS_whole (by have:=HP.out;omega) g4.out G6.out) rfl,.of_below belB⟩
theorem FormatDecimal_any(n d m:Int)(w:World)(h1:-9223372036854775808≤n)(h2:n≤9223372036854775807)(h3:-9223372036854775808≤d)(h4:d≤9223372036854775807):Calls Tryz.prog 91 #[.agg #[.int .i64 n,.int .i64 d],.int .i64 m] w fun e w'=>e= .returned (decV n d m)∧w.Grows w':=by
 cases h:decOk n d m
 ·exact FormatDecimal_no n d m w h1 h2 h3 h4 h
 ·exact FormatDecimal_yes n d m w h1 h2 h3 h4 h

theorem Calls.quiet_eq{P:Program}{f:FuncId}{args:Array Value}{w:World}{n:Nat}{v:Value}
 (h:Calls P f args (w.drewN n) fun e w'=>e= .returned v∧w.drewN n=w'):Calls P f args (w.drewN n) fun e w''=>e= .returned v∧∃m,w''=w.drewN m:=
 h.mono fun _ _ ⟨he,hm⟩=>⟨he,n,hm.symm⟩
theorem RepE.form0{S:Nat→Prop}{w:World}{e:Ex}{v:Value}(h:RepE S w e v):∃a cap,v= .slice a e.args.length cap:=by cases h;exact⟨_,_,rfl⟩
mutual
def formedB:Ex→Bool
 | .mk o n d m s l=>decide ((l.length:Int)=argsN o)&&
  (if o=1 then decOk n d m&&s.toList.isEmpty
   else if o=2 then decide (n=0)&&decide (d=0)&&decide (m=0)&&nameB s
   else if o=3 then decide (m=0)&&s.toList.isEmpty&&decide (d=1)&&decide (1≤n)&&decide (n≤45)
   else formedsB l&&(decide (n=0)&&decide (d=0)&&decide (m=0)&&s.toList.isEmpty))
def formedsB:List Ex→Bool
 | []=>true
 |e::r=>formedB e&&formedsB r
end
theorem formedB_eq(e:Ex):formedB e=(decide ((e.args.length:Int)=argsN e.op)&&
 (if e.op=1 then decOk e.num e.den e.dim&&e.name.toList.isEmpty
  else if e.op=2 then decide (e.num=0)&&decide (e.den=0)&&decide (e.dim=0)&&nameB e.name
  else if e.op=3 then decide (e.dim=0)&&e.name.toList.isEmpty&&decide (e.den=1)&&decide (1≤e.num)&&decide (e.num≤45)
  else formedsB e.args&&(decide (e.num=0)&&decide (e.den=0)&&decide (e.dim=0)&&e.name.toList.isEmpty))):=by
 cases e;rw [formedB];rfl
theorem formedsB_take(l:List Ex)(k:Nat)(h:k<l.length):formedsB (l.take (k+1))=(formedsB (l.take k)&&formedB (l.getD k default)):=by
 induction l generalizing k with
 |nil=>simp at h
 |cons e r ih=>
  cases k with
  |zero=>simp [formedsB]
  |succ k=>simp only [List.take_succ_cons,formedsB,List.getD_cons_succ];rw [ih k (by simpa using h),Bool.and_assoc]
theorem formedsB_no(l:List Ex)(k:Nat)(h:k<l.length)(hf:formedB (l.getD k default)=false):formedsB l=false:=by
 induction l generalizing k with
 |nil=>simp at h
 |cons e r ih=>
  cases k with
  |zero=>simp only [List.getD_cons_zero]at hf;simp [formedsB,hf]
  |succ k=>simp only [List.getD_cons_succ]at hf;simp [formedsB,ih k (by simpa using h) hf]

theorem formed_len
 (S:Nat→Prop) (e:Ex) (v:Value) (w:World) (h:RepE S w e v)
 (hne:¬(e.args.length:Int)=argsN e.op):(Calls Tryz.prog 77 #[exV e v] w fun r w'=>r= .returned (.bool (formedB e))∧w.Grows w'):=by
 have HF:Hid (formedB e=false):=Lib.hid (by rw [formedB_eq,decide_eq_false hne,Bool.false_and])
 have hr:=h.rng
 obtain⟨a,cap,hv⟩:∃a cap,v= .slice a e.args.length cap:=by cases h;exact⟨_,_,rfl⟩
 subst hv
 clear h
 obtain⟨on,od⟩:=hr.num
 obtain⟨pn,pd⟩:=hr.den
 have hsz:=hr.name
 clear hr
 have h1:((e.args.length:Int)!=argsN e.op)=true:=by simpa using hne
 clear hne
 go_enter Tryz.func77,Tryz.ntmps77
 go_wp2_with fail
 go_quiet ((go_at_call 59;exact Calls.quiet_eq (Args_any _ _)))
 go_wp2_with fail
 go_returns
 exact⟨ret_bool HF.out.symm,.of_below belB⟩
theorem formed_lit
 (S:Nat→Prop) (e:Ex) (v:Value) (w:World) (h:RepE S w e v)
 (hle:(e.args.length:Int)=argsN e.op) (ho:e.op=1):(Calls Tryz.prog 77 #[exV e v] w fun r w'=>r= .returned (.bool (formedB e))∧w.Grows w'):=by
 have HF:Hid (formedB e=(decOk e.num e.den e.dim&&e.name.toList.isEmpty)):=Lib.hid (by rw [formedB_eq,decide_eq_true hle,Bool.true_and,if_pos ho])
 have hr:=h.rng
 obtain⟨a,cap,hv⟩:∃a cap,v= .slice a e.args.length cap:=by cases h;exact⟨_,_,rfl⟩
 subst hv
 clear h
 obtain⟨on,od⟩:=hr.num
 obtain⟨pn,pd⟩:=hr.den
 have hsz:=hr.name
 clear hr
 have h1:((e.args.length:Int)!=argsN 1)=false:=by rw [ho]at hle;simpa using hle
 clear hle
 go_enter Tryz.func77,Tryz.ntmps77
 go_wp2_with fail
 go_quiet ((go_at_call 59;exact Calls.quiet_eq (Args_any _ _)))
 go_wp2_with (go_at_call 91;refine(FormatDecimal_any _ _ _ _ (by omega) (by omega) (by omega) (by omega)).mono ?_;rintro e' w' ⟨rfl,bs,d,rfl⟩;simp only [decV])
 all_goals
  go_returns
  exact⟨ret_bool (by rw [HF.out];simp [*]),.of_below belB⟩
theorem formed_name
 (S:Nat→Prop) (e:Ex) (v:Value) (w:World) (h:RepE S w e v)
 (hle:(e.args.length:Int)=argsN e.op) (ho:e.op=2):(Calls Tryz.prog 77 #[exV e v] w fun r w'=>r= .returned (.bool (formedB e))∧w.Grows w'):=by
 have HF:Hid (formedB e=(decide (e.num=0)&&decide (e.den=0)&&decide (e.dim=0)&&nameB e.name)):=Lib.hid (by rw [formedB_eq,decide_eq_true hle,Bool.true_and,if_neg (by omega),if_pos ho])
 have hr:=h.rng
 obtain⟨a,cap,hv⟩:∃a cap,v= .slice a e.args.length cap:=by cases h;exact⟨_,_,rfl⟩
 subst hv
 clear h
 obtain⟨on,od⟩:=hr.num
 obtain⟨pn,pd⟩:=hr.den
 have hsz:=hr.name
 clear hr
 have h1:((e.args.length:Int)!=argsN 2)=false:=by rw [ho]at hle;simpa using hle
 clear hle
 have hm:e.name.size≤maxLen:=by unfold maxLen;omega
 have HM:=Lib.hid hm
 clear hm
 go_enter Tryz.func77,Tryz.ntmps77
 go_wp2_with fail
 go_quiet ((go_at_call 59;exact Calls.quiet_eq (Args_any _ _)))
 go_wp2_with (go_at_call 44;refine(IsName_any _ _ HM.out).mono ?_;rintro e' w' ⟨rfl,rfl⟩)
 all_goals
  go_returns
  exact⟨ret_bool (by rw [HF.out];simp [*]),.of_below belB⟩
theorem formed_best
 (S:Nat→Prop) (e:Ex) (v:Value) (w:World) (h:RepE S w e v)
 (hle:(e.args.length:Int)=argsN e.op) (ho:e.op=3):(Calls Tryz.prog 77 #[exV e v] w fun r w'=>r= .returned (.bool (formedB e))∧w.Grows w'):=by
 have HF:Hid (formedB e=(decide (e.dim=0)&&e.name.toList.isEmpty&&decide (e.den=1)&&decide (1≤e.num)&&decide (e.num≤45))):=Lib.hid (by rw [formedB_eq,decide_eq_true hle,Bool.true_and,if_neg (by omega),if_neg (by omega),if_pos ho])
 have hr:=h.rng
 obtain⟨a,cap,hv⟩:∃a cap,v= .slice a e.args.length cap:=by cases h;exact⟨_,_,rfl⟩
 subst hv
 clear h
 obtain⟨on,od⟩:=hr.num
 obtain⟨pn,pd⟩:=hr.den
 have hsz:=hr.name
 clear hr
 have h1:((e.args.length:Int)!=argsN 3)=false:=by rw [ho]at hle;simpa using hle
 clear hle
 go_enter Tryz.func77,Tryz.ntmps77
 go_wp2_with fail
 go_quiet ((go_at_call 59;exact Calls.quiet_eq (Args_any _ _)))
 go_wp2_with fail
 all_goals
  go_returns
  exact⟨ret_bool (by rw [HF.out];first|(simp [*];done)|(simp [*];intros;omega)),.of_below belB⟩
def fT(e:Ex)(k:Nat):Bool:=formedsB (e.args.take k)
theorem fT_zero(e:Ex):fT e 0=true:=rfl
theorem fT_succ(e:Ex)(k:Nat)(h:k<e.args.length)(h1:fT e k=true)(h2:formedB (e.arg k)=true):fT e (k+1)=true:=by
 unfold fT at *;rw [formedsB_take _ _ h,h1,Bool.true_and];exact h2
theorem formed_walk(S:Nat→Prop)(n:Nat):∀(e:Ex),e.size≤n→∀(v:Value) (w:World),RepE S w e v→(Calls Tryz.prog 77 #[exV e v] w fun r w'=>r= .returned (.bool (formedB e))∧w.Grows w'):=by
 induction n with
 |zero=>intro e he;have:=e.size_pos;omega
 |succ n ih=>
  intro e he v w h
  by_cases hle:(e.args.length:Int)=argsN e.op
  ·by_cases o1:e.op=1
   ·exact formed_lit S e v w h hle o1
   ·by_cases o2:e.op=2
    ·exact formed_name S e v w h hle o2
    ·by_cases o3:e.op=3
     ·exact formed_best S e v w h hle o3
     ·have HF:Hid (formedB e=(formedsB e.args&&(decide (e.num=0)&&decide (e.den=0)&&decide (e.dim=0)&&e.name.toList.isEmpty))):=Lib.hid (by rw [formedB_eq,decide_eq_true hle,Bool.true_and,if_neg o1,if_neg o2,if_neg o3])
      have IH:=Lib.hid ih
      clear ih
      have h1:((e.args.length:Int)!=argsN e.op)=false:=by simpa using hle
      have p1:(e.op==1)=false:=by simpa using o1
      have p2:(e.op==2)=false:=by simpa using o2
      have p3:(e.op==3)=false:=by simpa using o3
      clear hle o1 o2 o3
      cases h with
      |mk _ a cap vs hr hc hs=>
       have hlen:=hr.len
       have Hs:=Lib.hid hs
       have He:=Lib.hid he
       have Hc:=Lib.hid hc
       clear hr hs he hc
       generalize hz:(decide (e.num=0)&&decide (e.den=0)&&decide (e.dim=0)&&e.name.toList.isEmpty)=z at HF
       have HZ:=Lib.hid hz
       clear hz
       go_enter Tryz.func77,Tryz.ntmps77
       go_wp2_with fail
       go_quiet ((go_at_call 59;exact Calls.quiet_eq (Args_any _ _)))
       go_wp2_with fail
       all_goals
        go_loopw [6] (fun v6 wr=>∃k:Nat,k≤e.args.length∧v6= .int .i64 k∧Hid (fT e k=true)∧
         ∃x1 x2 x3:Int,World.Grows (w.alloc (.cells #[.int .i64 e.op,.int .i64 x1,.int .i64 x2,.int .i64 x3,.string e.name,.slice a e.args.length cap] 27)) wr) (fun v6 _=>e.args.length-(intOf v6).toNat)
        case atStart=>exact⟨0,by omega,rfl,Lib.hid (fT_zero e),_,_,_,.of_below belB⟩
        case round=>
         obtain⟨k,hk,rfl,HT,x1,x2,x3,bs,d,rfl⟩:=hrel
         by_cases hlt:k<e.args.length
         ·rcases Hc.out with h0|⟨b,off,rfl,hS,hbw,hx⟩
          ·omega
          ·obtain⟨y0,y1,y2,y3,y4,y5⟩:=hx k hlt
           clear hx
           have hlt1:(k:Int)<(e.args.length:Int):=by omega
           have HA:=Lib.hid (e.size_arg k hlt)
           cases hb:formedB (e.arg k)
           ·have HB:=Lib.hid hb
            clear hb
            go_wp2_with fail
            refine(IH.out (e.arg k) (by have:=He.out;have:=HA.out;omega) (vs k) _ (((Hs.out k hlt).alloc _).grow _ _)).mono ?_
            rintro r w' ⟨rfl,bs2,d2,rfl⟩
            simp only [HB.out]
            go_wp2_with fail
            go_returns
            exact⟨ret_bool (by rw [HF.out,formedsB_no _ k hlt HB.out,Bool.false_and]),.of_below belB⟩
           ·have HB:=Lib.hid hb
            clear hb
            go_wp2_with fail
            refine(IH.out (e.arg k) (by have:=He.out;have:=HA.out;omega) (vs k) _ (((Hs.out k hlt).alloc _).grow _ _)).mono ?_
            rintro r w' ⟨rfl,bs2,d2,rfl⟩
            simp only [HB.out]
            go_wp2_with fail
            go_roundw
            case rel=>exact⟨k+1,by omega,by go_num,Lib.hid (fT_succ e k hlt HT.out HB.out),x1,x2,x3,.of_below belB⟩
            case measure=>simp [intOf];omega
         ·obtain rfl:k=e.args.length:=by omega
          have HT2:Hid (formedsB e.args=true):=Lib.hid (by have:=HT.out;unfold fT at this;rw [List.take_length]at this;exact this)
          clear HT
          go_wp2_with fail
          go_returns
          exact⟨ret_bool (by rw [HF.out,HT2.out,Bool.true_and,←HZ.out];simp [*]),.of_below belB⟩
  ·exact formed_len S e v w h hle

theorem formed_any(S:Nat→Prop)(e:Ex)(v:Value)(w:World)(h:RepE S w e v):(Calls Tryz.prog 77 #[exV e v] w fun r w'=>r= .returned (.bool (formedB e))∧w.Grows w'):=formed_walk S e.size e (Nat.le_refl _) v w h
def validB(e:Ex):Bool:=decide (e.depth≤10)&&decide (e.size≤60)&&formedB e
theorem ValidExpr_any(S:Nat→Prop)(e:Ex)(v:Value)(w:World)(h:Hid (RepE S w e v))(hbig:Hid (e.size≤2305843009213693952)):Calls Tryz.prog 31 #[exV e v] w fun r w'=>r= .returned (.bool (validB e))∧w.Grows w':=by
 obtain⟨a,cap,hv⟩:=h.out.form0
 subst hv
 by_cases c1:(e.depth:Int)≤10
 ·by_cases c2:(e.size:Int)≤60
  ·go_enter Tryz.func31,Tryz.ntmps31
   go_wp2_with ((first|(go_at_call 76;refine(Depth_walk S e.size e (Nat.le_refl _) _ _ (h.out.alloc _) hbig).mono ?_;rintro r w' ⟨rfl,bs,d,rfl⟩)|(go_at_call 17;refine(Size_walk S e.size e (Nat.le_refl _) _ _ ((h.out.alloc _).grow _ _) hbig).mono ?_;rintro r w' ⟨rfl,bs2,d2,rfl⟩)|(go_at_call 77;refine(formed_any S e _ _ ((h.out.alloc _).grow _ _)).mono ?_;rintro r w' ⟨rfl,bs3,d3,rfl⟩)))
   exact fz58
  ·go_enter Tryz.func31,Tryz.ntmps31
   go_wp2_with ((first|(go_at_call 76;refine(Depth_walk S e.size e (Nat.le_refl _) _ _ (h.out.alloc _) hbig).mono ?_;rintro r w' ⟨rfl,bs,d,rfl⟩)|(go_at_call 17;refine(Size_walk S e.size e (Nat.le_refl _) _ _ ((h.out.alloc _).grow _ _) hbig).mono ?_;rintro r w' ⟨rfl,bs2,d2,rfl⟩)|(go_at_call 77;refine(formed_any S e _ _ ((h.out.alloc _).grow _ _)).mono ?_;rintro r w' ⟨rfl,bs3,d3,rfl⟩)))
   exact fz63
 ·go_enter Tryz.func31,Tryz.ntmps31
  go_wp2_with ((first|(go_at_call 76;refine(Depth_walk S e.size e (Nat.le_refl _) _ _ (h.out.alloc _) hbig).mono ?_;rintro r w' ⟨rfl,bs,d,rfl⟩)|(go_at_call 17;refine(Size_walk S e.size e (Nat.le_refl _) _ _ ((h.out.alloc _).grow _ _) hbig).mono ?_;rintro r w' ⟨rfl,bs2,d2,rfl⟩)|(go_at_call 77;refine(formed_any S e _ _ ((h.out.alloc _).grow _ _)).mono ?_;rintro r w' ⟨rfl,bs3,d3,rfl⟩)))
  exact fz61
def IdxE(n:Nat)(p:Nat→Bool)(r:Int):Prop:=(r= -1∧∀k,k<n→p k=false)∨∃k:Nat,k<n∧r=k∧p k=true
theorem IdxE.any{n:Nat}{p:Nat→Bool}{r:Int}(h:IdxE n p r):decide (0≤r)=(List.range n).any p:=by
 rcases h with ⟨rfl,h⟩|⟨k,hk,rfl,hp⟩
 ·symm
  rw [show decide ((0:Int)≤-1)=false by decide,Bool.eq_false_iff]
  intro hc
  obtain⟨k,hk,hp⟩:=List.any_eq_true.1 hc
  rw [h k (List.mem_range.1 hk)]at hp;cases hp
 ·rw [decide_eq_true (show(0:Int)≤k by omega)]
  symm
  exact List.any_eq_true.2 ⟨k,List.mem_range.2 hk,hp⟩
def PredE(S:Nat→Prop)(g:FuncId)(lb:Array Value)(e:Ex)(p:Nat→Bool)(w:World):Prop:=
 ∀k,k<e.args.length→∀a c w',w.Grows w'→RepE S w' (e.arg k) (.slice a (e.arg k).args.length c)→Calls Tryz.prog g (#[exV (e.arg k) (.slice a (e.arg k).args.length c)]++lb) w' fun r w''=>r= .returned (.bool (p k))∧w'.Grows w''
theorem RepE.grows{S:Nat→Prop}{w w':World}{e:Ex}{v:Value}(h:RepE S w e v)(hg:w.Grows w'):RepE S w' e v:=by
 obtain⟨bs,d,rfl⟩:=hg;exact h.grow bs d
theorem idxE_any(S:Nat→Prop)(g:FuncId)(lb:Array Value)(eg:∀args w,(callFunc g args).run Tryz.prog w= .ok (.enter g args) w)(e:Ex)(v:Value)(p:Nat→Bool)(w:World)(h:RepE S w e v)(hp:Hid (PredE S g lb e p w)) :
 Calls Tryz.prog 174 #[v,.func (.func g) #[] lb] w fun r w'=>(∃z,r= .returned (.int .i64 z)∧IdxE e.args.length p z)∧w.Grows w':=by
 cases h with
 |mk _ a cap vs hr hc hs=>
  have hlen:=hr.len
  have Hs:=Lib.hid hs
  have Hc:=Lib.hid hc
  clear hr hs hc
  go_enter Tryz.func174,Tryz.ntmps174
  go_wp2_with fail
  go_loopw [5,8] (fun _ v8 wr=>∃k:Nat,k≤e.args.length∧v8= .int .i64 k∧Hid (∀j,j<k→p j=false)∧w.Grows wr) (fun _ v8 _=>e.args.length-(intOf v8).toNat)
  case atStart=>exact⟨0,by omega,rfl,Lib.hid (fun j hj=>by omega),.refl _⟩
  case round=>
   obtain⟨k,hk,rfl,hno,hgr⟩:=hrel
   have HG:=Lib.hid hgr
   obtain⟨bs,d,rfl⟩:=hgr
   by_cases hlt2:k<e.args.length
   ·rcases Hc.out with h0|⟨b,off,rfl,hg,hbw,hx⟩
    ·omega
    ·obtain⟨x0,x1,x2,x3,x4,x5⟩:=hx k hlt2
     clear hx
     have hR:=Hs.out k hlt2
     obtain⟨ak,ck,hvk⟩:=hR.form0
     rw [hvk]at x5 hR
     have d1:(k:Int)<(e.args.length:Int):=by omega
     have hcall:=hp.out k hlt2 ak ck _ HG.out (hR.grow bs d)
     have HLT:=Lib.hid hlt2
     clear hR hvk
     cases hq:p k with
     |true=>
      rw [hq]at hcall
      have HQ:=Lib.hid hq
      clear hq
      have HCL:=Lib.hid hcall
      clear hcall
      go_wp2_with (go_at_fn g;refine HCL.out.mono ?_;rintro e' w' ⟨rfl,bs2,d2,rfl⟩)
      go_returns
      exact⟨⟨_,rfl,.inr ⟨k,HLT.out,rfl,HQ.out⟩⟩,.of_below belB⟩
     |false=>
      rw [hq]at hcall
      have HQ:=Lib.hid hq
      clear hq
      have HCL:=Lib.hid hcall
      clear hcall
      go_wp2_with (go_at_fn g;refine HCL.out.mono ?_;rintro e' w' ⟨rfl,bs2,d2,rfl⟩)
      go_roundw
      case rel=>exact⟨k+1,by omega,by go_num,Lib.hid (fun j hj=>by
       by_cases ej:j=k
       ·subst ej;exact HQ.out
       ·exact hno.out j (by omega)),.of_below belB⟩
      case measure=>simp [intOf];omega
   ·obtain rfl:k=e.args.length:=by omega
    go_wp2_with fail
    go_returns
    exact⟨⟨_,rfl,.inl ⟨rfl,hno.out⟩⟩,.of_below belB⟩
theorem containsE_any(S:Nat→Prop)(g:FuncId)(lb:Array Value)(eg:∀args w,(callFunc g args).run Tryz.prog w= .ok (.enter g args) w)(e:Ex)(v:Value)(p:Nat→Bool)(w:World)(h:RepE S w e v)(hp:Hid (PredE S g lb e p w)) :
 Calls Tryz.prog 135 #[v,.func (.func g) #[] lb] w fun r w'=>r= .returned (.bool ((List.range e.args.length).any p))∧w.Grows w':=by
 have HI:=Lib.hid (idxE_any S g lb eg e v p w h hp)
 obtain⟨a,cap,rfl⟩:=h.form0
 clear h hp
 generalize hX:(List.range e.args.length).any p=X
 have HX:=Lib.hid hX
 clear hX
 go_enter Tryz.func135,Tryz.ntmps135
 go_wp2_with (go_at_call 174;refine HI.out.mono ?_;rintro e' w' ⟨⟨z,rfl,hz⟩,bs2,d2,rfl⟩;have HZ:=Lib.hid hz.any;clear hz)
 go_returns
 exact⟨ret_bool (by rw [←HX.out,←HZ.out]),.of_below belB⟩
end Go.Proofs.YtfoefpoaomepbaaGreatDoor
namespace Go.Proofs.YtfoefpoaomepbaaGreatDoor

theorem lowN_neg{b c:Bool}{n d:Nat}(h:n=0∨b=c):lowN b n d=lowN c n d:=by
 rcases h with rfl|rfl
 ·unfold lowN;simp
 ·rfl
theorem lowE_cases(n d:Nat):lowE n d=0∨lowE n d=2:=by unfold lowE;split<;>simp
theorem low_bad{n d:Nat}(b:Bool)(h:lowE n d≠0):lowN b n d=0∧lowD n d=0:=by
 unfold lowE at h
 unfold lowN lowD
 split at h<;>rename_i hc
 ·rw [if_pos hc,if_pos hc];exact⟨rfl,rfl⟩
 ·exact absurd rfl h
theorem vfrac_nat{n d:Nat}(b:Bool)(h1:1≤d)(h2:d≤1000000000)(h3:n≤1000000000000000)(hg:Nat.gcd n d=1):vfrac (if b then -(n:Int)else n) d=true:=by
 refine vfrac_of ⟨by omega,by omega, ?_, ?_⟩ ?_
 ·cases b<;>simp<;>omega
 ·cases b<;>simp<;>omega
 ·cases b<;>simpa using hg
theorem low_ok{n d:Nat}(b:Bool)(hd:0<d)(h:lowE n d=0):vfrac (lowN b n d) (lowD n d)=true:=by
 have hg:0<Nat.gcd n d:=Nat.gcd_pos_of_pos_right _ hd
 unfold lowE at h
 unfold lowN lowD
 split at h<;>rename_i hc
 ·simp at h
 ·rw [if_neg hc,if_neg hc]
  have h1:0<d / Nat.gcd n d:=Nat.div_pos (Nat.gcd_le_right _ hd) hg
  exact vfrac_nat b (by omega) (by omega) (by omega) (Nat.coprime_div_gcd_div_gcd hg)

def prdX(n k m h:Nat):Nat:=n / Nat.gcd n k*(m / Nat.gcd m h)
def prdF(b:Bool)(n d m k:Nat):Int × Int × Int:=
 if 1000000000000000<prdX n k m d∨1000000000<prdX d m k n then(0,0,2)else(if b then -(prdX n k m d:Int)else prdX n k m d,prdX d m k n,0)

def negF(n d:Int):Int × Int × Int:=if vfrac n d then(-n,d,0)else(0,0,1)
def addS(an ad bn bd:Int):Int:=an*bd+bn*ad
def addF(an ad bn bd:Int):Int × Int × Int:=
 if vfrac an ad&&vfrac bn bd then
  (lowN (decide (addS an ad bn bd<0)) (addS an ad bn bd).natAbs (ad.natAbs*bd.natAbs),lowD (addS an ad bn bd).natAbs (ad.natAbs*bd.natAbs),lowE (addS an ad bn bd).natAbs (ad.natAbs*bd.natAbs))
 else(0,0,1)
def subF(an ad bn bd:Int):Int × Int × Int:=if vfrac bn bd then addF an ad (-bn) bd else(0,0,1)
def mulF(an ad bn bd:Int):Int × Int × Int:=
 if vfrac an ad&&vfrac bn bd then prdF (decide (an<0)!=decide (bn<0)) an.natAbs ad.natAbs bn.natAbs bd.natAbs else(0,0,1)
def divF(an ad bn bd:Int):Int × Int × Int:=
 if vfrac an ad&&vfrac bn bd then if bn=0 then(0,0,3)else prdF (decide (an<0)!=decide (bn<0)) an.natAbs ad.natAbs bd.natAbs bn.natAbs else(0,0,1)
def cmpI(an ad bn bd:Int):Int:=if an*bd<bn*ad then -1 else if bn*ad<an*bd then 1 else 0
def cmpF(an ad bn bd:Int):Int × Int:=if vfrac an ad&&vfrac bn bd then(cmpI an ad bn bd,0)else(0,1)
def floorF(n d:Int):Int × Int:=if vfrac n d then(n / d,0)else(0,1)

theorem vfrac_neg{n d:Int}:vfrac (-n) d=vfrac n d:=by
 unfold vfrac absI
 rw [Int.natAbs_neg]
 congr 1
 refine decide_eq_decide.2 ?_
 omega
theorem vfrac_prime{n d:Int}(h:vfrac n d=true):Nat.Coprime n.natAbs d.natAbs:=vfrac_gcd h

theorem addS_same{a d b e:Nat}(s:Bool):addS (if s then -(a:Int)else a) d (if s then -(b:Int)else b) e=if s then -((a*e+b*d:Nat):Int)else((a*e+b*d:Nat):Int):=by
 unfold addS
 cases s<;>simp [Int.neg_mul];omega
theorem addS_diff{a d b e:Nat}(s:Bool):addS (if s then -(a:Int)else a) d (if s then(b:Int)else -b) e=if s then((b*d:Nat):Int)-(a*e:Nat)else((a*e:Nat):Int)-(b*d:Nat):=by
 unfold addS
 cases s<;>simp [Int.neg_mul]<;>omega
theorem sign_form(n:Int):n=if decide (n<0)then -(n.natAbs:Int)else n.natAbs:=by
 by_cases h:n<0<;>simp [h]<;>omega

theorem add_same{an ad bn bd:Int}(h1:1≤ad)(h2:1≤bd)(hs:decide (an<0)=decide (bn<0)) :
 (addS an ad bn bd).natAbs=an.natAbs*bd.natAbs+bn.natAbs*ad.natAbs∧((addS an ad bn bd).natAbs=0∨decide (addS an ad bn bd<0)=decide (an<0)):=by
 have e:=addS_same (a:=an.natAbs) (d:=ad.natAbs) (b:=bn.natAbs) (e:=bd.natAbs) (decide (an<0))
 have e1:=sign_form an
 have e2:=sign_form bn
 rw [←hs]at e2
 rw [←e1,←e2,show((ad.natAbs:Nat):Int)=ad by omega,show((bd.natAbs:Nat):Int)=bd by omega]at e
 rw [e]
 generalize an.natAbs*bd.natAbs+bn.natAbs*ad.natAbs=N at *
 by_cases h:an<0
 ·simp [h];omega
 ·simp [h]
theorem add_diff{an ad bn bd:Int}(h1:1≤ad)(h2:1≤bd)(hs:decide (an<0)≠decide (bn<0)) :
 (an.natAbs*bd.natAbs<bn.natAbs*ad.natAbs→(addS an ad bn bd).natAbs=bn.natAbs*ad.natAbs-an.natAbs*bd.natAbs∧((addS an ad bn bd).natAbs=0∨decide (addS an ad bn bd<0)=decide (bn<0)))∧
 (bn.natAbs*ad.natAbs≤an.natAbs*bd.natAbs→(addS an ad bn bd).natAbs=an.natAbs*bd.natAbs-bn.natAbs*ad.natAbs∧((addS an ad bn bd).natAbs=0∨decide (addS an ad bn bd<0)=decide (an<0))):=by
 have e:=addS_diff (a:=an.natAbs) (d:=ad.natAbs) (b:=bn.natAbs) (e:=bd.natAbs) (decide (an<0))
 have e1:=sign_form an
 have e2:=sign_form bn
 rw [←e1,show((ad.natAbs:Nat):Int)=ad by omega,show((bd.natAbs:Nat):Int)=bd by omega]at e
 have e3:(if decide (an<0)=true then(bn.natAbs:Int)else -(bn.natAbs:Int))=bn:=by
  clear e e1 e2
  by_cases c1:an<0<;>by_cases c2:bn<0<;>simp [c1,c2]at hs ⊢<;>omega
 rw [e3]at e
 rw [e]
 generalize an.natAbs*bd.natAbs=M at *
 generalize bn.natAbs*ad.natAbs=N at *
 clear e e1 e2 e3
 by_cases c1:an<0<;>by_cases c2:bn<0<;>simp [c1,c2]at hs ⊢<;>omega

theorem frac_eq{an ad bn bd:Int}(ha:vfrac an ad=true)(hb:vfrac bn bd=true)(h:an*bd=bn*ad):an=bn∧ad=bd:=by
 have p:=vfrac_prime ha
 have q:=vfrac_prime hb
 have h1:=vfrac_bd ha
 have h2:=vfrac_bd hb
 exact fz23
theorem prdX_pos{n k m h:Nat}(h1:0<n)(h2:0<m):0<prdX n k m h:=by
 unfold prdX
 exact Nat.mul_pos (Nat.div_pos (Nat.gcd_le_left _ h1) (Nat.gcd_pos_of_pos_left _ h1)) (Nat.div_pos (Nat.gcd_le_left _ h2) (Nat.gcd_pos_of_pos_left _ h2))
theorem prd_prime{n d m k:Nat}(hd:0<d)(hk:0<k)(p:Nat.Coprime n d)(q:Nat.Coprime m k):Nat.Coprime (prdX n k m d) (prdX d m k n):=by
 unfold prdX
 have g1:0<Nat.gcd n k:=Nat.gcd_pos_of_pos_right _ hk
 have g2:0<Nat.gcd m d:=Nat.gcd_pos_of_pos_right _ hd
 have a1:=Nat.coprime_div_gcd_div_gcd g1
 have a2:=Nat.coprime_div_gcd_div_gcd g2
 rw [Nat.gcd_comm d m,Nat.gcd_comm k n]
 have dv (x y:Nat):x / Nat.gcd x y ∣ x:=Nat.div_dvd_of_dvd (Nat.gcd_dvd_left x y)
 have dw (x y:Nat):y / Nat.gcd x y ∣ y:=Nat.div_dvd_of_dvd (Nat.gcd_dvd_right x y)
 refine Nat.Coprime.mul_left (Nat.Coprime.mul_right ?_ a1) (Nat.Coprime.mul_right a2 ?_)
 ·exact Nat.Coprime.coprime_dvd_left (dv n k) (Nat.Coprime.coprime_dvd_right (dw m d) p)
 ·exact Nat.Coprime.coprime_dvd_left (dv m d) (Nat.Coprime.coprime_dvd_right (dw n k) q)
def okF(r:Int × Int × Int):Prop:=(r.2.2=0∧vfrac r.1 r.2.1=true)∨(r.1=0∧r.2.1=0∧(r.2.2=2∨r.2.2=3))
theorem prdF_ok{n d m k:Nat}(b:Bool)(hd:0<d)(hk:0<k)(p:Nat.Coprime n d)(q:Nat.Coprime m k):okF (prdF b n d m k):=by
 unfold prdF
 split<;>rename_i hc
 ·exact .inr ⟨rfl,rfl,.inl rfl⟩
 ·have h1:=prdX_pos (k:=m) (h:=n) hd hk
  exact .inl ⟨rfl,vfrac_nat b (by omega) (by omega) (by omega) (prd_prime hd hk p q)⟩
theorem addF_ok{an ad bn bd:Int}(ha:vfrac an ad=true)(hb:vfrac bn bd=true):okF (addF an ad bn bd):=by
 have h1:=vfrac_bd ha
 have h2:=vfrac_bd hb
 unfold addF
 rw [ha,hb]
 simp only [Bool.and_self,if_true]
 have hd:0<ad.natAbs*bd.natAbs:=Nat.mul_pos (by omega) (by omega)
 rcases lowE_cases (addS an ad bn bd).natAbs (ad.natAbs*bd.natAbs)with h|h
 ·exact .inl ⟨h,low_ok _ hd h⟩
 ·have h3:=low_bad (decide (addS an ad bn bd<0)) (show lowE (addS an ad bn bd).natAbs (ad.natAbs*bd.natAbs)≠0 by omega)
  exact .inr ⟨h3.1,h3.2,.inl h⟩
theorem subF_ok{an ad bn bd:Int}(ha:vfrac an ad=true)(hb:vfrac bn bd=true):okF (subF an ad bn bd):=by
 unfold subF
 rw [hb]
 exact addF_ok ha (by rw [vfrac_neg];exact hb)
theorem mulF_ok{an ad bn bd:Int}(ha:vfrac an ad=true)(hb:vfrac bn bd=true):okF (mulF an ad bn bd):=by
 have h1:=vfrac_bd ha
 have h2:=vfrac_bd hb
 unfold mulF
 rw [ha,hb]
 exact prdF_ok _ (by omega) (by omega) (vfrac_prime ha) (vfrac_prime hb)
theorem divF_ok{an ad bn bd:Int}(ha:vfrac an ad=true)(hb:vfrac bn bd=true):okF (divF an ad bn bd):=by
 have h1:=vfrac_bd ha
 have h2:=vfrac_bd hb
 unfold divF
 rw [ha,hb]
 simp only [Bool.and_self,if_true]
 split<;>rename_i hc
 ·exact .inr ⟨rfl,rfl,.inr rfl⟩
 ·exact prdF_ok _ (by omega) (by omega) (vfrac_prime ha) (vfrac_prime hb).symm
theorem floor_mod{n d:Int}(h:1≤d):(if n.tmod d<0 then n.tdiv d-1 else n.tdiv d)=n / d:=by
 have e1:=Int.mul_tdiv_add_tmod n d
 have hb:=Int.tmod_lt_of_pos n (show 0<d by omega)
 have hc:=Int.tmod_lt_of_pos (-n) (show 0<d by omega)
 rw [Int.neg_tmod]at hc
 symm
 split
 ·exact((Int.ediv_emod_unique (r:=n.tmod d+d) (q:=n.tdiv d-1) (show 0<d by omega)).2 ⟨by rw [Int.mul_sub];omega,by omega,by omega⟩).1
 ·exact((Int.ediv_emod_unique (r:=n.tmod d) (q:=n.tdiv d) (show 0<d by omega)).2 ⟨by omega,by omega,by omega⟩).1
theorem floor_mul{n d:Int}(h:1≤d):(if n<n.tdiv d*d then n.tdiv d-1 else n.tdiv d)=n / d:=by
 have e1:=Int.mul_tdiv_add_tmod n d
 rw [←floor_mod h]
 rw [Int.mul_comm]at e1
 by_cases c:n.tmod d<0
 ·rw [if_pos c,if_pos (by omega)]
 ·rw [if_neg c,if_neg (by omega)]
theorem cmp_diff{an ad bn bd:Int}(h1:1≤ad)(h2:1≤bd)(h:decide (an<0)≠decide (bn<0)):cmpI an ad bn bd=if an<0 then -1 else 1:=by
 unfold cmpI
 by_cases c:an<0
 ·have hb:0≤bn:=by simp [c]at h;omega
  have k1:an*bd<0:=Int.mul_neg_of_neg_of_pos c (by omega)
  have k2:0≤bn*ad:=Int.mul_nonneg hb (by omega)
  rw [if_pos (by omega),if_pos c]
 ·have hb:bn<0:=by simp [c]at h;omega
  have k1:bn*ad<0:=Int.mul_neg_of_neg_of_pos hb (by omega)
  have k2:0≤an*bd:=Int.mul_nonneg (by omega) (by omega)
  rw [if_neg (by omega),if_pos (by omega),if_neg c]
theorem abs_mul{a d:Int}(h:1≤d):a*d=if a<0 then -((a.natAbs*d.natAbs:Nat):Int)else((a.natAbs*d.natAbs:Nat):Int):=by
 rw [Int.natCast_mul]
 have hd:((d.natAbs:Nat):Int)=d:=by omega
 rw [hd]
 split
 ·rw [←Int.neg_mul];congr 1;omega
 ·congr 1;omega
theorem cmp_same{an ad bn bd:Int}(h1:1≤ad)(h2:1≤bd)(h:decide (an<0)=decide (bn<0)) :
 cmpI an ad bn bd=if an<0 then(if bn.natAbs*ad.natAbs<an.natAbs*bd.natAbs then -1 else if an.natAbs*bd.natAbs<bn.natAbs*ad.natAbs then 1 else 0)
  else(if an.natAbs*bd.natAbs<bn.natAbs*ad.natAbs then -1 else if bn.natAbs*ad.natAbs<an.natAbs*bd.natAbs then 1 else 0):=by
 unfold cmpI
 rw [abs_mul (a:=an) h2,abs_mul (a:=bn) h1]
 generalize an.natAbs*bd.natAbs=X
 generalize bn.natAbs*ad.natAbs=Y
 by_cases c:an<0
 ·have hb:bn<0:=by simpa [c]using h
  rw [if_pos c,if_pos hb,if_pos c]
  split<;>rename_i q<;>split<;>first|omega|(split<;>first|omega|(split<;>omega))
 ·have hb:¬bn<0:=by simpa [c]using h
  rw [if_neg c,if_neg hb,if_neg c]
  split<;>rename_i q<;>split<;>first|omega|(split<;>first|omega|(split<;>omega))
end Go.Proofs.YtfoefpoaomepbaaGreatDoor
namespace Go.Proofs.YtfoefpoaomepbaaGreatDoor
open Go.RowKit
theorem Size2_walk(S:Nat→Prop)(n:Nat):∀(e:Ex),e.size≤n→∀(v:Value) (w:World),RepE S w e v→Hid (e.size≤2305843009213693952)→
 Calls Tryz.prog 85 #[exV e v] w fun r w'=>r= .returned (.int .i64 (e.size:Nat))∧w.Grows w':=by
 induction n with
 |zero=>intro e he;have:=e.size_pos;omega
 |succ n ih=>
  intro e he v w h hbig
  have IH:=Lib.hid ih
  clear ih
  cases h with
  |mk _ a cap vs hr hc hs=>
   have hlen:=hr.len
   have Hs:=Lib.hid hs
   have He:=Lib.hid he
   have Hc:=Lib.hid hc
   clear hr hs he hc
   go_enter Tryz.func85,Tryz.ntmps85
   go_wp2_with fail
   go_loopw [3,9] (fun v3 v4 wr=>∃k:Nat,k≤e.args.length∧v3= .int .i64 (szT e k)∧v4= .int .i64 k∧
    World.Grows (w.alloc (.cells #[.int .i64 e.op,.int .i64 e.num,.int .i64 e.den,.int .i64 e.dim,.string e.name,.slice a e.args.length cap] 27)) wr) (fun _ v4 _=>e.args.length-(intOf v4).toNat)
   case atStart=>exact⟨0,by omega,by rw [szT_zero],rfl,.refl _⟩
   case round=>
    obtain⟨k,hk,rfl,rfl,bs,d,rfl⟩:=hrel
    have hb:=szT_bd e k
    have hb0:1≤szT e k:=hb.1
    have hb1:szT e k≤2305843009213693952:=by have:=hbig.out;omega
    clear hb
    by_cases hlt:k<e.args.length
    ·rcases Hc.out with h0|⟨b,off,rfl,hS,hbw,hx⟩
     ·omega
     ·obtain⟨x0,x1,x2,x3,x4,x5⟩:=hx k hlt
      clear hx
      have hR:=Hs.out k hlt
      obtain⟨ak,ck,hvk⟩:=hR.form0
      rw [hvk]at x5 hR
      have HR:=Lib.hid hR
      clear hR hvk
      have hlt1:(k:Int)<(e.args.length:Int):=by omega
      have HN:=Lib.hid (szT_succ e k hlt)
      have HA:=Lib.hid (e.size_arg k hlt)
      have hs1:((e.arg k).size:Int)≤2305843009213693952:=by have:=hbig.out;have:=HA.out;omega
      go_wp2_with fail
      refine(IH.out (e.arg k) (by have:=He.out;have:=HA.out;omega) (.slice ak _ ck) _ (((HR.out.alloc _).grow _ _).alloc _) (by have:=hbig.out;have:=HA.out;show _≤_;omega)).mono ?_
      rintro r w' ⟨rfl,bs2,d2,rfl⟩
      go_wp2_with fail
      go_roundw
      case rel=>exact⟨k+1,by omega,by rw [HN.out],by go_num,.of_below belB⟩
      case measure=>simp [intOf];omega
    ·have HN:=Lib.hid (szT_all e k (by omega))
     obtain rfl:k=e.args.length:=by omega
     go_wp2_with fail
     go_returns
     exact⟨ret_int HN.out,.of_below belB⟩

theorem Depth2_walk(S:Nat→Prop)(n:Nat):∀(e:Ex),e.size≤n→∀(v:Value) (w:World),RepE S w e v→Hid (e.size≤2305843009213693952)→
 Calls Tryz.prog 84 #[exV e v] w fun r w'=>r= .returned (.int .i64 (e.depth:Nat))∧w.Grows w':=by
 induction n with
 |zero=>intro e he;have:=e.size_pos;omega
 |succ n ih=>
  intro e he v w h hbig
  have IH:=Lib.hid ih
  clear ih
  cases h with
  |mk _ a cap vs hr hc hs=>
   have hlen:=hr.len
   have Hs:=Lib.hid hs
   have He:=Lib.hid he
   have Hc:=Lib.hid hc
   clear hr hs he hc
   go_enter Tryz.func84,Tryz.ntmps84
   go_wp2_with fail
   go_loopw [3,9] (fun v3 v4 wr=>∃k:Nat,k≤e.args.length∧v3= .int .i64 (dpT e k)∧v4= .int .i64 k∧
    World.Grows (w.alloc (.cells #[.int .i64 e.op,.int .i64 e.num,.int .i64 e.den,.int .i64 e.dim,.string e.name,.slice a e.args.length cap] 27)) wr) (fun _ v4 _=>e.args.length-(intOf v4).toNat)
   case atStart=>exact⟨0,by omega,by rw [dpT_zero],rfl,.refl _⟩
   case round=>
    obtain⟨k,hk,rfl,rfl,bs,d,rfl⟩:=hrel
    have hb:=dpT_bd e k
    have hb0:0≤dpT e k:=hb.1
    have hb1:dpT e k≤2305843009213693952:=by have:=hbig.out;omega
    clear hb
    by_cases hlt:k<e.args.length
    ·rcases Hc.out with h0|⟨b,off,rfl,hS,hbw,hx⟩
     ·omega
     ·obtain⟨x0,x1,x2,x3,x4,x5⟩:=hx k hlt
      clear hx
      have hR:=Hs.out k hlt
      obtain⟨ak,ck,hvk⟩:=hR.form0
      rw [hvk]at x5 hR
      have HR:=Lib.hid hR
      clear hR hvk
      have hlt1:(k:Int)<(e.args.length:Int):=by omega
      have HN:=Lib.hid (dpT_succ e k hlt)
      have HA:=Lib.hid (e.size_arg k hlt)
      have hs1:((e.arg k).depth:Int)≤2305843009213693952:=by have:=hbig.out;have:=HA.out;have:=(e.arg k).depth_size;omega
      go_wp2_with fail
      refine(IH.out (e.arg k) (by have:=He.out;have:=HA.out;omega) (.slice ak _ ck) _ (((HR.out.alloc _).grow _ _).alloc _) (by have:=hbig.out;have:=HA.out;show _≤_;omega)).mono ?_
      rintro r w' ⟨rfl,bs2,d2,rfl⟩
      go_wp2_with fail
      go_roundw
      case rel=>exact⟨k+1,by omega,by rw [HN.out],by go_num,.of_below belB⟩
      case measure=>simp [intOf];omega
    ·have HN:=Lib.hid (dpT_all e k (by omega))
     obtain rfl:k=e.args.length:=by omega
     go_wp2_with fail
     go_returns
     exact⟨ret_int HN.out,.of_below belB⟩
theorem lower2_any(c:Int)(w:World):Calls Tryz.prog 209 #[.int .u8 c] w fun e w'=>e= .returned (.bool (lowc c))∧w=w':=by
 by_cases c1:97≤c
 ·by_cases c2:c≤122
  ·go_enter Tryz.func209,Tryz.ntmps209
   go_wp2
   go_returns
   exact⟨ret_bool (by simp [lowc,c1,c2]),rfl⟩
  ·go_enter Tryz.func209,Tryz.ntmps209
   exact fz45
 ·go_enter Tryz.func209,Tryz.ntmps209
  exact fz45
theorem digit2_any(c:Int)(w:World):Calls Tryz.prog 213 #[.int .u8 c] w fun e w'=>e= .returned (.bool (digc c))∧w=w':=by
 by_cases c1:48≤c
 ·by_cases c2:c≤57
  ·go_enter Tryz.func213,Tryz.ntmps213
   go_wp2
   go_returns
   exact⟨ret_bool (by simp [digc,c1,c2]),rfl⟩
  ·go_enter Tryz.func213,Tryz.ntmps213
   exact fz46
 ·go_enter Tryz.func213,Tryz.ntmps213
  exact fz46
def inwC(c:Int):Bool:=lowc c || (digc c || decide (c=95))
theorem inWord2_any(c:Int)(w:World):Calls Tryz.prog 210 #[.int .u8 c] w fun e w'=>e= .returned (.bool (inwC c))∧w=w':=by
 cases hL:lowc c
 ·cases hD:digc c
  ·by_cases hU:c=95
   ·subst hU
    go_enter Tryz.func210,Tryz.ntmps210
    go_wp2_with ((first|(go_at_call 209;(with_reducible refine(lower2_any _ _).mono ?_);rintro e w' ⟨rfl,rfl⟩;simp only [hL])|(go_at_call 213;(with_reducible refine(digit2_any _ _).mono ?_);rintro e w' ⟨rfl,rfl⟩;simp only [hD])))
    go_returns
    exact⟨ret_bool (by simp [inwC]),rfl⟩
   ·have hU2:(c==95)=false:=by simpa using hU
    go_enter Tryz.func210,Tryz.ntmps210
    go_wp2_with ((first|(go_at_call 209;(with_reducible refine(lower2_any _ _).mono ?_);rintro e w' ⟨rfl,rfl⟩;simp only [hL])|(go_at_call 213;(with_reducible refine(digit2_any _ _).mono ?_);rintro e w' ⟨rfl,rfl⟩;simp only [hD])))
    go_returns
    exact⟨ret_bool (by simp [inwC,hL,hD,hU]),rfl⟩
  ·go_enter Tryz.func210,Tryz.ntmps210
   go_wp2_with ((first|(go_at_call 209;(with_reducible refine(lower2_any _ _).mono ?_);rintro e w' ⟨rfl,rfl⟩;simp only [hL])|(go_at_call 213;(with_reducible refine(digit2_any _ _).mono ?_);rintro e w' ⟨rfl,rfl⟩;simp only [hD])))
   go_returns
   exact⟨ret_bool (by simp [inwC,hD]),rfl⟩
 ·go_enter Tryz.func210,Tryz.ntmps210
  go_wp2_with ((first|(go_at_call 209;(with_reducible refine(lower2_any _ _).mono ?_);rintro e w' ⟨rfl,rfl⟩;simp only [hL])|(go_at_call 213;(with_reducible refine(digit2_any _ _).mono ?_);rintro e w' ⟨rfl,rfl⟩;simp only [hD])))
  go_returns
  exact⟨ret_bool (by simp [inwC,hL]),rfl⟩
theorem wordC_in{k:Nat}{c:Int}(h:inwC c=false):wordC k c=false:=by
 simp only [inwC,Bool.or_eq_false_iff]at h
 simp [wordC,h.1,h.2.1,h.2.2]
theorem wordC_of{k:Nat}{c:Int}(h:inwC c=true)(h0:k=0→lowc c=true):wordC k c=true:=by
 unfold wordC
 by_cases e:k=0
 ·simp [h0 e]
 ·have:(k !=0)=true:=by simpa using e
  rw [this,Bool.true_and];exact h
theorem IsWord2_any(s:ByteArray)(w:World)(hs:s.size≤maxLen):Calls Tryz.prog 200 #[.string s] w fun e w'=>e= .returned (.bool (isWord s))∧w=w':=by
 unfold maxLen at hs
 have hI:True:=trivial
 by_cases c1:1≤s.size
 ·by_cases c2:s.size≤12
  ·have c3:0<s.size:=by omega
   cases hL:lowc (s[0].toNat:Int)
   ·go_enter Tryz.func200,Tryz.ntmps200
    go_wp2_with ((first|(go_at_call 209;(with_reducible refine(lower2_any _ _).mono ?_);rintro e w' ⟨rfl,rfl⟩;simp only [hL])|(go_at_call 210;(with_reducible refine(inWord2_any _ _).mono ?_);rintro e w' ⟨rfl,rfl⟩;simp only [hI])))
    go_ret
    exact⟨ret_bool (isWord_no s 0 (by omega) (by simp [wordC,hL])).symm,rfl⟩
   ·go_enter Tryz.func200,Tryz.ntmps200
    go_wp2_with ((first|(go_at_call 209;(with_reducible refine(lower2_any _ _).mono ?_);rintro e w' ⟨rfl,rfl⟩;simp only [hL])|(go_at_call 210;(with_reducible refine(inWord2_any _ _).mono ?_);rintro e w' ⟨rfl,rfl⟩;simp only [hI])))
    go_loop [3] (fun i=>∃k:Nat,k≤s.size∧i= .int .i64 k∧∀j,j<k→wordC j (byt s j)=true) (fun i=>s.size-(intOf i).toNat)
    case atStart=>exact⟨0,Nat.zero_le _,rfl,fun j hj=>absurd hj (Nat.not_lt_zero _)⟩
    case round=>
     obtain⟨k,hk,rfl,hall⟩:=hrel
     by_cases hk2:k<s.size
     ·clear hI
      cases hI:inwC (s[k].toNat:Int)
      ·go_wp2_with ((first|(go_at_call 209;(with_reducible refine(lower2_any _ _).mono ?_);rintro e w' ⟨rfl,rfl⟩;simp only [hL])|(go_at_call 210;(with_reducible refine(inWord2_any _ _).mono ?_);rintro e w' ⟨rfl,rfl⟩;simp only [hI])))
       go_ret
       exact⟨ret_bool (isWord_no s k hk2 (wordC_in hI)).symm,rfl⟩
      ·go_wp2_with ((first|(go_at_call 209;(with_reducible refine(lower2_any _ _).mono ?_);rintro e w' ⟨rfl,rfl⟩;simp only [hL])|(go_at_call 210;(with_reducible refine(inWord2_any _ _).mono ?_);rintro e w' ⟨rfl,rfl⟩;simp only [hI])))
       go_round
       case rel=>exact⟨k+1,by omega,by go_num,fun i hi=>by
        by_cases e:i=k
        ·subst e;rw [byt_eq s i hk2];exact wordC_of hI (fun e0=>by subst e0;exact hL)
        ·exact hall i (by omega)⟩
       case measure=>simp [intOf];omega
     ·have:k=s.size:=by omega
      subst this
      go_wp2_with fail
      go_ret
      exact⟨ret_bool (by rw [isWord_all s hall];simp [c1,c2]),rfl⟩
  ·have hL:True:=trivial
   have hw:isWord s=false:=by unfold isWord;rw [decide_eq_false c2,Bool.and_false]
   have c4:12<(s.size:Int):=by omega
   exact fz30
 ·have hL:True:=trivial
  have hw:isWord s=false:=by unfold isWord;rw [decide_eq_false c1,Bool.and_false,Bool.false_and]
  have c4:(s.size:Int)<1:=by omega
  exact fz30
theorem keyword2_any(s:ByteArray)(w:World):Calls Tryz.prog 201 #[.string s] w fun e w'=>e= .returned (.bool (keyB s))∧w=w':=by
 go_enter Tryz.func201,Tryz.ntmps201
 exact fz66
theorem isName2_any(s:ByteArray)(w:World)(hs:s.size≤maxLen):Calls Tryz.prog 173 #[.string s] w fun e w'=>e= .returned (.bool (nameB s))∧w=w':=by
 cases hW:isWord s<;>
 ·go_enter Tryz.func173,Tryz.ntmps173
  go_wp2_with (first|(go_at_call 200;(with_reducible refine(IsWord2_any _ _ (by assumption)).mono ?_);rintro e w' ⟨rfl,rfl⟩;simp only [hW])|(go_at_call 201;(with_reducible refine(keyword2_any _ _).mono ?_);rintro e w' ⟨rfl,rfl⟩))
  go_returns
  exact⟨ret_bool (by simp [nameB,hW]),rfl⟩
theorem arity2_any(op:Int)(w:World):Calls Tryz.prog 172 #[.int .i64 op] w fun e w'=>e= .returned (.int .i64 (argsN op))∧w=w':=by
 go_enter Tryz.func172,Tryz.ntmps172
 go_wp2
 all_goals
  go_returns
  exact⟨ret_int (by unfold argsN;(repeat' split)<;>first|omega|(simp_all;done)|(simp_all;omega)),rfl⟩
end Go.Proofs.YtfoefpoaomepbaaGreatDoor
