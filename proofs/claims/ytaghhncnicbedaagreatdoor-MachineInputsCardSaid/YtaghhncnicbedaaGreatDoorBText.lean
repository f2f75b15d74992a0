import Derived.Test.YtaghhncnicbedaaGreatDoorBWide
import Derived.Test.YtaghhncnicbedaaGreatDoorBK
set_option linter.all false
set_option maxHeartbeats 16000000
set_option maxRecDepth 1000000
namespace Go.Proofs.YtaghhncnicbedaaGreatDoor
open Go.RowKit

def tenS:ByteArray:=⟨#[48,49,50,51,52,53,54,55,56,57]⟩
def digG:Nat→Int→Nat→ByteArray→ByteArray
 |0,_,_,s=>s
 |f+1,n,l,s=>if 0<n∨s.size<l then digG f (n / 10) l (tenS.extract (n % 10).toNat (n % 10+1).toNat++s)else s
def digS(n:Int)(l:Nat):ByteArray:=digG (n.toNat+l) n l ByteArray.empty
theorem digG_stop(f:Nat)(n:Int)(l:Nat)(s:ByteArray)(h:¬(0<n∨s.size<l)):digG f n l s=s:=by
 cases f with
 |zero=>rfl
 |succ f=>simp only [digG,if_neg h]
theorem digG_go(f:Nat)(n:Int)(l:Nat)(s:ByteArray)(h:0<n∨s.size<l)(hf:n.toNat+(l-s.size)≤f) :
 digG f n l s=digG (f-1) (n / 10) l (tenS.extract (n % 10).toNat (n % 10+1).toNat++s):=by
 cases f with
 |zero=>omega
 |succ f=>simp only [digG,if_pos h];rfl
theorem tenS_size:tenS.size=10:=rfl
theorem ten_piece(m:Int)(s:ByteArray):(tenS.extract (m % 10).toNat (m % 10+1).toNat++s).size=s.size+1:=by
 rw [ByteArray.size_append,ByteArray.size_extract,tenS_size];omega
theorem digG_size:∀(f:Nat) (n:Int) (l:Nat) (s:ByteArray),0≤n→(digG f n l s).size≤s.size+n.toNat+(l-s.size)
 |0,_,_,_,_=>by simp only [digG];omega
 |f+1,n,l,s,h=>by
  simp only [digG]
  split
  ·have:=digG_size f (n / 10) l (tenS.extract (n % 10).toNat (n % 10+1).toNat++s) (by omega)
   rw [ten_piece]at this
   omega
  ·omega
theorem digS_size(n:Int)(l:Nat)(h:0≤n):(digS n l).size≤n.toNat+l:=by
 have:=digG_size (n.toNat+l) n l ByteArray.empty h
 have e:ByteArray.empty.size=0:=rfl
 unfold digS;omega
theorem digits1_any(n:Int)(l:Nat)(w:World)(h0:0≤n)(h1:n≤9223372036854775807)(hl:l≤4):Calls Tryz.prog 217 #[.int .i64 n,.int .i64 l] w fun e w'=>e= .returned (.string (digS n l))∧w=w':=by
 go_enter Tryz.func217,Tryz.ntmps217
 go_wp2
 go_loop [0,5] (fun a b=>∃m:Int,∃s:ByteArray,∃f:Nat,0≤m∧(s.size:Int)+m≤9223372036854775807∧a= .int .i64 m∧b= .string s∧m.toNat+(l-s.size)≤f∧Hid (digG f m l s=digS n l)) (fun a b=>(intOf a).toNat+(l-(match b with| .string s=>s.size|_=>0)))
 case atStart=>exact⟨n,_,n.toNat+l,h0,by show((0:Nat):Int)+n≤_;omega,rfl,rfl,by omega,Lib.hid rfl⟩
 case round=>
  obtain⟨m,s,f,hm0,hm1,rfl,rfl,hf,hg⟩:=hrel
  have hr:0≤m % 10∧m % 10<10:=by omega
  have hpc:Hid (_):=Lib.hid (ten_piece m s)
  by_cases hp:0<m
  ·go_wp2
   go_round
   case rel=>exact⟨m / 10,_,f-1,by omega,by rw [show({data:=#[48,49,50,51,52,53,54,55,56,57]}:ByteArray)=tenS from rfl,hpc.out];omega,rfl,rfl,by rw [show({data:=#[48,49,50,51,52,53,54,55,56,57]}:ByteArray)=tenS from rfl,hpc.out];omega,Lib.hid (by rw [←hg.out,digG_go f m l s (.inl hp) hf];rfl)⟩
   case measure=>
    exact bz52
  ·by_cases hq:s.size<l
   ·go_wp2
    go_round
    case rel=>exact⟨m / 10,_,f-1,by omega,by rw [show({data:=#[48,49,50,51,52,53,54,55,56,57]}:ByteArray)=tenS from rfl,hpc.out];omega,rfl,rfl,by rw [show({data:=#[48,49,50,51,52,53,54,55,56,57]}:ByteArray)=tenS from rfl,hpc.out];omega,Lib.hid (by rw [←hg.out,digG_go f m l s (.inr hq) hf];rfl)⟩
    case measure=>
     exact bz52
   ·go_wp2
    go_returns
    exact⟨by rw [←hg.out,digG_stop f m l s (by omega)];rfl,rfl⟩

theorem ret_str{a b:ByteArray}(h:a=b):Ending.returned (.string a)= .returned (.string b):=by rw [h]
def fracS(n d:Int):ByteArray:=
 if vfrac n d=true then
  if n<0 then(if d=1 then⟨#[45]⟩++digS (absI n) 1 else⟨#[45]⟩++digS (absI n) 1++⟨#[47]⟩++digS d 1)
  else(if d=1 then digS (absI n) 1 else digS (absI n) 1++⟨#[47]⟩++digS d 1)
 else⟨#[]⟩
theorem digits1_one(n:Int)(w:World)(h0:0≤n)(h1:n≤9223372036854775807):Calls Tryz.prog 217 #[.int .i64 n,.int .i64 1] w fun e w'=>e= .returned (.string (digS n 1))∧w=w':=
 digits1_any n 1 w h0 h1 (by omega)
theorem fracS_no(n d:Int)(h:vfrac n d=false):fracS n d=⟨#[]⟩:=by simp [fracS,h]
theorem FormatFraction_any(n d:Int)(w:World)(h1:-9223372036854775808≤n)(h2:n≤9223372036854775807)(h3:-9223372036854775808≤d)(h4:d≤9223372036854775807):Calls Tryz.prog 193 #[.agg #[.int .i64 n,.int .i64 d]] w fun e w'=>e= .returned (.string (fracS n d))∧w.Grows w':=by
 cases hv:vfrac n d
 ·go_enter Tryz.func193,Tryz.ntmps193
  go_wp2_with ((first|(go_at_call 60;(with_reducible refine(Valid1_any _ _ _ (by omega) (by omega) (by omega) (by omega)).mono ?_);rintro e w' ⟨rfl,bs,dr,rfl⟩;simp only [hv])|(go_at_call 62;(with_reducible refine(size1_any _ _ (by omega) (by omega)).mono ?_);rintro e w' ⟨rfl,rfl⟩)|(go_at_call 217;(with_reducible refine(digits1_one _ _ (by omega) (by omega)).mono ?_);rintro e w' ⟨rfl,rfl⟩)))
  go_returns
  exact⟨ret_str (fracS_no n d hv).symm,.of_below belB⟩
 ·have⟨b1,b2,b3,b4⟩:=vfrac_bd hv
  have a0:0≤absI n:=by unfold absI;omega
  have a1:absI n≤1000000000000000:=by unfold absI;omega
  have e1:IntKind.i64.wrap (absI n)=absI n:=IntWalk.i64_in _ (by omega)
  have z1:((digS (absI n) 1).size:Int)≤1000000000000001:=by have:=digS_size (absI n) 1 a0;omega
  have z2:((digS d 1).size:Int)≤1000000001:=by have:=digS_size d 1 (by omega);omega
  by_cases cn:n<0
  ·exact bz13
  ·exact bz13
end Go.Proofs.YtaghhncnicbedaaGreatDoor
