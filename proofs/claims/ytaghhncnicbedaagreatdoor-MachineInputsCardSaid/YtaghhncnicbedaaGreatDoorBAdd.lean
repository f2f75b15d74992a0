import Derived.Test.YtaghhncnicbedaaGreatDoorBWide
set_option linter.all false
set_option maxHeartbeats 16000000
set_option maxRecDepth 1000000
namespace Go.Proofs.YtaghhncnicbedaaGreatDoor
open Go.RowKit
def carryW(a b:Nat):Int:=((a % 18446744073709551616+b % 18446744073709551616) / 18446744073709551616:Nat)
theorem add64_run(a b:Nat)(w:World):(callFunc 191 #[.int .u64 (loW a),.int .u64 (loW b),.int .u64 0]).run Tryz.prog w= .ok (.value (.tuple #[.int .u64 (loW (a+b)),.int .u64 (carryW a b)])) w:=by
 rw [run_callFunc_extern Tryz.func191 (by kernel_rfl) (by kernel_rfl) (by kernel_rfl) (e:=add64Entry) (by kernel_rfl)]
 unfold loW carryW
 have h:=run_add64 (P:=Tryz.prog) (w:=w) ((a % 18446744073709551616:Nat):Int) ((b % 18446744073709551616:Nat):Int) 0 (by omega) (by omega) (by omega) (by omega)
 have e1:(((a % 18446744073709551616:Nat):Int)+((b % 18446744073709551616:Nat):Int)+0) % 18446744073709551616=(((a+b) % 18446744073709551616:Nat):Int):=by omega
 have e2:(((a % 18446744073709551616:Nat):Int)+((b % 18446744073709551616:Nat):Int)+0) / 18446744073709551616=(((a % 18446744073709551616+b % 18446744073709551616) / 18446744073709551616:Nat):Int):=by omega
 rw [e1,e2]at h
 rw [h]
 rfl

theorem hi_plus(a b:Nat)(h:a+b<340282366920938463463374607431768211456):IntKind.u64.wrap (IntKind.u64.wrap (hiW a+hiW b)+carryW a b)=hiW (a+b):=by
 simp only [IntKind.wrap_u64]
 unfold hiW carryW
 omega

theorem plus1_any(a b:Nat)(w:World)(h:a+b<340282366920938463463374607431768211456) :
 Calls Tryz.prog 156 #[.agg #[.int .u64 (hiW a),.int .u64 (loW a)],.agg #[.int .u64 (hiW b),.int .u64 (loW b)]] w fun e w'=>e= .returned (.agg #[.int .u64 (hiW (a+b)),.int .u64 (loW (a+b))])∧w.Grows w':=by
 have ha:=add64_run a b
 have hp:=Lib.hid (hi_plus a b h)
 clear h
 generalize hA:hiW a=A at *
 generalize hB:hiW b=B at *
 generalize loW a=La at *
 generalize loW b=Lb at *
 generalize hiW (a+b)=S at *
 generalize loW (a+b)=T at *
 generalize carryW a b=c at *
 clear hA hB
 go_enter Tryz.func156,Tryz.ntmps156
 go_wp2_with fail
 go_returns
 exact⟨by rw [hp.out],.of_below belB⟩
end Go.Proofs.YtaghhncnicbedaaGreatDoor
