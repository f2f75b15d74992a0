import Derived.Test.YtfoefpoaomepbaaGreatDoorFWide
set_option linter.all false
set_option maxHeartbeats 16000000
set_option maxRecDepth 1000000
namespace Go.Proofs.YtfoefpoaomepbaaGreatDoor
open Go.RowKit
def carryW(a b:Nat):Int:=((a % 18446744073709551616+b % 18446744073709551616) / 18446744073709551616:Nat)
theorem add64_run(a b:Nat)(w:World):(callFunc 193 #[.int .u64 (loW a),.int .u64 (loW b),.int .u64 0]).run Tryz.prog w= .ok (.value (.tuple #[.int .u64 (loW (a+b)),.int .u64 (carryW a b)])) w:=by
 rw [run_callFunc_extern Tryz.func193 (by kernel_rfl) (by kernel_rfl) (by kernel_rfl) (e:=add64Entry) (by kernel_rfl)]
 unfold loW carryW
 have h:=run_add64 (P:=Tryz.prog) (w:=w) ((a % 18446744073709551616:Nat):Int) ((b % 18446744073709551616:Nat):Int) 0 (by omega) (by omega) (by omega) (by omega)
 have e1:(((a % 18446744073709551616:Nat):Int)+((b % 18446744073709551616:Nat):Int)+0) % 18446744073709551616=(((a+b) % 18446744073709551616:Nat):Int):=by omega
 have e2:(((a % 18446744073709551616:Nat):Int)+((b % 18446744073709551616:Nat):Int)+0) / 18446744073709551616=(((a % 18446744073709551616+b % 18446744073709551616) / 18446744073709551616:Nat):Int):=by omega
 rw [e1,e2]at h
 rw [h]
 rfl

theorem hi_plus(a b:Nat)(h:a+b<340282366920938463463374607431768211456):IntKind.u64.wrap (IntKind.u64.wrap (hiW a+hiW b)+carryW a b)=hiW (a+b):=by
 simp only [IntKind.wrap_u64]
 unfold hiW carryW
 omega

theorem plus1_any(a b:Nat)(w:World)(h:a+b<340282366920938463463374607431768211456) :
 Calls Tryz.prog 157 #[.agg #[.int .u64 (hiW a),.int .u64 (loW a)],.agg #[.int .u64 (hiW b),.int .u64 (loW b)]] w fun e w'=>e= .returned (.agg #[.int .u64 (hiW (a+b)),.int .u64 (loW (a+b))])∧w.Grows w':=by
 have ha:=add64_run a b
 have hp:=Lib.hid (hi_plus a b h)
 clear h
 generalize hA:hiW a=A at *
 generalize hB:hiW b=B at *
 generalize loW a=La at *
 generalize loW b=Lb at *
 generalize hiW (a+b)=S at *
 generalize loW (a+b)=T at *
 generalize carryW a b=c at *
 clear hA hB
 go_enter Tryz.func157,Tryz.ntmps157
 go_wp2_with fail
 go_returns
 exact⟨by rw [hp.out],.of_below belB⟩
end Go.Proofs.YtfoefpoaomepbaaGreatDoor
namespace Go
theorem Calls.quietG'{P:Program}{f:FuncId}{args:Array Value}{w:World}{b0 bs:Array Obj}{d:Nat}{v:Value}
 (h:Calls P f args (w.grow (b0++bs) d) fun e w'=>e= .returned v∧(w.grow (b0++bs) d).Grows w'):Calls P f args (w.grow (b0++bs) d) fun e w''=>e= .returned v∧∃g:Growth,w''=w.grow (b0++g.bs) g.d:=
 h.mono fun _ _ ⟨he,bs',d',hw⟩=>⟨he,⟨bs++bs',d'⟩,by rw [hw,World.grow_grow,Array.append_assoc]⟩
end Go
namespace Go.Proofs.YtfoefpoaomepbaaGreatDoor
open Go.RowKit
theorem Same_walk(n:Nat):∀(e:Ex),e.size≤n→∀(S S':Nat→Prop) (v v':Value) (w:World),RepE S w e v→RepE S' w e v'→
 Calls Tryz.prog 12 #[exV e v,exV e v'] w fun r w'=>r= .returned (.bool true)∧w.Grows w':=by
 induction n with
 |zero=>intro e he;have:=e.size_pos;omega
 |succ n ih=>
  intro e he S S' v v' w h h'
  have IH:=Lib.hid ih
  clear ih
  cases h with
  |mk _ a cap vs hr hc hs=>
   cases h' with
   |mk _ a2 cap2 vs2 hr2 hc2 hs2=>
    have hlen:=hr.len
    have Hs:=Lib.hid hs
    have He:=Lib.hid he
    have Hc:=Lib.hid hc
    have Hs2:=Lib.hid hs2
    have Hc2:=Lib.hid hc2
    clear hr hs he hc hr2 hs2 hc2
    go_enter Tryz.func12,Tryz.ntmps12
    go_wp2_with fail
    go_loopw [5] (fun v5 wr=>∃k:Nat,k≤e.args.length∧v5= .int .i64 k∧World.Grows ((w.alloc ((.cells #[.int .i64 e.op,.int .i64 e.num,.int .i64 e.den,.int .i64 e.dim,.string e.name,.slice a e.args.length cap] 27))).alloc ((.cells #[.int .i64 e.op,.int .i64 e.num,.int .i64 e.den,.int .i64 e.dim,.string e.name,.slice a2 e.args.length cap2] 27))) wr) (fun v5 _=>e.args.length-(intOf v5).toNat)
    case atStart=>exact⟨0,by omega,rfl,.refl _⟩
    case round=>
     obtain⟨k,hk,rfl,bs,d,rfl⟩:=hrel
     by_cases hlt:k<e.args.length
     ·rcases Hc.out with h0|⟨b,off,rfl,hS,hbw,hx⟩
      ·omega
      ·rcases Hc2.out with h0|⟨b2,off2,rfl,hS2,hbw2,hy⟩
       ·omega
       ·obtain⟨x0,x1,x2,x3,x4,x5⟩:=hx k hlt
        obtain⟨y0,y1,y2,y3,y4,y5⟩:=hy k hlt
        clear hx hy
        have hlt1:(k:Int)<(e.args.length:Int):=by omega
        have HA:=Lib.hid (e.size_arg k hlt)
        have hq0:(0:Int)≤(k:Int):=by omega
        have HR1:=Lib.hid (Hs.out k hlt)
        have HR2:=Lib.hid (Hs2.out k hlt)
        have HZ:=Lib.hid (show(e.arg k).size≤n by have:=He.out;have:=HA.out;omega)
        go_wp2_with fail
        refine wp_region_quietG (by kernel_rfl) (by kernel_rfl) ?_
        repeat(go_big_quiet_step ((go_at_call 12;exact Calls.quietG' (IH.out (e.arg k) HZ.out S S' (vs k) (vs2 k) _ (by(repeat' (first|(with_reducible exact HR1.out)|(with_reducible exact HR2.out)|(with_reducible refine RepE.alloc ?_ _)|(with_reducible refine RepE.grow ?_ _ _)))) (by(repeat' (first|(with_reducible exact HR1.out)|(with_reducible exact HR2.out)|(with_reducible refine RepE.alloc ?_ _)|(with_reducible refine RepE.grow ?_ _ _))))))))
        refine wpQuiet_nil ?_
        intro _ hw'
        obtain⟨⟨gb,gd⟩,hw''⟩:=hw'
        subst hw''
        go_wp2_with fail
        go_roundw
        case rel=>exact⟨k+1,by omega,by go_num,.of_below belB⟩
        case measure=>simp [intOf];omega
     ·obtain rfl:k=e.args.length:=by omega
      go_wp2_with fail
      go_returns
      exact⟨rfl,.of_below belB⟩
theorem Same_any{S S':Nat→Prop}{e:Ex}{v v':Value}{w:World}(h:RepE S w e v)(h':RepE S' w e v'):Calls Tryz.prog 12 #[exV e v,exV e v'] w fun r w'=>r= .returned (.bool true)∧w.Grows w':=
 Same_walk e.size e (Nat.le_refl _) S S' v v' w h h'
end Go.Proofs.YtfoefpoaomepbaaGreatDoor
