/- A slice of bindings, read; a predicate over it. -/
import Derived.Test.YtaghhncnicbedaaGreatDoorBEvP
import Derived.Test.YtaghhncnicbedaaGreatDoorBK
set_option linter.all false
set_option maxHeartbeats 16000000
set_option maxRecDepth 1000000
namespace Go.Proofs.YtaghhncnicbedaaGreatDoor
open Go.RowKit
abbrev bdN(l:List (ByteArray × Int))(i:Nat):ByteArray:=(l.getD i (ByteArray.empty,0)).1
abbrev bdD(l:List (ByteArray × Int))(i:Nat):Int:=(l.getD i (ByteArray.empty,0)).2
def BindAt(w:World)(v:Value)(l:List (ByteArray × Int)):Prop:=
 l.length≤1000∧∃a cap,v= .slice a l.length cap∧(l.length=0∨∃b off,a=some ⟨b,off,none⟩∧b<w.heap.size∧∀i,i<l.length→w.cell? ⟨b,off+i*2,none⟩=some (.string (bdN l i))∧w.cell? ⟨b,off+i*2+1,none⟩=some (.int .i64 (bdD l i)))
theorem BindAt.below{w w':World}{v:Value}{l:List (ByteArray × Int)}{n:Nat}(h:BindAt w v l)(hn:w.heap.size≤n)(hb:Below n w w'):BindAt w' v l:=by
 obtain⟨h0,a,cap,hv,h1⟩:=h
 refine⟨h0,a,cap,hv,h1.imp id ?_⟩
 rintro⟨b,off,ha,hlt,hc⟩
 refine⟨b,off,ha,Nat.lt_of_lt_of_le hlt hb.size,fun i hi=>?_⟩
 rw [hb.cell (p:=⟨b,off+i*2,none⟩) (Nat.lt_of_lt_of_le hlt hn),hb.cell (p:=⟨b,off+i*2+1,none⟩) (Nat.lt_of_lt_of_le hlt hn)]
 exact hc i hi
theorem BindAt.grows{w w':World}{v:Value}{l:List (ByteArray × Int)}(h:BindAt w v l)(hg:w.Grows w'):BindAt w' v l:=h.below (Nat.le_refl _) hg.below
theorem BindAt.grow{w:World}{v:Value}{l:List (ByteArray × Int)}(h:BindAt w v l)(bs:Array Obj)(d:Nat):BindAt (w.grow bs d) v l:=h.grows ⟨bs,d,rfl⟩
theorem BindAt.alloc{w:World}{v:Value}{l:List (ByteArray × Int)}(h:BindAt w v l)(o:Obj):BindAt (w.alloc o) v l:=h.below (Nat.le_refl _) ((Below.refl _ _).alloc (Nat.le_refl _) _)
def PredB(g:FuncId)(lb:Array Value)(l:List (ByteArray × Int))(p:Nat→Bool)(w:World):Prop:=
 ∀k,k<l.length→∀w',w.Grows w'→Calls Tryz.prog g (#[.agg #[.string (bdN l k),.int .i64 (bdD l k)]]++lb) w' fun r w''=>r= .returned (.bool (p k))∧w'.Grows w''
theorem idxB_any(g:FuncId)(lb:Array Value)(eg:∀args w,(callFunc g args).run Tryz.prog w= .ok (.enter g args) w)(l:List (ByteArray × Int))(v:Value)(p:Nat→Bool)(w:World)(h:BindAt w v l)(hp:Hid (PredB g lb l p w)) :
 Calls Tryz.prog 204 #[v,.func (.func g) #[] lb] w fun r w'=>(∃z,r= .returned (.int .i64 z)∧IdxE l.length p z)∧w.Grows w':=by
 obtain⟨hlen,a,cap,rfl,hc⟩:=h
 have Hc:=Lib.hid hc
 clear hc
 go_enter Tryz.func204,Tryz.ntmps204
 go_wp2_with fail
 go_loopw [5,8] (fun _ v8 wr=>∃k:Nat,k≤l.length∧v8= .int .i64 k∧Hid (∀j,j<k→p j=false)∧w.Grows wr) (fun _ v8 _=>l.length-(intOf v8).toNat)
 case atStart=>exact⟨0,by omega,rfl,Lib.hid (fun j hj=>by omega),.refl _⟩
 case round=>
  obtain⟨k,hk,rfl,hno,hgr⟩:=hrel
  have HG:=Lib.hid hgr
  by_cases hlt2:k<l.length
  ·rcases Hc.out with h0|⟨b,off,rfl,hbw,hx⟩
   ·omega
   ·obtain⟨x0,x1⟩:=hx k hlt2
    have y0:wr.cell? ⟨b,off+k*2,none⟩=some (.string (bdN l k)):=by rw [hgr.below.cell (p:=⟨b,off+k*2,none⟩) hbw];exact x0
    have y1:wr.cell? ⟨b,off+k*2+1,none⟩=some (.int .i64 (bdD l k)):=by rw [hgr.below.cell (p:=⟨b,off+k*2+1,none⟩) hbw];exact x1
    clear hx x0 x1
    have d1:(k:Int)<(l.length:Int):=by omega
    have hcall:=hp.out k hlt2 _ hgr
    generalize bdN l k=nk at *
    generalize bdD l k=dk at *
    have HLT:=Lib.hid hlt2
    clear hgr
    cases hq:p k with
    |true=>
     rw [hq]at hcall
     have HQ:=Lib.hid hq
     clear hq
     have HCL:=Lib.hid hcall
     clear hcall
     go_wp2_with (go_at_fn g;refine HCL.out.mono ?_;rintro e' w' ⟨rfl,hg2⟩;have HG2:=Lib.hid hg2;clear hg2)
     go_returns
     exact⟨⟨_,rfl,.inr ⟨k,HLT.out,rfl,HQ.out⟩⟩,World.Grows.trans HG.out HG2.out⟩
    |false=>
     rw [hq]at hcall
     have HQ:=Lib.hid hq
     clear hq
     have HCL:=Lib.hid hcall
     clear hcall
     go_wp2_with (go_at_fn g;refine HCL.out.mono ?_;rintro e' w' ⟨rfl,hg2⟩;have HG2:=Lib.hid hg2;clear hg2)
     go_roundw
     case rel=>exact⟨k+1,by omega,by go_num,Lib.hid (fun j hj=>by
      by_cases ej:j=k
      ·subst ej;exact HQ.out
      ·exact hno.out j (by omega)),World.Grows.trans HG.out HG2.out⟩
     case measure=>simp [intOf];omega
  ·obtain rfl:k=l.length:=by omega
   clear hgr
   go_wp2_with fail
   go_returns
   exact⟨⟨_,rfl,.inl ⟨rfl,hno.out⟩⟩,HG.out⟩
theorem containsB_any(g:FuncId)(lb:Array Value)(eg:∀args w,(callFunc g args).run Tryz.prog w= .ok (.enter g args) w)(l:List (ByteArray × Int))(v:Value)(p:Nat→Bool)(w:World)(h:BindAt w v l)(hp:Hid (PredB g lb l p w)) :
 Calls Tryz.prog 184 #[v,.func (.func g) #[] lb] w fun r w'=>r= .returned (.bool ((List.range l.length).any p))∧w.Grows w':=by
 have HI:=Lib.hid (idxB_any g lb eg l v p w h hp)
 obtain⟨-,a,cap,rfl,-⟩:=h
 clear hp
 generalize hX:(List.range l.length).any p=X
 have HX:=Lib.hid hX
 clear hX
 go_enter Tryz.func184,Tryz.ntmps184
 go_wp2_with (go_at_call 204;refine HI.out.mono ?_;rintro e' w' ⟨⟨z,rfl,hz⟩,bs2,d2,rfl⟩;have HZ:=Lib.hid hz.any;clear hz)
 go_returns
 exact⟨ret_bool (by rw [←HX.out,←HZ.out]),.of_below belB⟩
theorem badB_clos:∀args w,(callFunc 185 args).run Tryz.prog w= .ok (.enter 185 args) w:=enters_of Tryz.func185 (by kernel_rfl) rfl
theorem badB_one(n:ByteArray)(d:Int)(w:World):Calls Tryz.prog 185 #[.agg #[.string n,.int .i64 d]] w fun r w'=>r= .returned (.bool (!decide (1≤d∧d≤4)))∧w.Grows w':=by
 by_cases h1:d<1
 ·go_enter Tryz.func185,Tryz.ntmps185
  exact bz18
 ·by_cases h2:d > 4
  ·go_enter Tryz.func185,Tryz.ntmps185
   exact bz18
  ·go_enter Tryz.func185,Tryz.ntmps185
   exact bz18
end Go.Proofs.YtaghhncnicbedaaGreatDoor
