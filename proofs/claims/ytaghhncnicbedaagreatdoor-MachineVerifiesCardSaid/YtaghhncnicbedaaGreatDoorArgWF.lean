/- Views that came in, as data: a raw one (pensionmade.View), one of the program's (api.View). -/
import Derived.Test.YtaghhncnicbedaaGreatDoorFFrA2L
set_option linter.all false
set_option maxHeartbeats 16000000
set_option maxRecDepth 1000000
namespace Go.Proofs.YtaghhncnicbedaaGreatDoor
open Go.RowKit Go.ChangeShapes Go.WideShapes Go.Deep
theorem array7{α:Type}{cs:Array α}(h:cs.size=7):∃c0 c1 c2 c3 c4 c5 c6,cs=#[c0,c1,c2,c3,c4,c5,c6]:=by
 obtain⟨l⟩:=cs
 match l,h with
 | [c0,c1,c2,c3,c4,c5,c6],_=>exact⟨c0,c1,c2,c3,c4,c5,c6,rfl⟩
theorem c7w:(Tryz.prog).cellsOf 27=7:=by kernel_rfl
theorem VwR.of_trod{H:Type}{enc:TypeId × Value→H}{w:World}{r:Reach}{b0:Nat}{v:Value}{d:DataW H}{p:List MemPlace}(hv:Value.okWide Tryz.prog w r b0 27 v)
 (h:DataW.Trod enc Tryz.prog w 0 (fun _=>true) true 27 v d p) (hf:fits Tryz.prog 27 d) :
 ∃(R:VwR) (vd vy:Value),v= .agg #[.int .i64 R.age,.int .i64 R.year,.int .i64 R.children,.int .i64 R.base,.int .i64 R.den,vd,vy]∧IntsAt w vd R.days∧IntsAt w vy R.years:=by
 have ht:=Tryz.underlying27
 obtain⟨cs,rfl,hsz⟩:=okWide_struct ht hv
 obtain⟨c0,c1,c2,c3',c4,c5,c6,rfl⟩:=array7 (hsz.trans c7w)
 obtain⟨fuel,h⟩:=h
 obtain⟨xs,n,_,hx,_,hlen,hF⟩:=DataW.trod_struct ht h
 simp only [Prod.mk.injEq]at hx
 obtain⟨rfl,-⟩:=hx
 have k0:=hF 0 _ rfl
 have k1:=hF 1 _ rfl
 have k2:=hF 2 _ rfl
 have k3:=hF 3 _ rfl
 have k4:=hF 4 _ rfl
 have k5:=hF 5 _ rfl
 have k6:=hF 6 _ rfl
 simp only [Value.cells,List.drop_zero,List.drop_succ_cons,List.take_succ_cons,List.take_zero]at k0 k1 k2 k3 k4 k5 k6
 match xs,hlen with
 | [y0,y1,y2,y3,y4,y5,y6],_=>
   obtain⟨n0,rfl,w0⟩:=int_of_trod k0
   obtain⟨n1,rfl,w1⟩:=int_of_trod k1
   obtain⟨n2,rfl,w2⟩:=int_of_trod k2
   obtain⟨n3,rfl,w3⟩:=int_of_trod k3
   obtain⟨n4,rfl,w4⟩:=int_of_trod k4
   obtain⟨z5,w5⟩:=IntsAt.of_trod Tryz.underlying22 Tryz.underlying3 c3 b3 k5 (fits_part ht hf (i:=5) rfl rfl)
   obtain⟨z6,w6⟩:=IntsAt.of_trod Tryz.underlying22 Tryz.underlying3 c3 b3 k6 (fits_part ht hf (i:=6) rfl rfl)
   exact⟨⟨n0,n1,n2,n3,n4,z5,z6⟩,_,_,rfl,w5,w6⟩
theorem ints_of{H:Type}{enc:TypeId × Value→H}{W:World}{v:Value}{d:DataW H}{p:List MemPlace}{r:Reach}{b0:Nat}(hv:Value.okWide Tryz.prog W r b0 22 v)(h:DataW.Trod enc Tryz.prog W 0 (fun _=>true) true 22 v d p)(hf:fits Tryz.prog 22 d):∃zs,IntsAt W v zs:=by
 obtain⟨fuel,h⟩:=h
 obtain⟨a,len,cap,rfl⟩:=okWide_slice Tryz.underlying22 hv
 exact IntsAt.of_trod (v:=.slice a len cap) Tryz.underlying22 Tryz.underlying3 c3 b3 (by simpa [Value.cells]using h) hf
end Go.Proofs.YtaghhncnicbedaaGreatDoor
