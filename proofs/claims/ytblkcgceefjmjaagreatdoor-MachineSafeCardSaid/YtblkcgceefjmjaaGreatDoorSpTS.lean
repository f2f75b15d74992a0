/- Pokes that came in, as data. -/
import Derived.Test.YtblkcgceefjmjaaGreatDoorSVw8
import Derived.Deep.Slices
set_option linter.all false
set_option maxHeartbeats 16000000
set_option maxRecDepth 1000000
namespace Go.Proofs.YtblkcgceefjmjaaGreatDoor
open Go.RowKit Go.ChangeShapes Go.WideShapes Go.Deep
section
variable {H : Type} {enc : TypeId × Value → H} {w : World}
theorem cPk:(Tryz.prog).cellsOf 170=3:=by kernel_rfl
theorem pk_of_cells{fuel:Nat}{cs:List Value}{x:DataW H × List MemPlace}(h:DataW.trod enc Tryz.prog w 0 (fun _=>true) true fuel 170 cs=some x) :
 ∃y:Int × Int × Int,cs= [.int .i64 y.1,.int .i64 y.2.1,.int .i64 y.2.2]:=by
 obtain⟨xs,n,_,hx,hl,hlen,hF⟩:=DataW.trod_struct Tryz.underlying170 h
 rw [cPk]at hl
 match cs,hl with
 | [c0,c1,c2],_=>
   have k0:=hF 0 _ rfl
   have k1:=hF 1 _ rfl
   have k2:=hF 2 _ rfl
   try simp only [List.drop_zero,List.drop_succ_cons,List.take_succ_cons,List.take_zero]at k0 k1 k2
   match xs,hlen with
   | [y0,y1,y2],_=>
     obtain⟨n0,rfl,w0⟩:=int_of_trod k0
     obtain⟨n1,rfl,w1⟩:=int_of_trod k1
     obtain⟨n2,rfl,w2⟩:=int_of_trod k2
     exact⟨⟨n0,n1,n2⟩,rfl⟩
theorem PkAt.of_trod{fuel:Nat}{v:Value}{x:DataW H × List MemPlace}(h:DataW.trod enc Tryz.prog w 0 (fun _=>true) true fuel 96 [v]=some x):∃l,PkAt w v l:=by
 rcases open_slice Tryz.underlying96 h with ⟨hcs,_⟩|⟨a,len,cap,m,n,D,Pl,hcs,_,hl,hm,hmm,hx,hi⟩
 ·simp at hcs
  subst hcs
  exact⟨[],none,0,rfl,.inl rfl⟩
 ·simp at hcs
  subst hcs
  simp only [if_true]at hmm
  subst hmm
  have each:∀i,i<len→∃y:Int × Int × Int,∀(j:Nat) (u:Value),[Value.int .i64 y.1,.int .i64 y.2.1,.int .i64 y.2.2][j]? =some u→w.cell? ((a.add (i*3)).add j)=some u:=by
   intro i hil
   obtain⟨cs',hc,ht⟩:=hi i (by omega)
   obtain⟨y,rfl⟩:=pk_of_cells ht
   rw [cPk]at hc
   obtain⟨_,hlen',hat⟩:=World.cells?_some hc
   refine⟨y,fun j u hu=>?_⟩
   have hj:j<3:=(List.getElem?_eq_some_iff.1 hu).1
   rw [hat j (by omega)];exact hu
  obtain⟨y,hy⟩:=choose_lt each
  refine⟨(List.range len).map y,some a,m,by simp, ?_⟩
  by_cases h0:len=0
  ·left;simp [h0]
  ·right
   obtain⟨b,off,spot⟩:=a
   have hc0:=hy 0 (by omega)
   have h1:=hc0 0 _ rfl
   have hspot:spot=none:=by
    have:=World.cell?_spot h1
    unfold Addr.add at this
    split at this<;>simp_all
   subst hspot
   have hcell:∀i,i<len→∀(j:Nat) (u:Value),[Value.int .i64 (y i).1,.int .i64 (y i).2.1,.int .i64 (y i).2.2][j]? =some u→w.cell? ⟨b,off+i*3+j,none⟩=some u:=fun i hi j u hu=>by
    have:=hy i hi j u hu
    simpa only [add_at']using this
   refine⟨b,off,rfl,cell_lt (hcell 0 (by omega) 0 _ rfl),fun i hi=>?_⟩
   have hi':i<len:=by simpa using hi
   have e:((List.range len).map y).getD i default=y i:=by simp [List.getD_eq_getElem?_getD,hi']
   rw [e]
   exact⟨hcell i hi' 0 _ rfl,hcell i hi' 1 _ rfl,hcell i hi' 2 _ rfl⟩
end
theorem pokes_of{H:Type}{enc:TypeId × Value→H}{W:World}{v:Value}{d:DataW H}{p:List MemPlace}{r:Reach}{b0:Nat}(hv:Value.okWide Tryz.prog W r b0 96 v)(h:DataW.Trod enc Tryz.prog W 0 (fun _=>true) true 96 v d p):∃ps,PkAt W v ps:=by
 obtain⟨fuel,h⟩:=h
 obtain⟨a,len,cap,rfl⟩:=okWide_slice Tryz.underlying96 hv
 exact PkAt.of_trod (v:=.slice a len cap) (by simpa [Value.cells]using h)
end Go.Proofs.YtblkcgceefjmjaaGreatDoor
