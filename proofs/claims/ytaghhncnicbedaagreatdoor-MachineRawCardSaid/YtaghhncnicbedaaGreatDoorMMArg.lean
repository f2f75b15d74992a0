import Derived.Test.YtaghhncnicbedaaGreatDoorMMchC
import Derived.Deep.Slices
import Derived.SliceStrings
set_option linter.all false
set_option maxHeartbeats 16000000
set_option maxRecDepth 1000000
namespace Go.Proofs.YtaghhncnicbedaaGreatDoor
open Go.RowKit Go.ChangeShapes Go.WideShapes Go.Deep
def InsRaw(w:World)(v:Value)(l:List Ins):Prop:=
 ∃a cap,v= .slice a l.length cap∧(l.length=0∨∃b off,a=some ⟨b,off,none⟩∧b<w.heap.size∧∀i,i<l.length→(I64 (l.getD i default).n∧I64 (l.getD i default).d)∧w.cell? ⟨b,off+i*4,none⟩=some (.int .i64 (l.getD i default).op)∧
  w.cell? ⟨b,off+i*4+1,none⟩=some (.int .i64 (l.getD i default).a)∧w.cell? ⟨b,off+i*4+2,none⟩=some (.int .i64 (l.getD i default).n)∧w.cell? ⟨b,off+i*4+3,none⟩=some (.int .i64 (l.getD i default).d))
theorem InsRaw.at{w:World}{v:Value}{l:List Ins}(h:InsRaw w v l)(hl:l.length≤1000000):InsAt w v l:=⟨hl,h⟩
def SlRaw(w:World)(v:Value)(sl:List ByteArray):Prop:=
 (∀s∈sl,s.size≤maxLen)∧∃a cap,sl.length≤cap∧v= .slice a sl.length cap∧(sl.length=0∨∃b off,a=some ⟨b,off,none⟩∧b<w.heap.size∧∀i,i<sl.length→w.cell? ⟨b,off+i,none⟩=some (.string (sl.getD i ByteArray.empty)))
theorem SlRaw.at{w:World}{v:Value}{l:List ByteArray}(h:SlRaw w v l)(hl:l.length≤1000000):SlAt w v l:=⟨hl,h⟩
section
variable {H : Type} {enc : TypeId × Value → H} {w : World}
theorem cIns:(Tryz.prog).cellsOf 77=4:=by kernel_rfl
theorem cCode:(Tryz.prog).cellsOf 63=2:=by kernel_rfl
theorem ins_of_cells{fuel:Nat}{cs:List Value}{x:DataW H × List MemPlace}(h:DataW.trod enc Tryz.prog w 0 (fun _=>true) true fuel 77 cs=some x) :
 ∃y:Ins,cs= [.int .i64 y.op,.int .i64 y.a,.int .i64 y.n,.int .i64 y.d]∧I64 y.n∧I64 y.d:=by
 obtain⟨xs,n,_,hx,hl,hlen,hF⟩:=DataW.trod_struct Tryz.underlying77 h
 rw [cIns]at hl
 match cs,hl with
 | [c0,c1,c2,c3'],_=>
   have k0:=hF 0 _ rfl
   have k1:=hF 1 _ rfl
   have k2:=hF 2 _ rfl
   try simp only [List.drop_zero,List.drop_succ_cons,List.take_succ_cons,List.take_zero]at k0 k1 k2
   match xs,hlen with
   | [y0,y1,y2],_=>
     obtain⟨n0,rfl,w0⟩:=int_of_trod k0
     obtain⟨n1,rfl,w1⟩:=int_of_trod k1
     obtain⟨zs,n',_,hz,hzl,hzlen,hG⟩:=DataW.trod_struct Tryz.underlying39 k2
     have g0:=hG 0 _ rfl
     have g1:=hG 1 _ rfl
     try simp only [List.drop_zero,List.drop_succ_cons,List.take_succ_cons,List.take_zero]at g0 g1
     match zs,hzlen with
     | [z0,z1],_=>
       obtain⟨n2,rfl,w2⟩:=int_of_trod g0
       obtain⟨n3,rfl,w3⟩:=int_of_trod g1
       exact⟨⟨n0,n1,n2,n3⟩,rfl,w2,w3⟩
theorem InsRaw.of_trod{fuel:Nat}{v:Value}{x:DataW H × List MemPlace}(h:DataW.trod enc Tryz.prog w 0 (fun _=>true) true fuel 60 [v]=some x):∃l,InsRaw w v l:=by
 rcases open_slice Tryz.underlying60 h with ⟨hcs,_⟩|⟨a,len,cap,m,n,D,Pl,hcs,_,hl,hm,hmm,hx,hi⟩
 ·simp at hcs
  subst hcs
  exact⟨[],none,0,rfl,.inl rfl⟩
 ·simp at hcs
  subst hcs
  simp only [if_true]at hmm
  subst hmm
  have each:∀i,i<len→∃y:Ins,(I64 y.n∧I64 y.d)∧∀(j:Nat) (u:Value),[Value.int .i64 y.op,.int .i64 y.a,.int .i64 y.n,.int .i64 y.d][j]? =some u→w.cell? ((a.add (i*4)).add j)=some u:=by
   intro i hil
   obtain⟨cs',hc,ht⟩:=hi i (by omega)
   obtain⟨y,rfl,h1,h2⟩:=ins_of_cells ht
   rw [cIns]at hc
   obtain⟨_,hlen',hat⟩:=World.cells?_some hc
   refine⟨y,⟨h1,h2⟩,fun j u hu=>?_⟩
   have hj:j<4:=(List.getElem?_eq_some_iff.1 hu).1
   rw [hat j (by omega)];exact hu
  obtain⟨y,hy⟩:=choose_lt each
  refine⟨(List.range len).map y,some a,m,by simp, ?_⟩
  by_cases h0:len=0
  ·left;simp [h0]
  ·right
   obtain⟨b,off,spot⟩:=a
   obtain⟨-,hc0⟩:=hy 0 (by omega)
   have h1:=hc0 0 _ rfl
   have hspot:spot=none:=by
    have:=World.cell?_spot h1
    unfold Addr.add at this
    split at this<;>simp_all
   subst hspot
   have hcell:∀i,i<len→∀(j:Nat) (u:Value),[Value.int .i64 (y i).op,.int .i64 (y i).a,.int .i64 (y i).n,.int .i64 (y i).d][j]? =some u→w.cell? ⟨b,off+i*4+j,none⟩=some u:=fun i hi j u hu=>by
    have:=(hy i hi).2 j u hu
    simpa only [add_at']using this
   refine⟨b,off,rfl,cell_lt (hcell 0 (by omega) 0 _ rfl),fun i hi=>?_⟩
   have hi':i<len:=by simpa using hi
   have e:((List.range len).map y).getD i default=y i:=by simp [List.getD_eq_getElem?_getD,hi']
   rw [e]
   exact⟨(hy i hi').1,hcell i hi' 0 _ rfl,hcell i hi' 1 _ rfl,hcell i hi' 2 _ rfl,hcell i hi' 3 _ rfl⟩
theorem cStr:(Tryz.prog).cellsOf 9=1:=by kernel_rfl
theorem SlRaw.of_trod{fuel:Nat}{v:Value}{x:DataW H × List MemPlace}(h:DataW.trod enc Tryz.prog w 0 (fun _=>true) true fuel 61 [v]=some x):∃l,SlRaw w v l:=by
 rcases open_strings Tryz.underlying61 Tryz.underlying9 cStr h with ⟨hcs,_⟩|⟨a,len,cap,ss,hcs,_,hl,hm,hz,hx,hcell,hwz⟩
 ·simp at hcs
  subst hcs
  exact⟨[],by simp,none,0,Nat.le_refl _,rfl,.inl rfl⟩
 ·simp at hcs
  subst hcs
  simp only [if_true]at hz
  have hlen:(ss.take len).length=len:=by rw [List.length_take];omega
  refine⟨ss.take len,fun s hs=>hwz s (List.mem_of_mem_take hs),some a,cap,by omega,by rw [hlen], ?_⟩
  rw [hlen]
  by_cases h0:len=0
  ·exact .inl h0
  ·obtain⟨b,off,spot⟩:=a
   have h1:=hcell 0 (by omega)
   have hspot:spot=none:=by simpa [Addr.add]using World.cell?_spot h1
   subst hspot
   have h2:∀i,i<cap→w.cell? ⟨b,off+i,none⟩=some (.string (ss.getD i ByteArray.empty)):=fun i hi=>by
    rw [←add_at'];exact hcell i (by omega)
   refine .inr ⟨b,off,rfl,cell_lt (h2 0 (by omega)),fun i hi=>?_⟩
   rw [h2 i (by omega)]
   simp [List.getD_eq_getElem?_getD,hi]
theorem array2'{α:Type}{cs:Array α}(h:cs.size=2):∃c0 c1,cs=#[c0,c1]:=by
 obtain⟨l⟩:=cs
 match l,h with
 | [c0,c1],_=>exact⟨c0,c1,rfl⟩
theorem code_of_trod{r:Reach}{b0:Nat}{v:Value}{d:DataW H}{p:List MemPlace}(hv:Value.okWide Tryz.prog w r b0 63 v)
 (h:DataW.Trod enc Tryz.prog w 0 (fun _=>true) true 63 v d p):∃(vi vs:Value) (l:List Ins) (sl:List ByteArray),v= .agg #[vi,vs]∧InsRaw w vi l∧SlRaw w vs sl:=by
 have ht:=Tryz.underlying63
 obtain⟨cs,rfl,hsz⟩:=okWide_struct ht hv
 obtain⟨c0,c1,rfl⟩:=array2' (hsz.trans cCode)
 obtain⟨fuel,h⟩:=h
 obtain⟨xs,n,_,hx,_,hlen,hF⟩:=DataW.trod_struct ht h
 simp only [Prod.mk.injEq]at hx
 obtain⟨rfl,-⟩:=hx
 have k0:=hF 0 _ rfl
 have k1:=hF 1 _ rfl
 simp only [Value.cells,List.drop_zero,List.drop_succ_cons,List.take_succ_cons,List.take_zero]at k0 k1
 match xs,hlen with
 | [y0,y1],_=>
   obtain⟨l,h0⟩:=InsRaw.of_trod k0
   obtain⟨sl,h1⟩:=SlRaw.of_trod k1
   exact⟨_,_,l,sl,rfl,h0,h1⟩
end
end Go.Proofs.YtaghhncnicbedaaGreatDoor
