/- What the walks over grants share: blocks that stay, a grant's answer. -/
import Derived.Test.YthionhbjmheimaaDoorLTypV
import Derived.Test.YthionhbjmheimaaDoorLawKL
import Derived.Test.YthionhbjmheimaaDoorStpWL
set_option linter.all false
set_option maxHeartbeats 16000000
set_option maxRecDepth 1000000
namespace Go
theorem growsR{w w':World}(h:RowKit.Below w.heap.size w w':=by(try simp only [World.grow_grow,World.grow_drew,World.drew_grow,←Array.append_assoc]);repeat' (first|(with_reducible exact Go.RowKit.Below.fin)|(with_reducible exact Go.RowKit.Below.refl _ _)|(with_reducible assumption)|(with_reducible refine Go.RowKit.Below.peel ?_ ?_)|(with_reducible refine Go.RowKit.Below.grow ?_ ?_ _ _)|(with_reducible refine Go.RowKit.Below.alloc ?_ ?_ _)|(with_reducible refine Go.RowKit.Below.drewN ?_ _)|(with_reducible refine Go.RowKit.Below.drew ?_)|(with_reducible refine Go.RowKit.Below.setCell ?_ ?_ _)|go_size)):w.Grows w':=.of_below h
end Go
namespace Go.Proofs.YthionhbjmheimaaDoor
open Go.RowKit
def Mid(B:Nat)(W w:World):Prop:=W.heap.size≤w.heap.size∧∀k,B≤k→k<W.heap.size→w.heap[k]? =W.heap[k]?
def vwA(v:Vw)(y:Value):Array Value:=#[.int .i64 v.age,.int .i64 v.year,.int .i64 v.children,.int .i64 v.insured,.int .i64 v.worked,.int .i64 v.voluntary,.int .i64 v.service,.int .i64 v.equated,.int .i64 v.raising,.int .i64 v.resident,.int .i64 v.bn,.int .i64 v.bd,y]
def Out(B H:Nat)(v:Value):Prop:=∀k,v.ownBlock=some k→k<B∨H≤k
section
variable {B H : Nat} {W w w' : World} {v : Value}
theorem Mid.refl(B:Nat)(W:World):Mid B W W:=⟨Nat.le_refl _,fun _ _ _=>rfl⟩
theorem Mid.grows(h:Mid B W w)(hg:w.Grows w'):Mid B W w':=⟨Nat.le_trans h.1 hg.below.size,fun k h1 h2=>(hg.below.block k (Nat.lt_of_lt_of_le h2 h.1)).trans (h.2 k h1 h2)⟩
theorem Mid.grown(h:Mid B W w)(hg:w.grownBy w' v.ownBlock)(ho:Out B W.heap.size v):Mid B W w':=
 ⟨Nat.le_trans h.1 hg.size,fun k h1 h2=>(hg.block k (Nat.lt_of_lt_of_le h2 h.1) (fun e=>by have:=ho k e.symm;omega)).trans (h.2 k h1 h2)⟩
theorem Out.next{g H' n cap:Nat}(h:Out B H v)(hg:v.ownBlock=some g∨g=H')(hH:H≤H'):Out B H (.slice (some ⟨g,0,none⟩) n cap):=by
 intro k hk
 obtain rfl:g=k:=by simpa [Value.ownBlock]using hk
 rcases hg with hg|rfl
 ·exact h _ hg
 ·exact .inr hH
theorem Mid.ints{zs:List Int}(hm:Mid B W w)(h:IntsAt W v zs)(hn:∀k,v.ownBlock=some k→B≤k):IntsAt w v zs:=by
 obtain⟨h0,hr,a,cap,rfl,h1⟩:=h
 refine⟨h0,hr,a,cap,rfl,h1.imp id ?_⟩
 rintro⟨b,off,rfl,hb,hc⟩
 exact⟨b,off,rfl,Nat.lt_of_lt_of_le hb hm.1,fun i hi=>(World.cell?_of_block (hm.2 b (hn b rfl) hb)).trans (hc i hi)⟩
theorem World.Grows.grown{row:Option Nat}(h:W.Grows w)(hg:w.grownBy w' row)(hr:∀k,row=some k→W.heap.size≤k):W.Grows w':=.of_below (Below.grown h.below hg h.below.size hr)
end
theorem uses_z{E:Ex}{ls:List (ByteArray × Ex)}{k:Nat}(hk:k<((usesL E ls).map Int.ofNat).length):((usesL E ls).map Int.ofNat).getD k 0=((usesL E ls).getD k 0:Nat):=by
 rw [List.length_map]at hk
 rw [List.getD_eq_getElem?_getD,List.getD_eq_getElem?_getD,List.getElem?_map,List.getElem?_eq_getElem hk];rfl
theorem uses_len(E:Ex)(ls:List (ByteArray × Ex)):(usesL E ls).length≤ls.length:=usesG_length ls.length
theorem stp_at{w:World}{a:Option Addr}{n cap:Nat}{st:List (ByteArray × Val)}(h:StpAt w (.slice a n cap) st){j:Nat}(hj:j<st.length):∃b off,a=some ⟨b,off,none⟩∧b<w.heap.size∧w.cell? ⟨b,off+j*5,none⟩=some (.string (stN st j)):=by
 obtain⟨-,a',c',hv,h0|⟨b,off,ha,hb,hc⟩⟩:=h
 ·omega
 ·simp only [Value.slice.injEq]at hv
  obtain⟨rfl,-,-⟩:=hv
  exact⟨b,off,ha,hb,(hc j hj).1⟩
def GrP(r:(Bool × Int × Int) × List (ByteArray × Val) × Int)(w:World)(e:Ending)(w':World):Prop:=∃sv,e= .returned (.tuple #[.agg #[.bool r.1.1,.int .i64 r.1.2.1,.int .i64 r.1.2.2,sv],.int .i64 r.2.2])∧w.Grows w'∧StpAt w' sv r.2.1∧∀k,sv.ownBlock=some k→w.heap.size≤k
theorem GrP.bad{r:(Bool × Int × Int) × List (ByteArray × Val) × Int}{w w':World}{c:Int}(hr:r=((false,0,0),[],c))(hg:w.Grows w'):GrP r w (.returned (.tuple #[.agg #[.bool false,.int .i64 0,.int .i64 0,.slice none 0 0],.int .i64 c])) w':=by
 subst hr;exact⟨_,rfl,hg,⟨by simp,none,0,rfl,.inl rfl⟩,fun k hk=>by cases hk⟩
theorem GrP.ok{r:(Bool × Int × Int) × List (ByteArray × Val) × Int}{w w':World}{b:Bool}{n d:Int}{sv:Value}{st:List (ByteArray × Val)}(hr:r=((b,n,d),st,0))(hg:w.Grows w')(hs:StpAt w' sv st)(hn:∀k,sv.ownBlock=some k→w.heap.size≤k):GrP r w (.returned (.tuple #[.agg #[.bool b,.int .i64 n,.int .i64 d,sv],.int .i64 0])) w':=by
 subst hr;exact⟨sv,rfl,hg,hs,hn⟩
theorem StpAt.same{w w':World}{v:Value}{st:List (ByteArray × Val)}(h:StpAt w v st)(hs:w.heap.size≤w'.heap.size)(hk:∀k,v.ownBlock=some k→w'.heap[k]? =w.heap[k]?):StpAt w' v st:=by
 obtain⟨h0,a,cap,rfl,h1⟩:=h
 refine⟨h0,a,cap,rfl,h1.imp id ?_⟩
 rintro⟨b,off,rfl,hb,hc⟩
 refine⟨b,off,rfl,Nat.lt_of_lt_of_le hb hs,fun j hj=>?_⟩
 have e:∀o,w'.cell? ⟨b,o,none⟩=w.cell? ⟨b,o,none⟩:=fun o=>World.cell?_of_block (hk b rfl)
 obtain⟨c0,c1,c2,c3,c4⟩:=hc j hj
 exact⟨(e _).trans c0,(e _).trans c1,(e _).trans c2,(e _).trans c3,(e _).trans c4⟩
theorem used_val{ls:List (ByteArray × Ex)}{env:List (ByteArray × Int)}{v:Vw}{E:Ex}{D0 D:List Nat}{st0 st:List (ByteArray × Val)}{m:Int}(hra:RunAt v ls env E D0 st0 (usesL E ls).length D st)(hl:LsOk ls ls.length env)(hok:v.ok=true)(ht:inferE env E=(m,0)) :
 exprF' v st E=valueF v st E∧okR m (valueF v st E):=by
 obtain⟨h1,h2,h3⟩:=inferE_ok ht
 have h4:=hra.last hl h2 h3
 have:=expr_typed hok hra.ok.ok h1 (by rw [h4])
 rw [h4]at this
 exact this
end Go.Proofs.YthionhbjmheimaaDoor
