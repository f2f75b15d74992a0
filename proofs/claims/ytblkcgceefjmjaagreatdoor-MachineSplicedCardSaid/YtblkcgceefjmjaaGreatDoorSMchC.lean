import Derived.Test.YtblkcgceefjmjaaGreatDoorSEvP
import Derived.Test.YtblkcgceefjmjaaGreatDoorSTop
import Derived.Test.YtblkcgceefjmjaaGreatDoorSShelf3
import Derived.Test.YtblkcgceefjmjaaGreatDoorSK
import Derived.Deep.AppendLies
import Derived.Maps.Range
import Derived.Laws.AppendOwnNone
import Derived.Lib.IndexMore
import Derived.Lib.IndexLaws
import Derived.Deep.QuietTactic
set_option linter.all false
set_option maxHeartbeats 16000000
set_option maxRecDepth 1000000
namespace Go.Proofs.YtblkcgceefjmjaaGreatDoor
open Go.RowKit
theorem oper2_any(op:Int)(w:World):Calls Tryz.prog 103 #[.int .i64 op] w fun e w'=>e= .returned (.int .i64 (opF op))∧w=w':=by
 by_cases h6:op=6
 ·subst h6
  exact sz25
 have b6:(op==6)=false:=by simpa using h6
 by_cases h7:op=7
 ·subst h7
  exact sz25
 have b7:(op==7)=false:=by simpa using h7
 by_cases h8:op=8
 ·subst h8
  exact sz25
 have b8:(op==8)=false:=by simpa using h8
 by_cases h9:9≤op∧op≤18
 ·have e:opF op=op-2:=by unfold opF;rw [if_neg h6,if_neg h7,if_neg h8,if_pos h9]
  rw [e]
  obtain⟨ha,hb⟩:=h9
  clear e h6 h7 h8
  go_enter Tryz.func103,Tryz.ntmps103
  go_wp2_with fail
  go_returns
  exact⟨by
   rw [show op-2=op-9+7 by omega]
   first|rfl|simp,rfl⟩
 by_cases h19:op=19
 ·subst h19
  exact sz25
 have b19:(op==19)=false:=by simpa using h19
 by_cases h20:op=20
 ·subst h20
  exact sz25
 have b20:(op==20)=false:=by simpa using h20
 have e:opF op=0:=by unfold opF;rw [if_neg h6,if_neg h7,if_neg h8,if_neg h9,if_neg h19,if_neg h20]
 rw [e]
 have hr:op<9∨18<op:=by omega
 clear e h6 h7 h8 h9 h19 h20
 rcases hr with hr|hr
 ·exact sz25
 ·exact sz25
theorem operands_any(op:Int)(w:World):Calls Tryz.prog 104 #[.int .i64 op] w fun e w'=>e= .returned (.int .i64 (ariF op))∧w=w':=by
 unfold ariF
 by_cases h4:op=4
 ·subst h4
  exact sz49
 have b4:(op==4)=false:=by simpa using h4
 by_cases h5:op=5
 ·subst h5
  exact sz49
 have b5:(op==5)=false:=by simpa using h5
 by_cases h6:op=6
 ·subst h6
  exact sz49
 have b6:(op==6)=false:=by simpa using h6
 rw [if_neg (by omega)]
 clear h4 h5 h6
 exact sz49
theorem inputs2_any(w:World):Calls Tryz.prog 101 #[] w fun e w'=>e= .returned (.agg inpA)∧w.Grows w':=by
 go_enter Tryz.func101,Tryz.ntmps101
 go_wp2_with fail
 go_returns
 exact⟨rfl,growsR⟩
def InsAt(w:World)(v:Value)(l:List Ins):Prop:=
 l.length≤1000000∧∃a cap,v= .slice a l.length cap∧(l.length=0∨∃b off,a=some ⟨b,off,none⟩∧b<w.heap.size∧∀i,i<l.length→(I64 (l.getD i default).n∧I64 (l.getD i default).d)∧w.cell? ⟨b,off+i*4,none⟩=some (.int .i64 (l.getD i default).op)∧
  w.cell? ⟨b,off+i*4+1,none⟩=some (.int .i64 (l.getD i default).a)∧w.cell? ⟨b,off+i*4+2,none⟩=some (.int .i64 (l.getD i default).n)∧w.cell? ⟨b,off+i*4+3,none⟩=some (.int .i64 (l.getD i default).d))
def SlAt(w:World)(v:Value)(sl:List ByteArray):Prop:=
 sl.length≤1000000∧(∀s∈sl,s.size≤maxLen)∧∃a cap,sl.length≤cap∧v= .slice a sl.length cap∧(sl.length=0∨∃b off,a=some ⟨b,off,none⟩∧b<w.heap.size∧∀i,i<sl.length→w.cell? ⟨b,off+i,none⟩=some (.string (sl.getD i ByteArray.empty)))
theorem InsAt.grows{w w':World}{v:Value}{l:List Ins}(h:InsAt w v l)(hg:w.Grows w'):InsAt w' v l:=by
 obtain⟨h0,a,cap,hv,h1⟩:=h
 refine⟨h0,a,cap,hv,h1.imp id ?_⟩
 rintro⟨b,off,ha,hb,hc⟩
 have hs:=hg.below.size
 have e:∀o,w'.cell? ⟨b,o,none⟩=w.cell? ⟨b,o,none⟩:=fun o=>World.cell?_of_block (hg.below.block b hb)
 refine⟨b,off,ha,by omega,fun i hi=>?_⟩
 obtain⟨k0,k1,k2,k3,k4⟩:=hc i hi
 exact⟨k0,(e _).trans k1,(e _).trans k2,(e _).trans k3,(e _).trans k4⟩
theorem SlAt.grows{w w':World}{v:Value}{sl:List ByteArray}(h:SlAt w v sl)(hg:w.Grows w'):SlAt w' v sl:=by
 obtain⟨h0,h00,a,cap,hcp,hv,h1⟩:=h
 refine⟨h0,h00,a,cap,hcp,hv,h1.imp id ?_⟩
 rintro⟨b,off,ha,hb,hc⟩
 have hs:=hg.below.size
 exact⟨b,off,ha,by omega,fun i hi=>(World.cell?_of_block (hg.below.block b hb)).trans (hc i hi)⟩
theorem pop_none(N off:Nat)(a:Option Addr)(cap:Nat)(w:World)(c1:w.cell? ⟨N,off+1,none⟩=some (.slice a 0 cap)) :
 Calls Tryz.prog 192 #[.pointer (some ⟨N,off,none⟩)] w fun e w'=>e= .returned (.tuple #[.int .i64 0,.bool false])∧w'=w:=by
 go_enter Tryz.func192,Tryz.ntmps192
 go_wp2_with fail
 go_returns
 exact⟨rfl,rfl⟩
theorem pop_some(N off g n cap:Nat)(z:Int)(w:World)(c1:w.cell? ⟨N,off+1,none⟩=some (.slice (some ⟨g,0,none⟩) (n+1) cap))(c2:w.cell? ⟨g,n,none⟩=some (.int .i64 z))(hn:n+1≤cap)(hl:n≤1000)(hf:w.frozen? ⟨N,off+1,none⟩=false) :
 Calls Tryz.prog 192 #[.pointer (some ⟨N,off,none⟩)] w fun e w'=>e= .returned (.tuple #[.int .i64 z,.bool true])∧w'=w.setCell ⟨N,off+1,none⟩ (.slice (some ⟨g,0,none⟩) n cap):=by
 have h1:((n:Int)+1==0)=false:=by simp;omega
 go_enter Tryz.func192,Tryz.ntmps192
 go_wp2_with fail
 go_returns
 exact⟨rfl,rfl⟩
theorem infoIM:(Tryz.prog.info? 3).map (fun i=>(i.zero,i.size,i.bytes))=some (some (.int .i64 0),1,8):=by kernel_rfl
def PushP(N off:Nat)(vs:Value)(zs:List Int)(base:Nat)(dim:Int)(w:World)(e:Ending)(w':World):Prop:=
 e= .returned (.tuple #[])∧∃g cap w1,w1.ownsRow base 3 1 (.slice (some ⟨g,0,none⟩) (zs.length+1) cap) (zs.length+1) ((zs++[dim]).map (Value.int .i64))∧w.grownBy w1 vs.ownBlock∧(vs.ownBlock=some g∨w.heap.size≤g)∧g<w1.heap.size∧
  w'=w1.setCell ⟨N,off+1,none⟩ (.slice (some ⟨g,0,none⟩) (zs.length+1) cap)
theorem push_any(N off base:Nat)(a:Option Addr)(cap:Nat)(zs:List Int)(dim:Int)(w:World)(c1:w.cell? ⟨N,off+1,none⟩=some (.slice a zs.length cap))(ho:w.ownsRow base 3 1 (.slice a zs.length cap) zs.length (zs.map (Value.int .i64)))(hb:base≤w.heap.size)(hN:N<w.heap.size)(hne:(Value.slice a zs.length cap).ownBlock≠some N)(hl:zs.length≤1000)(hf:∀w1:World,w.grownBy w1 (Value.slice a zs.length cap).ownBlock→w1.frozen? ⟨N,off+1,none⟩=false) :
 Calls Tryz.prog 191 #[.pointer (some ⟨N,off,none⟩),.int .i64 dim] w (PushP N off (.slice a zs.length cap) zs base dim w):=by
 obtain⟨i0,hi,hz0,hz1,hz2⟩:=info_parts infoIM
 have HO:=Lib.hid ho
 have HF:=Lib.hid hf
 clear ho hf
 go_enter Tryz.func191,Tryz.ntmps191
 go_wp2_with (at_builtin;refine wpList_append_lies _ rfl _ _ 22 rfl base 3 i0 _ 1 8 Tryz.underlying22 hi hz0 hz1 hz2 rfl (by decide) _ _ _ rfl (HO.out.alloc _) ⟨w.heap.size,0,none⟩ 1 1 [.int .i64 dim] rfl rfl ?c1 ?c2 (by decide) ?c3 ?c4 ?c5 (w.heap.size+1) (by simp) ?_)
 case c1=>(refine news_cells _ [_] _ _ ?_);simp
 case c2=>intro u hu;simp at hu;subst hu;rfl
 case c3=>unfold maxLen;omega
 case c4=>omega
 case c5=>simp;omega
 intro gb cp w1 hown hgrow hgg hgl
 have hg2:w.grownBy w1 (Value.slice a zs.length cap).ownBlock:=⟨hgrow.os,hgrow.tape,hgrow.output,by have:=hgrow.size;simp at this;omega,fun k hk hne=>(hgrow.block k (by simp;omega) hne).trans (Below.heap_alloc w _ k hk)⟩
 have HG:=Lib.hid hg2
 have HOW:=Lib.hid hown
 have HGG:=Lib.hid hgg
 have HGL:=Lib.hid hgl
 have k1:=(hg2.cell_far ⟨N,off+1,none⟩ hN (fun e=>hne e.symm)).trans c1
 have k2:=HF.out w1 hg2
 have hN1:N<w1.heap.size:=by have:=hg2.size;omega
 clear hown hgrow hgg hgl hg2
 go_wp2_with fail
 go_returns
 refine⟨rfl,gb,cp,w1,by have:=HOW.out;simpa using this,HG.out, ?_,HGL.out,rfl⟩
 rcases HGG.out with h|h
 ·exact .inl h
 ·exact .inr (by omega)
structure Mods(P:Nat→Prop)(w w':World):Prop where
 os:w'.os=w.os
 tape:w'.tape=w.tape
 output:w'.output=w.output
 size:w.heap.size≤w'.heap.size
 block:∀k,k<w.heap.size→¬P k→w'.heap[k]? =w.heap[k]?
section
variable {P Q : Nat → Prop} {a b c w w' : World}
theorem Mods.refl(P:Nat→Prop)(w:World):Mods P w w:=⟨rfl,rfl,rfl,Nat.le_refl _,fun _ _ _=>rfl⟩
theorem Mods.mono(h:Mods Q a b)(hQ:∀i,i<a.heap.size→Q i→P i):Mods P a b:=⟨h.os,h.tape,h.output,h.size,fun i hi hn=>h.block i hi (fun q=>hn (hQ i hi q))⟩
theorem Mods.trans(h:Mods P a b)(k:Mods P b c):Mods P a c:=⟨k.os.trans h.os,k.tape.trans h.tape,k.output.trans h.output,Nat.le_trans h.size k.size,fun i hi hn=>(k.block i (Nat.lt_of_lt_of_le hi h.size) hn).trans (h.block i hi hn)⟩
theorem Mods.trans2(h:Mods P a b)(k:Mods Q b c)(hQ:∀i,i<a.heap.size→Q i→P i):Mods P a c:=
 ⟨k.os.trans h.os,k.tape.trans h.tape,k.output.trans h.output,Nat.le_trans h.size k.size,fun i hi hn=>(k.block i (Nat.lt_of_lt_of_le hi h.size) (fun q=>hn (hQ i hi q))).trans (h.block i hi hn)⟩
theorem Mods.grows(hg:w.Grows w'):Mods P w w':=⟨hg.below.os,hg.below.tape,hg.below.output,hg.below.size,fun k hk _=>hg.below.block k hk⟩
theorem Mods.setCell(w:World)(N o:Nat)(u:Value)(hP:P N):Mods P w (w.setCell ⟨N,o,none⟩ u):=
 ⟨rfl,rfl,rfl,by simp [World.setCell],fun k _ hn=>Below.heap_setCell _ _ _ _ (fun e=>hn (by have e':k=N:=e;exact e' ▸ hP))⟩
theorem Mods.grown{row:Option Nat}(hg:w.grownBy w' row)(hP:∀k,row=some k→P k):Mods P w w':=⟨hg.os,hg.tape,hg.output,hg.size,fun k hk hn=>hg.block k hk (fun e=>hn (hP k e.symm))⟩
theorem Mods.below{B:Nat}{a:World}(h:Mods P w w')(hb:Below B a w)(hB:B≤w.heap.size)(hP:∀k,P k→B≤k):Below B a w':=
 hb.trans ⟨h.os,h.tape,h.output,h.size,fun k hk=>h.block k (by omega) (fun p=>by have:=hP k p;omega)⟩
theorem Mods.cell(h:Mods P w w'){k:Nat}(hk:k<w.heap.size)(hn:¬P k)(o:Nat):w'.cell? ⟨k,o,none⟩=w.cell? ⟨k,o,none⟩:=World.cell?_of_block (h.block k hk hn)
theorem Mods.frozen(h:Mods P w w'){k:Nat}(hk:k<w.heap.size)(hn:¬P k)(o:Nat):w'.frozen? ⟨k,o,none⟩=w.frozen? ⟨k,o,none⟩:=World.frozen?_of_block (h.block k hk hn)
theorem Mods.row(h:Mods P w w'){B:Nat}{e:TypeId}{sz n:Nat}{v:Value}{xs:List Value}(ho:w.ownsRow B e sz v n xs)(hn:∀k,v.ownBlock=some k→¬P k):w'.ownsRow B e sz v n xs:=by
 refine⟨ho.1, ?_⟩
 rcases ho.2 with hh|⟨g,cap,cur,rfl,hb,hgg,rest⟩
 ·exact .inl hh
 ·exact .inr ⟨g,cap,cur,rfl,hb,by rw [h.block g (Array.getElem?_eq_some_iff.1 hgg).1 (hn g rfl)];exact hgg,rest⟩
end
def CellsAt(w:World)(N off:Nat)(L:List Value):Prop:=∀i u,L[i]? =some u→w.cell? ⟨N,off+i,none⟩=some u
section
variable {w w' : World} {N off : Nat} {L : List Value}
theorem CellsAt.get(h:CellsAt w N off L){i:Nat}(hi:i<L.length):w.cell? ⟨N,off+i,none⟩=some L[i]:=h i _ (List.getElem?_eq_getElem hi)
theorem CellsAt.same(h:CellsAt w N off L)(he:∀o,w'.cell? ⟨N,o,none⟩=w.cell? ⟨N,o,none⟩):CellsAt w' N off L:=fun i u hu=>(he _).trans (h i u hu)
theorem CellsAt.set(h:CellsAt w N off L)(i:Nat)(u:Value)(hi:i<L.length):CellsAt (w.setCell ⟨N,off+i,none⟩ u) N off (L.set i u):=fun j x hx=>by
 rw [List.getElem?_set]at hx
 by_cases e:i=j
 ·subst e
  rw [if_pos rfl,if_pos hi]at hx
  rw [World.cell?_setCell_same _ _ _ (h.get hi)]
  exact hx
 ·rw [if_neg e]at hx
  rw [World.cell?_setCell_other _ _ _ _ (by simp<;>omega)]
  exact h j x hx
theorem CellsAt.other(h:CellsAt w N off L){M o:Nat}(u:Value)(hne:M≠N∨o<off∨off+L.length≤o):CellsAt (w.setCell ⟨M,o,none⟩ u) N off L:=fun j x hx=>by
 have hj:j<L.length:=(List.getElem?_eq_some_iff.1 hx).1
 rw [World.cell?_setCell_other _ _ _ _ (by simp<;>omega)]
 exact h j x hx
end
theorem made_cells{w:World}{z:Array Value}{n sz j:Nat}{e:TypeId}(hz:z.size=sz)(hsz:0<sz)(hj:j<n):CellsAt (w.alloc (.cells (madeCells z (n*sz)) e)) w.heap.size (j*sz) z.toList:=by
 intro i u hu
 have hi:i<sz:=by have:=(List.getElem?_eq_some_iff.1 hu).1;simp at this;omega
 have h1:j*sz+i<n*sz:=by
  have:(j+1)*sz≤n*sz:=Nat.mul_le_mul_right _ hj
  rw [Nat.add_mul]at this;omega
 have h2:(j*sz+i) % sz=i:=by rw [Nat.mul_comm,Nat.mul_add_mod,Nat.mod_eq_of_lt hi]
 have h3:(madeCells z (n*sz))[j*sz+i]? =some u:=by
  unfold madeCells
  rw [Array.getElem?_map,Array.getElem?_range,if_pos h1]
  simp only [Option.map_some,hz,h2]
  rw [Array.getElem?_toList]at hu
  rw [getElem!_def,hu]
 rw [cell_of_row _ _ _ _ _ _ (heap_alloc_new w _)]
 exact h3
theorem run_make_many{P:Program}(t e:TypeId)(z:Value)(size bytes:Nat)(ht:P.underlying t=some (.slice e))(hinfo:(P.info? e).map (fun i=>(i.zero,i.size,i.bytes))=some (some z,size,bytes))(n:Nat)(hbytes:bytes*(n+1)≤281474976710656)(h63:n+1≤9223372036854775807)(w:World) :
 (Instr.makeSlice t (.int .i64 ((n:Int)+1)) (.int .i64 ((n:Int)+1))).run P w= .ok (.slice (some ⟨w.heap.size,0,none⟩) (n+1) (n+1)) (w.alloc (.cells (madeCells z.cells ((n+1)*size)) e)):=by
 obtain⟨i,hi,hzz⟩:=Option.map_eq_some_iff.1 hinfo
 simp only [Prod.mk.injEq]at hzz
 obtain⟨hz,hs,hb⟩:=hzz
 have hb':(i.bytes:Int)*((n:Int)+1)≤281474976710656:=by
  rw [hb]
  have h:((bytes*(n+1):Nat):Int)≤281474976710656:=by omega
  rwa [Int.natCast_mul,Int.natCast_add]at h
 have hr:=run_make (P:=P) w t e i z ht hi hz .i64 .i64 ((n:Int)+1) ((n:Int)+1) (by omega) (Int.le_refl _) hb' (by omega)
 have e1:((n:Int)+1).toNat=n+1:=by omega
 rw [e1,hs]at hr
 exact hr
structure Upd(P:Nat→Prop)(w w':World)(N off:Nat)(L:List Value):Prop where
 mods:Mods P w w'
 cells:CellsAt w' N off L
 out:∀i,i<off∨off+L.length≤i→w'.cell? ⟨N,i,none⟩=w.cell? ⟨N,i,none⟩
 frz:∀i,w'.frozen? ⟨N,i,none⟩=w.frozen? ⟨N,i,none⟩
section
variable {P : Nat → Prop} {w w' w'' : World} {N off : Nat} {L : List Value}
theorem Upd.refl(h:CellsAt w N off L):Upd P w w N off L:=⟨.refl _ _,h,fun _ _=>rfl,fun _=>rfl⟩
theorem Upd.set(h:Upd P w w' N off L)(i:Nat)(u:Value)(hi:i<L.length)(hP:P N):Upd P w (w'.setCell ⟨N,off+i,none⟩ u) N off (L.set i u):=
 ⟨h.mods.trans (Mods.setCell _ _ _ _ hP),h.cells.set i u hi,fun j hj=>by
  rw [List.length_set]at hj
  rw [World.cell?_setCell_other _ _ _ _ (by simp<;>omega)];exact h.out j hj,fun j=>(World.frozen?_setCell _ _ _ _).trans (h.frz j)⟩
theorem Upd.block(h:Upd P w w' N off L)(hm:Mods P w' w'')(e:w''.heap[N]? =w'.heap[N]?):Upd P w w'' N off L:=
 ⟨h.mods.trans hm,h.cells.same fun o=>World.cell?_of_block (a:=⟨N,o,none⟩) e,fun j hj=>(World.cell?_of_block (a:=⟨N,j,none⟩) e).trans (h.out j hj),fun j=>(World.frozen?_of_block (a:=⟨N,j,none⟩) e).trans (h.frz j)⟩
theorem Upd.grows(h:Upd P w w' N off L)(hN:N<w.heap.size)(hg:w'.Grows w''):Upd P w w'' N off L:=
 h.block (.grows hg) (hg.below.block N (Nat.lt_of_lt_of_le hN h.mods.size))
theorem Upd.pre(hg:w.Grows w')(hN:N<w.heap.size)(h:Upd P w' w'' N off L):Upd P w w'' N off L:=by
 have e:=hg.below.block N hN
 exact⟨(Mods.grows hg).trans h.mods,h.cells,fun j hj=>(h.out j hj).trans (World.cell?_of_block (a:=⟨N,j,none⟩) e),fun j=>(h.frz j).trans (World.frozen?_of_block (a:=⟨N,j,none⟩) e)⟩
end
structure StkR(N o B:Nat)(v v':Value)(zs:List Int)(w w':World):Prop where
 upd:Upd (fun k=>k=N∨v.ownBlock=some k) w w' N o [v']
 row:w'.ownsRow B 3 1 v' zs.length (zs.map (Value.int .i64))
 own:∀k,v'.ownBlock=some k→v.ownBlock=some k∨w.heap.size≤k
theorem StkR.trans{N o B:Nat}{v v1 v2:Value}{zs1 zs2:List Int}{w w1 w2:World}(h:StkR N o B v v1 zs1 w w1)(k:StkR N o B v1 v2 zs2 w1 w2):StkR N o B v v2 zs2 w w2:=by
 refine⟨⟨h.upd.mods.trans2 k.upd.mods fun i hi hq=>?_,k.upd.cells,fun j hj=>(k.upd.out j hj).trans (h.upd.out j hj),fun j=>(k.upd.frz j).trans (h.upd.frz j)⟩,k.row,fun i hi=>?_⟩
 ·rcases hq with hq|hq
  ·exact .inl hq
  ·rcases h.own i hq with e|e
   ·exact .inr e
   ·omega
 ·rcases k.own i hi with e|e
  ·exact h.own i e
  ·exact .inr (Nat.le_trans h.upd.mods.size e)
theorem StkR.pre{N o B:Nat}{v v':Value}{zs:List Int}{w w1 w':World}(hg:w.Grows w1)(hN:N<w.heap.size)(h:StkR N o B v v' zs w1 w'):StkR N o B v v' zs w w':=
 ⟨h.upd.pre hg hN,h.row,fun k hk=>(h.own k hk).imp id fun e=>Nat.le_trans hg.below.size e⟩
theorem PushP.stk{N off B:Nat}{v:Value}{zs:List Int}{dim:Int}{w w':World}{e:Ending}(h:PushP N off v zs B dim w e w')(c1:w.cell? ⟨N,off+1,none⟩=some v)(hne:v.ownBlock≠some N)(hN:N<w.heap.size) :
 e= .returned (.tuple #[])∧∃g cap,StkR N (off+1) B v (.slice (some ⟨g,0,none⟩) (zs++[dim]).length cap) (zs++[dim]) w w':=by
 obtain⟨he,g,cap,w1,ho,hg,hgg,hgl,rfl⟩:=h
 refine⟨he,g,cap, ?_⟩
 have hL:(zs++[dim]).length=zs.length+1:=by simp
 rw [hL]
 have hNg:N≠g:=by
  rcases hgg with e|e
  ·intro h;subst h;exact hne e
  ·omega
 have c1':CellsAt w1 N (off+1) [v]:=fun i u hu=>by
  match i,hu with
  |0,hu=>
   obtain rfl:=Option.some.inj hu
   exact(hg.cell_far ⟨N,off+1,none⟩ hN (fun e=>hne e.symm)).trans c1
  |i+1,hu=>simp at hu
 have U0:Upd (fun k=>k=N∨v.ownBlock=some k) w w1 N (off+1) [v]:=⟨Mods.grown hg fun k hk=>.inr hk,c1',fun j _=>hg.cell_far ⟨N,j,none⟩ hN (fun e=>hne e.symm),fun j=>hg.frozen_far ⟨N,j,none⟩ hN (fun e=>hne e.symm)⟩
 have U1:=U0.set 0 (.slice (some ⟨g,0,none⟩) (zs.length+1) cap) (by simp) (.inl rfl)
 refine⟨U1, ?_,fun k hk=>?_⟩
 ·rw [hL]
  exact Mods.row (P:=fun k=>k=N) (Mods.setCell _ _ _ _ rfl) ho fun k hk e=>by
   have:g=k:=by simpa [Value.ownBlock]using hk
   omega
 ·have:g=k:=by simpa [Value.ownBlock]using hk
  subst this
  exact hgg.imp id id
def StC(w:World)(N off:Nat)(r:Bool)(v:Value)(bs:List Bool):Prop:=bs.length=12∧CellsAt w N off (.bool r::v::bs.map .bool)
theorem twelve{bs:List Bool}(h:bs.length=12):∃b0 b1 b2 b3 b4 b5 b6 b7 b8 b9 b10 b11,bs= [b0,b1,b2,b3,b4,b5,b6,b7,b8,b9,b10,b11]:=by
 match bs,h with
 | [b0,b1,b2,b3,b4,b5,b6,b7,b8,b9,b10,b11],_=>exact⟨b0,b1,b2,b3,b4,b5,b6,b7,b8,b9,b10,b11,rfl⟩
def mrgF(o:Option (List Int × List Bool))(s:List Int × List Bool):Option (List Int × List Bool):=
 match o with
 |none=>some s
 |some t=>if t.1=s.1 then some (t.1,List.zipWith (· && ·) t.2 s.2)else none
theorem putA_mrg(S:List (Option (List Int × List Bool)))(k:Nat)(s:List Int × List Bool):putA S k s=(mrgF (S.getD k none) s).map fun x=>S.set k (some x):=by
 unfold putA mrgF
 cases S.getD k none with
 |none=>rfl
 |some t=>by_cases e:t.1=s.1<;>simp [e]
def StM(w:World)(N off:Nat)(v:Value):Option (List Int × List Bool)→Prop
 |none=>∃bs,StC w N off false (.slice none 0 0) bs
 |some s=>StC w N off true v s.2
theorem StC.same{w w':World}{N off:Nat}{r:Bool}{v:Value}{bs:List Bool}(h:StC w N off r v bs)(he:∀o,w'.cell? ⟨N,o,none⟩=w.cell? ⟨N,o,none⟩):StC w' N off r v bs:=⟨h.1,h.2.same he⟩
theorem StM.same{w w':World}{N off:Nat}{v:Value}{o:Option (List Int × List Bool)}(h:StM w N off v o)(he:∀o,w'.cell? ⟨N,o,none⟩=w.cell? ⟨N,o,none⟩):StM w' N off v o:=by
 cases o with
 |none=>obtain⟨bs,h⟩:=h;exact⟨bs,h.same he⟩
 |some s=>exact StC.same h he
theorem StC.near{w w':World}{N off:Nat}{r:Bool}{v:Value}{bs:List Bool}(h:StC w N off r v bs)(he:∀i,off≤i→i<off+14→w'.cell? ⟨N,i,none⟩=w.cell? ⟨N,i,none⟩):StC w' N off r v bs:=
 ⟨h.1,fun i u hu=>by
  have hi:i<(Value.bool r::v::bs.map .bool).length:=(List.getElem?_eq_some_iff.1 hu).1
  simp [h.1]at hi
  exact(he _ (by omega) (by omega)).trans (h.2 i u hu)⟩
theorem StM.near{w w':World}{N off:Nat}{v:Value}{o:Option (List Int × List Bool)}(h:StM w N off v o)(he:∀i,off≤i→i<off+14→w'.cell? ⟨N,i,none⟩=w.cell? ⟨N,i,none⟩):StM w' N off v o:=by
 cases o with
 |none=>obtain⟨bs,h⟩:=h;exact⟨bs,h.near he⟩
 |some s=>exact StC.near h he
theorem row_frm{w:World}{B:Nat}{e:TypeId}{z n:Nat}{v:Value}{xs:List Value}(h:w.ownsRow B e z v n xs):(v= .slice none 0 0∧n=0)∨∃g cap,v= .slice (some ⟨g,0,none⟩) n cap∧B≤g∧g<w.heap.size∧n≤cap:=by
 obtain⟨-,h|⟨g,cap,cur,rfl,hb,hg,hn,-⟩⟩:=h
 ·exact .inl h
 ·exact .inr ⟨g,cap,rfl,hb,(Array.getElem?_eq_some_iff.1 hg).1,hn⟩
theorem grownBy_refl'(w:World)(r:Option Nat):w.grownBy w r:=⟨rfl,rfl,rfl,Nat.le_refl _,fun _ _ _=>rfl⟩

theorem index_byte:∀(l:List UInt8) (c:UInt8),Lib.index l [c]=Lib.indexByte l c
 | [],c=>by simp [Lib.index,Lib.indexByte]
 |b::l,c=>by
  have ih:=index_byte l c
  have hp:([c]:List UInt8).isPrefixOf (b::l)=(b==c):=by
   simp only [List.isPrefixOf,Bool.and_true]
   exact BEq.comm
  unfold Lib.index Lib.indexByte
  rw [hp,ih]
def cutA(t:ByteArray):ByteArray:=⟨(Lib.cut t.data.toList [46]).1.toArray⟩
def cutB(t:ByteArray):ByteArray:=⟨(Lib.cut t.data.toList [46]).2.1.toArray⟩
def cutP(t:ByteArray):Bool:=(Lib.cut t.data.toList [46]).2.2
theorem cut_some{t:ByteArray}{o:Nat}(h:Lib.indexByte t.data.toList 46=o)(ho:o<t.size):cutA t=t.extract 0 o∧cutB t=t.extract (o+1) t.size∧cutP t=true:=by
 have e:Lib.cut t.data.toList [46]=(t.data.toList.take o,t.data.toList.drop (o+1),true):=by
  unfold Lib.cut
  rw [index_byte,h,if_pos (by omega)]
  simp
 unfold cutA cutB cutP
 rw [e]
 refine⟨?_, ?_,rfl⟩
 ·apply ByteArray.ext
  rw [ByteArray.data_extract]
  apply Array.ext'
  rw [Array.toList_extract]
  simp [List.extract]
 ·apply ByteArray.ext
  rw [ByteArray.data_extract]
  apply Array.ext'
  rw [Array.toList_extract]
  simp only [List.extract]
  rw [List.take_of_length_le]
  rw [List.length_drop,Array.length_toList]
  exact Nat.le_refl _
theorem cut_none{t:ByteArray}(h:Lib.indexByte t.data.toList 46= -1):cutA t=t∧cutB t=⟨#[]⟩∧cutP t=false:=by
 have e:Lib.cut t.data.toList [46]=(t.data.toList,[],false):=by
  unfold Lib.cut
  rw [index_byte,h,if_neg (by omega)]
 unfold cutA cutB cutP
 rw [e]
 exact⟨by apply ByteArray.ext;simp,rfl,rfl⟩
theorem scut_any(t:ByteArray)(w:World)(ht:t.size≤maxLen):Calls Tryz.prog 299 #[.string t,.string ⟨#[46]⟩] w fun e w'=>e= .returned (.tuple #[.string (cutA t),.string (cutB t),.bool (cutP t)])∧w.Grows w':=by
 unfold maxLen at ht
 have HI:Hid _:=Lib.hid (fun w=>Tryz.stringslite_Index_one t 46 w)
 have hge:=Lib.indexByte_ge t.data.toList 46
 by_cases h:Lib.indexByte t.data.toList 46= -1
 ·have HC:=Lib.hid (cut_none h)
  rw [h]at HI
  clear h hge
  go_enter Tryz.func299,Tryz.ntmps299
  go_wp2_with ((go_at_call 313;(with_reducible refine(HI.out _).mono ?_);rintro e w' ⟨rfl,rfl⟩))
  go_returns
  exact⟨by rw [HC.out.1,HC.out.2.1,HC.out.2.2];rfl,.of_below belB⟩
 ·obtain⟨o,ho⟩:∃o:Nat,Lib.indexByte t.data.toList 46=o:=⟨(Lib.indexByte t.data.toList 46).toNat,by omega⟩
  have hlt:o<t.size:=by
   have:=(Lib.indexByte_some ho).1
   have h2:=(List.getElem?_eq_some_iff.1 this).1
   simpa using h2
  have HC:=Lib.hid (cut_some ho hlt)
  rw [ho]at HI
  have h1:(o:Int)+1≤t.size:=by omega
  have h2:¬(o:Int)<0:=by omega
  have h3:(o:Int)≤t.size:=by omega
  have e1:(t.extract 0 (o:Int).toNat)=t.extract 0 o:=by rw [Int.toNat_natCast]
  have e2:t.extract ((o:Int)+1).toNat t.size=t.extract (o+1) t.size:=by congr 1
  have E:=Lib.hid (And.intro e1 e2)
  clear e1 e2 h hge ho
  go_enter Tryz.func299,Tryz.ntmps299
  go_wp2_with ((go_at_call 313;(with_reducible refine(HI.out _).mono ?_);rintro e w' ⟨rfl,rfl⟩))
  go_quiet (fail)
  go_wp2_with fail
  go_returns
  exact⟨by rw [HC.out.1,HC.out.2.1,HC.out.2.2];first|rfl|(simp;done),.of_below belB⟩
theorem Cut_dot(t:ByteArray)(w:World)(ht:t.size≤maxLen):Calls Tryz.prog 282 #[.string t,.string ⟨#[46]⟩] w fun e w'=>e= .returned (.tuple #[.string (cutA t),.string (cutB t),.bool (cutP t)])∧w.Grows w':=by
 have HI:Hid _:=Lib.hid (fun w=>scut_any t w ht)
 generalize cutA t=a at *
 generalize cutB t=b at *
 generalize cutP t=c at *
 go_enter Tryz.func282,Tryz.ntmps282
 go_wp2_with ((go_at_call 299;(with_reducible refine(HI.out _).mono ?_);rintro e w' ⟨rfl,bs,dr,rfl⟩))
 exact sz15

def formB(a b:ByteArray)(pt:Bool):Bool:=decForm a.data.toList b.data.toList pt
def decM(t:ByteArray)(m:Int):Option (Int × Int × Int):=if formB (cutA t) (cutB t) (cutP t)=true then decN (cutA t) (cutB t) m else none
theorem form_eq(a b:ByteArray)(pt:Bool):formB a b pt=(decide (1≤a.size)&&decide (a.size≤9)&&!(decide (1<a.size)&&decide (a.data.toList.head? =some 48))&&!(pt&&(decide (b.size<1) || decide (4<b.size)))):=by
 unfold formB decForm
 have h1:a.data.toList.length=a.size:=by simp
 have h2:b.data.toList.length=b.size:=by simp
 rw [h1,h2]
theorem head_eq{a:ByteArray}(h:0<a.size):(a.data.toList.head? =some 48)↔((a[0]'h).toNat:Int)=48:=by
 have h2:0<a.data.toList.length:=by simpa using h
 rw [List.head?_eq_getElem?,List.getElem?_eq_getElem h2]
 have e:a.data.toList[0]=a[0]'h:=by simp;rfl
 rw [e]
 constructor
 ·intro k;simp only [Option.some.injEq]at k;rw [k];rfl
 ·intro k
  congr 1
  apply UInt8.toNat_inj.1
  have:(48:UInt8).toNat=48:=rfl
  omega
def decK(a b:ByteArray)(pt:Bool)(m:Int):Option (Int × Int × Int):=if formB a b pt=true then decN a b m else none
theorem cutB_nil{t:ByteArray}(h:cutP t=false):(cutB t).size=0:=by
 unfold cutP Lib.cut at h
 unfold cutB Lib.cut
 split at h
 ·simp at h
 ·rename_i hc;rw [if_neg hc];rfl
theorem dec_T1k(t a b:ByteArray)(pt:Bool)(m:Int)(w:World)(hpt:pt=false→b.size=0)
 (HC:Hid (∀w,Calls Tryz.prog 282 #[.string t,.string ⟨#[46]⟩] w fun e w'=>e= .returned (.tuple #[.string a,.string b,.bool pt])∧w.Grows w'))
 (u1 u4 u5 u6 u7 u8 u9 u10 u11 u12 u13 u14 u15 u16 u17 u18 u19 u20 u21 u22 u23 u24 u25 u26 u27 u28 u29 u30 u31 u32 u33 u34 u35 u36 u37 u38 u39 u40 u41 u42 u43 u44 u45 u46 u47 u48 u49 u50 u51 u52 u53 u54 u55 u56 u57 u58 u59 u60 u61 u62 u63 u64 u65 u66 u67 u68 u69 u70 u71 u72 u73 u74 u75 u76 u77 u78 u79 u80 u81 u82 u83 u84 u85 u86 u87 u88 u89 u90 u91 u92 u93 u94 u95 u96 u97 u98 u99 u100 u101 u102 u103 u104 u105 u106 u107 u108 u109 u110 u111 u112 u113 u114 u115 u116 u117 u118 u119 u120 u121 u122 u123 u124 u125 u126 u127 u128 u129 u130 u131 u132 u133 u134 u135 u136 u137 u138 u139 u140 u141:Value) :
 Code.wp Tryz.prog (tlD (tlD (tlD (Tryz.f258.body.getD .skip)))) (bodyPost Tryz.prog Tryz.f258 (fun e w'=>e= .returned (decFV (decK a b pt m))∧w.Grows w')) {tmps:=#[.string t,u1,.pointer (some ⟨w.heap.size,0,none⟩),.int .i64 m,u4,u5,u6,u7,u8,u9,u10,u11,u12,u13,u14,u15,u16,u17,u18,u19,u20,u21,u22,u23,u24,u25,u26,u27,u28,u29,u30,u31,u32,u33,u34,u35,u36,u37,u38,u39,u40,u41,u42,u43,u44,u45,u46,u47,u48,u49,u50,u51,u52,u53,u54,u55,u56,u57,u58,u59,u60,u61,u62,u63,u64,u65,u66,u67,u68,u69,u70,u71,u72,u73,u74,u75,u76,u77,u78,u79,u80,u81,u82,u83,u84,u85,u86,u87,u88,u89,u90,u91,u92,u93,u94,u95,u96,u97,u98,u99,u100,u101,u102,u103,u104,u105,u106,u107,u108,u109,u110,u111,u112,u113,u114,u115,u116,u117,u118,u119,u120,u121,u122,u123,u124,u125,u126,u127,u128,u129,u130,u131,u132,u133,u134,u135,u136,u137,u138,u139,u140,u141],defers:=[]} (w.alloc (.cells #[.int .i64 0,.int .i64 0] 24)):=by
 have hf:=form_eq a b pt
 have hbad (h:formB a b pt=false):decK a b pt m=none:=by unfold decK;rw [h];rfl
 have hgood (h:formB a b pt=true):decK a b pt m=decN a b m:=by unfold decK;rw [h];rfl
 conv=>arg 2;whnf
 apply wp_seq_k
 intro K1 hK1
 have HK1:=Lib.hid hK1
 clear hK1
 go_wp2_with ((go_at_call 282;(with_reducible refine(HC.out _).mono ?_);rintro e w' ⟨rfl,bs,dr,rfl⟩))
 clear HC
 by_cases s1:1≤a.size
 case neg=>
  have HX:=Lib.hid (hbad (by rw [hf,decide_eq_false s1];rfl))
  have z1:(a.size:Int)<1:=by omega
  clear hf hbad hgood
  refine HK1.out _ _ ?_
  apply wp_seq_k
  intro K2 hK2
  have HK2:=Lib.hid hK2
  clear hK2
  go_wp2_with fail
  go_returns
  exact⟨by rw [HX.out];rfl,.of_below belB⟩
 by_cases s2:a.size≤9
 case neg=>
  have HX:=Lib.hid (hbad (by rw [hf,decide_eq_false s2,Bool.and_false];rfl))
  have z1:(9:Int)<(a.size:Int):=by omega
  clear hf hbad hgood
  refine HK1.out _ _ ?_
  apply wp_seq_k
  intro K2 hK2
  have HK2:=Lib.hid hK2
  clear hK2
  go_wp2_with fail
  go_returns
  exact⟨by rw [HX.out];rfl,.of_below belB⟩
 have h0:0<a.size:=by omega
 have hh:=head_eq h0
 have key (hz:(decide (1<a.size)&&decide (a.data.toList.head? =some 48))=false):formB a b pt=!(pt&&(decide (b.size<1) || decide (4<b.size))):=by
  rw [hf,decide_eq_true s1,decide_eq_true s2,hz];rfl
 by_cases s3:1<a.size
 ·by_cases s4:((a[0]'h0).toNat:Int)=48
  ·have HX:=Lib.hid (hbad (by rw [hf,decide_eq_true s3,decide_eq_true (hh.2 s4)];simp))
   have z1:(1:Int)<(a.size:Int):=by omega
   have z2:(a.size:Int)≤9:=by omega
   clear hf hbad hgood key hh
   refine HK1.out _ _ ?_
   apply wp_seq_k
   intro K2 hK2
   have HK2:=Lib.hid hK2
   clear hK2
   go_wp2_with fail
   go_returns
   exact⟨by rw [HX.out];rfl,.of_below belB⟩
  ·have hz:(decide (1<a.size)&&decide (a.data.toList.head? =some 48))=false:=by rw [decide_eq_false (fun h=>s4 (hh.1 h)),Bool.and_false]
   have hk:=key hz
   have s7:(((a[0]'h0).toNat:Int)==48)=false:=by simpa using s4
   have z1:(1:Int)<(a.size:Int):=by omega
   have z2:(a.size:Int)≤9:=by omega
   clear hf key hh hz
   cases pt
   ·have HX:=Lib.hid (hgood (by rw [hk];rfl))
    have hb0:=hpt rfl
    clear hk hbad hgood hpt
    refine HK1.out _ _ ?_
    apply wp_seq_k
    intro K2 hK2
    have HK2:=Lib.hid hK2
    clear hK2
    go_wp2_with fail
    refine HK2.out _ _ ?_
    rw [HX.out]
    exact dec_T2 a b m w bs _ (by omega) (by omega) _ _ _ _ _ _ _ _ _ _ _ _ _ _ _ _ _ _ _ _ _ _ _ _ _ _ _ _ _ _ _ _ _ _ _ _ _ _ _ _ _ _ _ _ _ _ _ _ _ _ _ _ _ _ _ _ _ _ _ _ _ _ _ _ _ _ _ _ _ _ _ _ _ _ _ _ _ _ _ _ _ _ _ _ _ _ _ _ _ _ _ _ _ _ _ _ _ _ _ _ _ _ _ _ _ _ _ _ _ _ _ _ _ _ _ _ _ _ _ _ _ _ _ _ _ _ _ _ _ _ _ _ _ _ _ _ _ _
   ·clear hpt
    by_cases s5:b.size<1
    ·have HX:=Lib.hid (hbad (by rw [hk,decide_eq_true s5];rfl))
     have z3:(b.size:Int)<1:=by omega
     clear hk hbad hgood
     refine HK1.out _ _ ?_
     apply wp_seq_k
     intro K2 hK2
     have HK2:=Lib.hid hK2
     clear hK2
     go_wp2_with fail
     go_returns
     exact⟨by rw [HX.out];rfl,.of_below belB⟩
    ·by_cases s6:4<b.size
     ·have HX:=Lib.hid (hbad (by rw [hk,decide_eq_true s6];simp))
      have z3:(4:Int)<(b.size:Int):=by omega
      clear hk hbad hgood
      refine HK1.out _ _ ?_
      apply wp_seq_k
      intro K2 hK2
      have HK2:=Lib.hid hK2
      clear hK2
      go_wp2_with fail
      go_returns
      exact⟨by rw [HX.out];rfl,.of_below belB⟩
     ·have HX:=Lib.hid (hgood (by rw [hk,decide_eq_false s5,decide_eq_false s6];rfl))
      have z3:(b.size:Int)≤4:=by omega
      have z4:(1:Int)≤(b.size:Int):=by omega
      clear hk hbad hgood
      refine HK1.out _ _ ?_
      apply wp_seq_k
      intro K2 hK2
      have HK2:=Lib.hid hK2
      clear hK2
      go_wp2_with fail
      refine HK2.out _ _ ?_
      rw [HX.out]
      exact dec_T2 a b m w bs _ (by omega) (by omega) _ _ _ _ _ _ _ _ _ _ _ _ _ _ _ _ _ _ _ _ _ _ _ _ _ _ _ _ _ _ _ _ _ _ _ _ _ _ _ _ _ _ _ _ _ _ _ _ _ _ _ _ _ _ _ _ _ _ _ _ _ _ _ _ _ _ _ _ _ _ _ _ _ _ _ _ _ _ _ _ _ _ _ _ _ _ _ _ _ _ _ _ _ _ _ _ _ _ _ _ _ _ _ _ _ _ _ _ _ _ _ _ _ _ _ _ _ _ _ _ _ _ _ _ _ _ _ _ _ _ _ _ _ _ _ _ _ _
 ·have hz:(decide (1<a.size)&&decide (a.data.toList.head? =some 48))=false:=by rw [decide_eq_false s3,Bool.false_and]
  have hk:=key hz
  have z1:(a.size:Int)≤1:=by omega
  have z2:(1:Int)≤(a.size:Int):=by omega
  clear hf key hh hz
  cases pt
  ·have HX:=Lib.hid (hgood (by rw [hk];rfl))
   have hb0:=hpt rfl
   clear hk hbad hgood hpt
   refine HK1.out _ _ ?_
   apply wp_seq_k
   intro K2 hK2
   have HK2:=Lib.hid hK2
   clear hK2
   go_wp2_with fail
   refine HK2.out _ _ ?_
   rw [HX.out]
   exact dec_T2 a b m w bs _ (by omega) (by omega) _ _ _ _ _ _ _ _ _ _ _ _ _ _ _ _ _ _ _ _ _ _ _ _ _ _ _ _ _ _ _ _ _ _ _ _ _ _ _ _ _ _ _ _ _ _ _ _ _ _ _ _ _ _ _ _ _ _ _ _ _ _ _ _ _ _ _ _ _ _ _ _ _ _ _ _ _ _ _ _ _ _ _ _ _ _ _ _ _ _ _ _ _ _ _ _ _ _ _ _ _ _ _ _ _ _ _ _ _ _ _ _ _ _ _ _ _ _ _ _ _ _ _ _ _ _ _ _ _ _ _ _ _ _ _ _ _ _
  ·clear hpt
   by_cases s5:b.size<1
   ·have HX:=Lib.hid (hbad (by rw [hk,decide_eq_true s5];rfl))
    have z3:(b.size:Int)<1:=by omega
    clear hk hbad hgood
    refine HK1.out _ _ ?_
    apply wp_seq_k
    intro K2 hK2
    have HK2:=Lib.hid hK2
    clear hK2
    go_wp2_with fail
    go_returns
    exact⟨by rw [HX.out];rfl,.of_below belB⟩
   ·by_cases s6:4<b.size
    ·have HX:=Lib.hid (hbad (by rw [hk,decide_eq_true s6];simp))
     have z3:(4:Int)<(b.size:Int):=by omega
     clear hk hbad hgood
     refine HK1.out _ _ ?_
     apply wp_seq_k
     intro K2 hK2
     have HK2:=Lib.hid hK2
     clear hK2
     go_wp2_with fail
     go_returns
     exact⟨by rw [HX.out];rfl,.of_below belB⟩
    ·have HX:=Lib.hid (hgood (by rw [hk,decide_eq_false s5,decide_eq_false s6];rfl))
     have z3:(b.size:Int)≤4:=by omega
     have z4:(1:Int)≤(b.size:Int):=by omega
     clear hk hbad hgood
     refine HK1.out _ _ ?_
     apply wp_seq_k
     intro K2 hK2
     have HK2:=Lib.hid hK2
     clear hK2
     go_wp2_with fail
     refine HK2.out _ _ ?_
     rw [HX.out]
     exact dec_T2 a b m w bs _ (by omega) (by omega) _ _ _ _ _ _ _ _ _ _ _ _ _ _ _ _ _ _ _ _ _ _ _ _ _ _ _ _ _ _ _ _ _ _ _ _ _ _ _ _ _ _ _ _ _ _ _ _ _ _ _ _ _ _ _ _ _ _ _ _ _ _ _ _ _ _ _ _ _ _ _ _ _ _ _ _ _ _ _ _ _ _ _ _ _ _ _ _ _ _ _ _ _ _ _ _ _ _ _ _ _ _ _ _ _ _ _ _ _ _ _ _ _ _ _ _ _ _ _ _ _ _ _ _ _ _ _ _ _ _ _ _ _ _ _ _ _ _
theorem decM_eq(t:ByteArray)(m:Int):decM t m=decP (Lib.cut t.data.toList [46]).1 (Lib.cut t.data.toList [46]).2.1 (Lib.cut t.data.toList [46]).2.2 m:=by
 unfold decM formB decN decP cutA cutB cutP
 simp [ByteArray.size]
theorem strip_eq{s t:ByteArray}{m:Int}(h:stripM s.data.toList=(t.data.toList,m)):decF s.data.toList=decM t m:=by
 unfold decF
 rw [h,decM_eq]
theorem last_eq{s:ByteArray}{n:Nat}(h:s.size=n+1):s.data.toList.getLast? =some (s[n]'(by omega)):=by
 have h3:s.data.toList.length=s.size:=by simp
 have h2:s.data.toList≠[]:=by
  intro e
  rw [e]at h3;simp at h3;omega
 rw [List.getLast?_eq_some_getLast h2,List.getLast_eq_getElem]
 congr 1
 have e:s.data.toList.length-1=n:=by omega
 simp only [e]
 rfl
theorem drop_last{s:ByteArray}{n:Nat}(h:s.size=n+1):(s.extract 0 n).data.toList=s.data.toList.dropLast:=by
 rw [ByteArray.data_extract,Array.toList_extract]
 have h3:s.data.toList.length=s.size:=by simp
 simp only [List.extract,List.drop_zero,Nat.sub_zero,List.dropLast_eq_take]
 congr 1
 omega
theorem Decimal2_any(s:ByteArray)(w:World)(hs:s.size≤maxLen):Calls Tryz.prog 258 #[.string s] w fun e w'=>e= .returned (decFV (decF s.data.toList))∧w.Grows w':=by
 by_cases h0:0<s.size
 ·obtain⟨n,hn⟩:∃n,s.size=n+1:=⟨s.size-1,by omega⟩
  have hl:=last_eq hn
  have hd:=drop_last hn
  have hm:s.size≤9223372036854775807:=by unfold maxLen at hs;omega
  have he:(s.extract 0 n).size≤maxLen:=by rw [ByteArray.size_extract];omega
  have hlt:n<s.size:=by omega
  obtain⟨c,hc⟩:∃c,s[n]'hlt=c:=⟨_,rfl⟩
  rw [hc]at hl
  have hN:(s.size:Int)=(n:Int)+1:=by omega
  by_cases c3:c=100
  ·have HF:Hid (decF s.data.toList=decK (cutA (s.extract 0 n)) (cutB (s.extract 0 n)) (cutP (s.extract 0 n)) 3):=Lib.hid (strip_eq (by unfold stripM;rw [hl,c3,if_pos rfl,hd]))
   have HE:=Lib.hid he
   have q1:((c.toNat:Int)==100)=true:=by rw [c3];rfl
   clear he hl hd c3 hs
   exact sz4
  ·by_cases c4:c=109
   focus
    have HF:Hid (decF s.data.toList=decK (cutA (s.extract 0 n)) (cutB (s.extract 0 n)) (cutP (s.extract 0 n)) 4):=Lib.hid (strip_eq (by unfold stripM;rw [hl,c4,if_neg (by decide),if_pos rfl,hd]))
    have HE:=Lib.hid he
    have q1:((c.toNat:Int)==100)=false:=by rw [c4];rfl
    have q2:((c.toNat:Int)==109)=true:=by rw [c4];rfl
   rotate_left
   focus
    have HF:Hid (decF s.data.toList=decK (cutA s) (cutB s) (cutP s) 2):=Lib.hid (strip_eq (by unfold stripM;rw [hl,if_neg (by simpa using c3),if_neg (by simpa using c4)]))
    have HE:=Lib.hid hs
    have q1:((c.toNat:Int)==100)=false:=by
     rw [beq_eq_false_iff_ne];intro k;exact c3 (UInt8.toNat_inj.1 (by have:(100:UInt8).toNat=100:=rfl;omega))
    have q2:((c.toNat:Int)==109)=false:=by
     rw [beq_eq_false_iff_ne];intro k;exact c4 (UInt8.toNat_inj.1 (by have:(109:UInt8).toNat=109:=rfl;omega))
   rotate_left
   all_goals
    clear he hl hd c3 c4 hs
    exact sz4
 ·have h1:s.data.toList= []:=by
   have h3:s.data.toList.length=s.size:=by simp
   exact List.eq_nil_of_length_eq_zero (by omega)
  have HF:Hid (decF s.data.toList=decK (cutA s) (cutB s) (cutP s) 2):=Lib.hid (strip_eq (by rw [h1];rfl))
  have HE:=Lib.hid hs
  have hN:(s.size:Int)=0:=by omega
  clear h1 hs
  exact sz4
theorem wellFormed_any(l:List Ins)(sl:List ByteArray)(vi vs:Value)(i:Nat)(w:World)(hI:InsAt w vi l)(hS:SlAt w vs sl)(hi:i<l.length) :
 Calls Tryz.prog 106 #[.agg #[vi,vs],.int .i64 i] w fun e w'=>e= .returned (.bool (wfF sl.length l.length i (l.getD i default)))∧w.Grows w':=by
 obtain⟨hl6,ai,ci,rfl,hx⟩:=hI
 obtain⟨hs6,-,as',cs',-,rfl,-⟩:=hS
 rcases hx with h0|⟨b,off,rfl,hb,hx⟩
 ·omega
 obtain⟨⟨hn,hd⟩,x0,x1,x2,x3⟩:=hx i hi
 have d1:(i:Int)<(l.length:Int):=by omega
 generalize l.getD i default=x at *
 obtain⟨op,a,n,d⟩:=x
 dsimp only at *
 have HV:=Lib.hid (fun w=>Valid2_any n d w hn.1 hn.2 hd.1 hd.2)
 clear hx hi
 generalize sl.length=m at *
 generalize l.length=N at *
 by_cases h1:op=1
 ·subst h1
  by_cases ha:a=2∨a=3∨a=4
  ·have HW:Hid (wfF m N i ⟨1,a,n,d⟩=vfrac n d):=Lib.hid (by unfold wfF;rw [if_pos rfl,decide_eq_true ha];rfl)
   rcases ha with rfl|rfl|rfl
   focus
    go_enter Tryz.func106,Tryz.ntmps106
   rotate_left
   focus
    go_enter Tryz.func106,Tryz.ntmps106
   rotate_left
   focus
    go_enter Tryz.func106,Tryz.ntmps106
   rotate_left
   all_goals
    go_wp2_with (first
     |(go_at_call 177;refine(HV.out _).mono ?_;rintro e' w' ⟨rfl,bs,d',rfl⟩)
     |(go_at_call 103;refine(oper2_any _ _).mono ?_;rintro e' w' ⟨rfl,rfl⟩))
    go_returns
    exact⟨by rw [HW.out];first|rfl|simp [*],growsR⟩
  ·have HW:Hid (wfF m N i ⟨1,a,n,d⟩=false):=Lib.hid (by unfold wfF;rw [if_pos rfl,decide_eq_false ha];rfl)
   have a2:(a==2)=false:=by simp;omega
   have a3:(a==3)=false:=by simp;omega
   have a4:(a==4)=false:=by simp;omega
   clear ha
   go_enter Tryz.func106,Tryz.ntmps106
   go_wp2_with (first
    |(go_at_call 177;refine(HV.out _).mono ?_;rintro e' w' ⟨rfl,bs,d',rfl⟩)
    |(go_at_call 103;refine(oper2_any _ _).mono ?_;rintro e' w' ⟨rfl,rfl⟩))
   go_returns
   exact⟨by rw [HW.out];first|rfl|simp [*],growsR⟩
 have b1:(op==1)=false:=by simpa using h1
 by_cases hz:n=0∧d=0
 case neg=>
  have HW:Hid (wfF m N i ⟨op,a,n,d⟩=false):=Lib.hid (by unfold wfF;rw [if_neg h1,if_pos hz])
  by_cases hn0:n=0
  focus
   subst hn0
   have hd0:(d==0)=false:=by simp;omega
  rotate_left
  focus
   have hn1:(n==0)=false:=by simpa using hn0
  rotate_left
  all_goals
   clear hz
   go_enter Tryz.func106,Tryz.ntmps106
   go_wp2_with (first
    |(go_at_call 177;refine(HV.out _).mono ?_;rintro e' w' ⟨rfl,bs,d',rfl⟩)
    |(go_at_call 103;refine(oper2_any _ _).mono ?_;rintro e' w' ⟨rfl,rfl⟩))
   go_returns
   exact⟨by rw [HW.out];first|rfl|simp [*],growsR⟩
 obtain⟨rfl,rfl⟩:=hz
 clear hn hd HV
 have HV:Hid True:=Lib.hid trivial
 by_cases h2:op=2
 ·subst h2
  have HW:Hid (wfF m N i ⟨2,a,0,0⟩=decide (0≤a∧a<11)):=Lib.hid rfl
  by_cases ha:0≤a
  ·have g1:decide (0≤a)=true:=decide_eq_true ha
   by_cases hm:a<11
   focus
    rw [decide_eq_true ⟨ha,hm⟩]at HW
    have g2:decide (a<11)=true:=decide_eq_true hm
   rotate_left
   focus
    rw [decide_eq_false (fun h=>hm h.2)]at HW
    have g2:decide (a<11)=false:=decide_eq_false hm
   rotate_left
   all_goals
    go_enter Tryz.func106,Tryz.ntmps106
    go_wp2_with fail
    refine TS.begin [10] (World.Grows _) (by kernel_rfl) (by kernel_rfl) grows_drew0 (fun hS=>?_)
    refine TS.wkB 0 hS ?_
    refine TS.wkB 1 hS ?_
    refine TS.wkB 2 hS ?_
    refine TS.wkB 3 hS ?_
    refine TS.wkB 4 hS ?_
    refine TS.wkB 5 hS ?_
    refine TS.one (i:=6) (by kernel_rfl) rfl (fun K1 hK1=>?_)
    have HK1:=Lib.hid hK1
    clear hK1 hS
    dsimp only [List.getElem_toArray,List.getElem_cons_succ,List.getElem_cons_zero]
    go_simp
    go_at_call 101
    refine(inputs2_any _).mono ?_
    rintro e' w' ⟨rfl,bs,d,rfl⟩
    refine TS.go HK1.out growsR (fun hS=>?_)
    clear HK1 K1
    (try simp only [nS])
    refine TS.wkB 7 hS ?_
    refine TS.wkB 8 hS ?_
    refine TS.wkB 9 hS ?_
    refine TS.weB 10 ?_
    clear hS
    go_wp2_with fail
    go_returns
    exact⟨by rw [HW.out];first|rfl|simp [*],growsR⟩
  ·rw [decide_eq_false (fun h=>ha h.1)]at HW
   have g1:decide (0≤a)=false:=decide_eq_false ha
   go_enter Tryz.func106,Tryz.ntmps106
   go_wp2_with fail
   refine TS.begin [10] (World.Grows _) (by kernel_rfl) (by kernel_rfl) grows_drew0 (fun hS=>?_)
   refine TS.wkB 0 hS ?_
   refine TS.wkB 1 hS ?_
   refine TS.wkB 2 hS ?_
   refine TS.wkB 3 hS ?_
   refine TS.take (i:=4) (v:=undef) rfl (by kernel_rfl) (by kernel_rfl) (by kernel_rfl) (by decide) (fun _ _ _ h=>h) (.inl ⟨rfl,rfl⟩) hS ?_
   (try simp only [nS])
   refine TS.take (i:=5) (v:=undef) rfl (by kernel_rfl) (by kernel_rfl) (by kernel_rfl) (by decide) (fun _ _ _ h=>h) (.inl ⟨rfl,rfl⟩) hS ?_
   (try simp only [nS])
   refine TS.take (i:=6) (v:=undef) rfl (by kernel_rfl) (by kernel_rfl) (by kernel_rfl) (by decide) (fun _ _ _ h=>h) (.inl ⟨rfl,rfl⟩) hS ?_
   (try simp only [nS])
   refine TS.take (i:=7) (v:=undef) rfl (by kernel_rfl) (by kernel_rfl) (by kernel_rfl) (by decide) (fun _ _ _ h=>h) (.inl ⟨rfl,rfl⟩) hS ?_
   (try simp only [nS])
   refine TS.take (i:=8) (v:=undef) rfl (by kernel_rfl) (by kernel_rfl) (by kernel_rfl) (by decide) (fun _ _ _ h=>h) (.inl ⟨rfl,rfl⟩) hS ?_
   (try simp only [nS])
   refine TS.wkB 9 hS ?_
   refine TS.weB 10 ?_
   clear hS
   go_wp2_with fail
   go_returns
   exact⟨by rw [HW.out];first|rfl|simp [*],growsR⟩
 have b2:(op==2)=false:=by simpa using h2
 by_cases h3:op=3∨op=4
 ·have HW:Hid (wfF m N i ⟨op,a,0,0⟩=decide (0≤a∧a<m)):=Lib.hid (by unfold wfF;rw [if_neg h1,if_neg (by simp),if_neg h2,if_pos h3])
  by_cases ha:0≤a
  ·by_cases hm:a<m
   focus
    rw [decide_eq_true ⟨ha,hm⟩]at HW
   rotate_left
   focus
    rw [decide_eq_false (fun h=>hm h.2)]at HW
   rotate_left
   all_goals
    rcases h3 with rfl|rfl
    focus
     go_enter Tryz.func106,Tryz.ntmps106
    rotate_left
    focus
     go_enter Tryz.func106,Tryz.ntmps106
    rotate_left
    all_goals
     go_wp2_with (first
      |(go_at_call 177;refine(HV.out _).mono ?_;rintro e' w' ⟨rfl,bs,d',rfl⟩)
      |(go_at_call 103;refine(oper2_any _ _).mono ?_;rintro e' w' ⟨rfl,rfl⟩))
     go_returns
     exact⟨by rw [HW.out];first|rfl|simp [*],growsR⟩
  ·rw [decide_eq_false (fun h=>ha h.1)]at HW
   rcases h3 with rfl|rfl
   focus
    go_enter Tryz.func106,Tryz.ntmps106
   rotate_left
   focus
    go_enter Tryz.func106,Tryz.ntmps106
   rotate_left
   all_goals
    go_wp2_with (first
     |(go_at_call 177;refine(HV.out _).mono ?_;rintro e' w' ⟨rfl,bs,d',rfl⟩)
     |(go_at_call 103;refine(oper2_any _ _).mono ?_;rintro e' w' ⟨rfl,rfl⟩))
    go_returns
    exact⟨by rw [HW.out];first|rfl|simp [*],growsR⟩
 have b3:(op==3)=false:=by simp;omega
 have b4:(op==4)=false:=by simp;omega
 by_cases h5:op=5
 ·subst h5
  have HW:Hid (wfF m N i ⟨5,a,0,0⟩=decide (1≤a∧a≤45)):=Lib.hid rfl
  by_cases ha:1≤a
  ·by_cases hm:a≤45
   focus
    rw [decide_eq_true ⟨ha,hm⟩]at HW
   rotate_left
   focus
    rw [decide_eq_false (fun h=>hm h.2)]at HW
   rotate_left
   all_goals
    go_enter Tryz.func106,Tryz.ntmps106
    go_wp2_with (first
     |(go_at_call 177;refine(HV.out _).mono ?_;rintro e' w' ⟨rfl,bs,d',rfl⟩)
     |(go_at_call 103;refine(oper2_any _ _).mono ?_;rintro e' w' ⟨rfl,rfl⟩))
    go_returns
    exact⟨by rw [HW.out];first|rfl|simp [*],growsR⟩
  ·rw [decide_eq_false (fun h=>ha h.1)]at HW
   go_enter Tryz.func106,Tryz.ntmps106
   go_wp2_with (first
    |(go_at_call 177;refine(HV.out _).mono ?_;rintro e' w' ⟨rfl,bs,d',rfl⟩)
    |(go_at_call 103;refine(oper2_any _ _).mono ?_;rintro e' w' ⟨rfl,rfl⟩))
   go_returns
   exact⟨by rw [HW.out];first|rfl|simp [*],growsR⟩
 have b5:(op==5)=false:=by simpa using h5
 by_cases h21:op=21∨op=22
 ·have HW:Hid (wfF m N i ⟨op,a,0,0⟩=decide ((i:Int)<a∧a≤N)):=Lib.hid (by unfold wfF;rw [if_neg h1,if_neg (by simp),if_neg h2,if_neg h3,if_neg h5,if_pos h21])
  by_cases ha:(i:Int)<a
  ·by_cases hm:a≤N
   focus
    rw [decide_eq_true ⟨ha,hm⟩]at HW
   rotate_left
   focus
    rw [decide_eq_false (fun h=>hm h.2)]at HW
   rotate_left
   all_goals
    rcases h21 with rfl|rfl
    focus
     go_enter Tryz.func106,Tryz.ntmps106
    rotate_left
    focus
     go_enter Tryz.func106,Tryz.ntmps106
    rotate_left
    all_goals
     go_wp2_with (first
      |(go_at_call 177;refine(HV.out _).mono ?_;rintro e' w' ⟨rfl,bs,d',rfl⟩)
      |(go_at_call 103;refine(oper2_any _ _).mono ?_;rintro e' w' ⟨rfl,rfl⟩))
     go_returns
     exact⟨by rw [HW.out];first|rfl|simp [*],growsR⟩
  ·rw [decide_eq_false (fun h=>ha h.1)]at HW
   rcases h21 with rfl|rfl
   focus
    go_enter Tryz.func106,Tryz.ntmps106
   rotate_left
   focus
    go_enter Tryz.func106,Tryz.ntmps106
   rotate_left
   all_goals
    go_wp2_with (first
     |(go_at_call 177;refine(HV.out _).mono ?_;rintro e' w' ⟨rfl,bs,d',rfl⟩)
     |(go_at_call 103;refine(oper2_any _ _).mono ?_;rintro e' w' ⟨rfl,rfl⟩))
    go_returns
    exact⟨by rw [HW.out];first|rfl|simp [*],growsR⟩
 have b21:(op==21)=false:=by simp;omega
 have b22:(op==22)=false:=by simp;omega
 by_cases h23:op=23∨op=24
 ·have HW:Hid (wfF m N i ⟨op,a,0,0⟩=decide (a=0)):=Lib.hid (by unfold wfF;rw [if_neg h1,if_neg (by simp),if_neg h2,if_neg h3,if_neg h5,if_neg h21,if_pos h23])
  by_cases ha:a=0
  focus
   rw [decide_eq_true ha]at HW
   subst ha
  rotate_left
  focus
   rw [decide_eq_false ha]at HW
   have a0:(a==0)=false:=by simpa using ha
  rotate_left
  all_goals
   rcases h23 with rfl|rfl
   focus
    go_enter Tryz.func106,Tryz.ntmps106
   rotate_left
   focus
    go_enter Tryz.func106,Tryz.ntmps106
   rotate_left
   all_goals
    go_wp2_with (first
     |(go_at_call 177;refine(HV.out _).mono ?_;rintro e' w' ⟨rfl,bs,d',rfl⟩)
     |(go_at_call 103;refine(oper2_any _ _).mono ?_;rintro e' w' ⟨rfl,rfl⟩))
    go_returns
    exact⟨by rw [HW.out];first|rfl|simp [*],growsR⟩
 have b23:(op==23)=false:=by simp;omega
 have b24:(op==24)=false:=by simp;omega
 have HW:Hid (wfF m N i ⟨op,a,0,0⟩=decide (opF op≠0∧a=0)):=Lib.hid (by unfold wfF;rw [if_neg h1,if_neg (by simp),if_neg h2,if_neg h3,if_neg h5,if_neg h21,if_neg h23])
 clear h1 h2 h3 h5 h21 h23
 obtain⟨q,hq⟩:∃q,opF op=q:=⟨_,rfl⟩
 have HQ:=Lib.hid hq
 have HO:=Lib.hid (fun w=>by have:=oper2_any op w;rw [hq]at this;exact this)
 rw [hq]at HW
 clear hq
 by_cases hq0:q=0
 ·subst hq0
  rw [decide_eq_false (fun h=>h.1 rfl)]at HW
  go_enter Tryz.func106,Tryz.ntmps106
  go_wp2_with (go_at_call 103;refine(HO.out _).mono ?_;rintro e' w' ⟨rfl,rfl⟩)
  go_returns
  exact⟨by rw [HW.out];first|rfl|simp [*],growsR⟩
 ·have q0:(q !=0)=true:=by simpa using hq0
  by_cases ha:a=0
  ·rw [decide_eq_true ⟨hq0,ha⟩]at HW
   subst ha
   clear hq0
   go_enter Tryz.func106,Tryz.ntmps106
   go_wp2_with (go_at_call 103;refine(HO.out _).mono ?_;rintro e' w' ⟨rfl,rfl⟩)
   go_returns
   exact⟨by rw [HW.out];first|rfl|simp [*],growsR⟩
  ·rw [decide_eq_false (fun h=>ha h.2)]at HW
   have a0:(a==0)=false:=by simpa using ha
   clear hq0 ha
   go_enter Tryz.func106,Tryz.ntmps106
   go_wp2_with (go_at_call 103;refine(HO.out _).mono ?_;rintro e' w' ⟨rfl,rfl⟩)
   go_returns
   exact⟨by rw [HW.out];first|rfl|simp [*],growsR⟩
end Go.Proofs.YtblkcgceefjmjaaGreatDoor
namespace Go.Proofs.YtblkcgceefjmjaaGreatDoor
def letsG:List (ByteArray × Ex)→List (ByteArray × Int)→List (ByteArray × Int) × Int
 | [],env=>(env,0)
 |t::r,env=>
  if inpD t.1.toList≠0∨nameB t.1=false then([],5)
  else if env.any (fun p=>decide (p.1=t.1))=true then([],10)
  else if(inferE env t.2).2≠0 then([],(inferE env t.2).2)else letsG r (env++[(t.1,(inferE env t.2).1)])
structure LtAt(ls:List (ByteArray × Ex))(k:Nat)(env:List (ByteArray × Int)):Prop where
 all:letsG ls []=letsG (ls.drop k) env
 len:env.length=k
 nm:env.map Prod.fst=(ls.take k).map Prod.fst
theorem LtAt.zero(ls:List (ByteArray × Ex)):LtAt ls 0 []:=⟨rfl,rfl,by simp⟩
def ltStep(env:List (ByteArray × Int))(t:ByteArray × Ex):Int:=
 if inpD t.1.toList≠0∨nameB t.1=false then 5 else if env.any (fun p=>decide (p.1=t.1))=true then 10 else(inferE env t.2).2
theorem LtAt.drop{ls:List (ByteArray × Ex)}{k:Nat}(hk:k<ls.length):ls.drop k=ls.getD k default::ls.drop (k+1):=by
 rw [List.drop_eq_getElem_cons hk,List.getD_eq_getElem?_getD,List.getElem?_eq_getElem hk];rfl
theorem LtAt.bad{ls:List (ByteArray × Ex)}{k:Nat}{env:List (ByteArray × Int)}(h:LtAt ls k env)(hk:k<ls.length)(hb:ltStep env (ls.getD k default)≠0):letsG ls []=([],ltStep env (ls.getD k default)):=by
 rw [h.all,LtAt.drop hk,letsG]
 unfold ltStep at hb ⊢
 split
 ·rfl
 ·rename_i h1
  rw [if_neg h1]at hb
  split
  ·rfl
  ·rename_i h2
   rw [if_neg h2]at hb
   rw [if_pos hb]
theorem LtAt.next{ls:List (ByteArray × Ex)}{k:Nat}{env:List (ByteArray × Int)}(h:LtAt ls k env)(hk:k<ls.length)(hb:ltStep env (ls.getD k default)=0):LtAt ls (k+1) (env++[((ls.getD k default).1,(inferE env (ls.getD k default).2).1)]):=by
 refine⟨?_,by rw [List.length_append,h.len];rfl, ?_⟩
 ·rw [h.all,LtAt.drop hk,letsG]
  unfold ltStep at hb
  split at hb
  ·cases hb
  ·rename_i h1
   rw [if_neg h1]
   split at hb
   ·cases hb
   ·rename_i h2
    rw [if_neg h2,if_neg (by simpa using hb)]
 ·rw [List.map_append,h.nm,List.take_succ_eq_append_getElem hk,List.map_append]
  simp [List.getD_eq_getElem?_getD,List.getElem?_eq_getElem hk]
theorem LtAt.done{ls:List (ByteArray × Ex)}{env:List (ByteArray × Int)}(h:LtAt ls ls.length env):letsG ls []=(env,0):=by
 rw [h.all,List.drop_length,letsG]
theorem LtAt.dup{ls:List (ByteArray × Ex)}{k:Nat}{env:List (ByteArray × Int)}(h:LtAt ls k env)(hk:k≤ls.length)(s:ByteArray):env.any (fun p=>decide (p.1=s))=(List.range k).any fun j=>decide ((ls.getD j default).1=s):=by
 have h1:env.any (fun p=>decide (p.1=s))=(env.map Prod.fst).any fun x=>decide (x=s):=by rw [List.any_map];rfl
 rw [h1,h.nm,List.any_map,Bool.eq_iff_iff,List.any_eq_true,List.any_eq_true]
 constructor
 ·rintro⟨t,ht,hs⟩
  obtain⟨j,hj,rfl⟩:=List.mem_take_iff_getElem.1 ht
  have:j<ls.length:=by omega
  exact⟨j,List.mem_range.2 (by omega),by simpa [List.getD_eq_getElem?_getD,List.getElem?_eq_getElem this]using hs⟩
 ·rintro⟨j,hj,hs⟩
  have hj:=List.mem_range.1 hj
  have:j<ls.length:=by omega
  exact⟨ls[j],List.mem_take_iff_getElem.2 ⟨j,by omega,rfl⟩,by simpa [List.getD_eq_getElem?_getD,List.getElem?_eq_getElem this]using hs⟩
mutual
theorem infer_same{a b:List (ByteArray × Int)}:∀e:Ex,(∀s,mentB s e=true→inferN b s=inferN a s)→inferF b e=inferF a e
 | .mk op n d m s l,h=>by
   rw [inferF,inferF,infers_same l (fun x hx=>h x (by rw [mentB,hx,Bool.or_true]))]
   by_cases h2:op=2
   ·subst h2;rw [h s (by simp [mentB])]
   ·exact infNode_name h2
theorem infers_same{a b:List (ByteArray × Int)}:∀l:List Ex,(∀s,mentsB s l=true→inferN b s=inferN a s)→infersF b l=infersF a l
 | [],_=>by rw [infersF,infersF]
 |e::r,h=>by rw [infersF,infersF,infer_same e (fun x hx=>h x (by rw [mentsB,hx,Bool.true_or])),infers_same r (fun x hx=>h x (by rw [mentsB,hx,Bool.or_true]))]
end
theorem formed_leaf{op n d m:Int}{s:ByteArray}{l:List Ex}(h:formedB (.mk op n d m s l)=true)(ho:op=1∨op=2∨op=3):l= []:=by
 rw [formedB_eq,Bool.and_eq_true]at h
 have h1:(l.length:Int)=argsN op:=of_decide_eq_true h.1
 have h0:argsN op=0:=by unfold argsN;rw [if_pos (by omega)]
 exact List.eq_nil_of_length_eq_zero (by omega)
theorem formed_sub{op n d m:Int}{s:ByteArray}{l:List Ex}(h:formedB (.mk op n d m s l)=true)(h1:op≠1)(h2:op≠2)(h3:op≠3):formedsB l=true:=by
 rw [formedB_eq,Bool.and_eq_true]at h
 have:=h.2
 rw [if_neg (by exact h1),if_neg (by exact h2),if_neg (by exact h3),Bool.and_eq_true]at this
 exact this.1
mutual
theorem infer_named{a:List (ByteArray × Int)}{s:ByteArray}:∀e:Ex,formedB e=true→(inferF a e).2=0→mentB s e=true→(inferN a s).2=0
 | .mk op n d m nm l,hf,hi,hm=>by
   by_cases ho:op=1∨op=2∨op=3
   ·have hl:=formed_leaf hf ho
    subst hl
    rw [mentB,mentsB,Bool.or_false,Bool.and_eq_true]at hm
    have h2:op=2:=of_decide_eq_true hm.1
    have hs:nm=s:=of_decide_eq_true hm.2
    subst h2 hs
    rw [inferF]at hi
    exact hi
   ·have h1:op≠1:=fun h=>ho (.inl h)
    have h2:op≠2:=fun h=>ho (.inr (.inl h))
    have h3:op≠3:=fun h=>ho (.inr (.inr h))
    rw [mentB,decide_eq_false h2,Bool.false_and,Bool.false_or]at hm
    refine infers_named l (formed_sub hf h1 h2 h3) ?_ hm
    rw [inferF]at hi
    unfold infNode at hi
    rw [if_neg h1,if_neg h3,if_neg h2]at hi
    by_cases hr:(infersF a l).2=0
    ·exact hr
    ·rw [if_pos hr]at hi;exact hi
theorem infers_named{a:List (ByteArray × Int)}{s:ByteArray}:∀l:List Ex,formedsB l=true→(infersF a l).2=0→mentsB s l=true→(inferN a s).2=0
 | [],_,_,hm=>by rw [mentsB]at hm;cases hm
 |e::r,hf,hi,hm=>by
  rw [formedsB,Bool.and_eq_true]at hf
  rw [infersF]at hi
  have h1:(inferF a e).2=0:=by
   by_cases h:(inferF a e).2=0
   ·exact h
   ·rw [if_pos h]at hi;exact hi
  have h2:(infersF a r).2=0:=by
   rw [if_neg (by simpa using h1)]at hi
   by_cases h:(infersF a r).2=0
   ·exact h
   ·rw [if_pos h]at hi;exact hi
  rw [mentsB,Bool.or_eq_true]at hm
  rcases hm with hm|hm
  ·exact infer_named e hf.1 h1 hm
  ·exact infers_named r hf.2 h2 hm
end
theorem lastN_snoc{α:Type}(l:List (ByteArray × α))(p:ByteArray × α)(s:ByteArray):lastN (l++[p]) s=if p.1=s then some p.2 else lastN l s:=by
 unfold lastN
 rw [List.reverse_append,List.reverse_singleton,List.singleton_append,List.find?_cons]
 by_cases h:p.1=s
 ·rw [if_pos h,decide_eq_true h];rfl
 ·rw [if_neg h,decide_eq_false h]
structure LsOk(ls:List (ByteArray × Ex))(k:Nat)(env:List (ByteArray × Int)):Prop where
 len:env.length=k
 nm:∀i,i<k→(env.getD i default).1=(ls.getD i default).1
 ty:∀i,i<k→inferE (env.take i) (ls.getD i default).2=((env.getD i default).2,0)
 word:∀i,i<k→inpD (ls.getD i default).1.toList=0∧nameB (ls.getD i default).1=true
 inj:∀i j,i<j→j<k→(ls.getD i default).1≠(ls.getD j default).1
theorem LsOk.zero(ls:List (ByteArray × Ex)):LsOk ls 0 []:=⟨rfl,fun i h=>by omega,fun i h=>by omega,fun i h=>by omega,fun i j _ h=>by omega⟩
theorem getD_snoc{α:Type}[Inhabited α]{l:List α}{x:α}{i:Nat}:(l++[x]).getD i default=if i<l.length then l.getD i default else if i=l.length then x else default:=by
 simp only [List.getD_eq_getElem?_getD]
 by_cases h:i<l.length
 ·rw [if_pos h,List.getElem?_append_left h]
 ·rw [if_neg h,List.getElem?_append_right (by omega)]
  by_cases h2:i=l.length
  ·subst h2;simp
  ·rw [if_neg h2,List.getElem?_eq_none (by simp;omega)];rfl
theorem LsOk.next{ls:List (ByteArray × Ex)}{k:Nat}{env:List (ByteArray × Int)}(h:LsOk ls k env)(ha:LtAt ls k env)(hk:k<ls.length)(hb:ltStep env (ls.getD k default)=0) :
 LsOk ls (k+1) (env++[((ls.getD k default).1,(inferE env (ls.getD k default).2).1)]):=by
 have hl:=h.len
 unfold ltStep at hb
 split at hb
 ·cases hb
 rename_i h1
 split at hb
 ·cases hb
 rename_i h2
 have hdup:=ha.dup (by omega) (ls.getD k default).1
 have hd:∀j,j<k→(ls.getD j default).1≠(ls.getD k default).1:=fun j hj he=>by
  rw [hdup]at h2
  exact h2 (List.any_eq_true.2 ⟨j,List.mem_range.2 hj,decide_eq_true he⟩)
 refine⟨by rw [List.length_append,hl];rfl,fun i hi=>?_,fun i hi=>?_,fun i hi=>?_,fun i j hij hj=>?_⟩
 ·rw [getD_snoc]
  by_cases hik:i<k
  ·rw [if_pos (by omega)];exact h.nm i hik
  ·rw [if_neg (by omega),if_pos (by omega)]
   show(ls.getD k default).1=_
   rw [show i=k by omega]
 ·by_cases hik:i<k
  ·rw [List.take_append_of_le_length (by omega),getD_snoc,if_pos (by omega)];exact h.ty i hik
  ·obtain rfl:i=k:=by omega
   rw [List.take_append_of_le_length (by omega),List.take_of_length_le (by omega),getD_snoc,if_neg (by omega),if_pos hl.symm]
   exact Prod.ext rfl hb
 ·by_cases hik:i<k
  ·exact h.word i hik
  ·obtain rfl:i=k:=by omega
   exact⟨Decidable.byContradiction fun c=>h1 (.inl c),by
    cases hn:nameB (ls.getD i default).1
    ·exact absurd (.inr hn) h1
    ·rfl⟩
 ·by_cases hjk:j<k
  ·exact h.inj i j hij hjk
  ·obtain rfl:j=k:=by omega
   exact hd i hij
theorem LsOk.last{ls:List (ByteArray × Ex)}{k:Nat}{env:List (ByteArray × Int)}(h:LsOk ls k env){j:Nat}:∀i,j<i→i≤k→lastN (env.take i) (ls.getD j default).1=some (env.getD j default).2
 |0,hj,_=>by omega
 |i+1,hj,hi=>by
  have hl:=h.len
  rw [List.take_succ_eq_append_getElem (by omega),lastN_snoc]
  have hg:env[i]'(by omega)=env.getD i default:=by rw [List.getD_eq_getElem?_getD,List.getElem?_eq_getElem (by omega)];rfl
  rw [hg,h.nm i (by omega)]
  by_cases hji:j=i
  ·subst hji;rw [if_pos rfl]
  ·rw [if_neg (fun e=>h.inj j i (by omega) (by omega) e.symm)]
   exact h.last i (by omega) (by omega)
theorem LsOk.none{ls:List (ByteArray × Ex)}{k:Nat}{env:List (ByteArray × Int)}(h:LsOk ls k env){s:ByteArray}:∀i,i≤k→(∀j,j<i→(ls.getD j default).1≠s)→lastN (env.take i) s=none
 |0,_,_=>by simp [lastN]
 |i+1,hi,hs=>by
  have hl:=h.len
  rw [List.take_succ_eq_append_getElem (by omega),lastN_snoc]
  have hg:env[i]'(by omega)=env.getD i default:=by rw [List.getD_eq_getElem?_getD,List.getElem?_eq_getElem (by omega)];rfl
  rw [hg,h.nm i (by omega),if_neg (hs i (by omega))]
  exact h.none i (by omega) fun j hj=>hs j (by omega)
theorem LsOk.named{ls:List (ByteArray × Ex)}{k:Nat}{env:List (ByteArray × Int)}(h:LsOk ls k env){s:ByteArray}{i:Nat}(hi:i≤k)(ht:(inferN (env.take i) s).2=0):inpD s.toList≠0∨∃j,j<i∧(ls.getD j default).1=s:=by
 by_cases hs:inpD s.toList=0
 ·refine .inr (Decidable.byContradiction fun c=>?_)
  have:=h.none (s:=s) i hi fun j hj e=>c ⟨j,hj,e⟩
  unfold inferN at ht
  rw [if_neg (by simpa using hs),this]at ht
  cases ht
 ·exact .inl hs
structure StOk(ls:List (ByteArray × Ex))(env:List (ByteArray × Int))(D:List Nat)(st:List (ByteArray × Val)):Prop where
 ok:∀p∈st,p.2.ok=true
 dom:∀j∈D,j<ls.length
 look:∀j∈D,lastN (dimsOf st) (ls.getD j default).1=some (env.getD j default).2
 sub:∀j,j<ls.length→(st.any fun p=>decide (p.1=(ls.getD j default).1))=D.contains j
theorem StOk.zero(ls:List (ByteArray × Ex))(env:List (ByteArray × Int)):StOk ls env [] []:=⟨fun _ h=>(by cases h),fun _ h=>(by cases h),fun _ h=>(by cases h),fun _ _=>rfl⟩
theorem dims_snoc(st:List (ByteArray × Val))(p:ByteArray × Val):dimsOf (st++[p])=dimsOf st++[(p.1,p.2.dim)]:=by simp [dimsOf]
theorem StOk.push{ls:List (ByteArray × Ex)}{env:List (ByteArray × Int)}{D:List Nat}{st:List (ByteArray × Val)}(h:StOk ls env D st)(hl:LsOk ls ls.length env){i:Nat}(hi:i<ls.length)(hD:D.contains i=false){x:Val}(hx:x.ok=true)(hd:x.dim=(env.getD i default).2) :
 StOk ls env (D++[i]) (st++[((ls.getD i default).1,x)]):=by
 have ne:∀j,j<ls.length→j≠i→(ls.getD i default).1≠(ls.getD j default).1:=fun j hj hji=>by
  rcases Nat.lt_or_gt_of_ne hji with h1|h1
  ·exact fun e=>hl.inj j i h1 hi e.symm
  ·exact hl.inj i j h1 hj
 refine⟨fun p hp=>?_,fun j hj=>?_,fun j hj=>?_,fun j hj=>?_⟩
 ·rcases List.mem_append.1 hp with hp|hp
  ·exact h.ok p hp
  ·obtain rfl:p=_:=by simpa using hp
   exact hx
 ·rcases List.mem_append.1 hj with hj|hj
  ·exact h.dom j hj
  ·obtain rfl:j=i:=by simpa using hj
   exact hi
 ·rw [dims_snoc,lastN_snoc]
  rcases List.mem_append.1 hj with hj|hj
  ·have hji:j≠i:=fun e=>by
    have hc:D.contains j=true:=List.contains_iff_mem.2 hj
    rw [e,hD]at hc;cases hc
   rw [if_neg (ne j (h.dom j hj) hji)]
   exact h.look j hj
  ·obtain rfl:j=i:=by simpa using hj
   rw [if_pos rfl,hd]
 ·rw [List.any_append,h.sub j hj]
  by_cases hji:j=i
  ·subst hji;simp
  ·have:decide ((ls.getD i default).1=(ls.getD j default).1)=false:=decide_eq_false (ne j hj hji)
   rw [List.any_cons,List.any_nil,this,Bool.or_false,Bool.or_false,Bool.eq_iff_iff,List.contains_iff_mem,List.contains_iff_mem,List.mem_append]
   simp [hji]
theorem StOk.other{ls:List (ByteArray × Ex)}{env:List (ByteArray × Int)}{D:List Nat}{st:List (ByteArray × Val)}(h:StOk ls env D st)(hl:LsOk ls ls.length env){s:ByteArray}(hs:nameB s=false){x:Val}(hx:x.ok=true):StOk ls env D (st++[(s,x)]):=by
 have ne:∀j,j<ls.length→s≠(ls.getD j default).1:=fun j hj e=>by
  have:=(hl.word j hj).2
  rw [←e,hs]at this;cases this
 refine⟨fun p hp=>?_,h.dom,fun j hj=>?_,fun j hj=>?_⟩
 ·rcases List.mem_append.1 hp with hp|hp
  ·exact h.ok p hp
  ·obtain rfl:p=_:=by simpa using hp
   exact hx
 ·rw [dims_snoc,lastN_snoc,if_neg (ne j (h.dom j hj))]
  exact h.look j hj
 ·rw [List.any_append,h.sub j hj]
  have:decide (s=(ls.getD j default).1)=false:=decide_eq_false (ne j hj)
  rw [List.any_cons,List.any_nil,this,Bool.or_false,Bool.or_false]
theorem StOk.typed{ls:List (ByteArray × Ex)}{env:List (ByteArray × Int)}{D:List Nat}{st:List (ByteArray × Val)}(h:StOk ls env D st)(hl:LsOk ls ls.length env){i:Nat}(hi:i≤ls.length){e:Ex}(hf:formedB e=true)(ht:(inferF (env.take i) e).2=0)
 (hD:∀j,j<i→mentB (ls.getD j default).1 e=true→j∈D):inferF (dimsOf st) e=inferF (env.take i) e:=by
 refine infer_same e fun s hs=>?_
 rcases hl.named hi (infer_named e hf ht hs)with h0|⟨j,hj,rfl⟩
 ·unfold inferN;rw [if_pos h0,if_pos h0]
 ·unfold inferN
  rw [if_neg (by have:=(hl.word j (by omega)).1;simpa using this),if_neg (by have:=(hl.word j (by omega)).1;simpa using this),h.look j (hD j hj hs),hl.last i hj hi]
end Go.Proofs.YtblkcgceefjmjaaGreatDoor
