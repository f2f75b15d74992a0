import Derived.Test.YtaghhncnicbedaaGreatDoorFEvP
import Derived.Test.YtaghhncnicbedaaGreatDoorFK
import Derived.Deep.AppendLies
import Derived.Maps.Range
import Derived.Laws.AppendOwnNone
set_option linter.all false
set_option maxHeartbeats 16000000
set_option maxRecDepth 1000000
namespace Go.Proofs.YtaghhncnicbedaaGreatDoor
open Go.RowKit
theorem oper2_any(op:Int)(w:World):Calls Tryz.prog 52 #[.int .i64 op] w fun e w'=>e= .returned (.int .i64 (opF op))∧w=w':=by
 by_cases h6:op=6
 ·subst h6
  exact fz27
 have b6:(op==6)=false:=by simpa using h6
 by_cases h7:op=7
 ·subst h7
  exact fz27
 have b7:(op==7)=false:=by simpa using h7
 by_cases h8:op=8
 ·subst h8
  exact fz27
 have b8:(op==8)=false:=by simpa using h8
 by_cases h9:9≤op∧op≤18
 ·have e:opF op=op-2:=by unfold opF;rw [if_neg h6,if_neg h7,if_neg h8,if_pos h9]
  rw [e]
  obtain⟨ha,hb⟩:=h9
  clear e h6 h7 h8
  go_enter Tryz.func52,Tryz.ntmps52
  go_wp2_with fail
  go_returns
  exact⟨by
   rw [show op-2=op-9+7 by omega]
   first|rfl|simp,rfl⟩
 by_cases h19:op=19
 ·subst h19
  exact fz27
 have b19:(op==19)=false:=by simpa using h19
 by_cases h20:op=20
 ·subst h20
  exact fz27
 have b20:(op==20)=false:=by simpa using h20
 have e:opF op=0:=by unfold opF;rw [if_neg h6,if_neg h7,if_neg h8,if_neg h9,if_neg h19,if_neg h20]
 rw [e]
 have hr:op<9∨18<op:=by omega
 clear e h6 h7 h8 h9 h19 h20
 rcases hr with hr|hr
 ·exact fz27
 ·exact fz27
theorem operands_any(op:Int)(w:World):Calls Tryz.prog 53 #[.int .i64 op] w fun e w'=>e= .returned (.int .i64 (ariF op))∧w=w':=by
 unfold ariF
 by_cases h4:op=4
 ·subst h4
  exact fz58
 have b4:(op==4)=false:=by simpa using h4
 by_cases h5:op=5
 ·subst h5
  exact fz58
 have b5:(op==5)=false:=by simpa using h5
 by_cases h6:op=6
 ·subst h6
  exact fz58
 have b6:(op==6)=false:=by simpa using h6
 rw [if_neg (by omega)]
 clear h4 h5 h6
 exact fz58
theorem inputs2_any(w:World):Calls Tryz.prog 50 #[] w fun e w'=>e= .returned (.agg inpA)∧w.Grows w':=by
 go_enter Tryz.func50,Tryz.ntmps50
 go_wp2_with fail
 go_returns
 exact⟨rfl,growsR⟩
def InsAt(w:World)(v:Value)(l:List Ins):Prop:=
 l.length≤1000000∧∃a cap,v= .slice a l.length cap∧(l.length=0∨∃b off,a=some ⟨b,off,none⟩∧b<w.heap.size∧∀i,i<l.length→(I64 (l.getD i default).n∧I64 (l.getD i default).d)∧w.cell? ⟨b,off+i*4,none⟩=some (.int .i64 (l.getD i default).op)∧
  w.cell? ⟨b,off+i*4+1,none⟩=some (.int .i64 (l.getD i default).a)∧w.cell? ⟨b,off+i*4+2,none⟩=some (.int .i64 (l.getD i default).n)∧w.cell? ⟨b,off+i*4+3,none⟩=some (.int .i64 (l.getD i default).d))
def SlAt(w:World)(v:Value)(sl:List ByteArray):Prop:=
 sl.length≤1000000∧(∀s∈sl,s.size≤maxLen)∧∃a cap,sl.length≤cap∧v= .slice a sl.length cap∧(sl.length=0∨∃b off,a=some ⟨b,off,none⟩∧b<w.heap.size∧∀i,i<sl.length→w.cell? ⟨b,off+i,none⟩=some (.string (sl.getD i ByteArray.empty)))
theorem InsAt.grows{w w':World}{v:Value}{l:List Ins}(h:InsAt w v l)(hg:w.Grows w'):InsAt w' v l:=by
 obtain⟨h0,a,cap,hv,h1⟩:=h
 refine⟨h0,a,cap,hv,h1.imp id ?_⟩
 rintro⟨b,off,ha,hb,hc⟩
 have hs:=hg.below.size
 have e:∀o,w'.cell? ⟨b,o,none⟩=w.cell? ⟨b,o,none⟩:=fun o=>World.cell?_of_block (hg.below.block b hb)
 refine⟨b,off,ha,by omega,fun i hi=>?_⟩
 obtain⟨k0,k1,k2,k3,k4⟩:=hc i hi
 exact⟨k0,(e _).trans k1,(e _).trans k2,(e _).trans k3,(e _).trans k4⟩
theorem SlAt.grows{w w':World}{v:Value}{sl:List ByteArray}(h:SlAt w v sl)(hg:w.Grows w'):SlAt w' v sl:=by
 obtain⟨h0,h00,a,cap,hcp,hv,h1⟩:=h
 refine⟨h0,h00,a,cap,hcp,hv,h1.imp id ?_⟩
 rintro⟨b,off,ha,hb,hc⟩
 have hs:=hg.below.size
 exact⟨b,off,ha,by omega,fun i hi=>(World.cell?_of_block (hg.below.block b hb)).trans (hc i hi)⟩
theorem pop_none(N off:Nat)(a:Option Addr)(cap:Nat)(w:World)(c1:w.cell? ⟨N,off+1,none⟩=some (.slice a 0 cap)) :
 Calls Tryz.prog 90 #[.pointer (some ⟨N,off,none⟩)] w fun e w'=>e= .returned (.tuple #[.int .i64 0,.bool false])∧w'=w:=by
 go_enter Tryz.func90,Tryz.ntmps90
 go_wp2_with fail
 go_returns
 exact⟨rfl,rfl⟩
theorem pop_some(N off g n cap:Nat)(z:Int)(w:World)(c1:w.cell? ⟨N,off+1,none⟩=some (.slice (some ⟨g,0,none⟩) (n+1) cap))(c2:w.cell? ⟨g,n,none⟩=some (.int .i64 z))(hn:n+1≤cap)(hl:n≤1000)(hf:w.frozen? ⟨N,off+1,none⟩=false) :
 Calls Tryz.prog 90 #[.pointer (some ⟨N,off,none⟩)] w fun e w'=>e= .returned (.tuple #[.int .i64 z,.bool true])∧w'=w.setCell ⟨N,off+1,none⟩ (.slice (some ⟨g,0,none⟩) n cap):=by
 have h1:((n:Int)+1==0)=false:=by simp;omega
 go_enter Tryz.func90,Tryz.ntmps90
 go_wp2_with fail
 go_returns
 exact⟨rfl,rfl⟩
theorem infoIM:(Tryz.prog.info? 3).map (fun i=>(i.zero,i.size,i.bytes))=some (some (.int .i64 0),1,8):=by kernel_rfl
def PushP(N off:Nat)(vs:Value)(zs:List Int)(base:Nat)(dim:Int)(w:World)(e:Ending)(w':World):Prop:=
 e= .returned (.tuple #[])∧∃g cap w1,w1.ownsRow base 3 1 (.slice (some ⟨g,0,none⟩) (zs.length+1) cap) (zs.length+1) ((zs++[dim]).map (Value.int .i64))∧w.grownBy w1 vs.ownBlock∧(vs.ownBlock=some g∨w.heap.size≤g)∧g<w1.heap.size∧
  w'=w1.setCell ⟨N,off+1,none⟩ (.slice (some ⟨g,0,none⟩) (zs.length+1) cap)
theorem push_any(N off base:Nat)(a:Option Addr)(cap:Nat)(zs:List Int)(dim:Int)(w:World)(c1:w.cell? ⟨N,off+1,none⟩=some (.slice a zs.length cap))(ho:w.ownsRow base 3 1 (.slice a zs.length cap) zs.length (zs.map (Value.int .i64)))(hb:base≤w.heap.size)(hN:N<w.heap.size)(hne:(Value.slice a zs.length cap).ownBlock≠some N)(hl:zs.length≤1000)(hf:∀w1:World,w.grownBy w1 (Value.slice a zs.length cap).ownBlock→w1.frozen? ⟨N,off+1,none⟩=false) :
 Calls Tryz.prog 88 #[.pointer (some ⟨N,off,none⟩),.int .i64 dim] w (PushP N off (.slice a zs.length cap) zs base dim w):=by
 obtain⟨i0,hi,hz0,hz1,hz2⟩:=info_parts infoIM
 have HO:=Lib.hid ho
 have HF:=Lib.hid hf
 clear ho hf
 go_enter Tryz.func88,Tryz.ntmps88
 go_wp2_with (at_builtin;refine wpList_append_lies _ rfl _ _ 22 rfl base 3 i0 _ 1 8 Tryz.underlying22 hi hz0 hz1 hz2 rfl (by decide) _ _ _ rfl (HO.out.alloc _) ⟨w.heap.size,0,none⟩ 1 1 [.int .i64 dim] rfl rfl ?c1 ?c2 (by decide) ?c3 ?c4 ?c5 (w.heap.size+1) (by simp) ?_)
 case c1=>(refine news_cells _ [_] _ _ ?_);simp
 case c2=>intro u hu;simp at hu;subst hu;rfl
 case c3=>unfold maxLen;omega
 case c4=>omega
 case c5=>simp;omega
 intro gb cp w1 hown hgrow hgg hgl
 have hg2:w.grownBy w1 (Value.slice a zs.length cap).ownBlock:=⟨hgrow.os,hgrow.tape,hgrow.output,by have:=hgrow.size;simp at this;omega,fun k hk hne=>(hgrow.block k (by simp;omega) hne).trans (Below.heap_alloc w _ k hk)⟩
 have HG:=Lib.hid hg2
 have HOW:=Lib.hid hown
 have HGG:=Lib.hid hgg
 have HGL:=Lib.hid hgl
 have k1:=(hg2.cell_far ⟨N,off+1,none⟩ hN (fun e=>hne e.symm)).trans c1
 have k2:=HF.out w1 hg2
 have hN1:N<w1.heap.size:=by have:=hg2.size;omega
 clear hown hgrow hgg hgl hg2
 go_wp2_with fail
 go_returns
 refine⟨rfl,gb,cp,w1,by have:=HOW.out;simpa using this,HG.out, ?_,HGL.out,rfl⟩
 rcases HGG.out with h|h
 ·exact .inl h
 ·exact .inr (by omega)
structure Mods(P:Nat→Prop)(w w':World):Prop where
 os:w'.os=w.os
 tape:w'.tape=w.tape
 output:w'.output=w.output
 size:w.heap.size≤w'.heap.size
 block:∀k,k<w.heap.size→¬P k→w'.heap[k]? =w.heap[k]?
section
variable {P Q : Nat → Prop} {a b c w w' : World}
theorem Mods.refl(P:Nat→Prop)(w:World):Mods P w w:=⟨rfl,rfl,rfl,Nat.le_refl _,fun _ _ _=>rfl⟩
theorem Mods.mono(h:Mods Q a b)(hQ:∀i,i<a.heap.size→Q i→P i):Mods P a b:=⟨h.os,h.tape,h.output,h.size,fun i hi hn=>h.block i hi (fun q=>hn (hQ i hi q))⟩
theorem Mods.trans(h:Mods P a b)(k:Mods P b c):Mods P a c:=⟨k.os.trans h.os,k.tape.trans h.tape,k.output.trans h.output,Nat.le_trans h.size k.size,fun i hi hn=>(k.block i (Nat.lt_of_lt_of_le hi h.size) hn).trans (h.block i hi hn)⟩
theorem Mods.trans2(h:Mods P a b)(k:Mods Q b c)(hQ:∀i,i<a.heap.size→Q i→P i):Mods P a c:=
 ⟨k.os.trans h.os,k.tape.trans h.tape,k.output.trans h.output,Nat.le_trans h.size k.size,fun i hi hn=>(k.block i (Nat.lt_of_lt_of_le hi h.size) (fun q=>hn (hQ i hi q))).trans (h.block i hi hn)⟩
theorem Mods.grows(hg:w.Grows w'):Mods P w w':=⟨hg.below.os,hg.below.tape,hg.below.output,hg.below.size,fun k hk _=>hg.below.block k hk⟩
theorem Mods.setCell(w:World)(N o:Nat)(u:Value)(hP:P N):Mods P w (w.setCell ⟨N,o,none⟩ u):=
 ⟨rfl,rfl,rfl,by simp [World.setCell],fun k _ hn=>Below.heap_setCell _ _ _ _ (fun e=>hn (by have e':k=N:=e;exact e' ▸ hP))⟩
theorem Mods.grown{row:Option Nat}(hg:w.grownBy w' row)(hP:∀k,row=some k→P k):Mods P w w':=⟨hg.os,hg.tape,hg.output,hg.size,fun k hk hn=>hg.block k hk (fun e=>hn (hP k e.symm))⟩
theorem Mods.below{B:Nat}{a:World}(h:Mods P w w')(hb:Below B a w)(hB:B≤w.heap.size)(hP:∀k,P k→B≤k):Below B a w':=
 hb.trans ⟨h.os,h.tape,h.output,h.size,fun k hk=>h.block k (by omega) (fun p=>by have:=hP k p;omega)⟩
theorem Mods.cell(h:Mods P w w'){k:Nat}(hk:k<w.heap.size)(hn:¬P k)(o:Nat):w'.cell? ⟨k,o,none⟩=w.cell? ⟨k,o,none⟩:=World.cell?_of_block (h.block k hk hn)
theorem Mods.frozen(h:Mods P w w'){k:Nat}(hk:k<w.heap.size)(hn:¬P k)(o:Nat):w'.frozen? ⟨k,o,none⟩=w.frozen? ⟨k,o,none⟩:=World.frozen?_of_block (h.block k hk hn)
theorem Mods.row(h:Mods P w w'){B:Nat}{e:TypeId}{sz n:Nat}{v:Value}{xs:List Value}(ho:w.ownsRow B e sz v n xs)(hn:∀k,v.ownBlock=some k→¬P k):w'.ownsRow B e sz v n xs:=by
 refine⟨ho.1, ?_⟩
 rcases ho.2 with hh|⟨g,cap,cur,rfl,hb,hgg,rest⟩
 ·exact .inl hh
 ·exact .inr ⟨g,cap,cur,rfl,hb,by rw [h.block g (Array.getElem?_eq_some_iff.1 hgg).1 (hn g rfl)];exact hgg,rest⟩
end
def CellsAt(w:World)(N off:Nat)(L:List Value):Prop:=∀i u,L[i]? =some u→w.cell? ⟨N,off+i,none⟩=some u
section
variable {w w' : World} {N off : Nat} {L : List Value}
theorem CellsAt.get(h:CellsAt w N off L){i:Nat}(hi:i<L.length):w.cell? ⟨N,off+i,none⟩=some L[i]:=h i _ (List.getElem?_eq_getElem hi)
theorem CellsAt.same(h:CellsAt w N off L)(he:∀o,w'.cell? ⟨N,o,none⟩=w.cell? ⟨N,o,none⟩):CellsAt w' N off L:=fun i u hu=>(he _).trans (h i u hu)
theorem CellsAt.set(h:CellsAt w N off L)(i:Nat)(u:Value)(hi:i<L.length):CellsAt (w.setCell ⟨N,off+i,none⟩ u) N off (L.set i u):=fun j x hx=>by
 rw [List.getElem?_set]at hx
 by_cases e:i=j
 ·subst e
  rw [if_pos rfl,if_pos hi]at hx
  rw [World.cell?_setCell_same _ _ _ (h.get hi)]
  exact hx
 ·rw [if_neg e]at hx
  rw [World.cell?_setCell_other _ _ _ _ (by simp<;>omega)]
  exact h j x hx
theorem CellsAt.other(h:CellsAt w N off L){M o:Nat}(u:Value)(hne:M≠N∨o<off∨off+L.length≤o):CellsAt (w.setCell ⟨M,o,none⟩ u) N off L:=fun j x hx=>by
 have hj:j<L.length:=(List.getElem?_eq_some_iff.1 hx).1
 rw [World.cell?_setCell_other _ _ _ _ (by simp<;>omega)]
 exact h j x hx
end
theorem made_cells{w:World}{z:Array Value}{n sz j:Nat}{e:TypeId}(hz:z.size=sz)(hsz:0<sz)(hj:j<n):CellsAt (w.alloc (.cells (madeCells z (n*sz)) e)) w.heap.size (j*sz) z.toList:=by
 intro i u hu
 have hi:i<sz:=by have:=(List.getElem?_eq_some_iff.1 hu).1;simp at this;omega
 have h1:j*sz+i<n*sz:=by
  have:(j+1)*sz≤n*sz:=Nat.mul_le_mul_right _ hj
  rw [Nat.add_mul]at this;omega
 have h2:(j*sz+i) % sz=i:=by rw [Nat.mul_comm,Nat.mul_add_mod,Nat.mod_eq_of_lt hi]
 have h3:(madeCells z (n*sz))[j*sz+i]? =some u:=by
  unfold madeCells
  rw [Array.getElem?_map,Array.getElem?_range,if_pos h1]
  simp only [Option.map_some,hz,h2]
  rw [Array.getElem?_toList]at hu
  rw [getElem!_def,hu]
 rw [cell_of_row _ _ _ _ _ _ (heap_alloc_new w _)]
 exact h3
theorem run_make_many{P:Program}(t e:TypeId)(z:Value)(size bytes:Nat)(ht:P.underlying t=some (.slice e))(hinfo:(P.info? e).map (fun i=>(i.zero,i.size,i.bytes))=some (some z,size,bytes))(n:Nat)(hbytes:bytes*(n+1)≤281474976710656)(h63:n+1≤9223372036854775807)(w:World) :
 (Instr.makeSlice t (.int .i64 ((n:Int)+1)) (.int .i64 ((n:Int)+1))).run P w= .ok (.slice (some ⟨w.heap.size,0,none⟩) (n+1) (n+1)) (w.alloc (.cells (madeCells z.cells ((n+1)*size)) e)):=by
 obtain⟨i,hi,hzz⟩:=Option.map_eq_some_iff.1 hinfo
 simp only [Prod.mk.injEq]at hzz
 obtain⟨hz,hs,hb⟩:=hzz
 have hb':(i.bytes:Int)*((n:Int)+1)≤281474976710656:=by
  rw [hb]
  have h:((bytes*(n+1):Nat):Int)≤281474976710656:=by omega
  rwa [Int.natCast_mul,Int.natCast_add]at h
 have hr:=run_make (P:=P) w t e i z ht hi hz .i64 .i64 ((n:Int)+1) ((n:Int)+1) (by omega) (Int.le_refl _) hb' (by omega)
 have e1:((n:Int)+1).toNat=n+1:=by omega
 rw [e1,hs]at hr
 exact hr
structure Upd(P:Nat→Prop)(w w':World)(N off:Nat)(L:List Value):Prop where
 mods:Mods P w w'
 cells:CellsAt w' N off L
 out:∀i,i<off∨off+L.length≤i→w'.cell? ⟨N,i,none⟩=w.cell? ⟨N,i,none⟩
 frz:∀i,w'.frozen? ⟨N,i,none⟩=w.frozen? ⟨N,i,none⟩
section
variable {P : Nat → Prop} {w w' w'' : World} {N off : Nat} {L : List Value}
theorem Upd.refl(h:CellsAt w N off L):Upd P w w N off L:=⟨.refl _ _,h,fun _ _=>rfl,fun _=>rfl⟩
theorem Upd.set(h:Upd P w w' N off L)(i:Nat)(u:Value)(hi:i<L.length)(hP:P N):Upd P w (w'.setCell ⟨N,off+i,none⟩ u) N off (L.set i u):=
 ⟨h.mods.trans (Mods.setCell _ _ _ _ hP),h.cells.set i u hi,fun j hj=>by
  rw [List.length_set]at hj
  rw [World.cell?_setCell_other _ _ _ _ (by simp<;>omega)];exact h.out j hj,fun j=>(World.frozen?_setCell _ _ _ _).trans (h.frz j)⟩
theorem Upd.block(h:Upd P w w' N off L)(hm:Mods P w' w'')(e:w''.heap[N]? =w'.heap[N]?):Upd P w w'' N off L:=
 ⟨h.mods.trans hm,h.cells.same fun o=>World.cell?_of_block (a:=⟨N,o,none⟩) e,fun j hj=>(World.cell?_of_block (a:=⟨N,j,none⟩) e).trans (h.out j hj),fun j=>(World.frozen?_of_block (a:=⟨N,j,none⟩) e).trans (h.frz j)⟩
theorem Upd.grows(h:Upd P w w' N off L)(hN:N<w.heap.size)(hg:w'.Grows w''):Upd P w w'' N off L:=
 h.block (.grows hg) (hg.below.block N (Nat.lt_of_lt_of_le hN h.mods.size))
theorem Upd.pre(hg:w.Grows w')(hN:N<w.heap.size)(h:Upd P w' w'' N off L):Upd P w w'' N off L:=by
 have e:=hg.below.block N hN
 exact⟨(Mods.grows hg).trans h.mods,h.cells,fun j hj=>(h.out j hj).trans (World.cell?_of_block (a:=⟨N,j,none⟩) e),fun j=>(h.frz j).trans (World.frozen?_of_block (a:=⟨N,j,none⟩) e)⟩
end
structure StkR(N o B:Nat)(v v':Value)(zs:List Int)(w w':World):Prop where
 upd:Upd (fun k=>k=N∨v.ownBlock=some k) w w' N o [v']
 row:w'.ownsRow B 3 1 v' zs.length (zs.map (Value.int .i64))
 own:∀k,v'.ownBlock=some k→v.ownBlock=some k∨w.heap.size≤k
theorem StkR.trans{N o B:Nat}{v v1 v2:Value}{zs1 zs2:List Int}{w w1 w2:World}(h:StkR N o B v v1 zs1 w w1)(k:StkR N o B v1 v2 zs2 w1 w2):StkR N o B v v2 zs2 w w2:=by
 refine⟨⟨h.upd.mods.trans2 k.upd.mods fun i hi hq=>?_,k.upd.cells,fun j hj=>(k.upd.out j hj).trans (h.upd.out j hj),fun j=>(k.upd.frz j).trans (h.upd.frz j)⟩,k.row,fun i hi=>?_⟩
 ·rcases hq with hq|hq
  ·exact .inl hq
  ·rcases h.own i hq with e|e
   ·exact .inr e
   ·omega
 ·rcases k.own i hi with e|e
  ·exact h.own i e
  ·exact .inr (Nat.le_trans h.upd.mods.size e)
theorem StkR.pre{N o B:Nat}{v v':Value}{zs:List Int}{w w1 w':World}(hg:w.Grows w1)(hN:N<w.heap.size)(h:StkR N o B v v' zs w1 w'):StkR N o B v v' zs w w':=
 ⟨h.upd.pre hg hN,h.row,fun k hk=>(h.own k hk).imp id fun e=>Nat.le_trans hg.below.size e⟩
theorem PushP.stk{N off B:Nat}{v:Value}{zs:List Int}{dim:Int}{w w':World}{e:Ending}(h:PushP N off v zs B dim w e w')(c1:w.cell? ⟨N,off+1,none⟩=some v)(hne:v.ownBlock≠some N)(hN:N<w.heap.size) :
 e= .returned (.tuple #[])∧∃g cap,StkR N (off+1) B v (.slice (some ⟨g,0,none⟩) (zs++[dim]).length cap) (zs++[dim]) w w':=by
 obtain⟨he,g,cap,w1,ho,hg,hgg,hgl,rfl⟩:=h
 refine⟨he,g,cap, ?_⟩
 have hL:(zs++[dim]).length=zs.length+1:=by simp
 rw [hL]
 have hNg:N≠g:=by
  rcases hgg with e|e
  ·intro h;subst h;exact hne e
  ·omega
 have c1':CellsAt w1 N (off+1) [v]:=fun i u hu=>by
  match i,hu with
  |0,hu=>
   obtain rfl:=Option.some.inj hu
   exact(hg.cell_far ⟨N,off+1,none⟩ hN (fun e=>hne e.symm)).trans c1
  |i+1,hu=>simp at hu
 have U0:Upd (fun k=>k=N∨v.ownBlock=some k) w w1 N (off+1) [v]:=⟨Mods.grown hg fun k hk=>.inr hk,c1',fun j _=>hg.cell_far ⟨N,j,none⟩ hN (fun e=>hne e.symm),fun j=>hg.frozen_far ⟨N,j,none⟩ hN (fun e=>hne e.symm)⟩
 have U1:=U0.set 0 (.slice (some ⟨g,0,none⟩) (zs.length+1) cap) (by simp) (.inl rfl)
 refine⟨U1, ?_,fun k hk=>?_⟩
 ·rw [hL]
  exact Mods.row (P:=fun k=>k=N) (Mods.setCell _ _ _ _ rfl) ho fun k hk e=>by
   have:g=k:=by simpa [Value.ownBlock]using hk
   omega
 ·have:g=k:=by simpa [Value.ownBlock]using hk
  subst this
  exact hgg.imp id id
def StC(w:World)(N off:Nat)(r:Bool)(v:Value)(bs:List Bool):Prop:=bs.length=12∧CellsAt w N off (.bool r::v::bs.map .bool)
theorem twelve{bs:List Bool}(h:bs.length=12):∃b0 b1 b2 b3 b4 b5 b6 b7 b8 b9 b10 b11,bs= [b0,b1,b2,b3,b4,b5,b6,b7,b8,b9,b10,b11]:=by
 match bs,h with
 | [b0,b1,b2,b3,b4,b5,b6,b7,b8,b9,b10,b11],_=>exact⟨b0,b1,b2,b3,b4,b5,b6,b7,b8,b9,b10,b11,rfl⟩
def mrgF(o:Option (List Int × List Bool))(s:List Int × List Bool):Option (List Int × List Bool):=
 match o with
 |none=>some s
 |some t=>if t.1=s.1 then some (t.1,List.zipWith (· && ·) t.2 s.2)else none
theorem putA_mrg(S:List (Option (List Int × List Bool)))(k:Nat)(s:List Int × List Bool):putA S k s=(mrgF (S.getD k none) s).map fun x=>S.set k (some x):=by
 unfold putA mrgF
 cases S.getD k none with
 |none=>rfl
 |some t=>by_cases e:t.1=s.1<;>simp [e]
def StM(w:World)(N off:Nat)(v:Value):Option (List Int × List Bool)→Prop
 |none=>∃bs,StC w N off false (.slice none 0 0) bs
 |some s=>StC w N off true v s.2
theorem StC.same{w w':World}{N off:Nat}{r:Bool}{v:Value}{bs:List Bool}(h:StC w N off r v bs)(he:∀o,w'.cell? ⟨N,o,none⟩=w.cell? ⟨N,o,none⟩):StC w' N off r v bs:=⟨h.1,h.2.same he⟩
theorem StM.same{w w':World}{N off:Nat}{v:Value}{o:Option (List Int × List Bool)}(h:StM w N off v o)(he:∀o,w'.cell? ⟨N,o,none⟩=w.cell? ⟨N,o,none⟩):StM w' N off v o:=by
 cases o with
 |none=>obtain⟨bs,h⟩:=h;exact⟨bs,h.same he⟩
 |some s=>exact StC.same h he
theorem StC.near{w w':World}{N off:Nat}{r:Bool}{v:Value}{bs:List Bool}(h:StC w N off r v bs)(he:∀i,off≤i→i<off+14→w'.cell? ⟨N,i,none⟩=w.cell? ⟨N,i,none⟩):StC w' N off r v bs:=
 ⟨h.1,fun i u hu=>by
  have hi:i<(Value.bool r::v::bs.map .bool).length:=(List.getElem?_eq_some_iff.1 hu).1
  simp [h.1]at hi
  exact(he _ (by omega) (by omega)).trans (h.2 i u hu)⟩
theorem StM.near{w w':World}{N off:Nat}{v:Value}{o:Option (List Int × List Bool)}(h:StM w N off v o)(he:∀i,off≤i→i<off+14→w'.cell? ⟨N,i,none⟩=w.cell? ⟨N,i,none⟩):StM w' N off v o:=by
 cases o with
 |none=>obtain⟨bs,h⟩:=h;exact⟨bs,h.near he⟩
 |some s=>exact StC.near h he
theorem step_app_own{P:Program}{ops:Array Oper}{o:Oper}{a:Act}{w:World}{K:Act→World→Prop}{Q:Exit→Act→World→Prop}{E:Prop}(hgd:o.guard=none)(s x:Operand)(t:TypeId)
 (ho:o.op= .call {callee:=.builtin .append,args:=#[s,x],argTypes:=#[t,t]})
 (base:Nat) (e:TypeId) (i:TypeInfo) (z:Value) (size bytes:Nat) (ht:P.underlying t=some (.slice e)) (hi:P.info? e=some i) (hz:i.zero=some z)
 (hsize:i.size=size) (hby:i.bytes=bytes) (hzs:z.cells.size=size) (hsz:0<size)
 (v:Value) (n:Nat) (xs:List Value) (hs:a.eval s=v) (hown:w.ownsRow base e size v n xs)
 (ad:Addr) (m c:Nat) (news:List Value) (hx:a.eval x= .slice (some ad) m c) (hl:news.length=m*size) (hnews:∀j u,news[j]? =some u→w.cell? (ad.add j)=some u) (h1:∀u∈news,u.oneCell'=true)
 (h63:n+m≤maxLen) (hbytes:(n+m)*bytes≤140737488355328) (hbase:base≤w.heap.size)
 (h:∀v' w',w'.ownsRow base e size v' (n+m) (xs++news)→w.grownBy w' v.ownBlock→K (a.put o.dst v') w') :
 if Region.wanted o (yielded ops a.tmps)=true then Oper.wp P o a w K Q else E:=by
 have hw:Region.wanted o (yielded ops a.tmps)=true:=by simp [Region.wanted,hgd]
 rw [if_pos hw]
 exact wp_append_own w s x t ho base e i z size bytes ht hi hz hsize hby hzs hsz v n xs hs hown ad m c news hx hl hnews h1 h63 hbytes hbase fun v' w' h2 h3 _=>h v' w' h2 h3
theorem step_app_none{P:Program}{ops:Array Oper}{o:Oper}{a:Act}{w:World}{K:Act→World→Prop}{Q:Exit→Act→World→Prop}{E:Prop}(hgd:o.guard=none)(s x:Operand)(t:TypeId)
 (ho:o.op= .call {callee:=.builtin .append,args:=#[s,x],argTypes:=#[t,t]})
 (base:Nat) (e:TypeId) (i:TypeInfo) (size:Nat) (ht:P.underlying t=some (.slice e)) (hi:P.info? e=some i)
 (v:Value) (n:Nat) (xs:List Value) (hs:a.eval s=v) (hown:w.ownsRow base e size v n xs) (hx:a.eval x= .slice none 0 0)
 (h:K (a.put o.dst v) w):if Region.wanted o (yielded ops a.tmps)=true then Oper.wp P o a w K Q else E:=by
 have hw:Region.wanted o (yielded ops a.tmps)=true:=by simp [Region.wanted,hgd]
 rw [if_pos hw]
 have hrun:=run_append_owned_none (P:=P) (w:=w) base t o.type e i size ht hi v n xs hown
 unfold Oper.wp
 simp [execOp,ho,resolve,invoke,builtin,hs,hx,hrun,Result.andThen]
 exact h
theorem ints_one(U:List Int):∀u∈U.map (Value.int .i64),u.oneCell'=true:=by
 intro u hu
 obtain⟨k,-,rfl⟩:=List.mem_map.1 hu
 rfl
theorem row_frm{w:World}{B:Nat}{e:TypeId}{z n:Nat}{v:Value}{xs:List Value}(h:w.ownsRow B e z v n xs):(v= .slice none 0 0∧n=0)∨∃g cap,v= .slice (some ⟨g,0,none⟩) n cap∧B≤g∧g<w.heap.size∧n≤cap:=by
 obtain⟨-,h|⟨g,cap,cur,rfl,hb,hg,hn,-⟩⟩:=h
 ·exact .inl h
 ·exact .inr ⟨g,cap,rfl,hb,(Array.getElem?_eq_some_iff.1 hg).1,hn⟩
theorem grownBy_refl'(w:World)(r:Option Nat):w.grownBy w r:=⟨rfl,rfl,rfl,Nat.le_refl _,fun _ _ _=>rfl⟩
theorem wpList_append_ints{ops:Array Oper}{rest:List Oper}{o:Oper}{a:Act}{w:World}{Q:Exit→Act→World→Prop}(hgd:o.guard=none)(s x:Operand)
 (ho:o.op= .call {callee:=.builtin .append,args:=#[s,x],argTypes:=#[22,22]})
 {base base':Nat} {v u:Value} {A B:List Int} (hs:a.eval s=v) (hx:a.eval x=u) (hA:w.ownsRow base 3 1 v A.length (A.map (Value.int .i64))) (hB:w.ownsRow base' 3 1 u B.length (B.map (Value.int .i64))) (hn:A.length≤1000∧B.length≤1000) (hbase:base≤w.heap.size)
 (h:∀v' w',w'.ownsRow base 3 1 v' (A++B).length ((A++B).map (Value.int .i64))→w.grownBy w' v.ownBlock→wpList Tryz.prog ops Q rest (a.put o.dst v') w'):wpList Tryz.prog ops Q (o::rest) a w:=by
 obtain⟨i0,hi,hz0,hz1,hz2⟩:=info_parts infoIM
 rcases row_frm hB with ⟨rfl,h0⟩|⟨g,cap,rfl,hbg,hgl,hc⟩
 ·refine wpList_append_own_none hgd s x 22 ho base 3 i0 1 Tryz.underlying22 hi v _ _ hs hA hx (h v w ?_ (grownBy_refl' _ _))
  have:B= []:=List.eq_nil_of_length_eq_zero h0
  subst this
  simpa using hA
 ·refine wpList_append_own _ hgd s x 22 ho base 3 i0 (.int .i64 0) 1 8 Tryz.underlying22 hi hz0 hz1 hz2 rfl (by decide) v A.length _ hs hA ⟨g,0,none⟩ B.length cap _ hx (by simp) (fun j z hz=>?_) (ints_one B) (by unfold maxLen;omega) (by omega) hbase (fun v' w' h1 h2 _=>h v' w' (by rw [List.length_append,List.map_append];exact h1) h2)
  have hj:=(List.getElem?_eq_some_iff.1 hz).1
  rw [show(⟨g,0,none⟩:Addr).add j=⟨g,j,none⟩by unfold Addr.add;split<;>simp_all,hB.cellAt j (by simpa using hj)];exact hz
theorem wellFormed_any(l:List Ins)(sl:List ByteArray)(vi vs:Value)(i:Nat)(w:World)(hI:InsAt w vi l)(hS:SlAt w vs sl)(hi:i<l.length) :
 Calls Tryz.prog 40 #[.agg #[vi,vs],.int .i64 i] w fun e w'=>e= .returned (.bool (wfF sl.length l.length i (l.getD i default)))∧w.Grows w':=by
 obtain⟨hl6,ai,ci,rfl,hx⟩:=hI
 obtain⟨hs6,-,as',cs',-,rfl,-⟩:=hS
 rcases hx with h0|⟨b,off,rfl,hb,hx⟩
 ·omega
 obtain⟨⟨hn,hd⟩,x0,x1,x2,x3⟩:=hx i hi
 have d1:(i:Int)<(l.length:Int):=by omega
 generalize l.getD i default=x at *
 obtain⟨op,a,n,d⟩:=x
 dsimp only at *
 have HV:=Lib.hid (fun w=>Valid2_any n d w hn.1 hn.2 hd.1 hd.2)
 clear hx hi
 generalize sl.length=m at *
 generalize l.length=N at *
 by_cases h1:op=1
 ·subst h1
  by_cases ha:a=2∨a=3∨a=4
  ·have HW:Hid (wfF m N i ⟨1,a,n,d⟩=vfrac n d):=Lib.hid (by unfold wfF;rw [if_pos rfl,decide_eq_true ha];rfl)
   rcases ha with rfl|rfl|rfl
   focus
    go_enter Tryz.func40,Tryz.ntmps40
   rotate_left
   focus
    go_enter Tryz.func40,Tryz.ntmps40
   rotate_left
   focus
    go_enter Tryz.func40,Tryz.ntmps40
   rotate_left
   all_goals
    go_wp2_with (first
     |(go_at_call 85;refine(HV.out _).mono ?_;rintro e' w' ⟨rfl,bs,d',rfl⟩)
     |(go_at_call 52;refine(oper2_any _ _).mono ?_;rintro e' w' ⟨rfl,rfl⟩))
    go_returns
    exact⟨by rw [HW.out];first|rfl|simp [*],growsR⟩
  ·have HW:Hid (wfF m N i ⟨1,a,n,d⟩=false):=Lib.hid (by unfold wfF;rw [if_pos rfl,decide_eq_false ha];rfl)
   have a2:(a==2)=false:=by simp;omega
   have a3:(a==3)=false:=by simp;omega
   have a4:(a==4)=false:=by simp;omega
   clear ha
   go_enter Tryz.func40,Tryz.ntmps40
   go_wp2_with (first
    |(go_at_call 85;refine(HV.out _).mono ?_;rintro e' w' ⟨rfl,bs,d',rfl⟩)
    |(go_at_call 52;refine(oper2_any _ _).mono ?_;rintro e' w' ⟨rfl,rfl⟩))
   go_returns
   exact⟨by rw [HW.out];first|rfl|simp [*],growsR⟩
 have b1:(op==1)=false:=by simpa using h1
 by_cases hz:n=0∧d=0
 case neg=>
  have HW:Hid (wfF m N i ⟨op,a,n,d⟩=false):=Lib.hid (by unfold wfF;rw [if_neg h1,if_pos hz])
  by_cases hn0:n=0
  focus
   subst hn0
   have hd0:(d==0)=false:=by simp;omega
  rotate_left
  focus
   have hn1:(n==0)=false:=by simpa using hn0
  rotate_left
  all_goals
   clear hz
   go_enter Tryz.func40,Tryz.ntmps40
   go_wp2_with (first
    |(go_at_call 85;refine(HV.out _).mono ?_;rintro e' w' ⟨rfl,bs,d',rfl⟩)
    |(go_at_call 52;refine(oper2_any _ _).mono ?_;rintro e' w' ⟨rfl,rfl⟩))
   go_returns
   exact⟨by rw [HW.out];first|rfl|simp [*],growsR⟩
 obtain⟨rfl,rfl⟩:=hz
 clear hn hd HV
 have HV:Hid True:=Lib.hid trivial
 by_cases h2:op=2
 ·subst h2
  have HW:Hid (wfF m N i ⟨2,a,0,0⟩=decide (0≤a∧a<11)):=Lib.hid rfl
  by_cases ha:0≤a
  ·have g1:decide (0≤a)=true:=decide_eq_true ha
   by_cases hm:a<11
   focus
    rw [decide_eq_true ⟨ha,hm⟩]at HW
    have g2:decide (a<11)=true:=decide_eq_true hm
   rotate_left
   focus
    rw [decide_eq_false (fun h=>hm h.2)]at HW
    have g2:decide (a<11)=false:=decide_eq_false hm
   rotate_left
   all_goals
    go_enter Tryz.func40,Tryz.ntmps40
    go_wp2_with fail
    refine TS.begin [10] (World.Grows _) (by kernel_rfl) (by kernel_rfl) grows_drew0 (fun hS=>?_)
    refine TS.wkB 0 hS ?_
    refine TS.wkB 1 hS ?_
    refine TS.wkB 2 hS ?_
    refine TS.wkB 3 hS ?_
    refine TS.wkB 4 hS ?_
    refine TS.wkB 5 hS ?_
    refine TS.one (i:=6) (by kernel_rfl) rfl (fun K1 hK1=>?_)
    have HK1:=Lib.hid hK1
    clear hK1 hS
    dsimp only [List.getElem_toArray,List.getElem_cons_succ,List.getElem_cons_zero]
    go_simp
    go_at_call 50
    refine(inputs2_any _).mono ?_
    rintro e' w' ⟨rfl,bs,d,rfl⟩
    refine TS.go HK1.out growsR (fun hS=>?_)
    clear HK1 K1
    (try simp only [nS])
    refine TS.wkB 7 hS ?_
    refine TS.wkB 8 hS ?_
    refine TS.wkB 9 hS ?_
    refine TS.weB 10 ?_
    clear hS
    go_wp2_with fail
    go_returns
    exact⟨by rw [HW.out];first|rfl|simp [*],growsR⟩
  ·rw [decide_eq_false (fun h=>ha h.1)]at HW
   have g1:decide (0≤a)=false:=decide_eq_false ha
   go_enter Tryz.func40,Tryz.ntmps40
   go_wp2_with fail
   refine TS.begin [10] (World.Grows _) (by kernel_rfl) (by kernel_rfl) grows_drew0 (fun hS=>?_)
   refine TS.wkB 0 hS ?_
   refine TS.wkB 1 hS ?_
   refine TS.wkB 2 hS ?_
   refine TS.wkB 3 hS ?_
   refine TS.take (i:=4) (v:=undef) rfl (by kernel_rfl) (by kernel_rfl) (by kernel_rfl) (by decide) (fun _ _ _ h=>h) (.inl ⟨rfl,rfl⟩) hS ?_
   (try simp only [nS])
   refine TS.take (i:=5) (v:=undef) rfl (by kernel_rfl) (by kernel_rfl) (by kernel_rfl) (by decide) (fun _ _ _ h=>h) (.inl ⟨rfl,rfl⟩) hS ?_
   (try simp only [nS])
   refine TS.take (i:=6) (v:=undef) rfl (by kernel_rfl) (by kernel_rfl) (by kernel_rfl) (by decide) (fun _ _ _ h=>h) (.inl ⟨rfl,rfl⟩) hS ?_
   (try simp only [nS])
   refine TS.take (i:=7) (v:=undef) rfl (by kernel_rfl) (by kernel_rfl) (by kernel_rfl) (by decide) (fun _ _ _ h=>h) (.inl ⟨rfl,rfl⟩) hS ?_
   (try simp only [nS])
   refine TS.take (i:=8) (v:=undef) rfl (by kernel_rfl) (by kernel_rfl) (by kernel_rfl) (by decide) (fun _ _ _ h=>h) (.inl ⟨rfl,rfl⟩) hS ?_
   (try simp only [nS])
   refine TS.wkB 9 hS ?_
   refine TS.weB 10 ?_
   clear hS
   go_wp2_with fail
   go_returns
   exact⟨by rw [HW.out];first|rfl|simp [*],growsR⟩
 have b2:(op==2)=false:=by simpa using h2
 by_cases h3:op=3∨op=4
 ·have HW:Hid (wfF m N i ⟨op,a,0,0⟩=decide (0≤a∧a<m)):=Lib.hid (by unfold wfF;rw [if_neg h1,if_neg (by simp),if_neg h2,if_pos h3])
  by_cases ha:0≤a
  ·by_cases hm:a<m
   focus
    rw [decide_eq_true ⟨ha,hm⟩]at HW
   rotate_left
   focus
    rw [decide_eq_false (fun h=>hm h.2)]at HW
   rotate_left
   all_goals
    rcases h3 with rfl|rfl
    focus
     go_enter Tryz.func40,Tryz.ntmps40
    rotate_left
    focus
     go_enter Tryz.func40,Tryz.ntmps40
    rotate_left
    all_goals
     go_wp2_with (first
      |(go_at_call 85;refine(HV.out _).mono ?_;rintro e' w' ⟨rfl,bs,d',rfl⟩)
      |(go_at_call 52;refine(oper2_any _ _).mono ?_;rintro e' w' ⟨rfl,rfl⟩))
     go_returns
     exact⟨by rw [HW.out];first|rfl|simp [*],growsR⟩
  ·rw [decide_eq_false (fun h=>ha h.1)]at HW
   rcases h3 with rfl|rfl
   focus
    go_enter Tryz.func40,Tryz.ntmps40
   rotate_left
   focus
    go_enter Tryz.func40,Tryz.ntmps40
   rotate_left
   all_goals
    go_wp2_with (first
     |(go_at_call 85;refine(HV.out _).mono ?_;rintro e' w' ⟨rfl,bs,d',rfl⟩)
     |(go_at_call 52;refine(oper2_any _ _).mono ?_;rintro e' w' ⟨rfl,rfl⟩))
    go_returns
    exact⟨by rw [HW.out];first|rfl|simp [*],growsR⟩
 have b3:(op==3)=false:=by simp;omega
 have b4:(op==4)=false:=by simp;omega
 by_cases h5:op=5
 ·subst h5
  have HW:Hid (wfF m N i ⟨5,a,0,0⟩=decide (1≤a∧a≤45)):=Lib.hid rfl
  by_cases ha:1≤a
  ·by_cases hm:a≤45
   focus
    rw [decide_eq_true ⟨ha,hm⟩]at HW
   rotate_left
   focus
    rw [decide_eq_false (fun h=>hm h.2)]at HW
   rotate_left
   all_goals
    go_enter Tryz.func40,Tryz.ntmps40
    go_wp2_with (first
     |(go_at_call 85;refine(HV.out _).mono ?_;rintro e' w' ⟨rfl,bs,d',rfl⟩)
     |(go_at_call 52;refine(oper2_any _ _).mono ?_;rintro e' w' ⟨rfl,rfl⟩))
    go_returns
    exact⟨by rw [HW.out];first|rfl|simp [*],growsR⟩
  ·rw [decide_eq_false (fun h=>ha h.1)]at HW
   go_enter Tryz.func40,Tryz.ntmps40
   go_wp2_with (first
    |(go_at_call 85;refine(HV.out _).mono ?_;rintro e' w' ⟨rfl,bs,d',rfl⟩)
    |(go_at_call 52;refine(oper2_any _ _).mono ?_;rintro e' w' ⟨rfl,rfl⟩))
   go_returns
   exact⟨by rw [HW.out];first|rfl|simp [*],growsR⟩
 have b5:(op==5)=false:=by simpa using h5
 by_cases h21:op=21∨op=22
 ·have HW:Hid (wfF m N i ⟨op,a,0,0⟩=decide ((i:Int)<a∧a≤N)):=Lib.hid (by unfold wfF;rw [if_neg h1,if_neg (by simp),if_neg h2,if_neg h3,if_neg h5,if_pos h21])
  by_cases ha:(i:Int)<a
  ·by_cases hm:a≤N
   focus
    rw [decide_eq_true ⟨ha,hm⟩]at HW
   rotate_left
   focus
    rw [decide_eq_false (fun h=>hm h.2)]at HW
   rotate_left
   all_goals
    rcases h21 with rfl|rfl
    focus
     go_enter Tryz.func40,Tryz.ntmps40
    rotate_left
    focus
     go_enter Tryz.func40,Tryz.ntmps40
    rotate_left
    all_goals
     go_wp2_with (first
      |(go_at_call 85;refine(HV.out _).mono ?_;rintro e' w' ⟨rfl,bs,d',rfl⟩)
      |(go_at_call 52;refine(oper2_any _ _).mono ?_;rintro e' w' ⟨rfl,rfl⟩))
     go_returns
     exact⟨by rw [HW.out];first|rfl|simp [*],growsR⟩
  ·rw [decide_eq_false (fun h=>ha h.1)]at HW
   rcases h21 with rfl|rfl
   focus
    go_enter Tryz.func40,Tryz.ntmps40
   rotate_left
   focus
    go_enter Tryz.func40,Tryz.ntmps40
   rotate_left
   all_goals
    go_wp2_with (first
     |(go_at_call 85;refine(HV.out _).mono ?_;rintro e' w' ⟨rfl,bs,d',rfl⟩)
     |(go_at_call 52;refine(oper2_any _ _).mono ?_;rintro e' w' ⟨rfl,rfl⟩))
    go_returns
    exact⟨by rw [HW.out];first|rfl|simp [*],growsR⟩
 have b21:(op==21)=false:=by simp;omega
 have b22:(op==22)=false:=by simp;omega
 by_cases h23:op=23∨op=24
 ·have HW:Hid (wfF m N i ⟨op,a,0,0⟩=decide (a=0)):=Lib.hid (by unfold wfF;rw [if_neg h1,if_neg (by simp),if_neg h2,if_neg h3,if_neg h5,if_neg h21,if_pos h23])
  by_cases ha:a=0
  focus
   rw [decide_eq_true ha]at HW
   subst ha
  rotate_left
  focus
   rw [decide_eq_false ha]at HW
   have a0:(a==0)=false:=by simpa using ha
  rotate_left
  all_goals
   rcases h23 with rfl|rfl
   focus
    go_enter Tryz.func40,Tryz.ntmps40
   rotate_left
   focus
    go_enter Tryz.func40,Tryz.ntmps40
   rotate_left
   all_goals
    go_wp2_with (first
     |(go_at_call 85;refine(HV.out _).mono ?_;rintro e' w' ⟨rfl,bs,d',rfl⟩)
     |(go_at_call 52;refine(oper2_any _ _).mono ?_;rintro e' w' ⟨rfl,rfl⟩))
    go_returns
    exact⟨by rw [HW.out];first|rfl|simp [*],growsR⟩
 have b23:(op==23)=false:=by simp;omega
 have b24:(op==24)=false:=by simp;omega
 have HW:Hid (wfF m N i ⟨op,a,0,0⟩=decide (opF op≠0∧a=0)):=Lib.hid (by unfold wfF;rw [if_neg h1,if_neg (by simp),if_neg h2,if_neg h3,if_neg h5,if_neg h21,if_neg h23])
 clear h1 h2 h3 h5 h21 h23
 obtain⟨q,hq⟩:∃q,opF op=q:=⟨_,rfl⟩
 have HQ:=Lib.hid hq
 have HO:=Lib.hid (fun w=>by have:=oper2_any op w;rw [hq]at this;exact this)
 rw [hq]at HW
 clear hq
 by_cases hq0:q=0
 ·subst hq0
  rw [decide_eq_false (fun h=>h.1 rfl)]at HW
  go_enter Tryz.func40,Tryz.ntmps40
  go_wp2_with (go_at_call 52;refine(HO.out _).mono ?_;rintro e' w' ⟨rfl,rfl⟩)
  go_returns
  exact⟨by rw [HW.out];first|rfl|simp [*],growsR⟩
 ·have q0:(q !=0)=true:=by simpa using hq0
  by_cases ha:a=0
  ·rw [decide_eq_true ⟨hq0,ha⟩]at HW
   subst ha
   clear hq0
   go_enter Tryz.func40,Tryz.ntmps40
   go_wp2_with (go_at_call 52;refine(HO.out _).mono ?_;rintro e' w' ⟨rfl,rfl⟩)
   go_returns
   exact⟨by rw [HW.out];first|rfl|simp [*],growsR⟩
  ·rw [decide_eq_false (fun h=>ha h.2)]at HW
   have a0:(a==0)=false:=by simpa using ha
   clear hq0 ha
   go_enter Tryz.func40,Tryz.ntmps40
   go_wp2_with (go_at_call 52;refine(HO.out _).mono ?_;rintro e' w' ⟨rfl,rfl⟩)
   go_returns
   exact⟨by rw [HW.out];first|rfl|simp [*],growsR⟩
end Go.Proofs.YtaghhncnicbedaaGreatDoor
