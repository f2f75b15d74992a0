import Derived.Test.YtaghhncnicbedaaGreatDoorMMchP
import Derived.Test.YtaghhncnicbedaaGreatDoorMGrR
import Derived.Test.YtaghhncnicbedaaGreatDoorTyFB
import Derived.Test.YtaghhncnicbedaaGreatDoorMK
import Derived.Deep.AppendLies
import Derived.Maps.Range
import Derived.Laws.AppendOwnNone
set_option linter.all false
set_option maxHeartbeats 16000000
set_option maxRecDepth 1000000
namespace Go.Proofs.YtaghhncnicbedaaGreatDoor
open Go.RowKit
theorem oper2_any(op:Int)(w:World):Calls Tryz.prog 52 #[.int .i64 op] w fun e w'=>e= .returned (.int .i64 (opF op))∧w=w':=by
 by_cases h6:op=6
 ·subst h6
  exact mz3
 have b6:(op==6)=false:=by simpa using h6
 by_cases h7:op=7
 ·subst h7
  exact mz3
 have b7:(op==7)=false:=by simpa using h7
 by_cases h8:op=8
 ·subst h8
  exact mz3
 have b8:(op==8)=false:=by simpa using h8
 by_cases h9:9≤op∧op≤18
 ·have e:opF op=op-2:=by unfold opF;rw [if_neg h6,if_neg h7,if_neg h8,if_pos h9]
  rw [e]
  obtain⟨ha,hb⟩:=h9
  clear e h6 h7 h8
  go_enter Tryz.func52,Tryz.ntmps52
  go_wp2_with fail
  go_returns
  exact⟨by
   rw [show op-2=op-9+7 by omega]
   first|rfl|simp,rfl⟩
 by_cases h19:op=19
 ·subst h19
  exact mz3
 have b19:(op==19)=false:=by simpa using h19
 by_cases h20:op=20
 ·subst h20
  exact mz3
 have b20:(op==20)=false:=by simpa using h20
 have e:opF op=0:=by unfold opF;rw [if_neg h6,if_neg h7,if_neg h8,if_neg h9,if_neg h19,if_neg h20]
 rw [e]
 have hr:op<9∨18<op:=by omega
 clear e h6 h7 h8 h9 h19 h20
 rcases hr with hr|hr
 ·exact mz3
 ·exact mz3
theorem operands_any(op:Int)(w:World):Calls Tryz.prog 53 #[.int .i64 op] w fun e w'=>e= .returned (.int .i64 (ariF op))∧w=w':=by
 unfold ariF
 by_cases h4:op=4
 ·subst h4
  exact mz13
 have b4:(op==4)=false:=by simpa using h4
 by_cases h5:op=5
 ·subst h5
  exact mz13
 have b5:(op==5)=false:=by simpa using h5
 by_cases h6:op=6
 ·subst h6
  exact mz13
 have b6:(op==6)=false:=by simpa using h6
 rw [if_neg (by omega)]
 clear h4 h5 h6
 exact mz13
theorem inputs2_any(w:World):Calls Tryz.prog 50 #[] w fun e w'=>e= .returned (.agg inpA)∧w.Grows w':=by
 go_enter Tryz.func50,Tryz.ntmps50
 go_wp2_with fail
 go_returns
 exact⟨rfl,growsR⟩
def InsAt(w:World)(v:Value)(l:List Ins):Prop:=
 l.length≤1000000∧∃a cap,v= .slice a l.length cap∧(l.length=0∨∃b off,a=some ⟨b,off,none⟩∧b<w.heap.size∧∀i,i<l.length→(I64 (l.getD i default).n∧I64 (l.getD i default).d)∧w.cell? ⟨b,off+i*4,none⟩=some (.int .i64 (l.getD i default).op)∧
  w.cell? ⟨b,off+i*4+1,none⟩=some (.int .i64 (l.getD i default).a)∧w.cell? ⟨b,off+i*4+2,none⟩=some (.int .i64 (l.getD i default).n)∧w.cell? ⟨b,off+i*4+3,none⟩=some (.int .i64 (l.getD i default).d))
def SlAt(w:World)(v:Value)(sl:List ByteArray):Prop:=
 sl.length≤1000000∧(∀s∈sl,s.size≤maxLen)∧∃a cap,sl.length≤cap∧v= .slice a sl.length cap∧(sl.length=0∨∃b off,a=some ⟨b,off,none⟩∧b<w.heap.size∧∀i,i<sl.length→w.cell? ⟨b,off+i,none⟩=some (.string (sl.getD i ByteArray.empty)))
theorem InsAt.grows{w w':World}{v:Value}{l:List Ins}(h:InsAt w v l)(hg:w.Grows w'):InsAt w' v l:=by
 obtain⟨h0,a,cap,hv,h1⟩:=h
 refine⟨h0,a,cap,hv,h1.imp id ?_⟩
 rintro⟨b,off,ha,hb,hc⟩
 have hs:=hg.below.size
 have e:∀o,w'.cell? ⟨b,o,none⟩=w.cell? ⟨b,o,none⟩:=fun o=>World.cell?_of_block (hg.below.block b hb)
 refine⟨b,off,ha,by omega,fun i hi=>?_⟩
 obtain⟨k0,k1,k2,k3,k4⟩:=hc i hi
 exact⟨k0,(e _).trans k1,(e _).trans k2,(e _).trans k3,(e _).trans k4⟩
theorem SlAt.grows{w w':World}{v:Value}{sl:List ByteArray}(h:SlAt w v sl)(hg:w.Grows w'):SlAt w' v sl:=by
 obtain⟨h0,h00,a,cap,hcp,hv,h1⟩:=h
 refine⟨h0,h00,a,cap,hcp,hv,h1.imp id ?_⟩
 rintro⟨b,off,ha,hb,hc⟩
 have hs:=hg.below.size
 exact⟨b,off,ha,by omega,fun i hi=>(World.cell?_of_block (hg.below.block b hb)).trans (hc i hi)⟩
theorem pop_none(N off:Nat)(a:Option Addr)(cap:Nat)(w:World)(c1:w.cell? ⟨N,off+1,none⟩=some (.slice a 0 cap)) :
 Calls Tryz.prog 90 #[.pointer (some ⟨N,off,none⟩)] w fun e w'=>e= .returned (.tuple #[.int .i64 0,.bool false])∧w'=w:=by
 go_enter Tryz.func90,Tryz.ntmps90
 go_wp2_with fail
 go_returns
 exact⟨rfl,rfl⟩
theorem pop_some(N off g n cap:Nat)(z:Int)(w:World)(c1:w.cell? ⟨N,off+1,none⟩=some (.slice (some ⟨g,0,none⟩) (n+1) cap))(c2:w.cell? ⟨g,n,none⟩=some (.int .i64 z))(hn:n+1≤cap)(hl:n≤1000)(hf:w.frozen? ⟨N,off+1,none⟩=false) :
 Calls Tryz.prog 90 #[.pointer (some ⟨N,off,none⟩)] w fun e w'=>e= .returned (.tuple #[.int .i64 z,.bool true])∧w'=w.setCell ⟨N,off+1,none⟩ (.slice (some ⟨g,0,none⟩) n cap):=by
 have h1:((n:Int)+1==0)=false:=by simp;omega
 go_enter Tryz.func90,Tryz.ntmps90
 go_wp2_with fail
 go_returns
 exact⟨rfl,rfl⟩
theorem infoIM:(Tryz.prog.info? 3).map (fun i=>(i.zero,i.size,i.bytes))=some (some (.int .i64 0),1,8):=by kernel_rfl
def PushP(N off:Nat)(vs:Value)(zs:List Int)(base:Nat)(dim:Int)(w:World)(e:Ending)(w':World):Prop:=
 e= .returned (.tuple #[])∧∃g cap w1,w1.ownsRow base 3 1 (.slice (some ⟨g,0,none⟩) (zs.length+1) cap) (zs.length+1) ((zs++[dim]).map (Value.int .i64))∧w.grownBy w1 vs.ownBlock∧(vs.ownBlock=some g∨w.heap.size≤g)∧g<w1.heap.size∧
  w'=w1.setCell ⟨N,off+1,none⟩ (.slice (some ⟨g,0,none⟩) (zs.length+1) cap)
theorem push_any(N off base:Nat)(a:Option Addr)(cap:Nat)(zs:List Int)(dim:Int)(w:World)(c1:w.cell? ⟨N,off+1,none⟩=some (.slice a zs.length cap))(ho:w.ownsRow base 3 1 (.slice a zs.length cap) zs.length (zs.map (Value.int .i64)))(hb:base≤w.heap.size)(hN:N<w.heap.size)(hne:(Value.slice a zs.length cap).ownBlock≠some N)(hl:zs.length≤1000)(hf:∀w1:World,w.grownBy w1 (Value.slice a zs.length cap).ownBlock→w1.frozen? ⟨N,off+1,none⟩=false) :
 Calls Tryz.prog 88 #[.pointer (some ⟨N,off,none⟩),.int .i64 dim] w (PushP N off (.slice a zs.length cap) zs base dim w):=by
 obtain⟨i0,hi,hz0,hz1,hz2⟩:=info_parts infoIM
 have HO:=Lib.hid ho
 have HF:=Lib.hid hf
 clear ho hf
 go_enter Tryz.func88,Tryz.ntmps88
 go_wp2_with (at_builtin;refine wpList_append_lies _ rfl _ _ 22 rfl base 3 i0 _ 1 8 Tryz.underlying22 hi hz0 hz1 hz2 rfl (by decide) _ _ _ rfl (HO.out.alloc _) ⟨w.heap.size,0,none⟩ 1 1 [.int .i64 dim] rfl rfl ?c1 ?c2 (by decide) ?c3 ?c4 ?c5 (w.heap.size+1) (by simp) ?_)
 case c1=>(refine news_cells _ [_] _ _ ?_);simp
 case c2=>intro u hu;simp at hu;subst hu;rfl
 case c3=>unfold maxLen;omega
 case c4=>omega
 case c5=>simp;omega
 intro gb cp w1 hown hgrow hgg hgl
 have hg2:w.grownBy w1 (Value.slice a zs.length cap).ownBlock:=⟨hgrow.os,hgrow.tape,hgrow.output,by have:=hgrow.size;simp at this;omega,fun k hk hne=>(hgrow.block k (by simp;omega) hne).trans (Below.heap_alloc w _ k hk)⟩
 have HG:=Lib.hid hg2
 have HOW:=Lib.hid hown
 have HGG:=Lib.hid hgg
 have HGL:=Lib.hid hgl
 have k1:=(hg2.cell_far ⟨N,off+1,none⟩ hN (fun e=>hne e.symm)).trans c1
 have k2:=HF.out w1 hg2
 have hN1:N<w1.heap.size:=by have:=hg2.size;omega
 clear hown hgrow hgg hgl hg2
 go_wp2_with fail
 go_returns
 refine⟨rfl,gb,cp,w1,by have:=HOW.out;simpa using this,HG.out, ?_,HGL.out,rfl⟩
 rcases HGG.out with h|h
 ·exact .inl h
 ·exact .inr (by omega)
theorem ints_one(U:List Int):∀u∈U.map (Value.int .i64),u.oneCell'=true:=by
 intro u hu
 obtain⟨k,-,rfl⟩:=List.mem_map.1 hu
 rfl
theorem row_frm{w:World}{B:Nat}{e:TypeId}{z n:Nat}{v:Value}{xs:List Value}(h:w.ownsRow B e z v n xs):(v= .slice none 0 0∧n=0)∨∃g cap,v= .slice (some ⟨g,0,none⟩) n cap∧B≤g∧g<w.heap.size∧n≤cap:=by
 obtain⟨-,h|⟨g,cap,cur,rfl,hb,hg,hn,-⟩⟩:=h
 ·exact .inl h
 ·exact .inr ⟨g,cap,rfl,hb,(Array.getElem?_eq_some_iff.1 hg).1,hn⟩
theorem grownBy_refl'(w:World)(r:Option Nat):w.grownBy w r:=⟨rfl,rfl,rfl,Nat.le_refl _,fun _ _ _=>rfl⟩
theorem wpList_append_ints{ops:Array Oper}{rest:List Oper}{o:Oper}{a:Act}{w:World}{Q:Exit→Act→World→Prop}(hgd:o.guard=none)(s x:Operand)
 (ho:o.op= .call {callee:=.builtin .append,args:=#[s,x],argTypes:=#[22,22]})
 {base base':Nat} {v u:Value} {A B:List Int} (hs:a.eval s=v) (hx:a.eval x=u) (hA:w.ownsRow base 3 1 v A.length (A.map (Value.int .i64))) (hB:w.ownsRow base' 3 1 u B.length (B.map (Value.int .i64))) (hn:A.length≤1000∧B.length≤1000) (hbase:base≤w.heap.size)
 (h:∀v' w',w'.ownsRow base 3 1 v' (A++B).length ((A++B).map (Value.int .i64))→w.grownBy w' v.ownBlock→wpList Tryz.prog ops Q rest (a.put o.dst v') w'):wpList Tryz.prog ops Q (o::rest) a w:=by
 obtain⟨i0,hi,hz0,hz1,hz2⟩:=info_parts infoIM
 rcases row_frm hB with ⟨rfl,h0⟩|⟨g,cap,rfl,hbg,hgl,hc⟩
 ·refine wpList_append_own_none hgd s x 22 ho base 3 i0 1 Tryz.underlying22 hi v _ _ hs hA hx (h v w ?_ (grownBy_refl' _ _))
  have:B= []:=List.eq_nil_of_length_eq_zero h0
  subst this
  simpa using hA
 ·refine wpList_append_own _ hgd s x 22 ho base 3 i0 (.int .i64 0) 1 8 Tryz.underlying22 hi hz0 hz1 hz2 rfl (by decide) v A.length _ hs hA ⟨g,0,none⟩ B.length cap _ hx (by simp) (fun j z hz=>?_) (ints_one B) (by unfold maxLen;omega) (by omega) hbase (fun v' w' h1 h2 _=>h v' w' (by rw [List.length_append,List.map_append];exact h1) h2)
  have hj:=(List.getElem?_eq_some_iff.1 hz).1
  rw [show(⟨g,0,none⟩:Addr).add j=⟨g,j,none⟩by unfold Addr.add;split<;>simp_all,hB.cellAt j (by simpa using hj)];exact hz
structure Mods(P:Nat→Prop)(w w':World):Prop where
 os:w'.os=w.os
 tape:w'.tape=w.tape
 output:w'.output=w.output
 size:w.heap.size≤w'.heap.size
 block:∀k,k<w.heap.size→¬P k→w'.heap[k]? =w.heap[k]?
section
variable {P Q : Nat → Prop} {a b c w w' : World}
theorem Mods.refl(P:Nat→Prop)(w:World):Mods P w w:=⟨rfl,rfl,rfl,Nat.le_refl _,fun _ _ _=>rfl⟩
theorem Mods.mono(h:Mods Q a b)(hQ:∀i,i<a.heap.size→Q i→P i):Mods P a b:=⟨h.os,h.tape,h.output,h.size,fun i hi hn=>h.block i hi (fun q=>hn (hQ i hi q))⟩
theorem Mods.trans(h:Mods P a b)(k:Mods P b c):Mods P a c:=⟨k.os.trans h.os,k.tape.trans h.tape,k.output.trans h.output,Nat.le_trans h.size k.size,fun i hi hn=>(k.block i (Nat.lt_of_lt_of_le hi h.size) hn).trans (h.block i hi hn)⟩
theorem Mods.trans2(h:Mods P a b)(k:Mods Q b c)(hQ:∀i,i<a.heap.size→Q i→P i):Mods P a c:=
 ⟨k.os.trans h.os,k.tape.trans h.tape,k.output.trans h.output,Nat.le_trans h.size k.size,fun i hi hn=>(k.block i (Nat.lt_of_lt_of_le hi h.size) (fun q=>hn (hQ i hi q))).trans (h.block i hi hn)⟩
theorem Mods.grows(hg:w.Grows w'):Mods P w w':=⟨hg.below.os,hg.below.tape,hg.below.output,hg.below.size,fun k hk _=>hg.below.block k hk⟩
theorem Mods.setCell(w:World)(N o:Nat)(u:Value)(hP:P N):Mods P w (w.setCell ⟨N,o,none⟩ u):=
 ⟨rfl,rfl,rfl,by simp [World.setCell],fun k _ hn=>Below.heap_setCell _ _ _ _ (fun e=>hn (by have e':k=N:=e;exact e' ▸ hP))⟩
theorem Mods.grown{row:Option Nat}(hg:w.grownBy w' row)(hP:∀k,row=some k→P k):Mods P w w':=⟨hg.os,hg.tape,hg.output,hg.size,fun k hk hn=>hg.block k hk (fun e=>hn (hP k e.symm))⟩
theorem Mods.below{B:Nat}{a:World}(h:Mods P w w')(hb:Below B a w)(hB:B≤w.heap.size)(hP:∀k,P k→B≤k):Below B a w':=
 hb.trans ⟨h.os,h.tape,h.output,h.size,fun k hk=>h.block k (by omega) (fun p=>by have:=hP k p;omega)⟩
theorem Mods.cell(h:Mods P w w'){k:Nat}(hk:k<w.heap.size)(hn:¬P k)(o:Nat):w'.cell? ⟨k,o,none⟩=w.cell? ⟨k,o,none⟩:=World.cell?_of_block (h.block k hk hn)
theorem Mods.frozen(h:Mods P w w'){k:Nat}(hk:k<w.heap.size)(hn:¬P k)(o:Nat):w'.frozen? ⟨k,o,none⟩=w.frozen? ⟨k,o,none⟩:=World.frozen?_of_block (h.block k hk hn)
theorem Mods.row(h:Mods P w w'){B:Nat}{e:TypeId}{sz n:Nat}{v:Value}{xs:List Value}(ho:w.ownsRow B e sz v n xs)(hn:∀k,v.ownBlock=some k→¬P k):w'.ownsRow B e sz v n xs:=by
 refine⟨ho.1, ?_⟩
 rcases ho.2 with hh|⟨g,cap,cur,rfl,hb,hgg,rest⟩
 ·exact .inl hh
 ·exact .inr ⟨g,cap,cur,rfl,hb,by rw [h.block g (Array.getElem?_eq_some_iff.1 hgg).1 (hn g rfl)];exact hgg,rest⟩
end
def CellsAt(w:World)(N off:Nat)(L:List Value):Prop:=∀i u,L[i]? =some u→w.cell? ⟨N,off+i,none⟩=some u
section
variable {w w' : World} {N off : Nat} {L : List Value}
theorem CellsAt.get(h:CellsAt w N off L){i:Nat}(hi:i<L.length):w.cell? ⟨N,off+i,none⟩=some L[i]:=h i _ (List.getElem?_eq_getElem hi)
theorem CellsAt.same(h:CellsAt w N off L)(he:∀o,w'.cell? ⟨N,o,none⟩=w.cell? ⟨N,o,none⟩):CellsAt w' N off L:=fun i u hu=>(he _).trans (h i u hu)
theorem CellsAt.set(h:CellsAt w N off L)(i:Nat)(u:Value)(hi:i<L.length):CellsAt (w.setCell ⟨N,off+i,none⟩ u) N off (L.set i u):=fun j x hx=>by
 rw [List.getElem?_set]at hx
 by_cases e:i=j
 ·subst e
  rw [if_pos rfl,if_pos hi]at hx
  rw [World.cell?_setCell_same _ _ _ (h.get hi)]
  exact hx
 ·rw [if_neg e]at hx
  rw [World.cell?_setCell_other _ _ _ _ (by simp<;>omega)]
  exact h j x hx
theorem CellsAt.other(h:CellsAt w N off L){M o:Nat}(u:Value)(hne:M≠N∨o<off∨off+L.length≤o):CellsAt (w.setCell ⟨M,o,none⟩ u) N off L:=fun j x hx=>by
 have hj:j<L.length:=(List.getElem?_eq_some_iff.1 hx).1
 rw [World.cell?_setCell_other _ _ _ _ (by simp<;>omega)]
 exact h j x hx
end
theorem made_cells{w:World}{z:Array Value}{n sz j:Nat}{e:TypeId}(hz:z.size=sz)(hsz:0<sz)(hj:j<n):CellsAt (w.alloc (.cells (madeCells z (n*sz)) e)) w.heap.size (j*sz) z.toList:=by
 intro i u hu
 have hi:i<sz:=by have:=(List.getElem?_eq_some_iff.1 hu).1;simp at this;omega
 have h1:j*sz+i<n*sz:=by
  have:(j+1)*sz≤n*sz:=Nat.mul_le_mul_right _ hj
  rw [Nat.add_mul]at this;omega
 have h2:(j*sz+i) % sz=i:=by rw [Nat.mul_comm,Nat.mul_add_mod,Nat.mod_eq_of_lt hi]
 have h3:(madeCells z (n*sz))[j*sz+i]? =some u:=by
  unfold madeCells
  rw [Array.getElem?_map,Array.getElem?_range,if_pos h1]
  simp only [Option.map_some,hz,h2]
  rw [Array.getElem?_toList]at hu
  rw [getElem!_def,hu]
 rw [cell_of_row _ _ _ _ _ _ (heap_alloc_new w _)]
 exact h3
theorem run_make_many{P:Program}(t e:TypeId)(z:Value)(size bytes:Nat)(ht:P.underlying t=some (.slice e))(hinfo:(P.info? e).map (fun i=>(i.zero,i.size,i.bytes))=some (some z,size,bytes))(n:Nat)(hbytes:bytes*(n+1)≤281474976710656)(h63:n+1≤9223372036854775807)(w:World) :
 (Instr.makeSlice t (.int .i64 ((n:Int)+1)) (.int .i64 ((n:Int)+1))).run P w= .ok (.slice (some ⟨w.heap.size,0,none⟩) (n+1) (n+1)) (w.alloc (.cells (madeCells z.cells ((n+1)*size)) e)):=by
 obtain⟨i,hi,hzz⟩:=Option.map_eq_some_iff.1 hinfo
 simp only [Prod.mk.injEq]at hzz
 obtain⟨hz,hs,hb⟩:=hzz
 have hb':(i.bytes:Int)*((n:Int)+1)≤281474976710656:=by
  rw [hb]
  have h:((bytes*(n+1):Nat):Int)≤281474976710656:=by omega
  rwa [Int.natCast_mul,Int.natCast_add]at h
 have hr:=run_make (P:=P) w t e i z ht hi hz .i64 .i64 ((n:Int)+1) ((n:Int)+1) (by omega) (Int.le_refl _) hb' (by omega)
 have e1:((n:Int)+1).toNat=n+1:=by omega
 rw [e1,hs]at hr
 exact hr
structure Upd(P:Nat→Prop)(w w':World)(N off:Nat)(L:List Value):Prop where
 mods:Mods P w w'
 cells:CellsAt w' N off L
 out:∀i,i<off∨off+L.length≤i→w'.cell? ⟨N,i,none⟩=w.cell? ⟨N,i,none⟩
 frz:∀i,w'.frozen? ⟨N,i,none⟩=w.frozen? ⟨N,i,none⟩
section
variable {P : Nat → Prop} {w w' w'' : World} {N off : Nat} {L : List Value}
theorem Upd.refl(h:CellsAt w N off L):Upd P w w N off L:=⟨.refl _ _,h,fun _ _=>rfl,fun _=>rfl⟩
theorem Upd.set(h:Upd P w w' N off L)(i:Nat)(u:Value)(hi:i<L.length)(hP:P N):Upd P w (w'.setCell ⟨N,off+i,none⟩ u) N off (L.set i u):=
 ⟨h.mods.trans (Mods.setCell _ _ _ _ hP),h.cells.set i u hi,fun j hj=>by
  rw [List.length_set]at hj
  rw [World.cell?_setCell_other _ _ _ _ (by simp<;>omega)];exact h.out j hj,fun j=>(World.frozen?_setCell _ _ _ _).trans (h.frz j)⟩
theorem Upd.block(h:Upd P w w' N off L)(hm:Mods P w' w'')(e:w''.heap[N]? =w'.heap[N]?):Upd P w w'' N off L:=
 ⟨h.mods.trans hm,h.cells.same fun o=>World.cell?_of_block (a:=⟨N,o,none⟩) e,fun j hj=>(World.cell?_of_block (a:=⟨N,j,none⟩) e).trans (h.out j hj),fun j=>(World.frozen?_of_block (a:=⟨N,j,none⟩) e).trans (h.frz j)⟩
theorem Upd.grows(h:Upd P w w' N off L)(hN:N<w.heap.size)(hg:w'.Grows w''):Upd P w w'' N off L:=
 h.block (.grows hg) (hg.below.block N (Nat.lt_of_lt_of_le hN h.mods.size))
theorem Upd.pre(hg:w.Grows w')(hN:N<w.heap.size)(h:Upd P w' w'' N off L):Upd P w w'' N off L:=by
 have e:=hg.below.block N hN
 exact⟨(Mods.grows hg).trans h.mods,h.cells,fun j hj=>(h.out j hj).trans (World.cell?_of_block (a:=⟨N,j,none⟩) e),fun j=>(h.frz j).trans (World.frozen?_of_block (a:=⟨N,j,none⟩) e)⟩
end
structure StkR(N o B:Nat)(v v':Value)(zs:List Int)(w w':World):Prop where
 upd:Upd (fun k=>k=N∨v.ownBlock=some k) w w' N o [v']
 row:w'.ownsRow B 3 1 v' zs.length (zs.map (Value.int .i64))
 own:∀k,v'.ownBlock=some k→v.ownBlock=some k∨w.heap.size≤k
theorem StkR.trans{N o B:Nat}{v v1 v2:Value}{zs1 zs2:List Int}{w w1 w2:World}(h:StkR N o B v v1 zs1 w w1)(k:StkR N o B v1 v2 zs2 w1 w2):StkR N o B v v2 zs2 w w2:=by
 refine⟨⟨h.upd.mods.trans2 k.upd.mods fun i hi hq=>?_,k.upd.cells,fun j hj=>(k.upd.out j hj).trans (h.upd.out j hj),fun j=>(k.upd.frz j).trans (h.upd.frz j)⟩,k.row,fun i hi=>?_⟩
 ·rcases hq with hq|hq
  ·exact .inl hq
  ·rcases h.own i hq with e|e
   ·exact .inr e
   ·omega
 ·rcases k.own i hi with e|e
  ·exact h.own i e
  ·exact .inr (Nat.le_trans h.upd.mods.size e)
theorem StkR.pre{N o B:Nat}{v v':Value}{zs:List Int}{w w1 w':World}(hg:w.Grows w1)(hN:N<w.heap.size)(h:StkR N o B v v' zs w1 w'):StkR N o B v v' zs w w':=
 ⟨h.upd.pre hg hN,h.row,fun k hk=>(h.own k hk).imp id fun e=>Nat.le_trans hg.below.size e⟩
theorem PushP.stk{N off B:Nat}{v:Value}{zs:List Int}{dim:Int}{w w':World}{e:Ending}(h:PushP N off v zs B dim w e w')(c1:w.cell? ⟨N,off+1,none⟩=some v)(hne:v.ownBlock≠some N)(hN:N<w.heap.size) :
 e= .returned (.tuple #[])∧∃g cap,StkR N (off+1) B v (.slice (some ⟨g,0,none⟩) (zs++[dim]).length cap) (zs++[dim]) w w':=by
 obtain⟨he,g,cap,w1,ho,hg,hgg,hgl,rfl⟩:=h
 refine⟨he,g,cap, ?_⟩
 have hL:(zs++[dim]).length=zs.length+1:=by simp
 rw [hL]
 have hNg:N≠g:=by
  rcases hgg with e|e
  ·intro h;subst h;exact hne e
  ·omega
 have c1':CellsAt w1 N (off+1) [v]:=fun i u hu=>by
  match i,hu with
  |0,hu=>
   obtain rfl:=Option.some.inj hu
   exact(hg.cell_far ⟨N,off+1,none⟩ hN (fun e=>hne e.symm)).trans c1
  |i+1,hu=>simp at hu
 have U0:Upd (fun k=>k=N∨v.ownBlock=some k) w w1 N (off+1) [v]:=⟨Mods.grown hg fun k hk=>.inr hk,c1',fun j _=>hg.cell_far ⟨N,j,none⟩ hN (fun e=>hne e.symm),fun j=>hg.frozen_far ⟨N,j,none⟩ hN (fun e=>hne e.symm)⟩
 have U1:=U0.set 0 (.slice (some ⟨g,0,none⟩) (zs.length+1) cap) (by simp) (.inl rfl)
 refine⟨U1, ?_,fun k hk=>?_⟩
 ·rw [hL]
  exact Mods.row (P:=fun k=>k=N) (Mods.setCell _ _ _ _ rfl) ho fun k hk e=>by
   have:g=k:=by simpa [Value.ownBlock]using hk
   omega
 ·have:g=k:=by simpa [Value.ownBlock]using hk
  subst this
  exact hgg.imp id id
def StC(w:World)(N off:Nat)(r:Bool)(v:Value)(bs:List Bool):Prop:=bs.length=12∧CellsAt w N off (.bool r::v::bs.map .bool)
theorem twelve{bs:List Bool}(h:bs.length=12):∃b0 b1 b2 b3 b4 b5 b6 b7 b8 b9 b10 b11,bs= [b0,b1,b2,b3,b4,b5,b6,b7,b8,b9,b10,b11]:=by
 match bs,h with
 | [b0,b1,b2,b3,b4,b5,b6,b7,b8,b9,b10,b11],_=>exact⟨b0,b1,b2,b3,b4,b5,b6,b7,b8,b9,b10,b11,rfl⟩
def mrgF(o:Option (List Int × List Bool))(s:List Int × List Bool):Option (List Int × List Bool):=
 match o with
 |none=>some s
 |some t=>if t.1=s.1 then some (t.1,List.zipWith (· && ·) t.2 s.2)else none
theorem putA_mrg(S:List (Option (List Int × List Bool)))(k:Nat)(s:List Int × List Bool):putA S k s=(mrgF (S.getD k none) s).map fun x=>S.set k (some x):=by
 unfold putA mrgF
 cases S.getD k none with
 |none=>rfl
 |some t=>by_cases e:t.1=s.1<;>simp [e]
def StM(w:World)(N off:Nat)(v:Value):Option (List Int × List Bool)→Prop
 |none=>∃bs,StC w N off false (.slice none 0 0) bs
 |some s=>StC w N off true v s.2
theorem StC.same{w w':World}{N off:Nat}{r:Bool}{v:Value}{bs:List Bool}(h:StC w N off r v bs)(he:∀o,w'.cell? ⟨N,o,none⟩=w.cell? ⟨N,o,none⟩):StC w' N off r v bs:=⟨h.1,h.2.same he⟩
theorem StM.same{w w':World}{N off:Nat}{v:Value}{o:Option (List Int × List Bool)}(h:StM w N off v o)(he:∀o,w'.cell? ⟨N,o,none⟩=w.cell? ⟨N,o,none⟩):StM w' N off v o:=by
 cases o with
 |none=>obtain⟨bs,h⟩:=h;exact⟨bs,h.same he⟩
 |some s=>exact StC.same h he
theorem StC.near{w w':World}{N off:Nat}{r:Bool}{v:Value}{bs:List Bool}(h:StC w N off r v bs)(he:∀i,off≤i→i<off+14→w'.cell? ⟨N,i,none⟩=w.cell? ⟨N,i,none⟩):StC w' N off r v bs:=
 ⟨h.1,fun i u hu=>by
  have hi:i<(Value.bool r::v::bs.map .bool).length:=(List.getElem?_eq_some_iff.1 hu).1
  simp [h.1]at hi
  exact(he _ (by omega) (by omega)).trans (h.2 i u hu)⟩
theorem StM.near{w w':World}{N off:Nat}{v:Value}{o:Option (List Int × List Bool)}(h:StM w N off v o)(he:∀i,off≤i→i<off+14→w'.cell? ⟨N,i,none⟩=w.cell? ⟨N,i,none⟩):StM w' N off v o:=by
 cases o with
 |none=>obtain⟨bs,h⟩:=h;exact⟨bs,h.near he⟩
 |some s=>exact StC.near h he
def nmS(k:Nat):ByteArray:=if k=0 then aNm else bNm
def exRow:Nat→List Value
 |0=>[]
 |k+1=>exRow k++[.int .i64 2,.int .i64 0,.int .i64 0,.int .i64 0,.string (nmS k),.slice none 0 0]
def bdRow(ds:List Int):Nat→List Value
 |0=>[]
 |k+1=>bdRow ds k++[.string (nmS k),.int .i64 (ds.getD k 0)]
theorem exRow_len(k:Nat):(exRow k).length=k*6:=by
 induction k with
 |zero=>rfl
 |succ k ih=>rw [exRow,List.length_append,ih];simp;omega
def opnE(op:Int)(n:Nat):Ex:=if n=1 then op1E op else op2E op
def opnV(ds:List Int):List (ByteArray × Int):=if ds.length=1 then [(aNm,ds.getD 0 0)]else [(aNm,ds.getD 0 0),(bNm,ds.getD 1 0)]
theorem nm2_rng{s:ByteArray}(h:s.size≤10):ExRng (nm2 s):=⟨⟨by show _≤(2:Int);omega,by show(2:Int)≤_;omega⟩,⟨by show _≤(0:Int);omega,by show(0:Int)≤_;omega⟩,⟨by show _≤(0:Int);omega,by show(0:Int)≤_;omega⟩,⟨by show _≤(0:Int);omega,by show(0:Int)≤_;omega⟩,by simp [Ex.args,nm2],by show s.size≤_;omega⟩
theorem opn_rng{op:Int}(h:4≤op∧op≤20){l:List Ex}(hl:l.length≤2):ExRng (.mk op 0 0 0 noM l):=⟨⟨by show _≤op;omega,by show op≤_;omega⟩,⟨by show _≤(0:Int);omega,by show(0:Int)≤_;omega⟩,⟨by show _≤(0:Int);omega,by show(0:Int)≤_;omega⟩,⟨by show _≤(0:Int);omega,by show(0:Int)≤_;omega⟩,by show l.length≤_;omega,by show noM.size≤_;decide⟩
theorem rep_opn{w:World}{B n:Nat}{va:Value}{op:Int}(h4:4≤op∧op≤20)(hn:n=1∨n=2)(h:w.ownsRow B 91 6 va n (exRow n)):RepE (fun _=>True) w (opnE op n) va:=by
 obtain⟨-,h0|⟨g,cap,cur,rfl,-,hg,-⟩⟩:=id h
 ·omega
 have hlt:g<w.heap.size:=(Array.getElem?_eq_some_iff.1 hg).1
 have leaf:∀s:ByteArray,s.size≤10→RepE (fun _=>True) w (nm2 s) (.slice none 0 0):=fun s hs=>RepE.nil (nm2_rng hs) rfl
 have hx:∀k,k<n→∀j u,[Value.int .i64 2,.int .i64 0,.int .i64 0,.int .i64 0,.string (nmS k),.slice none 0 0][j]? =some u→w.cell? ⟨g,0+k*6+j,none⟩=some u:=fun k hk j u hu=>by
  have hj:j<6:=(List.getElem?_eq_some_iff.1 hu).1
  rw [Nat.zero_add,h.cellAt (k*6+j) (by omega)]
  rcases hn with rfl|rfl
  ·obtain rfl:k=0:=by omega
   simpa [exRow]using hu
  ·rcases(by omega:k=0∨k=1)with rfl|rfl
   ·rw [exRow,List.getElem?_append_left (by rw [exRow_len];omega)]
    simpa [exRow]using hu
   ·rw [exRow,List.getElem?_append_right (by rw [exRow_len];omega),exRow_len]
    rw [show 1*6+j-1*6=j by omega];exact hu
 have at':∀k,k<n→ExAt w g (0+k*6) (nm2 (nmS k)) (.slice none 0 0):=fun k hk=>⟨hx k hk 0 _ rfl,hx k hk 1 _ rfl,hx k hk 2 _ rfl,hx k hk 3 _ rfl,hx k hk 4 _ rfl,hx k hk 5 _ rfl⟩
 rcases hn with rfl|rfl
 ·exact RepE.mk (op1E op) _ cap (fun _=>.slice none 0 0) (opn_rng h4 (by simp)) (.inr ⟨g,0,rfl,trivial,hlt,fun i hi=>by
   obtain rfl:i=0:=by simp [op1E,Ex.args]at hi;omega
   exact at' 0 (by omega)⟩) (fun i hi=>by
   obtain rfl:i=0:=by simp [op1E,Ex.args]at hi;omega
   exact leaf aNm (by decide))
 ·exact RepE.mk (op2E op) _ cap (fun _=>.slice none 0 0) (opn_rng h4 (by simp)) (.inr ⟨g,0,rfl,trivial,hlt,fun i hi=>by
   rcases(by simp [op2E,Ex.args]at hi;omega:i=0∨i=1)with rfl|rfl
   ·exact at' 0 (by omega)
   ·exact at' 1 (by omega)⟩) (fun i hi=>by
   rcases(by simp [op2E,Ex.args]at hi;omega:i=0∨i=1)with rfl|rfl
   ·exact leaf aNm (by decide)
   ·exact leaf bNm (by decide))
theorem bind_opn{w:World}{B:Nat}{vb:Value}{ds:List Int}(hn:ds.length=1∨ds.length=2)(h:w.ownsRow B 96 2 vb ds.length (bdRow ds ds.length)):BindAt w vb (opnV ds):=by
 obtain⟨-,h0|⟨g,cap,cur,rfl,-,hg,-⟩⟩:=id h
 ·omega
 have hlt:g<w.heap.size:=(Array.getElem?_eq_some_iff.1 hg).1
 have c:=h.cellAt
 match ds,hn with
 | [d],_=>
   refine⟨by simp [opnV],_,cap,rfl,.inr ⟨g,0,rfl,hlt,fun i hi=>?_⟩⟩
   obtain rfl:i=0:=by simp [opnV]at hi;omega
   exact⟨c 0 (by simp),c 1 (by simp)⟩
 | [d,e],_=>
   refine⟨by simp [opnV],_,cap,rfl,.inr ⟨g,0,rfl,hlt,fun i hi=>?_⟩⟩
   rcases(by simp [opnV]at hi;omega:i=0∨i=1)with rfl|rfl
   ·exact⟨c 0 (by simp),c 1 (by simp)⟩
   ·exact⟨c 2 (by simp),c 3 (by simp)⟩
theorem opn_inf{op:Int}{ds:List Int}(h:(4≤op∧op≤6∧ds.length=1)∨(7≤op∧op≤20∧ds.length=2))(hd:∀z∈ds,1≤z∧z≤4):inferE (opnV ds) (opnE op ds.length)=if resD op ds=0 then(0,6)else(resD op ds,0):=by
 rcases h with ⟨h1,h2,h3⟩|⟨h1,h2,h3⟩
 ·match ds,h3 with
  | [d],_=>exact oper_inf1 (by omega) (hd d (by simp))
 ·match ds,h3 with
  | [d,e],_=>exact oper_inf2 ⟨h1,h2⟩ (hd d (by simp)) (hd e (by simp))
def InfSaid:Prop:=∀(S:Nat→Prop) (env:List (ByteArray × Int)) (e:Ex) (v ve:Value) (w:World),RepE S w e v→e.size≤2305843009213693952→Tab w→BindAt w ve env→Calls Tryz.prog 141 #[exV e v,ve] w (InfP (inferE env e) w)
structure OpBox(X:Nat)(op:Int)(va:Value)(w:World):Prop where
 e0:w.cell? ⟨X,0,none⟩=some (.int .i64 op)
 e1:w.cell? ⟨X,1,none⟩=some (.int .i64 0)
 e2:w.cell? ⟨X,2,none⟩=some (.int .i64 0)
 e3:w.cell? ⟨X,3,none⟩=some (.int .i64 0)
 e4:w.cell? ⟨X,4,none⟩=some (.string ⟨#[]⟩)
 e5:w.cell? ⟨X,5,none⟩=some va
 fz:w.frozen? ⟨X,5,none⟩=false
 nm:∀k,k<2→w.cell? ⟨X+1,k,none⟩=some (.string (nmS k))
theorem OpBox.same{X:Nat}{op:Int}{va:Value}{w w':World}(h:OpBox X op va w)(e:w'.heap[X]? =w.heap[X]?)(e':w'.heap[X+1]? =w.heap[X+1]?):OpBox X op va w':=by
 have c:∀o,w'.cell? ⟨X,o,none⟩=w.cell? ⟨X,o,none⟩:=fun o=>World.cell?_of_block (a:=⟨X,o,none⟩) e
 have d:∀o,w'.cell? ⟨X+1,o,none⟩=w.cell? ⟨X+1,o,none⟩:=fun o=>World.cell?_of_block (a:=⟨X+1,o,none⟩) e'
 exact⟨(c _).trans h.e0,(c _).trans h.e1,(c _).trans h.e2,(c _).trans h.e3,(c _).trans h.e4,(c _).trans h.e5,(World.frozen?_of_block (a:=⟨X,5,none⟩) e).trans h.fz,fun k hk=>(d k).trans (h.nm k hk)⟩
theorem OpBox.set{X:Nat}{op:Int}{va vb:Value}{w:World}(h:OpBox X op va w):OpBox X op vb (w.setCell ⟨X,5,none⟩ vb):=by
 have c:∀o,o≠5→(w.setCell ⟨X,5,none⟩ vb).cell? ⟨X,o,none⟩=w.cell? ⟨X,o,none⟩:=fun o ho=>World.cell?_setCell_other _ _ _ _ (by simp<;>omega)
 exact⟨(c _ (by omega)).trans h.e0,(c _ (by omega)).trans h.e1,(c _ (by omega)).trans h.e2,(c _ (by omega)).trans h.e3,(c _ (by omega)).trans h.e4,World.cell?_setCell_same _ _ _ h.e5,(World.frozen?_setCell _ _ _ _).trans h.fz,fun k hk=>(World.cell?_setCell_other _ _ _ _ (by simp)).trans (h.nm k hk)⟩
theorem own_cut{w:World}{B g L m cap:Nat}{e:TypeId}{zs:List Int}(h:w.ownsRow B e 1 (.slice (some ⟨g,0,none⟩) L cap) L (zs.map (Value.int .i64)))(hm:m≤L):w.ownsRow B e 1 (.slice (some ⟨g,0,none⟩) m cap) (zs.take m).length ((zs.take m).map (Value.int .i64)):=by
 obtain⟨hx,h0|⟨g',cap',cur,hv,hb,hg,hn,hcap,hcs,ht⟩⟩:=h
 ·exact absurd h0.1 (by simp)
 obtain⟨rfl,-,rfl⟩:g=g'∧L=L∧cap=cap':=by simpa using hv
 have hl:zs.length=L:=by simpa using hx
 have e1:(zs.take m).length=m:=by rw [List.length_take];omega
 rw [e1]
 refine⟨by rw [List.length_map,e1,Nat.mul_one],.inr ⟨g,cap,cur,rfl,hb,hg,by omega,hcap,hcs, ?_⟩⟩
 rw [Nat.mul_one]at ht ⊢
 rw [List.map_take,←ht,List.take_take,Nat.min_eq_left hm]
theorem StkR.cut{N o B g L m cap:Nat}{zs:List Int}{w:World}(c1:w.cell? ⟨N,o,none⟩=some (.slice (some ⟨g,0,none⟩) L cap))(h:w.ownsRow B 3 1 (.slice (some ⟨g,0,none⟩) L cap) L (zs.map (Value.int .i64)))(hm:m≤L)(hne:g≠N) :
 StkR N o B (.slice (some ⟨g,0,none⟩) L cap) (.slice (some ⟨g,0,none⟩) m cap) (zs.take m) w (w.setCell ⟨N,o,none⟩ (.slice (some ⟨g,0,none⟩) m cap)):=by
 have hc:CellsAt w N o [.slice (some ⟨g,0,none⟩) L cap]:=fun i u hu=>by
  match i,hu with
  |0,hu=>obtain rfl:=Option.some.inj hu;exact c1
  |i+1,hu=>simp at hu
 refine⟨(Upd.refl hc).set 0 _ (by simp) (.inl rfl),Mods.row (P:=fun k=>k=N) (Mods.setCell _ _ _ _ rfl) (own_cut h hm) fun k hk e=>?_,fun k hk=>.inl hk⟩
 have:g=k:=by simpa [Value.ownBlock]using hk
 omega
theorem push_cut(N off B g L m cap:Nat)(zs:List Int)(dim:Int)(w:World)(c1:w.cell? ⟨N,off+1,none⟩=some (.slice (some ⟨g,0,none⟩) L cap))(h:w.ownsRow B 3 1 (.slice (some ⟨g,0,none⟩) L cap) L (zs.map (Value.int .i64)))(hm:m≤L)(hl:L≤1000)(hb:B≤w.heap.size)(hN:N<w.heap.size)(hne:g≠N)(hf:w.frozen? ⟨N,off+1,none⟩=false) :
 Calls Tryz.prog 88 #[.pointer (some ⟨N,off,none⟩),.int .i64 dim] (w.setCell ⟨N,off+1,none⟩ (.slice (some ⟨g,0,none⟩) m cap)) fun e w'=>e= .returned (.tuple #[])∧∃g' cap',StkR N (off+1) B (.slice (some ⟨g,0,none⟩) L cap) (.slice (some ⟨g',0,none⟩) (zs.take m++[dim]).length cap') (zs.take m++[dim]) w w':=by
 have K:=StkR.cut c1 h hm hne
 have hzl:zs.length=L:=by have:=h.1;simpa using this
 have hlm:(zs.take m).length=m:=by rw [List.length_take];omega
 have hs:(w.setCell ⟨N,off+1,none⟩ (.slice (some ⟨g,0,none⟩) m cap)).heap.size=w.heap.size:=by simp [World.setCell]
 have hno:(Value.slice (some ⟨g,0,none⟩) m cap).ownBlock≠some N:=by simp [Value.ownBlock];exact hne
 have c1':(w.setCell ⟨N,off+1,none⟩ (.slice (some ⟨g,0,none⟩) m cap)).cell? ⟨N,off+1,none⟩=some (.slice (some ⟨g,0,none⟩) m cap):=World.cell?_setCell_same _ _ _ c1
 have hp:=push_any N off B (some ⟨g,0,none⟩) cap (zs.take m) dim _ (by rw [hlm];exact c1') (by have:=K.row;rw [hlm]at this ⊢;exact this) (by rw [hs];exact hb) (by rw [hs];exact hN) (by rw [hlm];exact hno) (by omega) (fun w1 hg=>by
  rw [hg.frozen_far ⟨N,off+1,none⟩ (by rw [hs];exact hN) (by rw [hlm];exact fun e=>hno e.symm),World.frozen?_setCell];exact hf)
 rw [hlm]at hp
 refine hp.mono fun e w' q=>?_
 obtain⟨he,g',cap',hk⟩:=q.stk c1' hno (by rw [hs];exact hN)
 exact⟨he,g',cap',K.trans hk⟩
theorem infoEx:(Tryz.prog.info? 91).map (fun i=>(i.zero,i.size,i.bytes))=some (some (.agg #[.int .i64 0,.int .i64 0,.int .i64 0,.int .i64 0,.string ⟨#[]⟩,.slice none 0 0]),6,72):=by kernel_rfl
theorem infoBd:(Tryz.prog.info? 96).map (fun i=>(i.zero,i.size,i.bytes))=some (some (.agg #[.string ⟨#[]⟩,.int .i64 0]),2,24):=by kernel_rfl
def OprP(N off B:Nat)(v:Value)(zs:List Int)(op:Int)(w:World)(e:Ending)(w':World):Prop:=
 (zs.length<ariF op∨resD op (zs.drop (zs.length-ariF op))=0→e= .returned (.bool false)∧w.Grows w')∧
 (¬(zs.length<ariF op∨resD op (zs.drop (zs.length-ariF op))=0)→e= .returned (.bool true)∧∃g cap,StkR N (off+1) B v (.slice (some ⟨g,0,none⟩) (zs.take (zs.length-ariF op)++[resD op (zs.drop (zs.length-ariF op))]).length cap) (zs.take (zs.length-ariF op)++[resD op (zs.drop (zs.length-ariF op))]) w w')
theorem operate_few(N off B:Nat)(zs:List Int)(a:Option Addr)(cap:Nat)(op:Int)(w:World)(c1:w.cell? ⟨N,off+1,none⟩=some (.slice a zs.length cap))(hl:zs.length≤100)(hlt:zs.length<ariF op) :
 Calls Tryz.prog 91 #[.pointer (some ⟨N,off,none⟩),.int .i64 op] w (OprP N off B (.slice a zs.length cap) zs op w):=by
 have HO:=Lib.hid (fun w=>operands_any op w)
 have h2:ariF op≤2:=by unfold ariF;split<;>omega
 have HP:Hid (∀w',w.Grows w'→OprP N off B (.slice a zs.length cap) zs op w (.returned (.bool false)) w'):=Lib.hid (fun w' hg=>⟨fun _=>⟨rfl,hg⟩,fun h=>absurd (.inl hlt) h⟩)
 generalize ariF op=n at *
 generalize zs.length=L at *
 have d1:(L:Int)<(n:Int):=by omega
 go_enter Tryz.func91,Tryz.ntmps91
 go_wp2_with (go_at_call 53;refine(HO.out _).mono ?_;rintro e' w' ⟨rfl,rfl⟩)
 go_returns
 exact HP.out _ growsR
theorem operate_core(hInf:Hid InfSaid)(N off B g n m cap:Nat)(zs:List Int)(op:Int)(w:World)(hn:n=1∨n=2)(har:Hid (ariF op=n))(hz:Hid (zs.length=m+n))(hop:Hid (4≤op∧op≤20))(hr:Hid (∀z∈zs,1≤z∧z≤4))(hmn:m+n≤100)
 (c1:w.cell? ⟨N,off+1,none⟩=some (.slice (some ⟨g,0,none⟩) (m+n) cap)) (ho:w.ownsRow B 3 1 (.slice (some ⟨g,0,none⟩) (m+n) cap) (m+n) (zs.map (Value.int .i64))) (hb:B≤w.heap.size) (hN:N<w.heap.size) (hne:g≠N) (hf:w.frozen? ⟨N,off+1,none⟩=false) (ht:Tab w) :
 Calls Tryz.prog 91 #[.pointer (some ⟨N,off,none⟩),.int .i64 op] w (OprP N off B (.slice (some ⟨g,0,none⟩) (m+n) cap) zs op w):=by
 obtain⟨i1,hi1,hz01,hz11,hz21⟩:=info_parts infoEx
 obtain⟨i2,hi2,hz02,hz12,hz22⟩:=info_parts infoBd
 have HO:=Lib.hid (fun w=>operands_any op w)
 rw [har.out]at HO
 have HT:=Lib.hid ht
 have HRow:=Lib.hid ho
 obtain⟨-,h0|⟨g',cap',cur,hgv,-,hgh,hncap,-⟩⟩:=id ho
 ·exact absurd h0.1 (by simp)
 obtain⟨rfl,-,rfl⟩:g=g'∧m+n=m+n∧cap=cap':=by simpa using hgv
 have hgl:g<w.heap.size:=(Array.getElem?_eq_some_iff.1 hgh).1
 have hds:(zs.drop m).length=n:=by rw [List.length_drop,hz.out];omega
 have HDS:=Lib.hid hds
 have hcz:∀k,k<n→w.cell? ⟨g,m+k,none⟩=some (.int .i64 ((zs.drop m).getD k 0)):=fun k hk=>by
  rw [ho.cellAt (m+k) (by omega),List.getElem?_map,List.getD_eq_getElem?_getD,List.getElem?_drop]
  have:=hz.out
  rw [List.getElem?_eq_getElem (by omega:m+k<zs.length)];rfl
 have HCZ:=Lib.hid hcz
 have HDR:=Lib.hid (fun z (h:z∈zs.drop m)=>hr.out z (List.mem_of_mem_drop h))
 clear hcz ho hds ht hgv hgh
 obtain⟨ds,hds⟩:∃ds,zs.drop m=ds:=⟨_,rfl⟩
 rw [hds]at HDS HCZ HDR
 have HE:=Lib.hid hds
 clear hds
 have hNX:N≠w.heap.size:=by omega
 have hgX:g≠w.heap.size:=by omega
 have hw1:((m+n:Nat):Int)-(n:Int)=(m:Int):=by omega
 have hnlt:¬((m+n:Nat):Int)<(n:Int):=by omega
 go_enter Tryz.func91,Tryz.ntmps91
 go_wp2_with (go_at_call 53;refine(HO.out _).mono ?_;rintro e' w' ⟨rfl,rfl⟩)
 go_loopw [8,35] (fun v8 v35 wr=>∃(k:Nat) (va vb:Value),k≤n∧v35= .int .i64 k∧vb=v8∧w.Grows wr∧w.heap.size+1<wr.heap.size∧OpBox w.heap.size op va wr∧wr.ownsRow (w.heap.size+2) 91 6 va k (exRow k)∧wr.ownsRow (w.heap.size+2) 96 2 vb k (bdRow ds k)∧(∀j,va.ownBlock=some j→vb.ownBlock≠some j)) (fun _ v35 _=>n-(intOf v35).toNat)
 case atStart=>
  exact⟨0,.slice none 0 0,.slice none 0 0,by omega,rfl,rfl,growsR,by simp,⟨by simp [go_sem],by simp [go_sem],by simp [go_sem],by simp [go_sem],by simp [go_sem],by simp [go_sem],by simp [go_sem],fun k hk=>by
   rcases(by omega:k=0∨k=1)with rfl|rfl<;>simp [go_sem,nmS,aNm,bNm]⟩,World.ownsRow_nil _ _ _ _,World.ownsRow_nil _ _ _ _,fun j h=>by cases h⟩
 case round=>
  obtain⟨k,va,vb,hk,rfl,rfl,hg,hsz,hbx,hva,hvb,hdis⟩:=hrel
  have HG:=Lib.hid hg
  have HBX:=Lib.hid hbx
  have HVA:=Lib.hid hva
  have HVB:=Lib.hid hvb
  have HDI:=Lib.hid hdis
  have b1:wr.cell? ⟨N,off+1,none⟩=some (.slice (some ⟨g,0,none⟩) (m+n) cap):=(World.cell?_of_block (hg.below.block N hN)).trans c1
  have hNr:N<wr.heap.size:=by have:=hg.below.size;omega
  have hgr:g<wr.heap.size:=by have:=hg.below.size;omega
  obtain⟨e0,e1,e2,e3,e4,e5,fz,nm⟩:=hbx
  by_cases hlt:k<n
  ·have d1:(k:Int)<(n:Int):=by omega
   have nk:=nm k (by omega)
   have ck:=(World.cell?_of_block (a:=⟨g,m+k,none⟩) (hg.below.block g hgl)).trans (HCZ.out k hlt)
   have hXB:=bdRow ds
   have HBS:Hid (bdRow ds (k+1)=bdRow ds k++[.string (nmS k),.int .i64 (ds.getD k 0)]):=Lib.hid rfl
   obtain⟨z,hzk⟩:∃z,ds.getD k 0=z:=⟨_,rfl⟩
   obtain⟨q,hq⟩:∃q,m+k=q:=⟨_,rfl⟩
   rw [hzk,hq]at ck
   rw [hzk]at HBS
   have hqi:(m:Int)+(k:Int)=(q:Int):=by omega
   have hqn:(q:Int)<((m+n:Nat):Int):=by omega
   have hq0:(0:Int)≤(q:Int):=by omega
   have HKN:=Lib.hid hlt
   clear hg hva hvb hdis nm hXB hzk hq hlt
   go_wp2_with (at_builtin;refine wpList_append_lies _ rfl _ _ 89 rfl (w.heap.size+2) 91 i1 _ 6 72 Tryz.underlying89 hi1 hz01 hz11 hz21 rfl (by decide) va k _ rfl (HVA.out.alloc _) ⟨wr.heap.size,0,none⟩ 1 1 [.int .i64 2,.int .i64 0,.int .i64 0,.int .i64 0,.string (nmS k),.slice none 0 0] rfl rfl ?c1 ?c2 (by decide) ?c3 ?c4 ?c5 (wr.heap.size+1) (by simp) ?_)
   case c1=>exact news_cells _ [.int .i64 2,.int .i64 0,.int .i64 0,.int .i64 0,.string (nmS k),.slice none 0 0] _ _ (by simp)
   case c2=>intro u hu;simp at hu;rcases hu with rfl|rfl|rfl|rfl|rfl|rfl<;>rfl
   case c3=>unfold maxLen;omega
   case c4=>omega
   case c5=>simp;omega
   intro ga cpa w1 hown hgrow hgg hgl1
   have hg1:wr.grownBy w1 va.ownBlock:=⟨hgrow.os,hgrow.tape,hgrow.output,by have:=hgrow.size;simp at this;omega,fun k hk hne=>(hgrow.block k (by simp;omega) hne).trans (Below.heap_alloc wr _ k hk)⟩
   have hXa:some w.heap.size≠va.ownBlock:=fun e=>by have:=(HVA.out.lt _ e.symm).1;omega
   have hXa1:some (w.heap.size+1)≠va.ownBlock:=fun e=>by have:=(HVA.out.lt _ e.symm).1;omega
   have hNa:some N≠va.ownBlock:=fun e=>by have:=(HVA.out.lt _ e.symm).1;omega
   have hga:some g≠va.ownBlock:=fun e=>by have:=(HVA.out.lt _ e.symm).1;omega
   have q1:=(hg1.cell_far ⟨N,off+1,none⟩ hNr hNa).trans b1
   have q2:=(hg1.cell_far ⟨g,q,none⟩ hgr hga).trans ck
   have HBX1:=Lib.hid (HBX.out.same (hg1.block _ (by omega) hXa) (hg1.block _ hsz hXa1))
   have q5:=HBX1.out.e5
   have qf:=HBX1.out.fz
   have hX1:w.heap.size<w1.heap.size:=by have:=hg1.size;omega
   have hs1:=hg1.size
   have HVB1:=Lib.hid (Mods.row (P:=fun b=>va.ownBlock=some b) (Mods.grown hg1 fun _ e=>e) HVB.out fun b hb e=>HDI.out b e hb)
   have HOA:=Lib.hid hown
   have HGG:=Lib.hid hgg
   have HG1:=Lib.hid hg1
   have HAG:Hid (w.Grows w1):=Lib.hid (World.Grows.grown HG.out hg1 fun b e=>(by have:=(HVA.out.lt _ e).1;omega))
   have HBL:Hid (vb.ownBlock≠some ga):=Lib.hid (fun e=>by
    rcases HGG.out with h|h
    ·exact HDI.out _ h e
    ·have:=(HVB.out.lt _ e).2;omega)
   have hgl1':=hgl1
   have hX2:w.heap.size+2≤ga:=by
    rcases hgg with h|h
    ·exact(HVA.out.lt _ h).1
    ·omega
   clear hown hgrow hgg hg1 hgl1 hXa hXa1 hNa hga e5 fz b1 ck e0 e1 e2 e3 e4 nk
   have HVB2:Hid ((w1.setCell ⟨w.heap.size,5,none⟩ (.slice (some ⟨ga,0,none⟩) (k+1) cpa)).ownsRow (w.heap.size+2) 96 2 vb k (bdRow ds k)):=Lib.hid (Mods.row (P:=fun b=>b=w.heap.size) (Mods.setCell w1 w.heap.size 5 (.slice (some ⟨ga,0,none⟩) (k+1) cpa) rfl) HVB1.out (fun b hb e=>by have:=(HVB1.out.lt _ hb).1;omega))
   go_wp2_with (at_builtin;refine wpList_append_lies _ rfl _ _ 87 rfl (w.heap.size+2) 96 i2 _ 2 24 Tryz.underlying87 hi2 hz02 hz12 hz22 rfl (by decide) vb k _ rfl (HVB2.out.alloc _) ⟨w1.heap.size,0,none⟩ 1 1 [.string (nmS k),.int .i64 z] rfl rfl ?c1 ?c2 (by decide) ?c3 ?c4 ?c5 (w1.heap.size+1) (by simp) ?_)
   case c1=>exact news_cells _ [.string (nmS k),.int .i64 z] _ _ (by simp)
   case c2=>intro u hu;simp at hu;rcases hu with rfl|rfl<;>rfl
   case c3=>unfold maxLen;omega
   case c4=>omega
   case c5=>simp;omega
   intro gb cpb w2 hown hgrow hgg hgl2
   have HU:=Lib.hid (show(w1.setCell ⟨w.heap.size,5,none⟩ (.slice (some ⟨ga,0,none⟩) (k+1) cpa)).grownBy w2 vb.ownBlock from⟨hgrow.os,hgrow.tape,hgrow.output,by have:=hgrow.size;simp at this;simp;omega,fun b hb hne=>(hgrow.block b (by simp at hb ⊢;omega) hne).trans (Below.heap_alloc _ _ b hb)⟩)
   have HOB:=Lib.hid hown
   have HGB:=Lib.hid hgg
   have HGL2:=Lib.hid hgl2
   have hs2:w1.heap.size≤w2.heap.size:=by have:=HU.out.size;simpa using this
   clear hown hgrow hgg hgl2
   go_wp2_with fail
   go_roundw
   case rel=>
    have hMU:Mods (fun b=>vb.ownBlock=some b) _ w2:=Mods.grown HU.out fun _ e=>e
    have hXv:∀b,vb.ownBlock=some b→w.heap.size+2≤b:=fun b e=>(HVB.out.lt _ e).1
    refine⟨k+1,.slice (some ⟨ga,0,none⟩) (k+1) cpa,_,HKN.out,by go_num,rfl, ?_,by omega, ?_, ?_,by rw [HBS.out];exact HOB.out, ?_⟩
    ·exact .of_below (hMU.below (HAG.out.below.setCell (Nat.le_refl _) _) (by simp;have:=HAG.out.below.size;omega) fun b e=>by have:=hXv b e;omega)
    ·exact HBX1.out.set.same (hMU.block _ (by simp;omega) fun e=>by have:=hXv _ e;omega) (hMU.block _ (by simp;omega) fun e=>by have:=hXv _ e;omega)
    ·refine hMU.row (Mods.row (P:=fun b=>b=w.heap.size) (Mods.setCell _ _ _ _ rfl) HOA.out fun b hb e=>?_) fun b hb e=>?_
     ·have:ga=b:=by simpa [Value.ownBlock]using hb
      omega
     ·have:ga=b:=by simpa [Value.ownBlock]using hb
      exact HBL.out (this ▸ e)
    ·intro j hj e
     have h1:ga=j:=by simpa [Value.ownBlock]using hj
     have h2:gb=j:=by simpa [Value.ownBlock]using e
     rcases HGB.out with h|h
     ·exact HBL.out (by rw [h,h2,h1])
     ·omega
   case measure=>simp [intOf];have:=HKN.out;omega
  ·obtain rfl:k=n:=by omega
   have hk1:((4:Int)≤op∧op≤6∧ds.length=k)∧k=1∨(7≤op∧op≤20∧ds.length=k)∧k=2:=by
    have h1:=har.out
    have h2:=hop.out
    have h3:=HDS.out
    unfold ariF at h1
    split at h1<;>omega
   have hIN:inferE (opnV ds) (opnE op k)=if resD op ds=0 then(0,6)else(resD op ds,0):=by
    rw [←HDS.out]
    exact opn_inf (by
     have h3:=HDS.out
     rcases hk1 with ⟨⟨p1,p2,p3⟩,p4⟩|⟨⟨p1,p2,p3⟩,p4⟩
     ·exact .inl ⟨p1,p2,by omega⟩
     ·exact .inr ⟨p1,p2,by omega⟩) HDR.out
   have hsz':(opnE op k).size≤2305843009213693952:=by
    unfold opnE
    split<;>simp [op1E,op2E,nm2,Ex.size,Ex.sizes]
   have hbd:BindAt wr vb (opnV ds):=bind_opn (by rw [HDS.out];exact hn) (by rw [HDS.out];exact hvb)
   have HI:=Lib.hid (fun w' (hg':wr.Grows w')=>hInf.out (fun _=>True) (opnV ds) (opnE op k) va vb w' ((rep_opn hop.out hn hva).grows hg') hsz' (HT.out.grows (World.Grows.trans' hg hg')) (hbd.grows hg'))
   rw [hIN]at HI
   have hexv:exV (opnE op k) va= .agg #[.int .i64 op,.int .i64 0,.int .i64 0,.int .i64 0,.string ⟨#[]⟩,va]:=by
    unfold opnE
    split<;>rfl
   rw [hexv]at HI
   unfold InfP at HI
   have HSP:Hid (OprP N off B (.slice (some ⟨g,0,none⟩) (m+k) cap) zs op w=fun e w'=>(resD op ds=0→e= .returned (.bool false)∧w.Grows w')∧(¬resD op ds=0→e= .returned (.bool true)∧∃g' cap',StkR N (off+1) B (.slice (some ⟨g,0,none⟩) (m+k) cap) (.slice (some ⟨g',0,none⟩) (zs.take m++[resD op ds]).length cap') (zs.take m++[resD op ds]) w w')):=Lib.hid (by
    funext e w'
    unfold OprP
    have hzl:=hz.out
    have e1:zs.length-ariF op=m:=by rw [har.out];omega
    have e2:¬zs.length<ariF op:=by rw [har.out];omega
    simp only [e1,HE.out,e2,false_or])
   clear hva hvb hdis hIN hexv hbd hsz' hk1
   have hbr:wr.frozen? ⟨N,off+1,none⟩=false:=(World.frozen?_of_block (a:=⟨N,off+1,none⟩) (hg.below.block N hN)).trans hf
   clear hg nm
   by_cases hz0:resD op ds=0
   ·rw [if_pos hz0]at HI
    go_wp2_with (go_at_call 141;refine(HI.out _ growsR).mono ?_;rintro e' w' ⟨rfl,bs,d,rfl⟩)
    go_returns
    rw [HSP.out]
    exact⟨fun _=>⟨rfl,World.Grows.trans' HG.out growsR⟩,fun h=>absurd hz0 h⟩
   ·rw [if_neg hz0]at HI
    have HPU:Hid (∀wq,wr.Grows wq→Calls Tryz.prog 88 #[.pointer (some ⟨N,off,none⟩),.int .i64 (resD op ds)] (wq.setCell ⟨N,off+1,none⟩ (.slice (some ⟨g,0,none⟩) m cap)) fun e w'=>e= .returned (.tuple #[])∧∃g' cap',StkR N (off+1) B (.slice (some ⟨g,0,none⟩) (m+k) cap) (.slice (some ⟨g',0,none⟩) (zs.take m++[resD op ds]).length cap') (zs.take m++[resD op ds]) w w'):=Lib.hid (fun wq hq=>by
     have hwq:=World.Grows.trans' HG.out hq
     refine(push_cut N off B g (m+k) m cap zs (resD op ds) wq ((World.cell?_of_block (hq.below.block N hNr)).trans b1) (Mods.row (P:=fun _=>False) (.grows hwq) HRow.out fun _ _ e=>e) (by omega) (by omega) (by have:=hwq.below.size;omega) (by have:=hwq.below.size;omega) hne ((World.frozen?_of_block (a:=⟨N,off+1,none⟩) (hq.below.block N hNr)).trans hbr)).mono ?_
     rintro e w' ⟨he,g',cap',hk⟩
     exact⟨he,g',cap',hk.pre hwq hN⟩)
    have HPV:=Lib.hid (fun bs d=>by
     have:=HPU.out (wr.grow bs d) ⟨bs,d,rfl⟩
     rw [World.setCell_grow _ _ _ _ hNr]at this
     exact this)
    generalize resD op ds=dim at *
    have HZ0:=Lib.hid hz0
    clear hz0
    go_wp2_with (first
     |(go_at_call 141;refine(HI.out _ growsR).mono ?_;rintro e' w' ⟨rfl,bs,d,rfl⟩)
     |(go_at_call 88;refine(HPV.out _ _).mono ?_;rintro e' w' ⟨rfl,g',cap',hk'⟩;have HK:=Lib.hid hk';clear hk'))
    go_returns
    rw [HSP.out]
    exact⟨fun h=>absurd h HZ0.out,fun _=>⟨rfl,g',cap',HK.out⟩⟩
theorem operate_any(hInf:Hid InfSaid)(N off B:Nat)(v:Value)(zs:List Int)(op:Int)(w:World)(hop:4≤op∧op≤20)(hr:∀z∈zs,1≤z∧z≤4)(hl:zs.length≤100)(c1:w.cell? ⟨N,off+1,none⟩=some v)(ho:w.ownsRow B 3 1 v zs.length (zs.map (Value.int .i64)))(hb:B≤w.heap.size)(hN:N<w.heap.size)(hne:v.ownBlock≠some N)(hf:w.frozen? ⟨N,off+1,none⟩=false)(ht:Tab w) :
 Calls Tryz.prog 91 #[.pointer (some ⟨N,off,none⟩),.int .i64 op] w (OprP N off B v zs op w):=by
 obtain⟨a,cap,rfl,hg⟩:∃a cap,v= .slice a zs.length cap∧(zs.length=0∨∃g,a=some ⟨g,0,none⟩):=by
  rcases ho.2 with ⟨rfl,e⟩|⟨g,cap,cur,rfl,-⟩
  ·exact⟨none,0,by rw [e],.inl e⟩
  ·exact⟨_,_,rfl,.inr ⟨g,rfl⟩⟩
 by_cases hlt:zs.length<ariF op
 ·exact operate_few N off B zs a cap op w c1 hl hlt
 have hn:ariF op=1∨ariF op=2:=by unfold ariF;split<;>omega
 rcases hg with h0|⟨g,rfl⟩
 ·omega
 have hz:zs.length=(zs.length-ariF op)+ariF op:=by omega
 have:=operate_core hInf N off B g (ariF op) (zs.length-ariF op) cap zs op w hn (Lib.hid rfl) (Lib.hid hz) (Lib.hid hop) (Lib.hid hr) (by omega) (by rw [←hz];exact c1) (by rw [←hz];exact ho) hb hN (fun e=>hne (by rw [e];rfl)) hf ht
 rw [←hz]at this
 exact this
theorem wellFormed_any(l:List Ins)(sl:List ByteArray)(vi vs:Value)(i:Nat)(w:World)(hI:InsAt w vi l)(hS:SlAt w vs sl)(hi:i<l.length) :
 Calls Tryz.prog 40 #[.agg #[vi,vs],.int .i64 i] w fun e w'=>e= .returned (.bool (wfF sl.length l.length i (l.getD i default)))∧w.Grows w':=by
 obtain⟨hl6,ai,ci,rfl,hx⟩:=hI
 obtain⟨hs6,-,as',cs',-,rfl,-⟩:=hS
 rcases hx with h0|⟨b,off,rfl,hb,hx⟩
 ·omega
 obtain⟨⟨hn,hd⟩,x0,x1,x2,x3⟩:=hx i hi
 have d1:(i:Int)<(l.length:Int):=by omega
 generalize l.getD i default=x at *
 obtain⟨op,a,n,d⟩:=x
 dsimp only at *
 have HV:=Lib.hid (fun w=>Valid2_any n d w hn.1 hn.2 hd.1 hd.2)
 clear hx hi
 generalize sl.length=m at *
 generalize l.length=N at *
 by_cases h1:op=1
 ·subst h1
  by_cases ha:a=2∨a=3∨a=4
  ·have HW:Hid (wfF m N i ⟨1,a,n,d⟩=vfrac n d):=Lib.hid (by unfold wfF;rw [if_pos rfl,decide_eq_true ha];rfl)
   rcases ha with rfl|rfl|rfl
   focus
    go_enter Tryz.func40,Tryz.ntmps40
   rotate_left
   focus
    go_enter Tryz.func40,Tryz.ntmps40
   rotate_left
   focus
    go_enter Tryz.func40,Tryz.ntmps40
   rotate_left
   all_goals
    go_wp2_with (first
     |(go_at_call 85;refine(HV.out _).mono ?_;rintro e' w' ⟨rfl,bs,d',rfl⟩)
     |(go_at_call 52;refine(oper2_any _ _).mono ?_;rintro e' w' ⟨rfl,rfl⟩))
    go_returns
    exact⟨by rw [HW.out];first|rfl|simp [*],growsR⟩
  ·have HW:Hid (wfF m N i ⟨1,a,n,d⟩=false):=Lib.hid (by unfold wfF;rw [if_pos rfl,decide_eq_false ha];rfl)
   have a2:(a==2)=false:=by simp;omega
   have a3:(a==3)=false:=by simp;omega
   have a4:(a==4)=false:=by simp;omega
   clear ha
   go_enter Tryz.func40,Tryz.ntmps40
   go_wp2_with (first
    |(go_at_call 85;refine(HV.out _).mono ?_;rintro e' w' ⟨rfl,bs,d',rfl⟩)
    |(go_at_call 52;refine(oper2_any _ _).mono ?_;rintro e' w' ⟨rfl,rfl⟩))
   go_returns
   exact⟨by rw [HW.out];first|rfl|simp [*],growsR⟩
 have b1:(op==1)=false:=by simpa using h1
 by_cases hz:n=0∧d=0
 case neg=>
  have HW:Hid (wfF m N i ⟨op,a,n,d⟩=false):=Lib.hid (by unfold wfF;rw [if_neg h1,if_pos hz])
  by_cases hn0:n=0
  focus
   subst hn0
   have hd0:(d==0)=false:=by simp;omega
  rotate_left
  focus
   have hn1:(n==0)=false:=by simpa using hn0
  rotate_left
  all_goals
   clear hz
   go_enter Tryz.func40,Tryz.ntmps40
   go_wp2_with (first
    |(go_at_call 85;refine(HV.out _).mono ?_;rintro e' w' ⟨rfl,bs,d',rfl⟩)
    |(go_at_call 52;refine(oper2_any _ _).mono ?_;rintro e' w' ⟨rfl,rfl⟩))
   go_returns
   exact⟨by rw [HW.out];first|rfl|simp [*],growsR⟩
 obtain⟨rfl,rfl⟩:=hz
 clear hn hd HV
 have HV:Hid True:=Lib.hid trivial
 by_cases h2:op=2
 ·subst h2
  have HW:Hid (wfF m N i ⟨2,a,0,0⟩=decide (0≤a∧a<11)):=Lib.hid rfl
  by_cases ha:0≤a
  ·have g1:decide (0≤a)=true:=decide_eq_true ha
   by_cases hm:a<11
   focus
    rw [decide_eq_true ⟨ha,hm⟩]at HW
    have g2:decide (a<11)=true:=decide_eq_true hm
   rotate_left
   focus
    rw [decide_eq_false (fun h=>hm h.2)]at HW
    have g2:decide (a<11)=false:=decide_eq_false hm
   rotate_left
   all_goals
    go_enter Tryz.func40,Tryz.ntmps40
    go_wp2_with fail
    refine TS.begin [10] (World.Grows _) (by kernel_rfl) (by kernel_rfl) grows_drew0 (fun hS=>?_)
    refine TS.wkB 0 hS ?_
    refine TS.wkB 1 hS ?_
    refine TS.wkB 2 hS ?_
    refine TS.wkB 3 hS ?_
    refine TS.wkB 4 hS ?_
    refine TS.wkB 5 hS ?_
    refine TS.one (i:=6) (by kernel_rfl) rfl (fun K1 hK1=>?_)
    have HK1:=Lib.hid hK1
    clear hK1 hS
    dsimp only [List.getElem_toArray,List.getElem_cons_succ,List.getElem_cons_zero]
    go_simp
    go_at_call 50
    refine(inputs2_any _).mono ?_
    rintro e' w' ⟨rfl,bs,d,rfl⟩
    refine TS.go HK1.out growsR (fun hS=>?_)
    clear HK1 K1
    (try simp only [nS])
    refine TS.wkB 7 hS ?_
    refine TS.wkB 8 hS ?_
    refine TS.wkB 9 hS ?_
    refine TS.weB 10 ?_
    clear hS
    go_wp2_with fail
    go_returns
    exact⟨by rw [HW.out];first|rfl|simp [*],growsR⟩
  ·rw [decide_eq_false (fun h=>ha h.1)]at HW
   have g1:decide (0≤a)=false:=decide_eq_false ha
   go_enter Tryz.func40,Tryz.ntmps40
   go_wp2_with fail
   refine TS.begin [10] (World.Grows _) (by kernel_rfl) (by kernel_rfl) grows_drew0 (fun hS=>?_)
   refine TS.wkB 0 hS ?_
   refine TS.wkB 1 hS ?_
   refine TS.wkB 2 hS ?_
   refine TS.wkB 3 hS ?_
   refine TS.take (i:=4) (v:=undef) rfl (by kernel_rfl) (by kernel_rfl) (by kernel_rfl) (by decide) (fun _ _ _ h=>h) (.inl ⟨rfl,rfl⟩) hS ?_
   (try simp only [nS])
   refine TS.take (i:=5) (v:=undef) rfl (by kernel_rfl) (by kernel_rfl) (by kernel_rfl) (by decide) (fun _ _ _ h=>h) (.inl ⟨rfl,rfl⟩) hS ?_
   (try simp only [nS])
   refine TS.take (i:=6) (v:=undef) rfl (by kernel_rfl) (by kernel_rfl) (by kernel_rfl) (by decide) (fun _ _ _ h=>h) (.inl ⟨rfl,rfl⟩) hS ?_
   (try simp only [nS])
   refine TS.take (i:=7) (v:=undef) rfl (by kernel_rfl) (by kernel_rfl) (by kernel_rfl) (by decide) (fun _ _ _ h=>h) (.inl ⟨rfl,rfl⟩) hS ?_
   (try simp only [nS])
   refine TS.take (i:=8) (v:=undef) rfl (by kernel_rfl) (by kernel_rfl) (by kernel_rfl) (by decide) (fun _ _ _ h=>h) (.inl ⟨rfl,rfl⟩) hS ?_
   (try simp only [nS])
   refine TS.wkB 9 hS ?_
   refine TS.weB 10 ?_
   clear hS
   go_wp2_with fail
   go_returns
   exact⟨by rw [HW.out];first|rfl|simp [*],growsR⟩
 have b2:(op==2)=false:=by simpa using h2
 by_cases h3:op=3∨op=4
 ·have HW:Hid (wfF m N i ⟨op,a,0,0⟩=decide (0≤a∧a<m)):=Lib.hid (by unfold wfF;rw [if_neg h1,if_neg (by simp),if_neg h2,if_pos h3])
  by_cases ha:0≤a
  ·by_cases hm:a<m
   focus
    rw [decide_eq_true ⟨ha,hm⟩]at HW
   rotate_left
   focus
    rw [decide_eq_false (fun h=>hm h.2)]at HW
   rotate_left
   all_goals
    rcases h3 with rfl|rfl
    focus
     go_enter Tryz.func40,Tryz.ntmps40
    rotate_left
    focus
     go_enter Tryz.func40,Tryz.ntmps40
    rotate_left
    all_goals
     go_wp2_with (first
      |(go_at_call 85;refine(HV.out _).mono ?_;rintro e' w' ⟨rfl,bs,d',rfl⟩)
      |(go_at_call 52;refine(oper2_any _ _).mono ?_;rintro e' w' ⟨rfl,rfl⟩))
     go_returns
     exact⟨by rw [HW.out];first|rfl|simp [*],growsR⟩
  ·rw [decide_eq_false (fun h=>ha h.1)]at HW
   rcases h3 with rfl|rfl
   focus
    go_enter Tryz.func40,Tryz.ntmps40
   rotate_left
   focus
    go_enter Tryz.func40,Tryz.ntmps40
   rotate_left
   all_goals
    go_wp2_with (first
     |(go_at_call 85;refine(HV.out _).mono ?_;rintro e' w' ⟨rfl,bs,d',rfl⟩)
     |(go_at_call 52;refine(oper2_any _ _).mono ?_;rintro e' w' ⟨rfl,rfl⟩))
    go_returns
    exact⟨by rw [HW.out];first|rfl|simp [*],growsR⟩
 have b3:(op==3)=false:=by simp;omega
 have b4:(op==4)=false:=by simp;omega
 by_cases h5:op=5
 ·subst h5
  have HW:Hid (wfF m N i ⟨5,a,0,0⟩=decide (1≤a∧a≤45)):=Lib.hid rfl
  by_cases ha:1≤a
  ·by_cases hm:a≤45
   focus
    rw [decide_eq_true ⟨ha,hm⟩]at HW
   rotate_left
   focus
    rw [decide_eq_false (fun h=>hm h.2)]at HW
   rotate_left
   all_goals
    go_enter Tryz.func40,Tryz.ntmps40
    go_wp2_with (first
     |(go_at_call 85;refine(HV.out _).mono ?_;rintro e' w' ⟨rfl,bs,d',rfl⟩)
     |(go_at_call 52;refine(oper2_any _ _).mono ?_;rintro e' w' ⟨rfl,rfl⟩))
    go_returns
    exact⟨by rw [HW.out];first|rfl|simp [*],growsR⟩
  ·rw [decide_eq_false (fun h=>ha h.1)]at HW
   go_enter Tryz.func40,Tryz.ntmps40
   go_wp2_with (first
    |(go_at_call 85;refine(HV.out _).mono ?_;rintro e' w' ⟨rfl,bs,d',rfl⟩)
    |(go_at_call 52;refine(oper2_any _ _).mono ?_;rintro e' w' ⟨rfl,rfl⟩))
   go_returns
   exact⟨by rw [HW.out];first|rfl|simp [*],growsR⟩
 have b5:(op==5)=false:=by simpa using h5
 by_cases h21:op=21∨op=22
 ·have HW:Hid (wfF m N i ⟨op,a,0,0⟩=decide ((i:Int)<a∧a≤N)):=Lib.hid (by unfold wfF;rw [if_neg h1,if_neg (by simp),if_neg h2,if_neg h3,if_neg h5,if_pos h21])
  by_cases ha:(i:Int)<a
  ·by_cases hm:a≤N
   focus
    rw [decide_eq_true ⟨ha,hm⟩]at HW
   rotate_left
   focus
    rw [decide_eq_false (fun h=>hm h.2)]at HW
   rotate_left
   all_goals
    rcases h21 with rfl|rfl
    focus
     go_enter Tryz.func40,Tryz.ntmps40
    rotate_left
    focus
     go_enter Tryz.func40,Tryz.ntmps40
    rotate_left
    all_goals
     go_wp2_with (first
      |(go_at_call 85;refine(HV.out _).mono ?_;rintro e' w' ⟨rfl,bs,d',rfl⟩)
      |(go_at_call 52;refine(oper2_any _ _).mono ?_;rintro e' w' ⟨rfl,rfl⟩))
     go_returns
     exact⟨by rw [HW.out];first|rfl|simp [*],growsR⟩
  ·rw [decide_eq_false (fun h=>ha h.1)]at HW
   rcases h21 with rfl|rfl
   focus
    go_enter Tryz.func40,Tryz.ntmps40
   rotate_left
   focus
    go_enter Tryz.func40,Tryz.ntmps40
   rotate_left
   all_goals
    go_wp2_with (first
     |(go_at_call 85;refine(HV.out _).mono ?_;rintro e' w' ⟨rfl,bs,d',rfl⟩)
     |(go_at_call 52;refine(oper2_any _ _).mono ?_;rintro e' w' ⟨rfl,rfl⟩))
    go_returns
    exact⟨by rw [HW.out];first|rfl|simp [*],growsR⟩
 have b21:(op==21)=false:=by simp;omega
 have b22:(op==22)=false:=by simp;omega
 by_cases h23:op=23∨op=24
 ·have HW:Hid (wfF m N i ⟨op,a,0,0⟩=decide (a=0)):=Lib.hid (by unfold wfF;rw [if_neg h1,if_neg (by simp),if_neg h2,if_neg h3,if_neg h5,if_neg h21,if_pos h23])
  by_cases ha:a=0
  focus
   rw [decide_eq_true ha]at HW
   subst ha
  rotate_left
  focus
   rw [decide_eq_false ha]at HW
   have a0:(a==0)=false:=by simpa using ha
  rotate_left
  all_goals
   rcases h23 with rfl|rfl
   focus
    go_enter Tryz.func40,Tryz.ntmps40
   rotate_left
   focus
    go_enter Tryz.func40,Tryz.ntmps40
   rotate_left
   all_goals
    go_wp2_with (first
     |(go_at_call 85;refine(HV.out _).mono ?_;rintro e' w' ⟨rfl,bs,d',rfl⟩)
     |(go_at_call 52;refine(oper2_any _ _).mono ?_;rintro e' w' ⟨rfl,rfl⟩))
    go_returns
    exact⟨by rw [HW.out];first|rfl|simp [*],growsR⟩
 have b23:(op==23)=false:=by simp;omega
 have b24:(op==24)=false:=by simp;omega
 have HW:Hid (wfF m N i ⟨op,a,0,0⟩=decide (opF op≠0∧a=0)):=Lib.hid (by unfold wfF;rw [if_neg h1,if_neg (by simp),if_neg h2,if_neg h3,if_neg h5,if_neg h21,if_neg h23])
 clear h1 h2 h3 h5 h21 h23
 obtain⟨q,hq⟩:∃q,opF op=q:=⟨_,rfl⟩
 have HQ:=Lib.hid hq
 have HO:=Lib.hid (fun w=>by have:=oper2_any op w;rw [hq]at this;exact this)
 rw [hq]at HW
 clear hq
 by_cases hq0:q=0
 ·subst hq0
  rw [decide_eq_false (fun h=>h.1 rfl)]at HW
  go_enter Tryz.func40,Tryz.ntmps40
  go_wp2_with (go_at_call 52;refine(HO.out _).mono ?_;rintro e' w' ⟨rfl,rfl⟩)
  go_returns
  exact⟨by rw [HW.out];first|rfl|simp [*],growsR⟩
 ·have q0:(q !=0)=true:=by simpa using hq0
  by_cases ha:a=0
  ·rw [decide_eq_true ⟨hq0,ha⟩]at HW
   subst ha
   clear hq0
   go_enter Tryz.func40,Tryz.ntmps40
   go_wp2_with (go_at_call 52;refine(HO.out _).mono ?_;rintro e' w' ⟨rfl,rfl⟩)
   go_returns
   exact⟨by rw [HW.out];first|rfl|simp [*],growsR⟩
  ·rw [decide_eq_false (fun h=>ha h.2)]at HW
   have a0:(a==0)=false:=by simpa using ha
   clear hq0 ha
   go_enter Tryz.func40,Tryz.ntmps40
   go_wp2_with (go_at_call 52;refine(HO.out _).mono ?_;rintro e' w' ⟨rfl,rfl⟩)
   go_returns
   exact⟨by rw [HW.out];first|rfl|simp [*],growsR⟩
end Go.Proofs.YtaghhncnicbedaaGreatDoor
