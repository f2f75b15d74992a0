import Derived.Test.YtfoefpoaomepbaaGreatDoorTTop
import Derived.Test.YtfoefpoaomepbaaGreatDoorTSyN
set_option linter.all false
set_option maxHeartbeats 16000000
set_option maxRecDepth 1000000
namespace Go.Proofs.YtfoefpoaomepbaaGreatDoor
open Go.RowKit

def TwPost(B:Nat)(V:VerP)(w:World)(v3 v4 v5 v6 v7:Value)(n:Int)(e:Ending)(w':World):Prop:=e= .returned (.tuple #[])∧Below B w w'∧VerAt B w' (twistP n V) v3 v4 v5 v6 v7
theorem VerAt.same{B:Nat}{w w':World}{V:VerP}{v3 v4 v5 v6 v7:Value}(h:VerAt B w V v3 v4 v5 v6 v7)(hb:w.heap.size≤w'.heap.size)(hw:∀k,B≤k→k<w.heap.size→w'.heap[k]? =w.heap[k]?):VerAt B w' V v3 v4 v5 v6 v7:=by
 obtain⟨ql,qg,qr,H1,H2,H3,H4,H5,e1,e2,e3,ord,r1,r2,r3,r4,r5⟩:=h
 exact⟨ql,qg,qr,H1,H2,H3,H4,H5,e1,e2,e3,ord,r1.keep hb fun k h1 _ h2=>hw k (by omega) h2,r2.keep hb fun k h1 _ h2=>hw k (by omega) h2,r3.keep hb fun k h1 _ h2=>hw k (by omega) h2,r4.keep hb fun k h1 _ h2=>hw k (by omega) h2,r5.keep hb fun k h1 h2=>hw k (by omega) h2⟩
theorem VerAt.grow{B:Nat}{w:World}{V:VerP}{v3 v4 v5 v6 v7:Value}(h:VerAt B w V v3 v4 v5 v6 v7)(bs:Array Obj)(d:Nat):VerAt B (w.grow bs d) V v3 v4 v5 v6 v7:=h.same (by simp) fun k _ hk=>World.heap_grow _ _ _ hk
theorem VerAt.alloc{B:Nat}{w:World}{V:VerP}{v3 v4 v5 v6 v7:Value}(h:VerAt B w V v3 v4 v5 v6 v7)(o:Obj):VerAt B (w.alloc o) V v3 v4 v5 v6 v7:=h.same (by simp) fun k _ hk=>Below.heap_alloc w o k hk
theorem VerAt.drew{B:Nat}{w:World}{V:VerP}{v3 v4 v5 v6 v7:Value}(h:VerAt B w V v3 v4 v5 v6 v7):VerAt B w.drew V v3 v4 v5 v6 v7:=h.same (Nat.le_refl _) fun k _ _=>rfl
theorem VerAt.setCell{B:Nat}{w:World}{V:VerP}{v3 v4 v5 v6 v7:Value}(h:VerAt B w V v3 v4 v5 v6 v7){a:Addr}(ha:a.block<B)(u:Value):VerAt B (w.setCell a u) V v3 v4 v5 v6 v7:=h.same (by simp) fun k hk _=>Below.heap_setCell _ _ _ _ (by omega)
theorem VerAt.le{B B':Nat}{w:World}{V:VerP}{v3 v4 v5 v6 v7:Value}(h:VerAt B w V v3 v4 v5 v6 v7)(hb:B'≤B):VerAt B' w V v3 v4 v5 v6 v7:=by
 obtain⟨ql,qg,qr,H1,H2,H3,H4,H5,e1,e2,e3,ord,r1,r2,r3,r4,r5⟩:=h
 exact⟨ql,qg,qr,H1,H2,H3,H4,H5,e1,e2,e3,⟨by omega,ord.2⟩,r1,r2,r3,r4,r5⟩
theorem RowX.apart'{T:TypeId}{c base g:Nat}{X:Nat→Prop}{w w':World}{v:Value}{l:List (List Value)}{rs:List (Ex × Value)}(h:RowX T c base X w v l rs)(hn:Next g w w')(hg:¬(base≤g∧X g)):RowX T c base X w' v l rs:=
 h.keep hn.size fun k h1 h2 h3=>hn.blk k h3 fun e=>hg (by subst e;exact⟨h1,h2⟩)
section
variable {B g : Nat} {w w' : World} {cr cr' : List (Int × Int)} {se se' : List (Int × Int × Int)} {ql ql' : List (ByteArray × (Ex × Value))} {qg qg' : List GrT} {qr : List (Int × (Ex × Value))} {v3 v4 v5 v6 v7 : Value} {H1 H2 H3 H4 H5 : Nat}
theorem VerQ.put1(h:VerQ B w cr se ql qg qr v3 v4 v5 v6 v7 H1 H2 H3 H4 H5)(hg:H1≤g∧g<H2)(hn:Next g w w')(r:RowX 133 2 H1 (· <H2) w' v3 (crL cr') []):VerQ B w' cr' se ql qg qr v3 v4 v5 v6 v7 H1 H2 H3 H4 H5:=by
 have o:=h.ord
 exact⟨o,r,h.r2.apart' hn (fun e=>by have:=e.1;omega),h.r3.apart' hn (fun e=>by have:=e.1;omega),h.r4.apart' hn (fun e=>by have:=e.1;omega),h.r5.keep hn.size fun k h1 h2=>hn.blk k h2 (by omega)⟩
theorem VerQ.put2(h:VerQ B w cr se ql qg qr v3 v4 v5 v6 v7 H1 H2 H3 H4 H5)(hg:H2≤g∧g<H3)(hn:Next g w w')(r:RowX 135 3 H2 (· <H3) w' v4 (seL se') []):VerQ B w' cr se' ql qg qr v3 v4 v5 v6 v7 H1 H2 H3 H4 H5:=by
 have o:=h.ord
 exact⟨o,h.r1.apart' hn (fun e=>by have:g<H2:=e.2;omega),r,h.r3.apart' hn (fun e=>by have:=e.1;omega),h.r4.apart' hn (fun e=>by have:=e.1;omega),h.r5.keep hn.size fun k h1 h2=>hn.blk k h2 (by omega)⟩
theorem VerQ.put3(h:VerQ B w cr se ql qg qr v3 v4 v5 v6 v7 H1 H2 H3 H4 H5)(hg:H3≤g∧g<H4)(hn:Next g w w')(r:RowX 63 7 H3 (· <H4) w' v5 (letL ql') (ql'.map (·.2))):VerQ B w' cr se ql' qg qr v3 v4 v5 v6 v7 H1 H2 H3 H4 H5:=by
 have o:=h.ord
 exact⟨o,h.r1.apart' hn (fun e=>by have:g<H2:=e.2;omega),h.r2.apart' hn (fun e=>by have:g<H3:=e.2;omega),r,h.r4.apart' hn (fun e=>by have:=e.1;omega),h.r5.keep hn.size fun k h1 h2=>hn.blk k h2 (by omega)⟩
theorem VerQ.put4(h:VerQ B w cr se ql qg qr v3 v4 v5 v6 v7 H1 H2 H3 H4 H5)(hg:H4≤g∧g<H5)(hn:Next g w w')(r:RowX 86 13 H4 (· <H5) w' v6 (grL qg') (grR qg')):VerQ B w' cr se ql qg' qr v3 v4 v5 v6 v7 H1 H2 H3 H4 H5:=by
 have o:=h.ord
 exact⟨o,h.r1.apart' hn (fun e=>by have:g<H2:=e.2;omega),h.r2.apart' hn (fun e=>by have:g<H3:=e.2;omega),h.r3.apart' hn (fun e=>by have:g<H4:=e.2;omega),r,h.r5.keep hn.size fun k h1 h2=>hn.blk k h2 (by omega)⟩
end
theorem twist_1
 (B g:Nat) (frm mode unit:Int) (V:VerP) (v3 v4 v5 v6 v7:Value) (w:World) (hg:w.heap[g]? =some (.cells #[.int .i64 frm,.int .i64 mode,.int .i64 unit,v3,v4,v5,v6,v7] 82 (0,0)))
 (hlen:V.cr.length≤1000∧V.se.length≤1000∧V.le.length≤1000∧V.gr.length≤1000) (h:VerAt B w V v3 v4 v5 v6 v7)
 :Calls Tryz.prog 63 #[.pointer (some ⟨g,0,none⟩),.int .i64 1] w (TwPost B V w v3 v4 v5 v6 v7 1):=by
 obtain⟨ql,qg,qr,H1,H2,H3,H4,H5,e1,e2,e3,hQ⟩:=h
 have ho:=hQ.ord
 have hc:w.cell? ⟨g,6,none⟩=some v6:=cell_of_row w g 6 _ _ _ hg
 match qg,e2,hQ with
 | [],e2,hQ=>
   obtain⟨a,cap,hv⟩:=hQ.r4.form
   refine(tw1_no g _ cap a w (hc.trans (congrArg some hv)) (by simp [grL])).mono ?_
   rintro e w' ⟨rfl,rfl⟩
   exact⟨rfl,.refl _ _,ql,[],qr,H1,H2,H3,H4,H5,e1,by simp [twistP,←e2],e3,hQ⟩
 | [t],e2,hQ=>
   obtain⟨a,cap,hv⟩:=hQ.r4.form
   refine(tw1_no g _ cap a w (hc.trans (congrArg some hv)) (by simp [grL])).mono ?_
   rintro e w' ⟨rfl,rfl⟩
   exact⟨rfl,.refl _ _,ql,[t],qr,H1,H2,H3,H4,H5,e1,by simp [twistP,←e2],e3,hQ⟩
 |t::u::r,e2,hQ=>
  have hl:(grL (t::u::r)).length=V.gr.length:=by rw [←e2];simp [grL]
  obtain⟨gg,cap,rfl⟩:=hQ.r4.block (by simp [grL])
  obtain⟨b1,b2,b3⟩:=hQ.r4.apart
  have c0:w.cell? ⟨gg,0,none⟩=some (.int .i64 t.1):=hQ.r4.cellAt rfl 0 0 (by omega) (by simp [grL])
  have c1:w.cell? ⟨gg,13,none⟩=some (.int .i64 u.1):=hQ.r4.cellAt rfl 1 0 (by omega) (by simp [grL])
  refine(tw1_yes g gg _ cap t.1 w hc (by simp [grL]) (by omega) c0 _ c1 (hQ.r4.own.frozenAt _)).mono ?_
  rintro e w' ⟨rfl,rfl⟩
  refine⟨rfl,((Below.refl _ _).setCell (by show B≤gg;omega) _).drew,ql,t::(t.1,u.2)::r,qr,H1,H2,H3,H4,H5,e1,by simp [twistP,←e2],e3, ?_⟩
  exact hQ.put4 ⟨b1,b2⟩ (((Next.refl _ _).store _ _).drew) (hQ.r4.stored (rs':=grR (t::(t.1,u.2)::r)) rfl 1 0 13 rfl (by omega) (by simp [grL]) (.int .i64 t.1) (fun x hx=>.inl hx)).drew
theorem twist_2
 (B g:Nat) (frm mode unit:Int) (V:VerP) (v3 v4 v5 v6 v7:Value) (w:World) (hg:w.heap[g]? =some (.cells #[.int .i64 frm,.int .i64 mode,.int .i64 unit,v3,v4,v5,v6,v7] 82 (0,0)))
 (hlen:V.cr.length≤1000∧V.se.length≤1000∧V.le.length≤1000∧V.gr.length≤1000) (h:VerAt B w V v3 v4 v5 v6 v7)
 :Calls Tryz.prog 63 #[.pointer (some ⟨g,0,none⟩),.int .i64 2] w (TwPost B V w v3 v4 v5 v6 v7 2):=by
 obtain⟨ql,qg,qr,H1,H2,H3,H4,H5,e1,e2,e3,hQ⟩:=h
 have ho:=hQ.ord
 have hc:w.cell? ⟨g,5,none⟩=some v5:=cell_of_row w g 5 _ _ _ hg
 match ql,e1,hQ with
 | [],e1,hQ=>
   obtain⟨a,cap,hv⟩:=hQ.r3.form
   refine(tw2_no g _ cap a w (hc.trans (congrArg some hv)) (by simp [letL])).mono ?_
   rintro e w' ⟨rfl,rfl⟩
   exact⟨rfl,.refl _ _,[],qg,qr,H1,H2,H3,H4,H5,by simp [twistP,←e1],e2,e3,hQ⟩
 | [t],e1,hQ=>
   obtain⟨a,cap,hv⟩:=hQ.r3.form
   refine(tw2_no g _ cap a w (hc.trans (congrArg some hv)) (by simp [letL])).mono ?_
   rintro e w' ⟨rfl,rfl⟩
   exact⟨rfl,.refl _ _,[t],qg,qr,H1,H2,H3,H4,H5,by simp [twistP,←e1],e2,e3,hQ⟩
 |t::u::r,e1,hQ=>
  have hl:(letL (t::u::r)).length=V.le.length:=by rw [←e1];simp [letL]
  obtain⟨gg,cap,rfl⟩:=hQ.r3.block (by simp [letL])
  obtain⟨b1,b2,b3⟩:=hQ.r3.apart
  have c0:w.cell? ⟨gg,0,none⟩=some (.string t.1):=hQ.r3.cellAt rfl 0 0 (by omega) (by simp [letL])
  have c1:w.cell? ⟨gg,7,none⟩=some (.string u.1):=hQ.r3.cellAt rfl 1 0 (by omega) (by simp [letL])
  refine(tw2_yes g gg _ cap t.1 w hc (by simp [letL]) (by omega) c0 _ c1 (hQ.r3.own.frozenAt _)).mono ?_
  rintro e w' ⟨rfl,rfl⟩
  refine⟨rfl,((Below.refl _ _).setCell (by show B≤gg;omega) _).drew,t::(t.1,u.2)::r,qg,qr,H1,H2,H3,H4,H5,by simp [twistP,←e1],e2,e3, ?_⟩
  exact hQ.put3 ⟨b1,b2⟩ (((Next.refl _ _).store _ _).drew) (hQ.r3.stored (rs':=List.map (fun x:ByteArray × (Ex × Value)=>x.2) (t::(t.1,u.2)::r)) rfl 1 0 7 rfl (by omega) (by simp [letL]) (.string t.1) (fun x hx=>.inl hx)).drew
theorem twist_4
 (B g:Nat) (frm mode unit:Int) (V:VerP) (v3 v4 v5 v6 v7:Value) (w:World) (hg:w.heap[g]? =some (.cells #[.int .i64 frm,.int .i64 mode,.int .i64 unit,v3,v4,v5,v6,v7] 82 (0,0)))
 (hlen:V.cr.length≤1000∧V.se.length≤1000∧V.le.length≤1000∧V.gr.length≤1000) (h:VerAt B w V v3 v4 v5 v6 v7)
 :Calls Tryz.prog 63 #[.pointer (some ⟨g,0,none⟩),.int .i64 4] w (TwPost B V w v3 v4 v5 v6 v7 4):=by
 obtain⟨ql,qg,qr,H1,H2,H3,H4,H5,e1,e2,e3,hQ⟩:=h
 have ho:=hQ.ord
 have hc:w.cell? ⟨g,4,none⟩=some v4:=cell_of_row w g 4 _ _ _ hg
 generalize hse:V.se=se at hQ
 match se,hse,hQ with
 | [],hse,hQ=>
   obtain⟨a,cap,hv⟩:=hQ.r2.form
   refine(tw4_no g _ cap a w (hc.trans (congrArg some hv)) (by simp [seL])).mono ?_
   rintro e w' ⟨rfl,rfl⟩
   exact⟨rfl,.refl _ _,ql,qg,qr,H1,H2,H3,H4,H5,e1,e2,e3,by have hs:(twistP 4 V).se= []:=(by simp [twistP,hse]);rw [hs];exact hQ⟩
 | [t],hse,hQ=>
   obtain⟨a,cap,hv⟩:=hQ.r2.form
   refine(tw4_no g _ cap a w (hc.trans (congrArg some hv)) (by simp [seL])).mono ?_
   rintro e w' ⟨rfl,rfl⟩
   exact⟨rfl,.refl _ _,ql,qg,qr,H1,H2,H3,H4,H5,e1,e2,e3,by have hs:(twistP 4 V).se= [t]:=(by simp [twistP,hse]);rw [hs];exact hQ⟩
 |t::u::r,hse,hQ=>
  have hl:(seL (t::u::r)).length=V.se.length:=by rw [hse];simp [seL]
  obtain⟨gg,cap,rfl⟩:=hQ.r2.block (by simp [seL])
  obtain⟨b1,b2,b3⟩:=hQ.r2.apart
  have c0:w.cell? ⟨gg,0,none⟩=some (.int .i64 t.1):=hQ.r2.cellAt rfl 0 0 (by omega) (by simp [seL])
  have c1:w.cell? ⟨gg,3,none⟩=some (.int .i64 u.1):=hQ.r2.cellAt rfl 1 0 (by omega) (by simp [seL])
  refine(tw4_yes g gg _ cap t.1 w hc (by simp [seL]) (by omega) c0 _ c1 (hQ.r2.own.frozenAt _)).mono ?_
  rintro e w' ⟨rfl,rfl⟩
  refine⟨rfl,((Below.refl _ _).setCell (by show B≤gg;omega) _).drew,ql,qg,qr,H1,H2,H3,H4,H5,e1,e2,e3, ?_⟩
  have hs:(twistP 4 V).se=t::(t.1,u.2)::r:=by simp [twistP,hse]
  rw [hs]
  exact hQ.put2 ⟨b1,b2⟩ (((Next.refl _ _).store _ _).drew) (hQ.r2.stored (rs':=[]) rfl 1 0 3 rfl (by omega) (by simp [seL]) (.int .i64 t.1) (fun x hx=>.inl hx)).drew
theorem twist_5
 (B g:Nat) (frm mode unit:Int) (V:VerP) (v3 v4 v5 v6 v7:Value) (w:World) (hg:w.heap[g]? =some (.cells #[.int .i64 frm,.int .i64 mode,.int .i64 unit,v3,v4,v5,v6,v7] 82 (0,0)))
 (hlen:V.cr.length≤1000∧V.se.length≤1000∧V.le.length≤1000∧V.gr.length≤1000) (h:VerAt B w V v3 v4 v5 v6 v7)
 :Calls Tryz.prog 63 #[.pointer (some ⟨g,0,none⟩),.int .i64 5] w (TwPost B V w v3 v4 v5 v6 v7 5):=by
 obtain⟨ql,qg,qr,H1,H2,H3,H4,H5,e1,e2,e3,hQ⟩:=h
 have ho:=hQ.ord
 have hc:w.cell? ⟨g,3,none⟩=some v3:=cell_of_row w g 3 _ _ _ hg
 generalize hcr:V.cr=cr at hQ
 match cr,hcr,hQ with
 | [],hcr,hQ=>
   obtain⟨a,cap,hv⟩:=hQ.r1.form
   refine(tw5_no g _ cap a w (hc.trans (congrArg some hv)) (by simp [crL])).mono ?_
   rintro e w' ⟨rfl,rfl⟩
   exact⟨rfl,.refl _ _,ql,qg,qr,H1,H2,H3,H4,H5,e1,e2,e3,by have hs:(twistP 5 V).cr= []:=(by simp [twistP,hcr]);rw [hs];exact hQ⟩
 | [t],hcr,hQ=>
   obtain⟨a,cap,hv⟩:=hQ.r1.form
   refine(tw5_no g _ cap a w (hc.trans (congrArg some hv)) (by simp [crL])).mono ?_
   rintro e w' ⟨rfl,rfl⟩
   exact⟨rfl,.refl _ _,ql,qg,qr,H1,H2,H3,H4,H5,e1,e2,e3,by have hs:(twistP 5 V).cr= [t]:=(by simp [twistP,hcr]);rw [hs];exact hQ⟩
 |t::u::r,hcr,hQ=>
  have hl:(crL (t::u::r)).length=V.cr.length:=by rw [hcr];simp [crL]
  obtain⟨gg,cap,rfl⟩:=hQ.r1.block (by simp [crL])
  obtain⟨b1,b2,b3⟩:=hQ.r1.apart
  have c0:w.cell? ⟨gg,0,none⟩=some (.int .i64 t.1):=hQ.r1.cellAt rfl 0 0 (by omega) (by simp [crL])
  have c1:w.cell? ⟨gg,2,none⟩=some (.int .i64 u.1):=hQ.r1.cellAt rfl 1 0 (by omega) (by simp [crL])
  refine(tw5_yes g gg _ cap t.1 w hc (by simp [crL]) (by omega) c0 _ c1 (hQ.r1.own.frozenAt _)).mono ?_
  rintro e w' ⟨rfl,rfl⟩
  refine⟨rfl,((Below.refl _ _).setCell (by show B≤gg;omega) _).drew,ql,qg,qr,H1,H2,H3,H4,H5,e1,e2,e3, ?_⟩
  have hs:(twistP 5 V).cr=t::(t.1,u.2)::r:=by simp [twistP,hcr]
  rw [hs]
  exact hQ.put1 ⟨b1,b2⟩ (((Next.refl _ _).store _ _).drew) (hQ.r1.stored (rs':=[]) rfl 1 0 2 rfl (by omega) (by simp [crL]) (.int .i64 t.1) (fun x hx=>.inl hx)).drew
theorem twist_6
 (B g:Nat) (frm mode unit:Int) (V:VerP) (v3 v4 v5 v6 v7:Value) (w:World) (hg:w.heap[g]? =some (.cells #[.int .i64 frm,.int .i64 mode,.int .i64 unit,v3,v4,v5,v6,v7] 82 (0,0)))
 (hlen:V.cr.length≤1000∧V.se.length≤1000∧V.le.length≤1000∧V.gr.length≤1000) (h:VerAt B w V v3 v4 v5 v6 v7)
 :Calls Tryz.prog 63 #[.pointer (some ⟨g,0,none⟩),.int .i64 6] w (TwPost B V w v3 v4 v5 v6 v7 6):=by
 obtain⟨ql,qg,qr,H1,H2,H3,H4,H5,e1,e2,e3,hQ⟩:=h
 have ho:=hQ.ord
 have hc:w.cell? ⟨g,5,none⟩=some v5:=cell_of_row w g 5 _ _ _ hg
 match ql,e1,hQ with
 | [],e1,hQ=>
   obtain⟨a,cap,hv⟩:=hQ.r3.form
   refine(tw6_no g _ cap a w (hc.trans (congrArg some hv)) (by simp [letL])).mono ?_
   rintro e w' ⟨rfl,rfl⟩
   exact⟨rfl,.refl _ _,[],qg,qr,H1,H2,H3,H4,H5,by simp [twistP,←e1],e2,e3,hQ⟩
 |t::r,e1,hQ=>
  have hl:(letL (t::r)).length=V.le.length:=by rw [←e1];simp [letL]
  obtain⟨gg,cap,rfl⟩:=hQ.r3.block (by simp [letL])
  obtain⟨b1,b2,b3⟩:=hQ.r3.apart
  have c0:w.cell? ⟨gg,0,none⟩=some (.string t.1):=hQ.r3.cellAt rfl 0 0 (by omega) (by simp [letL])
  refine(tw6_yes g gg _ cap w hc (by simp [letL]) (by omega) _ c0 (hQ.r3.own.frozenAt _)).mono ?_
  rintro e w' ⟨rfl,rfl⟩
  refine⟨rfl,(Below.refl _ _).setCell (by show B≤gg;omega) _,(ageN,t.2)::r,qg,qr,H1,H2,H3,H4,H5,by simp [twistP,←e1],e2,e3, ?_⟩
  exact hQ.put3 ⟨b1,b2⟩ ((Next.refl _ _).store _ _) (hQ.r3.stored (rs':=List.map (fun x:ByteArray × (Ex × Value)=>x.2) ((ageN,t.2)::r)) rfl 0 0 0 rfl (by omega) (by simp [letL]) (.string ageN) (fun x hx=>.inl hx))
theorem laterRng:ExRng laterE:=⟨⟨by decide,by decide⟩,⟨by decide,by decide⟩,⟨by decide,by decide⟩,⟨by decide,by decide⟩,by decide,by decide⟩
theorem twist_3
 (B g:Nat) (frm mode unit:Int) (V:VerP) (v3 v4 v5 v6 v7:Value) (w:World) (hg:w.heap[g]? =some (.cells #[.int .i64 frm,.int .i64 mode,.int .i64 unit,v3,v4,v5,v6,v7] 82 (0,0)))
 (hlen:V.cr.length≤1000∧V.se.length≤1000∧V.le.length≤1000∧V.gr.length≤1000) (h:VerAt B w V v3 v4 v5 v6 v7)
 :Calls Tryz.prog 63 #[.pointer (some ⟨g,0,none⟩),.int .i64 3] w (TwPost B V w v3 v4 v5 v6 v7 3):=by
 obtain⟨ql,qg,qr,H1,H2,H3,H4,H5,e1,e2,e3,hQ⟩:=h
 have ho:=hQ.ord
 have hc:w.cell? ⟨g,5,none⟩=some v5:=cell_of_row w g 5 _ _ _ hg
 match ql,e1,hQ with
 | [],e1,hQ=>
   obtain⟨a,cap,hv⟩:=hQ.r3.form
   refine(tw3_no g _ cap a w (hc.trans (congrArg some hv)) (by simp [letL])).mono ?_
   rintro e w' ⟨rfl,rfl⟩
   exact⟨rfl,.refl _ _,[],qg,qr,H1,H2,H3,H4,H5,by simp [twistP,←e1],e2,e3,hQ⟩
 |t::r,e1,hQ=>
  have hl:(letL (t::r)).length=V.le.length:=by rw [←e1];simp [letL]
  obtain⟨gg,cap,rfl⟩:=hQ.r3.block (by simp [letL])
  obtain⟨b1,b2,b3⟩:=hQ.r3.apart
  have cc:=fun j hj=>hQ.r3.cellAt rfl 0 j hj (by simp [letL])
  refine(tw3_yes g gg _ cap w hc (by simp [letL]) (by omega) _ _ _ _ _ _ (cc 1 (by omega)) (cc 2 (by omega)) (cc 3 (by omega)) (cc 4 (by omega)) (cc 5 (by omega)) (cc 6 (by omega)) (fun i=>hQ.r3.own.frozenAt i)).mono ?_
  rintro e w' ⟨rfl,rfl⟩
  have hb:B≤gg:=by omega
  refine⟨rfl,((((((Below.refl _ _).setCell hb _).setCell hb _).setCell hb _).setCell hb _).setCell hb _).setCell hb _,(t.1,(laterE,.slice none 0 0))::r,qg,qr,H1,H2,H3,H4,H5,by simp [twistP,←e1],e2,e3, ?_⟩
  have s1:=hQ.r3.stored rfl 0 1 1 rfl (by omega) (by simp [letL]) (.int .i64 2) (fun x hx=>.inl hx)
  have s2:=s1.stored rfl 0 2 2 rfl (by omega) (by simp [letL]) (.int .i64 0) (fun x hx=>.inl hx)
  have s3:=s2.stored rfl 0 3 3 rfl (by omega) (by simp [letL]) (.int .i64 0) (fun x hx=>.inl hx)
  have s4:=s3.stored rfl 0 4 4 rfl (by omega) (by simp [letL]) (.int .i64 0) (fun x hx=>.inl hx)
  have s5:=s4.stored rfl 0 5 5 rfl (by omega) (by simp [letL]) (.string ⟨#[108,97,116,101,114]⟩) (fun x hx=>.inl hx)
  have s6:=s5.stored (rs':=List.map (fun x:ByteArray × (Ex × Value)=>x.2) ((t.1,(laterE,.slice none 0 0))::r)) rfl 0 6 6 rfl (by omega) (by simp [letL]) (.slice none 0 0) (fun x hx=>by
   rw [List.map_cons,List.mem_cons]at hx
   rcases hx with rfl|hx
   ·exact .inr (.nil laterRng rfl)
   ·exact .inl (by rw [List.map_cons];exact List.mem_cons_of_mem _ hx))
  exact hQ.put3 ⟨b1,b2⟩ ((((((((Next.refl _ _).store _ _).store _ _).store _ _).store _ _).store _ _).store _ _)) s6
theorem twist_0
 (B g:Nat) (frm mode unit:Int) (V:VerP) (v3 v4 v5 v6 v7:Value) (w:World) (hg:w.heap[g]? =some (.cells #[.int .i64 frm,.int .i64 mode,.int .i64 unit,v3,v4,v5,v6,v7] 82 (0,0)))
 (hlen:V.cr.length≤1000∧V.se.length≤1000∧V.le.length≤1000∧V.gr.length≤1000) (h:VerAt B w V v3 v4 v5 v6 v7)
 :Calls Tryz.prog 63 #[.pointer (some ⟨g,0,none⟩),.int .i64 0] w (TwPost B V w v3 v4 v5 v6 v7 0):=by
 obtain⟨ql,qg,qr,H1,H2,H3,H4,H5,e1,e2,e3,hQ⟩:=h
 have ho:=hQ.ord
 have hc:w.cell? ⟨g,6,none⟩=some v6:=cell_of_row w g 6 _ _ _ hg
 match qg,e2,hQ with
 | [],e2,hQ=>
   obtain⟨a,cap,hv⟩:=hQ.r4.form
   refine(tw0_no g _ cap a w (hc.trans (congrArg some hv)) (by simp [grL])).mono ?_
   rintro e w' ⟨rfl,rfl⟩
   exact⟨rfl,.refl _ _,ql,[],qr,H1,H2,H3,H4,H5,e1,by simp [twistP,←e2],e3,hQ⟩
 |(b,(f,vf),u)::r,e2,hQ=>
  obtain⟨va,vc,hvv⟩:=(hQ.r4.rep (f,vf) (by simp [grR])).form0
  simp only at hvv
  subst hvv
  have hl:(grL ((b,(f,.slice va f.args.length vc),u)::r)).length=V.gr.length:=by rw [←e2];simp [grL]
  obtain⟨gg,cap,rfl⟩:=hQ.r4.block (by simp [grL])
  obtain⟨b1,b2,b3⟩:=hQ.r4.apart
  have cc:=fun j hj=>hQ.r4.cellAt rfl 0 j hj (by simp [grL])
  refine(tw0_yes g gg _ cap f.op f.num f.den f.dim f.name va f.args.length vc w hc (by simp [grL]) (by omega) (cc 1 (by omega)) (cc 2 (by omega)) (cc 3 (by omega)) (cc 4 (by omega)) (cc 5 (by omega)) (cc 6 (by omega)) _ _ _ _ _ _ (cc 7 (by omega)) (cc 8 (by omega)) (cc 9 (by omega)) (cc 10 (by omega)) (cc 11 (by omega)) (cc 12 (by omega)) (fun i=>hQ.r4.own.frozenAt i)).mono ?_
  rintro e w' ⟨rfl,rfl⟩
  have hb:B≤gg:=by omega
  refine⟨rfl,(((((((Below.refl _ _).setCell hb _).setCell hb _).setCell hb _).setCell hb _).setCell hb _).setCell hb _).drew,ql,(b,(f,.slice va f.args.length vc),(f,.slice va f.args.length vc))::r,qr,H1,H2,H3,H4,H5,e1,by simp [twistP,←e2],e3, ?_⟩
  have s1:=hQ.r4.stored rfl 0 7 7 rfl (by omega) (by simp [grL]) (.int .i64 f.op) (fun x hx=>.inl hx)
  have s2:=s1.stored rfl 0 8 8 rfl (by omega) (by simp [grL]) (.int .i64 f.num) (fun x hx=>.inl hx)
  have s3:=s2.stored rfl 0 9 9 rfl (by omega) (by simp [grL]) (.int .i64 f.den) (fun x hx=>.inl hx)
  have s4:=s3.stored rfl 0 10 10 rfl (by omega) (by simp [grL]) (.int .i64 f.dim) (fun x hx=>.inl hx)
  have s5:=s4.stored rfl 0 11 11 rfl (by omega) (by simp [grL]) (.string f.name) (fun x hx=>.inl hx)
  have s6:=s5.stored (rs':=grR ((b,(f,.slice va f.args.length vc),(f,.slice va f.args.length vc))::r)) rfl 0 12 12 rfl (by omega) (by simp [grL]) (.slice va f.args.length vc) (fun x hx=>by
   left
   simp only [grR,List.flatMap_cons,List.cons_append,List.nil_append,List.mem_cons]at hx ⊢
   rcases hx with rfl|rfl|hx
   ·exact .inl rfl
   ·exact .inl rfl
   ·exact .inr (.inr hx))
  exact hQ.put4 ⟨b1,b2⟩ (((((((((Next.refl _ _).store _ _).store _ _).store _ _).store _ _).store _ _).store _ _)).drew) s6.drew
theorem twist_any(n:Int)(h0:0≤n)(h7:n<7)
 (B g:Nat) (frm mode unit:Int) (V:VerP) (v3 v4 v5 v6 v7:Value) (w:World) (hg:w.heap[g]? =some (.cells #[.int .i64 frm,.int .i64 mode,.int .i64 unit,v3,v4,v5,v6,v7] 82 (0,0)))
 (hlen:V.cr.length≤1000∧V.se.length≤1000∧V.le.length≤1000∧V.gr.length≤1000) (h:VerAt B w V v3 v4 v5 v6 v7)
 :Calls Tryz.prog 63 #[.pointer (some ⟨g,0,none⟩),.int .i64 n] w (TwPost B V w v3 v4 v5 v6 v7 n):=by
 obtain rfl|rfl|rfl|rfl|rfl|rfl|rfl:n=0∨n=1∨n=2∨n=3∨n=4∨n=5∨n=6:=by omega
 ·exact twist_0 B g frm mode unit V v3 v4 v5 v6 v7 w hg hlen h
 ·exact twist_1 B g frm mode unit V v3 v4 v5 v6 v7 w hg hlen h
 ·exact twist_2 B g frm mode unit V v3 v4 v5 v6 v7 w hg hlen h
 ·exact twist_3 B g frm mode unit V v3 v4 v5 v6 v7 w hg hlen h
 ·exact twist_4 B g frm mode unit V v3 v4 v5 v6 v7 w hg hlen h
 ·exact twist_5 B g frm mode unit V v3 v4 v5 v6 v7 w hg hlen h
 ·exact twist_6 B g frm mode unit V v3 v4 v5 v6 v7 w hg hlen h
theorem OfPost.mk{R:RawV}{V:VerP}{w w1 wz:World}{B:Nat}{v3 v4 v5 v6 v7:Value}(hT:ofP R=V)(hV:V.frm=pick R.frm 73049∧V.mode=pick R.mode 4+1∧V.unit=unitOf (pick R.unit 5))(hb:Below w.heap.size w wz)
 (hn:Next (w.heap.size+1) w1 wz) (hv:VerAt B w1 V v3 v4 v5 v6 v7) (hB:w.heap.size+2≤B) :
 OfPost R w (.returned (.agg #[.int .i64 (pick R.frm 73049),.int .i64 (pick R.mode 4+1),.int .i64 (unitOf (pick R.unit 5)),v3,v4,v5,v6,v7])) wz:=by
 subst hT
 obtain⟨a,b,c⟩:=hV
 exact⟨v3,v4,v5,v6,v7,by rw [a,b,c],.of_below hb,(hv.same hn.size fun k hk hlt=>hn.blk k hlt (by omega)).le (by omega)⟩

def OfSaid:Prop:=∀(R:RawV) (cs:Array Value) (w:World),RawAt w cs.toList R→Calls Tryz.prog 26 #[.agg cs] w (OfPost R w)
theorem IntsAt.below{w w':World}{v:Value}{zs:List Int}(h:IntsAt w v zs)(hb:Below w.heap.size w w'):IntsAt w' v zs:=by
 obtain⟨h0,hr,a,cap,hv,h1⟩:=h
 refine⟨h0,hr,a,cap,hv,h1.imp id ?_⟩
 rintro⟨b,off,ha,hlt,hc⟩
 have:=hb.size
 exact⟨b,off,ha,by omega,fun i hi=>by rw [hb.cell (by exact hlt)];exact hc i hi⟩
theorem RowsAt.below{w w':World}{v:Value}{zss:List (List Int)}(h:RowsAt w v zss)(hb:Below w.heap.size w w'):RowsAt w' v zss:=by
 obtain⟨h0,a,cap,hv,h1⟩:=h
 refine⟨h0,a,cap,hv,h1.imp id ?_⟩
 rintro⟨b,off,ha,hlt,hc⟩
 have:=hb.size
 refine⟨b,off,ha,by omega,fun i hi=>?_⟩
 obtain⟨u,hu,hi⟩:=hc i hi
 exact⟨u,by rw [hb.cell (by exact hlt)];exact hu,IntsAt.below hi hb⟩
theorem RawAt.below{w w':World}{cs:List Value}{R:RawV}(h:RawAt w cs R)(hb:Below w.heap.size w w'):RawAt w' cs R:=by
 obtain⟨a,b,c,d,vc,vs,vl,vi,vp,vu,he,h1,h2,h3,h4,h5,h6⟩:=h
 exact⟨a,b,c,d,vc,vs,vl,vi,vp,vu,he,IntsAt.below h1 hb,IntsAt.below h2 hb,RowsAt.below h3 hb,RowsAt.below h4 hb,RowsAt.below h5 hb,RowsAt.below h6 hb⟩
theorem Of_from5(R:RawV)(w:World)(h1:I64 R.frm)(h2:I64 R.mode)(h3:I64 R.unit)(h4:I64 R.twist)(ca:Option Addr)(sa:Option Addr)(la:Option Addr)(ia:Option Addr)(pa:Option Addr)(ua:Option Addr)(ccap:Nat)(scap:Nat)(lcap:Nat)(icap:Nat)(pcap:Nat)(ucap:Nat)(hcl:R.credits.length≤140737488355328)(hsl:R.series.length≤140737488355328)(hll:R.lets.length≤140737488355328)(hil:R.ifs.length≤140737488355328)(hpl:R.pays.length≤140737488355328)(hul:R.cuts.length≤140737488355328)(HCC:Hid (R.credits.length=0∨∃b off,ca=some ⟨b,off,none⟩∧b<w.heap.size∧∀(i:Nat),i<R.credits.length→w.cell? ⟨b,off+i,none⟩=some (.int .i64 (R.credits.getD i 0))))(HSC:Hid (R.series.length=0∨∃b off,sa=some ⟨b,off,none⟩∧b<w.heap.size∧∀(i:Nat),i<R.series.length→w.cell? ⟨b,off+i,none⟩=some (.int .i64 (R.series.getD i 0))))(HLC:Hid (R.lets.length=0∨∃b off,la=some ⟨b,off,none⟩∧b<w.heap.size∧∀(i:Nat),i<R.lets.length→∃u,w.cell? ⟨b,off+i,none⟩=some u∧IntsAt w u (R.lets.getD i [])))(HIC:Hid (R.ifs.length=0∨∃b off,ia=some ⟨b,off,none⟩∧b<w.heap.size∧∀(i:Nat),i<R.ifs.length→∃u,w.cell? ⟨b,off+i,none⟩=some u∧IntsAt w u (R.ifs.getD i [])))(HPC:Hid (R.pays.length=0∨∃b off,pa=some ⟨b,off,none⟩∧b<w.heap.size∧∀(i:Nat),i<R.pays.length→∃u,w.cell? ⟨b,off+i,none⟩=some u∧IntsAt w u (R.pays.getD i [])))(HUC:Hid (R.cuts.length=0∨∃b off,ua=some ⟨b,off,none⟩∧b<w.heap.size∧∀(i:Nat),i<R.cuts.length→∃u,w.cell? ⟨b,off+i,none⟩=some u∧IntsAt w u (R.cuts.getD i [])))(g:Nat)(wk:Nat)(wc:World)(vcr:Value)(H1:Nat)(hgH1:g<H1)(vse:Value)(H2:Nat)(hgH2:g<H2)(hH12:H1≤H2)(vle:Value)(H3:Nat)(ql:List (ByteArray × (Ex × Value)))(hgH3:g<H3)(hH23:H2≤H3)(eva:Option Addr)(evc:Nat)(vgr:Value)(H4:Nat)(qg:List GrT)(hgH4:g<H4)(hH34:H3≤H4)(vre:Value)(H5:Nat)(qr:List (Int × (Ex × Value)))(hcut:OfAt w (raw10 R (.slice ca R.credits.length ccap) (.slice sa R.series.length scap) (.slice la R.lets.length lcap) (.slice ia R.ifs.length icap) (.slice pa R.pays.length pcap) (.slice ua R.cuts.length ucap)) g #[.int .i64 (pick R.frm 73049),.int .i64 (pick R.mode 4+1),.int .i64 (unitOf (pick R.unit 5)),vcr,vse,vle,vgr,vre] wc∧RowX 133 2 H1 (· <H2) wc vcr (credCells R (nCred R)) []∧RowX 135 3 H2 (· <H3) wc vse (serCells R (nSer R)) []∧RowX 63 7 H3 (· <H4) wc vle (letL ql) (ql.map (·.2))∧RowX 86 13 H4 (· <H5) wc vgr (grL qg) (grR qg)∧(g<H5∧H4≤H5∧H5≤wc.heap.size)∧RowG 138 7 H5 wc vre (reL qr) (qr.map (·.2))∧ReQ R (nCut R) qr)(HQL:Hid (LetQ R (nLet R) ql))(HQG:Hid (GrQ R (nPay R) qg))(u5 u6 u7 u8 u9 u11 u12 u13 u14 u15 u16 u17 u18 u19 u20 u21 u22 u23 u24 u25 u26 u27 u28 u29 u30 u31 u32 u33 u34 u35 u36 u37 u38 u39 u40 u41 u42 u43 u44 u45 u46 u47 u48 u49 u50 u51 u52 u53 u54 u55 u56 u57 u58 u59 u60 u61 u62 u63 u64 u65 u66 u67 u68 u69 u70 u71 u72 u73 u74 u75 u76 u77 u78 u79 u80 u81 u82 u83 u84 u85 u86 u87 u88 u89 u90 u91 u92 u93 u94 u95 u96 u97 u98 u99 u100 u101 u102 u103 u104 u105 u106 u107 u108 u109 u110 u111 u112 u113 u114 u115 u116 u117 u118 u119 u120 u121 u122 u123 u124 u125 u126 u127 u128 u129 u130 u131 u132 u133 u134 u135 u136 u137 u138 u139 u140 u141 u142 u143 u144 u145 u146 u147 u148 u149 u150 u151 u152 u153 u154 u155 u156 u157 u158 u159 u160 u161 u162 u163 u164 u165 u166 u167 u168 u169 u170 u171 u172 u173 u174 u175 u176 u177 u178 u179 u180 u181 u182 u183 u184 u185 u186 u187 u188 u189 u190 u191 u192 u193 u194 u195 u196 u197 u198 u199 u200 u201 u202 u203 u204 u205 u206 u207 u208 u209 u210 u211 u212 u213 u214 u215 u216 u217 u218 u219 u220 u221 u222 u223 u224 u225 u226 u227 u228 u229 u230 u231 u232 u233 u234 u235 u236 u237 u238 u239:Value) :
 Code.wp Tryz.prog (tlC (tlC (tlC (tlC (tlC (tlC (tlC (tlC (tlC (Tryz.f26.body.getD .skip)))))))))) (bodyPost Tryz.prog Tryz.f26 (OfPost R w)) {tmps:=#[(.agg (raw10 R (.slice ca R.credits.length ccap) (.slice sa R.series.length scap) (.slice la R.lets.length lcap) (.slice ia R.ifs.length icap) (.slice pa R.pays.length pcap) (.slice ua R.cuts.length ucap))),.pointer (some ⟨w.heap.size,0,none⟩),.pointer (some ⟨w.heap.size+1,0,none⟩),.pointer (some ⟨g,0,none⟩),.slice (some ⟨wk,0,none⟩) 6 6,u5,u6,u7,u8,u9,.slice eva (envL (envF R (nLet R))).length evc,u11,u12,u13,u14,u15,u16,u17,u18,u19,u20,u21,u22,u23,u24,u25,u26,u27,u28,u29,u30,u31,u32,u33,u34,u35,u36,u37,u38,u39,u40,u41,u42,u43,u44,u45,u46,u47,u48,u49,u50,u51,u52,u53,u54,u55,u56,u57,u58,u59,u60,u61,u62,u63,u64,u65,u66,u67,u68,u69,u70,u71,u72,u73,u74,u75,u76,u77,u78,u79,u80,u81,u82,u83,u84,u85,u86,u87,u88,u89,u90,u91,u92,u93,u94,u95,u96,u97,u98,u99,u100,u101,u102,u103,u104,u105,u106,u107,u108,u109,u110,u111,u112,u113,u114,u115,u116,u117,u118,u119,u120,u121,u122,u123,u124,u125,u126,u127,u128,u129,u130,u131,u132,u133,u134,u135,u136,u137,u138,u139,u140,u141,u142,u143,u144,u145,u146,u147,u148,u149,u150,u151,u152,u153,u154,u155,u156,u157,u158,u159,u160,u161,u162,u163,u164,u165,u166,u167,u168,u169,u170,u171,u172,u173,u174,u175,u176,u177,u178,u179,u180,u181,u182,u183,u184,u185,u186,u187,u188,u189,u190,u191,u192,u193,u194,u195,u196,u197,u198,u199,u200,u201,u202,u203,u204,u205,u206,u207,u208,u209,u210,u211,u212,u213,u214,u215,u216,u217,u218,u219,u220,u221,u222,u223,u224,u225,u226,u227,u228,u229,u230,u231,u232,u233,u234,u235,u236,u237,u238,u239],defers:=[]} wc:=by
 conv=>arg 2;whnf
 unfold raw10
 clear h1 h2 h3 hcl hsl hll hil hpl hul HCC HSC HLC HIC HPC HUC
 obtain⟨hof,hrow1,hrow2,hrow3,hrow4,⟨hgH5,hH45,hH5⟩,hrow5,hqr⟩:=hcut
 obtain⟨ca3,cc3,rfl⟩:=hrow1.form
 obtain⟨ca4,cc4,rfl⟩:=hrow2.form
 obtain⟨ca5,cc5,rfl⟩:=hrow3.form
 obtain⟨ca6,cc6,rfl⟩:=hrow4.form
 obtain⟨ca7,cc7,rfl⟩:=hrow5.form
 generalize hn3:(credCells R (nCred R)).length=n3 at *
 generalize hn4:(serCells R (nSer R)).length=n4 at *
 generalize hn5:(letL ql).length=n5 at *
 generalize hn6:(grL qg).length=n6 at *
 generalize hn7:(reL qr).length=n7 at *
 have HV:Hid (VerAt H1 wc (madeP R) (.slice ca3 n3 cc3) (.slice ca4 n4 cc4) (.slice ca5 n5 cc5) (.slice ca6 n6 cc6) (.slice ca7 n7 cc7)):=
  Lib.hid ⟨ql,qg,qr,H1,H2,H3,H4,H5,HQL.out,HQG.out,hqr,⟨⟨by omega,by omega,by omega,by omega,by omega⟩,by rw [crL_made];exact hrow1,by rw [seL_made];exact hrow2,hrow3,hrow4,hrow5⟩⟩
 clear hrow1 hrow2 hrow3 hrow4 hrow5 hqr hn3 hn4 hn5 hn6 hn7 HQL HQG
 have HOFR:=Lib.hid hof
 have hge:=hof.gge
 have hl2:=hof.lt
 have hbx:wc.cell? ⟨w.heap.size,9,none⟩=some (.int .i64 R.twist):=cell_of_row _ _ _ _ _ _ hof.box
 clear hof
 by_cases ht0:R.twist=0
 ·have hb0:(R.twist !=0)=false:=by simp [ht0]
  have HT:=Lib.hid (ofP_0 ht0)
  clear ht0
  have H1C:Hid ((#[.int .i64 (pick R.frm 73049),.int .i64 (pick R.mode 4+1),.int .i64 (unitOf (pick R.unit 5)),.slice ca3 n3 cc3,.slice ca4 n4 cc4,.slice ca5 n5 cc5,.slice ca6 n6 cc6,.slice ca7 n7 cc7]:Array Value).all (·.oneCell')=true):=Lib.hid (all_oneCell_toArray (cs:=[.int .i64 (pick R.frm 73049),.int .i64 (pick R.mode 4+1),.int .i64 (unitOf (pick R.unit 5)),.slice ca3 n3 cc3,.slice ca4 n4 cc4,.slice ca5 n5 cc5,.slice ca6 n6 cc6,.slice ca7 n7 cc7]) (by intro u hu;simp only [List.mem_cons,List.not_mem_nil,or_false]at hu;rcases hu with rfl|rfl|rfl|rfl|rfl|rfl|rfl|rfl<;>rfl))
  have HTH:=Lib.hid (there_of_block HOFR.out.res 8 rfl)
  have HZB:=Lib.hid (block_setCells (#[.int .i64 (pick R.frm 73049),.int .i64 (pick R.mode 4+1),.int .i64 (unitOf (pick R.unit 5)),.slice ca3 n3 cc3,.slice ca4 n4 cc4,.slice ca5 n5 cc5,.slice ca6 n6 cc6,.slice ca7 n7 cc7]:Array Value).toList 0 wc _ HOFR.out.res)
  have HZL:=Lib.hid (below_setCells (Nat.le_succ w.heap.size) (#[.int .i64 (pick R.frm 73049),.int .i64 (pick R.mode 4+1),.int .i64 (unitOf (pick R.unit 5)),.slice ca3 n3 cc3,.slice ca4 n4 cc4,.slice ca5 n5 cc5,.slice ca6 n6 cc6,.slice ca7 n7 cc7]:Array Value).toList 0 wc HOFR.out.bel)
  have HZN:=Lib.hid (next_setCells (b:=w.heap.size+1) (#[.int .i64 (pick R.frm 73049),.int .i64 (pick R.mode 4+1),.int .i64 (unitOf (pick R.unit 5)),.slice ca3 n3 cc3,.slice ca4 n4 cc4,.slice ca5 n5 cc5,.slice ca6 n6 cc6,.slice ca7 n7 cc7]:Array Value).toList 0 wc (Next.refl _ _))
  generalize hwz:wc.setCells (w.heap.size+1) 0 (#[.int .i64 (pick R.frm 73049),.int .i64 (pick R.mode 4+1),.int .i64 (unitOf (pick R.unit 5)),.slice ca3 n3 cc3,.slice ca4 n4 cc4,.slice ca5 n5 cc5,.slice ca6 n6 cc6,.slice ca7 n7 cc7]:Array Value).toList=wz at HZB HZL HZN
  have HZ:=Lib.hid hwz
  clear hwz
  repeat(first
   |((with_reducible(show wpList _ _ _ (_::_) _ _));refine wpList_load_row rfl 82 _ rfl g rfl 82 _ _ _ HOFR.out.out Tryz.underlying82 rfl info34 ?_)
   |((with_reducible(show wpList _ _ _ (_::_) _ _));refine wpList_store_mid rfl 82 (.tmp 2) (.tmp 239) rfl (w.heap.size+1) 0 #[.int .i64 (pick R.frm 73049),.int .i64 (pick R.mode 4+1),.int .i64 (unitOf (pick R.unit 5)),.slice ca3 n3 cc3,.slice ca4 n4 cc4,.slice ca5 n5 cc5,.slice ca6 n6 cc6,.slice ca7 n7 cc7] rfl rfl HTH.out info34 H1C.out ?_;rw [HZ.out])
   |go_values|go_skip|go_guarded|go_step|go_upon)
  refine bodyPost_ret (results_cell_row Tryz.results26 _ _ (w.heap.size+1) 82 #[.int .i64 (pick R.frm 73049),.int .i64 (pick R.mode 4+1),.int .i64 (unitOf (pick R.unit 5)),.slice ca3 n3 cc3,.slice ca4 n4 cc4,.slice ca5 n5 cc5,.slice ca6 n6 cc6,.slice ca7 n7 cc7] (0,0) _ rfl HZB.out Tryz.underlying82 rfl info34) rfl ?_
  exact OfPost.mk HT.out ⟨rfl,rfl,rfl⟩ HZL.out HZN.out HV.out (by omega)
 ·have hb0:(R.twist !=0)=true:=by simp [ht0]
  by_cases ht8:R.twist.tmod 8=0
  ·have hb8:(R.twist.tmod 8==0)=true:=by simp [ht8]
   have HT:=Lib.hid (ofP_2 ht0 ht8)
   have hq:IntKind.i64.wrap (R.twist.tdiv 8)=R.twist.tdiv 8:=tdiv8_in h4
   have hp7:=pick_bd (R.twist.tdiv 8) 7 (by omega)
   obtain⟨hp8,hp9⟩:=hp7
   clear ht0 ht8
   repeat(first|go_values|go_skip|go_guarded|go_step|go_upon)
   refine(Pick_any _ _ _ (by omega)).mono ?_
   rintro e w' ⟨rfl,rfl⟩
   dsimp only
   repeat(first|go_values|go_skip|go_guarded|go_step|go_upon)
   refine(twist_any (pick (R.twist.tdiv 8) 7) hp8 hp9 H1 g _ _ _ (madeP R) (.slice ca3 n3 cc3) (.slice ca4 n4 cc4) (.slice ca5 n5 cc5) (.slice ca6 n6 cc6) (.slice ca7 n7 cc7) wc HOFR.out.out (made_lens R) HV.out).mono ?_
   rintro e w2 ⟨rfl,hb2,hv2⟩
   dsimp only
   have HO2:=Lib.hid (HOFR.out.kept (HOFR.out.bel.trans (Joins.below_le hb2 (by omega))) (fun k hk hk2=>hb2.block k (by omega)))
   have HV2:=Lib.hid hv2
   clear hb2 hv2
   have H1C:Hid ((#[.int .i64 (pick R.frm 73049),.int .i64 (pick R.mode 4+1),.int .i64 (unitOf (pick R.unit 5)),.slice ca3 n3 cc3,.slice ca4 n4 cc4,.slice ca5 n5 cc5,.slice ca6 n6 cc6,.slice ca7 n7 cc7]:Array Value).all (·.oneCell')=true):=Lib.hid (all_oneCell_toArray (cs:=[.int .i64 (pick R.frm 73049),.int .i64 (pick R.mode 4+1),.int .i64 (unitOf (pick R.unit 5)),.slice ca3 n3 cc3,.slice ca4 n4 cc4,.slice ca5 n5 cc5,.slice ca6 n6 cc6,.slice ca7 n7 cc7]) (by intro u hu;simp only [List.mem_cons,List.not_mem_nil,or_false]at hu;rcases hu with rfl|rfl|rfl|rfl|rfl|rfl|rfl|rfl<;>rfl))
   have HTH:=Lib.hid (there_of_block HO2.out.res 8 rfl)
   have HZB:=Lib.hid (block_setCells (#[.int .i64 (pick R.frm 73049),.int .i64 (pick R.mode 4+1),.int .i64 (unitOf (pick R.unit 5)),.slice ca3 n3 cc3,.slice ca4 n4 cc4,.slice ca5 n5 cc5,.slice ca6 n6 cc6,.slice ca7 n7 cc7]:Array Value).toList 0 w2 _ HO2.out.res)
   have HZL:=Lib.hid (below_setCells (Nat.le_succ w.heap.size) (#[.int .i64 (pick R.frm 73049),.int .i64 (pick R.mode 4+1),.int .i64 (unitOf (pick R.unit 5)),.slice ca3 n3 cc3,.slice ca4 n4 cc4,.slice ca5 n5 cc5,.slice ca6 n6 cc6,.slice ca7 n7 cc7]:Array Value).toList 0 w2 HO2.out.bel)
   have HZN:=Lib.hid (next_setCells (b:=w.heap.size+1) (#[.int .i64 (pick R.frm 73049),.int .i64 (pick R.mode 4+1),.int .i64 (unitOf (pick R.unit 5)),.slice ca3 n3 cc3,.slice ca4 n4 cc4,.slice ca5 n5 cc5,.slice ca6 n6 cc6,.slice ca7 n7 cc7]:Array Value).toList 0 w2 (Next.refl _ _))
   generalize hwz:w2.setCells (w.heap.size+1) 0 (#[.int .i64 (pick R.frm 73049),.int .i64 (pick R.mode 4+1),.int .i64 (unitOf (pick R.unit 5)),.slice ca3 n3 cc3,.slice ca4 n4 cc4,.slice ca5 n5 cc5,.slice ca6 n6 cc6,.slice ca7 n7 cc7]:Array Value).toList=wz at HZB HZL HZN
   have HZ:=Lib.hid hwz
   clear hwz
   repeat(first
    |((with_reducible(show wpList _ _ _ (_::_) _ _));refine wpList_load_row rfl 82 _ rfl g rfl 82 _ _ _ HO2.out.out Tryz.underlying82 rfl info34 ?_)
    |((with_reducible(show wpList _ _ _ (_::_) _ _));refine wpList_store_mid rfl 82 (.tmp 2) (.tmp 239) rfl (w.heap.size+1) 0 #[.int .i64 (pick R.frm 73049),.int .i64 (pick R.mode 4+1),.int .i64 (unitOf (pick R.unit 5)),.slice ca3 n3 cc3,.slice ca4 n4 cc4,.slice ca5 n5 cc5,.slice ca6 n6 cc6,.slice ca7 n7 cc7] rfl rfl HTH.out info34 H1C.out ?_;rw [HZ.out])
    |go_values|go_skip|go_guarded|go_step|go_upon)
   refine bodyPost_ret (results_cell_row Tryz.results26 _ _ (w.heap.size+1) 82 #[.int .i64 (pick R.frm 73049),.int .i64 (pick R.mode 4+1),.int .i64 (unitOf (pick R.unit 5)),.slice ca3 n3 cc3,.slice ca4 n4 cc4,.slice ca5 n5 cc5,.slice ca6 n6 cc6,.slice ca7 n7 cc7] (0,0) _ rfl HZB.out Tryz.underlying82 rfl info34) rfl ?_
   exact OfPost.mk HT.out (twistP_frm _ _) HZL.out HZN.out HV2.out (by omega)
  ·have hb8:(R.twist.tmod 8==0)=false:=by simp [ht8]
   have HT:=Lib.hid (ofP_1 ht0 ht8)
   clear ht0 ht8
   have H1C:Hid ((#[.int .i64 (pick R.frm 73049),.int .i64 (pick R.mode 4+1),.int .i64 (unitOf (pick R.unit 5)),.slice ca3 n3 cc3,.slice ca4 n4 cc4,.slice ca5 n5 cc5,.slice ca6 n6 cc6,.slice ca7 n7 cc7]:Array Value).all (·.oneCell')=true):=Lib.hid (all_oneCell_toArray (cs:=[.int .i64 (pick R.frm 73049),.int .i64 (pick R.mode 4+1),.int .i64 (unitOf (pick R.unit 5)),.slice ca3 n3 cc3,.slice ca4 n4 cc4,.slice ca5 n5 cc5,.slice ca6 n6 cc6,.slice ca7 n7 cc7]) (by intro u hu;simp only [List.mem_cons,List.not_mem_nil,or_false]at hu;rcases hu with rfl|rfl|rfl|rfl|rfl|rfl|rfl|rfl<;>rfl))
   have HTH:=Lib.hid (there_of_block HOFR.out.res 8 rfl)
   have HZB:=Lib.hid (block_setCells (#[.int .i64 (pick R.frm 73049),.int .i64 (pick R.mode 4+1),.int .i64 (unitOf (pick R.unit 5)),.slice ca3 n3 cc3,.slice ca4 n4 cc4,.slice ca5 n5 cc5,.slice ca6 n6 cc6,.slice ca7 n7 cc7]:Array Value).toList 0 wc _ HOFR.out.res)
   have HZL:=Lib.hid (below_setCells (Nat.le_succ w.heap.size) (#[.int .i64 (pick R.frm 73049),.int .i64 (pick R.mode 4+1),.int .i64 (unitOf (pick R.unit 5)),.slice ca3 n3 cc3,.slice ca4 n4 cc4,.slice ca5 n5 cc5,.slice ca6 n6 cc6,.slice ca7 n7 cc7]:Array Value).toList 0 wc HOFR.out.bel)
   have HZN:=Lib.hid (next_setCells (b:=w.heap.size+1) (#[.int .i64 (pick R.frm 73049),.int .i64 (pick R.mode 4+1),.int .i64 (unitOf (pick R.unit 5)),.slice ca3 n3 cc3,.slice ca4 n4 cc4,.slice ca5 n5 cc5,.slice ca6 n6 cc6,.slice ca7 n7 cc7]:Array Value).toList 0 wc (Next.refl _ _))
   generalize hwz:wc.setCells (w.heap.size+1) 0 (#[.int .i64 (pick R.frm 73049),.int .i64 (pick R.mode 4+1),.int .i64 (unitOf (pick R.unit 5)),.slice ca3 n3 cc3,.slice ca4 n4 cc4,.slice ca5 n5 cc5,.slice ca6 n6 cc6,.slice ca7 n7 cc7]:Array Value).toList=wz at HZB HZL HZN
   have HZ:=Lib.hid hwz
   clear hwz
   repeat(first
    |((with_reducible(show wpList _ _ _ (_::_) _ _));refine wpList_load_row rfl 82 _ rfl g rfl 82 _ _ _ HOFR.out.out Tryz.underlying82 rfl info34 ?_)
    |((with_reducible(show wpList _ _ _ (_::_) _ _));refine wpList_store_mid rfl 82 (.tmp 2) (.tmp 239) rfl (w.heap.size+1) 0 #[.int .i64 (pick R.frm 73049),.int .i64 (pick R.mode 4+1),.int .i64 (unitOf (pick R.unit 5)),.slice ca3 n3 cc3,.slice ca4 n4 cc4,.slice ca5 n5 cc5,.slice ca6 n6 cc6,.slice ca7 n7 cc7] rfl rfl HTH.out info34 H1C.out ?_;rw [HZ.out])
    |go_values|go_skip|go_guarded|go_step|go_upon)
   refine bodyPost_ret (results_cell_row Tryz.results26 _ _ (w.heap.size+1) 82 #[.int .i64 (pick R.frm 73049),.int .i64 (pick R.mode 4+1),.int .i64 (unitOf (pick R.unit 5)),.slice ca3 n3 cc3,.slice ca4 n4 cc4,.slice ca5 n5 cc5,.slice ca6 n6 cc6,.slice ca7 n7 cc7] (0,0) _ rfl HZB.out Tryz.underlying82 rfl info34) rfl ?_
   exact OfPost.mk HT.out ⟨rfl,rfl,rfl⟩ HZL.out HZN.out HV.out (by omega)
theorem Of_from4(R:RawV)(w:World)(h1:I64 R.frm)(h2:I64 R.mode)(h3:I64 R.unit)(h4:I64 R.twist)(ca:Option Addr)(sa:Option Addr)(la:Option Addr)(ia:Option Addr)(pa:Option Addr)(ua:Option Addr)(ccap:Nat)(scap:Nat)(lcap:Nat)(icap:Nat)(pcap:Nat)(ucap:Nat)(hcl:R.credits.length≤140737488355328)(hsl:R.series.length≤140737488355328)(hll:R.lets.length≤140737488355328)(hil:R.ifs.length≤140737488355328)(hpl:R.pays.length≤140737488355328)(hul:R.cuts.length≤140737488355328)(HCC:Hid (R.credits.length=0∨∃b off,ca=some ⟨b,off,none⟩∧b<w.heap.size∧∀(i:Nat),i<R.credits.length→w.cell? ⟨b,off+i,none⟩=some (.int .i64 (R.credits.getD i 0))))(HSC:Hid (R.series.length=0∨∃b off,sa=some ⟨b,off,none⟩∧b<w.heap.size∧∀(i:Nat),i<R.series.length→w.cell? ⟨b,off+i,none⟩=some (.int .i64 (R.series.getD i 0))))(HLC:Hid (R.lets.length=0∨∃b off,la=some ⟨b,off,none⟩∧b<w.heap.size∧∀(i:Nat),i<R.lets.length→∃u,w.cell? ⟨b,off+i,none⟩=some u∧IntsAt w u (R.lets.getD i [])))(HIC:Hid (R.ifs.length=0∨∃b off,ia=some ⟨b,off,none⟩∧b<w.heap.size∧∀(i:Nat),i<R.ifs.length→∃u,w.cell? ⟨b,off+i,none⟩=some u∧IntsAt w u (R.ifs.getD i [])))(HPC:Hid (R.pays.length=0∨∃b off,pa=some ⟨b,off,none⟩∧b<w.heap.size∧∀(i:Nat),i<R.pays.length→∃u,w.cell? ⟨b,off+i,none⟩=some u∧IntsAt w u (R.pays.getD i [])))(HUC:Hid (R.cuts.length=0∨∃b off,ua=some ⟨b,off,none⟩∧b<w.heap.size∧∀(i:Nat),i<R.cuts.length→∃u,w.cell? ⟨b,off+i,none⟩=some u∧IntsAt w u (R.cuts.getD i [])))(g:Nat)(wk:Nat)(wc:World)(vcr:Value)(H1:Nat)(hgH1:g<H1)(vse:Value)(H2:Nat)(hgH2:g<H2)(hH12:H1≤H2)(vle:Value)(H3:Nat)(ql:List (ByteArray × (Ex × Value)))(hgH3:g<H3)(hH23:H2≤H3)(eva:Option Addr)(evc:Nat)(vgr:Value)(H4:Nat)(qg:List GrT)(hgH4:g<H4)(hH34:H3≤H4)(hH4:H4≤wc.heap.size)(HROW1:Hid (RowX 133 2 H1 (· <H2) wc vcr (credCells R (nCred R)) []))(HROW2:Hid (RowX 135 3 H2 (· <H3) wc vse (serCells R (nSer R)) []))(HROW3:Hid (RowX 63 7 H3 (· <H4) wc vle (letL ql) (ql.map (·.2))))(HENV:Hid (RowG 106 2 H3 wc (.slice eva (envL (envF R (nLet R))).length evc) (envL (envF R (nLet R))) []))(HROW4:Hid (RowX 86 13 H4 (· <wc.heap.size) wc vgr (grL qg) (grR qg)))(HQL:Hid (LetQ R (nLet R) ql))(HQG:Hid (GrQ R (nPay R) qg))(HOF1:Hid (OfAt w (raw10 R (.slice ca R.credits.length ccap) (.slice sa R.series.length scap) (.slice la R.lets.length lcap) (.slice ia R.ifs.length icap) (.slice pa R.pays.length pcap) (.slice ua R.cuts.length ucap)) g #[.int .i64 (pick R.frm 73049),.int .i64 (pick R.mode 4+1),.int .i64 (unitOf (pick R.unit 5)),vcr,vse,vle,vgr,.slice none 0 0] wc))(hgl1:g<wc.heap.size)(u5 u6 u7 u8 u9 u11 u12 u13 u14 u15 u17 u18 u19 u20 u21 u22 u23 u24 u25 u26 u27 u28 u29 u30 u31 u32 u33 u34 u35 u36 u37 u38 u39 u40 u41 u42 u43 u44 u45 u46 u47 u48 u49 u50 u51 u52 u53 u54 u55 u56 u57 u58 u59 u60 u61 u62 u63 u64 u65 u66 u67 u68 u69 u70 u71 u72 u73 u74 u75 u76 u77 u78 u79 u80 u81 u82 u83 u84 u85 u86 u87 u88 u89 u90 u91 u92 u93 u94 u95 u96 u97 u98 u99 u100 u101 u102 u103 u104 u105 u106 u107 u108 u109 u110 u111 u112 u113 u114 u115 u116 u117 u118 u119 u120 u121 u122 u123 u124 u125 u126 u127 u128 u129 u130 u131 u132 u133 u134 u135 u136 u137 u138 u139 u140 u141 u142 u143 u144 u145 u146 u147 u148 u149 u150 u151 u152 u153 u154 u155 u156 u157 u158 u159 u160 u161 u162 u163 u164 u165 u166 u167 u168 u169 u170 u171 u172 u173 u174 u175 u176 u177 u178 u179 u180 u181 u182 u183 u184 u185 u186 u187 u188 u189 u190 u191 u192 u193 u194 u195 u196 u197 u198 u199 u200 u201 u202 u203 u204 u205 u206 u207 u208 u209 u210 u211 u212 u213 u214 u215 u216 u217 u218 u219 u220 u221 u222 u223 u224 u225 u226 u227 u228 u229 u230 u231 u232 u233 u234 u235 u236 u237 u238 u239:Value) :
 Code.wp Tryz.prog (tlC (tlC (tlC (tlC (tlC (tlC (tlC (tlC (Tryz.f26.body.getD .skip))))))))) (bodyPost Tryz.prog Tryz.f26 (OfPost R w)) {tmps:=#[(.agg (raw10 R (.slice ca R.credits.length ccap) (.slice sa R.series.length scap) (.slice la R.lets.length lcap) (.slice ia R.ifs.length icap) (.slice pa R.pays.length pcap) (.slice ua R.cuts.length ucap))),.pointer (some ⟨w.heap.size,0,none⟩),.pointer (some ⟨w.heap.size+1,0,none⟩),.pointer (some ⟨g,0,none⟩),.slice (some ⟨wk,0,none⟩) 6 6,u5,u6,u7,u8,u9,.slice eva (envL (envF R (nLet R))).length evc,u11,u12,u13,u14,u15,undef,u17,u18,u19,u20,u21,u22,u23,u24,u25,u26,u27,u28,u29,u30,u31,u32,u33,u34,u35,u36,u37,u38,u39,u40,u41,u42,u43,u44,u45,u46,u47,u48,u49,u50,u51,u52,u53,u54,u55,u56,u57,u58,u59,u60,u61,u62,u63,u64,u65,u66,u67,u68,u69,u70,u71,u72,u73,u74,u75,u76,u77,u78,u79,u80,u81,u82,u83,u84,u85,u86,u87,u88,u89,u90,u91,u92,u93,u94,u95,u96,u97,u98,u99,u100,u101,u102,u103,u104,u105,u106,u107,u108,u109,u110,u111,u112,u113,u114,u115,u116,u117,u118,u119,u120,u121,u122,u123,u124,u125,u126,u127,u128,u129,u130,u131,u132,u133,u134,u135,u136,u137,u138,u139,u140,u141,u142,u143,u144,u145,u146,u147,u148,u149,u150,u151,u152,u153,u154,u155,u156,u157,u158,u159,u160,u161,u162,u163,u164,u165,u166,u167,u168,u169,u170,u171,u172,u173,u174,u175,u176,u177,u178,u179,u180,u181,u182,u183,u184,u185,u186,u187,u188,u189,u190,u191,u192,u193,u194,u195,u196,u197,u198,u199,u200,u201,u202,u203,u204,u205,u206,u207,u208,u209,u210,u211,u212,u213,u214,u215,u216,u217,u218,u219,u220,u221,u222,u223,u224,u225,u226,u227,u228,u229,u230,u231,u232,u233,u234,u235,u236,u237,u238,u239],defers:=[]} wc:=by
 obtain⟨i0,hi,hz0,hz1,hz2⟩:=info_parts infoCred
 obtain⟨i1,hj,hj0,hj1,hj2⟩:=info_parts infoIdx
 obtain⟨i2,hq,hq0,hq1,hq2⟩:=info_parts infoLet
 obtain⟨i3,hr,hr0,hr1,hr2⟩:=info_parts infoBind
 obtain⟨i4,ht,ht0,ht1,ht2⟩:=info_parts infoGrant
 obtain⟨i5,hv,hv0,hv1,hv2⟩:=info_parts infoReduce
 conv=>arg 2;whnf
 unfold raw10
 go_upto_block 8 with fail
 go_cut []from 17 (fun wx=>∃vre H5 q,OfAt w (raw10 R (.slice ca R.credits.length ccap) (.slice sa R.series.length scap) (.slice la R.lets.length lcap) (.slice ia R.ifs.length icap) (.slice pa R.pays.length pcap) (.slice ua R.cuts.length ucap)) g #[.int .i64 (pick R.frm 73049),.int .i64 (pick R.mode 4+1),.int .i64 (unitOf (pick R.unit 5)),vcr,vse,vle,vgr,vre] wx∧RowX 133 2 H1 (· <H2) wx vcr (credCells R (nCred R)) []∧RowX 135 3 H2 (· <H3) wx vse (serCells R (nSer R)) []∧RowX 63 7 H3 (· <H4) wx vle (letL ql) (ql.map (·.2))∧RowX 86 13 H4 (· <H5) wx vgr (grL qg) (grR qg)∧(g<H5∧H4≤H5∧H5≤wx.heap.size)∧RowG 138 7 H5 wx vre (reL q) (q.map (·.2))∧ReQ R (nCut R) q)
 case first=>
  go_wp2_with fail
  go_loopw [16] (fun v16 wr=>∃k:Nat,∃vre:Value,∃q:List (Int × (Ex × Value)),k≤R.cuts.length∧k≤2∧v16= .int .i64 k∧OfAt w (raw10 R (.slice ca R.credits.length ccap) (.slice sa R.series.length scap) (.slice la R.lets.length lcap) (.slice ia R.ifs.length icap) (.slice pa R.pays.length pcap) (.slice ua R.cuts.length ucap)) g #[.int .i64 (pick R.frm 73049),.int .i64 (pick R.mode 4+1),.int .i64 (unitOf (pick R.unit 5)),vcr,vse,vle,vgr,vre] wr∧Next g wc wr∧RowG 138 7 wc.heap.size wr vre (reL q) (q.map (·.2))∧ReQ R k q) (fun v16 _=>2-(intOf v16).toNat)
  case atStart=>exact⟨0,_,[],by omega,by omega,rfl,HOF1.out,.refl _ _,.nil _ _ _ _,rfl⟩
  case round=>
   obtain⟨k,vre,q,hk,hk2,rfl,hof,hnx,hrow,hgq⟩:=hrel
   have hbx:wr.cell? ⟨w.heap.size,8,none⟩=some (.slice ua R.cuts.length ucap):=cell_of_row _ _ _ _ _ _ hof.box
   have hoc:wr.cell? ⟨g,7,none⟩=some vre:=cell_of_row _ _ _ _ _ _ hof.out
   have hl0:=hof.lt0
   have hl1:w.heap.size<wr.heap.size:=by omega
   have hl2:=hof.lt
   have hl3:=hnx.size
   have HNX:=Lib.hid hnx
   have HOFR:=Lib.hid hof
   have HROW:=Lib.hid hrow
   have HQ:=Lib.hid hgq
   have HLL:=Lib.hid (show(reL q).length=k by unfold reL;rw [List.length_map];exact hgq.length)
   obtain⟨aa,acap,rfl⟩:=hrow.form
   clear hof hnx hrow hl0 hgq
   by_cases hlt:k<R.cuts.length
   ·by_cases hlt2:k<2
    ·rcases HUC.out with h0|⟨b,off,rfl,hb,hx⟩
     ·omega
     ·obtain⟨u,hxk,hxi⟩:=hx k hlt
      have hkb:b<wr.heap.size:=by omega
      have hyk:wr.cell? ⟨b,off+k,none⟩=some u:=by rw [HOFR.out.bel.cell (by exact hb)];exact hxk
      have HXI:=Lib.hid hxi
      obtain⟨za,zcap,rfl⟩:=IntsAt.form hxi
      have HXK:=Lib.hid hxk
      clear hxk hx hxi
      have d1:(k:Int)<(R.cuts.length:Int):=by omega
      have d2:(k:Int)<2:=by omega
      have HCE:Hid (topF (R.cuts.getD k []) (envF R (nLet R)) 2=cutE R k):=Lib.hid rfl
      generalize hzk:R.cuts.getD k []=zk at *
      clear hzk
      have hzl:zk.length≤140737488355328:=HXI.out.1
      have hm1:IntKind.i64.wrap ((k:Int)+1)=k+1:=IntWalk.i64_in _ (by omega)
      have HRB:=Lib.hid HROW.out.lt
      go_upto_region 34 with fail
      refine TG.begin 15 (fun w'=>w'.cell? ⟨g,7,none⟩=some (.slice aa (reL q).length acap)∧w'.cell? ⟨w.heap.size,8,none⟩=some (.slice (some ⟨b,off,none⟩) R.cuts.length ucap)∧w'.cell? ⟨b,off+k,none⟩=some (.slice za zk.length zcap)) (by kernel_rfl) (by kernel_rfl) ?_ (fun hS=>?_)
      focus(refine⟨?_, ?_, ?_⟩<;>simp [go_sem,hoc,hbx,hyk,hl1,hl2,hkb])
      refine TG.tkB 0 hS ?_
      refine TG.tkB 1 hS ?_
      refine TG.tkB 2 hS ?_
      refine TG.tkB 3 hS ?_
      refine TG.tkB 4 hS ?_
      refine TG.tkB 5 hS ?_
      refine TG.tkB 6 hS ?_
      refine TG.tkB 7 hS ?_
      refine TG.tkB 8 hS ?_
      refine TG.tkB 9 hS ?_
      refine TG.one (i:=10) (by kernel_rfl) rfl (fun K1 hK1=>?_)
      go_simp
      go_at_call 9
      refine(Expr_any2 _ _ zk (envF R (nLet R)) 2 (cutE R k) wr.drew (ListAt.of_ints HXI.out HOFR.out.drew.bel) (EnvAt.of_row ((HENV.out.next HNX.out hgH3).drew) (by rw [envF_length];unfold nLet;omega) (envF_size R _)) (by omega) (by omega) HCE).mono ?_
      rintro e' w' ⟨v1,rfl,⟨bs1,dr1,rfl⟩,hrep⟩
      have H1:=Lib.hid (hrep.eqw (w':=wr.grow bs1 dr1) (by simp))
      obtain⟨v1a,v1c,hv1⟩:=hrep.form
      subst hv1
      clear hrep
      (try simp only [World.drew_grow])
      refine TG.go hK1 ?_ (fun hS=>?_)
      focus
       (try dsimp only)
       (refine⟨?_, ?_, ?_⟩<;>simp [go_sem,hoc,hbx,hyk,hl1,hl2,hkb])
      clear hK1 K1
      (try simp only [nS])
      refine TG.tkB 11 hS ?_
      refine TG.one (i:=12) (by kernel_rfl) rfl (fun K1 hK1=>?_)
      go_simp
      refine TG.go hK1 ?_ (fun hS=>?_)
      focus
       (try dsimp only)
       (refine⟨?_, ?_, ?_⟩<;>simp [go_sem,hoc,hbx,hyk,hl1,hl2,hkb])
      clear hK1 K1
      (try simp only [nS])
      refine TG.one (i:=13) (by kernel_rfl) rfl (fun K1 hK1=>?_)
      refine step_append_lies _ rfl _ _ 80 rfl wc.heap.size 138 i5 _ 7 80 Tryz.underlying80 hv hv0 hv1 hv2 rfl (by decide) _ _ _ rfl ((HROW.out.grow bs1 dr1).alloc (.cells #[.int .i64 ((k:Int)+1),.int .i64 (cutE R k).op,.int .i64 (cutE R k).num,.int .i64 (cutE R k).den,.int .i64 (cutE R k).dim,.string (cutE R k).name,.slice v1a (cutE R k).args.length v1c] 138)).own ⟨wr.heap.size+bs1.size,0,none⟩ 1 1 [.int .i64 ((k:Int)+1),.int .i64 (cutE R k).op,.int .i64 (cutE R k).num,.int .i64 (cutE R k).den,.int .i64 (cutE R k).dim,.string (cutE R k).name,.slice v1a (cutE R k).args.length v1c] rfl rfl ?_ ?_ (by decide) ?_ ?_ ?_ (wr.heap.size+bs1.size+1) (by simp) ?_
      focus exact fun j u hu=>news_cells _ [.int .i64 ((k:Int)+1),.int .i64 (cutE R k).op,.int .i64 (cutE R k).num,.int .i64 (cutE R k).den,.int .i64 (cutE R k).dim,.string (cutE R k).name,.slice v1a (cutE R k).args.length v1c] 138 _ (by simp) j u hu
      focus exact re_one _ _ _ rfl
      focus(have:=HLL.out;unfold maxLen;omega)
      focus(have:=HLL.out;omega)
      focus(simp;omega)
      intro g' cap w1 hown' hgrow hat hlt'
      have R1:=RowG.push (rs2:=[(cutE R k,.slice v1a (cutE R k).args.length v1c)]) (m:=wr.heap.size) ((HROW.out.grow bs1 dr1).alloc (.cells #[.int .i64 ((k:Int)+1),.int .i64 (cutE R k).op,.int .i64 (cutE R k).num,.int .i64 (cutE R k).den,.int .i64 (cutE R k).dim,.string (cutE R k).name,.slice v1a (cutE R k).args.length v1c] 138)) (rep_one ((H1.out.mono (fun b hb=>by simpa using hb)).alloc _)) hl3 (fun j hj=>(HRB.out j hj).2) rfl rfl rfl hown' hgrow hat (by simp)
      have O1:=((HOFR.out.grow bs1 dr1).alloc (.cells #[.int .i64 ((k:Int)+1),.int .i64 (cutE R k).op,.int .i64 (cutE R k).num,.int .i64 (cutE R k).den,.int .i64 (cutE R k).dim,.string (cutE R k).name,.slice v1a (cutE R k).args.length v1c] 138)).grown hgrow (fun j hj=>by have:=(HRB.out j hj).1;have:=HOFR.out.gge;omega)
      have N1:=((HNX.out.grow bs1 dr1).alloc (.cells #[.int .i64 ((k:Int)+1),.int .i64 (cutE R k).op,.int .i64 (cutE R k).num,.int .i64 (cutE R k).den,.int .i64 (cutE R k).dim,.string (cutE R k).name,.slice v1a (cutE R k).args.length v1c] 138)).grown hgrow (fun j hj=>(HRB.out j hj).1)
      have hoc2:w1.cell? ⟨g,7,none⟩=some (.slice aa (reL q).length acap):=cell_of_row _ _ _ _ _ _ O1.out
      have hof2:w1.frozen? ⟨g,7,none⟩=false:=Joins.unfrozen_of_block O1.out 7
      have hyk2:=(O1.bel.cell (p:=⟨b,off+k,none⟩) hb).trans HXK.out
      (try simp only [nS])
      refine TG.go hK1 ?_ (fun hS=>?_)
      focus exact⟨hoc2,cell_of_row _ _ _ _ _ _ O1.box,hyk2⟩
      clear hK1 K1 hyk2
      have HR2:=Lib.hid (R1.setCell (a:=⟨g,7,none⟩) hgl1 (.slice (some ⟨g',0,none⟩) ((reL q).length+1) cap))
      have HO2:=Lib.hid (O1.store 7 (.slice (some ⟨g',0,none⟩) ((reL q).length+1) cap))
      have HN2:=Lib.hid (N1.store 7 (.slice (some ⟨g',0,none⟩) ((reL q).length+1) cap))
      clear hown' hgrow hat hlt' R1 O1 N1
      (try simp only [nS])
      refine TG.tkB 14 hS ?_
      refine TG.one (i:=15) (by kernel_rfl) rfl (fun K1 hK1=>?_)
      go_simp
      refine hK1 _ _ (fun h=>absurd rfl h) (TG.done (by kernel_rfl) ?_)
      clear hK1 K1 hS
      (try simp only [nS])
      go_wp2_with fail
      go_roundw
      case rel=>exact⟨k+1,_,q++[((k:Int)+1,(cutE R k,.slice v1a (cutE R k).args.length v1c))],by omega,by omega,by go_num,HO2.out,HN2.out,by rw [reL_push,List.map_append];exact HR2.out,HQ.out.push _⟩
      case measure=>simp [intOf];omega
    ·go_wp2_with fail
     go_meet
     exact⟨_,wc.heap.size,q,HOFR.out,HROW1.out.next HNX.out hgH1,HROW2.out.next HNX.out hgH2,HROW3.out.next HNX.out hgH3,HROW4.out.next HNX.out hgH4,⟨hgl1,hH4,HNX.out.size⟩,by rw [show nCut R=k by unfold nCut;omega];exact⟨HROW.out,HQ.out⟩⟩
   ·go_wp2_with fail
    go_meet
    exact⟨_,wc.heap.size,q,HOFR.out,HROW1.out.next HNX.out hgH1,HROW2.out.next HNX.out hgH2,HROW3.out.next HNX.out hgH3,HROW4.out.next HNX.out hgH4,⟨hgl1,hH4,HNX.out.size⟩,by rw [show nCut R=k by unfold nCut;omega];exact⟨HROW.out,HQ.out⟩⟩
 obtain⟨vre,H5,qr,hcut⟩:=hcut
 clear HROW1 HROW2 HROW3 HROW4 HENV HOF1 hgl1 hH4
 go_step
 exact Of_from5 R w h1 h2 h3 h4 ca sa la ia pa ua ccap scap lcap icap pcap ucap hcl hsl hll hil hpl hul HCC HSC HLC HIC HPC HUC g _ wc vcr H1 hgH1 vse H2 hgH2 hH12 vle H3 ql hgH3 hH23 eva evc vgr H4 qg hgH4 hH34 vre H5 qr hcut HQL HQG _ _ _ _ _ _ _ _ _ _ _ _ _ _ _ _ _ _ _ _ _ _ _ _ _ _ _ _ _ _ _ _ _ _ _ _ _ _ _ _ _ _ _ _ _ _ _ _ _ _ _ _ _ _ _ _ _ _ _ _ _ _ _ _ _ _ _ _ _ _ _ _ _ _ _ _ _ _ _ _ _ _ _ _ _ _ _ _ _ _ _ _ _ _ _ _ _ _ _ _ _ _ _ _ _ _ _ _ _ _ _ _ _ _ _ _ _ _ _ _ _ _ _ _ _ _ _ _ _ _ _ _ _ _ _ _ _ _ _ _ _ _ _ _ _ _ _ _ _ _ _ _ _ _ _ _ _ _ _ _ _ _ _ _ _ _ _ _ _ _ _ _ _ _ _ _ _ _ _ _ _ _ _ _ _ _ _ _ _ _ _ _ _ _ _ _ _ _ _ _ _ _ _ _ _ _ _ _ _ _ _ _ _ _ _ _ _ _ _ _ _ _ _ _ _ _ _ _ _ _ _ _ _ _
end Go.Proofs.YtfoefpoaomepbaaGreatDoor
