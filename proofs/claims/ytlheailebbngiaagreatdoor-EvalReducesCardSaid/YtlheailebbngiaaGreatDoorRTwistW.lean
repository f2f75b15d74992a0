import Derived.Test.YtlheailebbngiaaGreatDoorRTop
import Derived.Test.YtlheailebbngiaaGreatDoorREvP
set_option linter.all false
set_option maxHeartbeats 16000000
set_option maxRecDepth 1000000
namespace Go.Proofs.YtlheailebbngiaaGreatDoor
open Tryz List
open Go.RowKit

def mR(B:Nat)(V:cO)(w:World)(v3 v4 v5 v6 v7:Value)(n:Int)(e:Ending)(w':World):Prop:=e= .returned (.tuple #[])/\Below B w w'/\df B w' (bM n V) v3 v4 v5 v6 v7
theorem df.same{B:Nat}{w w':World}{V:cO}{v3 v4 v5 v6 v7:Value}(h:df B w V v3 v4 v5 v6 v7)(hb:w.heap.size<=w'.heap.size)(hw:∀k,B<=k->k<w.heap.size->w'.heap[k]? =w.heap[k]?):df B w' V v3 v4 v5 v6 v7:=by
 obtain⟨ql,qg,qr,H1,H2,H3,H4,H5,e1,e2,e3,ord,r1,r2,r3,r4,r5⟩:=h;exact⟨ql,qg,qr,H1,H2,H3,H4,H5,e1,e2,e3,ord,r1.keep hb fun k h1 _ h2=>hw k ze h2,r2.keep hb fun k h1 _ h2=>hw k ze h2,r3.keep hb fun k h1 _ h2=>hw k ze h2,r4.keep hb fun k h1 _ h2=>hw k ze h2,r5.keep hb fun k h1 h2=>hw k ze h2⟩
theorem df.grow{B:Nat}{w:World}{V:cO}{v3 v4 v5 v6 v7:Value}(h:df B w V v3 v4 v5 v6 v7)(bs:Array Obj)(d:Nat):df B (w.grow bs d) V v3 v4 v5 v6 v7:=h.same zg fun k _ hk=>World.heap_grow _ _ _ hk
theorem df.alloc{B:Nat}{w:World}{V:cO}{v3 v4 v5 v6 v7:Value}(h:df B w V v3 v4 v5 v6 v7)(o:Obj):df B (w.alloc o) V v3 v4 v5 v6 v7:=h.same zg fun k _ hk=>Below.heap_alloc w o k hk
theorem df.drew{B:Nat}{w:World}{V:cO}{v3 v4 v5 v6 v7:Value}(h:df B w V v3 v4 v5 v6 v7):df B w.drew V v3 v4 v5 v6 v7:=h.same (Nat.le_refl _) fun k _ _=>rfl
theorem df.setCell{B:Nat}{w:World}{V:cO}{v3 v4 v5 v6 v7:Value}(h:df B w V v3 v4 v5 v6 v7){a:Addr}(ha:a.block<B)(u:Value):df B (w.setCell a u) V v3 v4 v5 v6 v7:=h.same zg fun k hk _=>Below.heap_setCell _ _ _ _ ze
theorem df.le{B B':Nat}{w:World}{V:cO}{v3 v4 v5 v6 v7:Value}(h:df B w V v3 v4 v5 v6 v7)(hb:B'<=B):df B' w V v3 v4 v5 v6 v7:=by
 obtain⟨ql,qg,qr,H1,H2,H3,H4,H5,e1,e2,e3,ord,r1,r2,r3,r4,r5⟩:=h;exact⟨ql,qg,qr,H1,H2,H3,H4,H5,e1,e2,e3,⟨by omega,ord.2⟩,r1,r2,r3,r4,r5⟩
theorem bH.apart'{T:TypeId}{c base g:Nat}{X:Nat->Prop}{w w':World}{v:Value}{l:List (List Value)}{rs:List (Ex × Value)}(h:bH T c base X w v l rs)(hn:Next g w w')(hg:¬(base<=g/\X g)):bH T c base X w' v l rs:=
 h.keep hn.size fun k h1 h2 h3=>hn.blk k h3 fun e=>hg (by subst e;exact⟨h1,h2⟩)
section
variable {B g : Nat} {w w' : World} {cr cr' : List (Int × Int)} {se se' : List (Int × Int × Int)} {ql ql' : List (ByteArray × (Ex × Value))} {qg qg' : List GrT} {qr : List (Int × (Ex × Value))} {v3 v4 v5 v6 v7 : Value} {H1 H2 H3 H4 H5 : Nat}
theorem qV.put1(h:qV B w cr se ql qg qr v3 v4 v5 v6 v7 H1 H2 H3 H4 H5)(hg:H1<=g/\g<H2)(hn:Next g w w')(r:bH 129 2 H1 (· <H2) w' v3 (crL cr') []):qV B w' cr' se ql qg qr v3 v4 v5 v6 v7 H1 H2 H3 H4 H5:=by
 have o:=h.ord;exact⟨o,r,h.r2.apart' hn (fun e=>by have:=e.1;omega),h.r3.apart' hn (fun e=>by have:=e.1;omega),h.r4.apart' hn (fun e=>by have:=e.1;omega),h.r5.keep hn.size fun k h1 h2=>hn.blk k h2 ze⟩
theorem qV.put2(h:qV B w cr se ql qg qr v3 v4 v5 v6 v7 H1 H2 H3 H4 H5)(hg:H2<=g/\g<H3)(hn:Next g w w')(r:bH 131 3 H2 (· <H3) w' v4 (seL se') []):qV B w' cr se' ql qg qr v3 v4 v5 v6 v7 H1 H2 H3 H4 H5:=by
 have o:=h.ord;exact⟨o,h.r1.apart' hn (fun e=>by have:g<H2:=e.2;omega),r,h.r3.apart' hn (fun e=>by have:=e.1;omega),h.r4.apart' hn (fun e=>by have:=e.1;omega),h.r5.keep hn.size fun k h1 h2=>hn.blk k h2 ze⟩
theorem qV.put3(h:qV B w cr se ql qg qr v3 v4 v5 v6 v7 H1 H2 H3 H4 H5)(hg:H3<=g/\g<H4)(hn:Next g w w')(r:bH 84 7 H3 (· <H4) w' v5 (fU ql') (ql'.map (·.2))):qV B w' cr se ql' qg qr v3 v4 v5 v6 v7 H1 H2 H3 H4 H5:=by
 have o:=h.ord;exact⟨o,h.r1.apart' hn (fun e=>by have:g<H2:=e.2;omega),h.r2.apart' hn (fun e=>by have:g<H3:=e.2;omega),r,h.r4.apart' hn (fun e=>by have:=e.1;omega),h.r5.keep hn.size fun k h1 h2=>hn.blk k h2 ze⟩
theorem qV.put4(h:qV B w cr se ql qg qr v3 v4 v5 v6 v7 H1 H2 H3 H4 H5)(hg:H4<=g/\g<H5)(hn:Next g w w')(r:bH 97 13 H4 (· <H5) w' v6 (grL qg') (grR qg')):qV B w' cr se ql qg' qr v3 v4 v5 v6 v7 H1 H2 H3 H4 H5:=by
 have o:=h.ord;exact⟨o,h.r1.apart' hn (fun e=>by have:g<H2:=e.2;omega),h.r2.apart' hn (fun e=>by have:g<H3:=e.2;omega),h.r3.apart' hn (fun e=>by have:g<H4:=e.2;omega),r,h.r5.keep hn.size fun k h1 h2=>hn.blk k h2 ze⟩
end
theorem Mj
 (B g:Nat) (frm mode unit:Int) (V:cO) (v3 v4 v5 v6 v7:Value) (w:World) (hg:w.heap[g]? =some (.cells #[.int .i64 frm,.int .i64 mode,.int .i64 unit,v3,v4,v5,v6,v7] 81 (0,0)))
 (hlen:V.cr.length<=1000/\V.se.length<=1000/\V.le.length<=1000/\V.gr.length<=1000) (h:df B w V v3 v4 v5 v6 v7)
 :Calls prog 73 #[.pointer (some ⟨g,0,none⟩),.int .i64 1] w (mR B V w v3 v4 v5 v6 v7 1):=by
 obtain⟨ql,qg,qr,H1,H2,H3,H4,H5,e1,e2,e3,hQ⟩:=h;have ho:=hQ.ord;have hc:w.cell? ⟨g,6,none⟩=some v6:=cell_of_row w g 6 _ _ _ hg
 match qg,e2,hQ with
 | [],e2,hQ=>
   obtain⟨a,cap,hv⟩:=hQ.r4.form;refine(JE g _ cap a w (hc.trans (congrArg some hv)) zJ).mono ?_;rintro e w' ⟨rfl,rfl⟩;exact⟨rfl,.refl _ _,ql,[],qr,H1,H2,H3,H4,H5,e1,by simp [bM,<-e2],e3,hQ⟩
 | [t],e2,hQ=>
   obtain⟨a,cap,hv⟩:=hQ.r4.form;refine(JE g _ cap a w (hc.trans (congrArg some hv)) zJ).mono ?_;rintro e w' ⟨rfl,rfl⟩;exact⟨rfl,.refl _ _,ql,[t],qr,H1,H2,H3,H4,H5,e1,by simp [bM,<-e2],e3,hQ⟩
 |t::u::r,e2,hQ=>
  have hl:(grL (t::u::r)).length=V.gr.length:=by rw [<-e2];simp [grL]
  obtain⟨gg,cap,rfl⟩:=hQ.r4.block zJ;obtain⟨b1,b2,b3⟩:=hQ.r4.apart;have c0:w.cell? ⟨gg,0,none⟩=some (.int .i64 t.1):=hQ.r4.cellAt rfl 0 0 ze zJ;have c1:w.cell? ⟨gg,13,none⟩=some (.int .i64 u.1):=hQ.r4.cellAt rfl 1 0 ze zJ;refine(Ms g gg _ cap t.1 w hc zJ ze c0 _ c1 (hQ.r4.own.frozenAt _)).mono ?_;rintro e w' ⟨rfl,rfl⟩;refine⟨rfl,((Below.refl _ _).setCell (by show B<=gg;omega) _).drew,ql,t::(t.1,u.2)::r,qr,H1,H2,H3,H4,H5,e1,by simp [bM,<-e2],e3, ?_⟩;exact hQ.put4 ⟨b1,b2⟩ (((Next.refl _ _).store _ _).drew) (hQ.r4.stored (rs':=grR (t::(t.1,u.2)::r)) rfl 1 0 13 rfl ze zJ (.int .i64 t.1) (fun x hx=>.inl hx)).drew
theorem Mi
 (B g:Nat) (frm mode unit:Int) (V:cO) (v3 v4 v5 v6 v7:Value) (w:World) (hg:w.heap[g]? =some (.cells #[.int .i64 frm,.int .i64 mode,.int .i64 unit,v3,v4,v5,v6,v7] 81 (0,0)))
 (hlen:V.cr.length<=1000/\V.se.length<=1000/\V.le.length<=1000/\V.gr.length<=1000) (h:df B w V v3 v4 v5 v6 v7)
 :Calls prog 73 #[.pointer (some ⟨g,0,none⟩),.int .i64 2] w (mR B V w v3 v4 v5 v6 v7 2):=by
 obtain⟨ql,qg,qr,H1,H2,H3,H4,H5,e1,e2,e3,hQ⟩:=h;have ho:=hQ.ord;have hc:w.cell? ⟨g,5,none⟩=some v5:=cell_of_row w g 5 _ _ _ hg
 match ql,e1,hQ with
 | [],e1,hQ=>
   obtain⟨a,cap,hv⟩:=hQ.r3.form;refine(JD g _ cap a w (hc.trans (congrArg some hv)) zC).mono ?_;rintro e w' ⟨rfl,rfl⟩;exact⟨rfl,.refl _ _,[],qg,qr,H1,H2,H3,H4,H5,by simp [bM,<-e1],e2,e3,hQ⟩
 | [t],e1,hQ=>
   obtain⟨a,cap,hv⟩:=hQ.r3.form;refine(JD g _ cap a w (hc.trans (congrArg some hv)) zC).mono ?_;rintro e w' ⟨rfl,rfl⟩;exact⟨rfl,.refl _ _,[t],qg,qr,H1,H2,H3,H4,H5,by simp [bM,<-e1],e2,e3,hQ⟩
 |t::u::r,e1,hQ=>
  have hl:(fU (t::u::r)).length=V.le.length:=by rw [<-e1];simp [fU]
  obtain⟨gg,cap,rfl⟩:=hQ.r3.block zC;obtain⟨b1,b2,b3⟩:=hQ.r3.apart;have c0:w.cell? ⟨gg,0,none⟩=some (.string t.1):=hQ.r3.cellAt rfl 0 0 ze zC;have c1:w.cell? ⟨gg,7,none⟩=some (.string u.1):=hQ.r3.cellAt rfl 1 0 ze zC;refine(Mr g gg _ cap t.1 w hc zC ze c0 _ c1 (hQ.r3.own.frozenAt _)).mono ?_;rintro e w' ⟨rfl,rfl⟩;refine⟨rfl,((Below.refl _ _).setCell (by show B<=gg;omega) _).drew,t::(t.1,u.2)::r,qg,qr,H1,H2,H3,H4,H5,by simp [bM,<-e1],e2,e3, ?_⟩;exact hQ.put3 ⟨b1,b2⟩ (((Next.refl _ _).store _ _).drew) (hQ.r3.stored (rs':=List.map (fun x:ByteArray × (Ex × Value)=>x.2) (t::(t.1,u.2)::r)) rfl 1 0 7 rfl ze zC (.string t.1) (fun x hx=>.inl hx)).drew
theorem Mg
 (B g:Nat) (frm mode unit:Int) (V:cO) (v3 v4 v5 v6 v7:Value) (w:World) (hg:w.heap[g]? =some (.cells #[.int .i64 frm,.int .i64 mode,.int .i64 unit,v3,v4,v5,v6,v7] 81 (0,0)))
 (hlen:V.cr.length<=1000/\V.se.length<=1000/\V.le.length<=1000/\V.gr.length<=1000) (h:df B w V v3 v4 v5 v6 v7)
 :Calls prog 73 #[.pointer (some ⟨g,0,none⟩),.int .i64 4] w (mR B V w v3 v4 v5 v6 v7 4):=by
 obtain⟨ql,qg,qr,H1,H2,H3,H4,H5,e1,e2,e3,hQ⟩:=h;have ho:=hQ.ord;have hc:w.cell? ⟨g,4,none⟩=some v4:=cell_of_row w g 4 _ _ _ hg;generalize hse:V.se=se at hQ
 match se,hse,hQ with
 | [],hse,hQ=>
   obtain⟨a,cap,hv⟩:=hQ.r2.form;refine(JC g _ cap a w (hc.trans (congrArg some hv)) zP).mono ?_;rintro e w' ⟨rfl,rfl⟩;exact⟨rfl,.refl _ _,ql,qg,qr,H1,H2,H3,H4,H5,e1,e2,e3,by have hs:(bM 4 V).se= []:=(by simp [bM,hse]);rw [hs];exact hQ⟩
 | [t],hse,hQ=>
   obtain⟨a,cap,hv⟩:=hQ.r2.form;refine(JC g _ cap a w (hc.trans (congrArg some hv)) zP).mono ?_;rintro e w' ⟨rfl,rfl⟩;exact⟨rfl,.refl _ _,ql,qg,qr,H1,H2,H3,H4,H5,e1,e2,e3,by have hs:(bM 4 V).se= [t]:=(by simp [bM,hse]);rw [hs];exact hQ⟩
 |t::u::r,hse,hQ=>
  have hl:(seL (t::u::r)).length=V.se.length:=by rw [hse];simp [seL]
  obtain⟨gg,cap,rfl⟩:=hQ.r2.block zP;obtain⟨b1,b2,b3⟩:=hQ.r2.apart;have c0:w.cell? ⟨gg,0,none⟩=some (.int .i64 t.1):=hQ.r2.cellAt rfl 0 0 ze zP;have c1:w.cell? ⟨gg,3,none⟩=some (.int .i64 u.1):=hQ.r2.cellAt rfl 1 0 ze zP;refine(Mo g gg _ cap t.1 w hc zP ze c0 _ c1 (hQ.r2.own.frozenAt _)).mono ?_;rintro e w' ⟨rfl,rfl⟩;refine⟨rfl,((Below.refl _ _).setCell (by show B<=gg;omega) _).drew,ql,qg,qr,H1,H2,H3,H4,H5,e1,e2,e3, ?_⟩;have hs:(bM 4 V).se=t::(t.1,u.2)::r:=by simp [bM,hse]
  rw [hs];exact hQ.put2 ⟨b1,b2⟩ (((Next.refl _ _).store _ _).drew) (hQ.r2.stored (rs':=[]) rfl 1 0 3 rfl ze zP (.int .i64 t.1) (fun x hx=>.inl hx)).drew
theorem Mf
 (B g:Nat) (frm mode unit:Int) (V:cO) (v3 v4 v5 v6 v7:Value) (w:World) (hg:w.heap[g]? =some (.cells #[.int .i64 frm,.int .i64 mode,.int .i64 unit,v3,v4,v5,v6,v7] 81 (0,0)))
 (hlen:V.cr.length<=1000/\V.se.length<=1000/\V.le.length<=1000/\V.gr.length<=1000) (h:df B w V v3 v4 v5 v6 v7)
 :Calls prog 73 #[.pointer (some ⟨g,0,none⟩),.int .i64 5] w (mR B V w v3 v4 v5 v6 v7 5):=by
 obtain⟨ql,qg,qr,H1,H2,H3,H4,H5,e1,e2,e3,hQ⟩:=h;have ho:=hQ.ord;have hc:w.cell? ⟨g,3,none⟩=some v3:=cell_of_row w g 3 _ _ _ hg;generalize hcr:V.cr=cr at hQ
 match cr,hcr,hQ with
 | [],hcr,hQ=>
   obtain⟨a,cap,hv⟩:=hQ.r1.form;refine(JB g _ cap a w (hc.trans (congrArg some hv)) zO).mono ?_;rintro e w' ⟨rfl,rfl⟩;exact⟨rfl,.refl _ _,ql,qg,qr,H1,H2,H3,H4,H5,e1,e2,e3,by have hs:(bM 5 V).cr= []:=(by simp [bM,hcr]);rw [hs];exact hQ⟩
 | [t],hcr,hQ=>
   obtain⟨a,cap,hv⟩:=hQ.r1.form;refine(JB g _ cap a w (hc.trans (congrArg some hv)) zO).mono ?_;rintro e w' ⟨rfl,rfl⟩;exact⟨rfl,.refl _ _,ql,qg,qr,H1,H2,H3,H4,H5,e1,e2,e3,by have hs:(bM 5 V).cr= [t]:=(by simp [bM,hcr]);rw [hs];exact hQ⟩
 |t::u::r,hcr,hQ=>
  have hl:(crL (t::u::r)).length=V.cr.length:=by rw [hcr];simp [crL]
  obtain⟨gg,cap,rfl⟩:=hQ.r1.block zO;obtain⟨b1,b2,b3⟩:=hQ.r1.apart;have c0:w.cell? ⟨gg,0,none⟩=some (.int .i64 t.1):=hQ.r1.cellAt rfl 0 0 ze zO;have c1:w.cell? ⟨gg,2,none⟩=some (.int .i64 u.1):=hQ.r1.cellAt rfl 1 0 ze zO;refine(Mm g gg _ cap t.1 w hc zO ze c0 _ c1 (hQ.r1.own.frozenAt _)).mono ?_;rintro e w' ⟨rfl,rfl⟩;refine⟨rfl,((Below.refl _ _).setCell (by show B<=gg;omega) _).drew,ql,qg,qr,H1,H2,H3,H4,H5,e1,e2,e3, ?_⟩;have hs:(bM 5 V).cr=t::(t.1,u.2)::r:=by simp [bM,hcr]
  rw [hs];exact hQ.put1 ⟨b1,b2⟩ (((Next.refl _ _).store _ _).drew) (hQ.r1.stored (rs':=[]) rfl 1 0 2 rfl ze zO (.int .i64 t.1) (fun x hx=>.inl hx)).drew
theorem Me
 (B g:Nat) (frm mode unit:Int) (V:cO) (v3 v4 v5 v6 v7:Value) (w:World) (hg:w.heap[g]? =some (.cells #[.int .i64 frm,.int .i64 mode,.int .i64 unit,v3,v4,v5,v6,v7] 81 (0,0)))
 (hlen:V.cr.length<=1000/\V.se.length<=1000/\V.le.length<=1000/\V.gr.length<=1000) (h:df B w V v3 v4 v5 v6 v7)
 :Calls prog 73 #[.pointer (some ⟨g,0,none⟩),.int .i64 6] w (mR B V w v3 v4 v5 v6 v7 6):=by
 obtain⟨ql,qg,qr,H1,H2,H3,H4,H5,e1,e2,e3,hQ⟩:=h;have ho:=hQ.ord;have hc:w.cell? ⟨g,5,none⟩=some v5:=cell_of_row w g 5 _ _ _ hg
 match ql,e1,hQ with
 | [],e1,hQ=>
   obtain⟨a,cap,hv⟩:=hQ.r3.form;refine(Pm g _ cap a w (hc.trans (congrArg some hv)) zC).mono ?_;rintro e w' ⟨rfl,rfl⟩;exact⟨rfl,.refl _ _,[],qg,qr,H1,H2,H3,H4,H5,by simp [bM,<-e1],e2,e3,hQ⟩
 |t::r,e1,hQ=>
  have hl:(fU (t::r)).length=V.le.length:=by rw [<-e1];simp [fU]
  obtain⟨gg,cap,rfl⟩:=hQ.r3.block zC;obtain⟨b1,b2,b3⟩:=hQ.r3.apart;have c0:w.cell? ⟨gg,0,none⟩=some (.string t.1):=hQ.r3.cellAt rfl 0 0 ze zC;refine(Ml g gg _ cap w hc zC ze _ c0 (hQ.r3.own.frozenAt _)).mono ?_;rintro e w' ⟨rfl,rfl⟩;refine⟨rfl,(Below.refl _ _).setCell (by show B<=gg;omega) _,(Lv,t.2)::r,qg,qr,H1,H2,H3,H4,H5,by simp [bM,<-e1],e2,e3, ?_⟩;exact hQ.put3 ⟨b1,b2⟩ ((Next.refl _ _).store _ _) (hQ.r3.stored (rs':=List.map (fun x:ByteArray × (Ex × Value)=>x.2) ((Lv,t.2)::r)) rfl 0 0 0 rfl ze zC (.string Lv) (fun x hx=>.inl hx))
theorem Kk:kU qC:=⟨⟨by decide,by decide⟩,⟨by decide,by decide⟩,⟨by decide,by decide⟩,⟨by decide,by decide⟩,by decide,by decide⟩
theorem Mh
 (B g:Nat) (frm mode unit:Int) (V:cO) (v3 v4 v5 v6 v7:Value) (w:World) (hg:w.heap[g]? =some (.cells #[.int .i64 frm,.int .i64 mode,.int .i64 unit,v3,v4,v5,v6,v7] 81 (0,0)))
 (hlen:V.cr.length<=1000/\V.se.length<=1000/\V.le.length<=1000/\V.gr.length<=1000) (h:df B w V v3 v4 v5 v6 v7)
 :Calls prog 73 #[.pointer (some ⟨g,0,none⟩),.int .i64 3] w (mR B V w v3 v4 v5 v6 v7 3):=by
 obtain⟨ql,qg,qr,H1,H2,H3,H4,H5,e1,e2,e3,hQ⟩:=h;have ho:=hQ.ord;have hc:w.cell? ⟨g,5,none⟩=some v5:=cell_of_row w g 5 _ _ _ hg
 match ql,e1,hQ with
 | [],e1,hQ=>
   obtain⟨a,cap,hv⟩:=hQ.r3.form;refine(Pn g _ cap a w (hc.trans (congrArg some hv)) zC).mono ?_;rintro e w' ⟨rfl,rfl⟩;exact⟨rfl,.refl _ _,[],qg,qr,H1,H2,H3,H4,H5,by simp [bM,<-e1],e2,e3,hQ⟩
 |t::r,e1,hQ=>
  have hl:(fU (t::r)).length=V.le.length:=by rw [<-e1];simp [fU]
  obtain⟨gg,cap,rfl⟩:=hQ.r3.block zC;obtain⟨b1,b2,b3⟩:=hQ.r3.apart;have cc:=fun j hj=>hQ.r3.cellAt rfl 0 j hj zC;refine(Mq g gg _ cap w hc zC ze _ _ _ _ _ _ (cc 1 ze) (cc 2 ze) (cc 3 ze) (cc 4 ze) (cc 5 ze) (cc 6 ze) (fun i=>hQ.r3.own.frozenAt i)).mono ?_;rintro e w' ⟨rfl,rfl⟩;have hb:B<=gg:=by omega
  refine⟨rfl,((((((Below.refl _ _).setCell hb _).setCell hb _).setCell hb _).setCell hb _).setCell hb _).setCell hb _,(t.1,(qC,.slice none 0 0))::r,qg,qr,H1,H2,H3,H4,H5,by simp [bM,<-e1],e2,e3, ?_⟩;have s1:=hQ.r3.stored rfl 0 1 1 rfl ze zC (.int .i64 2) (fun x hx=>.inl hx);have s2:=s1.stored rfl 0 2 2 rfl ze zC (.int .i64 0) (fun x hx=>.inl hx);have s3:=s2.stored rfl 0 3 3 rfl ze zC (.int .i64 0) (fun x hx=>.inl hx);have s4:=s3.stored rfl 0 4 4 rfl ze zC (.int .i64 0) (fun x hx=>.inl hx);have s5:=s4.stored rfl 0 5 5 rfl ze zC (.string ⟨#[108,97,116,101,114]⟩) (fun x hx=>.inl hx)
  have s6:=s5.stored (rs':=List.map (fun x:ByteArray × (Ex × Value)=>x.2) ((t.1,(qC,.slice none 0 0))::r)) rfl 0 6 6 rfl ze zC (.slice none 0 0) (fun x hx=>by
   rw [map_cons,mem_cons]at hx;rcases hx with rfl|hx
   ·exact .inr (.nil Kk rfl)
   ·exact .inl (by rw [map_cons];exact mem_cons_of_mem _ hx))
  exact hQ.put3 ⟨b1,b2⟩ ((((((((Next.refl _ _).store _ _).store _ _).store _ _).store _ _).store _ _).store _ _)) s6
theorem Mk
 (B g:Nat) (frm mode unit:Int) (V:cO) (v3 v4 v5 v6 v7:Value) (w:World) (hg:w.heap[g]? =some (.cells #[.int .i64 frm,.int .i64 mode,.int .i64 unit,v3,v4,v5,v6,v7] 81 (0,0)))
 (hlen:V.cr.length<=1000/\V.se.length<=1000/\V.le.length<=1000/\V.gr.length<=1000) (h:df B w V v3 v4 v5 v6 v7)
 :Calls prog 73 #[.pointer (some ⟨g,0,none⟩),.int .i64 0] w (mR B V w v3 v4 v5 v6 v7 0):=by
 obtain⟨ql,qg,qr,H1,H2,H3,H4,H5,e1,e2,e3,hQ⟩:=h;have ho:=hQ.ord;have hc:w.cell? ⟨g,6,none⟩=some v6:=cell_of_row w g 6 _ _ _ hg
 match qg,e2,hQ with
 | [],e2,hQ=>
   obtain⟨a,cap,hv⟩:=hQ.r4.form;refine(Po g _ cap a w (hc.trans (congrArg some hv)) zJ).mono ?_;rintro e w' ⟨rfl,rfl⟩;exact⟨rfl,.refl _ _,ql,[],qr,H1,H2,H3,H4,H5,e1,by simp [bM,<-e2],e3,hQ⟩
 |(b,(f,vf),u)::r,e2,hQ=>
  obtain⟨va,vc,hvv⟩:=(hQ.r4.rep (f,vf) (by simp [grR])).form0;simp only at hvv;subst hvv;have hl:(grL ((b,(f,.slice va f.args.length vc),u)::r)).length=V.gr.length:=by rw [<-e2];simp [grL]
  obtain⟨gg,cap,rfl⟩:=hQ.r4.block zJ;obtain⟨b1,b2,b3⟩:=hQ.r4.apart;have cc:=fun j hj=>hQ.r4.cellAt rfl 0 j hj zJ;refine(Mt g gg _ cap f.op f.num f.den f.dim f.name va f.args.length vc w hc zJ ze (cc 1 ze) (cc 2 ze) (cc 3 ze) (cc 4 ze) (cc 5 ze) (cc 6 ze) _ _ _ _ _ _ (cc 7 ze) (cc 8 ze) (cc 9 ze) (cc 10 ze) (cc 11 ze) (cc 12 ze) (fun i=>hQ.r4.own.frozenAt i)).mono ?_;rintro e w' ⟨rfl,rfl⟩;have hb:B<=gg:=by omega
  refine⟨rfl,(((((((Below.refl _ _).setCell hb _).setCell hb _).setCell hb _).setCell hb _).setCell hb _).setCell hb _).drew,ql,(b,(f,.slice va f.args.length vc),(f,.slice va f.args.length vc))::r,qr,H1,H2,H3,H4,H5,e1,by simp [bM,<-e2],e3, ?_⟩;have s1:=hQ.r4.stored rfl 0 7 7 rfl ze zJ (.int .i64 f.op) (fun x hx=>.inl hx);have s2:=s1.stored rfl 0 8 8 rfl ze zJ (.int .i64 f.num) (fun x hx=>.inl hx);have s3:=s2.stored rfl 0 9 9 rfl ze zJ (.int .i64 f.den) (fun x hx=>.inl hx);have s4:=s3.stored rfl 0 10 10 rfl ze zJ (.int .i64 f.dim) (fun x hx=>.inl hx);have s5:=s4.stored rfl 0 11 11 rfl ze zJ (.string f.name) (fun x hx=>.inl hx)
  have s6:=s5.stored (rs':=grR ((b,(f,.slice va f.args.length vc),(f,.slice va f.args.length vc))::r)) rfl 0 12 12 rfl ze zJ (.slice va f.args.length vc) (fun x hx=>by
   left;simp only [grR,flatMap_cons,cons_append,nil_append,mem_cons]at hx ⊢;rcases hx with rfl|rfl|hx
   ·exact .inl rfl
   ·exact .inl rfl
   ·exact .inr (.inr hx))
  exact hQ.put4 ⟨b1,b2⟩ (((((((((Next.refl _ _).store _ _).store _ _).store _ _).store _ _).store _ _).store _ _)).drew) s6.drew
theorem F3(n:Int)(h0:0<=n)(h7:n<7)
 (B g:Nat) (frm mode unit:Int) (V:cO) (v3 v4 v5 v6 v7:Value) (w:World) (hg:w.heap[g]? =some (.cells #[.int .i64 frm,.int .i64 mode,.int .i64 unit,v3,v4,v5,v6,v7] 81 (0,0)))
 (hlen:V.cr.length<=1000/\V.se.length<=1000/\V.le.length<=1000/\V.gr.length<=1000) (h:df B w V v3 v4 v5 v6 v7)
 :Calls prog 73 #[.pointer (some ⟨g,0,none⟩),.int .i64 n] w (mR B V w v3 v4 v5 v6 v7 n):=by
 obtain rfl|rfl|rfl|rfl|rfl|rfl|rfl:n=0\/n=1\/n=2\/n=3\/n=4\/n=5\/n=6:=by omega
 ·exact Mk B g frm mode unit V v3 v4 v5 v6 v7 w hg hlen h
 ·exact Mj B g frm mode unit V v3 v4 v5 v6 v7 w hg hlen h
 ·exact Mi B g frm mode unit V v3 v4 v5 v6 v7 w hg hlen h
 ·exact Mh B g frm mode unit V v3 v4 v5 v6 v7 w hg hlen h
 ·exact Mg B g frm mode unit V v3 v4 v5 v6 v7 w hg hlen h
 ·exact Mf B g frm mode unit V v3 v4 v5 v6 v7 w hg hlen h
 ·exact Me B g frm mode unit V v3 v4 v5 v6 v7 w hg hlen h
theorem jc.mk{R:dh}{V:cO}{w w1 wz:World}{B:Nat}{v3 v4 v5 v6 v7:Value}(hT:ofP R=V)(hV:V.frm=pick R.frm 73049/\V.mode=pick R.mode 4+1/\V.unit=bv (pick R.unit 5))(hb:Below w.heap.size w wz)
 (hn:Next (w.heap.size+1) w1 wz) (hv:df B w1 V v3 v4 v5 v6 v7) (hB:w.heap.size+2<=B) :
 jc R w (.returned (.agg #[.int .i64 (pick R.frm 73049),.int .i64 (pick R.mode 4+1),.int .i64 (bv (pick R.unit 5)),v3,v4,v5,v6,v7])) wz:=by
 subst hT;obtain⟨a,b,c⟩:=hV;exact⟨v3,v4,v5,v6,v7,by rw [a,b,c],.of_below hb,(hv.same hn.size fun k hk hlt=>hn.blk k hlt ze).le ze⟩

def vC:Prop:=∀(R:dh) (cs:Array Value) (w:World),lL w cs.toList R->Calls prog 36 #[.agg cs] w (jc R w)
theorem ay.below{w w':World}{v:Value}{zs:List Int}(h:ay w v zs)(hb:Below w.heap.size w w'):ay w' v zs:=by
 obtain⟨h0,hr,a,cap,hv,h1⟩:=h;refine⟨h0,hr,a,cap,hv,h1.imp id ?_⟩;rintro⟨b,off,ha,hlt,hc⟩;have:=hb.size;exact⟨b,off,ha,by omega,fun i hi=>by rw [hb.cell (by exact hlt)];exact hc i hi⟩
theorem eY.below{w w':World}{v:Value}{zss:List (List Int)}(h:eY w v zss)(hb:Below w.heap.size w w'):eY w' v zss:=by
 obtain⟨h0,a,cap,hv,h1⟩:=h;refine⟨h0,a,cap,hv,h1.imp id ?_⟩;rintro⟨b,off,ha,hlt,hc⟩;have:=hb.size;refine⟨b,off,ha,by omega,fun i hi=>?_⟩;obtain⟨u,hu,hi⟩:=hc i hi;exact⟨u,by rw [hb.cell (by exact hlt)];exact hu,ay.below hi hb⟩
theorem lL.below{w w':World}{cs:List Value}{R:dh}(h:lL w cs R)(hb:Below w.heap.size w w'):lL w' cs R:=by
 obtain⟨a,b,c,d,vc,vs,vl,vi,vp,vu,he,h1,h2,h3,h4,h5,h6⟩:=h;exact⟨a,b,c,d,vc,vs,vl,vi,vp,vu,he,ay.below h1 hb,ay.below h2 hb,eY.below h3 hb,eY.below h4 hb,eY.below h5 hb,eY.below h6 hb⟩
def ik:List (ByteArray × Ex)->List (ByteArray × Int)->List (ByteArray × Int) × Int
 | [],env=>(env,0)
 |t::r,env=>
  if bV t.1.toList≠0\/fe t.1=false then([],5)
  else if env.any (fun p=>decide (p.1=t.1))=true then([],10)
  else if(aT env t.2).2≠0 then([],(aT env t.2).2)else ik r (env++[(t.1,(aT env t.2).1)])
def dK(l:List (ByteArray × Ex)):List (ByteArray × Int) × Int:=if 10<l.length then([],7)else ik l []
def eu(env:List (ByteArray × Int))(e:Ex)(want:Int):Int:=if(aT env e).2=0/\(aT env e).1≠want then 6 else(aT env e).2
def ky:List Int->List Int->Bool
 |_,[]=>false
 |pre,x::r=>pre.contains x || ky (pre++[x]) r
def si:List Int->Bool
 | []=>true
 |x::r=>(match r with| []=>true|y::_=>decide (x<y))&&si r
def grG(env:List (ByteArray × Int)):List Int->List (Int × Ex × Ex)->Int
 |_,[]=>0
 |pre,g::r=>if pre.contains g.1=true then 10 else if eu env g.2.1 1≠0 then eu env g.2.1 1 else if eu env g.2.2 4≠0 then eu env g.2.2 4 else grG env (pre++[g.1]) r
def reG(env:List (ByteArray × Int)):List Int->List (Int × Ex)->Int
 |_,[]=>0
 |pre,g::r=>if pre.contains g.1=true then 10 else if eu env g.2 2≠0 then eu env g.2 2 else reG env (pre++[g.1]) r
def aX(V:cO):Int:=
 if(dK V.le).2≠0 then(dK V.le).2
 else if ky [] (V.cr.map Prod.fst)=true then 10
 else if si (V.se.map Prod.fst)=false then 1
 else if grG (dK V.le).1 [] V.gr≠0 then grG (dK V.le).1 [] V.gr
 else reG (dK V.le).1 [] V.re
theorem jM{α:Type}[Inhabited α]{l:List α}{k:Nat}(hk:k<l.length):l.drop k=l.getD k default::l.drop (k+1):=by
 exact Pt
theorem tK{α:Type}[Inhabited α]{l:List α}{k:Nat}(hk:k<l.length):l.take (k+1)=l.take k++[l.getD k default]:=by
 exact Pv
theorem tJ{l:List Int}{k:Nat}{x:Int}(hk:k<=l.length):(l.take k).contains x=(List.range k).any fun j=>decide (l.getD j 0=x):=by
 rw [Bool.eq_iff_iff,contains_iff_mem,any_eq_true];constructor
 ·intro h;obtain⟨j,hj,rfl⟩:=mem_take_iff_getElem.1 h;have:j<l.length:=by omega
  exact⟨j,mem_range.2 ze,by simp [getD_eq_getElem?_getD,getElem?_eq_getElem this]⟩
 ·rintro⟨j,hj,he⟩;have hj:=mem_range.1 hj;have:j<l.length:=by omega
  refine mem_take_iff_getElem.2 ⟨j,by omega, ?_⟩;simpa [getD_eq_getElem?_getD,getElem?_eq_getElem this]using he
theorem Et{l:List Int}{k:Nat}(hk:k<l.length):ky (l.take k) (l.drop k)=((l.take k).contains (l.getD k 0) || ky (l.take (k+1)) (l.drop (k+1))):=by
 rw [jM hk,tK hk,ky];rfl
theorem FB{l:List Int}:ky (l.take l.length) (l.drop l.length)=false:=by rw [drop_length,ky]
theorem sO:∀l:List Int,si l=true↔∀j,j+1<l.length->l.getD j 0<l.getD (j+1) 0
 | []=>by simp [si]
 | [x]=>by simp [si]
 |x::y::r=>by
  rw [si,Bool.and_eq_true,sO (y::r)];constructor
  ·rintro⟨h1,h2⟩ j hj
   cases j with
   |zero=>simpa using h1
   |succ j=>simpa using h2 j (by simpa using hj)
  ·intro h;exact⟨by simpa using h 0 zg,fun j hj=>by simpa using h (j+1) (by simpa using hj)⟩
theorem Lr{l:List Int}{j:Nat}(h:j+1<l.length)(hle:l.getD (j+1) 0<=l.getD j 0):si l=false:=by
 rw [Bool.eq_false_iff];intro hc;have:=(sO l).1 hc j h;omega
def ja(env:List (ByteArray × Int))(pre:List Int)(g:Int × Ex × Ex):Int:=if pre.contains g.1=true then 10 else if eu env g.2.1 1≠0 then eu env g.2.1 1 else eu env g.2.2 4
theorem Qi{env:List (ByteArray × Int)}{l:List (Int × Ex × Ex)}{k:Nat}(hk:k<l.length)(h:ja env ((l.take k).map Prod.fst) (l.getD k default)≠0):grG env ((l.take k).map Prod.fst) (l.drop k)=ja env ((l.take k).map Prod.fst) (l.getD k default):=by
 rw [jM hk,grG];unfold ja at h ⊢
 split
 ·rfl
 ·rename_i h1
  rw [if_neg h1]at h
  split
  ·rfl
  ·rename_i h2
   rw [if_neg h2]at h;rw [if_pos h]
theorem NR{env:List (ByteArray × Int)}{l:List (Int × Ex × Ex)}{k:Nat}(hk:k<l.length)(h:ja env ((l.take k).map Prod.fst) (l.getD k default)=0):grG env ((l.take k).map Prod.fst) (l.drop k)=grG env ((l.take (k+1)).map Prod.fst) (l.drop (k+1)):=by
 rw [jM hk,grG,tK hk,map_append];unfold ja at h
 split at h
 ·cases h
 ·rename_i h1
  rw [if_neg h1]
  split at h
  ·rename_i h2;exact absurd h h2
  ·rename_i h2
   rw [if_neg h2,if_neg zI];rfl
def iY(env:List (ByteArray × Int))(pre:List Int)(g:Int × Ex):Int:=if pre.contains g.1=true then 10 else eu env g.2 2
theorem PY{env:List (ByteArray × Int)}{l:List (Int × Ex)}{k:Nat}(hk:k<l.length)(h:iY env ((l.take k).map Prod.fst) (l.getD k default)≠0):reG env ((l.take k).map Prod.fst) (l.drop k)=iY env ((l.take k).map Prod.fst) (l.getD k default):=by
 rw [jM hk,reG];unfold iY at h ⊢
 split
 ·rfl
 ·rename_i h1
  rw [if_neg h1]at h;rw [if_pos h]
theorem Nr{env:List (ByteArray × Int)}{l:List (Int × Ex)}{k:Nat}(hk:k<l.length)(h:iY env ((l.take k).map Prod.fst) (l.getD k default)=0):reG env ((l.take k).map Prod.fst) (l.drop k)=reG env ((l.take (k+1)).map Prod.fst) (l.drop (k+1)):=by
 rw [jM hk,reG,tK hk,map_append];unfold iY at h
 split at h
 ·cases h
 ·rename_i h1
  rw [if_neg h1,if_neg zI];rfl
theorem Js{V:cO}(h:(dK V.le).2≠0):aX V=(dK V.le).2:=by unfold aX;rw [if_pos h]
theorem Jr{V:cO}(h:(dK V.le).2=0)(h1:ky [] (V.cr.map Prod.fst)=true):aX V=10:=by unfold aX;rw [if_neg zI,if_pos h1]
theorem Jq{V:cO}(h:(dK V.le).2=0)(h1:ky [] (V.cr.map Prod.fst)=false)(h2:si (V.se.map Prod.fst)=false):aX V=1:=by unfold aX;rw [if_neg zI,if_neg (by simp [h1]),if_pos h2]
theorem Jp{V:cO}(h:(dK V.le).2=0)(h1:ky [] (V.cr.map Prod.fst)=false)(h2:si (V.se.map Prod.fst)=true)(h3:grG (dK V.le).1 [] V.gr≠0):aX V=grG (dK V.le).1 [] V.gr:=by
 unfold aX;rw [if_neg zI,if_neg (by simp [h1]),if_neg (by simp [h2]),if_pos h3]
theorem Jo{V:cO}(h:(dK V.le).2=0)(h1:ky [] (V.cr.map Prod.fst)=false)(h2:si (V.se.map Prod.fst)=true)(h3:grG (dK V.le).1 [] V.gr=0):aX V=reG (dK V.le).1 [] V.re:=by
 unfold aX;rw [if_neg zI,if_neg (by simp [h1]),if_neg (by simp [h2]),if_neg (by simpa using h3)]
structure kF(ls:List (ByteArray × Ex))(k:Nat)(env:List (ByteArray × Int)):Prop where
 all:ik ls []=ik (ls.drop k) env
 len:env.length=k
 nm:env.map Prod.fst=(ls.take k).map Prod.fst
theorem kF.zero(ls:List (ByteArray × Ex)):kF ls 0 []:=⟨rfl,rfl,by simp⟩
def fZ(env:List (ByteArray × Int))(t:ByteArray × Ex):Int:=
 if bV t.1.toList≠0\/fe t.1=false then 5 else if env.any (fun p=>decide (p.1=t.1))=true then 10 else(aT env t.2).2
theorem kF.drop{ls:List (ByteArray × Ex)}{k:Nat}(hk:k<ls.length):ls.drop k=ls.getD k default::ls.drop (k+1):=by
 exact Pt
theorem kF.bad{ls:List (ByteArray × Ex)}{k:Nat}{env:List (ByteArray × Int)}(h:kF ls k env)(hk:k<ls.length)(hb:fZ env (ls.getD k default)≠0):ik ls []=([],fZ env (ls.getD k default)):=by
 rw [h.all,kF.drop hk,ik];unfold fZ at hb ⊢
 split
 ·rfl
 ·rename_i h1
  rw [if_neg h1]at hb
  split
  ·rfl
  ·rename_i h2
   rw [if_neg h2]at hb;rw [if_pos hb]
theorem kF.next{ls:List (ByteArray × Ex)}{k:Nat}{env:List (ByteArray × Int)}(h:kF ls k env)(hk:k<ls.length)(hb:fZ env (ls.getD k default)=0):kF ls (k+1) (env++[((ls.getD k default).1,(aT env (ls.getD k default).2).1)]):=by
 refine⟨?_,by rw [length_append,h.len];rfl, ?_⟩
 ·rw [h.all,kF.drop hk,ik];unfold fZ at hb
  split at hb
  ·cases hb
  ·rename_i h1
   rw [if_neg h1]
   split at hb
   ·cases hb
   ·rename_i h2
    rw [if_neg h2,if_neg (by simpa using hb)]
 ·rw [map_append,h.nm,take_succ_eq_append_getElem hk,map_append];simp [getD_eq_getElem?_getD,getElem?_eq_getElem hk]
theorem kF.done{ls:List (ByteArray × Ex)}{env:List (ByteArray × Int)}(h:kF ls ls.length env):ik ls []=(env,0):=by
 rw [h.all,drop_length,ik]
theorem kF.dup{ls:List (ByteArray × Ex)}{k:Nat}{env:List (ByteArray × Int)}(h:kF ls k env)(hk:k<=ls.length)(s:ByteArray):env.any (fun p=>decide (p.1=s))=(List.range k).any fun j=>decide ((ls.getD j default).1=s):=by
 have h1:env.any (fun p=>decide (p.1=s))=(env.map Prod.fst).any fun x=>decide (x=s):=by rw [any_map];rfl
 rw [h1,h.nm,any_map,Bool.eq_iff_iff,any_eq_true,any_eq_true];constructor
 ·rintro⟨t,ht,hs⟩;obtain⟨j,hj,rfl⟩:=mem_take_iff_getElem.1 ht;have:j<ls.length:=by omega
  exact⟨j,mem_range.2 ze,by simpa [getD_eq_getElem?_getD,getElem?_eq_getElem this]using hs⟩
 ·rintro⟨j,hj,hs⟩;have hj:=mem_range.1 hj;have:j<ls.length:=by omega
  exact⟨ls[j],mem_take_iff_getElem.2 ⟨j,by omega,rfl⟩,by simpa [getD_eq_getElem?_getD,getElem?_eq_getElem this]using hs⟩
theorem qz{ls:List (ByteArray × Ex)}(h:ls.length<=10):dK ls=ik ls []:=by unfold dK;rw [if_neg ze]
mutual
theorem uK{a b:List (ByteArray × Int)}:∀e:Ex,(∀s,bT s e=true->eH b s=eH a s)->aD b e=aD a e
 | .mk op n d m s l,h=>by
   rw [aD,aD,rF l (fun x hx=>h x (by rw [bT,hx,Bool.or_true]))];by_cases h2:op=2
   ·subst h2;rw [h s (by simp [bT])]
   ·exact yQ h2
theorem rF{a b:List (ByteArray × Int)}:∀l:List Ex,(∀s,dS s l=true->eH b s=eH a s)->bf b l=bf a l
 | [],_=>by rw [bf,bf]
 |e::r,h=>by rw [bf,bf,uK e (fun x hx=>h x (by rw [dS,hx,Bool.true_or])),rF r (fun x hx=>h x (by rw [dS,hx,Bool.or_true]))]
end
theorem BV{op n d m:Int}{s:ByteArray}{l:List Ex}(h:aN (.mk op n d m s l)=true)(ho:op=1\/op=2\/op=3):l= []:=by
 rw [eX,Bool.and_eq_true]at h;have h1:(l.length:Int)=bi op:=of_decide_eq_true h.1;have h0:bi op=0:=by unfold bi;rw [if_pos ze]
 exact eq_nil_of_length_eq_zero ze
theorem Ee{op n d m:Int}{s:ByteArray}{l:List Ex}(h:aN (.mk op n d m s l)=true)(h1:op≠1)(h2:op≠2)(h3:op≠3):aZ l=true:=by
 rw [eX,Bool.and_eq_true]at h;have:=h.2;rw [if_neg (by exact h1),if_neg (by exact h2),if_neg (by exact h3),Bool.and_eq_true]at this;exact this.1
mutual
theorem rG{a:List (ByteArray × Int)}{s:ByteArray}:∀e:Ex,aN e=true->(aD a e).2=0->bT s e=true->(eH a s).2=0
 | .mk op n d m nm l,hf,hi,hm=>by
   by_cases ho:op=1\/op=2\/op=3
   ·have hl:=BV hf ho;subst hl;rw [bT,dS,Bool.or_false,Bool.and_eq_true]at hm;have h2:op=2:=of_decide_eq_true hm.1;have hs:nm=s:=of_decide_eq_true hm.2;subst h2 hs;rw [aD]at hi;exact hi
   ·have h1:op≠1:=fun h=>ho (.inl h);have h2:op≠2:=fun h=>ho (.inr (.inl h));have h3:op≠3:=fun h=>ho (.inr (.inr h));rw [bT,decide_eq_false h2,Bool.false_and,Bool.false_or]at hm;refine pF l (Ee hf h1 h2 h3) ?_ hm;rw [aD]at hi;unfold fA at hi;rw [if_neg h1,if_neg h3,if_neg h2]at hi;by_cases hr:(bf a l).2=0
    ·exact hr
    ·rw [if_pos hr]at hi;exact hi
theorem pF{a:List (ByteArray × Int)}{s:ByteArray}:∀l:List Ex,aZ l=true->(bf a l).2=0->dS s l=true->(eH a s).2=0
 | [],_,_,hm=>by rw [dS]at hm;cases hm
 |e::r,hf,hi,hm=>by
  rw [aZ,Bool.and_eq_true]at hf;rw [bf]at hi
  have h1:(aD a e).2=0:=by
   by_cases h:(aD a e).2=0
   ·exact h
   ·rw [if_pos h]at hi;exact hi
  have h2:(bf a r).2=0:=by
   rw [if_neg (by simpa using h1)]at hi;by_cases h:(bf a r).2=0
   ·exact h
   ·rw [if_pos h]at hi;exact hi
  rw [dS,Bool.or_eq_true]at hm;rcases hm with hm|hm
  ·exact rG e hf.1 h1 hm
  ·exact pF r hf.2 h2 hm
end
theorem lh{α:Type}(l:List (ByteArray × α))(p:ByteArray × α)(s:ByteArray):dP (l++[p]) s=if p.1=s then some p.2 else dP l s:=by
 unfold dP;rw [reverse_append,reverse_singleton,singleton_append,find?_cons];by_cases h:p.1=s
 ·rw [if_pos h,decide_eq_true h];rfl
 ·rw [if_neg h,decide_eq_false h]
structure iB(ls:List (ByteArray × Ex))(k:Nat)(env:List (ByteArray × Int)):Prop where
 len:env.length=k
 nm:∀i,i<k->(env.getD i default).1=(ls.getD i default).1
 ty:∀i,i<k->aT (env.take i) (ls.getD i default).2=((env.getD i default).2,0)
 word:∀i,i<k->bV (ls.getD i default).1.toList=0/\fe (ls.getD i default).1=true
 inj:∀i j,i<j->j<k->(ls.getD i default).1≠(ls.getD j default).1
theorem iB.zero(ls:List (ByteArray × Ex)):iB ls 0 []:=⟨rfl,fun i h=>by omega,fun i h=>by omega,fun i h=>by omega,fun i j _ h=>by omega⟩
theorem qG{α:Type}[Inhabited α]{l:List α}{x:α}{i:Nat}:(l++[x]).getD i default=if i<l.length then l.getD i default else if i=l.length then x else default:=by
 simp only [getD_eq_getElem?_getD];by_cases h:i<l.length
 ·rw [if_pos h,getElem?_append_left h]
 ·rw [if_neg h,getElem?_append_right ze];by_cases h2:i=l.length
  ·subst h2;simp
  ·rw [if_neg h2,getElem?_eq_none zp];rfl
theorem iB.next{ls:List (ByteArray × Ex)}{k:Nat}{env:List (ByteArray × Int)}(h:iB ls k env)(ha:kF ls k env)(hk:k<ls.length)(hb:fZ env (ls.getD k default)=0) :
 iB ls (k+1) (env++[((ls.getD k default).1,(aT env (ls.getD k default).2).1)]):=by
 have hl:=h.len;unfold fZ at hb
 split at hb
 ·cases hb
 rename_i h1
 split at hb
 ·cases hb
 rename_i h2
 have hdup:=ha.dup ze (ls.getD k default).1
 have hd:∀j,j<k->(ls.getD j default).1≠(ls.getD k default).1:=fun j hj he=>by
  rw [hdup]at h2;exact h2 (any_eq_true.2 ⟨j,mem_range.2 hj,decide_eq_true he⟩)
 refine⟨by rw [length_append,hl];rfl,fun i hi=>?_,fun i hi=>?_,fun i hi=>?_,fun i j hij hj=>?_⟩
 ·rw [qG];by_cases hik:i<k
  ·rw [if_pos ze];exact h.nm i hik
  ·rw [if_neg ze,if_pos ze];show(ls.getD k default).1=_;rw [show i=k by omega]
 ·by_cases hik:i<k
  ·rw [take_append_of_le_length ze,qG,if_pos ze];exact h.ty i hik
  ·obtain rfl:i=k:=by omega
   rw [take_append_of_le_length ze,take_of_length_le ze,qG,if_neg ze,if_pos hl.symm];exact Prod.ext rfl hb
 ·by_cases hik:i<k
  ·exact h.word i hik
  ·obtain rfl:i=k:=by omega
   exact⟨Decidable.byContradiction fun c=>h1 (.inl c),by
    cases hn:fe (ls.getD i default).1
    ·exact absurd (.inr hn) h1
    ·rfl⟩
 ·by_cases hjk:j<k
  ·exact h.inj i j hij hjk
  ·obtain rfl:j=k:=by omega
   exact hd i hij
theorem iB.of_lets{ls:List (ByteArray × Ex)}{env:List (ByteArray × Int)}(h:ik ls []=(env,0)):iB ls ls.length env:=by
 have key:∀k,k<=ls.length->∃e,kF ls k e/\iB ls k e:=by
  intro k
  induction k with
  |zero=>intro _;exact⟨[],kF.zero ls,iB.zero ls⟩
  |succ k ih=>
   intro hk;obtain⟨e,h1,h2⟩:=ih ze
   have hz:fZ e (ls.getD k default)=0:=Decidable.byContradiction fun c=>by
    have hb:=h1.bad ze c;rw [h]at hb;exact c (Prod.mk.inj hb).2.symm
   exact⟨_,h1.next ze hz,h2.next h1 ze hz⟩
 obtain⟨e,h1,h2⟩:=key ls.length (Nat.le_refl _);have hd:=h1.done;rw [h]at hd;rw [(Prod.mk.inj hd).1];exact h2
theorem iB.last{ls:List (ByteArray × Ex)}{k:Nat}{env:List (ByteArray × Int)}(h:iB ls k env){j:Nat}:∀i,j<i->i<=k->dP (env.take i) (ls.getD j default).1=some (env.getD j default).2
 |0,hj,_=>by omega
 |i+1,hj,hi=>by
  have hl:=h.len;rw [take_succ_eq_append_getElem ze,lh];have hg:env[i]' ze=env.getD i default:=by rw [getD_eq_getElem?_getD,getElem?_eq_getElem ze];rfl
  rw [hg,h.nm i ze];by_cases hji:j=i
  ·subst hji;rw [if_pos rfl]
  ·rw [if_neg (fun e=>h.inj j i ze ze e.symm)];exact h.last i ze ze
theorem iB.none{ls:List (ByteArray × Ex)}{k:Nat}{env:List (ByteArray × Int)}(h:iB ls k env){s:ByteArray}:∀i,i<=k->(∀j,j<i->(ls.getD j default).1≠s)->dP (env.take i) s=none
 |0,_,_=>by simp [dP]
 |i+1,hi,hs=>by
  have hl:=h.len;rw [take_succ_eq_append_getElem ze,lh];have hg:env[i]' ze=env.getD i default:=by rw [getD_eq_getElem?_getD,getElem?_eq_getElem ze];rfl
  rw [hg,h.nm i ze,if_neg (hs i ze)];exact h.none i ze fun j hj=>hs j ze
theorem iB.named{ls:List (ByteArray × Ex)}{k:Nat}{env:List (ByteArray × Int)}(h:iB ls k env){s:ByteArray}{i:Nat}(hi:i<=k)(ht:(eH (env.take i) s).2=0):bV s.toList≠0\/∃j,j<i/\(ls.getD j default).1=s:=by
 by_cases hs:bV s.toList=0
 ·refine .inr (Decidable.byContradiction fun c=>?_);have:=h.none (s:=s) i hi fun j hj e=>c ⟨j,hj,e⟩;unfold eH at ht;rw [if_neg (by simpa using hs),this]at ht;cases ht
 ·exact .inl hs
structure jX(ls:List (ByteArray × Ex))(env:List (ByteArray × Int))(D:List Nat)(st:List (ByteArray × Val)):Prop where
 ok:∀p∈st,p.2.ok=true
 dom:∀j∈D,j<ls.length
 look:∀j∈D,dP (aR st) (ls.getD j default).1=some (env.getD j default).2
 sub:∀j,j<ls.length->(st.any fun p=>decide (p.1=(ls.getD j default).1))=D.contains j
theorem jX.zero(ls:List (ByteArray × Ex))(env:List (ByteArray × Int)):jX ls env [] []:=⟨fun _ h=>(by cases h),fun _ h=>(by cases h),fun _ h=>(by cases h),fun _ _=>rfl⟩
theorem xC(st:List (ByteArray × Val))(p:ByteArray × Val):aR (st++[p])=aR st++[(p.1,p.2.dim)]:=by simp [aR]
theorem jX.push{ls:List (ByteArray × Ex)}{env:List (ByteArray × Int)}{D:List Nat}{st:List (ByteArray × Val)}(h:jX ls env D st)(hl:iB ls ls.length env){i:Nat}(hi:i<ls.length)(hD:D.contains i=false){x:Val}(hx:x.ok=true)(hd:x.dim=(env.getD i default).2) :
 jX ls env (D++[i]) (st++[((ls.getD i default).1,x)]):=by
 have ne:∀j,j<ls.length->j≠i->(ls.getD i default).1≠(ls.getD j default).1:=fun j hj hji=>by
  rcases Nat.lt_or_gt_of_ne hji with h1|h1
  ·exact fun e=>hl.inj j i h1 hi e.symm
  ·exact hl.inj i j h1 hj
 refine⟨fun p hp=>?_,fun j hj=>?_,fun j hj=>?_,fun j hj=>?_⟩
 ·rcases mem_append.1 hp with hp|hp
  ·exact h.ok p hp
  ·obtain rfl:p=_:=by simpa using hp
   exact hx
 ·rcases mem_append.1 hj with hj|hj
  ·exact h.dom j hj
  ·obtain rfl:j=i:=by simpa using hj
   exact hi
 ·rw [xC,lh];rcases mem_append.1 hj with hj|hj
  ·have hji:j≠i:=fun e=>by
    have hc:D.contains j=true:=contains_iff_mem.2 hj;rw [e,hD]at hc;cases hc
   rw [if_neg (ne j (h.dom j hj) hji)];exact h.look j hj
  ·obtain rfl:j=i:=by simpa using hj
   rw [if_pos rfl,hd]
 ·rw [any_append,h.sub j hj];by_cases hji:j=i
  ·subst hji;simp
  ·have:decide ((ls.getD i default).1=(ls.getD j default).1)=false:=decide_eq_false (ne j hj hji);rw [any_cons,any_nil,this,Bool.or_false,Bool.or_false,Bool.eq_iff_iff,contains_iff_mem,contains_iff_mem,mem_append];simp [hji]
theorem jX.other{ls:List (ByteArray × Ex)}{env:List (ByteArray × Int)}{D:List Nat}{st:List (ByteArray × Val)}(h:jX ls env D st)(hl:iB ls ls.length env){s:ByteArray}(hs:fe s=false){x:Val}(hx:x.ok=true):jX ls env D (st++[(s,x)]):=by
 have ne:∀j,j<ls.length->s≠(ls.getD j default).1:=fun j hj e=>by
  have:=(hl.word j hj).2;rw [<-e,hs]at this;cases this
 refine⟨fun p hp=>?_,h.dom,fun j hj=>?_,fun j hj=>?_⟩
 ·rcases mem_append.1 hp with hp|hp
  ·exact h.ok p hp
  ·obtain rfl:p=_:=by simpa using hp
   exact hx
 ·rw [xC,lh,if_neg (ne j (h.dom j hj))];exact h.look j hj
 ·rw [any_append,h.sub j hj];have:decide (s=(ls.getD j default).1)=false:=decide_eq_false (ne j hj);rw [any_cons,any_nil,this,Bool.or_false,Bool.or_false]
theorem jX.typed{ls:List (ByteArray × Ex)}{env:List (ByteArray × Int)}{D:List Nat}{st:List (ByteArray × Val)}(h:jX ls env D st)(hl:iB ls ls.length env){i:Nat}(hi:i<=ls.length){e:Ex}(hf:aN e=true)(ht:(aD (env.take i) e).2=0)
 (hD:∀j,j<i->bT (ls.getD j default).1 e=true->j∈D):aD (aR st) e=aD (env.take i) e:=by
 refine uK e fun s hs=>?_;rcases hl.named hi (rG e hf ht hs)with h0|⟨j,hj,rfl⟩
 ·unfold eH;rw [if_pos h0,if_pos h0]
 ·unfold eH;rw [if_neg (by have:=(hl.word j ze).1;simpa using this),if_neg (by have:=(hl.word j ze).1;simpa using this),h.look j (hD j hj hs),hl.last i hj hi]
theorem LB(R:dh)(w:World)(h1:I64 R.frm)(h2:I64 R.mode)(h3:I64 R.unit)(h4:I64 R.twist)(ca:Option Addr)(sa:Option Addr)(la:Option Addr)(ia:Option Addr)(pa:Option Addr)(ua:Option Addr)(ccap:Nat)(scap:Nat)(lcap:Nat)(icap:Nat)(pcap:Nat)(ucap:Nat)(hcl:R.credits.length<=140737488355328)(hsl:R.series.length<=140737488355328)(hll:R.lets.length<=140737488355328)(hil:R.ifs.length<=140737488355328)(hpl:R.pays.length<=140737488355328)(hul:R.cuts.length<=140737488355328)(HCC:Hid (R.credits.length=0\/∃b off,ca=some ⟨b,off,none⟩/\b<w.heap.size/\∀(i:Nat),i<R.credits.length->w.cell? ⟨b,off+i,none⟩=some (.int .i64 (R.credits.getD i 0))))(HSC:Hid (R.series.length=0\/∃b off,sa=some ⟨b,off,none⟩/\b<w.heap.size/\∀(i:Nat),i<R.series.length->w.cell? ⟨b,off+i,none⟩=some (.int .i64 (R.series.getD i 0))))(HLC:Hid (R.lets.length=0\/∃b off,la=some ⟨b,off,none⟩/\b<w.heap.size/\∀(i:Nat),i<R.lets.length->∃u,w.cell? ⟨b,off+i,none⟩=some u/\ay w u (R.lets.getD i [])))(HIC:Hid (R.ifs.length=0\/∃b off,ia=some ⟨b,off,none⟩/\b<w.heap.size/\∀(i:Nat),i<R.ifs.length->∃u,w.cell? ⟨b,off+i,none⟩=some u/\ay w u (R.ifs.getD i [])))(HPC:Hid (R.pays.length=0\/∃b off,pa=some ⟨b,off,none⟩/\b<w.heap.size/\∀(i:Nat),i<R.pays.length->∃u,w.cell? ⟨b,off+i,none⟩=some u/\ay w u (R.pays.getD i [])))(HUC:Hid (R.cuts.length=0\/∃b off,ua=some ⟨b,off,none⟩/\b<w.heap.size/\∀(i:Nat),i<R.cuts.length->∃u,w.cell? ⟨b,off+i,none⟩=some u/\ay w u (R.cuts.getD i [])))(g:Nat)(wk:Nat)(wc:World)(vcr:Value)(H1:Nat)(hgH1:g<H1)(vse:Value)(H2:Nat)(hgH2:g<H2)(hH12:H1<=H2)(vle:Value)(H3:Nat)(ql:List (ByteArray × (Ex × Value)))(hgH3:g<H3)(hH23:H2<=H3)(eva:Option Addr)(evc:Nat)(vgr:Value)(H4:Nat)(qg:List GrT)(hgH4:g<H4)(hH34:H3<=H4)(vre:Value)(H5:Nat)(qr:List (Int × (Ex × Value)))(hcut:dZ w (fu R (.slice ca R.credits.length ccap) (.slice sa R.series.length scap) (.slice la R.lets.length lcap) (.slice ia R.ifs.length icap) (.slice pa R.pays.length pcap) (.slice ua R.cuts.length ucap)) g #[.int .i64 (pick R.frm 73049),.int .i64 (pick R.mode 4+1),.int .i64 (bv (pick R.unit 5)),vcr,vse,vle,vgr,vre] wc/\bH 129 2 H1 (· <H2) wc vcr (bJ R (ig R)) []/\bH 131 3 H2 (· <H3) wc vse (bX R (l9 R)) []/\bH 84 7 H3 (· <H4) wc vle (fU ql) (ql.map (·.2))/\bH 97 13 H4 (· <H5) wc vgr (grL qg) (grR qg)/\(g<H5/\H4<=H5/\H5<=wc.heap.size)/\bZ 134 7 H5 wc vre (reL qr) (qr.map (·.2))/\ReQ R (A7 R) qr)(HQL:Hid (qX R (fQ R) ql))(HQG:Hid (GrQ R (vN R) qg))(u5 u6 u7 u8 u9 u11 u12 u13 u14 u15 u16 u17 u18 u19 u20 u21 u22 u23 u24 u25 u26 u27 u28 u29 u30 u31 u32 u33 u34 u35 u36 u37 u38 u39 u40 u41 u42 u43 u44 u45 u46 u47 u48 u49 u50 u51 u52 u53 u54 u55 u56 u57 u58 u59 u60 u61 u62 u63 u64 u65 u66 u67 u68 u69 u70 u71 u72 u73 u74 u75 u76 u77 u78 u79 u80 u81 u82 u83 u84 u85 u86 u87 u88 u89 u90 u91 u92 u93 u94 u95 u96 u97 u98 u99 u100 u101 u102 u103 u104 u105 u106 u107 u108 u109 u110 u111 u112 u113 u114 u115 u116 u117 u118 u119 u120 u121 u122 u123 u124 u125 u126 u127 u128 u129 u130 u131 u132 u133 u134 u135 u136 u137 u138 u139 u140 u141 u142 u143 u144 u145 u146 u147 u148 u149 u150 u151 u152 u153 u154 u155 u156 u157 u158 u159 u160 u161 u162 u163 u164 u165 u166 u167 u168 u169 u170 u171 u172 u173 u174 u175 u176 u177 u178 u179 u180 u181 u182 u183 u184 u185 u186 u187 u188 u189 u190 u191 u192 u193 u194 u195 u196 u197 u198 u199 u200 u201 u202 u203 u204 u205 u206 u207 u208 u209 u210 u211 u212 u213 u214 u215 u216 u217 u218 u219 u220 u221 u222 u223 u224 u225 u226 u227 u228 u229 u230 u231 u232 u233 u234 u235 u236 u237 u238 u239:Value) :
 Code.wp prog (tlC (tlC (tlC (tlC (tlC (tlC (tlC (tlC (tlC (f36.body.getD .skip)))))))))) (bodyPost prog f36 (jc R w)) {tmps:=#[(.agg (fu R (.slice ca R.credits.length ccap) (.slice sa R.series.length scap) (.slice la R.lets.length lcap) (.slice ia R.ifs.length icap) (.slice pa R.pays.length pcap) (.slice ua R.cuts.length ucap))),.pointer (some ⟨w.heap.size,0,none⟩),.pointer (some ⟨w.heap.size+1,0,none⟩),.pointer (some ⟨g,0,none⟩),.slice (some ⟨wk,0,none⟩) 6 6,u5,u6,u7,u8,u9,.slice eva (jL (fF R (fQ R))).length evc,u11,u12,u13,u14,u15,u16,u17,u18,u19,u20,u21,u22,u23,u24,u25,u26,u27,u28,u29,u30,u31,u32,u33,u34,u35,u36,u37,u38,u39,u40,u41,u42,u43,u44,u45,u46,u47,u48,u49,u50,u51,u52,u53,u54,u55,u56,u57,u58,u59,u60,u61,u62,u63,u64,u65,u66,u67,u68,u69,u70,u71,u72,u73,u74,u75,u76,u77,u78,u79,u80,u81,u82,u83,u84,u85,u86,u87,u88,u89,u90,u91,u92,u93,u94,u95,u96,u97,u98,u99,u100,u101,u102,u103,u104,u105,u106,u107,u108,u109,u110,u111,u112,u113,u114,u115,u116,u117,u118,u119,u120,u121,u122,u123,u124,u125,u126,u127,u128,u129,u130,u131,u132,u133,u134,u135,u136,u137,u138,u139,u140,u141,u142,u143,u144,u145,u146,u147,u148,u149,u150,u151,u152,u153,u154,u155,u156,u157,u158,u159,u160,u161,u162,u163,u164,u165,u166,u167,u168,u169,u170,u171,u172,u173,u174,u175,u176,u177,u178,u179,u180,u181,u182,u183,u184,u185,u186,u187,u188,u189,u190,u191,u192,u193,u194,u195,u196,u197,u198,u199,u200,u201,u202,u203,u204,u205,u206,u207,u208,u209,u210,u211,u212,u213,u214,u215,u216,u217,u218,u219,u220,u221,u222,u223,u224,u225,u226,u227,u228,u229,u230,u231,u232,u233,u234,u235,u236,u237,u238,u239],defers:=[]} wc:=by
 conv=>arg 2;whnf
 unfold fu;clear h1 h2 h3 hcl hsl hll hil hpl hul HCC HSC HLC HIC HPC HUC;obtain⟨hof,hrow1,hrow2,hrow3,hrow4,⟨hgH5,hH45,hH5⟩,hrow5,hqr⟩:=hcut;obtain⟨ca3,cc3,rfl⟩:=hrow1.form;obtain⟨ca4,cc4,rfl⟩:=hrow2.form;obtain⟨ca5,cc5,rfl⟩:=hrow3.form;obtain⟨ca6,cc6,rfl⟩:=hrow4.form;obtain⟨ca7,cc7,rfl⟩:=hrow5.form;generalize hn3:(bJ R (ig R)).length=n3 at *;generalize hn4:(bX R (l9 R)).length=n4 at *;generalize hn5:(fU ql).length=n5 at *;generalize hn6:(grL qg).length=n6 at *;generalize hn7:(reL qr).length=n7 at *
 have HV:Hid (df H1 wc (fC R) (.slice ca3 n3 cc3) (.slice ca4 n4 cc4) (.slice ca5 n5 cc5) (.slice ca6 n6 cc6) (.slice ca7 n7 cc7)):=
  zh ⟨ql,qg,qr,H1,H2,H3,H4,H5,HQL.out,HQG.out,hqr,⟨⟨by omega,by omega,by omega,by omega,by omega⟩,by rw [K9];exact hrow1,by rw [JP];exact hrow2,hrow3,hrow4,hrow5⟩⟩
 clear hrow1 hrow2 hrow3 hrow4 hrow5 hqr hn3 hn4 hn5 hn6 hn7 HQL HQG;have HOFR:=zh hof;have hge:=hof.gge;have hl2:=hof.lt;have hbx:wc.cell? ⟨w.heap.size,9,none⟩=some (.int .i64 R.twist):=cell_of_row _ _ _ _ _ _ hof.box;clear hof;by_cases ht0:R.twist=0
 ·have hb0:(R.twist !=0)=false:=by simp [ht0]
  have HT:=zh (Rh ht0);clear ht0;have H1C:Hid ((#[.int .i64 (pick R.frm 73049),.int .i64 (pick R.mode 4+1),.int .i64 (bv (pick R.unit 5)),.slice ca3 n3 cc3,.slice ca4 n4 cc4,.slice ca5 n5 cc5,.slice ca6 n6 cc6,.slice ca7 n7 cc7]:Array Value).all (·.oneCell')=true):=zh (all_oneCell_toArray (cs:=[.int .i64 (pick R.frm 73049),.int .i64 (pick R.mode 4+1),.int .i64 (bv (pick R.unit 5)),.slice ca3 n3 cc3,.slice ca4 n4 cc4,.slice ca5 n5 cc5,.slice ca6 n6 cc6,.slice ca7 n7 cc7]) yu);have HTH:=zh (jA HOFR.out.res 8 rfl);have HZB:=zh (dH (#[.int .i64 (pick R.frm 73049),.int .i64 (pick R.mode 4+1),.int .i64 (bv (pick R.unit 5)),.slice ca3 n3 cc3,.slice ca4 n4 cc4,.slice ca5 n5 cc5,.slice ca6 n6 cc6,.slice ca7 n7 cc7]:Array Value).toList 0 wc _ HOFR.out.res);have HZL:=zh (below_setCells (Nat.le_succ w.heap.size) (#[.int .i64 (pick R.frm 73049),.int .i64 (pick R.mode 4+1),.int .i64 (bv (pick R.unit 5)),.slice ca3 n3 cc3,.slice ca4 n4 cc4,.slice ca5 n5 cc5,.slice ca6 n6 cc6,.slice ca7 n7 cc7]:Array Value).toList 0 wc HOFR.out.bel);have HZN:=zh (ed (b:=w.heap.size+1) (#[.int .i64 (pick R.frm 73049),.int .i64 (pick R.mode 4+1),.int .i64 (bv (pick R.unit 5)),.slice ca3 n3 cc3,.slice ca4 n4 cc4,.slice ca5 n5 cc5,.slice ca6 n6 cc6,.slice ca7 n7 cc7]:Array Value).toList 0 wc (Next.refl _ _));generalize hwz:wc.setCells (w.heap.size+1) 0 (#[.int .i64 (pick R.frm 73049),.int .i64 (pick R.mode 4+1),.int .i64 (bv (pick R.unit 5)),.slice ca3 n3 cc3,.slice ca4 n4 cc4,.slice ca5 n5 cc5,.slice ca6 n6 cc6,.slice ca7 n7 cc7]:Array Value).toList=wz at HZB HZL HZN;have HZ:=zh hwz;clear hwz
  repeat(first
   |((with_reducible(show wpList _ _ _ (_::_) _ _));refine wpList_load_row rfl 81 _ rfl g rfl 81 _ _ _ HOFR.out.out underlying81 rfl lm ?_)
   |((with_reducible(show wpList _ _ _ (_::_) _ _));refine wpList_store_mid rfl 81 (.tmp 2) (.tmp 239) rfl (w.heap.size+1) 0 #[.int .i64 (pick R.frm 73049),.int .i64 (pick R.mode 4+1),.int .i64 (bv (pick R.unit 5)),.slice ca3 n3 cc3,.slice ca4 n4 cc4,.slice ca5 n5 cc5,.slice ca6 n6 cc6,.slice ca7 n7 cc7] rfl rfl HTH.out lm H1C.out ?_;rw [HZ.out])
   |go_values|go_skip|go_guarded|go_step|go_upon)
  refine bodyPost_ret (results_cell_row results36 _ _ (w.heap.size+1) 81 #[.int .i64 (pick R.frm 73049),.int .i64 (pick R.mode 4+1),.int .i64 (bv (pick R.unit 5)),.slice ca3 n3 cc3,.slice ca4 n4 cc4,.slice ca5 n5 cc5,.slice ca6 n6 cc6,.slice ca7 n7 cc7] (0,0) _ rfl HZB.out underlying81 rfl lm) rfl ?_;exact jc.mk HT.out ⟨rfl,rfl,rfl⟩ HZL.out HZN.out HV.out ze
 ·have hb0:(R.twist !=0)=true:=by simp [ht0]
  by_cases ht8:R.twist.tmod 8=0
  ·have hb8:(R.twist.tmod 8==0)=true:=by simp [ht8]
   have HT:=zh (Re ht0 ht8);have hq:IntKind.i64.wrap (R.twist.tdiv 8)=R.twist.tdiv 8:=JG h4;have hp7:=dO (R.twist.tdiv 8) 7 ze;obtain⟨hp8,hp9⟩:=hp7;clear ht0 ht8;repeat(first|go_values|go_skip|go_guarded|go_step|go_upon)
   refine(bP _ _ _ ze).mono ?_;rintro e w' ⟨rfl,rfl⟩;dsimp only;repeat(first|go_values|go_skip|go_guarded|go_step|go_upon)
   refine(F3 (pick (R.twist.tdiv 8) 7) hp8 hp9 H1 g _ _ _ (fC R) (.slice ca3 n3 cc3) (.slice ca4 n4 cc4) (.slice ca5 n5 cc5) (.slice ca6 n6 cc6) (.slice ca7 n7 cc7) wc HOFR.out.out (GH R) HV.out).mono ?_;rintro e w2 ⟨rfl,hb2,hv2⟩;dsimp only;have HO2:=zh (HOFR.out.kept (HOFR.out.bel.trans (Joins.below_le hb2 ze)) (fun k hk hk2=>hb2.block k ze));have HV2:=zh hv2;clear hb2 hv2;have H1C:Hid ((#[.int .i64 (pick R.frm 73049),.int .i64 (pick R.mode 4+1),.int .i64 (bv (pick R.unit 5)),.slice ca3 n3 cc3,.slice ca4 n4 cc4,.slice ca5 n5 cc5,.slice ca6 n6 cc6,.slice ca7 n7 cc7]:Array Value).all (·.oneCell')=true):=zh (all_oneCell_toArray (cs:=[.int .i64 (pick R.frm 73049),.int .i64 (pick R.mode 4+1),.int .i64 (bv (pick R.unit 5)),.slice ca3 n3 cc3,.slice ca4 n4 cc4,.slice ca5 n5 cc5,.slice ca6 n6 cc6,.slice ca7 n7 cc7]) yu);have HTH:=zh (jA HO2.out.res 8 rfl);have HZB:=zh (dH (#[.int .i64 (pick R.frm 73049),.int .i64 (pick R.mode 4+1),.int .i64 (bv (pick R.unit 5)),.slice ca3 n3 cc3,.slice ca4 n4 cc4,.slice ca5 n5 cc5,.slice ca6 n6 cc6,.slice ca7 n7 cc7]:Array Value).toList 0 w2 _ HO2.out.res);have HZL:=zh (below_setCells (Nat.le_succ w.heap.size) (#[.int .i64 (pick R.frm 73049),.int .i64 (pick R.mode 4+1),.int .i64 (bv (pick R.unit 5)),.slice ca3 n3 cc3,.slice ca4 n4 cc4,.slice ca5 n5 cc5,.slice ca6 n6 cc6,.slice ca7 n7 cc7]:Array Value).toList 0 w2 HO2.out.bel);have HZN:=zh (ed (b:=w.heap.size+1) (#[.int .i64 (pick R.frm 73049),.int .i64 (pick R.mode 4+1),.int .i64 (bv (pick R.unit 5)),.slice ca3 n3 cc3,.slice ca4 n4 cc4,.slice ca5 n5 cc5,.slice ca6 n6 cc6,.slice ca7 n7 cc7]:Array Value).toList 0 w2 (Next.refl _ _));generalize hwz:w2.setCells (w.heap.size+1) 0 (#[.int .i64 (pick R.frm 73049),.int .i64 (pick R.mode 4+1),.int .i64 (bv (pick R.unit 5)),.slice ca3 n3 cc3,.slice ca4 n4 cc4,.slice ca5 n5 cc5,.slice ca6 n6 cc6,.slice ca7 n7 cc7]:Array Value).toList=wz at HZB HZL HZN;have HZ:=zh hwz;clear hwz
   repeat(first
    |((with_reducible(show wpList _ _ _ (_::_) _ _));refine wpList_load_row rfl 81 _ rfl g rfl 81 _ _ _ HO2.out.out underlying81 rfl lm ?_)
    |((with_reducible(show wpList _ _ _ (_::_) _ _));refine wpList_store_mid rfl 81 (.tmp 2) (.tmp 239) rfl (w.heap.size+1) 0 #[.int .i64 (pick R.frm 73049),.int .i64 (pick R.mode 4+1),.int .i64 (bv (pick R.unit 5)),.slice ca3 n3 cc3,.slice ca4 n4 cc4,.slice ca5 n5 cc5,.slice ca6 n6 cc6,.slice ca7 n7 cc7] rfl rfl HTH.out lm H1C.out ?_;rw [HZ.out])
    |go_values|go_skip|go_guarded|go_step|go_upon)
   refine bodyPost_ret (results_cell_row results36 _ _ (w.heap.size+1) 81 #[.int .i64 (pick R.frm 73049),.int .i64 (pick R.mode 4+1),.int .i64 (bv (pick R.unit 5)),.slice ca3 n3 cc3,.slice ca4 n4 cc4,.slice ca5 n5 cc5,.slice ca6 n6 cc6,.slice ca7 n7 cc7] (0,0) _ rfl HZB.out underlying81 rfl lm) rfl ?_;exact jc.mk HT.out (Db _ _) HZL.out HZN.out HV2.out ze
  ·have hb8:(R.twist.tmod 8==0)=false:=by simp [ht8]
   have HT:=zh (Rf ht0 ht8);clear ht0 ht8;have H1C:Hid ((#[.int .i64 (pick R.frm 73049),.int .i64 (pick R.mode 4+1),.int .i64 (bv (pick R.unit 5)),.slice ca3 n3 cc3,.slice ca4 n4 cc4,.slice ca5 n5 cc5,.slice ca6 n6 cc6,.slice ca7 n7 cc7]:Array Value).all (·.oneCell')=true):=zh (all_oneCell_toArray (cs:=[.int .i64 (pick R.frm 73049),.int .i64 (pick R.mode 4+1),.int .i64 (bv (pick R.unit 5)),.slice ca3 n3 cc3,.slice ca4 n4 cc4,.slice ca5 n5 cc5,.slice ca6 n6 cc6,.slice ca7 n7 cc7]) yu);have HTH:=zh (jA HOFR.out.res 8 rfl);have HZB:=zh (dH (#[.int .i64 (pick R.frm 73049),.int .i64 (pick R.mode 4+1),.int .i64 (bv (pick R.unit 5)),.slice ca3 n3 cc3,.slice ca4 n4 cc4,.slice ca5 n5 cc5,.slice ca6 n6 cc6,.slice ca7 n7 cc7]:Array Value).toList 0 wc _ HOFR.out.res);have HZL:=zh (below_setCells (Nat.le_succ w.heap.size) (#[.int .i64 (pick R.frm 73049),.int .i64 (pick R.mode 4+1),.int .i64 (bv (pick R.unit 5)),.slice ca3 n3 cc3,.slice ca4 n4 cc4,.slice ca5 n5 cc5,.slice ca6 n6 cc6,.slice ca7 n7 cc7]:Array Value).toList 0 wc HOFR.out.bel);have HZN:=zh (ed (b:=w.heap.size+1) (#[.int .i64 (pick R.frm 73049),.int .i64 (pick R.mode 4+1),.int .i64 (bv (pick R.unit 5)),.slice ca3 n3 cc3,.slice ca4 n4 cc4,.slice ca5 n5 cc5,.slice ca6 n6 cc6,.slice ca7 n7 cc7]:Array Value).toList 0 wc (Next.refl _ _));generalize hwz:wc.setCells (w.heap.size+1) 0 (#[.int .i64 (pick R.frm 73049),.int .i64 (pick R.mode 4+1),.int .i64 (bv (pick R.unit 5)),.slice ca3 n3 cc3,.slice ca4 n4 cc4,.slice ca5 n5 cc5,.slice ca6 n6 cc6,.slice ca7 n7 cc7]:Array Value).toList=wz at HZB HZL HZN;have HZ:=zh hwz;clear hwz
   repeat(first
    |((with_reducible(show wpList _ _ _ (_::_) _ _));refine wpList_load_row rfl 81 _ rfl g rfl 81 _ _ _ HOFR.out.out underlying81 rfl lm ?_)
    |((with_reducible(show wpList _ _ _ (_::_) _ _));refine wpList_store_mid rfl 81 (.tmp 2) (.tmp 239) rfl (w.heap.size+1) 0 #[.int .i64 (pick R.frm 73049),.int .i64 (pick R.mode 4+1),.int .i64 (bv (pick R.unit 5)),.slice ca3 n3 cc3,.slice ca4 n4 cc4,.slice ca5 n5 cc5,.slice ca6 n6 cc6,.slice ca7 n7 cc7] rfl rfl HTH.out lm H1C.out ?_;rw [HZ.out])
    |go_values|go_skip|go_guarded|go_step|go_upon)
   refine bodyPost_ret (results_cell_row results36 _ _ (w.heap.size+1) 81 #[.int .i64 (pick R.frm 73049),.int .i64 (pick R.mode 4+1),.int .i64 (bv (pick R.unit 5)),.slice ca3 n3 cc3,.slice ca4 n4 cc4,.slice ca5 n5 cc5,.slice ca6 n6 cc6,.slice ca7 n7 cc7] (0,0) _ rfl HZB.out underlying81 rfl lm) rfl ?_;exact jc.mk HT.out ⟨rfl,rfl,rfl⟩ HZL.out HZN.out HV.out ze
end Go.Proofs.YtlheailebbngiaaGreatDoor
