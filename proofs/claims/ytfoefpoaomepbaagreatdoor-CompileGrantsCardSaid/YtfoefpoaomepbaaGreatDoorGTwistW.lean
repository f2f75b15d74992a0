import Derived.Test.YtfoefpoaomepbaaGreatDoorGCodV
import Derived.Test.YtfoefpoaomepbaaGreatDoorGTyR
set_option linter.all false
set_option maxHeartbeats 16000000
set_option maxRecDepth 1000000
namespace Go.Proofs.YtfoefpoaomepbaaGreatDoor
open Tryz List
open Go.RowKit

def mH(B:Nat)(V:dK)(w:World)(v3 v4 v5 v6 v7:Value)(n:Int)(e:Ending)(w':World):Prop:=e= .returned (.tuple #[])/\Below B w w'/\bK B w' (bu n V) v3 v4 v5 v6 v7
theorem bK.same{B:Nat}{w w':World}{V:dK}{v3 v4 v5 v6 v7:Value}(h:bK B w V v3 v4 v5 v6 v7)(hb:w.heap.size<=w'.heap.size)(hw:∀k,B<=k->k<w.heap.size->w'.heap[k]? =w.heap[k]?):bK B w' V v3 v4 v5 v6 v7:=by
 obtain⟨ql,qg,qr,H1,H2,H3,H4,H5,e1,e2,e3,ord,r1,r2,r3,r4,r5⟩:=h;exact⟨ql,qg,qr,H1,H2,H3,H4,H5,e1,e2,e3,ord,r1.keep hb fun k h1 _ h2=>hw k zb h2,r2.keep hb fun k h1 _ h2=>hw k zb h2,r3.keep hb fun k h1 _ h2=>hw k zb h2,r4.keep hb fun k h1 _ h2=>hw k zb h2,r5.keep hb fun k h1 h2=>hw k zb h2⟩
theorem bK.grow{B:Nat}{w:World}{V:dK}{v3 v4 v5 v6 v7:Value}(h:bK B w V v3 v4 v5 v6 v7)(bs:Array Obj)(d:Nat):bK B (w.grow bs d) V v3 v4 v5 v6 v7:=h.same zd fun k _ hk=>World.heap_grow _ _ _ hk
theorem bK.alloc{B:Nat}{w:World}{V:dK}{v3 v4 v5 v6 v7:Value}(h:bK B w V v3 v4 v5 v6 v7)(o:Obj):bK B (w.alloc o) V v3 v4 v5 v6 v7:=h.same zd fun k _ hk=>Below.heap_alloc w o k hk
theorem bK.drew{B:Nat}{w:World}{V:dK}{v3 v4 v5 v6 v7:Value}(h:bK B w V v3 v4 v5 v6 v7):bK B w.drew V v3 v4 v5 v6 v7:=h.same (Nat.le_refl _) fun k _ _=>rfl
theorem bK.setCell{B:Nat}{w:World}{V:dK}{v3 v4 v5 v6 v7:Value}(h:bK B w V v3 v4 v5 v6 v7){a:Addr}(ha:a.block<B)(u:Value):bK B (w.setCell a u) V v3 v4 v5 v6 v7:=h.same zd fun k hk _=>Below.heap_setCell _ _ _ _ zb
theorem bK.le{B B':Nat}{w:World}{V:dK}{v3 v4 v5 v6 v7:Value}(h:bK B w V v3 v4 v5 v6 v7)(hb:B'<=B):bK B' w V v3 v4 v5 v6 v7:=by
 obtain⟨ql,qg,qr,H1,H2,H3,H4,H5,e1,e2,e3,ord,r1,r2,r3,r4,r5⟩:=h;exact⟨ql,qg,qr,H1,H2,H3,H4,H5,e1,e2,e3,⟨by omega,ord.2⟩,r1,r2,r3,r4,r5⟩
theorem aY.apart'{T:TypeId}{c base g:Nat}{X:Nat->Prop}{w w':World}{v:Value}{l:List (List Value)}{rs:List (Ex × Value)}(h:aY T c base X w v l rs)(hn:Next g w w')(hg:¬(base<=g/\X g)):aY T c base X w' v l rs:=
 h.keep hn.size fun k h1 h2 h3=>hn.blk k h3 fun e=>hg (by subst e;exact⟨h1,h2⟩)
section
variable {B g : Nat} {w w' : World} {cr cr' : List (Int × Int)} {se se' : List (Int × Int × Int)} {ql ql' : List (ByteArray × (Ex × Value))} {qg qg' : List GrT} {qr : List (Int × (Ex × Value))} {v3 v4 v5 v6 v7 : Value} {H1 H2 H3 H4 H5 : Nat}
theorem qU.put1(h:qU B w cr se ql qg qr v3 v4 v5 v6 v7 H1 H2 H3 H4 H5)(hg:H1<=g/\g<H2)(hn:Next g w w')(r:aY 133 2 H1 (· <H2) w' v3 (crL cr') []):qU B w' cr' se ql qg qr v3 v4 v5 v6 v7 H1 H2 H3 H4 H5:=by
 have o:=h.ord;exact⟨o,r,h.r2.apart' hn (fun e=>by have:=e.1;omega),h.r3.apart' hn (fun e=>by have:=e.1;omega),h.r4.apart' hn (fun e=>by have:=e.1;omega),h.r5.keep hn.size fun k h1 h2=>hn.blk k h2 zb⟩
theorem qU.put2(h:qU B w cr se ql qg qr v3 v4 v5 v6 v7 H1 H2 H3 H4 H5)(hg:H2<=g/\g<H3)(hn:Next g w w')(r:aY 135 3 H2 (· <H3) w' v4 (seL se') []):qU B w' cr se' ql qg qr v3 v4 v5 v6 v7 H1 H2 H3 H4 H5:=by
 have o:=h.ord;exact⟨o,h.r1.apart' hn (fun e=>by have:g<H2:=e.2;omega),r,h.r3.apart' hn (fun e=>by have:=e.1;omega),h.r4.apart' hn (fun e=>by have:=e.1;omega),h.r5.keep hn.size fun k h1 h2=>hn.blk k h2 zb⟩
theorem qU.put3(h:qU B w cr se ql qg qr v3 v4 v5 v6 v7 H1 H2 H3 H4 H5)(hg:H3<=g/\g<H4)(hn:Next g w w')(r:aY 63 7 H3 (· <H4) w' v5 (fe ql') (ql'.map (·.2))):qU B w' cr se ql' qg qr v3 v4 v5 v6 v7 H1 H2 H3 H4 H5:=by
 have o:=h.ord;exact⟨o,h.r1.apart' hn (fun e=>by have:g<H2:=e.2;omega),h.r2.apart' hn (fun e=>by have:g<H3:=e.2;omega),r,h.r4.apart' hn (fun e=>by have:=e.1;omega),h.r5.keep hn.size fun k h1 h2=>hn.blk k h2 zb⟩
theorem qU.put4(h:qU B w cr se ql qg qr v3 v4 v5 v6 v7 H1 H2 H3 H4 H5)(hg:H4<=g/\g<H5)(hn:Next g w w')(r:aY 86 13 H4 (· <H5) w' v6 (grL qg') (grR qg')):qU B w' cr se ql qg' qr v3 v4 v5 v6 v7 H1 H2 H3 H4 H5:=by
 have o:=h.ord;exact⟨o,h.r1.apart' hn (fun e=>by have:g<H2:=e.2;omega),h.r2.apart' hn (fun e=>by have:g<H3:=e.2;omega),h.r3.apart' hn (fun e=>by have:g<H4:=e.2;omega),r,h.r5.keep hn.size fun k h1 h2=>hn.blk k h2 zb⟩
end
theorem NP
 (B g:Nat) (frm mode unit:Int) (V:dK) (v3 v4 v5 v6 v7:Value) (w:World) (hg:w.heap[g]? =some (.cells #[.int .i64 frm,.int .i64 mode,.int .i64 unit,v3,v4,v5,v6,v7] 82 (0,0)))
 (hlen:V.cr.length<=1000/\V.se.length<=1000/\V.le.length<=1000/\V.gr.length<=1000) (h:bK B w V v3 v4 v5 v6 v7)
 :Calls prog 63 #[.pointer (some ⟨g,0,none⟩),.int .i64 1] w (mH B V w v3 v4 v5 v6 v7 1):=by
 obtain⟨ql,qg,qr,H1,H2,H3,H4,H5,e1,e2,e3,hQ⟩:=h;have ho:=hQ.ord;have hc:w.cell? ⟨g,6,none⟩=some v6:=cell_of_row w g 6 _ _ _ hg
 match qg,e2,hQ with
 | [],e2,hQ=>
   obtain⟨a,cap,hv⟩:=hQ.r4.form;refine gw (KF g _ cap a w (hc.trans (congrArg some hv)) zA) ?_;exact⟨rfl,.refl _ _,ql,[],qr,H1,H2,H3,H4,H5,e1,by simp [bu,<-e2],e3,hQ⟩
 | [t],e2,hQ=>
   obtain⟨a,cap,hv⟩:=hQ.r4.form;refine gw (KF g _ cap a w (hc.trans (congrArg some hv)) zA) ?_;exact⟨rfl,.refl _ _,ql,[t],qr,H1,H2,H3,H4,H5,e1,by simp [bu,<-e2],e3,hQ⟩
 |t::u::r,e2,hQ=>
  have hl:(grL (t::u::r)).length=V.gr.length:=by rw [<-e2];simp [grL]
  obtain⟨gg,cap,rfl⟩:=hQ.r4.block zA;obtain⟨b1,b2,b3⟩:=hQ.r4.apart;have c0:w.cell? ⟨gg,0,none⟩=some (.int .i64 t.1):=hQ.r4.cellAt rfl 0 0 zb zA;have c1:w.cell? ⟨gg,13,none⟩=some (.int .i64 u.1):=hQ.r4.cellAt rfl 1 0 zb zA;refine gw (NY g gg _ cap t.1 w hc zA zb c0 _ c1 (hQ.r4.own.frozenAt _)) ?_;refine⟨rfl,((Below.refl _ _).setCell ya _).drew,ql,t::(t.1,u.2)::r,qr,H1,H2,H3,H4,H5,e1,by simp [bu,<-e2],e3, ?_⟩;exact hQ.put4 ⟨b1,b2⟩ (((Next.refl _ _).store _ _).drew) (hQ.r4.stored (rs':=grR (t::(t.1,u.2)::r)) rfl 1 0 13 rfl zb zA (.int .i64 t.1) (fun x hx=>.inl hx)).drew
theorem NN
 (B g:Nat) (frm mode unit:Int) (V:dK) (v3 v4 v5 v6 v7:Value) (w:World) (hg:w.heap[g]? =some (.cells #[.int .i64 frm,.int .i64 mode,.int .i64 unit,v3,v4,v5,v6,v7] 82 (0,0)))
 (hlen:V.cr.length<=1000/\V.se.length<=1000/\V.le.length<=1000/\V.gr.length<=1000) (h:bK B w V v3 v4 v5 v6 v7)
 :Calls prog 63 #[.pointer (some ⟨g,0,none⟩),.int .i64 2] w (mH B V w v3 v4 v5 v6 v7 2):=by
 obtain⟨ql,qg,qr,H1,H2,H3,H4,H5,e1,e2,e3,hQ⟩:=h;have ho:=hQ.ord;have hc:w.cell? ⟨g,5,none⟩=some v5:=cell_of_row w g 5 _ _ _ hg
 match ql,e1,hQ with
 | [],e1,hQ=>
   obtain⟨a,cap,hv⟩:=hQ.r3.form;refine gw (KE g _ cap a w (hc.trans (congrArg some hv)) zw) ?_;exact⟨rfl,.refl _ _,[],qg,qr,H1,H2,H3,H4,H5,by simp [bu,<-e1],e2,e3,hQ⟩
 | [t],e1,hQ=>
   obtain⟨a,cap,hv⟩:=hQ.r3.form;refine gw (KE g _ cap a w (hc.trans (congrArg some hv)) zw) ?_;exact⟨rfl,.refl _ _,[t],qg,qr,H1,H2,H3,H4,H5,by simp [bu,<-e1],e2,e3,hQ⟩
 |t::u::r,e1,hQ=>
  have hl:(fe (t::u::r)).length=V.le.length:=by rw [<-e1];simp [fe]
  obtain⟨gg,cap,rfl⟩:=hQ.r3.block zw;obtain⟨b1,b2,b3⟩:=hQ.r3.apart;have c0:w.cell? ⟨gg,0,none⟩=some (.string t.1):=hQ.r3.cellAt rfl 0 0 zb zw;have c1:w.cell? ⟨gg,7,none⟩=some (.string u.1):=hQ.r3.cellAt rfl 1 0 zb zw;refine gw (NW g gg _ cap t.1 w hc zw zb c0 _ c1 (hQ.r3.own.frozenAt _)) ?_;refine⟨rfl,((Below.refl _ _).setCell ya _).drew,t::(t.1,u.2)::r,qg,qr,H1,H2,H3,H4,H5,by simp [bu,<-e1],e2,e3, ?_⟩;exact hQ.put3 ⟨b1,b2⟩ (((Next.refl _ _).store _ _).drew) (hQ.r3.stored (rs':=List.map (fun x:ByteArray × (Ex × Value)=>x.2) (t::(t.1,u.2)::r)) rfl 1 0 7 rfl zb zw (.string t.1) (fun x hx=>.inl hx)).drew
theorem NL
 (B g:Nat) (frm mode unit:Int) (V:dK) (v3 v4 v5 v6 v7:Value) (w:World) (hg:w.heap[g]? =some (.cells #[.int .i64 frm,.int .i64 mode,.int .i64 unit,v3,v4,v5,v6,v7] 82 (0,0)))
 (hlen:V.cr.length<=1000/\V.se.length<=1000/\V.le.length<=1000/\V.gr.length<=1000) (h:bK B w V v3 v4 v5 v6 v7)
 :Calls prog 63 #[.pointer (some ⟨g,0,none⟩),.int .i64 4] w (mH B V w v3 v4 v5 v6 v7 4):=by
 obtain⟨ql,qg,qr,H1,H2,H3,H4,H5,e1,e2,e3,hQ⟩:=h;have ho:=hQ.ord;have hc:w.cell? ⟨g,4,none⟩=some v4:=cell_of_row w g 4 _ _ _ hg;generalize hse:V.se=se at hQ
 match se,hse,hQ with
 | [],hse,hQ=>
   obtain⟨a,cap,hv⟩:=hQ.r2.form;refine gw (KD g _ cap a w (hc.trans (congrArg some hv)) zL) ?_;exact⟨rfl,.refl _ _,ql,qg,qr,H1,H2,H3,H4,H5,e1,e2,e3,by have hs:(bu 4 V).se= []:=(by simp [bu,hse]);rw [hs];exact hQ⟩
 | [t],hse,hQ=>
   obtain⟨a,cap,hv⟩:=hQ.r2.form;refine gw (KD g _ cap a w (hc.trans (congrArg some hv)) zL) ?_;exact⟨rfl,.refl _ _,ql,qg,qr,H1,H2,H3,H4,H5,e1,e2,e3,by have hs:(bu 4 V).se= [t]:=(by simp [bu,hse]);rw [hs];exact hQ⟩
 |t::u::r,hse,hQ=>
  have hl:(seL (t::u::r)).length=V.se.length:=by rw [hse];simp [seL]
  obtain⟨gg,cap,rfl⟩:=hQ.r2.block zL;obtain⟨b1,b2,b3⟩:=hQ.r2.apart;have c0:w.cell? ⟨gg,0,none⟩=some (.int .i64 t.1):=hQ.r2.cellAt rfl 0 0 zb zL;have c1:w.cell? ⟨gg,3,none⟩=some (.int .i64 u.1):=hQ.r2.cellAt rfl 1 0 zb zL;refine gw (NU g gg _ cap t.1 w hc zL zb c0 _ c1 (hQ.r2.own.frozenAt _)) ?_;refine⟨rfl,((Below.refl _ _).setCell ya _).drew,ql,qg,qr,H1,H2,H3,H4,H5,e1,e2,e3, ?_⟩;have hs:(bu 4 V).se=t::(t.1,u.2)::r:=by simp [bu,hse]
  rw [hs];exact hQ.put2 ⟨b1,b2⟩ (((Next.refl _ _).store _ _).drew) (hQ.r2.stored (rs':=[]) rfl 1 0 3 rfl zb zL (.int .i64 t.1) (fun x hx=>.inl hx)).drew
theorem NK
 (B g:Nat) (frm mode unit:Int) (V:dK) (v3 v4 v5 v6 v7:Value) (w:World) (hg:w.heap[g]? =some (.cells #[.int .i64 frm,.int .i64 mode,.int .i64 unit,v3,v4,v5,v6,v7] 82 (0,0)))
 (hlen:V.cr.length<=1000/\V.se.length<=1000/\V.le.length<=1000/\V.gr.length<=1000) (h:bK B w V v3 v4 v5 v6 v7)
 :Calls prog 63 #[.pointer (some ⟨g,0,none⟩),.int .i64 5] w (mH B V w v3 v4 v5 v6 v7 5):=by
 obtain⟨ql,qg,qr,H1,H2,H3,H4,H5,e1,e2,e3,hQ⟩:=h;have ho:=hQ.ord;have hc:w.cell? ⟨g,3,none⟩=some v3:=cell_of_row w g 3 _ _ _ hg;generalize hcr:V.cr=cr at hQ
 match cr,hcr,hQ with
 | [],hcr,hQ=>
   obtain⟨a,cap,hv⟩:=hQ.r1.form;refine gw (KC g _ cap a w (hc.trans (congrArg some hv)) zK) ?_;exact⟨rfl,.refl _ _,ql,qg,qr,H1,H2,H3,H4,H5,e1,e2,e3,by have hs:(bu 5 V).cr= []:=(by simp [bu,hcr]);rw [hs];exact hQ⟩
 | [t],hcr,hQ=>
   obtain⟨a,cap,hv⟩:=hQ.r1.form;refine gw (KC g _ cap a w (hc.trans (congrArg some hv)) zK) ?_;exact⟨rfl,.refl _ _,ql,qg,qr,H1,H2,H3,H4,H5,e1,e2,e3,by have hs:(bu 5 V).cr= [t]:=(by simp [bu,hcr]);rw [hs];exact hQ⟩
 |t::u::r,hcr,hQ=>
  have hl:(crL (t::u::r)).length=V.cr.length:=by rw [hcr];simp [crL]
  obtain⟨gg,cap,rfl⟩:=hQ.r1.block zK;obtain⟨b1,b2,b3⟩:=hQ.r1.apart;have c0:w.cell? ⟨gg,0,none⟩=some (.int .i64 t.1):=hQ.r1.cellAt rfl 0 0 zb zK;have c1:w.cell? ⟨gg,2,none⟩=some (.int .i64 u.1):=hQ.r1.cellAt rfl 1 0 zb zK;refine gw (NT g gg _ cap t.1 w hc zK zb c0 _ c1 (hQ.r1.own.frozenAt _)) ?_;refine⟨rfl,((Below.refl _ _).setCell ya _).drew,ql,qg,qr,H1,H2,H3,H4,H5,e1,e2,e3, ?_⟩;have hs:(bu 5 V).cr=t::(t.1,u.2)::r:=by simp [bu,hcr]
  rw [hs];exact hQ.put1 ⟨b1,b2⟩ (((Next.refl _ _).store _ _).drew) (hQ.r1.stored (rs':=[]) rfl 1 0 2 rfl zb zK (.int .i64 t.1) (fun x hx=>.inl hx)).drew
theorem NJ
 (B g:Nat) (frm mode unit:Int) (V:dK) (v3 v4 v5 v6 v7:Value) (w:World) (hg:w.heap[g]? =some (.cells #[.int .i64 frm,.int .i64 mode,.int .i64 unit,v3,v4,v5,v6,v7] 82 (0,0)))
 (hlen:V.cr.length<=1000/\V.se.length<=1000/\V.le.length<=1000/\V.gr.length<=1000) (h:bK B w V v3 v4 v5 v6 v7)
 :Calls prog 63 #[.pointer (some ⟨g,0,none⟩),.int .i64 6] w (mH B V w v3 v4 v5 v6 v7 6):=by
 obtain⟨ql,qg,qr,H1,H2,H3,H4,H5,e1,e2,e3,hQ⟩:=h;have ho:=hQ.ord;have hc:w.cell? ⟨g,5,none⟩=some v5:=cell_of_row w g 5 _ _ _ hg
 match ql,e1,hQ with
 | [],e1,hQ=>
   obtain⟨a,cap,hv⟩:=hQ.r3.form;refine gw (QT g _ cap a w (hc.trans (congrArg some hv)) zw) ?_;exact⟨rfl,.refl _ _,[],qg,qr,H1,H2,H3,H4,H5,by simp [bu,<-e1],e2,e3,hQ⟩
 |t::r,e1,hQ=>
  have hl:(fe (t::r)).length=V.le.length:=by rw [<-e1];simp [fe]
  obtain⟨gg,cap,rfl⟩:=hQ.r3.block zw;obtain⟨b1,b2,b3⟩:=hQ.r3.apart;have c0:w.cell? ⟨gg,0,none⟩=some (.string t.1):=hQ.r3.cellAt rfl 0 0 zb zw;refine gw (NR g gg _ cap w hc zw zb _ c0 (hQ.r3.own.frozenAt _)) ?_;refine⟨rfl,(Below.refl _ _).setCell ya _,(Nn,t.2)::r,qg,qr,H1,H2,H3,H4,H5,by simp [bu,<-e1],e2,e3, ?_⟩;exact hQ.put3 ⟨b1,b2⟩ ((Next.refl _ _).store _ _) (hQ.r3.stored (rs':=List.map (fun x:ByteArray × (Ex × Value)=>x.2) ((Nn,t.2)::r)) rfl 0 0 0 rfl zb zw (.string Nn) (fun x hx=>.inl hx))
theorem LU:fE qA:=⟨⟨by decide,by decide⟩,⟨by decide,by decide⟩,⟨by decide,by decide⟩,⟨by decide,by decide⟩,by decide,by decide⟩
theorem NM
 (B g:Nat) (frm mode unit:Int) (V:dK) (v3 v4 v5 v6 v7:Value) (w:World) (hg:w.heap[g]? =some (.cells #[.int .i64 frm,.int .i64 mode,.int .i64 unit,v3,v4,v5,v6,v7] 82 (0,0)))
 (hlen:V.cr.length<=1000/\V.se.length<=1000/\V.le.length<=1000/\V.gr.length<=1000) (h:bK B w V v3 v4 v5 v6 v7)
 :Calls prog 63 #[.pointer (some ⟨g,0,none⟩),.int .i64 3] w (mH B V w v3 v4 v5 v6 v7 3):=by
 obtain⟨ql,qg,qr,H1,H2,H3,H4,H5,e1,e2,e3,hQ⟩:=h;have ho:=hQ.ord;have hc:w.cell? ⟨g,5,none⟩=some v5:=cell_of_row w g 5 _ _ _ hg
 match ql,e1,hQ with
 | [],e1,hQ=>
   obtain⟨a,cap,hv⟩:=hQ.r3.form;refine gw (QU g _ cap a w (hc.trans (congrArg some hv)) zw) ?_;exact⟨rfl,.refl _ _,[],qg,qr,H1,H2,H3,H4,H5,by simp [bu,<-e1],e2,e3,hQ⟩
 |t::r,e1,hQ=>
  have hl:(fe (t::r)).length=V.le.length:=by rw [<-e1];simp [fe]
  obtain⟨gg,cap,rfl⟩:=hQ.r3.block zw;obtain⟨b1,b2,b3⟩:=hQ.r3.apart;have cc:=fun j hj=>hQ.r3.cellAt rfl 0 j hj zw;refine gw (NV g gg _ cap w hc zw zb _ _ _ _ _ _ (cc 1 zb) (cc 2 zb) (cc 3 zb) (cc 4 zb) (cc 5 zb) (cc 6 zb) (fun i=>hQ.r3.own.frozenAt i)) ?_;have hb:B<=gg:=by omega
  refine⟨rfl,((((((Below.refl _ _).setCell hb _).setCell hb _).setCell hb _).setCell hb _).setCell hb _).setCell hb _,(t.1,(qA,.slice none 0 0))::r,qg,qr,H1,H2,H3,H4,H5,by simp [bu,<-e1],e2,e3, ?_⟩;have s1:=hQ.r3.stored rfl 0 1 1 rfl zb zw (.int .i64 2) (fun x hx=>.inl hx);have s2:=s1.stored rfl 0 2 2 rfl zb zw (.int .i64 0) (fun x hx=>.inl hx);have s3:=s2.stored rfl 0 3 3 rfl zb zw (.int .i64 0) (fun x hx=>.inl hx);have s4:=s3.stored rfl 0 4 4 rfl zb zw (.int .i64 0) (fun x hx=>.inl hx);have s5:=s4.stored rfl 0 5 5 rfl zb zw (.string ⟨#[108,97,116,101,114]⟩) (fun x hx=>.inl hx)
  have s6:=s5.stored (rs':=List.map (fun x:ByteArray × (Ex × Value)=>x.2) ((t.1,(qA,.slice none 0 0))::r)) rfl 0 6 6 rfl zb zw (.slice none 0 0) (fun x hx=>by
   rw [map_cons,mem_cons]at hx;rcases hx with rfl|hx
   ·exact .inr (.nil LU rfl)
   ·exact .inl (by rw [map_cons];exact mem_cons_of_mem _ hx))
  exact hQ.put3 ⟨b1,b2⟩ ((((((((Next.refl _ _).store _ _).store _ _).store _ _).store _ _).store _ _).store _ _)) s6
theorem NQ
 (B g:Nat) (frm mode unit:Int) (V:dK) (v3 v4 v5 v6 v7:Value) (w:World) (hg:w.heap[g]? =some (.cells #[.int .i64 frm,.int .i64 mode,.int .i64 unit,v3,v4,v5,v6,v7] 82 (0,0)))
 (hlen:V.cr.length<=1000/\V.se.length<=1000/\V.le.length<=1000/\V.gr.length<=1000) (h:bK B w V v3 v4 v5 v6 v7)
 :Calls prog 63 #[.pointer (some ⟨g,0,none⟩),.int .i64 0] w (mH B V w v3 v4 v5 v6 v7 0):=by
 obtain⟨ql,qg,qr,H1,H2,H3,H4,H5,e1,e2,e3,hQ⟩:=h;have ho:=hQ.ord;have hc:w.cell? ⟨g,6,none⟩=some v6:=cell_of_row w g 6 _ _ _ hg
 match qg,e2,hQ with
 | [],e2,hQ=>
   obtain⟨a,cap,hv⟩:=hQ.r4.form;refine gw (QV g _ cap a w (hc.trans (congrArg some hv)) zA) ?_;exact⟨rfl,.refl _ _,ql,[],qr,H1,H2,H3,H4,H5,e1,by simp [bu,<-e2],e3,hQ⟩
 |(b,(f,vf),u)::r,e2,hQ=>
  obtain⟨va,vc,hvv⟩:=(hQ.r4.rep (f,vf) (by simp [grR])).form0;simp only at hvv;subst hvv;have hl:(grL ((b,(f,.slice va f.args.length vc),u)::r)).length=V.gr.length:=by rw [<-e2];simp [grL]
  obtain⟨gg,cap,rfl⟩:=hQ.r4.block zA;obtain⟨b1,b2,b3⟩:=hQ.r4.apart;have cc:=fun j hj=>hQ.r4.cellAt rfl 0 j hj zA;refine gw (NZ g gg _ cap f.op f.num f.den f.dim f.name va f.args.length vc w hc zA zb (cc 1 zb) (cc 2 zb) (cc 3 zb) (cc 4 zb) (cc 5 zb) (cc 6 zb) _ _ _ _ _ _ (cc 7 zb) (cc 8 zb) (cc 9 zb) (cc 10 zb) (cc 11 zb) (cc 12 zb) (fun i=>hQ.r4.own.frozenAt i)) ?_;have hb:B<=gg:=by omega
  refine⟨rfl,(((((((Below.refl _ _).setCell hb _).setCell hb _).setCell hb _).setCell hb _).setCell hb _).setCell hb _).drew,ql,(b,(f,.slice va f.args.length vc),(f,.slice va f.args.length vc))::r,qr,H1,H2,H3,H4,H5,e1,by simp [bu,<-e2],e3, ?_⟩;have s1:=hQ.r4.stored rfl 0 7 7 rfl zb zA (.int .i64 f.op) (fun x hx=>.inl hx);have s2:=s1.stored rfl 0 8 8 rfl zb zA (.int .i64 f.num) (fun x hx=>.inl hx);have s3:=s2.stored rfl 0 9 9 rfl zb zA (.int .i64 f.den) (fun x hx=>.inl hx);have s4:=s3.stored rfl 0 10 10 rfl zb zA (.int .i64 f.dim) (fun x hx=>.inl hx);have s5:=s4.stored rfl 0 11 11 rfl zb zA (.string f.name) (fun x hx=>.inl hx)
  have s6:=s5.stored (rs':=grR ((b,(f,.slice va f.args.length vc),(f,.slice va f.args.length vc))::r)) rfl 0 12 12 rfl zb zA (.slice va f.args.length vc) (fun x hx=>by
   left;simp only [grR,flatMap_cons,cons_append,nil_append,mem_cons]at hx ⊢;rcases hx with rfl|rfl|hx
   ·exact .inl rfl
   ·exact .inl rfl
   ·exact .inr (.inr hx))
  exact hQ.put4 ⟨b1,b2⟩ (((((((((Next.refl _ _).store _ _).store _ _).store _ _).store _ _).store _ _).store _ _)).drew) s6.drew
theorem Hy(n:Int)(h0:0<=n)(h7:n<7)
 (B g:Nat) (frm mode unit:Int) (V:dK) (v3 v4 v5 v6 v7:Value) (w:World) (hg:w.heap[g]? =some (.cells #[.int .i64 frm,.int .i64 mode,.int .i64 unit,v3,v4,v5,v6,v7] 82 (0,0)))
 (hlen:V.cr.length<=1000/\V.se.length<=1000/\V.le.length<=1000/\V.gr.length<=1000) (h:bK B w V v3 v4 v5 v6 v7)
 :Calls prog 63 #[.pointer (some ⟨g,0,none⟩),.int .i64 n] w (mH B V w v3 v4 v5 v6 v7 n):=by
 obtain rfl|rfl|rfl|rfl|rfl|rfl|rfl:n=0\/n=1\/n=2\/n=3\/n=4\/n=5\/n=6:=by omega
 ·exact NQ B g frm mode unit V v3 v4 v5 v6 v7 w hg hlen h
 ·exact NP B g frm mode unit V v3 v4 v5 v6 v7 w hg hlen h
 ·exact NN B g frm mode unit V v3 v4 v5 v6 v7 w hg hlen h
 ·exact NM B g frm mode unit V v3 v4 v5 v6 v7 w hg hlen h
 ·exact NL B g frm mode unit V v3 v4 v5 v6 v7 w hg hlen h
 ·exact NK B g frm mode unit V v3 v4 v5 v6 v7 w hg hlen h
 ·exact NJ B g frm mode unit V v3 v4 v5 v6 v7 w hg hlen h
theorem OfPost.mk{R:bW}{V:dK}{w w1 wz:World}{B:Nat}{v3 v4 v5 v6 v7:Value}(hT:ofP R=V)(hV:V.frm=pick R.frm 73049/\V.mode=pick R.mode 4+1/\V.unit=aS (pick R.unit 5))(hb:Below w.heap.size w wz)
 (hn:Next (w.heap.size+1) w1 wz) (hv:bK B w1 V v3 v4 v5 v6 v7) (hB:w.heap.size+2<=B) :
 OfPost R w (.returned (.agg #[.int .i64 (pick R.frm 73049),.int .i64 (pick R.mode 4+1),.int .i64 (aS (pick R.unit 5)),v3,v4,v5,v6,v7])) wz:=by
 subst hT;obtain⟨a,b,c⟩:=hV;exact⟨v3,v4,v5,v6,v7,by rw [a,b,c],.of_below hb,(hv.same hn.size fun k hk hlt=>hn.blk k hlt zb).le zb⟩

def OfSaid:Prop:=∀(R:bW) (cs:Array Value) (w:World),qa w cs.toList R->Calls prog 26 #[.agg cs] w (OfPost R w)
theorem aD.below{w w':World}{v:Value}{zs:List Int}(h:aD w v zs)(hb:Below w.heap.size w w'):aD w' v zs:=by
 obtain⟨h0,hr,a,cap,hv,h1⟩:=h;refine⟨h0,hr,a,cap,hv,h1.imp id ?_⟩;rintro⟨b,off,ha,hlt,hc⟩;have:=hb.size;exact⟨b,off,ha,by omega,fun i hi=>by rw [hb.cell (by exact hlt)];exact hc i hi⟩
theorem dM.below{w w':World}{v:Value}{zss:List (List Int)}(h:dM w v zss)(hb:Below w.heap.size w w'):dM w' v zss:=by
 obtain⟨h0,a,cap,hv,h1⟩:=h;refine⟨h0,a,cap,hv,h1.imp id ?_⟩;rintro⟨b,off,ha,hlt,hc⟩;have:=hb.size;refine⟨b,off,ha,by omega,fun i hi=>?_⟩;obtain⟨u,hu,hi⟩:=hc i hi;exact⟨u,by rw [hb.cell (by exact hlt)];exact hu,aD.below hi hb⟩
theorem qa.below{w w':World}{cs:List Value}{R:bW}(h:qa w cs R)(hb:Below w.heap.size w w'):qa w' cs R:=by
 obtain⟨a,b,c,d,vc,vs,vl,vi,vp,vu,he,h1,h2,h3,h4,h5,h6⟩:=h;exact⟨a,b,c,d,vc,vs,vl,vi,vp,vu,he,aD.below h1 hb,aD.below h2 hb,dM.below h3 hb,dM.below h4 hb,dM.below h5 hb,dM.below h6 hb⟩
structure DC(w:World)(b o:Nat)(c:Value)(e:Ex)(u:Value):Prop where
 nm:w.cell? ⟨b,o,none⟩=some c
 c0:w.cell? ⟨b,o+1,none⟩=some (.int .i64 e.op)
 c1:w.cell? ⟨b,o+2,none⟩=some (.int .i64 e.num)
 c2:w.cell? ⟨b,o+3,none⟩=some (.int .i64 e.den)
 c3:w.cell? ⟨b,o+4,none⟩=some (.int .i64 e.dim)
 c4:w.cell? ⟨b,o+5,none⟩=some (.string e.name)
 c5:w.cell? ⟨b,o+6,none⟩=some u
 rep:ax (fun _=>True) w e u
theorem DC.same{w w':World}{b o:Nat}{c:Value}{e:Ex}{u:Value}(h:DC w b o c e u)(hg:w.Grows w')(hb:b<w.heap.size):DC w' b o c e u:=by
 have k:∀o,w'.cell? ⟨b,o,none⟩=w.cell? ⟨b,o,none⟩:=fun o=>World.cell?_of_block (hg.below.block b hb);exact⟨by rw [k];exact h.nm,by rw [k];exact h.c0,by rw [k];exact h.c1,by rw [k];exact h.c2,by rw [k];exact h.c3,by rw [k];exact h.c4,by rw [k];exact h.c5,h.rep.grows hg⟩
def LetsAt(w:World)(v:Value)(ls:List (ByteArray × Ex)):Prop:=
 ls.length<=1000/\∃a cap,v= .slice a ls.length cap/\(ls.length=0\/∃b off,a=some ⟨b,off,none⟩/\b<w.heap.size/\∀i,i<ls.length->∃u,DC w b (off+i*7) (.string (ls.getD i default).1) (ls.getD i default).2 u)
theorem LetsAt.grows{w w':World}{v:Value}{ls:List (ByteArray × Ex)}(h:LetsAt w v ls)(hg:w.Grows w'):LetsAt w' v ls:=by
 exact Tu
theorem Ap{α β:Type}{f:α->β}{l:List α}{L:List β}(h:l.map f=L){k:Nat}(hk:k<L.length):∃x,l[k]? =some x/\L[k]? =some (f x):=by
 subst h;have hk':k<l.length:=by simpa using hk
 exact⟨l[k],getElem?_eq_getElem hk',by rw [getElem?_map,getElem?_eq_getElem hk'];rfl⟩
theorem bK.lets{B:Nat}{w:World}{V:dK}{v3 v4 v5 v6 v7:Value}(h:bK B w V v3 v4 v5 v6 v7)(hl:V.le.length<=1000):LetsAt w v5 V.le:=by
 obtain⟨ql,qg,qr,H1,H2,H3,H4,H5,e1,e2,e3,ord,r1,r2,r3,r4,r5⟩:=h;obtain⟨a,cap,hv,hc⟩:=r3.toG.cells;have hlen:(fe ql).length=V.le.length:=by rw [<-e1];simp [fe]
 rw [hlen]at hv hc;refine⟨hl,a,cap,hv,hc.imp id ?_⟩;rintro⟨g,ha,hb,hlt,hx⟩;refine⟨g,0,ha,hlt,fun i hi=>?_⟩;obtain⟨⟨s,e,v⟩,hta,htl⟩:=Ap e1 hi;have hget:(fe ql).getD i []= .string s::aZ e v:=by simp [fe,getD_eq_getElem?_getD,getElem?_map,hta]
 have hle:V.le.getD i default=(s,e):=by rw [getD_eq_getElem?_getD,htl];rfl
 have h7:=fun j u hj hu=>hx i j u hi hj (by rw [hget];exact hu);rw [hle,show 0+i*7=i*7 by omega];exact⟨v,h7 0 _ zb rfl,h7 1 _ zb rfl,h7 2 _ zb rfl,h7 3 _ zb rfl,h7 4 _ zb rfl,h7 5 _ zb rfl,h7 6 _ zb rfl,(r3.rep (e,v) (mem_map.2 ⟨_,List.mem_of_getElem? hta,rfl⟩)).mono fun _ _=>trivial⟩
def jr(c:Nat)(w:World)(v:Value)(l:List Int):Prop:=
 l.length<=1000/\∃a cap,v= .slice a l.length cap/\(l.length=0\/∃b off,a=some ⟨b,off,none⟩/\b<w.heap.size/\∀i,i<l.length->w.cell? ⟨b,off+i*c,none⟩=some (.int .i64 (l.getD i 0)))
structure QE(w:World)(b o:Nat)(t:Int × Ex × Ex)(u v:Value):Prop where
 nm:w.cell? ⟨b,o,none⟩=some (.int .i64 t.1)
 c0:w.cell? ⟨b,o+1,none⟩=some (.int .i64 t.2.1.op)
 c1:w.cell? ⟨b,o+2,none⟩=some (.int .i64 t.2.1.num)
 c2:w.cell? ⟨b,o+3,none⟩=some (.int .i64 t.2.1.den)
 c3:w.cell? ⟨b,o+4,none⟩=some (.int .i64 t.2.1.dim)
 c4:w.cell? ⟨b,o+5,none⟩=some (.string t.2.1.name)
 c5:w.cell? ⟨b,o+6,none⟩=some u
 e0:w.cell? ⟨b,o+7,none⟩=some (.int .i64 t.2.2.op)
 e1:w.cell? ⟨b,o+8,none⟩=some (.int .i64 t.2.2.num)
 e2:w.cell? ⟨b,o+9,none⟩=some (.int .i64 t.2.2.den)
 e3:w.cell? ⟨b,o+10,none⟩=some (.int .i64 t.2.2.dim)
 e4:w.cell? ⟨b,o+11,none⟩=some (.string t.2.2.name)
 e5:w.cell? ⟨b,o+12,none⟩=some v
 rep:ax (fun _=>True) w t.2.1 u
 rep2:ax (fun _=>True) w t.2.2 v
instance:Inhabited (Int × Ex × Ex):=⟨(0,default,default)⟩
def gL(w:World)(v:Value)(l:List (Int × Ex × Ex)):Prop:=
 l.length<=1000/\∃a cap,v= .slice a l.length cap/\(l.length=0\/∃b off,a=some ⟨b,off,none⟩/\b<w.heap.size/\∀i,i<l.length->∃u u',QE w b (off+i*13) (l.getD i default) u u')
def oJ(w:World)(v:Value)(l:List (Int × Ex)):Prop:=
 l.length<=1000/\∃a cap,v= .slice a l.length cap/\(l.length=0\/∃b off,a=some ⟨b,off,none⟩/\b<w.heap.size/\∀i,i<l.length->∃u,DC w b (off+i*7) (.int .i64 (l.getD i default).1) (l.getD i default).2 u)
theorem QE.same{w w':World}{b o:Nat}{t:Int × Ex × Ex}{u v:Value}(h:QE w b o t u v)(hg:w.Grows w')(hb:b<w.heap.size):QE w' b o t u v:=by
 have k:∀o,w'.cell? ⟨b,o,none⟩=w.cell? ⟨b,o,none⟩:=fun o=>World.cell?_of_block (hg.below.block b hb);exact⟨by rw [k];exact h.nm,by rw [k];exact h.c0,by rw [k];exact h.c1,by rw [k];exact h.c2,by rw [k];exact h.c3,by rw [k];exact h.c4,by rw [k];exact h.c5,by rw [k];exact h.e0,by rw [k];exact h.e1,by rw [k];exact h.e2,by rw [k];exact h.e3,by rw [k];exact h.e4,by rw [k];exact h.e5,h.rep.grows hg,h.rep2.grows hg⟩
theorem jr.grows{c:Nat}{w w':World}{v:Value}{l:List Int}(h:jr c w v l)(hg:w.Grows w'):jr c w' v l:=by
 obtain⟨h0,a,cap,hv,h1⟩:=h;refine⟨h0,a,cap,hv,h1.imp id ?_⟩;rintro⟨b,off,ha,hb,hc⟩;have:=hg.below.size;exact SN
theorem gL.grows{w w':World}{v:Value}{l:List (Int × Ex × Ex)}(h:gL w v l)(hg:w.Grows w'):gL w' v l:=by
 obtain⟨h0,a,cap,hv,h1⟩:=h;refine⟨h0,a,cap,hv,h1.imp id ?_⟩;rintro⟨b,off,ha,hb,hc⟩;have:=hg.below.size;exact⟨b,off,ha,by omega,fun i hi=>by obtain⟨u,u',hu⟩:=hc i hi;exact⟨u,u',hu.same hg hb⟩⟩
theorem oJ.grows{w w':World}{v:Value}{l:List (Int × Ex)}(h:oJ w v l)(hg:w.Grows w'):oJ w' v l:=by
 exact Tu
structure wh(w:World)(V:dK)(v3 v4 v5 v6 v7:Value):Prop where
 cr:jr 2 w v3 (V.cr.map Prod.fst)
 se:jr 3 w v4 (V.se.map Prod.fst)
 le:LetsAt w v5 V.le
 gr:gL w v6 V.gr
 re:oJ w v7 V.re
theorem wh.grows{w w':World}{V:dK}{v3 v4 v5 v6 v7:Value}(h:wh w V v3 v4 v5 v6 v7)(hg:w.Grows w'):wh w' V v3 v4 v5 v6 v7:=⟨h.cr.grows hg,h.se.grows hg,h.le.grows hg,h.gr.grows hg,h.re.grows hg⟩
theorem bK.nums{T:TypeId}{c base:Nat}{w:World}{v:Value}{l:List (List Value)}{rs:List (Ex × Value)}{ns:List Int}(h:bI T c base w v l rs)(hc:0<c)(hl:l.length=ns.length)(h1000:ns.length<=1000)(h0:∀i,i<ns.length->(l.getD i [])[0]? =some (.int .i64 (ns.getD i 0))):jr c w v ns:=by
 obtain⟨a,cap,hv,hx⟩:=h.cells;rw [hl]at hv hx;refine⟨h1000,a,cap,hv,hx.imp id ?_⟩;rintro⟨g,ha,hb,hlt,hx⟩;exact⟨g,0,ha,hlt,fun i hi=>by rw [Nat.zero_add];exact hx i 0 _ hi hc (h0 i hi)⟩
theorem bK.verC{B:Nat}{w:World}{V:dK}{v3 v4 v5 v6 v7:Value}(h:bK B w V v3 v4 v5 v6 v7)(hl:V.cr.length<=1000/\V.se.length<=1000/\V.le.length<=1000/\V.gr.length<=1000/\V.re.length<=1000):wh w V v3 v4 v5 v6 v7:=by
 have hle:=h.lets hl.2.2.1;obtain⟨ql,qg,qr,H1,H2,H3,H4,H5,e1,e2,e3,ord,r1,r2,r3,r4,r5⟩:=h;refine⟨bK.nums r1.toG zb zK zg (fun i hi=>?_),bK.nums r2.toG zb zL zg (fun i hi=>?_),hle, ?_, ?_⟩
 ·rw [length_map]at hi;simp [crL,getD_eq_getElem?_getD,getElem?_map,getElem?_eq_getElem hi]
 ·rw [length_map]at hi;simp [seL,getD_eq_getElem?_getD,getElem?_map,getElem?_eq_getElem hi]
 ·obtain⟨a,cap,hv,hc⟩:=r4.toG.cells;have hlen:(grL qg).length=V.gr.length:=by rw [<-e2];simp [grL]
  rw [hlen]at hv hc;refine⟨hl.2.2.2.1,a,cap,hv,hc.imp id ?_⟩;rintro⟨g,ha,hb,hlt,hx⟩;refine⟨g,0,ha,hlt,fun i hi=>?_⟩;obtain⟨⟨n,⟨e,v⟩,⟨e',v'⟩⟩,hta,htl⟩:=Ap e2 hi;have hget:(grL qg).getD i []= .int .i64 n::(aZ e v++aZ e' v'):=by simp [grL,getD_eq_getElem?_getD,getElem?_map,hta]
  have hle:V.gr.getD i default=(n,e,e'):=by rw [getD_eq_getElem?_getD,htl];rfl
  have h7:=fun j u hj hu=>hx i j u hi hj (by rw [hget];exact hu);have hm:=List.mem_of_getElem? hta;rw [hle,show 0+i*13=i*13 by omega]
  exact⟨v,v',h7 0 _ zb rfl,h7 1 _ zb rfl,h7 2 _ zb rfl,h7 3 _ zb rfl,h7 4 _ zb rfl,h7 5 _ zb rfl,h7 6 _ zb rfl,h7 7 _ zb rfl,h7 8 _ zb rfl,h7 9 _ zb rfl,h7 10 _ zb rfl,h7 11 _ zb rfl,h7 12 _ zb rfl,
   (r4.rep (e,v) yX).mono fun _ _=>trivial,(r4.rep (e',v') yX).mono fun _ _=>trivial⟩
 ·obtain⟨a,cap,hv,hc⟩:=r5.cells;have hlen:(reL qr).length=V.re.length:=by rw [<-e3];simp [reL]
  rw [hlen]at hv hc;refine⟨hl.2.2.2.2,a,cap,hv,hc.imp id ?_⟩;rintro⟨g,ha,hb,hlt,hx⟩;refine⟨g,0,ha,hlt,fun i hi=>?_⟩;obtain⟨⟨n,e,v⟩,hta,htl⟩:=Ap e3 hi;have hget:(reL qr).getD i []= .int .i64 n::aZ e v:=by simp [reL,getD_eq_getElem?_getD,getElem?_map,hta]
  have hle:V.re.getD i default=(n,e):=by rw [getD_eq_getElem?_getD,htl];rfl
  have h7:=fun j u hj hu=>hx i j u hi hj (by rw [hget];exact hu);rw [hle,show 0+i*7=i*7 by omega];exact⟨v,h7 0 _ zb rfl,h7 1 _ zb rfl,h7 2 _ zb rfl,h7 3 _ zb rfl,h7 4 _ zb rfl,h7 5 _ zb rfl,h7 6 _ zb rfl,(r5.rep (e,v) (mem_map.2 ⟨_,List.mem_of_getElem? hta,rfl⟩)).mono fun _ _=>trivial⟩
def fP(c:Nat)(w:World)(v:Value)(n:Nat):Prop:=
 ∃a cap,v= .slice a n cap/\(n=0\/∃b off,a=some ⟨b,off,none⟩/\b<w.heap.size/\∀i,i<n->∀j,j<c->∃z,w.cell? ⟨b,off+i*c+j,none⟩=some (.int .i64 z))
theorem fP.grows{c:Nat}{w w':World}{v:Value}{n:Nat}(h:fP c w v n)(hg:w.Grows w'):fP c w' v n:=by
 obtain⟨a,cap,hv,h1⟩:=h;refine⟨a,cap,hv,h1.imp id ?_⟩;rintro⟨b,off,ha,hb,hc⟩;have:=hg.below.size;exact⟨b,off,ha,by omega,fun i hi j hj=>(hc i hi j hj).imp fun z hz=>(World.cell?_of_block (hg.below.block b hb)).trans hz⟩
theorem fP.of{T:TypeId}{c base:Nat}{w:World}{v:Value}{l:List (List Value)}{rs:List (Ex × Value)}{n:Nat}(h:bI T c base w v l rs)(hl:l.length=n)(h0:∀i,i<n->∀j,j<c->∃z,(l.getD i [])[j]? =some (.int .i64 z)):fP c w v n:=by
 obtain⟨a,cap,hv,hx⟩:=h.cells;rw [hl]at hv hx;refine⟨a,cap,hv,hx.imp id ?_⟩;rintro⟨g,ha,hb,hlt,hx⟩;exact⟨g,0,ha,hlt,fun i hi j hj=>(h0 i hi j hj).imp fun z hz=>by rw [Nat.zero_add];exact hx i j _ hi hj hz⟩
theorem bK.numsX{B:Nat}{w:World}{V:dK}{v3 v4 v5 v6 v7:Value}(h:bK B w V v3 v4 v5 v6 v7):fP 2 w v3 V.cr.length/\fP 3 w v4 V.se.length:=by
 obtain⟨ql,qg,qr,H1,H2,H3,H4,H5,e1,e2,e3,ord,r1,r2,r3,r4,r5⟩:=h;refine⟨fP.of r1.toG zK fun i hi j hj=>?_,fP.of r2.toG zL fun i hi j hj=>?_⟩
 ·have hg:(crL V.cr).getD i []= [.int .i64 (V.cr[i]).1,.int .i64 (V.cr[i]).2]:=by simp [crL,getD_eq_getElem?_getD,getElem?_map,getElem?_eq_getElem hi]
  rw [hg];rcases(show j=0\/j=1 by omega)with rfl|rfl
  ·exact⟨_,rfl⟩
  ·exact⟨_,rfl⟩
 ·have hg:(seL V.se).getD i []= [.int .i64 (V.se[i]).1,.int .i64 (V.se[i]).2.1,.int .i64 (V.se[i]).2.2]:=by simp [seL,getD_eq_getElem?_getD,getElem?_map,getElem?_eq_getElem hi]
  rw [hg];rcases(show j=0\/j=1\/j=2 by omega)with rfl|rfl|rfl
  ·exact⟨_,rfl⟩
  ·exact⟨_,rfl⟩
  ·exact⟨_,rfl⟩
def iM(v:Value):Prop:=∀a n c,v= .slice a n c->n<=c
theorem bI.capOk{T:TypeId}{c base:Nat}{w:World}{v:Value}{l:List (List Value)}{rs:List (Ex × Value)}(h:bI T c base w v l rs):iM v:=by
 intro a n k hv;rcases h.own.2 with ⟨rfl,-⟩|⟨g,cap,cur,rfl,-,-,hle,-⟩
 ·simp only [Value.slice.injEq]at hv;omega
 ·simp only [Value.slice.injEq]at hv;omega
theorem bK.caps{B:Nat}{w:World}{V:dK}{v3 v4 v5 v6 v7:Value}(h:bK B w V v3 v4 v5 v6 v7):iM v3/\iM v6/\iM v7:=by
 obtain⟨ql,qg,qr,H1,H2,H3,H4,H5,e1,e2,e3,ord,r1,r2,r3,r4,r5⟩:=h;exact⟨r1.toG.capOk,r4.toG.capOk,r5.capOk⟩
def wu(c:Nat)(g:FuncId)(lb:Array Value)(p:Nat->Bool)(w:World)(v:Value)(n:Nat):Prop:=
 n<=1000/\∃a cap,v= .slice a n cap/\(n=0\/∃b off,a=some ⟨b,off,none⟩/\b<w.heap.size/\∀k,k<n->∃L:List Value,L.length=c/\(∀(j:Nat) (x:Value),L[j]? =some x->w.cell? ⟨b,off+k*c+j,none⟩=some x)/\
  ∀w',w.Grows w'->Calls prog g (#[.agg L.toArray]++lb) w' fun r w''=>r= .returned (.bool (p k))/\w'.Grows w'')
theorem Mk(g:FuncId)(lb:Array Value)(eg:∀args w,(callFunc g args).run prog w= .ok (.enter g args) w)(p:Nat->Bool)(v:Value)(n:Nat)(w:World)(h:wu 2 g lb p w v n) :
 Calls prog 161 #[v,.func (.func g) #[] lb] w fun r w'=>(∃z,r= .returned (.int .i64 z)/\FE n p z)/\w.Grows w':=by
 obtain⟨hlen,a,cap,rfl,hc⟩:=h;have Hc:=yq hc;clear hc
 go_enter func161,ntmps161
 go_wp2_with fail
 go_loopw [5,8] (fun _ v8 wr=>∃k:Nat,k<=n/\v8= .int .i64 k/\Hid (∀j,j<k->p j=false)/\w.Grows wr) (fun _ v8 _=>n-(intOf v8).toNat)
 case atStart=>exact⟨0,by omega,rfl,yq (fun j hj=>by omega),.refl _⟩
 case round=>
  obtain⟨k,hk,rfl,hno,hgr⟩:=hrel;have HG:=yq hgr;by_cases hlt2:k<n
  ·rcases Hc.out with h0|⟨b,off,rfl,hbw,hx⟩
   ·omega
   ·obtain⟨L,hL,hcell,hcl⟩:=hx k hlt2
    obtain⟨x0,x1,rfl⟩:∃x0 x1,L= [x0,x1]:=by
     match L,hL with
     | [x0,x1],_=>exact⟨_,_,rfl⟩
    have y0:wr.cell? ⟨b,off+k*2,none⟩=some x0:=by rw [hgr.below.cell (p:=⟨b,off+k*2,none⟩) hbw];exact hcell 0 _ rfl
    have y1:wr.cell? ⟨b,off+k*2+1,none⟩=some x1:=by rw [hgr.below.cell (p:=⟨b,off+k*2+1,none⟩) hbw];exact hcell 1 _ rfl
    have hcall:=hcl _ hgr;clear hx hcell hcl hL;have d1:(k:Int)<(n:Int):=by omega
    have HLT:=yq hlt2;clear hgr
    cases hq:p k with
    |true=>
     rw [hq]at hcall;have HQ:=yq hq;clear hq;have HCL:=yq hcall;clear hcall
     go_wp2_with (go_at_fn g;refine HCL.out.mono ?_;rintro e' w' ⟨rfl,hg2⟩;have HG2:=yq hg2;clear hg2)
     go_returns
     exact⟨⟨_,rfl,.inr ⟨k,HLT.out,rfl,HQ.out⟩⟩,World.Grows.trans HG.out HG2.out⟩
    |false=>
     rw [hq]at hcall;have HQ:=yq hq;clear hq;have HCL:=yq hcall;clear hcall
     go_wp2_with (go_at_fn g;refine HCL.out.mono ?_;rintro e' w' ⟨rfl,hg2⟩;have HG2:=yq hg2;clear hg2)
     go_roundw
     case rel=>exact⟨k+1,by omega,by go_num,yq (fun j hj=>by
      by_cases ej:j=k
      ·subst ej;exact HQ.out
      ·exact hno.out j zb),World.Grows.trans HG.out HG2.out⟩
     case measure=>simp [intOf];omega
  ·obtain rfl:k=n:=by omega
   clear hgr
   go_wp2_with fail
   go_returns
   exact⟨⟨_,rfl,.inl ⟨rfl,hno.out⟩⟩,HG.out⟩
theorem Mr(g:FuncId)(lb:Array Value)(eg:∀args w,(callFunc g args).run prog w= .ok (.enter g args) w)(p:Nat->Bool)(v:Value)(n:Nat)(w:World)(h:wu 2 g lb p w v n) :
 Calls prog 118 #[v,.func (.func g) #[] lb] w fun r w'=>r= .returned (.bool ((List.range n).any p))/\w.Grows w':=by
 have HI:=yq (Mk g lb eg p v n w h);obtain⟨-,a,cap,rfl,-⟩:=h;generalize hX:(List.range n).any p=X;have HX:=yq hX;clear hX
 go_enter func118,ntmps118
 go_wp2_with (go_at_call 161;refine HI.out.mono ?_;rintro e' w' ⟨⟨z,rfl,hz⟩,bs2,d2,rfl⟩;have HZ:=yq hz.any;clear hz)
 go_returns
 exact⟨av zZ,.of_below af⟩
theorem uG(g:FuncId)(lb:Array Value)(eg:∀args w,(callFunc g args).run prog w= .ok (.enter g args) w)(p:Nat->Bool)(v:Value)(n:Nat)(w:World)(h:wu 13 g lb p w v n) :
 Calls prog 65 #[v,.func (.func g) #[] lb] w fun r w'=>(∃z,r= .returned (.int .i64 z)/\FE n p z)/\w.Grows w':=by
 obtain⟨hlen,a,cap,rfl,hc⟩:=h;have Hc:=yq hc;clear hc
 go_enter func65,ntmps65
 go_wp2_with fail
 go_loopw [5,8] (fun _ v8 wr=>∃k:Nat,k<=n/\v8= .int .i64 k/\Hid (∀j,j<k->p j=false)/\w.Grows wr) (fun _ v8 _=>n-(intOf v8).toNat)
 case atStart=>exact⟨0,by omega,rfl,yq (fun j hj=>by omega),.refl _⟩
 case round=>
  obtain⟨k,hk,rfl,hno,hgr⟩:=hrel;have HG:=yq hgr;by_cases hlt2:k<n
  ·rcases Hc.out with h0|⟨b,off,rfl,hbw,hx⟩
   ·omega
   ·obtain⟨L,hL,hcell,hcl⟩:=hx k hlt2
    obtain⟨x0,x1,x2,x3,x4,x5,x6,x7,x8,x9,x10,x11,x12,rfl⟩:∃x0 x1 x2 x3 x4 x5 x6 x7 x8 x9 x10 x11 x12,L= [x0,x1,x2,x3,x4,x5,x6,x7,x8,x9,x10,x11,x12]:=by
     match L,hL with
     | [x0,x1,x2,x3,x4,x5,x6,x7,x8,x9,x10,x11,x12],_=>exact⟨_,_,_,_,_,_,_,_,_,_,_,_,_,rfl⟩
    have y0:wr.cell? ⟨b,off+k*13,none⟩=some x0:=by rw [hgr.below.cell (p:=⟨b,off+k*13,none⟩) hbw];exact hcell 0 _ rfl
    have y1:wr.cell? ⟨b,off+k*13+1,none⟩=some x1:=by rw [hgr.below.cell (p:=⟨b,off+k*13+1,none⟩) hbw];exact hcell 1 _ rfl
    have y2:wr.cell? ⟨b,off+k*13+2,none⟩=some x2:=by rw [hgr.below.cell (p:=⟨b,off+k*13+2,none⟩) hbw];exact hcell 2 _ rfl
    have y3:wr.cell? ⟨b,off+k*13+3,none⟩=some x3:=by rw [hgr.below.cell (p:=⟨b,off+k*13+3,none⟩) hbw];exact hcell 3 _ rfl
    have y4:wr.cell? ⟨b,off+k*13+4,none⟩=some x4:=by rw [hgr.below.cell (p:=⟨b,off+k*13+4,none⟩) hbw];exact hcell 4 _ rfl
    have y5:wr.cell? ⟨b,off+k*13+5,none⟩=some x5:=by rw [hgr.below.cell (p:=⟨b,off+k*13+5,none⟩) hbw];exact hcell 5 _ rfl
    have y6:wr.cell? ⟨b,off+k*13+6,none⟩=some x6:=by rw [hgr.below.cell (p:=⟨b,off+k*13+6,none⟩) hbw];exact hcell 6 _ rfl
    have y7:wr.cell? ⟨b,off+k*13+7,none⟩=some x7:=by rw [hgr.below.cell (p:=⟨b,off+k*13+7,none⟩) hbw];exact hcell 7 _ rfl
    have y8:wr.cell? ⟨b,off+k*13+8,none⟩=some x8:=by rw [hgr.below.cell (p:=⟨b,off+k*13+8,none⟩) hbw];exact hcell 8 _ rfl
    have y9:wr.cell? ⟨b,off+k*13+9,none⟩=some x9:=by rw [hgr.below.cell (p:=⟨b,off+k*13+9,none⟩) hbw];exact hcell 9 _ rfl
    have y10:wr.cell? ⟨b,off+k*13+10,none⟩=some x10:=by rw [hgr.below.cell (p:=⟨b,off+k*13+10,none⟩) hbw];exact hcell 10 _ rfl
    have y11:wr.cell? ⟨b,off+k*13+11,none⟩=some x11:=by rw [hgr.below.cell (p:=⟨b,off+k*13+11,none⟩) hbw];exact hcell 11 _ rfl
    have y12:wr.cell? ⟨b,off+k*13+12,none⟩=some x12:=by rw [hgr.below.cell (p:=⟨b,off+k*13+12,none⟩) hbw];exact hcell 12 _ rfl
    have hcall:=hcl _ hgr;clear hx hcell hcl hL;have d1:(k:Int)<(n:Int):=by omega
    have HLT:=yq hlt2;clear hgr
    cases hq:p k with
    |true=>
     rw [hq]at hcall;have HQ:=yq hq;clear hq;have HCL:=yq hcall;clear hcall
     go_wp2_with (go_at_fn g;refine HCL.out.mono ?_;rintro e' w' ⟨rfl,hg2⟩;have HG2:=yq hg2;clear hg2)
     go_returns
     exact⟨⟨_,rfl,.inr ⟨k,HLT.out,rfl,HQ.out⟩⟩,World.Grows.trans HG.out HG2.out⟩
    |false=>
     rw [hq]at hcall;have HQ:=yq hq;clear hq;have HCL:=yq hcall;clear hcall
     go_wp2_with (go_at_fn g;refine HCL.out.mono ?_;rintro e' w' ⟨rfl,hg2⟩;have HG2:=yq hg2;clear hg2)
     go_roundw
     case rel=>exact⟨k+1,by omega,by go_num,yq (fun j hj=>by
      by_cases ej:j=k
      ·subst ej;exact HQ.out
      ·exact hno.out j zb),World.Grows.trans HG.out HG2.out⟩
     case measure=>simp [intOf];omega
  ·obtain rfl:k=n:=by omega
   clear hgr
   go_wp2_with fail
   go_returns
   exact⟨⟨_,rfl,.inl ⟨rfl,hno.out⟩⟩,HG.out⟩
theorem Mq(g:FuncId)(lb:Array Value)(eg:∀args w,(callFunc g args).run prog w= .ok (.enter g args) w)(p:Nat->Bool)(v:Value)(n:Nat)(w:World)(h:wu 13 g lb p w v n) :
 Calls prog 120 #[v,.func (.func g) #[] lb] w fun r w'=>r= .returned (.bool ((List.range n).any p))/\w.Grows w':=by
 have HI:=yq (uG g lb eg p v n w h);obtain⟨-,a,cap,rfl,-⟩:=h;generalize hX:(List.range n).any p=X;have HX:=yq hX;clear hX
 go_enter func120,ntmps120
 go_wp2_with (go_at_call 65;refine HI.out.mono ?_;rintro e' w' ⟨⟨z,rfl,hz⟩,bs2,d2,rfl⟩;have HZ:=yq hz.any;clear hz)
 go_returns
 exact⟨av zZ,.of_below af⟩
theorem Mi(g:FuncId)(lb:Array Value)(eg:∀args w,(callFunc g args).run prog w= .ok (.enter g args) w)(p:Nat->Bool)(v:Value)(n:Nat)(w:World)(h:wu 7 g lb p w v n) :
 Calls prog 162 #[v,.func (.func g) #[] lb] w fun r w'=>(∃z,r= .returned (.int .i64 z)/\FE n p z)/\w.Grows w':=by
 obtain⟨hlen,a,cap,rfl,hc⟩:=h;have Hc:=yq hc;clear hc
 go_enter func162,ntmps162
 go_wp2_with fail
 go_loopw [5,8] (fun _ v8 wr=>∃k:Nat,k<=n/\v8= .int .i64 k/\Hid (∀j,j<k->p j=false)/\w.Grows wr) (fun _ v8 _=>n-(intOf v8).toNat)
 case atStart=>exact⟨0,by omega,rfl,yq (fun j hj=>by omega),.refl _⟩
 case round=>
  obtain⟨k,hk,rfl,hno,hgr⟩:=hrel;have HG:=yq hgr;by_cases hlt2:k<n
  ·rcases Hc.out with h0|⟨b,off,rfl,hbw,hx⟩
   ·omega
   ·obtain⟨L,hL,hcell,hcl⟩:=hx k hlt2
    obtain⟨x0,x1,x2,x3,x4,x5,x6,rfl⟩:∃x0 x1 x2 x3 x4 x5 x6,L= [x0,x1,x2,x3,x4,x5,x6]:=by
     match L,hL with
     | [x0,x1,x2,x3,x4,x5,x6],_=>exact⟨_,_,_,_,_,_,_,rfl⟩
    have y0:wr.cell? ⟨b,off+k*7,none⟩=some x0:=by rw [hgr.below.cell (p:=⟨b,off+k*7,none⟩) hbw];exact hcell 0 _ rfl
    have y1:wr.cell? ⟨b,off+k*7+1,none⟩=some x1:=by rw [hgr.below.cell (p:=⟨b,off+k*7+1,none⟩) hbw];exact hcell 1 _ rfl
    have y2:wr.cell? ⟨b,off+k*7+2,none⟩=some x2:=by rw [hgr.below.cell (p:=⟨b,off+k*7+2,none⟩) hbw];exact hcell 2 _ rfl
    have y3:wr.cell? ⟨b,off+k*7+3,none⟩=some x3:=by rw [hgr.below.cell (p:=⟨b,off+k*7+3,none⟩) hbw];exact hcell 3 _ rfl
    have y4:wr.cell? ⟨b,off+k*7+4,none⟩=some x4:=by rw [hgr.below.cell (p:=⟨b,off+k*7+4,none⟩) hbw];exact hcell 4 _ rfl
    have y5:wr.cell? ⟨b,off+k*7+5,none⟩=some x5:=by rw [hgr.below.cell (p:=⟨b,off+k*7+5,none⟩) hbw];exact hcell 5 _ rfl
    have y6:wr.cell? ⟨b,off+k*7+6,none⟩=some x6:=by rw [hgr.below.cell (p:=⟨b,off+k*7+6,none⟩) hbw];exact hcell 6 _ rfl
    have hcall:=hcl _ hgr;clear hx hcell hcl hL;have d1:(k:Int)<(n:Int):=by omega
    have HLT:=yq hlt2;clear hgr
    cases hq:p k with
    |true=>
     rw [hq]at hcall;have HQ:=yq hq;clear hq;have HCL:=yq hcall;clear hcall
     go_wp2_with (go_at_fn g;refine HCL.out.mono ?_;rintro e' w' ⟨rfl,hg2⟩;have HG2:=yq hg2;clear hg2)
     go_returns
     exact⟨⟨_,rfl,.inr ⟨k,HLT.out,rfl,HQ.out⟩⟩,World.Grows.trans HG.out HG2.out⟩
    |false=>
     rw [hq]at hcall;have HQ:=yq hq;clear hq;have HCL:=yq hcall;clear hcall
     go_wp2_with (go_at_fn g;refine HCL.out.mono ?_;rintro e' w' ⟨rfl,hg2⟩;have HG2:=yq hg2;clear hg2)
     go_roundw
     case rel=>exact⟨k+1,by omega,by go_num,yq (fun j hj=>by
      by_cases ej:j=k
      ·subst ej;exact HQ.out
      ·exact hno.out j zb),World.Grows.trans HG.out HG2.out⟩
     case measure=>simp [intOf];omega
  ·obtain rfl:k=n:=by omega
   clear hgr
   go_wp2_with fail
   go_returns
   exact⟨⟨_,rfl,.inl ⟨rfl,hno.out⟩⟩,HG.out⟩
theorem Mo(g:FuncId)(lb:Array Value)(eg:∀args w,(callFunc g args).run prog w= .ok (.enter g args) w)(p:Nat->Bool)(v:Value)(n:Nat)(w:World)(h:wu 7 g lb p w v n) :
 Calls prog 123 #[v,.func (.func g) #[] lb] w fun r w'=>r= .returned (.bool ((List.range n).any p))/\w.Grows w':=by
 have HI:=yq (Mi g lb eg p v n w h);obtain⟨-,a,cap,rfl,-⟩:=h;generalize hX:(List.range n).any p=X;have HX:=yq hX;clear hX
 go_enter func123,ntmps123
 go_wp2_with (go_at_call 162;refine HI.out.mono ?_;rintro e' w' ⟨⟨z,rfl,hz⟩,bs2,d2,rfl⟩;have HZ:=yq hz.any;clear hz)
 go_returns
 exact⟨av zZ,.of_below af⟩
def sJ(ls:List (ByteArray × Ex)):Prop:=∀t∈ls,t.1.size<=140737488355328/\t.2.size<=1000000
def kV(r:List (ByteArray × Int) × Int)(w:World)(e:Ending)(w':World):Prop:=∃x,e= .returned (.tuple #[x,.int .i64 r.2])/\w.Grows w'/\aR w' x r.1
theorem kV.bad{r:List (ByteArray × Int) × Int}{c:Int}{w w':World}(h:r=([],c))(hg:w.Grows w'):kV r w (.returned (.tuple #[.slice none 0 0,.int .i64 c])) w':=by
 subst h;exact⟨_,rfl,hg,by simp,none,0,rfl,.inl rfl⟩
theorem rA{env:List (ByteArray × Int)}{s:ByteArray}{e:Ex}(h:df s.toList≠0\/dI s=false):fA env (s,e)=5:=by unfold fA;rw [if_pos h]
theorem uh{env:List (ByteArray × Int)}{s:ByteArray}{e:Ex}(h:df s.toList=0)(h2:dI s=true)(h3:env.any (fun p=>decide (p.1=s))=true):fA env (s,e)=10:=by
 unfold fA;rw [if_neg (by rw [h2];simp [h]),if_pos h3]
theorem ug{env:List (ByteArray × Int)}{s:ByteArray}{e:Ex}(h:df s.toList=0)(h2:dI s=true)(h3:env.any (fun p=>decide (p.1=s))=false):fA env (s,e)=(aQ env e).2:=by
 unfold fA;rw [if_neg (by rw [h2];simp [h]),if_neg (by rw [h3];simp)]
theorem getD_mem{α:Type}[Inhabited α]{l:List α}{k:Nat}(h:k<l.length):l.getD k default∈l:=by
 rw [getD_eq_getElem?_getD,getElem?_eq_getElem h];exact getElem_mem h
theorem tJ{k:Nat}{p:Nat->Bool}(h:∀j,j<k->p j=false):(List.range k).any p=false:=by
 rw [Bool.eq_false_iff];intro hc;obtain⟨j,hj,hp⟩:=any_eq_true.1 hc;rw [h j (mem_range.1 hj)]at hp;cases hp
theorem tH{k:Nat}{p:Nat->Bool}(j:Nat)(h:j<k)(hp:p j=true):(List.range k).any p=true:=any_eq_true.2 ⟨j,mem_range.2 h,hp⟩
theorem Sd(env:List (ByteArray × Int))(s:ByteArray):((List.range env.length).any fun k=>decide (bdN env k=s))=env.any fun p=>decide (p.1=s):=by
 rw [Bool.eq_iff_iff,any_eq_true,any_eq_true];constructor
 ·rintro⟨k,hk,hp⟩;have hk:=mem_range.1 hk;refine⟨env[k],getElem_mem hk, ?_⟩;unfold bdN at hp;simpa [getD_eq_getElem?_getD,getElem?_eq_getElem hk]using hp
 ·rintro⟨p,hp,hs⟩;obtain⟨k,hk,rfl⟩:=mem_iff_getElem.1 hp;refine⟨k,mem_range.2 hk, ?_⟩;unfold bdN;simpa [getD_eq_getElem?_getD,getElem?_eq_getElem hk]using hs
theorem qi{a b:ByteArray}(h:a.toList=b.toList):a=b:=by
 rw [ByteArray.toList_eq,ByteArray.toList_eq]at h;exact ByteArray.ext (Array.ext' h)
theorem En(s:ByteArray)(l:List Ex):bT s l=(List.range l.length).any fun k=>aP s (l.getD k default):=by
 induction l with
 |nil=>rfl
 |cons e r ih=>
  rw [bT,ih,length_cons,range_succ_eq_map,any_cons,any_map];simp only [getD_cons_zero]
  congr 1
def mT(s:ByteArray)(e:Ex)(k:Nat):Bool:=bT s (e.args.take k)
theorem Gn(s:ByteArray)(e:Ex)(k:Nat)(h:k<e.args.length)(h1:mT s e k=false)(h2:aP s (e.arg k)=false):mT s e (k+1)=false:=by
 unfold mT at *;rw [Ca _ _ _ h,h1,Bool.false_or];exact h2
theorem Eo(S:Nat->Prop)(s:ByteArray)(n:Nat):∀(e:Ex),e.size<=n->∀(v:Value) (w:World),ax S w e v->(Calls prog 50 #[exV e v,.string s] w fun r w'=>r= .returned (.bool (aP s e))/\w.Grows w'):=by
 induction n with
 |zero=>intro e he;have:=e.size_pos;omega
 |succ n ih=>
  intro e he v w h;have HF:=yq (Cb s e);have IH:=yq ih;clear ih
  cases h with
  |mk _ a cap vs hr hc hs=>
   have hlen:=hr.len;have Hs:=yq hs;have He:=yq he;have Hc:=yq hc;clear hr hs he hc;by_cases ho:e.op=2
   ·by_cases hn:e.name=s
    ·have HH:Hid (aP s e=true):=yq yW;have n2:(e.name.toList==s.toList)=true:=by rw [hn];simp
     clear HF hn
     go_enter func50,ntmps50
     go_wp2_with fail
     go_returns
     exact⟨av HH.out.symm,.of_below af⟩
    ·have HQ:Hid ((decide (e.op=2)&&decide (e.name=s))=false):=yq (by rw [decide_eq_false hn,Bool.and_false]);have n2:(e.name.toList==s.toList)=false:=by rw [beq_eq_false_iff_ne];exact fun h=>hn (qi h)
     clear hn
     go_enter func50,ntmps50
     go_wp2_with fail
     go_loopw [5] (fun vk wr=>∃k:Nat,k<=e.args.length/\vk= .int .i64 k/\Hid (mT s e k=false)/\
      ∃(x0 x1 x2 x3:Int) (x4:ByteArray),World.Grows (w.alloc (.cells #[.int .i64 x0,.int .i64 x1,.int .i64 x2,.int .i64 x3,.string x4,.slice a e.args.length cap] 27)) wr) (fun vk _=>e.args.length-(intOf vk).toNat)
     case atStart=>exact⟨0,by omega,rfl,yq rfl,_,_,_,_,_,.of_below af⟩
     case round=>
      obtain⟨k,hk,rfl,HT,x0,x1,x2,x3,x4,bs,d,rfl⟩:=hrel;by_cases hlt:k<e.args.length
      ·rcases Hc.out with h0|⟨b,off,rfl,hS,hbw,hx⟩
       ·omega
       ·obtain⟨y0,y1,y2,y3,y4,y5⟩:=hx k hlt;clear hx;have hlt1:(k:Int)<(e.args.length:Int):=by omega
        have HA:=yq (e.size_arg k hlt);cases hb:aP s (e.arg k)
        ·have HB:=yq hb;clear hb
         go_wp2_with fail
         refine gv (IH.out (e.arg k) zF (vs k) _ (((Hs.out k hlt).alloc _).grow _ _)) ?_;intro bs2 d2;simp only [HB.out]
         go_wp2_with fail
         go_roundw
         case rel=>exact⟨k+1,by omega,by go_num,yq (Gn s e k hlt HT.out HB.out),x0,x1,x2,x3,x4,.of_below af⟩
         case measure=>simp [intOf];omega
        ·have HB:=yq hb;clear hb
         go_wp2_with fail
         refine gv (IH.out (e.arg k) zF (vs k) _ (((Hs.out k hlt).alloc _).grow _ _)) ?_;intro bs2 d2;simp only [HB.out]
         go_wp2_with fail
         go_returns
         exact⟨av yY,.of_below af⟩
      ·obtain rfl:k=e.args.length:=by omega
       have HT2:Hid (bT s e.args=false):=yq yP;clear HT
       go_wp2_with fail
       go_returns
       exact⟨av (by rw [HF.out,HT2.out,HQ.out];rfl),.of_below af⟩
   ·have HQ:Hid ((decide (e.op=2)&&decide (e.name=s))=false):=yq (by rw [decide_eq_false ho,Bool.false_and]);have p2:(e.op==2)=false:=by simpa using ho
    clear ho
    go_enter func50,ntmps50
    go_wp2_with fail
    go_loopw [5] (fun vk wr=>∃k:Nat,k<=e.args.length/\vk= .int .i64 k/\Hid (mT s e k=false)/\
     ∃(x0 x1 x2 x3:Int) (x4:ByteArray),World.Grows (w.alloc (.cells #[.int .i64 x0,.int .i64 x1,.int .i64 x2,.int .i64 x3,.string x4,.slice a e.args.length cap] 27)) wr) (fun vk _=>e.args.length-(intOf vk).toNat)
    case atStart=>exact⟨0,by omega,rfl,yq rfl,_,_,_,_,_,.of_below af⟩
    case round=>
     obtain⟨k,hk,rfl,HT,x0,x1,x2,x3,x4,bs,d,rfl⟩:=hrel;by_cases hlt:k<e.args.length
     ·rcases Hc.out with h0|⟨b,off,rfl,hS,hbw,hx⟩
      ·omega
      ·obtain⟨y0,y1,y2,y3,y4,y5⟩:=hx k hlt;clear hx;have hlt1:(k:Int)<(e.args.length:Int):=by omega
       have HA:=yq (e.size_arg k hlt);cases hb:aP s (e.arg k)
       ·have HB:=yq hb;clear hb
        go_wp2_with fail
        refine gv (IH.out (e.arg k) zF (vs k) _ (((Hs.out k hlt).alloc _).grow _ _)) ?_;intro bs2 d2;simp only [HB.out]
        go_wp2_with fail
        go_roundw
        case rel=>exact⟨k+1,by omega,by go_num,yq (Gn s e k hlt HT.out HB.out),x0,x1,x2,x3,x4,.of_below af⟩
        case measure=>simp [intOf];omega
       ·have HB:=yq hb;clear hb
        go_wp2_with fail
        refine gv (IH.out (e.arg k) zF (vs k) _ (((Hs.out k hlt).alloc _).grow _ _)) ?_;intro bs2 d2;simp only [HB.out]
        go_wp2_with fail
        go_returns
        exact⟨av yY,.of_below af⟩
     ·obtain rfl:k=e.args.length:=by omega
      have HT2:Hid (bT s e.args=false):=yq yP;clear HT
      go_wp2_with fail
      go_returns
      exact⟨av (by rw [HF.out,HT2.out,HQ.out];rfl),.of_below af⟩
theorem wV(S:Nat->Prop)(s:ByteArray)(e:Ex)(v:Value)(w:World)(h:ax S w e v):(Calls prog 50 #[exV e v,.string s] w fun r w'=>r= .returned (.bool (aP s e))/\w.Grows w'):=Eo S s e.size e (Nat.le_refl _) v w h
theorem IR:∀args w,(callFunc 152 args).run prog w= .ok (.enter 152 args) w:=enters_of func152 ze rfl
theorem Ep(S:Nat->Prop)(s:ByteArray)(n:Nat):∀(e:Ex),e.size<=n->∀(v:Value) (w:World),ax S w e v->
 Calls prog 105 #[exV e v,.string s] w fun r w'=>r= .returned (.bool (aP s e))/\w.Grows w':=by
 induction n with
 |zero=>intro e he;have:=e.size_pos;omega
 |succ n ih=>
  intro e he v w h;have HR:=yq h;have HF:=yq (Cb s e);have hany:=En s e.args;obtain⟨a,cap,rfl⟩:=h.form0
  have HC:Hid (∀w1 b,w1.heap[b]? =some (.cells #[.string s] 9 (0,0))->w.Grows w1->Calls prog 135 #[.slice a e.args.length cap,.func (.func 152) #[] #[.pointer (some ⟨b,0,none⟩)]] w1 fun r w''=>r= .returned (.bool (bT s e.args))/\w1.Grows w''):=yq (fun w1 b hb hg=>by
   have HB:=yq hb
   have:=nO S 152 #[.pointer (some ⟨b,0,none⟩)] IR e (.slice a e.args.length cap) (fun k=>aP s (e.arg k)) w1 (HR.out.grows hg) (yq (fun k hk ak ck w2 hg2 hR2=>by
    have hsm:=e.size_arg k hk;have IH:=yq (fun w3 h1=>ih (e.arg k) zb (.slice ak (e.arg k).args.length ck) w3 h1);have HR2:=yq hR2;have hb2:w2.heap[b]? =some (.cells #[.string s] 9 (0,0)):=(hg2.below.block b (Array.getElem?_eq_some_iff.1 HB.out).1).trans HB.out;have hbl:b<w2.heap.size:=(Array.getElem?_eq_some_iff.1 hb2).1;have x0:w2.cell? ⟨b,0,none⟩=some (.string s):=by rw [cell_of_row w2 b _ _ _ _ hb2];rfl
    dsimp only;generalize aP s (e.arg k)=q at *;clear hany HF HR hR2 ih hg hg2 hb HB hb2 h;generalize e.arg k=x at *;show Calls prog 152 #[exV x (.slice ak x.args.length ck),.pointer (some ⟨b,0,none⟩)] w2 _
    go_enter func152,ntmps152
    go_wp2_with (go_at_call 105;refine gv (IH.out _ (HR2.out.alloc _)) ?_;intro bs d)
    go_returns
    exact⟨av rfl,.of_below af⟩))
   rw [show(List.range e.args.length).any (fun k=>aP s (e.arg k))=bT s e.args from hany.symm]at this
   exact this)
  clear hany ih h;generalize bT s e.args=q at *;by_cases ho:e.op=2
  ·by_cases hn:e.name=s
   ·have HH:Hid (aP s e=true):=yq yW;have n2:(e.name.toList==s.toList)=true:=by rw [hn];simp
    clear HF hn
    go_enter func105,ntmps105
    go_wp2_with fail
    go_returns
    exact⟨av HH.out.symm,.of_below af⟩
   ·have HH:Hid (aP s e=q):=yq (by rw [HF.out,decide_eq_false hn,Bool.and_false,Bool.false_or]);have n2:(e.name.toList==s.toList)=false:=by rw [beq_eq_false_iff_ne];exact fun h=>hn (qi h)
    clear HF hn
    go_enter func105,ntmps105
    go_wp2_with (go_at_call 135;refine gv (HC.out _ _ (heap_new _ _ _ zd) (.of_below af)) ?_;intro bs d)
    go_returns
    exact⟨av HH.out.symm,.of_below af⟩
  ·have HH:Hid (aP s e=q):=yq (by rw [HF.out,decide_eq_false ho,Bool.false_and,Bool.false_or]);have p2:(e.op==2)=false:=by simpa using ho
   clear ho HF
   go_enter func105,ntmps105
   go_wp2_with (go_at_call 135;refine gv (HC.out _ _ (heap_new _ _ _ zd) (.of_below af)) ?_;intro bs d)
   go_returns
   exact⟨av HH.out.symm,.of_below af⟩
theorem wW(S:Nat->Prop)(s:ByteArray)(e:Ex)(v:Value)(w:World)(h:ax S w e v):Calls prog 105 #[exV e v,.string s] w fun r w'=>r= .returned (.bool (aP s e))/\w.Grows w':=Ep S s e.size e (Nat.le_refl _) v w h
theorem Nt(R:bW)(w:World)(h1:I64 R.frm)(h2:I64 R.mode)(h3:I64 R.unit)(h4:I64 R.twist)(ca:Option Addr)(sa:Option Addr)(la:Option Addr)(ia:Option Addr)(pa:Option Addr)(ua:Option Addr)(ccap:Nat)(scap:Nat)(lcap:Nat)(icap:Nat)(pcap:Nat)(ucap:Nat)(hcl:R.credits.length<=140737488355328)(hsl:R.series.length<=140737488355328)(hll:R.lets.length<=140737488355328)(hil:R.ifs.length<=140737488355328)(hpl:R.pays.length<=140737488355328)(hul:R.cuts.length<=140737488355328)(HCC:Hid (R.credits.length=0\/∃b off,ca=some ⟨b,off,none⟩/\b<w.heap.size/\∀(i:Nat),i<R.credits.length->w.cell? ⟨b,off+i,none⟩=some (.int .i64 (R.credits.getD i 0))))(HSC:Hid (R.series.length=0\/∃b off,sa=some ⟨b,off,none⟩/\b<w.heap.size/\∀(i:Nat),i<R.series.length->w.cell? ⟨b,off+i,none⟩=some (.int .i64 (R.series.getD i 0))))(HLC:Hid (R.lets.length=0\/∃b off,la=some ⟨b,off,none⟩/\b<w.heap.size/\∀(i:Nat),i<R.lets.length->∃u,w.cell? ⟨b,off+i,none⟩=some u/\aD w u (R.lets.getD i [])))(HIC:Hid (R.ifs.length=0\/∃b off,ia=some ⟨b,off,none⟩/\b<w.heap.size/\∀(i:Nat),i<R.ifs.length->∃u,w.cell? ⟨b,off+i,none⟩=some u/\aD w u (R.ifs.getD i [])))(HPC:Hid (R.pays.length=0\/∃b off,pa=some ⟨b,off,none⟩/\b<w.heap.size/\∀(i:Nat),i<R.pays.length->∃u,w.cell? ⟨b,off+i,none⟩=some u/\aD w u (R.pays.getD i [])))(HUC:Hid (R.cuts.length=0\/∃b off,ua=some ⟨b,off,none⟩/\b<w.heap.size/\∀(i:Nat),i<R.cuts.length->∃u,w.cell? ⟨b,off+i,none⟩=some u/\aD w u (R.cuts.getD i [])))(g:Nat)(wk:Nat)(wc:World)(vcr:Value)(H1:Nat)(hgH1:g<H1)(vse:Value)(H2:Nat)(hgH2:g<H2)(hH12:H1<=H2)(vle:Value)(H3:Nat)(ql:List (ByteArray × (Ex × Value)))(hgH3:g<H3)(hH23:H2<=H3)(eva:Option Addr)(evc:Nat)(vgr:Value)(H4:Nat)(qg:List GrT)(hgH4:g<H4)(hH34:H3<=H4)(vre:Value)(H5:Nat)(qr:List (Int × (Ex × Value)))(hcut:dx w (dS R (.slice ca R.credits.length ccap) (.slice sa R.series.length scap) (.slice la R.lets.length lcap) (.slice ia R.ifs.length icap) (.slice pa R.pays.length pcap) (.slice ua R.cuts.length ucap)) g #[.int .i64 (pick R.frm 73049),.int .i64 (pick R.mode 4+1),.int .i64 (aS (pick R.unit 5)),vcr,vse,vle,vgr,vre] wc/\aY 133 2 H1 (· <H2) wc vcr (bf R (gy R)) []/\aY 135 3 H2 (· <H3) wc vse (bH R (lX R)) []/\aY 63 7 H3 (· <H4) wc vle (fe ql) (ql.map (·.2))/\aY 86 13 H4 (· <H5) wc vgr (grL qg) (grR qg)/\(g<H5/\H4<=H5/\H5<=wc.heap.size)/\bI 138 7 H5 wc vre (reL qr) (qr.map (·.2))/\ReQ R (BX R) qr)(HQL:Hid (qW R (eZ R) ql))(HQG:Hid (GrQ R (vP R) qg))(u5 u6 u7 u8 u9 u11 u12 u13 u14 u15 u16 u17 u18 u19 u20 u21 u22 u23 u24 u25 u26 u27 u28 u29 u30 u31 u32 u33 u34 u35 u36 u37 u38 u39 u40 u41 u42 u43 u44 u45 u46 u47 u48 u49 u50 u51 u52 u53 u54 u55 u56 u57 u58 u59 u60 u61 u62 u63 u64 u65 u66 u67 u68 u69 u70 u71 u72 u73 u74 u75 u76 u77 u78 u79 u80 u81 u82 u83 u84 u85 u86 u87 u88 u89 u90 u91 u92 u93 u94 u95 u96 u97 u98 u99 u100 u101 u102 u103 u104 u105 u106 u107 u108 u109 u110 u111 u112 u113 u114 u115 u116 u117 u118 u119 u120 u121 u122 u123 u124 u125 u126 u127 u128 u129 u130 u131 u132 u133 u134 u135 u136 u137 u138 u139 u140 u141 u142 u143 u144 u145 u146 u147 u148 u149 u150 u151 u152 u153 u154 u155 u156 u157 u158 u159 u160 u161 u162 u163 u164 u165 u166 u167 u168 u169 u170 u171 u172 u173 u174 u175 u176 u177 u178 u179 u180 u181 u182 u183 u184 u185 u186 u187 u188 u189 u190 u191 u192 u193 u194 u195 u196 u197 u198 u199 u200 u201 u202 u203 u204 u205 u206 u207 u208 u209 u210 u211 u212 u213 u214 u215 u216 u217 u218 u219 u220 u221 u222 u223 u224 u225 u226 u227 u228 u229 u230 u231 u232 u233 u234 u235 u236 u237 u238 u239:Value) :
 Code.wp prog (tlC (tlC (tlC (tlC (tlC (tlC (tlC (tlC (tlC (f26.body.getD .skip)))))))))) (bodyPost prog f26 (OfPost R w)) {tmps:=#[(.agg (dS R (.slice ca R.credits.length ccap) (.slice sa R.series.length scap) (.slice la R.lets.length lcap) (.slice ia R.ifs.length icap) (.slice pa R.pays.length pcap) (.slice ua R.cuts.length ucap))),.pointer (some ⟨w.heap.size,0,none⟩),.pointer (some ⟨w.heap.size+1,0,none⟩),.pointer (some ⟨g,0,none⟩),.slice (some ⟨wk,0,none⟩) 6 6,u5,u6,u7,u8,u9,.slice eva (ji (eF R (eZ R))).length evc,u11,u12,u13,u14,u15,u16,u17,u18,u19,u20,u21,u22,u23,u24,u25,u26,u27,u28,u29,u30,u31,u32,u33,u34,u35,u36,u37,u38,u39,u40,u41,u42,u43,u44,u45,u46,u47,u48,u49,u50,u51,u52,u53,u54,u55,u56,u57,u58,u59,u60,u61,u62,u63,u64,u65,u66,u67,u68,u69,u70,u71,u72,u73,u74,u75,u76,u77,u78,u79,u80,u81,u82,u83,u84,u85,u86,u87,u88,u89,u90,u91,u92,u93,u94,u95,u96,u97,u98,u99,u100,u101,u102,u103,u104,u105,u106,u107,u108,u109,u110,u111,u112,u113,u114,u115,u116,u117,u118,u119,u120,u121,u122,u123,u124,u125,u126,u127,u128,u129,u130,u131,u132,u133,u134,u135,u136,u137,u138,u139,u140,u141,u142,u143,u144,u145,u146,u147,u148,u149,u150,u151,u152,u153,u154,u155,u156,u157,u158,u159,u160,u161,u162,u163,u164,u165,u166,u167,u168,u169,u170,u171,u172,u173,u174,u175,u176,u177,u178,u179,u180,u181,u182,u183,u184,u185,u186,u187,u188,u189,u190,u191,u192,u193,u194,u195,u196,u197,u198,u199,u200,u201,u202,u203,u204,u205,u206,u207,u208,u209,u210,u211,u212,u213,u214,u215,u216,u217,u218,u219,u220,u221,u222,u223,u224,u225,u226,u227,u228,u229,u230,u231,u232,u233,u234,u235,u236,u237,u238,u239],defers:=[]} wc:=by
 conv=>arg 2;whnf
 unfold dS;clear h1 h2 h3 hcl hsl hll hil hpl hul HCC HSC HLC HIC HPC HUC;obtain⟨hof,hrow1,hrow2,hrow3,hrow4,⟨hgH5,hH45,hH5⟩,hrow5,hqr⟩:=hcut;obtain⟨ca3,cc3,rfl⟩:=hrow1.form;obtain⟨ca4,cc4,rfl⟩:=hrow2.form;obtain⟨ca5,cc5,rfl⟩:=hrow3.form;obtain⟨ca6,cc6,rfl⟩:=hrow4.form;obtain⟨ca7,cc7,rfl⟩:=hrow5.form;generalize hn3:(bf R (gy R)).length=n3 at *;generalize hn4:(bH R (lX R)).length=n4 at *;generalize hn5:(fe ql).length=n5 at *;generalize hn6:(grL qg).length=n6 at *;generalize hn7:(reL qr).length=n7 at *
 have HV:Hid (bK H1 wc (dZ R) (.slice ca3 n3 cc3) (.slice ca4 n4 cc4) (.slice ca5 n5 cc5) (.slice ca6 n6 cc6) (.slice ca7 n7 cc7)):=
  yq ⟨ql,qg,qr,H1,H2,H3,H4,H5,HQL.out,HQG.out,hqr,⟨⟨by omega,by omega,by omega,by omega,by omega⟩,by rw [MW];exact hrow1,by rw [KR];exact hrow2,hrow3,hrow4,hrow5⟩⟩
 clear hrow1 hrow2 hrow3 hrow4 hrow5 hqr hn3 hn4 hn5 hn6 hn7 HQL HQG;have HOFR:=yq hof;have hge:=hof.gge;have hl2:=hof.lt;have hbx:wc.cell? ⟨w.heap.size,9,none⟩=some (.int .i64 R.twist):=cell_of_row _ _ _ _ _ _ hof.box;clear hof;by_cases ht0:R.twist=0
 ·have hb0:(R.twist !=0)=false:=by simp [ht0]
  have HT:=yq (SC ht0);clear ht0;have H1C:Hid ((#[.int .i64 (pick R.frm 73049),.int .i64 (pick R.mode 4+1),.int .i64 (aS (pick R.unit 5)),.slice ca3 n3 cc3,.slice ca4 n4 cc4,.slice ca5 n5 cc5,.slice ca6 n6 cc6,.slice ca7 n7 cc7]:Array Value).all (·.oneCell')=true):=yq (all_oneCell_toArray (cs:=[.int .i64 (pick R.frm 73049),.int .i64 (pick R.mode 4+1),.int .i64 (aS (pick R.unit 5)),.slice ca3 n3 cc3,.slice ca4 n4 cc4,.slice ca5 n5 cc5,.slice ca6 n6 cc6,.slice ca7 n7 cc7]) yv);have HTH:=yq (iX HOFR.out.res 8 rfl);have HZB:=yq (dQ (#[.int .i64 (pick R.frm 73049),.int .i64 (pick R.mode 4+1),.int .i64 (aS (pick R.unit 5)),.slice ca3 n3 cc3,.slice ca4 n4 cc4,.slice ca5 n5 cc5,.slice ca6 n6 cc6,.slice ca7 n7 cc7]:Array Value).toList 0 wc _ HOFR.out.res);have HZL:=yq (below_setCells (Nat.le_succ w.heap.size) (#[.int .i64 (pick R.frm 73049),.int .i64 (pick R.mode 4+1),.int .i64 (aS (pick R.unit 5)),.slice ca3 n3 cc3,.slice ca4 n4 cc4,.slice ca5 n5 cc5,.slice ca6 n6 cc6,.slice ca7 n7 cc7]:Array Value).toList 0 wc HOFR.out.bel);have HZN:=yq (iq (b:=w.heap.size+1) (#[.int .i64 (pick R.frm 73049),.int .i64 (pick R.mode 4+1),.int .i64 (aS (pick R.unit 5)),.slice ca3 n3 cc3,.slice ca4 n4 cc4,.slice ca5 n5 cc5,.slice ca6 n6 cc6,.slice ca7 n7 cc7]:Array Value).toList 0 wc (Next.refl _ _));generalize hwz:wc.setCells (w.heap.size+1) 0 (#[.int .i64 (pick R.frm 73049),.int .i64 (pick R.mode 4+1),.int .i64 (aS (pick R.unit 5)),.slice ca3 n3 cc3,.slice ca4 n4 cc4,.slice ca5 n5 cc5,.slice ca6 n6 cc6,.slice ca7 n7 cc7]:Array Value).toList=wz at HZB HZL HZN;have HZ:=yq hwz;clear hwz
  repeat(first
   |((with_reducible(show wpList _ _ _ (_::_) _ _));refine wpList_load_row rfl 82 _ rfl g rfl 82 _ _ _ HOFR.out.out underlying82 rfl kQ ?_)
   |((with_reducible(show wpList _ _ _ (_::_) _ _));refine wpList_store_mid rfl 82 (.tmp 2) (.tmp 239) rfl (w.heap.size+1) 0 #[.int .i64 (pick R.frm 73049),.int .i64 (pick R.mode 4+1),.int .i64 (aS (pick R.unit 5)),.slice ca3 n3 cc3,.slice ca4 n4 cc4,.slice ca5 n5 cc5,.slice ca6 n6 cc6,.slice ca7 n7 cc7] rfl rfl HTH.out kQ H1C.out ?_;rw [HZ.out])
   |go_values|go_skip|go_guarded|go_step|go_upon)
  refine bodyPost_ret (results_cell_row results26 _ _ (w.heap.size+1) 82 #[.int .i64 (pick R.frm 73049),.int .i64 (pick R.mode 4+1),.int .i64 (aS (pick R.unit 5)),.slice ca3 n3 cc3,.slice ca4 n4 cc4,.slice ca5 n5 cc5,.slice ca6 n6 cc6,.slice ca7 n7 cc7] (0,0) _ rfl HZB.out underlying82 rfl kQ) rfl ?_;exact OfPost.mk HT.out ⟨rfl,rfl,rfl⟩ HZL.out HZN.out HV.out zb
 ·have hb0:(R.twist !=0)=true:=by simp [ht0]
  by_cases ht8:R.twist.tmod 8=0
  ·have hb8:(R.twist.tmod 8==0)=true:=by simp [ht8]
   have HT:=yq (SA ht0 ht8);have hq:IntKind.i64.wrap (R.twist.tdiv 8)=R.twist.tdiv 8:=KI h4;have hp7:=pick_bd (R.twist.tdiv 8) 7 zb;obtain⟨hp8,hp9⟩:=hp7;clear ht0 ht8;repeat(first|go_values|go_skip|go_guarded|go_step|go_upon)
   refine gw (Pick_any _ _ _ zb) ?_;dsimp only;repeat(first|go_values|go_skip|go_guarded|go_step|go_upon)
   refine(Hy (pick (R.twist.tdiv 8) 7) hp8 hp9 H1 g _ _ _ (dZ R) (.slice ca3 n3 cc3) (.slice ca4 n4 cc4) (.slice ca5 n5 cc5) (.slice ca6 n6 cc6) (.slice ca7 n7 cc7) wc HOFR.out.out (IV R) HV.out).mono ?_;rintro e w2 ⟨rfl,hb2,hv2⟩;dsimp only;have HO2:=yq (HOFR.out.kept (HOFR.out.bel.trans (Joins.below_le hb2 zb)) (fun k hk hk2=>hb2.block k zb));have HV2:=yq hv2;clear hb2 hv2;have H1C:Hid ((#[.int .i64 (pick R.frm 73049),.int .i64 (pick R.mode 4+1),.int .i64 (aS (pick R.unit 5)),.slice ca3 n3 cc3,.slice ca4 n4 cc4,.slice ca5 n5 cc5,.slice ca6 n6 cc6,.slice ca7 n7 cc7]:Array Value).all (·.oneCell')=true):=yq (all_oneCell_toArray (cs:=[.int .i64 (pick R.frm 73049),.int .i64 (pick R.mode 4+1),.int .i64 (aS (pick R.unit 5)),.slice ca3 n3 cc3,.slice ca4 n4 cc4,.slice ca5 n5 cc5,.slice ca6 n6 cc6,.slice ca7 n7 cc7]) yv);have HTH:=yq (iX HO2.out.res 8 rfl);have HZB:=yq (dQ (#[.int .i64 (pick R.frm 73049),.int .i64 (pick R.mode 4+1),.int .i64 (aS (pick R.unit 5)),.slice ca3 n3 cc3,.slice ca4 n4 cc4,.slice ca5 n5 cc5,.slice ca6 n6 cc6,.slice ca7 n7 cc7]:Array Value).toList 0 w2 _ HO2.out.res);have HZL:=yq (below_setCells (Nat.le_succ w.heap.size) (#[.int .i64 (pick R.frm 73049),.int .i64 (pick R.mode 4+1),.int .i64 (aS (pick R.unit 5)),.slice ca3 n3 cc3,.slice ca4 n4 cc4,.slice ca5 n5 cc5,.slice ca6 n6 cc6,.slice ca7 n7 cc7]:Array Value).toList 0 w2 HO2.out.bel);have HZN:=yq (iq (b:=w.heap.size+1) (#[.int .i64 (pick R.frm 73049),.int .i64 (pick R.mode 4+1),.int .i64 (aS (pick R.unit 5)),.slice ca3 n3 cc3,.slice ca4 n4 cc4,.slice ca5 n5 cc5,.slice ca6 n6 cc6,.slice ca7 n7 cc7]:Array Value).toList 0 w2 (Next.refl _ _));generalize hwz:w2.setCells (w.heap.size+1) 0 (#[.int .i64 (pick R.frm 73049),.int .i64 (pick R.mode 4+1),.int .i64 (aS (pick R.unit 5)),.slice ca3 n3 cc3,.slice ca4 n4 cc4,.slice ca5 n5 cc5,.slice ca6 n6 cc6,.slice ca7 n7 cc7]:Array Value).toList=wz at HZB HZL HZN;have HZ:=yq hwz;clear hwz
   repeat(first
    |((with_reducible(show wpList _ _ _ (_::_) _ _));refine wpList_load_row rfl 82 _ rfl g rfl 82 _ _ _ HO2.out.out underlying82 rfl kQ ?_)
    |((with_reducible(show wpList _ _ _ (_::_) _ _));refine wpList_store_mid rfl 82 (.tmp 2) (.tmp 239) rfl (w.heap.size+1) 0 #[.int .i64 (pick R.frm 73049),.int .i64 (pick R.mode 4+1),.int .i64 (aS (pick R.unit 5)),.slice ca3 n3 cc3,.slice ca4 n4 cc4,.slice ca5 n5 cc5,.slice ca6 n6 cc6,.slice ca7 n7 cc7] rfl rfl HTH.out kQ H1C.out ?_;rw [HZ.out])
    |go_values|go_skip|go_guarded|go_step|go_upon)
   refine bodyPost_ret (results_cell_row results26 _ _ (w.heap.size+1) 82 #[.int .i64 (pick R.frm 73049),.int .i64 (pick R.mode 4+1),.int .i64 (aS (pick R.unit 5)),.slice ca3 n3 cc3,.slice ca4 n4 cc4,.slice ca5 n5 cc5,.slice ca6 n6 cc6,.slice ca7 n7 cc7] (0,0) _ rfl HZB.out underlying82 rfl kQ) rfl ?_;exact OfPost.mk HT.out (D5 _ _) HZL.out HZN.out HV2.out zb
  ·have hb8:(R.twist.tmod 8==0)=false:=by simp [ht8]
   have HT:=yq (SB ht0 ht8);clear ht0 ht8;have H1C:Hid ((#[.int .i64 (pick R.frm 73049),.int .i64 (pick R.mode 4+1),.int .i64 (aS (pick R.unit 5)),.slice ca3 n3 cc3,.slice ca4 n4 cc4,.slice ca5 n5 cc5,.slice ca6 n6 cc6,.slice ca7 n7 cc7]:Array Value).all (·.oneCell')=true):=yq (all_oneCell_toArray (cs:=[.int .i64 (pick R.frm 73049),.int .i64 (pick R.mode 4+1),.int .i64 (aS (pick R.unit 5)),.slice ca3 n3 cc3,.slice ca4 n4 cc4,.slice ca5 n5 cc5,.slice ca6 n6 cc6,.slice ca7 n7 cc7]) yv);have HTH:=yq (iX HOFR.out.res 8 rfl);have HZB:=yq (dQ (#[.int .i64 (pick R.frm 73049),.int .i64 (pick R.mode 4+1),.int .i64 (aS (pick R.unit 5)),.slice ca3 n3 cc3,.slice ca4 n4 cc4,.slice ca5 n5 cc5,.slice ca6 n6 cc6,.slice ca7 n7 cc7]:Array Value).toList 0 wc _ HOFR.out.res);have HZL:=yq (below_setCells (Nat.le_succ w.heap.size) (#[.int .i64 (pick R.frm 73049),.int .i64 (pick R.mode 4+1),.int .i64 (aS (pick R.unit 5)),.slice ca3 n3 cc3,.slice ca4 n4 cc4,.slice ca5 n5 cc5,.slice ca6 n6 cc6,.slice ca7 n7 cc7]:Array Value).toList 0 wc HOFR.out.bel);have HZN:=yq (iq (b:=w.heap.size+1) (#[.int .i64 (pick R.frm 73049),.int .i64 (pick R.mode 4+1),.int .i64 (aS (pick R.unit 5)),.slice ca3 n3 cc3,.slice ca4 n4 cc4,.slice ca5 n5 cc5,.slice ca6 n6 cc6,.slice ca7 n7 cc7]:Array Value).toList 0 wc (Next.refl _ _));generalize hwz:wc.setCells (w.heap.size+1) 0 (#[.int .i64 (pick R.frm 73049),.int .i64 (pick R.mode 4+1),.int .i64 (aS (pick R.unit 5)),.slice ca3 n3 cc3,.slice ca4 n4 cc4,.slice ca5 n5 cc5,.slice ca6 n6 cc6,.slice ca7 n7 cc7]:Array Value).toList=wz at HZB HZL HZN;have HZ:=yq hwz;clear hwz
   repeat(first
    |((with_reducible(show wpList _ _ _ (_::_) _ _));refine wpList_load_row rfl 82 _ rfl g rfl 82 _ _ _ HOFR.out.out underlying82 rfl kQ ?_)
    |((with_reducible(show wpList _ _ _ (_::_) _ _));refine wpList_store_mid rfl 82 (.tmp 2) (.tmp 239) rfl (w.heap.size+1) 0 #[.int .i64 (pick R.frm 73049),.int .i64 (pick R.mode 4+1),.int .i64 (aS (pick R.unit 5)),.slice ca3 n3 cc3,.slice ca4 n4 cc4,.slice ca5 n5 cc5,.slice ca6 n6 cc6,.slice ca7 n7 cc7] rfl rfl HTH.out kQ H1C.out ?_;rw [HZ.out])
    |go_values|go_skip|go_guarded|go_step|go_upon)
   refine bodyPost_ret (results_cell_row results26 _ _ (w.heap.size+1) 82 #[.int .i64 (pick R.frm 73049),.int .i64 (pick R.mode 4+1),.int .i64 (aS (pick R.unit 5)),.slice ca3 n3 cc3,.slice ca4 n4 cc4,.slice ca5 n5 cc5,.slice ca6 n6 cc6,.slice ca7 n7 cc7] (0,0) _ rfl HZB.out underlying82 rfl kQ) rfl ?_;exact OfPost.mk HT.out ⟨rfl,rfl,rfl⟩ HZL.out HZN.out HV.out zb
theorem Nu(R:bW)(w:World)(h1:I64 R.frm)(h2:I64 R.mode)(h3:I64 R.unit)(h4:I64 R.twist)(ca:Option Addr)(sa:Option Addr)(la:Option Addr)(ia:Option Addr)(pa:Option Addr)(ua:Option Addr)(ccap:Nat)(scap:Nat)(lcap:Nat)(icap:Nat)(pcap:Nat)(ucap:Nat)(hcl:R.credits.length<=140737488355328)(hsl:R.series.length<=140737488355328)(hll:R.lets.length<=140737488355328)(hil:R.ifs.length<=140737488355328)(hpl:R.pays.length<=140737488355328)(hul:R.cuts.length<=140737488355328)(HCC:Hid (R.credits.length=0\/∃b off,ca=some ⟨b,off,none⟩/\b<w.heap.size/\∀(i:Nat),i<R.credits.length->w.cell? ⟨b,off+i,none⟩=some (.int .i64 (R.credits.getD i 0))))(HSC:Hid (R.series.length=0\/∃b off,sa=some ⟨b,off,none⟩/\b<w.heap.size/\∀(i:Nat),i<R.series.length->w.cell? ⟨b,off+i,none⟩=some (.int .i64 (R.series.getD i 0))))(HLC:Hid (R.lets.length=0\/∃b off,la=some ⟨b,off,none⟩/\b<w.heap.size/\∀(i:Nat),i<R.lets.length->∃u,w.cell? ⟨b,off+i,none⟩=some u/\aD w u (R.lets.getD i [])))(HIC:Hid (R.ifs.length=0\/∃b off,ia=some ⟨b,off,none⟩/\b<w.heap.size/\∀(i:Nat),i<R.ifs.length->∃u,w.cell? ⟨b,off+i,none⟩=some u/\aD w u (R.ifs.getD i [])))(HPC:Hid (R.pays.length=0\/∃b off,pa=some ⟨b,off,none⟩/\b<w.heap.size/\∀(i:Nat),i<R.pays.length->∃u,w.cell? ⟨b,off+i,none⟩=some u/\aD w u (R.pays.getD i [])))(HUC:Hid (R.cuts.length=0\/∃b off,ua=some ⟨b,off,none⟩/\b<w.heap.size/\∀(i:Nat),i<R.cuts.length->∃u,w.cell? ⟨b,off+i,none⟩=some u/\aD w u (R.cuts.getD i [])))(g:Nat)(wk:Nat)(wc:World)(vcr:Value)(H1:Nat)(hgH1:g<H1)(vse:Value)(H2:Nat)(hgH2:g<H2)(hH12:H1<=H2)(vle:Value)(H3:Nat)(ql:List (ByteArray × (Ex × Value)))(hgH3:g<H3)(hH23:H2<=H3)(eva:Option Addr)(evc:Nat)(vgr:Value)(H4:Nat)(qg:List GrT)(hgH4:g<H4)(hH34:H3<=H4)(hH4:H4<=wc.heap.size)(HROW1:Hid (aY 133 2 H1 (· <H2) wc vcr (bf R (gy R)) []))(HROW2:Hid (aY 135 3 H2 (· <H3) wc vse (bH R (lX R)) []))(HROW3:Hid (aY 63 7 H3 (· <H4) wc vle (fe ql) (ql.map (·.2))))(HENV:Hid (bI 106 2 H3 wc (.slice eva (ji (eF R (eZ R))).length evc) (ji (eF R (eZ R))) []))(HROW4:Hid (aY 86 13 H4 (· <wc.heap.size) wc vgr (grL qg) (grR qg)))(HQL:Hid (qW R (eZ R) ql))(HQG:Hid (GrQ R (vP R) qg))(HOF1:Hid (dx w (dS R (.slice ca R.credits.length ccap) (.slice sa R.series.length scap) (.slice la R.lets.length lcap) (.slice ia R.ifs.length icap) (.slice pa R.pays.length pcap) (.slice ua R.cuts.length ucap)) g #[.int .i64 (pick R.frm 73049),.int .i64 (pick R.mode 4+1),.int .i64 (aS (pick R.unit 5)),vcr,vse,vle,vgr,.slice none 0 0] wc))(hgl1:g<wc.heap.size)(u5 u6 u7 u8 u9 u11 u12 u13 u14 u15 u17 u18 u19 u20 u21 u22 u23 u24 u25 u26 u27 u28 u29 u30 u31 u32 u33 u34 u35 u36 u37 u38 u39 u40 u41 u42 u43 u44 u45 u46 u47 u48 u49 u50 u51 u52 u53 u54 u55 u56 u57 u58 u59 u60 u61 u62 u63 u64 u65 u66 u67 u68 u69 u70 u71 u72 u73 u74 u75 u76 u77 u78 u79 u80 u81 u82 u83 u84 u85 u86 u87 u88 u89 u90 u91 u92 u93 u94 u95 u96 u97 u98 u99 u100 u101 u102 u103 u104 u105 u106 u107 u108 u109 u110 u111 u112 u113 u114 u115 u116 u117 u118 u119 u120 u121 u122 u123 u124 u125 u126 u127 u128 u129 u130 u131 u132 u133 u134 u135 u136 u137 u138 u139 u140 u141 u142 u143 u144 u145 u146 u147 u148 u149 u150 u151 u152 u153 u154 u155 u156 u157 u158 u159 u160 u161 u162 u163 u164 u165 u166 u167 u168 u169 u170 u171 u172 u173 u174 u175 u176 u177 u178 u179 u180 u181 u182 u183 u184 u185 u186 u187 u188 u189 u190 u191 u192 u193 u194 u195 u196 u197 u198 u199 u200 u201 u202 u203 u204 u205 u206 u207 u208 u209 u210 u211 u212 u213 u214 u215 u216 u217 u218 u219 u220 u221 u222 u223 u224 u225 u226 u227 u228 u229 u230 u231 u232 u233 u234 u235 u236 u237 u238 u239:Value) :
 Code.wp prog (tlC (tlC (tlC (tlC (tlC (tlC (tlC (tlC (f26.body.getD .skip))))))))) (bodyPost prog f26 (OfPost R w)) {tmps:=#[(.agg (dS R (.slice ca R.credits.length ccap) (.slice sa R.series.length scap) (.slice la R.lets.length lcap) (.slice ia R.ifs.length icap) (.slice pa R.pays.length pcap) (.slice ua R.cuts.length ucap))),.pointer (some ⟨w.heap.size,0,none⟩),.pointer (some ⟨w.heap.size+1,0,none⟩),.pointer (some ⟨g,0,none⟩),.slice (some ⟨wk,0,none⟩) 6 6,u5,u6,u7,u8,u9,.slice eva (ji (eF R (eZ R))).length evc,u11,u12,u13,u14,u15,undef,u17,u18,u19,u20,u21,u22,u23,u24,u25,u26,u27,u28,u29,u30,u31,u32,u33,u34,u35,u36,u37,u38,u39,u40,u41,u42,u43,u44,u45,u46,u47,u48,u49,u50,u51,u52,u53,u54,u55,u56,u57,u58,u59,u60,u61,u62,u63,u64,u65,u66,u67,u68,u69,u70,u71,u72,u73,u74,u75,u76,u77,u78,u79,u80,u81,u82,u83,u84,u85,u86,u87,u88,u89,u90,u91,u92,u93,u94,u95,u96,u97,u98,u99,u100,u101,u102,u103,u104,u105,u106,u107,u108,u109,u110,u111,u112,u113,u114,u115,u116,u117,u118,u119,u120,u121,u122,u123,u124,u125,u126,u127,u128,u129,u130,u131,u132,u133,u134,u135,u136,u137,u138,u139,u140,u141,u142,u143,u144,u145,u146,u147,u148,u149,u150,u151,u152,u153,u154,u155,u156,u157,u158,u159,u160,u161,u162,u163,u164,u165,u166,u167,u168,u169,u170,u171,u172,u173,u174,u175,u176,u177,u178,u179,u180,u181,u182,u183,u184,u185,u186,u187,u188,u189,u190,u191,u192,u193,u194,u195,u196,u197,u198,u199,u200,u201,u202,u203,u204,u205,u206,u207,u208,u209,u210,u211,u212,u213,u214,u215,u216,u217,u218,u219,u220,u221,u222,u223,u224,u225,u226,u227,u228,u229,u230,u231,u232,u233,u234,u235,u236,u237,u238,u239],defers:=[]} wc:=by
 obtain⟨i0,hi,hz0,hz1,hz2⟩:=info_parts l9;obtain⟨i1,hj,hj0,hj1,hj2⟩:=info_parts pF;obtain⟨i2,hq,hq0,hq1,hq2⟩:=info_parts pE;obtain⟨i3,hr,hr0,hr1,hr2⟩:=info_parts ma;obtain⟨i4,ht,ht0,ht1,ht2⟩:=info_parts ky;obtain⟨i5,hv,hv0,hv1,hv2⟩:=info_parts je
 conv=>arg 2;whnf
 unfold dS
 go_upto_block 8 with fail
 go_cut []from 17 (fun wx=>∃vre H5 q,dx w (dS R (.slice ca R.credits.length ccap) (.slice sa R.series.length scap) (.slice la R.lets.length lcap) (.slice ia R.ifs.length icap) (.slice pa R.pays.length pcap) (.slice ua R.cuts.length ucap)) g #[.int .i64 (pick R.frm 73049),.int .i64 (pick R.mode 4+1),.int .i64 (aS (pick R.unit 5)),vcr,vse,vle,vgr,vre] wx/\aY 133 2 H1 (· <H2) wx vcr (bf R (gy R)) []/\aY 135 3 H2 (· <H3) wx vse (bH R (lX R)) []/\aY 63 7 H3 (· <H4) wx vle (fe ql) (ql.map (·.2))/\aY 86 13 H4 (· <H5) wx vgr (grL qg) (grR qg)/\(g<H5/\H4<=H5/\H5<=wx.heap.size)/\bI 138 7 H5 wx vre (reL q) (q.map (·.2))/\ReQ R (BX R) q)
 case first=>
  go_wp2_with fail
  go_loopw [16] (fun v16 wr=>∃k:Nat,∃vre:Value,∃q:List (Int × (Ex × Value)),k<=R.cuts.length/\k<=2/\v16= .int .i64 k/\dx w (dS R (.slice ca R.credits.length ccap) (.slice sa R.series.length scap) (.slice la R.lets.length lcap) (.slice ia R.ifs.length icap) (.slice pa R.pays.length pcap) (.slice ua R.cuts.length ucap)) g #[.int .i64 (pick R.frm 73049),.int .i64 (pick R.mode 4+1),.int .i64 (aS (pick R.unit 5)),vcr,vse,vle,vgr,vre] wr/\Next g wc wr/\bI 138 7 wc.heap.size wr vre (reL q) (q.map (·.2))/\ReQ R k q) (fun v16 _=>2-(intOf v16).toNat)
  case atStart=>exact⟨0,_,[],by omega,by omega,rfl,HOF1.out,.refl _ _,.nil _ _ _ _,rfl⟩
  case round=>
   obtain⟨k,vre,q,hk,hk2,rfl,hof,hnx,hrow,hgq⟩:=hrel;have hbx:wr.cell? ⟨w.heap.size,8,none⟩=some (.slice ua R.cuts.length ucap):=cell_of_row _ _ _ _ _ _ hof.box;have hoc:wr.cell? ⟨g,7,none⟩=some vre:=cell_of_row _ _ _ _ _ _ hof.out;have hl0:=hof.lt0;have hl1:w.heap.size<wr.heap.size:=by omega
   have hl2:=hof.lt;have hl3:=hnx.size;have HNX:=yq hnx;have HOFR:=yq hof;have HROW:=yq hrow;have HQ:=yq hgq;have HLL:=yq (show(reL q).length=k by unfold reL;rw [length_map];exact hgq.length);obtain⟨aa,acap,rfl⟩:=hrow.form;clear hof hnx hrow hl0 hgq;by_cases hlt:k<R.cuts.length
   ·by_cases hlt2:k<2
    ·rcases HUC.out with h0|⟨b,off,rfl,hb,hx⟩
     ·omega
     ·obtain⟨u,hxk,hxi⟩:=hx k hlt;have hkb:b<wr.heap.size:=by omega
      have hyk:wr.cell? ⟨b,off+k,none⟩=some u:=by rw [HOFR.out.bel.cell zU];exact hxk
      have HXI:=yq hxi;obtain⟨za,zcap,rfl⟩:=aD.form hxi;have HXK:=yq hxk;clear hxk hx hxi;have d1:(k:Int)<(R.cuts.length:Int):=by omega
      have d2:(k:Int)<2:=by omega
      have HCE:Hid (jW (R.cuts.getD k []) (eF R (eZ R)) 2=dJ R k):=yq rfl;generalize hzk:R.cuts.getD k []=zk at *;clear hzk;have hzl:zk.length<=140737488355328:=HXI.out.1;have hm1:IntKind.i64.wrap ((k:Int)+1)=k+1:=IntWalk.i64_in _ zb;have HRB:=yq HROW.out.lt
      go_upto_region 34 with fail
      refine TG.begin 15 (fun w'=>w'.cell? ⟨g,7,none⟩=some (.slice aa (reL q).length acap)/\w'.cell? ⟨w.heap.size,8,none⟩=some (.slice (some ⟨b,off,none⟩) R.cuts.length ucap)/\w'.cell? ⟨b,off+k,none⟩=some (.slice za zk.length zcap)) ze ze ?_ (fun hS=>?_);focus(refine⟨?_, ?_, ?_⟩<;>simp [go_sem,hoc,hbx,hyk,hl1,hl2,hkb])
      refine TG.tkB 0 hS ?_;refine TG.tkB 1 hS ?_;refine TG.tkB 2 hS ?_;refine TG.tkB 3 hS ?_;refine TG.tkB 4 hS ?_;refine TG.tkB 5 hS ?_;refine TG.tkB 6 hS ?_;refine TG.tkB 7 hS ?_;refine TG.tkB 8 hS ?_;refine TG.tkB 9 hS ?_;refine TG.one (i:=10) ze rfl (fun K1 hK1=>?_)
      go_simp
      go_at_call 9
      refine(iV _ _ zk (eF R (eZ R)) 2 (dJ R k) wr.drew (aF.of_ints HXI.out HOFR.out.drew.bel) (aU.of_row ((HENV.out.next HNX.out hgH3).drew) zX (iU R _)) zb zb HCE).mono ?_;rintro e' w' ⟨v1,rfl,⟨bs1,dr1,rfl⟩,hrep⟩;have H1:=yq (hrep.eqw (w':=wr.grow bs1 dr1) zd);obtain⟨v1a,v1c,hv1⟩:=hrep.form;subst hv1;clear hrep
      (try simp only [World.drew_grow])
      refine TG.go hK1 ?_ (fun hS=>?_)
      focus
       (try dsimp only)
       (refine⟨?_, ?_, ?_⟩<;>simp [go_sem,hoc,hbx,hyk,hl1,hl2,hkb])
      clear hK1 K1
      (try simp only [nS])
      refine TG.tkB 11 hS ?_;refine TG.one (i:=12) ze rfl (fun K1 hK1=>?_)
      go_simp
      refine TG.go hK1 ?_ (fun hS=>?_)
      focus
       (try dsimp only)
       (refine⟨?_, ?_, ?_⟩<;>simp [go_sem,hoc,hbx,hyk,hl1,hl2,hkb])
      clear hK1 K1
      (try simp only [nS])
      refine TG.one (i:=13) ze rfl (fun K1 hK1=>?_);refine step_append_lies _ rfl _ _ 80 rfl wc.heap.size 138 i5 _ 7 80 underlying80 hv hv0 hv1 hv2 rfl zf _ _ _ rfl ((HROW.out.grow bs1 dr1).alloc (.cells #[.int .i64 ((k:Int)+1),.int .i64 (dJ R k).op,.int .i64 (dJ R k).num,.int .i64 (dJ R k).den,.int .i64 (dJ R k).dim,.string (dJ R k).name,.slice v1a (dJ R k).args.length v1c] 138)).own ⟨wr.heap.size+bs1.size,0,none⟩ 1 1 [.int .i64 ((k:Int)+1),.int .i64 (dJ R k).op,.int .i64 (dJ R k).num,.int .i64 (dJ R k).den,.int .i64 (dJ R k).dim,.string (dJ R k).name,.slice v1a (dJ R k).args.length v1c] rfl rfl ?_ ?_ zf ?_ ?_ ?_ (wr.heap.size+bs1.size+1) zd ?_;focus exact fun j u hu=>news_cells _ [.int .i64 ((k:Int)+1),.int .i64 (dJ R k).op,.int .i64 (dJ R k).num,.int .i64 (dJ R k).den,.int .i64 (dJ R k).dim,.string (dJ R k).name,.slice v1a (dJ R k).args.length v1c] 138 _ zd j u hu
      focus exact Q5 _ _ _ rfl
      focus(have:=HLL.out;unfold maxLen;omega)
      focus(have:=HLL.out;omega)
      focus(simp;omega)
      intro g' cap w1 hown' hgrow hat hlt';have R1:=bI.push (rs2:=[(dJ R k,.slice v1a (dJ R k).args.length v1c)]) (m:=wr.heap.size) ((HROW.out.grow bs1 dr1).alloc (.cells #[.int .i64 ((k:Int)+1),.int .i64 (dJ R k).op,.int .i64 (dJ R k).num,.int .i64 (dJ R k).den,.int .i64 (dJ R k).dim,.string (dJ R k).name,.slice v1a (dJ R k).args.length v1c] 138)) (Gc ((H1.out.mono (fun b hb=>by simpa using hb)).alloc _)) hl3 (fun j hj=>(HRB.out j hj).2) rfl rfl rfl hown' hgrow hat zd;have O1:=((HOFR.out.grow bs1 dr1).alloc (.cells #[.int .i64 ((k:Int)+1),.int .i64 (dJ R k).op,.int .i64 (dJ R k).num,.int .i64 (dJ R k).den,.int .i64 (dJ R k).dim,.string (dJ R k).name,.slice v1a (dJ R k).args.length v1c] 138)).grown hgrow (fun j hj=>by have:=(HRB.out j hj).1;have:=HOFR.out.gge;omega);have N1:=((HNX.out.grow bs1 dr1).alloc (.cells #[.int .i64 ((k:Int)+1),.int .i64 (dJ R k).op,.int .i64 (dJ R k).num,.int .i64 (dJ R k).den,.int .i64 (dJ R k).dim,.string (dJ R k).name,.slice v1a (dJ R k).args.length v1c] 138)).grown hgrow (fun j hj=>(HRB.out j hj).1);have hoc2:w1.cell? ⟨g,7,none⟩=some (.slice aa (reL q).length acap):=cell_of_row _ _ _ _ _ _ O1.out;have hof2:w1.frozen? ⟨g,7,none⟩=false:=Joins.unfrozen_of_block O1.out 7;have hyk2:=(O1.bel.cell (p:=⟨b,off+k,none⟩) hb).trans HXK.out
      (try simp only [nS])
      refine TG.go hK1 ?_ (fun hS=>?_);focus exact⟨hoc2,cell_of_row _ _ _ _ _ _ O1.box,hyk2⟩
      clear hK1 K1 hyk2;have HR2:=yq (R1.setCell (a:=⟨g,7,none⟩) hgl1 (.slice (some ⟨g',0,none⟩) ((reL q).length+1) cap));have HO2:=yq (O1.store 7 (.slice (some ⟨g',0,none⟩) ((reL q).length+1) cap));have HN2:=yq (N1.store 7 (.slice (some ⟨g',0,none⟩) ((reL q).length+1) cap));clear hown' hgrow hat hlt' R1 O1 N1
      (try simp only [nS])
      refine TG.tkB 14 hS ?_;refine TG.one (i:=15) ze rfl (fun K1 hK1=>?_)
      go_simp
      refine hK1 _ _ (fun h=>absurd rfl h) (TG.done ze ?_);clear hK1 K1 hS
      (try simp only [nS])
      go_wp2_with fail
      go_roundw
      case rel=>exact⟨k+1,_,q++[((k:Int)+1,(dJ R k,.slice v1a (dJ R k).args.length v1c))],by omega,by omega,by go_num,HO2.out,HN2.out,by rw [Lh,map_append];exact HR2.out,HQ.out.push _⟩
      case measure=>simp [intOf];omega
    ·go_wp2_with fail
     go_meet
     exact⟨_,wc.heap.size,q,HOFR.out,HROW1.out.next HNX.out hgH1,HROW2.out.next HNX.out hgH2,HROW3.out.next HNX.out hgH3,HROW4.out.next HNX.out hgH4,⟨hgl1,hH4,HNX.out.size⟩,by rw [show BX R=k by unfold BX;omega];exact⟨HROW.out,HQ.out⟩⟩
   ·go_wp2_with fail
    go_meet
    exact⟨_,wc.heap.size,q,HOFR.out,HROW1.out.next HNX.out hgH1,HROW2.out.next HNX.out hgH2,HROW3.out.next HNX.out hgH3,HROW4.out.next HNX.out hgH4,⟨hgl1,hH4,HNX.out.size⟩,by rw [show BX R=k by unfold BX;omega];exact⟨HROW.out,HQ.out⟩⟩
 obtain⟨vre,H5,qr,hcut⟩:=hcut;clear HROW1 HROW2 HROW3 HROW4 HENV HOF1 hgl1 hH4
 go_step
 exact Nt R w h1 h2 h3 h4 ca sa la ia pa ua ccap scap lcap icap pcap ucap hcl hsl hll hil hpl hul HCC HSC HLC HIC HPC HUC g _ wc vcr H1 hgH1 vse H2 hgH2 hH12 vle H3 ql hgH3 hH23 eva evc vgr H4 qg hgH4 hH34 vre H5 qr hcut HQL HQG _ _ _ _ _ _ _ _ _ _ _ _ _ _ _ _ _ _ _ _ _ _ _ _ _ _ _ _ _ _ _ _ _ _ _ _ _ _ _ _ _ _ _ _ _ _ _ _ _ _ _ _ _ _ _ _ _ _ _ _ _ _ _ _ _ _ _ _ _ _ _ _ _ _ _ _ _ _ _ _ _ _ _ _ _ _ _ _ _ _ _ _ _ _ _ _ _ _ _ _ _ _ _ _ _ _ _ _ _ _ _ _ _ _ _ _ _ _ _ _ _ _ _ _ _ _ _ _ _ _ _ _ _ _ _ _ _ _ _ _ _ _ _ _ _ _ _ _ _ _ _ _ _ _ _ _ _ _ _ _ _ _ _ _ _ _ _ _ _ _ _ _ _ _ _ _ _ _ _ _ _ _ _ _ _ _ _ _ _ _ _ _ _ _ _ _ _ _ _ _ _ _ _ _ _ _ _ _ _ _ _ _ _ _ _ _ _ _ _ _ _ _ _ _ _ _ _ _ _ _ _ _ _ _
end Go.Proofs.YtfoefpoaomepbaaGreatDoor
