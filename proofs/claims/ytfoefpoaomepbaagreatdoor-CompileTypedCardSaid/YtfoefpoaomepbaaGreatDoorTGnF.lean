import Derived.Test.YtfoefpoaomepbaaGreatDoorTGnD
set_option linter.all false
set_option maxHeartbeats 16000000
set_option maxRecDepth 1000000
namespace Go.Proofs.YtfoefpoaomepbaaGreatDoor
open Go.RowKit
theorem TS.beginH{P:Program}{ops:Array Oper}{Q:Exit→Act→World→Prop}{id:Nat}{a:Act}{w:World}(T:List Nat)(hm:P.follows .mixedOrders=true)(hB:Region.tailsB ops T=true)
 (h:w.Grows w.drew→TS P ops Q (World.Grows w) T ops.size (Array.replicate ops.size false) a w.drew):(Code.region id ops true).wp P Q a w:=TS.begin T (World.Grows w) hm hB grows_drew0 h
theorem defsC_take(D:List Dfn)(k i:Nat)(hk:k<D.length):defsC (D.take (k+1)) i=defsC (D.take k) i++(D[k]).code (i+(defsC (D.take k) i).length):=by
 rw [List.take_succ_eq_append_getElem hk,defsC_snoc]
theorem defsC_lenT:∀(D:List Dfn) (k i:Nat),(defsC (D.take k) i).length≤(defsC D i).length
 | [],k,i=>by simp
 |d::r,0,i=>by simp [defsC]
 |d::r,k+1,i=>by
  rw [List.take_succ_cons,defsC,defsC,List.length_append,List.length_append]
  have:=defsC_lenT r k (i+(d.code i).length)
  omega
def IntsIn(S:Nat→Prop)(w:World)(v:Value)(zs:List Int):Prop:=zs.length≤1000∧∃a c,v= .slice a zs.length c∧(zs.length=0∨∃b off,a=some ⟨b,off,none⟩∧S b∧b<w.heap.size∧∀i,i<zs.length→w.cell? ⟨b,off+i,none⟩=some (.int .i64 (zs.getD i 0)))
theorem IntsIn.keep{S:Nat→Prop}{N base g:Nat}{w w':World}{v v' vs vu:Value}{l:List Ins}{sl:List ByteArray}{zs:List Int}(h:IntsIn S w vu zs)(hp:GPre S N base g w v vs l sl)(hx:GExt g w w' v v'):IntsIn S w' vu zs:=by
 obtain⟨h1,a,c,h2,h3⟩:=h
 refine⟨h1,a,c,h2,h3.imp id ?_⟩
 rintro⟨b,off,ha,hS,hb,hc⟩
 exact⟨b,off,ha,hS,Nat.lt_of_lt_of_le hb hx.size,fun i hi=>(World.cell?_of_block (a:=⟨b,off+i,none⟩) (hx.block b hb (hp.pre.ap b hS) (hp.gS b hS))).trans (hc i hi)⟩
def DfOk(sl:List ByteArray)(nm:ByteArray)(e:Ex):Prop:=nm∈sl∧e.size≤1000000∧formedB e=true∧∀s,mentB s (foldF e)=true→inpK s=none→s∈sl
theorem defs_any{S:Nat→Prop}{N base g:Nat}{w0 w:World}{v vs vl vu:Value}{l:List Ins}{sl:List ByteArray}(ls:List (ByteArray × Ex))(env:List (ByteArray × Int))(U:List Nat)(hU:∀i∈U,i<ls.length∧DfOk sl (ls.getD i default).1 (ls.getD i default).2)
 (h:GPre S N base g w v vs l sl) (h0:w0.Grows w) (hg0:w0.heap.size≤g) (ht:Tab w0) (hls:LetsAt w0 vl ls) (hus:IntsIn S w vu (U.map Int.ofNat)) (hl:l.length+(defsC (U.map (dfnI sl ls env)) l.length).length≤1000000) :
 Calls Tryz.prog 48 #[.pointer (some ⟨g,0,none⟩),vl,vu] w (GenR (.tuple #[]) S N base g w v vs (l++defsC (U.map (dfnI sl ls env)) l.length) sl):=by
 have HP:=Lib.hid h
 have HU:=Lib.hid hU
 have H0:=Lib.hid h0
 have HG:=Lib.hid hg0
 have HT:=Lib.hid ht
 have HLS:=Lib.hid hls
 have HUS:=Lib.hid hus
 have HL:=Lib.hid hl
 obtain⟨-,la,lc,rfl,-⟩:=hls
 obtain⟨hu1,ua,uc,rfl,-⟩:=hus
 rw [List.length_map]at hu1
 clear h hU h0 hg0 ht hl
 go_enter Tryz.func48,Tryz.ntmps48
 rw [List.length_map]at *
 go_wp2_with fail
 go_loopw [10] (fun v10 wr=>∃k:Nat,k≤U.length∧v10= .int .i64 k∧∃vr,Hid (GPre S N base g wr vr vs (l++defsC ((U.map (dfnI sl ls env)).take k) l.length) sl)∧Hid (GExt g w wr v vr)) (fun v10 _=>U.length-(intOf v10).toNat)
 case atStart=>exact⟨0,by omega,rfl,v,Lib.hid (by simpa [defsC]using HP.out),Lib.hid (GExt.of (.refl _))⟩
 case round=>
  obtain⟨k,hk,rfl,vr,HR,HX⟩:=hrel
  by_cases hlt:k<U.length
  ·have h0r:=HP.out.kept H0.out HG.out HX.out
   obtain⟨-,a',c',hv,hcu⟩:=HUS.out.keep HP.out HX.out
   simp only [Value.slice.injEq]at hv
   obtain⟨rfl,-,rfl⟩:=hv
   obtain hz|⟨ub,uo,rfl,-,hub,huc⟩:=hcu
   ·rw [List.length_map]at hz;omega
   have hxu:=huc k (by rw [List.length_map];exact hlt)
   obtain⟨i,hi⟩:∃i,U[k]=i:=⟨_,rfl⟩
   have hui:(U.map Int.ofNat).getD k 0=(i:Int):=by rw [List.getD_eq_getElem?_getD,List.getElem?_map,List.getElem?_eq_getElem hlt,hi];rfl
   rw [hui]at hxu
   obtain⟨hil,hd1,hd2,hd3,hd4⟩:=HU.out i (by rw [←hi];exact List.getElem_mem hlt)
   obtain⟨-,a2,c2,hv2,hz|⟨b,off,hla,hb,hs⟩⟩:=HLS.out.grows h0r
   ·omega
   simp only [Value.slice.injEq]at hv2
   obtain⟨rfl,-,rfl⟩:=hv2
   obtain rfl:=hla
   obtain⟨u,hsl⟩:=hs i hil
   obtain⟨xa,xc,rfl⟩:=hsl.rep.form0
   have htk:=defsC_take (U.map (dfnI sl ls env)) k l.length (by rw [List.length_map];exact hlt)
   have hle:=defsC_lenT (U.map (dfnI sl ls env)) (k+1) l.length
   have hdk:(U.map (dfnI sl ls env))[k]'(by rw [List.length_map];exact hlt)=dfnI sl ls env i:=by rw [List.getElem_map,hi]
   rw [hdk]at htk
   have hcode:(dfnI sl ls env i).code (l.length+(defsC ((U.map (dfnI sl ls env)).take k) l.length).length)=codeF (slK sl) (foldF (ls.getD i default).2) (l.length+(defsC ((U.map (dfnI sl ls env)).take k) l.length).length)++[⟨4,(slK sl (ls.getD i default).1:Nat),0,0⟩]:=rfl
   have hlen:(l++defsC ((U.map (dfnI sl ls env)).take k) l.length).length=l.length+(defsC ((U.map (dfnI sl ls env)).take k) l.length).length:=List.length_append
   have hbd:(l++defsC ((U.map (dfnI sl ls env)).take k) l.length).length+(codeF (slK sl) (foldF (ls.getD i default).2) (l++defsC ((U.map (dfnI sl ls env)).take k) l.length).length).length+1≤1000000:=by
    have:=HL.out
    rw [htk,hcode,List.length_append,List.length_append,List.length_singleton]at hle
    rw [hlen];omega
   have HC:=Lib.hid (fun W (hg:wr.Grows W)=>define_any (ls.getD i default).2 (ls.getD i default).1 hd1 (HR.out.grows hg) (h0r.trans' hg) HT.out (hsl.rep.grows hg) hd2 hd3 hd4 hbd)
   have heq:(l++defsC ((U.map (dfnI sl ls env)).take k) l.length)++(codeF (slK sl) (foldF (ls.getD i default).2) (l++defsC ((U.map (dfnI sl ls env)).take k) l.length).length++[⟨4,(slK sl (ls.getD i default).1:Nat),0,0⟩])=l++defsC ((U.map (dfnI sl ls env)).take (k+1)) l.length:=by
    rw [htk,hcode,hlen,List.append_assoc]
   rw [heq]at HC
   obtain⟨x0,x1,x2,x3,x4,x5,x6,-⟩:=hsl
   have d1:(k:Int)<(U.length:Int):=by omega
   have d2:(i:Int)<(ls.length:Int):=by omega
   have HLT:=Lib.hid hlt
   have hubl:ub<wr.heap.size:=hub
   have hbl:b<wr.heap.size:=hb
   unfold exV at HC
   generalize(ls.getD i default).1=nm at *
   generalize(ls.getD i default).2=bd at *
   clear h0r huc hub hb hs htk hle hdk hcode hlen hbd heq hui hi hd1 hd2 hd3 hd4 hil hk hlt
   go_upto_region 3 with fail
   refine TS.beginH [11] (by kernel_rfl) (by kernel_rfl) (fun hS=>?_)
   refine TS.wkB 0 hS ?_
   refine TS.wkB 1 hS ?_
   refine TS.wkB 2 hS ?_
   refine TS.wkB 3 hS ?_
   refine TS.wkB 4 hS ?_
   refine TS.wkB 5 hS ?_
   refine TS.wkB 6 hS ?_
   refine TS.wkB 7 hS ?_
   refine TS.wkB 8 hS ?_
   refine TS.wkB 9 hS ?_
   refine TS.wkB 10 hS ?_
   refine TS.one (i:=11) (by kernel_rfl) rfl (fun K1 hK1=>?_)
   have HK1:=Lib.hid hK1
   clear hK1 hS
   dsimp only [List.getElem_toArray,List.getElem_cons_succ,List.getElem_cons_zero]
   go_simp
   go_at_call 49
   refine(HC.out _ growsR).mono ?_
   rintro e' w1 ⟨a1,c1,rfl,hp,hx⟩
   have HP1:=Lib.hid hp
   have HX1:=Lib.hid (GExt.grows (w:=wr) growsR hx)
   clear hp hx
   refine HK1.out _ _ (fun h=>absurd (by decide) h) (TS.done (by kernel_rfl) ?_)
   clear HK1 K1
   (try simp only [nS])
   go_wp2_with fail
   go_roundw
   case rel=>exact⟨k+1,HLT.out,by go_num,_,HP1,Lib.hid (HX.out.trans HX1.out)⟩
   case measure=>simp [intOf];have:=HLT.out;omega
  ·obtain rfl:k=U.length:=by omega
   rw [List.take_of_length_le (by rw [List.length_map];exact Nat.le_refl _)]at HR
   obtain⟨ra,rc,rfl⟩:=HR.out.pre.row.form
   clear hk hlt
   go_wp2_with fail
   go_returns
   exact⟨ra,rc,rfl,HR.out,HX.out⟩
theorem own_byblock{w w':World}{base size n:Nat}{e:TypeId}{v:Value}{xs:List Value}(h:w.ownsRow base e size v n xs)(hb:∀b,v.ownBlock=some b→w'.heap[b]? =w.heap[b]?):w'.ownsRow base e size v n xs:=by
 obtain⟨h1,h2|⟨g,cap,cur,rfl,k1,k2,k3⟩⟩:=h
 ·exact⟨h1,.inl h2⟩
 ·exact⟨h1,.inr ⟨g,cap,cur,rfl,k1,(hb g rfl).trans k2,k3⟩⟩
structure GSl(W8:World)(g:Nat)(vS:Value)(sl:List ByteArray)(wr:World):Prop where
 row:wr.ownsRow W8.heap.size 9 1 vS sl.length (slV sl)
 blk:∃ty,wr.heap[g]? =some (.cells #[.slice none 0 0,vS] ty (0,0))
 ext:GExt g W8 wr (.slice none 0 0) vS
 gb:g<W8.heap.size
section
variable {W8 wr W w1 w' w0 : World} {g : Nat} {vS : Value} {sl : List ByteArray}
theorem GExt.kept0{w w':World}{v v':Value}(hx:GExt g w w' v v')(h0:w0.Grows w)(hg:w0.heap.size≤g)(hv:∀b,v.ownBlock=some b→w0.heap.size≤b):w0.Grows w':=
 .of_below ⟨hx.os.trans h0.below.os,hx.tape.trans h0.below.tape,hx.output.trans h0.below.output,Nat.le_trans h0.below.size hx.size,fun k hk=>
  (hx.block k (Nat.lt_of_lt_of_le hk h0.below.size) (fun e=>by have:=hv k e.symm;omega) (by omega)).trans (h0.below.block k hk)⟩
theorem GSl.start{ty:TypeId}(hb:W8.heap[g]? =some (.cells #[.slice none 0 0,.slice none 0 0] ty (0,0))):GSl W8 g (.slice none 0 0) [] W8:=
 ⟨World.ownsRow_nil _ _ _ _,⟨ty,hb⟩,GExt.of (.refl _),(Array.getElem?_eq_some_iff.1 hb).1⟩
theorem GSl.grows(h:GSl W8 g vS sl wr)(hg:wr.Grows W):GSl W8 g vS sl W:=by
 obtain⟨ty,hb⟩:=h.blk
 exact⟨keptNe h.row (grownOf hg none) (fun _ e=>by cases e),⟨ty,(hg.below.block g (Array.getElem?_eq_some_iff.1 hb).1).trans hb⟩,h.ext.trans (GExt.of hg),h.gb⟩
theorem GSl.glt(h:GSl W8 g vS sl wr):g<wr.heap.size:=by obtain⟨ty,hb⟩:=h.blk;exact(Array.getElem?_eq_some_iff.1 hb).1
theorem GSl.c0(h:GSl W8 g vS sl wr):wr.cell? ⟨g,0,none⟩=some (.slice none 0 0):=by obtain⟨ty,hb⟩:=h.blk;exact cell_of_row wr g 0 _ _ _ hb
theorem GSl.c1(h:GSl W8 g vS sl wr):wr.cell? ⟨g,1,none⟩=some vS:=by obtain⟨ty,hb⟩:=h.blk;exact cell_of_row wr g 1 _ _ _ hb
theorem GSl.f(h:GSl W8 g vS sl wr)(j:Nat):wr.frozen? ⟨g,j,none⟩=false:=by obtain⟨ty,hb⟩:=h.blk;exact Go.Joins.unfrozen_of_block hb j
theorem GSl.ready(h:GSl W8 g vS sl wr)(hg:wr.Grows W)(hgr:W.grownBy w1 vS.ownBlock):w1.frozen? ⟨g,1,none⟩=false∧w1.cell? ⟨g,1,none⟩=some vS∧g<w1.heap.size:=by
 obtain⟨ty,hb⟩:=h.blk
 have hgv:some g≠vS.ownBlock:=fun e=>by have:=(h.row.lt g e.symm).1;have:=h.gb;omega
 have hb1:=((grown_grows hg hgr).block g (Array.getElem?_eq_some_iff.1 hb).1 hgv).trans hb
 exact⟨Go.Joins.unfrozen_of_block hb1 1,cell_of_row w1 g 1 _ _ _ hb1,(Array.getElem?_eq_some_iff.1 hb1).1⟩
theorem GSl.push(h:GSl W8 g vS sl wr)(s:ByteArray){gg n c H:Nat}(hn:n=sl.length+1)(hg:wr.Grows W)(hgr:W.grownBy w1 vS.ownBlock)(ha:vS.ownBlock=some gg∨gg=H)(hH:wr.heap.size≤H)
 (ho:w1.ownsRow W8.heap.size 9 1 (.slice (some ⟨gg,0,none⟩) n c) n (slV sl++[.string s])):GSl W8 g (.slice (some ⟨gg,0,none⟩) n c) (sl++[s]) (w1.setCell ⟨g,1,none⟩ (.slice (some ⟨gg,0,none⟩) n c)):=by
 subst hn
 have hx:=Ext.app (n:=sl.length+1) (c:=c) hg hgr ha hH
 obtain⟨ty,hb⟩:=h.blk
 have hgv:some g≠vS.ownBlock:=fun e=>by have:=(h.row.lt g e.symm).1;have:=h.gb;omega
 have hb1:=(hx.g.block g (Array.getElem?_eq_some_iff.1 hb).1 hgv).trans hb
 refine⟨?_,⟨ty,Go.Joins.block_setCell hb1 _⟩,h.ext.trans ((GExt.ext hx).set 1 _),h.gb⟩
 have ho2:w1.ownsRow W8.heap.size 9 1 (.slice (some ⟨gg,0,none⟩) (sl.length+1) c) (sl++[s]).length (slV (sl++[s])):=by
  rw [List.length_append];unfold slV;rw [List.map_append];exact ho
 exact keptNe ho2 (grownSet w1 g 1 _) (by rintro b ⟨⟩ e;have:=(ho2.lt _ e).1;have:=h.gb;omega)
theorem GSl.pre(h:GSl W8 g vS sl wr)(T:Nat→Prop)(hT:∀b,T b→b<W8.heap.size∧b≠g)(hl:sl.length≤1000)(hs:∀s∈sl,s.size≤maxLen) :
 GPre (fun b=>vS.ownBlock=some b∨T b) wr.heap.size wr.heap.size g wr (.slice none 0 0) vS [] sl:=by
 refine⟨⟨World.ownsRow_nil _ _ _ _, ?_,Nat.le_refl _, ?_,Nat.le_refl _, ?_⟩,h.blk,h.glt, ?_⟩
 ·rintro b (hb|hb)
  ·exact(h.row.lt b hb).2
  ·have:=(hT b hb).1;have:=h.ext.size;omega
 ·rintro b-e;cases e
 ·obtain⟨a,c,rfl,hc,h0⟩:=rowForm3 h.row
  refine⟨hl,hs,a,c,hc,rfl,h0.imp id ?_⟩
  rintro⟨b,rfl,hb,-,hlt⟩
  refine⟨b,0,rfl,.inl hb,hlt,fun i hi=>?_⟩
  rw [Nat.zero_add]
  exact(h.row.cellAt i (by omega)).trans (slV_get sl i hi)
 ·rintro b (hb|hb) e
  ·have:=(h.row.lt b hb).1;have:=h.gb;omega
  ·exact(hT b hb).2 e
end
def CmpP(r:Int)(l:List Ins)(sl:List ByteArray)(w:World)(e:Ending)(w':World):Prop:=∃vI vS B B2,e= .returned (.tuple #[.agg #[vI,vS],.int .i64 r])∧w.Grows w'∧LRow B w' vI l∧w'.ownsRow B2 9 1 vS sl.length (slV sl)
theorem cmp_zero(r:Int){w w':World}(hg:w.Grows w'):CmpP r [] [] w (.returned (.tuple #[.agg #[.slice none 0 0,.slice none 0 0],.int .i64 r])) w':=⟨_,_,0,0,rfl,hg,World.ownsRow_nil _ _ _ _,World.ownsRow_nil _ _ _ _⟩
theorem cmp_bad(e:Ex)(ls:List (ByteArray × Ex))(ve vl:Value)(w:World)(hr:RepE (fun _=>True) w e ve)(hsz:e.size≤1000000)(hls:LetsAt w vl ls)(hsm:LsSmall ls)(ht:Tab w)(hb:(letsF ls).2≠0∨(inferE (letsF ls).1 e).2≠0) :
 Calls Tryz.prog 20 #[exV e ve,vl] w (CmpP (if(letsF ls).2≠0 then(letsF ls).2 else(inferE (letsF ls).1 e).2) [] [] w):=by
 obtain⟨ea,ec,rfl⟩:=hr.form0
 have HLT:=Lib.hid (fun W (hg:w.Grows W)=>Lets2_any ls vl W (hls.grows hg) hsm (ht.grows hg))
 have HIN:=Lib.hid (fun W (hg:w.Grows W) vb (hv:BindAt W vb (letsF ls).1)=>Infer2_any _ (letsF ls).1 e _ vb W (hr.grows hg) (by omega) (ht.grows hg) hv)
 unfold exV at HIN
 unfold InfP at HIN
 unfold LtPost at HLT
 generalize letsF ls=L at *
 obtain⟨env,c⟩:=L
 dsimp only at HLT HIN hb ⊢
 generalize inferE env e=I at *
 obtain⟨m,c2⟩:=I
 dsimp only at HIN hb ⊢
 clear hr hls hsm ht
 unfold exV
 by_cases h1:c=0
 ·subst h1
  have h2:c2≠0:=hb.resolve_left (by simp)
  have q2:(c2==0)=false:=by simpa using h2
  rw [if_neg (by simp)]
  clear hb h2
  go_enter Tryz.func20,Tryz.ntmps20
  go_wp2_with (first
   |(go_at_call 45;refine(HLT.out _ growsR).mono ?_;rintro e' w' ⟨x,rfl,⟨bs,d,rfl⟩,hbd⟩;have HBD:=Lib.hid hbd;clear hbd)
   |(go_at_call 46;refine(HIN.out _ growsR _ HBD.out).mono ?_;rintro e' w' ⟨rfl,bs2,d2,rfl⟩))
  go_returns
  exact cmp_zero _ growsR
 ·have q1:(c==0)=false:=by simpa using h1
  rw [if_pos h1]
  clear hb h1
  go_enter Tryz.func20,Tryz.ntmps20
  go_wp2_with (go_at_call 45;refine(HLT.out _ growsR).mono ?_;rintro e' w' ⟨x,rfl,⟨bs,d,rfl⟩,hbd⟩)
  go_returns
  exact cmp_zero _ growsR
section
variable {ls : List (ByteArray × Ex)} {env : List (ByteArray × Int)} (hl : LsOk ls ls.length env) {e : Ex} {m : Int}
include hl in
theorem dfok_let{i:Nat}(hi:i∈usesL e ls):i<ls.length∧DfOk (slotX e ls) (ls.getD i default).1 (ls.getD i default).2:=by
 have hil:=uses_lt hi
 obtain⟨-,-,-,-,t5,t6,t7⟩:=ty_parts (hl.ty i hil)
 refine⟨hil,slotX_mem hi, ?_,t6,fun s hs hk=>?_⟩
 ·unfold validB at t5;simp only [Bool.and_eq_true,decide_eq_true_eq]at t5;omega
 ·have hm:=fold_ment _ hs
  rcases hl.named (Nat.le_of_lt hil) (infer_named _ t6 (by rw [t7]) hm)with h0|⟨j,hj,rfl⟩
  ·exact absurd (inpK_none hk) h0
  ·exact slotX_mem (uses_closed hi hj hm)
include hl in
theorem dfok_by(he:inferE env e=(m,0)):DfOk (slotX e ls) byN e:=by
 obtain⟨-,-,-,-,t5,t6,t7⟩:=ty_parts he
 have htk:env.take ls.length=env:=List.take_of_length_le (by rw [hl.len];exact Nat.le_refl _)
 refine⟨slotX_by, ?_,t6,fun s hs hk=>?_⟩
 ·unfold validB at t5;simp only [Bool.and_eq_true,decide_eq_true_eq]at t5;omega
 ·have hm:=fold_ment _ hs
  rcases hl.named (Nat.le_refl _) (by rw [htk];exact infer_named _ t6 (by rw [t7]) hm)with h0|⟨j,hj,rfl⟩
  ·exact absurd (inpK_none hk) h0
  ·exact slotX_mem (uses_direct hj hm)
include hl in
theorem progX_len(h10:ls.length≤10)(he:inferE env e=(m,0)):(defsC (progX e ls env m) 0).length≤2000:=by
 obtain⟨t1,-,-,t4,-⟩:=ty_parts he
 have hlen:(defsC (progX e ls env m) 0).length≤181*(progX e ls env m).length:=defsC_len _ _ fun d hd i=>by
  rcases List.mem_append.1 hd with hd|hd
  ·obtain⟨j,hj,rfl⟩:=List.mem_map.1 hd
   obtain⟨u1,-,-,u4,-⟩:=ty_parts (hl.ty j (uses_lt hj))
   have:=code_len (κ:=slK (slotX e ls)) (foldF (ls.getD j default).2) u1 i
   show(codeF (slK (slotX e ls)) (foldF (ls.getD j default).2) i).length≤180
   omega
  ·obtain rfl:d=_:=by simpa using hd
   have:=code_len (κ:=slK (slotX e ls)) (foldF e) t1 i
   show(codeF (slK (slotX e ls)) (foldF e) i).length≤180
   omega
 have hpl:(progX e ls env m).length≤11:=by
  have:=usesG_length (e:=e) (ls:=ls) ls.length
  unfold progX usesL
  rw [List.length_append,List.length_map]
  simp only [List.length_cons,List.length_nil];omega
 omega
end
theorem cmp_ok(e:Ex)(ls:List (ByteArray × Ex))(ve vl:Value)(w:World)(env:List (ByteArray × Int))(m:Int)(hr:RepE (fun _=>True) w e ve)(hsz:e.size≤1000000)(hls:LetsAt w vl ls)(hsm:LsSmall ls)(ht:Tab w)(h10:ls.length≤10)(hL:letsF ls=(env,0))(hI:inferE env e=(m,0)) :
 Calls Tryz.prog 20 #[exV e ve,vl] w (CmpP 0 (defsC (progX e ls env m) 0) (slotX e ls) w):=by
 obtain⟨ea,ec,rfl⟩:=hr.form0
 have hlk:LsOk ls ls.length env:=LsOk.of_lets (by rw [←letsF_len h10];exact hL)
 have HLK:=Lib.hid hlk
 have HLT:=Lib.hid (fun W (hg:w.Grows W)=>Lets2_any ls vl W (hls.grows hg) hsm (ht.grows hg))
 rw [hL]at HLT
 have HIN:=Lib.hid (fun W (hg:w.Grows W) vb (hv:BindAt W vb env)=>Infer2_any _ env e _ vb W (hr.grows hg) (by omega) (ht.grows hg) hv)
 rw [hI]at HIN
 have HUS:=Lib.hid (fun W (hg:w.Grows W)=>Uses2own_any e _ vl ls W (hr.grows hg) (hls.grows hg))
 have HR:=Lib.hid hr
 have HLS:=Lib.hid hls
 have HT:=Lib.hid ht
 have HEI:=Lib.hid hI
 have H10:=Lib.hid h10
 have HSM:=Lib.hid hsm
 unfold exV at HIN HUS
 unfold InfP at HIN
 unfold LtPost at HLT
 dsimp only at HLT HIN
 obtain⟨i1,hi1,hz11,hz21,hz31⟩:=info_parts infoStr
 obtain⟨-,la,lc,rfl,-⟩:=hls
 clear hr hsm ht hL hI hlk h10 hsz
 unfold exV
 go_enter Tryz.func20,Tryz.ntmps20
 go_upto_region 9 with (first
  |(go_at_call 45;refine(HLT.out _ growsR).mono ?_;rintro e' w' ⟨x,rfl,⟨bs,d,rfl⟩,hbd⟩;have HBD:=Lib.hid hbd;clear hbd)
  |(go_at_call 46;refine(HIN.out _ growsR _ HBD.out).mono ?_;rintro e' w' ⟨rfl,bs2,d2,rfl⟩)
  |(go_at_call 47;refine(HUS.out _ growsR).mono ?_;rintro e' w' ⟨⟨xu,rfl,hint,hown⟩,bs3,d3,rfl⟩;have HINT:=Lib.hid hint;have HOWN:=Lib.hid hown;clear hint hown))
 have g1:(((((((((w.alloc (.cells #[.int .i64 e.op,.int .i64 e.num,.int .i64 e.den,.int .i64 e.dim,.string e.name,.slice ea e.args.length ec] 27))).alloc (.cells #[.slice none 0 0,.slice none 0 0] 58))).grow (bs++bs2) d2).alloc (.cells #[.slice none 0 0,.slice none 0 0] 111))).grow bs3 d3)).heap[w.heap.size]? =_:=((growsR:World.Grows ((w.alloc (.cells #[.int .i64 e.op,.int .i64 e.num,.int .i64 e.den,.int .i64 e.dim,.string e.name,.slice ea e.args.length ec] 27))) (((((((((w.alloc (.cells #[.int .i64 e.op,.int .i64 e.num,.int .i64 e.den,.int .i64 e.dim,.string e.name,.slice ea e.args.length ec] 27))).alloc (.cells #[.slice none 0 0,.slice none 0 0] 58))).grow (bs++bs2) d2).alloc (.cells #[.slice none 0 0,.slice none 0 0] 111))).grow bs3 d3))).below.block w.heap.size (by simp)).trans (heap_alloc_new _ _)
 have g2:(((((((((w.alloc (.cells #[.int .i64 e.op,.int .i64 e.num,.int .i64 e.den,.int .i64 e.dim,.string e.name,.slice ea e.args.length ec] 27))).alloc (.cells #[.slice none 0 0,.slice none 0 0] 58))).grow (bs++bs2) d2).alloc (.cells #[.slice none 0 0,.slice none 0 0] 111))).grow bs3 d3)).heap[((w.alloc (.cells #[.int .i64 e.op,.int .i64 e.num,.int .i64 e.den,.int .i64 e.dim,.string e.name,.slice ea e.args.length ec] 27))).heap.size]? =_:=((growsR:World.Grows ((((w.alloc (.cells #[.int .i64 e.op,.int .i64 e.num,.int .i64 e.den,.int .i64 e.dim,.string e.name,.slice ea e.args.length ec] 27))).alloc (.cells #[.slice none 0 0,.slice none 0 0] 58))) (((((((((w.alloc (.cells #[.int .i64 e.op,.int .i64 e.num,.int .i64 e.den,.int .i64 e.dim,.string e.name,.slice ea e.args.length ec] 27))).alloc (.cells #[.slice none 0 0,.slice none 0 0] 58))).grow (bs++bs2) d2).alloc (.cells #[.slice none 0 0,.slice none 0 0] 111))).grow bs3 d3))).below.block ((w.alloc (.cells #[.int .i64 e.op,.int .i64 e.num,.int .i64 e.den,.int .i64 e.dim,.string e.name,.slice ea e.args.length ec] 27))).heap.size (by simp)).trans (heap_alloc_new _ _)
 have g3:(((((((((w.alloc (.cells #[.int .i64 e.op,.int .i64 e.num,.int .i64 e.den,.int .i64 e.dim,.string e.name,.slice ea e.args.length ec] 27))).alloc (.cells #[.slice none 0 0,.slice none 0 0] 58))).grow (bs++bs2) d2).alloc (.cells #[.slice none 0 0,.slice none 0 0] 111))).grow bs3 d3)).heap[(((((w.alloc (.cells #[.int .i64 e.op,.int .i64 e.num,.int .i64 e.den,.int .i64 e.dim,.string e.name,.slice ea e.args.length ec] 27))).alloc (.cells #[.slice none 0 0,.slice none 0 0] 58))).grow (bs++bs2) d2).heap.size]? =_:=((growsR:World.Grows (((((((w.alloc (.cells #[.int .i64 e.op,.int .i64 e.num,.int .i64 e.den,.int .i64 e.dim,.string e.name,.slice ea e.args.length ec] 27))).alloc (.cells #[.slice none 0 0,.slice none 0 0] 58))).grow (bs++bs2) d2).alloc (.cells #[.slice none 0 0,.slice none 0 0] 111))) (((((((((w.alloc (.cells #[.int .i64 e.op,.int .i64 e.num,.int .i64 e.den,.int .i64 e.dim,.string e.name,.slice ea e.args.length ec] 27))).alloc (.cells #[.slice none 0 0,.slice none 0 0] 58))).grow (bs++bs2) d2).alloc (.cells #[.slice none 0 0,.slice none 0 0] 111))).grow bs3 d3))).below.block (((((w.alloc (.cells #[.int .i64 e.op,.int .i64 e.num,.int .i64 e.den,.int .i64 e.dim,.string e.name,.slice ea e.args.length ec] 27))).alloc (.cells #[.slice none 0 0,.slice none 0 0] 58))).grow (bs++bs2) d2).heap.size (by simp)).trans (heap_alloc_new _ _)
 have e2:((w.alloc (.cells #[.int .i64 e.op,.int .i64 e.num,.int .i64 e.den,.int .i64 e.dim,.string e.name,.slice ea e.args.length ec] 27))).heap.size=w.heap.size+1:=by simp
 have e3:(((((w.alloc (.cells #[.int .i64 e.op,.int .i64 e.num,.int .i64 e.den,.int .i64 e.dim,.string e.name,.slice ea e.args.length ec] 27))).alloc (.cells #[.slice none 0 0,.slice none 0 0] 58))).grow (bs++bs2) d2).heap.size=w.heap.size+1+1+(bs.size+bs2.size):=by simp
 rw [e2]at g2
 rw [e3]at g3
 refine cutW (fun W=>(w.Grows W∧W.heap[w.heap.size]? =some (.cells #[.int .i64 e.op,.int .i64 e.num,.int .i64 e.den,.int .i64 e.dim,.string e.name,.slice ea e.args.length ec] 27 (0,0))∧W.heap[w.heap.size+1]? =some (.cells #[.slice none 0 0,.slice none 0 0] 58 (0,0))∧W.heap[w.heap.size+1+1+(bs.size+bs2.size)]? =some (.cells #[.slice none 0 0,.slice none 0 0] 111 (0,0)))∧IntsAt W xu ((usesL e ls).map Int.ofNat)∧(∀b,xu.ownBlock=some b→w.heap.size+1+1+(bs.size+bs2.size)<b∧b<W.heap.size)) ⟨⟨growsR,g1,g2,g3⟩,HINT.out,fun b hb=>by have:=HOWN.out.lt b hb;simp at this ⊢;omega⟩ ?_
 rintro W8 ⟨⟨k1,k2,k3,k4⟩,k5,k6⟩
 clear g1 g2 g3 e2 e3 HINT HOWN HLT HIN HUS HBD
 have hgw:w.heap.size+1<w.heap.size+1+1+(bs.size+bs2.size):=by omega
 have hg8:=(Array.getElem?_eq_some_iff.1 k4).1
 have K1:=Lib.hid k1
 have K2:=Lib.hid k2
 have K3:=Lib.hid k3
 have K4:=Lib.hid k4
 have K5:=Lib.hid k5
 have K6:=Lib.hid k6
 obtain⟨-,-,ua,uc,rfl,hcu⟩:=k5
 have HCU:=Lib.hid hcu
 have HU:=Lib.hid (fun i (hi:i∈usesL e ls)=>dfok_let HLK.out hi)
 have HUL:Hid ((usesL e ls).length≤10):=Lib.hid (by have:=usesG_length (e:=e) (ls:=ls) ls.length;have:=H10.out;unfold usesL;omega)
 have HBY:=Lib.hid (dfok_by HLK.out HEI.out)
 have HPL:=Lib.hid (progX_len HLK.out H10.out HEI.out)
 have HSW:=Lib.hid (slotX_words HLK.out H10.out (e:=e))
 have hslx:(usesL e ls).map (fun i=>(ls.getD i default).1)++[byN]=slotX e ls:=rfl
 have hpgx:progX e ls env m=(usesL e ls).map (dfnI (slotX e ls) ls env)++[dfnX (slotX e ls) env e byN m]:=rfl
 have HPG:=Lib.hid hpgx
 rw [hpgx]at HPL
 have HSX:=Lib.hid hslx
 generalize slotX e ls=sl at *
 generalize usesL e ls=U at *
 generalize w.heap.size+1+1+(bs.size+bs2.size)=G at *
 clear k1 k2 k3 k4 k6 hcu hslx hpgx
 rw [List.length_map]at *
 go_wp2_with fail
 go_loopw [39] (fun v39 wr=>∃k:Nat,k≤U.length∧v39= .int .i64 k∧∃vS,Hid (GSl W8 G vS ((U.take k).map fun i=>(ls.getD i default).1) wr)) (fun v39 _=>U.length-(intOf v39).toNat)
 case atStart=>exact⟨0,by omega,rfl,_,Lib.hid (by simpa using GSl.start K4.out)⟩
 case round=>
  obtain⟨k,hk,rfl,vS,HS⟩:=hrel
  have hgr:=HS.out.ext.kept0 K1.out (by omega) (by rintro b ⟨⟩)
  have hlk:((U.take k).map fun i=>(ls.getD i default).1).length=k:=by rw [List.length_map,List.length_take];omega
  obtain⟨sa,sc,rfl,-,-⟩:=rowForm3 HS.out.row
  have HRO:=HS.out.row
  have hs0:=HS.out
  rw [hlk]at HRO hs0
  have HROW:=Lib.hid HRO
  clear HRO HS
  have HS:=Lib.hid hs0
  clear hs0
  by_cases hlt:k<U.length
  ·obtain hz|⟨ub,uo,rfl,hub,huc⟩:=HCU.out
   ·omega
   have hub2:=K6.out ub rfl
   have hxu:=huc k hlt
   obtain⟨i,hi⟩:∃i,U[k]=i:=⟨_,rfl⟩
   have hui:(U.map Int.ofNat).getD k 0=(i:Int):=by rw [List.getD_eq_getElem?_getD,List.getElem?_map,List.getElem?_eq_getElem hlt,hi];rfl
   rw [hui]at hxu
   have hxr:=(World.cell?_of_block (a:=⟨ub,uo+k,none⟩) (HS.out.ext.block ub hub2.2 (by rintro⟨⟩) (by omega))).trans hxu
   obtain⟨hil,hd1,-,-,-⟩:=HU.out i (by rw [←hi];exact List.getElem_mem hlt)
   obtain⟨-,a2,c2,hv2,hz|⟨b,off,hla,hb,hs⟩⟩:=HLS.out.grows hgr
   ·omega
   simp only [Value.slice.injEq]at hv2
   obtain⟨rfl,-,rfl⟩:=hv2
   obtain rfl:=hla
   obtain⟨u,hsl⟩:=hs i hil
   have x0:=hsl.nm
   have d1:(k:Int)<(U.length:Int):=by omega
   have d2:(i:Int)<(ls.length:Int):=by omega
   have HLTK:=Lib.hid hlt
   have htk:((U.take (k+1)).map fun i=>(ls.getD i default).1)=((U.take k).map fun i=>(ls.getD i default).1)++[(ls.getD i default).1]:=by
    rw [List.take_succ_eq_append_getElem hlt,List.map_append,hi];rfl
   have HTK:=Lib.hid htk
   have HK:=Lib.hid hlk
   have hubl:ub<wr.heap.size:=Nat.lt_of_lt_of_le hub2.2 HS.out.ext.size
   have hbl:b<wr.heap.size:=hb
   have c1:=HS.out.c1
   have hgl:=HS.out.glt
   have hf1:=HS.out.f 1
   have HBW:=Lib.hid HS.out.ext.size
   generalize(ls.getD i default).1=nm at *
   generalize((U.take k).map fun i=>(ls.getD i default).1)=nms at *
   obtain⟨nms2,hn2⟩:∃x,((U.take (k+1)).map fun i=>(ls.getD i default).1)=x:=⟨_,rfl⟩
   rw [hn2]at HTK
   have HN2:=Lib.hid hn2
   clear hn2
   have hk10:(k:Int)≤10:=by have:=HUL.out;omega
   have HUK:Hid (k≤10):=Lib.hid (by have:=HUL.out;omega)
   clear hgr hub huc hub2 hxu hui hi hil hd1 hb hs hsl htk hk hlt hlk K5
   go_upto_region 12 with fail
   refine TS.begin [8,9,10] (World.Grows wr) (by kernel_rfl) (by kernel_rfl) grows_drew0 (fun hS=>?_)
   refine TS.wkB 0 hS ?_
   refine TS.wkB 1 hS ?_
   refine TS.wkB 2 hS ?_
   refine TS.wkB 3 hS ?_
   refine TS.wkB 4 hS ?_
   refine TS.wkB 5 hS ?_
   refine TS.wkB 6 hS ?_
   refine TS.one (i:=7) (by kernel_rfl) rfl (fun K1 hK1=>?_)
   have HK1:=Lib.hid hK1
   clear hK1 hS
   dsimp only [List.getElem_toArray,List.getElem_cons_succ,List.getElem_cons_zero]
   go_simp
   refine TS.go HK1.out growsR (fun hS=>?_)
   clear HK1 K1
   (try simp only [nS])
   refine TS.one (i:=8) (by kernel_rfl) rfl (fun K1 hK1=>?_)
   refine step_append_lies _ rfl _ _ 56 rfl W8.heap.size 9 i1 _ 1 16 Tryz.underlying56 hi1 hz11 hz21 hz31 rfl (by decide) (.slice sa k sc) k (slV nms) rfl (own_grow9 HROW.out growsR) ⟨_,0,none⟩ 1 1 [.string nm] rfl rfl (news_cells _ [.string nm] _ _ (by simp)) (by intro u hu;simp at hu;subst hu;rfl) (by decide) (by unfold maxLen;have:=HUK.out;omega) (by have:=HUK.out;omega) (by have:=HBW.out;simp;omega) _ rfl ?_
   intro g6 c6 w6 hown hgrow hgg hgl6
   obtain⟨r1,r2,r3⟩:=HS.out.ready growsR hgrow
   have h6:=HS.out.push nm (n:=k+1) (by rw [HK.out]) growsR hgrow hgg (by simp<;>omega) hown
   rw [←HTK.out]at h6
   have H6:=Lib.hid h6
   refine hK1 _ _ (fun h=>absurd (by decide) h) ?_
   clear hK1 K1 hown hgrow hgg hgl6 h6 hS c1 hf1 hgl
   (try simp only [nS])
   refine TS.wtB 9 ?_
   refine TS.weB 10 ?_
   go_wp2_with fail
   go_roundw
   case rel=>exact⟨k+1,HLTK.out,by go_num,_,by rw [HN2.out];exact H6⟩
   case measure=>simp [intOf];have:=HLTK.out;omega
  ·obtain rfl:k=U.length:=by omega
   rw [List.take_of_length_le (Nat.le_refl _)]at HS HROW
   have c1:=HS.out.c1
   have hgl:=HS.out.glt
   have hf1:=HS.out.f 1
   have HBW:=Lib.hid HS.out.ext.size
   have HLN:Hid ((U.map fun i=>(ls.getD i default).1).length=U.length):=Lib.hid (by rw [List.length_map])
   have hsx:=HSX.out
   generalize(U.map fun i=>(ls.getD i default).1)=nms at *
   clear hgr hlk hk hlt K5
   go_upto_region 15 with (at_builtin;refine wpList_append_lies _ rfl _ _ 56 rfl W8.heap.size 9 i1 _ 1 16 Tryz.underlying56 hi1 hz11 hz21 hz31 rfl (by decide) (.slice sa U.length sc) U.length (slV nms) rfl (own_grow9 HROW.out growsR) ⟨_,0,none⟩ 1 1 [.string byN] rfl rfl (news_cells _ [.string byN] _ _ (by simp)) (by intro u hu;simp at hu;subst hu;rfl) (by decide) (by unfold maxLen;have:=HUL.out;omega) (by have:=HUL.out;omega) (by have:=HBW.out;simp;omega) _ rfl ?_;intro g6 c6 w6 hown hgrow hgg hgl6;obtain⟨r1,r2,r3⟩:=HS.out.ready growsR hgrow;have h6:=HS.out.push byN (n:=U.length+1) (by rw [HLN.out]) growsR hgrow hgg (by simp<;>omega) hown;rw [hsx]at h6;have H6:=Lib.hid h6;clear hown hgrow hgg hgl6 h6)
   refine cutW (fun W=>GSl W8 G (.slice (some ⟨g6,0,none⟩) (U.length+1) c6) sl W) H6.out ?_
   intro W9 h9
   have HSN:Hid (∀s∈sl,s.size≤maxLen):=Lib.hid (by
    intro s hs
    have hw:=HSW.out.1
    unfold wordsF at hw
    simp only [Bool.and_eq_true,decide_eq_true_eq,List.all_eq_true]at hw
    have:=hw.1.2 s hs
    unfold isWord at this
    simp only [Bool.and_eq_true,decide_eq_true_eq]at this
    unfold maxLen;omega)
   have hp9:=h9.pre (fun b=>(Value.slice ua U.length uc).ownBlock=some b) (fun b hb=>⟨(K6.out b hb).2,by have:=(K6.out b hb).1;omega⟩) (by have:=HSW.out.2;omega) HSN.out
   have hg9:=h9.ext.kept0 K1.out (by omega) (by rintro b ⟨⟩)
   have hus:IntsIn (fun b=>(Value.slice (some ⟨g6,0,none⟩) (U.length+1) c6).ownBlock=some b∨(Value.slice ua U.length uc).ownBlock=some b) W9 (.slice ua U.length uc) (U.map Int.ofNat):=by
    refine⟨by rw [List.length_map];have:=HUL.out;omega,ua,uc,by rw [List.length_map], ?_⟩
    rw [List.length_map]
    refine HCU.out.imp id ?_
    rintro⟨b,off,rfl,hb,hc⟩
    refine⟨b,off,rfl,.inr rfl,Nat.lt_of_lt_of_le hb h9.ext.size,fun i hi=>?_⟩
    exact(World.cell?_of_block (a:=⟨b,off+i,none⟩) (h9.ext.block b hb (by rintro⟨⟩) (by have:=(K6.out b rfl).1;omega))).trans (hc i hi)
   have hple:=HPL.out
   have hpl1:=defsC_lenT (U.map (dfnI sl ls env)++[dfnX sl env e byN m]) U.length 0
   rw [show(U.map (dfnI sl ls env)++[dfnX sl env e byN m]).take U.length=U.map (dfnI sl ls env)by rw [List.take_append_of_le_length (by rw [List.length_map];exact Nat.le_refl _),List.take_of_length_le (by rw [List.length_map];exact Nat.le_refl _)]]at hpl1
   have HDF:=Lib.hid (defs_any ls env U HU.out hp9 hg9 (by omega) HT.out HLS.out hus (by simp only [List.length_nil];omega))
   simp only [List.length_nil,List.nil_append]at HDF
   have hfin:defsC (U.map (dfnI sl ls env)++[dfnX sl env e byN m]) 0=defsC (U.map (dfnI sl ls env)) 0++(codeF (slK sl) (foldF e) (defsC (U.map (dfnI sl ls env)) 0).length++[⟨4,(slK sl byN:Nat),0,0⟩]):=by
    rw [defsC_snoc,Nat.zero_add];rfl
   have hpl2:(defsC (U.map (dfnI sl ls env)) 0).length+(codeF (slK sl) (foldF e) (defsC (U.map (dfnI sl ls env)) 0).length).length+1≤1000000:=by
    rw [hfin,List.length_append,List.length_append,List.length_singleton]at hple;omega
   obtain⟨b1,b2,b3,b4⟩:=HBY.out
   have HDB:=Lib.hid (fun(S:Nat→Prop) W v (hp:GPre S W9.heap.size W9.heap.size G W v (.slice (some ⟨g6,0,none⟩) (U.length+1) c6) (defsC (U.map (dfnI sl ls env)) 0) sl) (h0:w.Grows W)=>define_any e byN b1 hp h0 HT.out (HR.out.grows h0) b2 b3 b4 hpl2)
   rw [←hfin]at HDB
   have HP9:=Lib.hid hp9
   have HG9:=Lib.hid hg9
   have H9:=Lib.hid h9
   unfold exV at HDB
   clear hp9 hg9 h9 hus hple hpl1 hfin hpl2 b1 b2 b3 b4 r1 r2 r3 H6 HS HROW c1 hgl hf1
   go_upto_region 16 with (go_at_call 48;refine HDF.out.mono ?_;rintro e' w1 ⟨a1,c1,rfl,hp1,hx1⟩)
   have hg1:=HP9.out.kept HG9.out (by omega) hx1
   have hbl1:∀b,b<W8.heap.size→b≠G→w1.heap[b]? =W8.heap[b]?:=fun b hb hn=>(hx1.block b (Nat.lt_of_lt_of_le hb H9.out.ext.size) (by rintro⟨⟩) hn).trans (H9.out.ext.block b hb (by rintro⟨⟩) hn)
   have hbx:=(hbl1 w.heap.size (by omega) (by omega)).trans K2.out
   have hbl:=(Array.getElem?_eq_some_iff.1 hbx).1
   have x0:=cell_of_row w1 _ 0 _ _ _ hbx
   have x1:=cell_of_row w1 _ 1 _ _ _ hbx
   have x2:=cell_of_row w1 _ 2 _ _ _ hbx
   have x3:=cell_of_row w1 _ 3 _ _ _ hbx
   have x4:=cell_of_row w1 _ 4 _ _ _ hbx
   have x5:=cell_of_row w1 _ 5 _ _ _ hbx
   have HD2:=Lib.hid (HDB.out _ _ _ hp1 hg1)
   have HP1:=Lib.hid hp1
   have HX1:=Lib.hid hx1
   have HG1:=Lib.hid hg1
   have HB1:=Lib.hid hbl1
   clear hp1 hx1 hg1 hbl1 hbx
   go_upto_region 17 with (go_at_call 49;refine HD2.out.mono ?_;rintro e' w2 ⟨a2,c2,rfl,hp2,hx2⟩)
   have hg2:=HP1.out.kept HG1.out (by omega) hx2
   have hrv:∀b,b<W8.heap.size→some b≠(Value.slice a1 (defsC (U.map (dfnI sl ls env)) 0).length c1).ownBlock:=fun b hb e=>by have:=(HP1.out.pre.row.lt b e.symm).1;have:=H9.out.ext.size;omega
   have hbx:=(hx2.block (w.heap.size+1) (by have:=HP1.out.glt;omega) (hrv _ (by omega)) (by omega)).trans ((HB1.out _ (by omega) (by omega)).trans K3.out)
   have hbl2:=(Array.getElem?_eq_some_iff.1 hbx).1
   have y0:=cell_of_row w2 _ 0 _ _ _ hbx
   have y1:=cell_of_row w2 _ 1 _ _ _ hbx
   have f0:=Go.Joins.unfrozen_of_block hbx 0
   have f1:=Go.Joins.unfrozen_of_block hbx 1
   have z0:=hp2.c0
   have z1:=hp2.c1
   have hgl2:=hp2.glt
   have hne:G≠w.heap.size+1:=by omega
   have HFN:Hid (∀w',w'=(w2.setCell ⟨w.heap.size+1,0,none⟩ (.slice a2 (defsC (U.map (dfnI sl ls env)++[dfnX sl env e byN m]) 0).length c2)).setCell ⟨w.heap.size+1,1,none⟩ (.slice (some ⟨g6,0,none⟩) (U.length+1) c6)→CmpP 0 (defsC (U.map (dfnI sl ls env)++[dfnX sl env e byN m]) 0) sl w (.returned (.tuple #[.agg #[.slice a2 (defsC (U.map (dfnI sl ls env)++[dfnX sl env e byN m]) 0).length c2,.slice (some ⟨g6,0,none⟩) (U.length+1) c6],.int .i64 0])) w'):=Lib.hid (by
    intro w' hw'
    have s1:=grownSet w2 (w.heap.size+1) 0 (.slice a2 (defsC (U.map (dfnI sl ls env)++[dfnX sl env e byN m]) 0).length c2)
    have s2:=grownSet (w2.setCell ⟨w.heap.size+1,0,none⟩ (.slice a2 (defsC (U.map (dfnI sl ls env)++[dfnX sl env e byN m]) 0).length c2)) (w.heap.size+1) 1 (.slice (some ⟨g6,0,none⟩) (U.length+1) c6)
    rw [←hw']at s2
    refine⟨_,_,W9.heap.size,W8.heap.size,rfl,World.Grows.grown (World.Grows.grown hg2 s1 (by rintro k ⟨⟩;omega)) s2 (by rintro k ⟨⟩;omega), ?_, ?_⟩
    ·have hr:=hp2.pre.row
     unfold LRow at hr ⊢
     have hlo:∀b,(some (w.heap.size+1))=some b→(Value.slice a2 (defsC (U.map (dfnI sl ls env)++[dfnX sl env e byN m]) 0).length c2).ownBlock≠some b:=by rintro b ⟨⟩ e;have:=(hr.lt _ e).1;have:=H9.out.ext.size;omega
     exact keptNe (keptNe hr s1 hlo) s2 hlo
    ·have hr:=H9.out.row
     have hlo:∀b,(some (w.heap.size+1))=some b→(Value.slice (some ⟨g6,0,none⟩) (U.length+1) c6).ownBlock≠some b:=by rintro b ⟨⟩ e;have:=(hr.lt _ e).1;omega
     have hr2:=own_byblock (w':=w2) hr (fun b hb=>by
      have hb9:=(hr.lt b hb).2
      have hbS:(Value.slice (some ⟨g6,0,none⟩) (U.length+1) c6).ownBlock=some b∨(Value.slice ua U.length uc).ownBlock=some b:=.inl hb
      refine(hx2.block b (Nat.lt_of_lt_of_le hb9 HX1.out.size) (HP1.out.pre.ap b hbS) (HP1.out.gS b hbS)).trans (HX1.out.block b hb9 (by rintro⟨⟩) (HP9.out.gS b hbS)))
     exact keptNe (keptNe hr2 s1 hlo) s2 hlo)
   have HBX:=Lib.hid hbx
   clear hp2 hx2 hg2 hrv hbx x0 x1 x2 x3 x4 x5
   generalize hLe:(defsC (U.map (dfnI sl ls env)++[dfnX sl env e byN m]) 0)=L at *
   have HLE:=Lib.hid hLe
   clear hLe
   go_wp2_with fail
   obtain⟨wf,hwf⟩:∃x,x=(w2.setCell ⟨w.heap.size+1,0,none⟩ (.slice a2 L.length c2)).setCell ⟨w.heap.size+1,1,none⟩ (.slice (some ⟨g6,0,none⟩) (U.length+1) c6):=⟨_,rfl⟩
   rw [←hwf]
   have hC:=HFN.out wf hwf
   have hb9:wf.heap[w.heap.size+1]? =some (.cells #[.slice a2 L.length c2,.slice (some ⟨g6,0,none⟩) (U.length+1) c6] 58 (0,0)):=by
    rw [hwf];exact Go.Joins.block_setCell (Go.Joins.block_setCell HBX.out _) _
   have u0:wf.cell? ⟨w.heap.size+1,0,none⟩=some (.slice a2 L.length c2):=cell_of_row wf _ 0 _ _ _ hb9
   have u1:wf.cell? ⟨w.heap.size+1,1,none⟩=some (.slice (some ⟨g6,0,none⟩) (U.length+1) c6):=cell_of_row wf _ 1 _ _ _ hb9
   have HC:=Lib.hid hC
   clear hwf hb9 hC y0 y1 f0 f1 z0 z1
   (try simp only [Exit.inBlock,Exit.then])
   refine bodyPost_ret (by simp [results,Tryz.results20,go_sem,u0,u1];try rfl) rfl ?_
   rw [HPG.out,HLE.out]
   exact HC.out
end Go.Proofs.YtfoefpoaomepbaaGreatDoor
