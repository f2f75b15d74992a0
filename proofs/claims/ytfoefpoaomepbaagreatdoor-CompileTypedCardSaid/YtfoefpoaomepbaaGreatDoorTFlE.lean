import Derived.Test.YtfoefpoaomepbaaGreatDoorTTyN
import Derived.Test.YtfoefpoaomepbaaGreatDoorTEvQ
import Derived.Test.YtfoefpoaomepbaaGreatDoorTK
set_option linter.all false
set_option maxHeartbeats 16000000
set_option maxRecDepth 1000000
namespace Go.Proofs.YtfoefpoaomepbaaGreatDoor
open Go.RowKit
theorem clc_min(S:Nat→Prop)(e:Ex)(v:Value)(w:World)(h:RepE S w e v)(ok:CalcOk e)(ht:Tab w)(hres:resD e.op (e.args.map Ex.dim)≠0)(ho:e.op=19):Calls Tryz.prog 89 #[exV e v] w (ClcP (calcF e.op e.args) e v w):=by
 have hb:=foldOp_bd ok.op
 have hrng:=h.rng
 have HI:=Lib.hid (fun W (hg:w.Grows W)=>Infer2_any S [] e v (.slice none 0 0) W (h.grows hg) (by have:=ok.valid;unfold validB at this;simp only [Bool.and_eq_true,decide_eq_true_eq]at this;omega) (ht.grows hg) (bind_nil W))
 rw [ok.infer]at HI
 have HO:=Lib.hid ok
 cases h with
 |mk _ a cap vs hr hc hs=>
 rw [if_neg hres]at HI
 have hCC:=fun r hR=>CalcOk.calc ok r hR hres
 obtain⟨dm,hdm⟩:∃d,resD e.op (e.args.map Ex.dim)=d:=⟨_,rfl⟩
 rw [hdm]at HI hCC
 unfold InfP exV at HI
 have hlen:=hr.len
 have h6:7≤e.op:=by omega
 have ha:=ok.two h6
 have hl:e.args.length=2:=by rw [ha];rfl
 obtain⟨hxd,hv⟩:=lit_bd ok (i:=0) (by omega)
 obtain⟨hyd,hv2⟩:=lit_bd ok (i:=1) (by omega)
 rw [ha]at hdm
 have hdb:I64 dm:=by rw [←hdm];exact resD_bd2 hxd hyd
 have HFD0:=Lib.hid (fun n d (h1:I64 n) (h2:I64 d) W (hg:w.Grows W)=>FormatDecimal2_any n d dm W h1 h2 hdb (ht.grows hg))
 obtain⟨b,off,rfl,hS,hlt,hx⟩:=hc.resolve_left (by omega)
 obtain⟨-,x1,x2,-,-,-⟩:=hx 0 (by omega)
 obtain⟨-,y1,y2,-,-,-⟩:=hx 1 (by omega)
 simp only [Nat.zero_mul,Nat.add_zero,Nat.one_mul]at x1 x2 y1 y2
 have hbd:=vfrac_bd hv
 have hbd2:=vfrac_bd hv2
 have hi:I64x4 (e.arg 0).num (e.arg 0).den (e.arg 1).num (e.arg 1).den:=⟨⟨by omega,by omega⟩,⟨by omega,by omega⟩,⟨by omega,by omega⟩,⟨by omega,by omega⟩⟩
 unfold exV
 rw [hl]at HI ⊢
 have HQ:=Lib.hid (opMin ho ha)
 have HEQ:=Lib.hid (fun h=>frac_same hv hv2 h)
 have HN:=Lib.hid (fun W=>Compare2_any (e.arg 0).num (e.arg 0).den (e.arg 1).num (e.arg 1).den W hi)
 have hcf:=cmpF_ok hv hv2
 unfold frI at HN
 rw [hcf]at HN
 dsimp only at HN
 have hox:I64 (e.arg 0).num∧I64 (e.arg 0).den:=⟨⟨by omega,by omega⟩,⟨by omega,by omega⟩⟩
 have hoy:I64 (e.arg 1).num∧I64 (e.arg 1).den:=⟨⟨by omega,by omega⟩,⟨by omega,by omega⟩⟩
 generalize cmpI (e.arg 0).num (e.arg 0).den (e.arg 1).num (e.arg 1).den=c at *
 have HXC:=Lib.hid (hCC ((e.arg 0).num,(e.arg 0).den,0))
 have HYC:=Lib.hid (hCC ((e.arg 1).num,(e.arg 1).den,0))
 generalize(e.arg 0).num=xn at *
 generalize(e.arg 0).den=xd at *
 generalize(e.arg 1).num=yn at *
 generalize(e.arg 1).den=yd at *
 clear hCC hres ok hs hc hx hS ha hdm hbd hbd2 hi hv hv2 HO hdb hr hrng hcf
 have HOH:=Lib.hid ho
 rw [ho]at HI HQ HXC HYC ⊢
 clear ho h6 hb hl
 rcases(show c<0∨c=0∨0<c by omega)with h1|h1|h1
 focus
  have d1:decide (c<0)=true:=decide_eq_true h1
  have HCC:=Lib.hid (HXC.out ⟨by rw [HQ.out],fun _=>by rw [HQ.out];(first|rw [if_pos (by omega)]|rw [if_neg (by omega)]);exact⟨rfl,rfl⟩⟩)
  have hrI:=hox
  clear HQ HEQ HXC HYC hox hoy
  obtain⟨dk,hdk⟩:∃k,decOk xn xd dm=k:=⟨_,rfl⟩
  have HFD:=Lib.hid (fun W hg=>HFD0.out xn xd hrI.1 hrI.2 W hg)
 rotate_left
 focus
  subst h1
  obtain⟨rfl,rfl⟩:=HEQ.out rfl
  have HCC:=Lib.hid (HXC.out ⟨by rw [HQ.out],fun _=>by rw [HQ.out];exact⟨rfl,rfl⟩⟩)
  have hrI:=hox
  clear HQ HEQ HXC HYC hox hoy
  obtain⟨dk,hdk⟩:∃k,decOk xn xd dm=k:=⟨_,rfl⟩
  have HFD:=Lib.hid (fun W hg=>HFD0.out xn xd hrI.1 hrI.2 W hg)
 rotate_left
 focus
  have d1:decide (c<0)=false:=decide_eq_false (by omega)
  have HCC:=Lib.hid (HYC.out ⟨by rw [HQ.out],fun _=>by rw [HQ.out];(first|rw [if_pos (by omega)]|rw [if_neg (by omega)]);exact⟨rfl,rfl⟩⟩)
  have hrI:=hoy
  clear HQ HEQ HXC HYC hox hoy
  obtain⟨dk,hdk⟩:∃k,decOk yn yd dm=k:=⟨_,rfl⟩
  have HFD:=Lib.hid (fun W hg=>HFD0.out yn yd hrI.1 hrI.2 W hg)
 rotate_left
 all_goals
  unfold FdPost at HFD
  rw [hdk]at HFD
  dsimp only at HCC
  rw [hdk]at HCC
  clear hdk HFD0 hrI
  go_enter Tryz.func89,Tryz.ntmps89
  go_upto_region 8 with (go_at_call 46;refine(HI.out _ growsR).mono ?_;rintro e' w' ⟨rfl,bs1,d1,rfl⟩)
  refine TS.begin [11] (World.Grows ((((w.alloc (.cells #[.int .i64 19,.int .i64 e.num,.int .i64 e.den,.int .i64 e.dim,.string e.name,.slice (some ⟨b,off,none⟩) 2 cap] 27)).alloc (.cells #[.int .i64 0,.int .i64 0,.int .i64 0,.int .i64 0,.string ⟨#[]⟩,.slice none 0 0] 27)).grow bs1 d1).alloc (.cells #[.int .i64 xn,.int .i64 xd] 24))) (by kernel_rfl) (by kernel_rfl) growsR (fun hS=>?_)
  exact tz9
theorem clc_max(S:Nat→Prop)(e:Ex)(v:Value)(w:World)(h:RepE S w e v)(ok:CalcOk e)(ht:Tab w)(hres:resD e.op (e.args.map Ex.dim)≠0)(ho:e.op=20):Calls Tryz.prog 89 #[exV e v] w (ClcP (calcF e.op e.args) e v w):=by
 have hb:=foldOp_bd ok.op
 have hrng:=h.rng
 have HI:=Lib.hid (fun W (hg:w.Grows W)=>Infer2_any S [] e v (.slice none 0 0) W (h.grows hg) (by have:=ok.valid;unfold validB at this;simp only [Bool.and_eq_true,decide_eq_true_eq]at this;omega) (ht.grows hg) (bind_nil W))
 rw [ok.infer]at HI
 have HO:=Lib.hid ok
 cases h with
 |mk _ a cap vs hr hc hs=>
 rw [if_neg hres]at HI
 have hCC:=fun r hR=>CalcOk.calc ok r hR hres
 obtain⟨dm,hdm⟩:∃d,resD e.op (e.args.map Ex.dim)=d:=⟨_,rfl⟩
 rw [hdm]at HI hCC
 unfold InfP exV at HI
 have hlen:=hr.len
 have h6:7≤e.op:=by omega
 have ha:=ok.two h6
 have hl:e.args.length=2:=by rw [ha];rfl
 obtain⟨hxd,hv⟩:=lit_bd ok (i:=0) (by omega)
 obtain⟨hyd,hv2⟩:=lit_bd ok (i:=1) (by omega)
 rw [ha]at hdm
 have hdb:I64 dm:=by rw [←hdm];exact resD_bd2 hxd hyd
 have HFD0:=Lib.hid (fun n d (h1:I64 n) (h2:I64 d) W (hg:w.Grows W)=>FormatDecimal2_any n d dm W h1 h2 hdb (ht.grows hg))
 obtain⟨b,off,rfl,hS,hlt,hx⟩:=hc.resolve_left (by omega)
 obtain⟨-,x1,x2,-,-,-⟩:=hx 0 (by omega)
 obtain⟨-,y1,y2,-,-,-⟩:=hx 1 (by omega)
 simp only [Nat.zero_mul,Nat.add_zero,Nat.one_mul]at x1 x2 y1 y2
 have hbd:=vfrac_bd hv
 have hbd2:=vfrac_bd hv2
 have hi:I64x4 (e.arg 0).num (e.arg 0).den (e.arg 1).num (e.arg 1).den:=⟨⟨by omega,by omega⟩,⟨by omega,by omega⟩,⟨by omega,by omega⟩,⟨by omega,by omega⟩⟩
 unfold exV
 rw [hl]at HI ⊢
 have HQ:=Lib.hid (opMax ho ha)
 have HEQ:=Lib.hid (fun h=>frac_same hv hv2 h)
 have HN:=Lib.hid (fun W=>Compare2_any (e.arg 0).num (e.arg 0).den (e.arg 1).num (e.arg 1).den W hi)
 have hcf:=cmpF_ok hv hv2
 unfold frI at HN
 rw [hcf]at HN
 dsimp only at HN
 have hox:I64 (e.arg 0).num∧I64 (e.arg 0).den:=⟨⟨by omega,by omega⟩,⟨by omega,by omega⟩⟩
 have hoy:I64 (e.arg 1).num∧I64 (e.arg 1).den:=⟨⟨by omega,by omega⟩,⟨by omega,by omega⟩⟩
 generalize cmpI (e.arg 0).num (e.arg 0).den (e.arg 1).num (e.arg 1).den=c at *
 have HXC:=Lib.hid (hCC ((e.arg 0).num,(e.arg 0).den,0))
 have HYC:=Lib.hid (hCC ((e.arg 1).num,(e.arg 1).den,0))
 generalize(e.arg 0).num=xn at *
 generalize(e.arg 0).den=xd at *
 generalize(e.arg 1).num=yn at *
 generalize(e.arg 1).den=yd at *
 clear hCC hres ok hs hc hx hS ha hdm hbd hbd2 hi hv hv2 HO hdb hr hrng hcf
 have HOH:=Lib.hid ho
 rw [ho]at HI HQ HXC HYC ⊢
 clear ho h6 hb hl
 rcases(show c<0∨c=0∨0<c by omega)with h1|h1|h1
 focus
  have d1:decide (c<0)=true:=decide_eq_true h1
  have HCC:=Lib.hid (HYC.out ⟨by rw [HQ.out],fun _=>by rw [HQ.out];(first|rw [if_pos (by omega)]|rw [if_neg (by omega)]);exact⟨rfl,rfl⟩⟩)
  have hrI:=hoy
  clear HQ HEQ HXC HYC hox hoy
  obtain⟨dk,hdk⟩:∃k,decOk yn yd dm=k:=⟨_,rfl⟩
  have HFD:=Lib.hid (fun W hg=>HFD0.out yn yd hrI.1 hrI.2 W hg)
 rotate_left
 focus
  subst h1
  obtain⟨rfl,rfl⟩:=HEQ.out rfl
  have HCC:=Lib.hid (HXC.out ⟨by rw [HQ.out],fun _=>by rw [HQ.out];exact⟨rfl,rfl⟩⟩)
  have hrI:=hox
  clear HQ HEQ HXC HYC hox hoy
  obtain⟨dk,hdk⟩:∃k,decOk xn xd dm=k:=⟨_,rfl⟩
  have HFD:=Lib.hid (fun W hg=>HFD0.out xn xd hrI.1 hrI.2 W hg)
 rotate_left
 focus
  have d1:decide (c<0)=false:=decide_eq_false (by omega)
  have HCC:=Lib.hid (HXC.out ⟨by rw [HQ.out],fun _=>by rw [HQ.out];(first|rw [if_pos (by omega)]|rw [if_neg (by omega)]);exact⟨rfl,rfl⟩⟩)
  have hrI:=hox
  clear HQ HEQ HXC HYC hox hoy
  obtain⟨dk,hdk⟩:∃k,decOk xn xd dm=k:=⟨_,rfl⟩
  have HFD:=Lib.hid (fun W hg=>HFD0.out xn xd hrI.1 hrI.2 W hg)
 rotate_left
 all_goals
  unfold FdPost at HFD
  rw [hdk]at HFD
  dsimp only at HCC
  rw [hdk]at HCC
  clear hdk HFD0 hrI
  go_enter Tryz.func89,Tryz.ntmps89
  go_upto_region 8 with (go_at_call 46;refine(HI.out _ growsR).mono ?_;rintro e' w' ⟨rfl,bs1,d1,rfl⟩)
  refine TS.begin [11] (World.Grows ((((w.alloc (.cells #[.int .i64 20,.int .i64 e.num,.int .i64 e.den,.int .i64 e.dim,.string e.name,.slice (some ⟨b,off,none⟩) 2 cap] 27)).alloc (.cells #[.int .i64 0,.int .i64 0,.int .i64 0,.int .i64 0,.string ⟨#[]⟩,.slice none 0 0] 27)).grow bs1 d1).alloc (.cells #[.int .i64 xn,.int .i64 xd] 24))) (by kernel_rfl) (by kernel_rfl) growsR (fun hS=>?_)
  exact tz9
theorem calculate_any(S:Nat→Prop)(e:Ex)(v:Value)(w:World)(h:RepE S w e v)(ok:CalcOk e)(ht:Tab w):Calls Tryz.prog 89 #[exV e v] w (ClcP (calcF e.op e.args) e v w):=by
 by_cases hres:resD e.op (e.args.map Ex.dim)=0
 ·exact clc_bad S e v w h ok ht hres
 have:=foldOp_bd ok.op
 rcases(show e.op=4∨e.op=6∨(¬e.op≤6)by omega)with ho|ho|ho
 ·exact clc_neg S e v w h ok ht hres ho
 ·exact clc_floor S e v w h ok ht hres ho
 rcases foldOp_two ok.op ho with ho|ho|ho|ho|ho|ho
 ·exact clc_add S e v w h ok ht hres ho
 ·exact clc_sub S e v w h ok ht hres ho
 ·exact clc_mul S e v w h ok ht hres ho
 ·exact clc_div S e v w h ok ht hres ho
 ·exact clc_min S e v w h ok ht hres ho
 ·exact clc_max S e v w h ok ht hres ho
theorem RowE.growsF{m:Nat}{w w':World}{v:Value}{l:List (Ex × Value)}(h:RowE m w v l)(hg:w.Grows w'):RowE m w' v l:=h.keep hg.below.size fun k _ hlt=>hg.below.block k hlt
def litL(l:List (Ex × Value)):Bool:=l.all fun x=>x.1.op==1
theorem litL_snoc(l:List (Ex × Value))(z:Ex)(v:Value):litL (l++[(z,v)])=(litL l&&(z.op==1)):=by
 unfold litL
 rw [List.all_append];simp
theorem fold_node{e:Ex}{l:List (Ex × Value)}(hl:e.args.map foldF=l.map (·.1)):foldF e=foldNode e.op e.num e.den e.dim e.name (l.map (·.1)):=by rw [foldF_eq,hl]
theorem fold_calc{e:Ex}{l:List (Ex × Value)}(hl:e.args.map foldF=l.map (·.1))(hf:formedB e=true)(ho:foldOp e.op=true)(ha:litL l=true):CalcOk (.mk e.op e.num e.den e.dim e.name (l.map (·.1))):=by
 refine⟨ho,fun y hy=>?_, ?_⟩
 ·obtain⟨x,hx,rfl⟩:=List.mem_map.1 (show y∈l.map (·.1)from hy)
  have:=List.all_eq_true.1 ha x hx
  simpa using this
 ·rw [←hl];cases e;exact node_formed hf
theorem fold_keep{e:Ex}{l:List (Ex × Value)}(hl:e.args.map foldF=l.map (·.1))(h:calcF e.op (l.map (·.1))=none):foldF e= .mk e.op e.num e.den e.dim e.name (l.map (·.1)):=by
 rw [fold_node hl];unfold foldNode;rw [h]
theorem fold_not{e:Ex}{l:List (Ex × Value)}(h:litL l=false∨foldOp e.op=false):calcF e.op (l.map (·.1))=none:=by
 unfold calcF
 refine if_neg fun c=>?_
 rcases h with h|h
 ·have:litL l=true:=List.all_eq_true.2 fun x hx=>by
   have:=c.2.1 x.1 (List.mem_map_of_mem hx)
   simpa using this
  rw [h]at this;cases this
 ·rw [h]at c;cases c.1
theorem rng_lit{n d m:Int}(h:decOk n d m=true):ExRng (.mk 1 n d m ByteArray.empty []):=by
 have:=decOk_bd h
 have:=vfrac_bd this.1
 exact⟨⟨by show _≤(1:Int);omega,by show(1:Int)≤_;omega⟩,⟨by show _≤n;omega,by show n≤_;omega⟩,⟨by show _≤d;omega,by show d≤_;omega⟩,⟨by show _≤m;omega,by show m≤_;omega⟩,by show(0:Nat)≤_;omega,by show(0:Nat)≤_;omega⟩
theorem rng_args{e:Ex}(h:ExRng e){l:List Ex}(hl:l.length=e.args.length):ExRng (.mk e.op e.num e.den e.dim e.name l):=⟨h.op,h.num,h.den,h.dim,by show l.length≤_;rw [hl];exact h.len,h.name⟩
theorem calc_dec{op:Int}{ys:List Ex}{r:Int × Int × Int}(h:calcF op ys=some r):decOk r.1 r.2.1 r.2.2=true:=by
 unfold calcF at h
 split at h
 ·rename_i c
  obtain rfl:=Option.some.inj h
  exact c.2.2.2.2
 ·cases h
theorem literal_any(e:Ex)(a:Option Addr)(cap:Nat)(w:World):Calls Tryz.prog 87 #[.agg #[.int .i64 e.op,.int .i64 e.num,.int .i64 e.den,.int .i64 e.dim,.string e.name,.slice a e.args.length cap]] w fun r w'=>r= .returned (.bool (e.op==1))∧w.Grows w':=by
 go_enter Tryz.func87,Tryz.ntmps87
 go_wp2_with fail
 exact tz27
theorem cfold_walk(n:Nat):∀(e:Ex),e.size≤n→Hid (e.size≤1000000)→Hid (formedB e=true)→∀(S:Nat→Prop) (v:Value) (w:World),RepE S w e v→Tab w→Calls Tryz.prog 37 #[exV e v] w (MadeEx w (foldF e)):=by
 induction n with
 |zero=>intro e he;have:=e.size_pos;omega
 |succ n ih=>
  intro e he hbig hform S v w h ht
  have IH:=Lib.hid ih
  have HT:=Lib.hid ht
  clear ih ht
  obtain⟨i0,hi,hz0,hz1,hz2⟩:=info_parts infoExpr
  cases h with
  |mk _ a cap vs hr hc hs=>
   have hlen:e.args.length≤1000000:=by have:=hbig.out;have:=e.size_eq;have:=Ex.length_sizes e.args;omega
   have Hr:=Lib.hid hr
   have Hs:=Lib.hid hs
   have He:=Lib.hid he
   have Hc:=Lib.hid hc
   have HLE:=Lib.hid hlen
   clear hr hs he hc
   go_enter Tryz.func37,Tryz.ntmps37
   go_wp2_with fail
   go_loopw [3,4,12] (fun v3 v4 v12 wr=>∃k:Nat,∃l:List (Ex × Value),∃va:Value,∃al:Bool,∃bs d,k≤e.args.length∧v12= .int .i64 k∧v3=va∧v4= .bool al∧Hid ((e.args.take k).map foldF=l.map (·.1))∧Hid (l.length=k)∧Hid (al=litL l)∧
    wr=((w.alloc ((.cells #[.int .i64 e.op,.int .i64 e.num,.int .i64 e.den,.int .i64 e.dim,.string e.name,.slice a e.args.length cap] 27))).alloc ((.cells #[.int .i64 0,.int .i64 0,.int .i64 0,.int .i64 0,.string ⟨#[]⟩,.slice none 0 0] 27))).grow bs d∧RowE (w.heap.size+2) wr va l) (fun _ _ v12 _=>e.args.length-(intOf v12).toNat)
   case atStart=>exact⟨0,[],.slice none 0 0,true,#[],_,by omega,rfl,rfl,rfl,Lib.hid rfl,Lib.hid rfl,Lib.hid rfl,World.grow_self _,.nil _ _⟩
   case round=>
    obtain⟨k,l,va,al,bs,d,hk,rfl,rfl,rfl,HN,HLL,HAL,rfl,hrow⟩:=hrel
    by_cases hlt:k<e.args.length
    ·rcases Hc.out with h0|⟨b,off,rfl,hS,hbw,hx⟩
     ·omega
     ·obtain⟨x0,x1,x2,x3,x4,x5⟩:=hx k hlt
      clear hx
      have hlt1:(k:Int)<(e.args.length:Int):=by omega
      have hr1:=Hs.out k hlt
      obtain⟨ka,kc,hvk⟩:=hr1.form0
      rw [hvk]at hr1 x5
      have HR1:=Lib.hid hr1
      clear hvk hr1
      have HA:=Lib.hid (e.size_arg k hlt)
      have HZ:=Lib.hid (show(e.arg k).size≤n by have:=He.out;have:=HA.out;omega)
      have HB:=Lib.hid (show(e.arg k).size≤1000000 by have:=hbig.out;have:=HA.out;omega)
      have HFA:=Lib.hid (formed_arg hform.out k hlt)
      have HTK:=Lib.hid (fun ve=>foldsF_take e k hlt HN.out ve)
      generalize e.arg k=y at *
      obtain⟨z,hz⟩:∃z,foldF y=z:=⟨_,rfl⟩
      rw [hz]at HTK
      have HZF:=Lib.hid hz
      have HVB:=Lib.hid hrow.lt
      obtain⟨aa,acap,hva⟩:=hrow.form
      have HROW:=Lib.hid hrow
      have HKL:=Lib.hid hlt
      clear hz hrow hk hlt
      rw [HLL.out]at hva
      subst hva
      have HOWN:=Lib.hid (fun W (hg:World.Grows _ W)=>(show W.ownsRow (w.heap.size+2) 27 6 (.slice aa k acap) k (cellsL l)from by have:=(HROW.out.growsF hg).own;rw [HLL.out]at this;exact this))
      go_upto_region 7 with (go_at_call 37;refine(IH.out y HZ.out HB HFA S (.slice ka y.args.length kc) _ (HR1.out.grows growsR) (HT.out.grows growsR)).mono ?_;rintro e' w' ⟨ve,rfl,⟨bs2,d2,rfl⟩,hrep⟩;rw [HZF.out]at hrep;obtain⟨za,zc,rfl⟩:=hrep.form0;have H1:=Lib.hid hrep;clear hrep;rw [HZF.out])
      cases al
      focus
       go_wp2_with ((at_builtin;refine wpList_append_lies _ rfl _ _ 25 rfl (w.heap.size+2) 27 i0 _ 6 72 Tryz.underlying25 hi hz0 hz1 hz2 rfl (by decide) (.slice aa k acap) k (cellsL l) rfl (HOWN.out _ growsR) ⟨_,0,none⟩ 1 1 (cells1 z (.slice za z.args.length zc)) rfl rfl ?c1 ?c2 (by decide) ?c3 ?c4 ?c5 _ rfl ?_))
       case c1=>exact news_cells _ (cells1 z (.slice za z.args.length zc)) _ _ (by simp)
       case c2=>exact cells1_one _ _ rfl
       case c3=>have:=HLL.out;have:=HLE.out;have:=HKL.out;unfold maxLen;omega
       case c4=>have:=HLL.out;omega
       case c5=>simp;omega
       intro g' cap' w1 hown' hgrow hat hlt'
       have RW:RowE (w.heap.size+2) (((((((w.alloc (.cells #[.int .i64 e.op,.int .i64 e.num,.int .i64 e.den,.int .i64 e.dim,.string e.name,.slice (some ⟨b,off,none⟩) e.args.length cap] 27)).alloc ((.cells #[.int .i64 0,.int .i64 0,.int .i64 0,.int .i64 0,.string ⟨#[]⟩,.slice none 0 0] 27)))).grow bs d).alloc (.cells #[.int .i64 z.op,.int .i64 z.num,.int .i64 z.den,.int .i64 z.dim,.string z.name,.slice za z.args.length zc] 27))).grow bs2 d2) (.slice aa k acap) l:=HROW.out.growsF growsR
       have HR:RepE (fun b=>w.heap.size+2+bs.size+1≤b) (((((((w.alloc (.cells #[.int .i64 e.op,.int .i64 e.num,.int .i64 e.den,.int .i64 e.dim,.string e.name,.slice (some ⟨b,off,none⟩) e.args.length cap] 27)).alloc ((.cells #[.int .i64 0,.int .i64 0,.int .i64 0,.int .i64 0,.string ⟨#[]⟩,.slice none 0 0] 27)))).grow bs d).alloc (.cells #[.int .i64 z.op,.int .i64 z.num,.int .i64 z.den,.int .i64 z.dim,.string z.name,.slice za z.args.length zc] 27))).grow bs2 d2) z (.slice za z.args.length zc):=(((H1.out.eqw (w':=((((((w.alloc (.cells #[.int .i64 e.op,.int .i64 e.num,.int .i64 e.den,.int .i64 e.dim,.string e.name,.slice (some ⟨b,off,none⟩) e.args.length cap] 27)).alloc ((.cells #[.int .i64 0,.int .i64 0,.int .i64 0,.int .i64 0,.string ⟨#[]⟩,.slice none 0 0] 27)))).grow bs d).alloc (.cells #[.int .i64 y.op,.int .i64 y.num,.int .i64 y.den,.int .i64 y.dim,.string y.name,.slice ka y.args.length kc] 27))).grow bs2 d2) (by simp)).mono (S':=fun b=>w.heap.size+2+bs.size+1≤b) (fun b hb=>by simpa using hb)).lift0 (A':=((((((w.alloc (.cells #[.int .i64 e.op,.int .i64 e.num,.int .i64 e.den,.int .i64 e.dim,.string e.name,.slice (some ⟨b,off,none⟩) e.args.length cap] 27)).alloc ((.cells #[.int .i64 0,.int .i64 0,.int .i64 0,.int .i64 0,.string ⟨#[]⟩,.slice none 0 0] 27)))).grow bs d).alloc (.cells #[.int .i64 z.op,.int .i64 z.num,.int .i64 z.den,.int .i64 z.dim,.string z.name,.slice za z.args.length zc] 27)))) (by simp) (by simp) d2).grows growsR
       have R1:=RowE.push (m:=w.heap.size+2+bs.size+1) (RW.alloc _) (HR.alloc _) (by omega) (fun j hj=>by have:=(HVB.out j hj).2;simp at this;omega) (by rw [HLL.out]) rfl hown' hgrow hat (by simp)
       have G1:=World.Grows.of_below (w:=(((w.alloc (.cells #[.int .i64 e.op,.int .i64 e.num,.int .i64 e.den,.int .i64 e.dim,.string e.name,.slice (some ⟨b,off,none⟩) e.args.length cap] 27)).alloc ((.cells #[.int .i64 0,.int .i64 0,.int .i64 0,.int .i64 0,.string ⟨#[]⟩,.slice none 0 0] 27))))) (((((Below.refl _ _).grow (Nat.le_refl _) bs d).alloc (by simp) _).grow (by simp;omega) bs2 d2).alloc (by simp;omega) _|>.grown hgrow (by simp;omega) (fun j hj=>by have:=(HVB.out j hj).1;simpa using this))
      rotate_left
      focus
       go_wp2_with (first|(go_at_call 87;refine(literal_any z _ _ _).mono ?_;rintro e' w' ⟨rfl,bs4,d4,rfl⟩)|((at_builtin;refine wpList_append_lies _ rfl _ _ 25 rfl (w.heap.size+2) 27 i0 _ 6 72 Tryz.underlying25 hi hz0 hz1 hz2 rfl (by decide) (.slice aa k acap) k (cellsL l) rfl (HOWN.out _ growsR) ⟨_,0,none⟩ 1 1 (cells1 z (.slice za z.args.length zc)) rfl rfl ?c1 ?c2 (by decide) ?c3 ?c4 ?c5 _ rfl ?_)))
       case c1=>exact news_cells _ (cells1 z (.slice za z.args.length zc)) _ _ (by simp)
       case c2=>exact cells1_one _ _ rfl
       case c3=>have:=HLL.out;have:=HLE.out;have:=HKL.out;unfold maxLen;omega
       case c4=>have:=HLL.out;omega
       case c5=>simp;omega
       intro g' cap' w1 hown' hgrow hat hlt'
       have RW:RowE (w.heap.size+2) (((((((w.alloc (.cells #[.int .i64 e.op,.int .i64 e.num,.int .i64 e.den,.int .i64 e.dim,.string e.name,.slice (some ⟨b,off,none⟩) e.args.length cap] 27)).alloc ((.cells #[.int .i64 0,.int .i64 0,.int .i64 0,.int .i64 0,.string ⟨#[]⟩,.slice none 0 0] 27)))).grow bs d).alloc (.cells #[.int .i64 z.op,.int .i64 z.num,.int .i64 z.den,.int .i64 z.dim,.string z.name,.slice za z.args.length zc] 27))).grow (bs2++bs4) d4) (.slice aa k acap) l:=HROW.out.growsF growsR
       have HR:RepE (fun b=>w.heap.size+2+bs.size+1≤b) (((((((w.alloc (.cells #[.int .i64 e.op,.int .i64 e.num,.int .i64 e.den,.int .i64 e.dim,.string e.name,.slice (some ⟨b,off,none⟩) e.args.length cap] 27)).alloc ((.cells #[.int .i64 0,.int .i64 0,.int .i64 0,.int .i64 0,.string ⟨#[]⟩,.slice none 0 0] 27)))).grow bs d).alloc (.cells #[.int .i64 z.op,.int .i64 z.num,.int .i64 z.den,.int .i64 z.dim,.string z.name,.slice za z.args.length zc] 27))).grow (bs2++bs4) d4) z (.slice za z.args.length zc):=(((H1.out.eqw (w':=((((((w.alloc (.cells #[.int .i64 e.op,.int .i64 e.num,.int .i64 e.den,.int .i64 e.dim,.string e.name,.slice (some ⟨b,off,none⟩) e.args.length cap] 27)).alloc ((.cells #[.int .i64 0,.int .i64 0,.int .i64 0,.int .i64 0,.string ⟨#[]⟩,.slice none 0 0] 27)))).grow bs d).alloc (.cells #[.int .i64 y.op,.int .i64 y.num,.int .i64 y.den,.int .i64 y.dim,.string y.name,.slice ka y.args.length kc] 27))).grow bs2 d2) (by simp)).mono (S':=fun b=>w.heap.size+2+bs.size+1≤b) (fun b hb=>by simpa using hb)).lift0 (A':=((((((w.alloc (.cells #[.int .i64 e.op,.int .i64 e.num,.int .i64 e.den,.int .i64 e.dim,.string e.name,.slice (some ⟨b,off,none⟩) e.args.length cap] 27)).alloc ((.cells #[.int .i64 0,.int .i64 0,.int .i64 0,.int .i64 0,.string ⟨#[]⟩,.slice none 0 0] 27)))).grow bs d).alloc (.cells #[.int .i64 z.op,.int .i64 z.num,.int .i64 z.den,.int .i64 z.dim,.string z.name,.slice za z.args.length zc] 27)))) (by simp) (by simp) d2).grows growsR
       have R1:=RowE.push (m:=w.heap.size+2+bs.size+1) (RW.alloc _) (HR.alloc _) (by omega) (fun j hj=>by have:=(HVB.out j hj).2;simp at this;omega) (by rw [HLL.out]) rfl hown' hgrow hat (by simp)
       have G1:=World.Grows.of_below (w:=(((w.alloc (.cells #[.int .i64 e.op,.int .i64 e.num,.int .i64 e.den,.int .i64 e.dim,.string e.name,.slice (some ⟨b,off,none⟩) e.args.length cap] 27)).alloc ((.cells #[.int .i64 0,.int .i64 0,.int .i64 0,.int .i64 0,.string ⟨#[]⟩,.slice none 0 0] 27))))) (((((Below.refl _ _).grow (Nat.le_refl _) bs d).alloc (by simp) _).grow (by simp;omega) (bs2++bs4) d4).alloc (by simp;omega) _|>.grown hgrow (by simp;omega) (fun j hj=>by have:=(HVB.out j hj).1;simpa using this))
      rotate_left
      all_goals
       clear hown' hgrow hat hlt' RW HR
       obtain⟨bs9,d9,rfl⟩:=G1
       have HR9:=Lib.hid R1
       clear R1
       go_wp2_with fail
       go_roundw
       case rel=>exact⟨k+1,l++[(z,.slice za z.args.length zc)],_,_,bs9,d9,HKL.out,by go_num,rfl,rfl,Lib.hid (HTK.out _),Lib.hid (by simp;exact HLL.out),Lib.hid (by rw [litL_snoc,←HAL.out];rfl),rfl,HR9.out.lift0 (by simp) (by simp) d9⟩
       case measure=>simp [intOf];have:=HKL.out;omega
    ·obtain rfl:k=e.args.length:=by omega
     have HN2:=Lib.hid (show e.args.map foldF=l.map (·.1)by have:=HN.out;rw [List.take_length]at this;exact this)
     obtain⟨aa,acap,hva⟩:=hrow.form
     rw [HLL.out]at hva
     subst hva
     have hrc:=fun(o:Obj)=>((hrow.lift0 (A':=(w.alloc ((.cells #[.int .i64 e.op,.int .i64 e.num,.int .i64 e.den,.int .i64 e.dim,.string e.name,.slice aa e.args.length acap] 27))).alloc o) (by simp) (by simp) d).repE (e:=.mk e.op e.num e.den e.dim e.name (l.map (·.1))) (rng_args Hr.out (by rw [List.length_map,HLL.out])) rfl)
     have HRC:=Lib.hid hrc
     clear hrc hrow HN hk hlt
     cases al with
     |false=>
      have HK:=Lib.hid (fold_keep HN2.out (fold_not (.inl HAL.out.symm)))
      go_wp2_with fail
      go_returns
      rw [HK.out]
      exact⟨.slice aa e.args.length acap,rfl,growsR,((HRC.out ((.cells #[.int .i64 e.op,.int .i64 e.num,.int .i64 e.den,.int .i64 e.dim,.string e.name,.slice aa e.args.length acap] 27))).mono (S':=fun b=>w.heap.size≤b) (fun b hb=>by show w.heap.size≤b;omega)).grows growsR⟩
     |true=>
      cases hfo:foldOp e.op with
      |false=>
       have HK:=Lib.hid (fold_keep HN2.out (fold_not (.inr hfo)))
       have HFO:=Lib.hid (fun W=>foldable_any e.op W)
       rw [hfo]at HFO
       clear hfo
       go_wp2_with (go_at_call 88;refine(HFO.out _).mono ?_;rintro e' w' ⟨rfl,rfl⟩)
       go_returns
       rw [HK.out]
       exact⟨.slice aa e.args.length acap,rfl,growsR,((HRC.out ((.cells #[.int .i64 e.op,.int .i64 e.num,.int .i64 e.den,.int .i64 e.dim,.string e.name,.slice aa e.args.length acap] 27))).mono (S':=fun b=>w.heap.size≤b) (fun b hb=>by show w.heap.size≤b;omega)).grows growsR⟩
      |true=>
       have HCA:Hid (∀W,(((w.alloc ((.cells #[.int .i64 e.op,.int .i64 e.num,.int .i64 e.den,.int .i64 e.dim,.string e.name,.slice aa e.args.length acap] 27))).alloc ((.cells #[.int .i64 0,.int .i64 0,.int .i64 0,.int .i64 0,.string ⟨#[]⟩,.slice none 0 0] 27))).grow bs d).Grows W→Calls Tryz.prog 89 #[.agg #[.int .i64 e.op,.int .i64 e.num,.int .i64 e.den,.int .i64 e.dim,.string e.name,.slice aa e.args.length acap]] W (ClcP (calcF e.op (l.map (·.1))) (.mk e.op e.num e.den e.dim e.name (l.map (·.1))) (.slice aa e.args.length acap) W)):=
        Lib.hid (fun W hg=>calculate_any _ (.mk e.op e.num e.den e.dim e.name (List.map (fun x:Ex × Value=>x.1) l)) (.slice aa e.args.length acap) W ((HRC.out ((.cells #[.int .i64 0,.int .i64 0,.int .i64 0,.int .i64 0,.string ⟨#[]⟩,.slice none 0 0] 27))).grows hg) (fold_calc HN2.out hform.out hfo HAL.out.symm) ((HT.out.grows growsR).grows hg))
       have HFO:=Lib.hid (fun W=>foldable_any e.op W)
       rw [hfo]at HFO
       unfold ClcP clcV exV at HCA
       cases hcf:calcF e.op (l.map (·.1))with
       |none=>
        have HK:=Lib.hid (fold_keep HN2.out hcf)
        rw [hcf]at HCA
        dsimp only at HCA
        clear hfo hcf
        go_wp2_with (first|(go_at_call 88;refine(HFO.out _).mono ?_;rintro e' w' ⟨rfl,rfl⟩)|(go_at_call 89;refine(HCA.out _ growsR).mono ?_;rintro e' w' ⟨rfl,bs6,d6,rfl⟩))
        go_returns
        rw [HK.out]
        exact⟨.slice aa e.args.length acap,rfl,growsR,((HRC.out ((.cells #[.int .i64 e.op,.int .i64 e.num,.int .i64 e.den,.int .i64 e.dim,.string e.name,.slice aa e.args.length acap] 27))).mono (S':=fun b=>w.heap.size≤b) (fun b hb=>by show w.heap.size≤b;omega)).grows growsR⟩
       |some r=>
        obtain⟨rn,rd,rm⟩:=r
        have HK:=Lib.hid (show foldF e= .mk 1 rn rd rm ByteArray.empty []by rw [fold_node HN2.out];unfold foldNode;rw [hcf])
        have HRL:=Lib.hid (rng_lit (calc_dec hcf))
        rw [hcf]at HCA
        dsimp only at HCA
        clear hfo hcf
        go_wp2_with (first|(go_at_call 88;refine(HFO.out _).mono ?_;rintro e' w' ⟨rfl,rfl⟩)|(go_at_call 89;refine(HCA.out _ growsR).mono ?_;rintro e' w' ⟨rfl,bs6,d6,rfl⟩))
        go_returns
        rw [HK.out]
        exact⟨.slice none 0 0,rfl,growsR,RepE.nil HRL.out rfl⟩
theorem cfold_any{S:Nat→Prop}{e:Ex}{v:Value}{w:World}(h:RepE S w e v)(ht:Tab w)(hb:e.size≤1000000)(hf:formedB e=true):Calls Tryz.prog 37 #[exV e v] w (MadeEx w (foldF e)):=cfold_walk e.size e (Nat.le_refl _) (Lib.hid hb) (Lib.hid hf) S v w h ht
def vlF(l:List Val):List Value:=l.flatMap fun x=>[.int .i64 x.dim,.bool x.yes,.int .i64 x.n,.int .i64 x.d]
theorem heap_sameF{X Y:World}(hs:X.heap.size=Y.heap.size)(bs:Array Obj)(d d':Nat){k:Nat}(hk:X.heap.size≤k):(Y.grow bs d').heap[k]? =(X.grow bs d).heap[k]?:=by
 show(Y.heap++bs)[k]? =(X.heap++bs)[k]?
 rw [Array.getElem?_append_right (by omega),Array.getElem?_append_right hk,hs]
structure Fl3(base:Nat)(w:World)(va vl vd:Value)(l:List (Ex × Value))(xs:List Val)(ds:List Int):Prop where
 oa:w.ownsRow base 27 6 va l.length (cellsL l)
 ol:w.ownsRow base 41 4 vl xs.length (vlF xs)
 od:w.ownsRow base 3 1 vd ds.length (ds.map (Value.int .i64))
 rep:∀x∈l,RepE (fun b=>base≤b∧va.ownBlock≠some b∧vl.ownBlock≠some b∧vd.ownBlock≠some b) w x.1 x.2
 al:∀g,va.ownBlock=some g→vl.ownBlock≠some g∧vd.ownBlock≠some g
 ld:∀g,vl.ownBlock=some g→vd.ownBlock≠some g
section
variable {base : Nat} {w w' : World} {va vl vd : Value} {l : List (Ex × Value)} {xs : List Val} {ds : List Int}
theorem Fl3.nil(base:Nat)(w:World):Fl3 base w (.slice none 0 0) (.slice none 0 0) (.slice none 0 0) [] [] []:=
 ⟨World.ownsRow_nil _ _ _ _,World.ownsRow_nil _ _ _ _,World.ownsRow_nil _ _ _ _,fun _ h=>(by cases h),fun _ h=>(by cases h),fun _ h=>(by cases h)⟩
theorem Fl3.keep(h:Fl3 base w va vl vd l xs ds)(hsz:w.heap.size≤w'.heap.size)(hw:∀k,base≤k→k<w.heap.size→w'.heap[k]? =w.heap[k]?):Fl3 base w' va vl vd l xs ds:=
 ⟨ownsRow_keep h.oa hw,ownsRow_keep h.ol hw,ownsRow_keep h.od hw,fun x hx=>(h.rep x hx).keep hsz fun b o hb hlt=>World.cell?_of_block (hw b hb.1 hlt),h.al,h.ld⟩
theorem Fl3.grows(h:Fl3 base w va vl vd l xs ds)(hg:w.Grows w'):Fl3 base w' va vl vd l xs ds:=h.keep hg.below.size fun k _ hlt=>hg.below.block k hlt
theorem Fl3.alloc(h:Fl3 base w va vl vd l xs ds)(o:Obj):Fl3 base (w.alloc o) va vl vd l xs ds:=h.grows growsR
theorem Fl3.lift0{A A':World}{bs:Array Obj}{d:Nat}(h:Fl3 base (A.grow bs d) va vl vd l xs ds)(hm:A.heap.size≤base)(hsz:A'.heap.size=A.heap.size)(d2:Nat):Fl3 base (A'.grow bs d2) va vl vd l xs ds:=
 h.keep (by simp;omega) fun k hk _=>heap_sameF hsz.symm bs d d2 (Nat.le_trans hm hk)
end
end Go.Proofs.YtfoefpoaomepbaaGreatDoor
