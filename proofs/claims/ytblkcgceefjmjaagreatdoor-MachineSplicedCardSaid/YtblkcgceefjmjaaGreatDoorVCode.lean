import Derived.Test.YtblkcgceefjmjaaGreatDoorVK
import Derived.Test.YtblkcgceefjmjaaGreatDoorSVw8
set_option linter.all false
set_option maxHeartbeats 16000000
set_option maxRecDepth 1000000
namespace Go.Proofs.YtblkcgceefjmjaaGreatDoor
open Tryz List
open Go.RowKit
theorem iR:(prog.info? 126).map (fun i=>(i.zero,i.size,i.bytes))=some (some (.agg #[.string ⟨#[]⟩,.int .i64 0]),2,24):=by kernel_rfl
theorem iQ:(prog.info? 9).map (fun i=>(i.zero,i.size,i.bytes))=some (some (.string ⟨#[]⟩),1,16):=by kernel_rfl
theorem Cod3.fin{w W:World}{o:Obj}{base g:Nat}{cI cS vI vS vE:Value}{l:List Ins}{sl:List ByteArray}{env:List (ByteArray × Int)}(h:Cod3 (w.alloc o) base g cI cS vI vS vE l sl env W)(a b:Value):∀W',W'=(W.setCell ⟨w.heap.size,0,none⟩ a).setCell ⟨w.heap.size,1,none⟩ b->
 w.Grows W'/\w.heap.size<=base/\base<=W'.heap.size/\LRow base W' vI l/\W'.ownsRow base 9 1 vS sl.length (slV sl):=by
 rintro W' rfl;have hwb:w.heap.size<base:=by have:=h.wg;have:=h.gb;simp at *;omega
 have h0:w.Grows W:=World.Grows.trans' growsR h.gr;have g1:=grownSet W w.heap.size 0 a;have g2:=grownSet (W.setCell ⟨w.heap.size,0,none⟩ a) w.heap.size 1 b
 have hk:∀(v:Value),(∀k,v.ownBlock=some k->base<=k)->∀k,some w.heap.size=some k->v.ownBlock≠some k:=fun v hv k e e2=>by
  cases e;have:=hv _ e2;omega
 refine⟨.of_below ((h0.below.setCell (Nat.le_refl _) a).setCell (Nat.le_refl _) b),by omega,Nat.le_trans h.bW (Nat.le_trans g1.size g2.size), ?_, ?_⟩
 ·exact keptNe (keptNe h.row g1 (hk _ fun k e=>(h.row.lt k e).1)) g2 (hk _ fun k e=>(h.row.lt k e).1)
 ·exact keptNe (keptNe h.slr g1 (hk _ fun k e=>(h.slr.lt k e).1)) g2 (hk _ fun k e=>(h.slr.lt k e).1)
theorem dW(ls:List (List Int))(gd:List Int)(vl vg:Value)(w:World)(hl:RowsAt w vl ls)(hg:IntsAt w vg gd)(hl8:ls.length<=8)(hg8:gd.length<=100) :
 Calls prog 41 #[vl,vg] w (CodeP w (madeC ls gd) (namesM (min ls.length 5))):=by
 obtain⟨i0,hi,hz1,hz2,hz3⟩:=info_parts infoIn;obtain⟨i1,hi1,hz11,hz21,hz31⟩:=info_parts iQ;obtain⟨i2,hi2,hz12,hz22,hz32⟩:=info_parts iR;have HGI:=zh hg;obtain⟨-,-,ga,gc,rfl,-⟩:=id hg;obtain⟨-,la,lc,rfl,hcells⟩:=hl;have HLC:=zh hcells;have HF:=zh (codeS_made ls gd);obtain⟨L,hL⟩:∃L,ls.length=L:=⟨_,rfl⟩;obtain⟨G,hG⟩:∃G,gd.length=G:=⟨_,rfl⟩;rw [hL]at HLC HF hl8 ⊢;have HL:=zh hL;have HG:=zh hG;rw [hG]at hg8 ⊢;clear hg hcells hL hG
 go_enter func41,ntmps41
 go_upto_block 0 with fail
 refine cutW (fun W=>Cod3 ((w.alloc (.cells #[.slice none 0 0,.slice none 0 0] 58))) (w.heap.size+1+1) (w.heap.size+1) (.slice none 0 0) (.slice none 0 0) (.slice none 0 0) (.slice none 0 0) (.slice none 0 0) [] [] [] W) (by
  have h:=Cod3.start (w:=((w.alloc (.cells #[.slice none 0 0,.slice none 0 0] 58)))) (W:=((w.alloc (.cells #[.slice none 0 0,.slice none 0 0] 58))).alloc (.cells #[.slice none 0 0,.slice none 0 0] 58)) (g:=w.heap.size+1) growsR zf (heap_new _ _ _ zf);rw [show(((w.alloc (.cells #[.slice none 0 0,.slice none 0 0] 58))).alloc (.cells #[.slice none 0 0,.slice none 0 0] 58)).heap.size=w.heap.size+1+1 by simp]at h
  exact h) ?_
 intro W0 h0;have H0:=zh h0;clear h0;generalize w.heap.size+1+1=base at H0;generalize w.heap.size+1=g at *
 go_wp2_with fail
 go_loopw [6,7] (fun v6 v7 wr=>∃(k:Nat) (vI vS:Value),k<=min L 5/\v7= .int .i64 k/\Hid (Cod3 ((w.alloc (.cells #[.slice none 0 0,.slice none 0 0] 58))) base g vI vS vI vS v6 (codeS ls gd k) (namesM k) (envM ls k) wr)) (fun _ v7 _=>5-(intOf v7).toNat)
 case atStart=>exact⟨0,_,_,by omega,rfl,H0⟩
 clear H0;obtain⟨k,vI,vS,hk,rfl,HC⟩:=hrel;have c0:=HC.out.c0;have c1:=HC.out.c1;have cl:=HC.out.lt;by_cases hkL:k<L
 case neg=>
  obtain rfl:k=L:=by omega
  have hmin:min k 5=k:=by omega
  rw [hmin]at HF ⊢;obtain⟨ia,ic,rfl⟩:=HC.out.row.form;obtain⟨sa,sc,rfl,-,-⟩:=rowForm3 HC.out.slr;obtain⟨bs,dd,hwr⟩:World.Grows ((w.alloc (.cells #[.slice none 0 0,.slice none 0 0] 58))) wr:=HC.out.gr;subst hwr
  go_wp2_with fail
  go_returns
  have hfin:=HC.out.fin (.slice ia (codeS ls gd k).length ic) (.slice sa (namesM k).length sc) ((w.alloc (.cells #[.slice ia (codeS ls gd k).length ic,.slice sa (namesM k).length sc] 58)).grow bs dd) zk;obtain⟨q1,q2,q3,q4,q5⟩:=hfin;have hdd:=HC.out.dIS;rw [HF.out]at q1 q3 q4 q5 hdd ⊢;try simp only [hmin]
  exact⟨_,_,_,_,rfl,q1,q2,q3,q4,q5,hdd⟩
 by_cases hk5:k<5
 case neg=>
  obtain rfl:k=5:=by omega
  have hmin:min L 5=5:=by omega
  rw [hmin]at HF ⊢;have e5:((5:Nat):Int)=5:=rfl;rw [e5];obtain⟨ia,ic,rfl⟩:=HC.out.row.form;obtain⟨sa,sc,rfl,-,-⟩:=rowForm3 HC.out.slr;obtain⟨bs,dd,hwr⟩:World.Grows ((w.alloc (.cells #[.slice none 0 0,.slice none 0 0] 58))) wr:=HC.out.gr;subst hwr
  go_wp2_with fail
  go_returns
  have hfin:=HC.out.fin (.slice ia (codeS ls gd 5).length ic) (.slice sa (namesM 5).length sc) ((w.alloc (.cells #[.slice ia (codeS ls gd 5).length ic,.slice sa (namesM 5).length sc] 58)).grow bs dd) zk;obtain⟨q1,q2,q3,q4,q5⟩:=hfin;have hdd:=HC.out.dIS;rw [HF.out]at q1 q3 q4 q5 hdd ⊢;try simp only [hmin]
  exact⟨_,_,_,_,rfl,q1,q2,q3,q4,q5,hdd⟩
 have d1:(k:Int)<(L:Int):=by omega
 have d0:(0:Int)<=(k:Int):=by omega
 have d5:(k:Int)<5:=by omega
 obtain h0|⟨b,off,rfl,hbw,hx⟩:=HLC.out
 ·omega
 obtain⟨uz,hu,hz⟩:=hx k hkL;obtain⟨-,-,za,zc,rfl,-⟩:=id hz;have hgw:w.Grows wr:=World.Grows.trans' growsR HC.out.gr;obtain⟨Z,hZ⟩:∃Z,(ls.getD k []).length=Z:=⟨_,rfl⟩;have hzb:=hz.1;rw [hZ]at hu hzb;have HZ:=zh hz;have HU:Hid (∀W,w.Grows W->b<W.heap.size/\W.cell? ⟨b,off+k,none⟩=some (.slice za Z zc)):=zh (fun W hg=>⟨Nat.lt_of_lt_of_le hbw hg.below.size,(World.cell?_of_block (a:=⟨b,off+k,none⟩) (hg.below.block b hbw)).trans hu⟩);have hdim:dimM ls k=1+(Z:Int) % 4:=by unfold dimM;rw [hZ]
 have HD:=zh hdim;have hm4:0<=(Z:Int) % 4/\(Z:Int) % 4<4:=by omega
 obtain⟨z0,z1⟩:=HU.out wr hgw;have HGW:=zh hgw;have HK:=zh (And.intro hkL hk5);clear hx hu hz hgw hbw hzb HLC;obtain⟨sa,sc,hvS,-,-⟩:=rowForm3 HC.out.slr;obtain⟨ea,ec,hvE,-,-⟩:=rowForm3 HC.out.enr;rw [names_len]at hvS;rw [envM_len]at hvE;subst hvS;subst hvE;have HKK:=zh (And.intro hk hk5);have HL0:=zh (codeS_len ls gd k zb)
 have hEx:∀(zs:List Int) (lv:Value) (dim:Int),(∀W,w.Grows W->ListAt W W.heap.size lv zs)->1<=dim->dim<=4->∀(vJ vT:Value) (l:List Ins) (W:World),Cod3 ((w.alloc (.cells #[.slice none 0 0,.slice none 0 0] 58))) base g vJ vT vJ (.slice sa k sc) (.slice ea k ec) l (namesM k) (envM ls k) W->Calls prog 16 #[lv,.int .i64 dim,.slice ea k ec] W (MadeEx W (topF zs (envM ls k) dim)):=
  fun zs lv dim hl h1 h4 vJ vT l W h=>Expr_any lv (.slice ea k ec) zs (envM ls k) dim W (hl W (World.Grows.trans' growsR h.gr)) (h.envAt (by rw [envM_len];omega) (envM_size ls k)) h1 h4
 have hEg:=hEx gd (.slice ga gd.length gc) 1 (fun W hg=>ListAt.of_ints HGI.out hg.below) zb zb;have hEd:=hEx (ls.getD k []) (.slice za (ls.getD k []).length zc) (dimM ls k) (fun W hg=>ListAt.of_ints HZ.out hg.below) (dimM_bd ls k).1 (dimM_bd ls k).2;rw [HG.out]at hEg;rw [hZ,hdim]at hEd
 have hLay:∀(zs:List Int) (dim:Int),1<=dim->dim<=4->∀(vJ vT:Value) (l:List Ins) (W W1:World) (ve:Value),Cod3 ((w.alloc (.cells #[.slice none 0 0,.slice none 0 0] 58))) base g vJ vT vJ (.slice sa k sc) (.slice ea k ec) l (namesM k) (envM ls k) W->l.length<=5000->W.Grows W1->RepE (fun b=>W.heap.size<=b) W1 (topF zs (envM ls k) dim) ve->
  Calls prog 98 #[vJ,exV (topF zs (envM ls k) dim) ve,.slice sa k sc] W1 fun r w'=>∃a c,r= .returned (.slice a (l++codeF (slK (namesM k)) (topF zs (envM ls k) dim) l.length).length c)/\Cod3 ((w.alloc (.cells #[.slice none 0 0,.slice none 0 0] 58))) base g vJ vT (.slice a (l++codeF (slK (namesM k)) (topF zs (envM ls k) dim) l.length).length c) (.slice sa k sc) (.slice ea k ec) (l++codeF (slK (namesM k)) (topF zs (envM ls k) dim) l.length) (namesM k) (envM ls k) w'/\W1.heap.size<=w'.heap.size:=
  fun zs dim h1 h4 vJ vT l W W1 ve h hl hg hr=>by
   obtain⟨g1,g2,-,-⟩:=good_made (l:=ls) (i:=k) zb zs h1 h4;exact h.layC hg (by rw [names_len];omega) (names_size k) hr g1 (made_in zb g1 g2) (by have:=top_len (l:=ls) (i:=k) zb zs h1 h4 (slK (namesM k)) l.length;omega)
 have hLg:=hLay gd 1 zb zb;have hLd:=hLay (ls.getD k []) (dimM ls k) (dimM_bd ls k).1 (dimM_bd ls k).2;have eD:(dfnM ls k).e=topF (ls.getD k []) (envM ls k) (dimM ls k):=rfl;have hRP:=rd_plain ls gd k hk5;have hRG:=rd_guard ls gd k hk5;rw [HL.out]at hRP hRG;rw [HG.out]at hRP hRG;rw [eD]at hRP hRG;rw [hdim]at hLd hRP hRG;have hnames:=namesM_snoc k;have henv:=envM_snoc ls k;rw [hdim]at henv;have HNM:=zh hnames;have HEN:=zh henv;have HEG:=zh hEg;have HED:=zh hEd;have HLG:=zh hLg;have HLD:=zh hLd;generalize topF gd (envM ls k) 1=Eg at HEG HLG hRG;generalize topF (ls.getD k []) (envM ls k) (1+(Z:Int) % 4)=Ed at HED HLD hRP hRG;clear hEx hLay hEg hEd hLg hLd eD hk hkL hk5 hZ hdim hnames henv
 go_upto_region 7 with fail
 go_cut [6,7,9]from 11 to 104 (fun v6 v7 v9 wx=>v6= .slice ea k ec/\v7= .int .i64 k/\v9= .bool (lastB L k)/\wr=wx)
 case first=>
  by_cases q1:k+1=L
  ·have b1:((k:Int)==(L:Int)-1)=true:=by simp;omega
   have r:lastB L k=true:=by unfold lastB;simp [q1]
   go_wp2_with fail
   go_meet
   exact⟨by first|rfl|(subst q2;rfl),by first|rfl|(subst q2;rfl),by rw [r],rfl⟩
  ·have b1:((k:Int)==(L:Int)-1)=false:=by simp;omega
   by_cases q2:k=4
   ·have b2:((k:Int)==4)=true:=by simp;omega
    have r:lastB L k=true:=by unfold lastB;simp [q2]
    go_wp2_with fail
    go_meet
    exact⟨by first|rfl|(subst q2;rfl),by first|rfl|(subst q2;rfl),by rw [r],rfl⟩
   ·have b2:((k:Int)==4)=false:=by simp;omega
    have r:lastB L k=false:=by unfold lastB;simp [q1,q2]
    go_wp2_with fail
    go_meet
    exact⟨by first|rfl|(subst q2;rfl),by first|rfl|(subst q2;rfl),by rw [r],rfl⟩
 case rest=>
 obtain⟨rfl,rfl,rfl,rfl⟩:=hcut;generalize lastB L k=lb at *;cases lb
 case false=>
  obtain⟨L3,L4,HR⟩:=hRP rfl;clear hRP hRG;obtain⟨ia,ic,rfl⟩:=HC.out.row.form
  go_upto_region 13 with fail
  have hgw2:w.Grows wr:=World.Grows.trans' growsR HC.out.gr;obtain⟨y0,y1⟩:=HU.out wr hgw2;refine TS.begin [11,12,13] (World.Grows wr) zd zd grows_drew0 (fun hS=>?_);refine TS.wkB 0 hS ?_;refine TS.wkB 1 hS ?_;refine TS.wkB 2 hS ?_;refine TS.wkB 3 hS ?_;refine TS.wkB 4 hS ?_;refine TS.wkB 5 hS ?_;refine TS.wkB 6 hS ?_;refine TS.wkB 7 hS ?_;refine TS.wkB 9 hS ?_;refine TS.wkB 10 hS ?_;refine TS.one (i:=8) zd rfl (fun K1 hK1=>?_);have HK1:=zh hK1;clear hK1 hS;dsimp only [getElem_toArray,getElem_cons_succ,getElem_cons_zero]
  go_simp
  go_at_call 16
  refine(HED.out _ _ _ _ (HC.out.grows growsR)).mono ?_;rintro e' wX ⟨vX,rfl,hgX,hrX⟩;have HGX:=zh hgX;have HRX:=zh hrX;refine TS.go HK1.out (World.Grows.trans' growsR hgX) (fun hS=>?_);clear HK1 K1 hgX hrX
  (try simp only [nS])
  refine TS.one (i:=11) zd rfl (fun K1 hK1=>?_);have HK1:=zh hK1;clear hK1 hS;dsimp only [getElem_toArray,getElem_cons_succ,getElem_cons_zero]
  go_simp
  go_at_call 98
  refine(HLD.out _ _ _ _ _ _ (HC.out.grows growsR) (by have:=HL0.out;omega) HGX.out HRX.out).mono ?_;rintro e' wL ⟨aL,cL,rfl,hLL,hsL⟩;rw [<-HR.h3]at hLL;have HLL:=zh hLL;have z0':=HLL.out.c0;have zf0:=HLL.out.f 0;have zlt:=HLL.out.lt;rw [<-HR.h3];refine HK1.out _ _ (fun h=>absurd ze h) ?_;clear HK1 K1 hLL hsL HRX HGX y0 y1 hgw2
  (try simp only [nS])
  refine TS.wtB 12 ?_;refine TS.weB 13 ?_
  go_upto_region 14 with fail
  refine cutW (fun W=>Cod3 ((w.alloc (.cells #[.slice none 0 0,.slice none 0 0] 58))) base g (.slice aL L3.length cL) (.slice sa k sc) (.slice aL L3.length cL) (.slice sa k sc) (.slice ea k ec) L3 (namesM k) (envM ls k) W) (HLL.out.setI _) ?_;intro W3 h3;have H3:=zh h3;clear h3 z0' zf0 zlt HLL;have s0:=H3.out.c0;have s1:=H3.out.c1;have sl:=H3.out.lt
  go_upto_region 15 with (at_builtin;refine wpList_append_lies _ rfl _ _ 55 rfl base 103 i0 _ 4 32 underlying55 hi hz1 hz2 hz3 rfl ze (.slice aL L3.length cL) L3.length (insV L3) rfl (H3.out.row.grows growsR) ⟨_,0,none⟩ 1 1 [.int .i64 4,.int .i64 (k:Int),.int .i64 0,.int .i64 0] rfl rfl (news_cells _ [.int .i64 4,.int .i64 (k:Int),.int .i64 0,.int .i64 0] _ _ zf) zj ze zD zq zJ _ rfl ?_;intro g4 c4 w4 hown hgrow hgg hgl;have h4:=H3.out.ins ⟨4,(k:Int),0,0⟩ (n:=L3.length+1) rfl growsR hgrow hgg zf hown;rw [<-HR.h4]at h4;have H4:=zh h4;have r0:=H4.out.c0;have r1:=H4.out.f 0;have r2:=H4.out.lt;clear hown hgrow hgg hgl h4)
  refine cutW (fun W=>Cod3 ((w.alloc (.cells #[.slice none 0 0,.slice none 0 0] 58))) base g (.slice (some ⟨g4,0,none⟩) (L3.length+1) c4) (.slice sa k sc) (.slice (some ⟨g4,0,none⟩) (L3.length+1) c4) (.slice sa k sc) (.slice ea k ec) L4 (namesM k) (envM ls k) W) (H4.out.setI _) ?_;intro W5 h5;have H5:=zh h5;clear h5 s0 s1 sl r0 r1 r2 H4 H3;have t0:=H5.out.c0;have t1:=H5.out.c1;have tf:=H5.out.f 1;have tl:=H5.out.lt;have HSR:Hid (W5.ownsRow base 9 1 (.slice sa k sc) k (slV (namesM k))):=zh zG;refine TS.begin [5,6,7] (World.Grows W5) zd zd grows_drew0 (fun hS=>?_);refine TS.wkB 0 hS ?_;refine TS.wkB 1 hS ?_;refine TS.wkB 2 hS ?_;refine TS.one (i:=3) zd rfl (fun K1 hK1=>?_);have HK1:=zh hK1;clear hK1 hS;dsimp only [getElem_toArray,getElem_cons_succ,getElem_cons_zero]
  go_simp
  go_at_call 82
  refine(letName9_any k _ HKK.out.2).mono ?_;rintro e' wn ⟨rfl,bs1,dr1,rfl⟩;refine TS.go HK1.out growsR (fun hS=>?_);clear HK1 K1
  (try simp only [nS])
  refine TS.one (i:=4) zd rfl (fun K1 hK1=>?_);have HK1:=zh hK1;clear hK1 hS;dsimp only [getElem_toArray,getElem_cons_succ,getElem_cons_zero]
  go_simp
  refine TS.go HK1.out growsR (fun hS=>?_);clear HK1 K1
  (try simp only [nS])
  refine TS.one (i:=5) zd rfl (fun K1 hK1=>?_);refine step_append_lies _ rfl _ _ 56 rfl base 9 i1 _ 1 16 underlying56 hi1 hz11 hz21 hz31 rfl ze (.slice sa k sc) k (slV (namesM k)) rfl (own_grow9 HSR.out growsR) ⟨_,0,none⟩ 1 1 [.string (letN k)] rfl rfl (news_cells _ [.string (letN k)] _ _ zf) zB ze zx zy zK _ rfl ?_;intro g6 c6 w6 hown hgrow hgg hgl;have h6:=H5.out.nm (letN k) (n:=k+1) (by rw [names_len]) growsR hgrow hgg zg hown;rw [HNM.out]at h6;have H6:=zh h6;have r0:=H6.out.c1;have r1:=H6.out.f 1;have r2:=H6.out.lt;refine hK1 _ _ (fun h=>absurd ze h) ?_;clear hK1 K1 hown hgrow hgg hgl h6 hS t0 t1 tf tl
  (try simp only [nS])
  refine TS.wtB 6 ?_;refine TS.weB 7 ?_
  go_upto_region 16 with fail
  refine cutW (fun W=>Cod3 ((w.alloc (.cells #[.slice none 0 0,.slice none 0 0] 58))) base g (.slice (some ⟨g4,0,none⟩) (L3.length+1) c4) (.slice (some ⟨g6,0,none⟩) (k+1) c6) (.slice (some ⟨g4,0,none⟩) (L3.length+1) c4) (.slice (some ⟨g6,0,none⟩) (k+1) c6) (.slice ea k ec) L4 (namesM (k+1)) (envM ls k) W) (H6.out.setS _) ?_;intro W7 h7;have H7:=zh h7;clear h7 r0 r1 r2 H6 H5 HSR;have HER:Hid (W7.ownsRow base 126 2 (.slice ea k ec) k (enV (envM ls k))):=zh zH
  go_upto_region 17 with (first
   |(go_at_call 82;refine(letName9_any k _ HKK.out.2).mono ?_;rintro e' wn ⟨rfl,bs2,dr2,rfl⟩)
   |(at_builtin;refine wpList_append_lies _ rfl _ _ 52 rfl base 126 i2 _ 2 24 underlying52 hi2 hz12 hz22 hz32 rfl ze (.slice ea k ec) k (enV (envM ls k)) rfl (own_grow9 HER.out growsR) ⟨_,0,none⟩ 1 1 [.string (letN k),.int .i64 (1+(Z:Int) % 4)] rfl rfl (news_cells _ [.string (letN k),.int .i64 (1+(Z:Int) % 4)] _ _ zf) zF ze zx zy zL _ rfl ?_;intro g8 c8 w8 hown hgrow hgg hgl;have h8:=H7.out.en (letN k) (1+(Z:Int) % 4) (n:=k+1) (by rw [envM_len]) growsR hgrow hgg zg hown;rw [HEN.out]at h8;have H8:=zh h8;clear hown hgrow hgg hgl h8))
  clear HER H7
  go_wp2_with fail
  go_roundw
  case rel=>exact⟨k+1,_,_,by have:=HK.out;omega,by go_num,by rw [<-HR.h5];exact H8⟩
  case measure=>simp [intOf];have:=HK.out;omega
 case true=>
 by_cases hG:0<G
 case neg=>
  obtain⟨L3,L4,HR⟩:=hRP (by simp [hG]);have dG:¬(0:Int)<(G:Int):=by omega
  clear hRP hRG;obtain⟨ia,ic,rfl⟩:=HC.out.row.form
  go_upto_region 13 with fail
  have hgw2:w.Grows wr:=World.Grows.trans' growsR HC.out.gr;obtain⟨y0,y1⟩:=HU.out wr hgw2;refine TS.begin [11,12,13] (World.Grows wr) zd zd grows_drew0 (fun hS=>?_);refine TS.wkB 0 hS ?_;refine TS.wkB 1 hS ?_;refine TS.wkB 2 hS ?_;refine TS.wkB 3 hS ?_;refine TS.wkB 4 hS ?_;refine TS.wkB 5 hS ?_;refine TS.wkB 6 hS ?_;refine TS.wkB 7 hS ?_;refine TS.wkB 9 hS ?_;refine TS.wkB 10 hS ?_;refine TS.one (i:=8) zd rfl (fun K1 hK1=>?_);have HK1:=zh hK1;clear hK1 hS;dsimp only [getElem_toArray,getElem_cons_succ,getElem_cons_zero]
  go_simp
  go_at_call 16
  refine(HED.out _ _ _ _ (HC.out.grows growsR)).mono ?_;rintro e' wX ⟨vX,rfl,hgX,hrX⟩;have HGX:=zh hgX;have HRX:=zh hrX;refine TS.go HK1.out (World.Grows.trans' growsR hgX) (fun hS=>?_);clear HK1 K1 hgX hrX
  (try simp only [nS])
  refine TS.one (i:=11) zd rfl (fun K1 hK1=>?_);have HK1:=zh hK1;clear hK1 hS;dsimp only [getElem_toArray,getElem_cons_succ,getElem_cons_zero]
  go_simp
  go_at_call 98
  refine(HLD.out _ _ _ _ _ _ (HC.out.grows growsR) (by have:=HL0.out;omega) HGX.out HRX.out).mono ?_;rintro e' wL ⟨aL,cL,rfl,hLL,hsL⟩;rw [<-HR.h3]at hLL;have HLL:=zh hLL;have z0':=HLL.out.c0;have zf0:=HLL.out.f 0;have zlt:=HLL.out.lt;rw [<-HR.h3];refine HK1.out _ _ (fun h=>absurd ze h) ?_;clear HK1 K1 hLL hsL HRX HGX y0 y1 hgw2
  (try simp only [nS])
  refine TS.wtB 12 ?_;refine TS.weB 13 ?_
  go_upto_region 14 with fail
  refine cutW (fun W=>Cod3 ((w.alloc (.cells #[.slice none 0 0,.slice none 0 0] 58))) base g (.slice aL L3.length cL) (.slice sa k sc) (.slice aL L3.length cL) (.slice sa k sc) (.slice ea k ec) L3 (namesM k) (envM ls k) W) (HLL.out.setI _) ?_;intro W3 h3;have H3:=zh h3;clear h3 z0' zf0 zlt HLL;have s0:=H3.out.c0;have s1:=H3.out.c1;have sl:=H3.out.lt
  go_upto_region 15 with (at_builtin;refine wpList_append_lies _ rfl _ _ 55 rfl base 103 i0 _ 4 32 underlying55 hi hz1 hz2 hz3 rfl ze (.slice aL L3.length cL) L3.length (insV L3) rfl (H3.out.row.grows growsR) ⟨_,0,none⟩ 1 1 [.int .i64 4,.int .i64 (k:Int),.int .i64 0,.int .i64 0] rfl rfl (news_cells _ [.int .i64 4,.int .i64 (k:Int),.int .i64 0,.int .i64 0] _ _ zf) zj ze zD zq zJ _ rfl ?_;intro g4 c4 w4 hown hgrow hgg hgl;have h4:=H3.out.ins ⟨4,(k:Int),0,0⟩ (n:=L3.length+1) rfl growsR hgrow hgg zf hown;rw [<-HR.h4]at h4;have H4:=zh h4;have r0:=H4.out.c0;have r1:=H4.out.f 0;have r2:=H4.out.lt;clear hown hgrow hgg hgl h4)
  refine cutW (fun W=>Cod3 ((w.alloc (.cells #[.slice none 0 0,.slice none 0 0] 58))) base g (.slice (some ⟨g4,0,none⟩) (L3.length+1) c4) (.slice sa k sc) (.slice (some ⟨g4,0,none⟩) (L3.length+1) c4) (.slice sa k sc) (.slice ea k ec) L4 (namesM k) (envM ls k) W) (H4.out.setI _) ?_;intro W5 h5;have H5:=zh h5;clear h5 s0 s1 sl r0 r1 r2 H4 H3;have t0:=H5.out.c0;have t1:=H5.out.c1;have tf:=H5.out.f 1;have tl:=H5.out.lt;have HSR:Hid (W5.ownsRow base 9 1 (.slice sa k sc) k (slV (namesM k))):=zh zG;refine TS.begin [5,6,7] (World.Grows W5) zd zd grows_drew0 (fun hS=>?_);refine TS.wkB 0 hS ?_;refine TS.wkB 1 hS ?_;refine TS.wkB 2 hS ?_;refine TS.one (i:=3) zd rfl (fun K1 hK1=>?_);have HK1:=zh hK1;clear hK1 hS;dsimp only [getElem_toArray,getElem_cons_succ,getElem_cons_zero]
  go_simp
  go_at_call 82
  refine(letName9_any k _ HKK.out.2).mono ?_;rintro e' wn ⟨rfl,bs1,dr1,rfl⟩;refine TS.go HK1.out growsR (fun hS=>?_);clear HK1 K1
  (try simp only [nS])
  refine TS.one (i:=4) zd rfl (fun K1 hK1=>?_);have HK1:=zh hK1;clear hK1 hS;dsimp only [getElem_toArray,getElem_cons_succ,getElem_cons_zero]
  go_simp
  refine TS.go HK1.out growsR (fun hS=>?_);clear HK1 K1
  (try simp only [nS])
  refine TS.one (i:=5) zd rfl (fun K1 hK1=>?_);refine step_append_lies _ rfl _ _ 56 rfl base 9 i1 _ 1 16 underlying56 hi1 hz11 hz21 hz31 rfl ze (.slice sa k sc) k (slV (namesM k)) rfl (own_grow9 HSR.out growsR) ⟨_,0,none⟩ 1 1 [.string (letN k)] rfl rfl (news_cells _ [.string (letN k)] _ _ zf) zB ze zx zy zK _ rfl ?_;intro g6 c6 w6 hown hgrow hgg hgl;have h6:=H5.out.nm (letN k) (n:=k+1) (by rw [names_len]) growsR hgrow hgg zg hown;rw [HNM.out]at h6;have H6:=zh h6;have r0:=H6.out.c1;have r1:=H6.out.f 1;have r2:=H6.out.lt;refine hK1 _ _ (fun h=>absurd ze h) ?_;clear hK1 K1 hown hgrow hgg hgl h6 hS t0 t1 tf tl
  (try simp only [nS])
  refine TS.wtB 6 ?_;refine TS.weB 7 ?_
  go_upto_region 16 with fail
  refine cutW (fun W=>Cod3 ((w.alloc (.cells #[.slice none 0 0,.slice none 0 0] 58))) base g (.slice (some ⟨g4,0,none⟩) (L3.length+1) c4) (.slice (some ⟨g6,0,none⟩) (k+1) c6) (.slice (some ⟨g4,0,none⟩) (L3.length+1) c4) (.slice (some ⟨g6,0,none⟩) (k+1) c6) (.slice ea k ec) L4 (namesM (k+1)) (envM ls k) W) (H6.out.setS _) ?_;intro W7 h7;have H7:=zh h7;clear h7 r0 r1 r2 H6 H5 HSR;have HER:Hid (W7.ownsRow base 126 2 (.slice ea k ec) k (enV (envM ls k))):=zh zH
  go_upto_region 17 with (first
   |(go_at_call 82;refine(letName9_any k _ HKK.out.2).mono ?_;rintro e' wn ⟨rfl,bs2,dr2,rfl⟩)
   |(at_builtin;refine wpList_append_lies _ rfl _ _ 52 rfl base 126 i2 _ 2 24 underlying52 hi2 hz12 hz22 hz32 rfl ze (.slice ea k ec) k (enV (envM ls k)) rfl (own_grow9 HER.out growsR) ⟨_,0,none⟩ 1 1 [.string (letN k),.int .i64 (1+(Z:Int) % 4)] rfl rfl (news_cells _ [.string (letN k),.int .i64 (1+(Z:Int) % 4)] _ _ zf) zF ze zx zy zL _ rfl ?_;intro g8 c8 w8 hown hgrow hgg hgl;have h8:=H7.out.en (letN k) (1+(Z:Int) % 4) (n:=k+1) (by rw [envM_len]) growsR hgrow hgg zg hown;rw [HEN.out]at h8;have H8:=zh h8;clear hown hgrow hgg hgl h8))
  clear HER H7
  go_wp2_with fail
  go_roundw
  case rel=>exact⟨k+1,_,_,by have:=HK.out;omega,by go_num,by rw [<-HR.h5];exact H8⟩
  case measure=>simp [intOf];have:=HK.out;omega
 obtain⟨L1,L2,L3,L4,HR⟩:=hRG rfl hG;have dG:(0:Int)<(G:Int):=by omega
 clear hRP hRG;obtain⟨ia,ic,rfl⟩:=HC.out.row.form
 go_upto_region 10 with fail
 refine TS.begin [7,8,9] (World.Grows wr) zd zd grows_drew0 (fun hS=>?_);refine TS.wkB 0 hS ?_;refine TS.wkB 1 hS ?_;refine TS.wkB 2 hS ?_;refine TS.wkB 3 hS ?_;refine TS.wkB 5 hS ?_;refine TS.wkB 6 hS ?_;refine TS.one (i:=4) zd rfl (fun K1 hK1=>?_);have HK1:=zh hK1;clear hK1 hS;dsimp only [getElem_toArray,getElem_cons_succ,getElem_cons_zero]
 go_simp
 go_at_call 16
 refine(HEG.out _ _ _ _ (HC.out.grows growsR)).mono ?_;rintro e' wX ⟨vX,rfl,hgX,hrX⟩;have HGX:=zh hgX;have HRX:=zh hrX;refine TS.go HK1.out (World.Grows.trans' growsR hgX) (fun hS=>?_);clear HK1 K1 hgX hrX
 (try simp only [nS])
 refine TS.one (i:=7) zd rfl (fun K1 hK1=>?_);have HK1:=zh hK1;clear hK1 hS;dsimp only [getElem_toArray,getElem_cons_succ,getElem_cons_zero]
 go_simp
 go_at_call 98
 refine(HLG.out _ _ _ _ _ _ (HC.out.grows growsR) zq HGX.out HRX.out).mono ?_;rintro e' wA ⟨aA,cA,rfl,hAA,hsA⟩;rw [<-HR.h1]at hAA;have HAA:=zh hAA;have p0:=HAA.out.c0;have p1:=HAA.out.f 0;have p2:=HAA.out.lt;rw [<-HR.h1];refine HK1.out _ _ (fun h=>absurd ze h) ?_;clear HK1 K1 hAA hsA HRX HGX
 (try simp only [nS])
 refine TS.wtB 8 ?_;refine TS.weB 9 ?_
 go_upto_region 11 with fail
 refine cutW (fun W=>Cod3 ((w.alloc (.cells #[.slice none 0 0,.slice none 0 0] 58))) base g (.slice aA L1.length cA) (.slice sa k sc) (.slice aA L1.length cA) (.slice sa k sc) (.slice ea k ec) L1 (namesM k) (envM ls k) W) (HAA.out.setI _) ?_;intro Wb hWb;have HB:=zh hWb;clear hWb p0 p1 p2 HAA;have p0:=HB.out.c0;have p1:=HB.out.c1;have p2:=HB.out.lt
 go_upto_region 13 with (at_builtin;refine wpList_append_lies _ rfl _ _ 55 rfl base 103 i0 _ 4 32 underlying55 hi hz1 hz2 hz3 rfl ze (.slice aA L1.length cA) L1.length (insV L1) rfl (HB.out.row.grows growsR) ⟨_,0,none⟩ 1 1 [.int .i64 22,.int .i64 0,.int .i64 0,.int .i64 0] rfl rfl (news_cells _ [.int .i64 22,.int .i64 0,.int .i64 0,.int .i64 0] _ _ zf) zj ze zD zq (by have:=HB.out.bW;simp;omega) _ rfl ?_;intro gB cB wB hown hgrow hgg hgl;have hB:=HB.out.ins ⟨22,0,0,0⟩ (n:=L1.length+1) rfl growsR hgrow hgg zf hown;rw [<-HR.h2]at hB;have HB2:=zh hB;have r0:=HB2.out.c0;have r1:=HB2.out.f 0;have r2:=HB2.out.lt;clear hown hgrow hgg hgl hB)
 refine cutW (fun W=>Cod3 ((w.alloc (.cells #[.slice none 0 0,.slice none 0 0] 58))) base g (.slice (some ⟨gB,0,none⟩) (L1.length+1) cB) (.slice sa k sc) (.slice (some ⟨gB,0,none⟩) (L1.length+1) cB) (.slice sa k sc) (.slice ea k ec) L2 (namesM k) (envM ls k) W) (HB2.out.setI _) ?_;intro W2 hW2;have H2:=zh hW2;clear hW2 p0 p1 p2 r0 r1 r2 HB2 HB c0 c1 cl;have c0:=H2.out.c0;have c1:=H2.out.c1;have cl:=H2.out.lt
 go_upto_region 13 with fail
 have hgw2:w.Grows W2:=World.Grows.trans' growsR H2.out.gr;obtain⟨y0,y1⟩:=HU.out W2 hgw2;refine TS.begin [11,12,13] (World.Grows W2) zd zd grows_drew0 (fun hS=>?_);refine TS.wkB 0 hS ?_;refine TS.wkB 1 hS ?_;refine TS.wkB 2 hS ?_;refine TS.wkB 3 hS ?_;refine TS.wkB 4 hS ?_;refine TS.wkB 5 hS ?_;refine TS.wkB 6 hS ?_;refine TS.wkB 7 hS ?_;refine TS.wkB 9 hS ?_;refine TS.wkB 10 hS ?_;refine TS.one (i:=8) zd rfl (fun K1 hK1=>?_);have HK1:=zh hK1;clear hK1 hS;dsimp only [getElem_toArray,getElem_cons_succ,getElem_cons_zero]
 go_simp
 go_at_call 16
 refine(HED.out _ _ _ _ (H2.out.grows growsR)).mono ?_;rintro e' wX ⟨vX,rfl,hgX,hrX⟩;have HGX:=zh hgX;have HRX:=zh hrX;refine TS.go HK1.out (World.Grows.trans' growsR hgX) (fun hS=>?_);clear HK1 K1 hgX hrX
 (try simp only [nS])
 refine TS.one (i:=11) zd rfl (fun K1 hK1=>?_);have HK1:=zh hK1;clear hK1 hS;dsimp only [getElem_toArray,getElem_cons_succ,getElem_cons_zero]
 go_simp
 go_at_call 98
 refine(HLD.out _ _ _ _ _ _ (H2.out.grows growsR) zq HGX.out HRX.out).mono ?_;rintro e' wL ⟨aL,cL,rfl,hLL,hsL⟩;rw [<-HR.h3]at hLL;have HLL:=zh hLL;have z0':=HLL.out.c0;have zf0:=HLL.out.f 0;have zlt:=HLL.out.lt;rw [<-HR.h3];refine HK1.out _ _ (fun h=>absurd ze h) ?_;clear HK1 K1 hLL hsL HRX HGX y0 y1 hgw2
 (try simp only [nS])
 refine TS.wtB 12 ?_;refine TS.weB 13 ?_
 go_upto_region 14 with fail
 refine cutW (fun W=>Cod3 ((w.alloc (.cells #[.slice none 0 0,.slice none 0 0] 58))) base g (.slice aL L3.length cL) (.slice sa k sc) (.slice aL L3.length cL) (.slice sa k sc) (.slice ea k ec) L3 (namesM k) (envM ls k) W) (HLL.out.setI _) ?_;intro W3 h3;have H3:=zh h3;clear h3 z0' zf0 zlt HLL;have s0:=H3.out.c0;have s1:=H3.out.c1;have sl:=H3.out.lt
 go_upto_region 15 with (at_builtin;refine wpList_append_lies _ rfl _ _ 55 rfl base 103 i0 _ 4 32 underlying55 hi hz1 hz2 hz3 rfl ze (.slice aL L3.length cL) L3.length (insV L3) rfl (H3.out.row.grows growsR) ⟨_,0,none⟩ 1 1 [.int .i64 4,.int .i64 (k:Int),.int .i64 0,.int .i64 0] rfl rfl (news_cells _ [.int .i64 4,.int .i64 (k:Int),.int .i64 0,.int .i64 0] _ _ zf) zj ze zD zq zJ _ rfl ?_;intro g4 c4 w4 hown hgrow hgg hgl;have h4:=H3.out.ins ⟨4,(k:Int),0,0⟩ (n:=L3.length+1) rfl growsR hgrow hgg zf hown;rw [<-HR.h4]at h4;have H4:=zh h4;have r0:=H4.out.c0;have r1:=H4.out.f 0;have r2:=H4.out.lt;clear hown hgrow hgg hgl h4)
 refine cutW (fun W=>Cod3 ((w.alloc (.cells #[.slice none 0 0,.slice none 0 0] 58))) base g (.slice (some ⟨g4,0,none⟩) (L3.length+1) c4) (.slice sa k sc) (.slice (some ⟨g4,0,none⟩) (L3.length+1) c4) (.slice sa k sc) (.slice ea k ec) L4 (namesM k) (envM ls k) W) (H4.out.setI _) ?_;intro W5 h5;have H5:=zh h5;clear h5 s0 s1 sl r0 r1 r2 H4 H3;have t0:=H5.out.c0;have t1:=H5.out.c1;have tf:=H5.out.f 1;have tl:=H5.out.lt;have HSR:Hid (W5.ownsRow base 9 1 (.slice sa k sc) k (slV (namesM k))):=zh zG;refine TS.begin [5,6,7] (World.Grows W5) zd zd grows_drew0 (fun hS=>?_);refine TS.wkB 0 hS ?_;refine TS.wkB 1 hS ?_;refine TS.wkB 2 hS ?_;refine TS.one (i:=3) zd rfl (fun K1 hK1=>?_);have HK1:=zh hK1;clear hK1 hS;dsimp only [getElem_toArray,getElem_cons_succ,getElem_cons_zero]
 go_simp
 go_at_call 82
 refine(letName9_any k _ HKK.out.2).mono ?_;rintro e' wn ⟨rfl,bs1,dr1,rfl⟩;refine TS.go HK1.out growsR (fun hS=>?_);clear HK1 K1
 (try simp only [nS])
 refine TS.one (i:=4) zd rfl (fun K1 hK1=>?_);have HK1:=zh hK1;clear hK1 hS;dsimp only [getElem_toArray,getElem_cons_succ,getElem_cons_zero]
 go_simp
 refine TS.go HK1.out growsR (fun hS=>?_);clear HK1 K1
 (try simp only [nS])
 refine TS.one (i:=5) zd rfl (fun K1 hK1=>?_);refine step_append_lies _ rfl _ _ 56 rfl base 9 i1 _ 1 16 underlying56 hi1 hz11 hz21 hz31 rfl ze (.slice sa k sc) k (slV (namesM k)) rfl (own_grow9 HSR.out growsR) ⟨_,0,none⟩ 1 1 [.string (letN k)] rfl rfl (news_cells _ [.string (letN k)] _ _ zf) zB ze zx zy zK _ rfl ?_;intro g6 c6 w6 hown hgrow hgg hgl;have h6:=H5.out.nm (letN k) (n:=k+1) (by rw [names_len]) growsR hgrow hgg zg hown;rw [HNM.out]at h6;have H6:=zh h6;have r0:=H6.out.c1;have r1:=H6.out.f 1;have r2:=H6.out.lt;refine hK1 _ _ (fun h=>absurd ze h) ?_;clear hK1 K1 hown hgrow hgg hgl h6 hS t0 t1 tf tl
 (try simp only [nS])
 refine TS.wtB 6 ?_;refine TS.weB 7 ?_
 go_upto_region 16 with fail
 refine cutW (fun W=>Cod3 ((w.alloc (.cells #[.slice none 0 0,.slice none 0 0] 58))) base g (.slice (some ⟨g4,0,none⟩) (L3.length+1) c4) (.slice (some ⟨g6,0,none⟩) (k+1) c6) (.slice (some ⟨g4,0,none⟩) (L3.length+1) c4) (.slice (some ⟨g6,0,none⟩) (k+1) c6) (.slice ea k ec) L4 (namesM (k+1)) (envM ls k) W) (H6.out.setS _) ?_;intro W7 h7;have H7:=zh h7;clear h7 r0 r1 r2 H6 H5 HSR;have HER:Hid (W7.ownsRow base 126 2 (.slice ea k ec) k (enV (envM ls k))):=zh zH
 go_upto_region 17 with (first
  |(go_at_call 82;refine(letName9_any k _ HKK.out.2).mono ?_;rintro e' wn ⟨rfl,bs2,dr2,rfl⟩)
  |(at_builtin;refine wpList_append_lies _ rfl _ _ 52 rfl base 126 i2 _ 2 24 underlying52 hi2 hz12 hz22 hz32 rfl ze (.slice ea k ec) k (enV (envM ls k)) rfl (own_grow9 HER.out growsR) ⟨_,0,none⟩ 1 1 [.string (letN k),.int .i64 (1+(Z:Int) % 4)] rfl rfl (news_cells _ [.string (letN k),.int .i64 (1+(Z:Int) % 4)] _ _ zf) zF ze zx zy zL _ rfl ?_;intro g8 c8 w8 hown hgrow hgg hgl;have h8:=H7.out.en (letN k) (1+(Z:Int) % 4) (n:=k+1) (by rw [envM_len]) growsR hgrow hgg zg hown;rw [HEN.out]at h8;have H8:=zh h8;clear hown hgrow hgg hgl h8))
 clear HER H7;obtain⟨⟨u41,z4⟩,f4⟩:=H8.out.cell zq L1.length zq;have k0:=H8.out.c0;have k1:=H8.out.lt;have zl:=World.block_lt_of_cell? _ _ z4;have d13:(L1.length:Int)<(L3.length:Int)+1:=by have:=HR.n;omega
 have H9:Hid (Cod3 ((w.alloc (.cells #[.slice none 0 0,.slice none 0 0] 58))) base g (.slice (some ⟨g4,0,none⟩) (L3.length+1) c4) (.slice (some ⟨g6,0,none⟩) (k+1) c6) (.slice (some ⟨g4,0,none⟩) (L3.length+1) c4) (.slice (some ⟨g6,0,none⟩) (k+1) c6) (.slice (some ⟨g8,0,none⟩) (k+1) c8) (setA L4 L1.length L4.length) (namesM (k+1)) (envM ls (k+1)) (w8.setCell ⟨g4,L1.length*4+1,none⟩ (.int .i64 ((L3.length:Int)+1)))):=zh (by
  have h:=H8.out.patch zq L1.length zq ((L3.length:Int)+1);rw [show((L4.length:Nat):Int)=(L3.length:Int)+1 by have:=HR.n;omega]
  exact h)
 clear H8
 go_wp2_with fail
 go_roundw
 case rel=>exact⟨k+1,_,_,by have:=HK.out;omega,by go_num,by rw [<-HR.h5];exact H9⟩
 case measure=>simp [intOf];have:=HK.out;omega
end Go.Proofs.YtblkcgceefjmjaaGreatDoor
