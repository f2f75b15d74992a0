import Derived.Test.YteildlpchhlchaaGreatDoorRMchV1
import Derived.Test.YteildlpchhlchaaGreatDoorRSyL
set_option linter.all false
set_option maxHeartbeats 16000000
set_option maxRecDepth 1000000
namespace Go.Proofs.YteildlpchhlchaaGreatDoor
open Go.Proofs.Tryz Tryz List
open Go.RowKit
theorem Ox:(prog.info? 96).map (fun i=>(i.zero,i.size,i.bytes))=some (some (.agg #[.string ⟨#[]⟩,.int .i64 0]),2,24):=by kernel_rfl
theorem Ow:(prog.info? 9).map (fun i=>(i.zero,i.size,i.bytes))=some (some (.string ⟨#[]⟩),1,16):=by kernel_rfl
theorem bF.fin{w W:World}{o:Obj}{base g:Nat}{cI cS vI vS vE:Value}{l:List Ins}{sl:List ByteArray}{env:List (ByteArray × Int)}(h:bF (w.alloc o) base g cI cS vI vS vE l sl env W)(a b:Value):∀W',W'=(W.setCell ⟨w.heap.size,0,none⟩ a).setCell ⟨w.heap.size,1,none⟩ b->
 w.Grows W'/\w.heap.size<=base/\base<=W'.heap.size/\eH base W' vI l/\W'.ownsRow base 9 1 vS sl.length (slV sl):=by
 rintro W' rfl;have hwb:w.heap.size<base:=by have:=h.wg;have:=h.gb;simp at *;omega
 have h0:w.Grows W:=gqq af h.gr;have g1:=eB W w.heap.size 0 a;have g2:=eB (W.setCell ⟨w.heap.size,0,none⟩ a) w.heap.size 1 b
 have hk:∀(v:Value),(∀k,v.ownBlock=some k->base<=k)->∀k,some w.heap.size=some k->v.ownBlock≠some k:=fun v hv k e e2=>by
  cases e;have:=hv _ e2;omega
 refine⟨.of_below ((h0.below.setCell (Nat.le_refl _) a).setCell (Nat.le_refl _) b),by omega,Nat.le_trans h.bW (Nat.le_trans g1.size g2.size), ?_, ?_⟩
 ·exact bD (bD h.row g1 (hk _ fun k e=>(h.row.lt k e).1)) g2 (hk _ fun k e=>(h.row.lt k e).1)
 ·exact bD (bD h.slr g1 (hk _ fun k e=>(h.slr.lt k e).1)) g2 (hk _ fun k e=>(h.slr.lt k e).1)
theorem MP(ls:List (List Int))(gd:List Int)(vl vg:Value)(w:World)(hl:fu w vl ls)(hg:bH w vg gd)(hl8:ls.length<=8)(hg8:gd.length<=100) :
 Calls prog 27 #[vl,vg] w (PS w (vR ls gd) (aD (min ls.length 5))):=by
 obtain⟨i0,hi,hz1,hz2,hz3⟩:=info_parts fq;obtain⟨i1,hi1,hz11,hz21,hz31⟩:=info_parts Ow;obtain⟨i2,hi2,hz12,hz22,hz32⟩:=info_parts Ox;have HGI:=yq hg;obtain⟨-,-,ga,gc,rfl,-⟩:=id hg;obtain⟨-,la,lc,rfl,hcells⟩:=hl;have HLC:=yq hcells;have HF:=yq (nO ls gd);obtain⟨L,hL⟩:∃L,ls.length=L:=⟨_,rfl⟩;obtain⟨G,hG⟩:∃G,gd.length=G:=⟨_,rfl⟩;rw [hL]at HLC HF hl8 ⊢;have HL:=yq hL;have HG:=yq hG;rw [hG]at hg8 ⊢;clear hg hcells hL hG
 go_enter func27,ntmps27
 go_upto_block 0 with fail
 refine jD (fun W=>bF ((w.alloc (.cells #[.slice none 0 0,.slice none 0 0] 58))) (w.heap.size+1+1) (w.heap.size+1) (.slice none 0 0) (.slice none 0 0) (.slice none 0 0) (.slice none 0 0) (.slice none 0 0) [] [] [] W) (by
  have h:=bF.start (w:=((w.alloc (.cells #[.slice none 0 0,.slice none 0 0] 58)))) (W:=((w.alloc (.cells #[.slice none 0 0,.slice none 0 0] 58))).alloc (.cells #[.slice none 0 0,.slice none 0 0] 58)) (g:=w.heap.size+1) af ze (eZ _ _ _ ze);rw [show(((w.alloc (.cells #[.slice none 0 0,.slice none 0 0] 58))).alloc (.cells #[.slice none 0 0,.slice none 0 0] 58)).heap.size=w.heap.size+1+1 by simp]at h
  exact h) ?_
 intro W0 h0;have H0:=yq h0;clear h0;generalize w.heap.size+1+1=base at H0;generalize w.heap.size+1=g at *
 go_wp2_with fail
 go_loopw [6,7] (fun v6 v7 wr=>∃(k:Nat) (vI vS:Value),k<=min L 5/\v7= .int .i64 k/\Hid (bF ((w.alloc (.cells #[.slice none 0 0,.slice none 0 0] 58))) base g vI vS vI vS v6 (dL ls gd k) (aD k) (bM ls k) wr)) (fun _ v7 _=>5-(intOf v7).toNat)
 case atStart=>exact⟨0,_,_,by omega,rfl,H0⟩
 clear H0;obtain⟨k,vI,vS,hk,rfl,HC⟩:=hrel;have c0:=HC.out.c0;have c1:=HC.out.c1;have cl:=HC.out.lt;by_cases hkL:k<L
 case neg=>
  obtain rfl:k=L:=by omega
  have hmin:min k 5=k:=by omega
  rw [hmin]at HF ⊢;obtain⟨ia,ic,rfl⟩:=HC.out.row.form;obtain⟨sa,sc,rfl,-,-⟩:=aZ HC.out.slr;obtain⟨bs,dd,hwr⟩:World.Grows ((w.alloc (.cells #[.slice none 0 0,.slice none 0 0] 58))) wr:=HC.out.gr;subst hwr
  go_wp2_with fail
  go_returns
  have hfin:=HC.out.fin (.slice ia (dL ls gd k).length ic) (.slice sa (aD k).length sc) ((w.alloc (.cells #[.slice ia (dL ls gd k).length ic,.slice sa (aD k).length sc] 58)).grow bs dd) zq;obtain⟨q1,q2,q3,q4,q5⟩:=hfin;have hdd:=HC.out.dIS;rw [HF.out]at q1 q3 q4 q5 hdd ⊢;try simp only [hmin]
  exact⟨_,_,_,_,rfl,q1,q2,q3,q4,q5,hdd⟩
 by_cases hk5:k<5
 case neg=>
  obtain rfl:k=5:=by omega
  have hmin:min L 5=5:=by omega
  rw [hmin]at HF ⊢;have e5:((5:Nat):Int)=5:=rfl;rw [e5];obtain⟨ia,ic,rfl⟩:=HC.out.row.form;obtain⟨sa,sc,rfl,-,-⟩:=aZ HC.out.slr;obtain⟨bs,dd,hwr⟩:World.Grows ((w.alloc (.cells #[.slice none 0 0,.slice none 0 0] 58))) wr:=HC.out.gr;subst hwr
  go_wp2_with fail
  go_returns
  have hfin:=HC.out.fin (.slice ia (dL ls gd 5).length ic) (.slice sa (aD 5).length sc) ((w.alloc (.cells #[.slice ia (dL ls gd 5).length ic,.slice sa (aD 5).length sc] 58)).grow bs dd) zq;obtain⟨q1,q2,q3,q4,q5⟩:=hfin;have hdd:=HC.out.dIS;rw [HF.out]at q1 q3 q4 q5 hdd ⊢;try simp only [hmin]
  exact⟨_,_,_,_,rfl,q1,q2,q3,q4,q5,hdd⟩
 have d1:(k:Int)<(L:Int):=by omega
 have d0:(0:Int)<=(k:Int):=by omega
 have d5:(k:Int)<5:=by omega
 obtain h0|⟨b,off,rfl,hbw,hx⟩:=HLC.out
 ·omega
 obtain⟨uz,hu,hz⟩:=hx k hkL;obtain⟨-,-,za,zc,rfl,-⟩:=id hz;have hgw:w.Grows wr:=gqq af HC.out.gr;obtain⟨Z,hZ⟩:∃Z,(ls.getD k []).length=Z:=⟨_,rfl⟩;have hzb:=hz.1;rw [hZ]at hu hzb;have HZ:=yq hz;have HU:Hid (∀W,w.Grows W->b<W.heap.size/\W.cell? ⟨b,off+k,none⟩=some (.slice za Z zc)):=yq (fun W hg=>⟨Nat.lt_of_lt_of_le hbw hg.below.size,(World.cell?_of_block (a:=⟨b,off+k,none⟩) (hg.below.block b hbw)).trans hu⟩);have hdim:jQ ls k=1+(Z:Int) % 4:=by unfold jQ;rw [hZ]
 have HD:=yq hdim;have hm4:0<=(Z:Int) % 4/\(Z:Int) % 4<4:=by omega
 obtain⟨z0,z1⟩:=HU.out wr hgw;have HGW:=yq hgw;have HK:=yq (And.intro hkL hk5);clear hx hu hz hgw hbw hzb HLC;obtain⟨sa,sc,hvS,-,-⟩:=aZ HC.out.slr;obtain⟨ea,ec,hvE,-,-⟩:=aZ HC.out.enr;rw [iB]at hvS;rw [kE]at hvE;subst hvS;subst hvE;have HKK:=yq (And.intro hk hk5);have HL0:=yq (kH ls gd k zb)
 have hEx:∀(zs:List Int) (lv:Value) (dim:Int),(∀W,w.Grows W->aR W W.heap.size lv zs)->1<=dim->dim<=4->∀(vJ vT:Value) (l:List Ins) (W:World),bF ((w.alloc (.cells #[.slice none 0 0,.slice none 0 0] 58))) base g vJ vT vJ (.slice sa k sc) (.slice ea k ec) l (aD k) (bM ls k) W->Calls prog 9 #[lv,.int .i64 dim,.slice ea k ec] W (MI W (dZ zs (bM ls k) dim)):=
  fun zs lv dim hl h1 h4 vJ vT l W h=>ML lv (.slice ea k ec) zs (bM ls k) dim W (hl W (gqq af h.gr)) (h.envAt (by rw [kE];omega) (IW ls k)) h1 h4
 have hEg:=hEx gd (.slice ga gd.length gc) 1 (fun W hg=>aR.of_ints HGI.out hg.below) zb zb;have hEd:=hEx (ls.getD k []) (.slice za (ls.getD k []).length zc) (jQ ls k) (fun W hg=>aR.of_ints HZ.out hg.below) (iK ls k).1 (iK ls k).2;rw [HG.out]at hEg;rw [hZ,hdim]at hEd
 have hLay:∀(zs:List Int) (dim:Int),1<=dim->dim<=4->∀(vJ vT:Value) (l:List Ins) (W W1:World) (ve:Value),bF ((w.alloc (.cells #[.slice none 0 0,.slice none 0 0] 58))) base g vJ vT vJ (.slice sa k sc) (.slice ea k ec) l (aD k) (bM ls k) W->l.length<=5000->W.Grows W1->aT (fun b=>W.heap.size<=b) W1 (dZ zs (bM ls k) dim) ve->
  Calls prog 64 #[vJ,exV (dZ zs (bM ls k) dim) ve,.slice sa k sc] W1 fun r w'=>∃a c,r= .returned (.slice a (l++codeF (slK (aD k)) (dZ zs (bM ls k) dim) l.length).length c)/\bF ((w.alloc (.cells #[.slice none 0 0,.slice none 0 0] 58))) base g vJ vT (.slice a (l++codeF (slK (aD k)) (dZ zs (bM ls k) dim) l.length).length c) (.slice sa k sc) (.slice ea k ec) (l++codeF (slK (aD k)) (dZ zs (bM ls k) dim) l.length) (aD k) (bM ls k) w'/\W1.heap.size<=w'.heap.size:=
  fun zs dim h1 h4 vJ vT l W W1 ve h hl hg hr=>by
   obtain⟨g1,g2,-,-⟩:=mK (l:=ls) (i:=k) zb zs h1 h4;exact h.layC hg (by rw [iB];omega) (sG k) hr g1 (N9 zb g1 g2) (by have:=mr (l:=ls) (i:=k) zb zs h1 h4 (slK (aD k)) l.length;omega)
 have hLg:=hLay gd 1 zb zb;have hLd:=hLay (ls.getD k []) (jQ ls k) (iK ls k).1 (iK ls k).2;have eD:(kW ls k).e=dZ (ls.getD k []) (bM ls k) (jQ ls k):=rfl;have hRP:=Ky ls gd k hk5;have hRG:=Kz ls gd k hk5;rw [HL.out]at hRP hRG;rw [HG.out]at hRP hRG;rw [eD]at hRP hRG;rw [hdim]at hLd hRP hRG;have hnames:=BP k;have henv:=IV ls k;rw [hdim]at henv;have HNM:=yq hnames;have HEN:=yq henv;have HEG:=yq hEg;have HED:=yq hEd;have HLG:=yq hLg;have HLD:=yq hLd;generalize dZ gd (bM ls k) 1=Eg at HEG HLG hRG;generalize dZ (ls.getD k []) (bM ls k) (1+(Z:Int) % 4)=Ed at HED HLD hRP hRG;clear hEx hLay hEg hEd hLg hLd eD hk hkL hk5 hZ hdim hnames henv
 go_upto_region 7 with fail
 go_cut [6,7,9]from 11 to 104 (fun v6 v7 v9 wx=>v6= .slice ea k ec/\v7= .int .i64 k/\v9= .bool (lastB L k)/\wr=wx)
 case first=>
  by_cases q1:k+1=L
  ·have b1:((k:Int)==(L:Int)-1)=true:=by simp;omega
   have r:lastB L k=true:=by unfold lastB;simp [q1]
   go_wp2_with fail
   go_meet
   exact⟨by first|rfl|(subst q2;rfl),by first|rfl|(subst q2;rfl),by rw [r],rfl⟩
  ·have b1:((k:Int)==(L:Int)-1)=false:=by simp;omega
   by_cases q2:k=4
   ·have b2:((k:Int)==4)=true:=by simp;omega
    have r:lastB L k=true:=by unfold lastB;simp [q2]
    go_wp2_with fail
    go_meet
    exact⟨by first|rfl|(subst q2;rfl),by first|rfl|(subst q2;rfl),by rw [r],rfl⟩
   ·have b2:((k:Int)==4)=false:=by simp;omega
    have r:lastB L k=false:=by unfold lastB;simp [q1,q2]
    go_wp2_with fail
    go_meet
    exact⟨by first|rfl|(subst q2;rfl),by first|rfl|(subst q2;rfl),by rw [r],rfl⟩
 case rest=>
 obtain⟨rfl,rfl,rfl,rfl⟩:=hcut;generalize lastB L k=lb at *;cases lb
 case false=>
  obtain⟨L3,L4,HR⟩:=hRP rfl;clear hRP hRG;obtain⟨ia,ic,rfl⟩:=HC.out.row.form
  go_upto_region 13 with fail
  have hgw2:w.Grows wr:=gqq af HC.out.gr;obtain⟨y0,y1⟩:=HU.out wr hgw2;refine TS.begin [11,12,13] (World.Grows wr) zd zd aj (fun hS=>?_);refine kq 0 hS ?_;refine kq 1 hS ?_;refine kq 2 hS ?_;refine kq 3 hS ?_;refine kq 4 hS ?_;refine kq 5 hS ?_;refine kq 6 hS ?_;refine kq 7 hS ?_;refine kq 9 hS ?_;refine kq 10 hS ?_;refine TS.one (i:=8) zd rfl (fun K1 hK1=>?_);have HK1:=yq hK1;clear hK1 hS;dsimp only [getElem_toArray,getElem_cons_succ,getElem_cons_zero]
  go_simp
  go_at_call 9
  refine(HED.out _ _ _ _ (HC.out.grows af)).mono ?_;rintro e' wX ⟨vX,rfl,hgX,hrX⟩;have HGX:=yq hgX;have HRX:=yq hrX;refine TS.go HK1.out (gqq af hgX) (fun hS=>?_);clear HK1 K1 hgX hrX
  (try simp only [nS])
  refine TS.one (i:=11) zd rfl (fun K1 hK1=>?_);have HK1:=yq hK1;clear hK1 hS;dsimp only [getElem_toArray,getElem_cons_succ,getElem_cons_zero]
  go_simp
  go_at_call 64
  refine(HLD.out _ _ _ _ _ _ (HC.out.grows af) (by have:=HL0.out;omega) HGX.out HRX.out).mono ?_;rintro e' wL ⟨aL,cL,rfl,hLL,hsL⟩;rw [<-HR.h3]at hLL;have HLL:=yq hLL;have z0':=HLL.out.c0;have zf0:=HLL.out.f 0;have zlt:=HLL.out.lt;rw [<-HR.h3];refine HK1.out _ _ (fun h=>absurd zf h) ?_;clear HK1 K1 hLL hsL HRX HGX y0 y1 hgw2
  (try simp only [nS])
  refine TS.wtB 12 ?_;refine TS.weB 13 ?_
  go_upto_region 14 with fail
  refine jD (fun W=>bF ((w.alloc (.cells #[.slice none 0 0,.slice none 0 0] 58))) base g (.slice aL L3.length cL) (.slice sa k sc) (.slice aL L3.length cL) (.slice sa k sc) (.slice ea k ec) L3 (aD k) (bM ls k) W) (HLL.out.setI _) ?_;intro W3 h3;have H3:=yq h3;clear h3 z0' zf0 zlt HLL;have s0:=H3.out.c0;have s1:=H3.out.c1;have sl:=H3.out.lt
  go_upto_region 15 with (at_builtin;refine wpList_append_lies _ rfl _ _ 55 rfl base 118 i0 _ 4 32 underlying55 hi hz1 hz2 hz3 rfl zf (.slice aL L3.length cL) L3.length (aU L3) rfl (H3.out.row.grows af) ⟨_,0,none⟩ 1 1 [.int .i64 4,.int .i64 (k:Int),.int .i64 0,.int .i64 0] rfl rfl (ax _ [.int .i64 4,.int .i64 (k:Int),.int .i64 0,.int .i64 0] _ _ ze) zv zf yz zC yW _ rfl ?_;intro g4 c4 w4 hown hgrow hgg hgl;have h4:=H3.out.ins ⟨4,(k:Int),0,0⟩ (n:=L3.length+1) rfl af hgrow hgg ze hown;rw [<-HR.h4]at h4;have H4:=yq h4;have r0:=H4.out.c0;have r1:=H4.out.f 0;have r2:=H4.out.lt;clear hown hgrow hgg hgl h4)
  refine jD (fun W=>bF ((w.alloc (.cells #[.slice none 0 0,.slice none 0 0] 58))) base g (.slice (some ⟨g4,0,none⟩) (L3.length+1) c4) (.slice sa k sc) (.slice (some ⟨g4,0,none⟩) (L3.length+1) c4) (.slice sa k sc) (.slice ea k ec) L4 (aD k) (bM ls k) W) (H4.out.setI _) ?_;intro W5 h5;have H5:=yq h5;clear h5 s0 s1 sl r0 r1 r2 H4 H3;have t0:=H5.out.c0;have t1:=H5.out.c1;have tf:=H5.out.f 1;have tl:=H5.out.lt;have HSR:Hid (W5.ownsRow base 9 1 (.slice sa k sc) k (slV (aD k))):=yq yP;refine TS.begin [5,6,7] (World.Grows W5) zd zd aj (fun hS=>?_);refine kq 0 hS ?_;refine kq 1 hS ?_;refine kq 2 hS ?_;refine TS.one (i:=3) zd rfl (fun K1 hK1=>?_);have HK1:=yq hK1;clear hK1 hS;dsimp only [getElem_toArray,getElem_cons_succ,getElem_cons_zero]
  go_simp
  go_at_call 65
  refine gvq (fH k _ HKK.out.2) ?_;intro bs1 dr1;refine TS.go HK1.out af (fun hS=>?_);clear HK1 K1
  (try simp only [nS])
  refine TS.one (i:=4) zd rfl (fun K1 hK1=>?_);have HK1:=yq hK1;clear hK1 hS;dsimp only [getElem_toArray,getElem_cons_succ,getElem_cons_zero]
  go_simp
  refine TS.go HK1.out af (fun hS=>?_);clear HK1 K1
  (try simp only [nS])
  refine TS.one (i:=5) zd rfl (fun K1 hK1=>?_);refine step_append_lies _ rfl _ _ 56 rfl base 9 i1 _ 1 16 underlying56 hi1 hz11 hz21 hz31 rfl zf (.slice sa k sc) k (slV (aD k)) rfl (bB HSR.out af) ⟨_,0,none⟩ 1 1 [.string (eQ k)] rfl rfl (ax _ [.string (eQ k)] _ _ ze) yx zf zP zT yX _ rfl ?_;intro g6 c6 w6 hown hgrow hgg hgl;have h6:=H5.out.nm (eQ k) (n:=k+1) (by rw [iB]) af hgrow hgg zx hown;rw [HNM.out]at h6;have H6:=yq h6;have r0:=H6.out.c1;have r1:=H6.out.f 1;have r2:=H6.out.lt;refine hK1 _ _ (fun h=>absurd zf h) ?_;clear hK1 K1 hown hgrow hgg hgl h6 hS t0 t1 tf tl
  (try simp only [nS])
  refine TS.wtB 6 ?_;refine TS.weB 7 ?_
  go_upto_region 16 with fail
  refine jD (fun W=>bF ((w.alloc (.cells #[.slice none 0 0,.slice none 0 0] 58))) base g (.slice (some ⟨g4,0,none⟩) (L3.length+1) c4) (.slice (some ⟨g6,0,none⟩) (k+1) c6) (.slice (some ⟨g4,0,none⟩) (L3.length+1) c4) (.slice (some ⟨g6,0,none⟩) (k+1) c6) (.slice ea k ec) L4 (aD (k+1)) (bM ls k) W) (H6.out.setS _) ?_;intro W7 h7;have H7:=yq h7;clear h7 r0 r1 r2 H6 H5 HSR;have HER:Hid (W7.ownsRow base 96 2 (.slice ea k ec) k (enV (bM ls k))):=yq yQ
  go_upto_region 17 with (first
   |(go_at_call 65;refine gvq (fH k _ HKK.out.2) ?_;intro bs2 dr2)
   |(at_builtin;refine wpList_append_lies _ rfl _ _ 52 rfl base 96 i2 _ 2 24 underlying52 hi2 hz12 hz22 hz32 rfl zf (.slice ea k ec) k (enV (bM ls k)) rfl (bB HER.out af) ⟨_,0,none⟩ 1 1 [.string (eQ k),.int .i64 (1+(Z:Int) % 4)] rfl rfl (ax _ [.string (eQ k),.int .i64 (1+(Z:Int) % 4)] _ _ ze) yN zf zP zT yY _ rfl ?_;intro g8 c8 w8 hown hgrow hgg hgl;have h8:=H7.out.en (eQ k) (1+(Z:Int) % 4) (n:=k+1) (by rw [kE]) af hgrow hgg zx hown;rw [HEN.out]at h8;have H8:=yq h8;clear hown hgrow hgg hgl h8))
  clear HER H7
  go_wp2_with fail
  go_roundw
  case rel=>exact⟨k+1,_,_,by have:=HK.out;omega,by go_num,by rw [<-HR.h5];exact H8⟩
  case measure=>simp [intOf];have:=HK.out;omega
 case true=>
 by_cases hG:0<G
 case neg=>
  obtain⟨L3,L4,HR⟩:=hRP (by simp [hG]);have dG:¬(0:Int)<(G:Int):=by omega
  clear hRP hRG;obtain⟨ia,ic,rfl⟩:=HC.out.row.form
  go_upto_region 13 with fail
  have hgw2:w.Grows wr:=gqq af HC.out.gr;obtain⟨y0,y1⟩:=HU.out wr hgw2;refine TS.begin [11,12,13] (World.Grows wr) zd zd aj (fun hS=>?_);refine kq 0 hS ?_;refine kq 1 hS ?_;refine kq 2 hS ?_;refine kq 3 hS ?_;refine kq 4 hS ?_;refine kq 5 hS ?_;refine kq 6 hS ?_;refine kq 7 hS ?_;refine kq 9 hS ?_;refine kq 10 hS ?_;refine TS.one (i:=8) zd rfl (fun K1 hK1=>?_);have HK1:=yq hK1;clear hK1 hS;dsimp only [getElem_toArray,getElem_cons_succ,getElem_cons_zero]
  go_simp
  go_at_call 9
  refine(HED.out _ _ _ _ (HC.out.grows af)).mono ?_;rintro e' wX ⟨vX,rfl,hgX,hrX⟩;have HGX:=yq hgX;have HRX:=yq hrX;refine TS.go HK1.out (gqq af hgX) (fun hS=>?_);clear HK1 K1 hgX hrX
  (try simp only [nS])
  refine TS.one (i:=11) zd rfl (fun K1 hK1=>?_);have HK1:=yq hK1;clear hK1 hS;dsimp only [getElem_toArray,getElem_cons_succ,getElem_cons_zero]
  go_simp
  go_at_call 64
  refine(HLD.out _ _ _ _ _ _ (HC.out.grows af) (by have:=HL0.out;omega) HGX.out HRX.out).mono ?_;rintro e' wL ⟨aL,cL,rfl,hLL,hsL⟩;rw [<-HR.h3]at hLL;have HLL:=yq hLL;have z0':=HLL.out.c0;have zf0:=HLL.out.f 0;have zlt:=HLL.out.lt;rw [<-HR.h3];refine HK1.out _ _ (fun h=>absurd zf h) ?_;clear HK1 K1 hLL hsL HRX HGX y0 y1 hgw2
  (try simp only [nS])
  refine TS.wtB 12 ?_;refine TS.weB 13 ?_
  go_upto_region 14 with fail
  refine jD (fun W=>bF ((w.alloc (.cells #[.slice none 0 0,.slice none 0 0] 58))) base g (.slice aL L3.length cL) (.slice sa k sc) (.slice aL L3.length cL) (.slice sa k sc) (.slice ea k ec) L3 (aD k) (bM ls k) W) (HLL.out.setI _) ?_;intro W3 h3;have H3:=yq h3;clear h3 z0' zf0 zlt HLL;have s0:=H3.out.c0;have s1:=H3.out.c1;have sl:=H3.out.lt
  go_upto_region 15 with (at_builtin;refine wpList_append_lies _ rfl _ _ 55 rfl base 118 i0 _ 4 32 underlying55 hi hz1 hz2 hz3 rfl zf (.slice aL L3.length cL) L3.length (aU L3) rfl (H3.out.row.grows af) ⟨_,0,none⟩ 1 1 [.int .i64 4,.int .i64 (k:Int),.int .i64 0,.int .i64 0] rfl rfl (ax _ [.int .i64 4,.int .i64 (k:Int),.int .i64 0,.int .i64 0] _ _ ze) zv zf yz zC yW _ rfl ?_;intro g4 c4 w4 hown hgrow hgg hgl;have h4:=H3.out.ins ⟨4,(k:Int),0,0⟩ (n:=L3.length+1) rfl af hgrow hgg ze hown;rw [<-HR.h4]at h4;have H4:=yq h4;have r0:=H4.out.c0;have r1:=H4.out.f 0;have r2:=H4.out.lt;clear hown hgrow hgg hgl h4)
  refine jD (fun W=>bF ((w.alloc (.cells #[.slice none 0 0,.slice none 0 0] 58))) base g (.slice (some ⟨g4,0,none⟩) (L3.length+1) c4) (.slice sa k sc) (.slice (some ⟨g4,0,none⟩) (L3.length+1) c4) (.slice sa k sc) (.slice ea k ec) L4 (aD k) (bM ls k) W) (H4.out.setI _) ?_;intro W5 h5;have H5:=yq h5;clear h5 s0 s1 sl r0 r1 r2 H4 H3;have t0:=H5.out.c0;have t1:=H5.out.c1;have tf:=H5.out.f 1;have tl:=H5.out.lt;have HSR:Hid (W5.ownsRow base 9 1 (.slice sa k sc) k (slV (aD k))):=yq yP;refine TS.begin [5,6,7] (World.Grows W5) zd zd aj (fun hS=>?_);refine kq 0 hS ?_;refine kq 1 hS ?_;refine kq 2 hS ?_;refine TS.one (i:=3) zd rfl (fun K1 hK1=>?_);have HK1:=yq hK1;clear hK1 hS;dsimp only [getElem_toArray,getElem_cons_succ,getElem_cons_zero]
  go_simp
  go_at_call 65
  refine gvq (fH k _ HKK.out.2) ?_;intro bs1 dr1;refine TS.go HK1.out af (fun hS=>?_);clear HK1 K1
  (try simp only [nS])
  refine TS.one (i:=4) zd rfl (fun K1 hK1=>?_);have HK1:=yq hK1;clear hK1 hS;dsimp only [getElem_toArray,getElem_cons_succ,getElem_cons_zero]
  go_simp
  refine TS.go HK1.out af (fun hS=>?_);clear HK1 K1
  (try simp only [nS])
  refine TS.one (i:=5) zd rfl (fun K1 hK1=>?_);refine step_append_lies _ rfl _ _ 56 rfl base 9 i1 _ 1 16 underlying56 hi1 hz11 hz21 hz31 rfl zf (.slice sa k sc) k (slV (aD k)) rfl (bB HSR.out af) ⟨_,0,none⟩ 1 1 [.string (eQ k)] rfl rfl (ax _ [.string (eQ k)] _ _ ze) yx zf zP zT yX _ rfl ?_;intro g6 c6 w6 hown hgrow hgg hgl;have h6:=H5.out.nm (eQ k) (n:=k+1) (by rw [iB]) af hgrow hgg zx hown;rw [HNM.out]at h6;have H6:=yq h6;have r0:=H6.out.c1;have r1:=H6.out.f 1;have r2:=H6.out.lt;refine hK1 _ _ (fun h=>absurd zf h) ?_;clear hK1 K1 hown hgrow hgg hgl h6 hS t0 t1 tf tl
  (try simp only [nS])
  refine TS.wtB 6 ?_;refine TS.weB 7 ?_
  go_upto_region 16 with fail
  refine jD (fun W=>bF ((w.alloc (.cells #[.slice none 0 0,.slice none 0 0] 58))) base g (.slice (some ⟨g4,0,none⟩) (L3.length+1) c4) (.slice (some ⟨g6,0,none⟩) (k+1) c6) (.slice (some ⟨g4,0,none⟩) (L3.length+1) c4) (.slice (some ⟨g6,0,none⟩) (k+1) c6) (.slice ea k ec) L4 (aD (k+1)) (bM ls k) W) (H6.out.setS _) ?_;intro W7 h7;have H7:=yq h7;clear h7 r0 r1 r2 H6 H5 HSR;have HER:Hid (W7.ownsRow base 96 2 (.slice ea k ec) k (enV (bM ls k))):=yq yQ
  go_upto_region 17 with (first
   |(go_at_call 65;refine gvq (fH k _ HKK.out.2) ?_;intro bs2 dr2)
   |(at_builtin;refine wpList_append_lies _ rfl _ _ 52 rfl base 96 i2 _ 2 24 underlying52 hi2 hz12 hz22 hz32 rfl zf (.slice ea k ec) k (enV (bM ls k)) rfl (bB HER.out af) ⟨_,0,none⟩ 1 1 [.string (eQ k),.int .i64 (1+(Z:Int) % 4)] rfl rfl (ax _ [.string (eQ k),.int .i64 (1+(Z:Int) % 4)] _ _ ze) yN zf zP zT yY _ rfl ?_;intro g8 c8 w8 hown hgrow hgg hgl;have h8:=H7.out.en (eQ k) (1+(Z:Int) % 4) (n:=k+1) (by rw [kE]) af hgrow hgg zx hown;rw [HEN.out]at h8;have H8:=yq h8;clear hown hgrow hgg hgl h8))
  clear HER H7
  go_wp2_with fail
  go_roundw
  case rel=>exact⟨k+1,_,_,by have:=HK.out;omega,by go_num,by rw [<-HR.h5];exact H8⟩
  case measure=>simp [intOf];have:=HK.out;omega
 obtain⟨L1,L2,L3,L4,HR⟩:=hRG rfl hG;have dG:(0:Int)<(G:Int):=by omega
 clear hRP hRG;obtain⟨ia,ic,rfl⟩:=HC.out.row.form
 go_upto_region 10 with fail
 refine TS.begin [7,8,9] (World.Grows wr) zd zd aj (fun hS=>?_);refine kq 0 hS ?_;refine kq 1 hS ?_;refine kq 2 hS ?_;refine kq 3 hS ?_;refine kq 5 hS ?_;refine kq 6 hS ?_;refine TS.one (i:=4) zd rfl (fun K1 hK1=>?_);have HK1:=yq hK1;clear hK1 hS;dsimp only [getElem_toArray,getElem_cons_succ,getElem_cons_zero]
 go_simp
 go_at_call 9
 refine(HEG.out _ _ _ _ (HC.out.grows af)).mono ?_;rintro e' wX ⟨vX,rfl,hgX,hrX⟩;have HGX:=yq hgX;have HRX:=yq hrX;refine TS.go HK1.out (gqq af hgX) (fun hS=>?_);clear HK1 K1 hgX hrX
 (try simp only [nS])
 refine TS.one (i:=7) zd rfl (fun K1 hK1=>?_);have HK1:=yq hK1;clear hK1 hS;dsimp only [getElem_toArray,getElem_cons_succ,getElem_cons_zero]
 go_simp
 go_at_call 64
 refine(HLG.out _ _ _ _ _ _ (HC.out.grows af) zC HGX.out HRX.out).mono ?_;rintro e' wA ⟨aA,cA,rfl,hAA,hsA⟩;rw [<-HR.h1]at hAA;have HAA:=yq hAA;have p0:=HAA.out.c0;have p1:=HAA.out.f 0;have p2:=HAA.out.lt;rw [<-HR.h1];refine HK1.out _ _ (fun h=>absurd zf h) ?_;clear HK1 K1 hAA hsA HRX HGX
 (try simp only [nS])
 refine TS.wtB 8 ?_;refine TS.weB 9 ?_
 go_upto_region 11 with fail
 refine jD (fun W=>bF ((w.alloc (.cells #[.slice none 0 0,.slice none 0 0] 58))) base g (.slice aA L1.length cA) (.slice sa k sc) (.slice aA L1.length cA) (.slice sa k sc) (.slice ea k ec) L1 (aD k) (bM ls k) W) (HAA.out.setI _) ?_;intro Wb hWb;have HB:=yq hWb;clear hWb p0 p1 p2 HAA;have p0:=HB.out.c0;have p1:=HB.out.c1;have p2:=HB.out.lt
 go_upto_region 13 with (at_builtin;refine wpList_append_lies _ rfl _ _ 55 rfl base 118 i0 _ 4 32 underlying55 hi hz1 hz2 hz3 rfl zf (.slice aA L1.length cA) L1.length (aU L1) rfl (HB.out.row.grows af) ⟨_,0,none⟩ 1 1 [.int .i64 22,.int .i64 0,.int .i64 0,.int .i64 0] rfl rfl (ax _ [.int .i64 22,.int .i64 0,.int .i64 0,.int .i64 0] _ _ ze) zv zf yz zC (by have:=HB.out.bW;simp;omega) _ rfl ?_;intro gB cB wB hown hgrow hgg hgl;have hB:=HB.out.ins ⟨22,0,0,0⟩ (n:=L1.length+1) rfl af hgrow hgg ze hown;rw [<-HR.h2]at hB;have HB2:=yq hB;have r0:=HB2.out.c0;have r1:=HB2.out.f 0;have r2:=HB2.out.lt;clear hown hgrow hgg hgl hB)
 refine jD (fun W=>bF ((w.alloc (.cells #[.slice none 0 0,.slice none 0 0] 58))) base g (.slice (some ⟨gB,0,none⟩) (L1.length+1) cB) (.slice sa k sc) (.slice (some ⟨gB,0,none⟩) (L1.length+1) cB) (.slice sa k sc) (.slice ea k ec) L2 (aD k) (bM ls k) W) (HB2.out.setI _) ?_;intro W2 hW2;have H2:=yq hW2;clear hW2 p0 p1 p2 r0 r1 r2 HB2 HB c0 c1 cl;have c0:=H2.out.c0;have c1:=H2.out.c1;have cl:=H2.out.lt
 go_upto_region 13 with fail
 have hgw2:w.Grows W2:=gqq af H2.out.gr;obtain⟨y0,y1⟩:=HU.out W2 hgw2;refine TS.begin [11,12,13] (World.Grows W2) zd zd aj (fun hS=>?_);refine kq 0 hS ?_;refine kq 1 hS ?_;refine kq 2 hS ?_;refine kq 3 hS ?_;refine kq 4 hS ?_;refine kq 5 hS ?_;refine kq 6 hS ?_;refine kq 7 hS ?_;refine kq 9 hS ?_;refine kq 10 hS ?_;refine TS.one (i:=8) zd rfl (fun K1 hK1=>?_);have HK1:=yq hK1;clear hK1 hS;dsimp only [getElem_toArray,getElem_cons_succ,getElem_cons_zero]
 go_simp
 go_at_call 9
 refine(HED.out _ _ _ _ (H2.out.grows af)).mono ?_;rintro e' wX ⟨vX,rfl,hgX,hrX⟩;have HGX:=yq hgX;have HRX:=yq hrX;refine TS.go HK1.out (gqq af hgX) (fun hS=>?_);clear HK1 K1 hgX hrX
 (try simp only [nS])
 refine TS.one (i:=11) zd rfl (fun K1 hK1=>?_);have HK1:=yq hK1;clear hK1 hS;dsimp only [getElem_toArray,getElem_cons_succ,getElem_cons_zero]
 go_simp
 go_at_call 64
 refine(HLD.out _ _ _ _ _ _ (H2.out.grows af) zC HGX.out HRX.out).mono ?_;rintro e' wL ⟨aL,cL,rfl,hLL,hsL⟩;rw [<-HR.h3]at hLL;have HLL:=yq hLL;have z0':=HLL.out.c0;have zf0:=HLL.out.f 0;have zlt:=HLL.out.lt;rw [<-HR.h3];refine HK1.out _ _ (fun h=>absurd zf h) ?_;clear HK1 K1 hLL hsL HRX HGX y0 y1 hgw2
 (try simp only [nS])
 refine TS.wtB 12 ?_;refine TS.weB 13 ?_
 go_upto_region 14 with fail
 refine jD (fun W=>bF ((w.alloc (.cells #[.slice none 0 0,.slice none 0 0] 58))) base g (.slice aL L3.length cL) (.slice sa k sc) (.slice aL L3.length cL) (.slice sa k sc) (.slice ea k ec) L3 (aD k) (bM ls k) W) (HLL.out.setI _) ?_;intro W3 h3;have H3:=yq h3;clear h3 z0' zf0 zlt HLL;have s0:=H3.out.c0;have s1:=H3.out.c1;have sl:=H3.out.lt
 go_upto_region 15 with (at_builtin;refine wpList_append_lies _ rfl _ _ 55 rfl base 118 i0 _ 4 32 underlying55 hi hz1 hz2 hz3 rfl zf (.slice aL L3.length cL) L3.length (aU L3) rfl (H3.out.row.grows af) ⟨_,0,none⟩ 1 1 [.int .i64 4,.int .i64 (k:Int),.int .i64 0,.int .i64 0] rfl rfl (ax _ [.int .i64 4,.int .i64 (k:Int),.int .i64 0,.int .i64 0] _ _ ze) zv zf yz zC yW _ rfl ?_;intro g4 c4 w4 hown hgrow hgg hgl;have h4:=H3.out.ins ⟨4,(k:Int),0,0⟩ (n:=L3.length+1) rfl af hgrow hgg ze hown;rw [<-HR.h4]at h4;have H4:=yq h4;have r0:=H4.out.c0;have r1:=H4.out.f 0;have r2:=H4.out.lt;clear hown hgrow hgg hgl h4)
 refine jD (fun W=>bF ((w.alloc (.cells #[.slice none 0 0,.slice none 0 0] 58))) base g (.slice (some ⟨g4,0,none⟩) (L3.length+1) c4) (.slice sa k sc) (.slice (some ⟨g4,0,none⟩) (L3.length+1) c4) (.slice sa k sc) (.slice ea k ec) L4 (aD k) (bM ls k) W) (H4.out.setI _) ?_;intro W5 h5;have H5:=yq h5;clear h5 s0 s1 sl r0 r1 r2 H4 H3;have t0:=H5.out.c0;have t1:=H5.out.c1;have tf:=H5.out.f 1;have tl:=H5.out.lt;have HSR:Hid (W5.ownsRow base 9 1 (.slice sa k sc) k (slV (aD k))):=yq yP;refine TS.begin [5,6,7] (World.Grows W5) zd zd aj (fun hS=>?_);refine kq 0 hS ?_;refine kq 1 hS ?_;refine kq 2 hS ?_;refine TS.one (i:=3) zd rfl (fun K1 hK1=>?_);have HK1:=yq hK1;clear hK1 hS;dsimp only [getElem_toArray,getElem_cons_succ,getElem_cons_zero]
 go_simp
 go_at_call 65
 refine gvq (fH k _ HKK.out.2) ?_;intro bs1 dr1;refine TS.go HK1.out af (fun hS=>?_);clear HK1 K1
 (try simp only [nS])
 refine TS.one (i:=4) zd rfl (fun K1 hK1=>?_);have HK1:=yq hK1;clear hK1 hS;dsimp only [getElem_toArray,getElem_cons_succ,getElem_cons_zero]
 go_simp
 refine TS.go HK1.out af (fun hS=>?_);clear HK1 K1
 (try simp only [nS])
 refine TS.one (i:=5) zd rfl (fun K1 hK1=>?_);refine step_append_lies _ rfl _ _ 56 rfl base 9 i1 _ 1 16 underlying56 hi1 hz11 hz21 hz31 rfl zf (.slice sa k sc) k (slV (aD k)) rfl (bB HSR.out af) ⟨_,0,none⟩ 1 1 [.string (eQ k)] rfl rfl (ax _ [.string (eQ k)] _ _ ze) yx zf zP zT yX _ rfl ?_;intro g6 c6 w6 hown hgrow hgg hgl;have h6:=H5.out.nm (eQ k) (n:=k+1) (by rw [iB]) af hgrow hgg zx hown;rw [HNM.out]at h6;have H6:=yq h6;have r0:=H6.out.c1;have r1:=H6.out.f 1;have r2:=H6.out.lt;refine hK1 _ _ (fun h=>absurd zf h) ?_;clear hK1 K1 hown hgrow hgg hgl h6 hS t0 t1 tf tl
 (try simp only [nS])
 refine TS.wtB 6 ?_;refine TS.weB 7 ?_
 go_upto_region 16 with fail
 refine jD (fun W=>bF ((w.alloc (.cells #[.slice none 0 0,.slice none 0 0] 58))) base g (.slice (some ⟨g4,0,none⟩) (L3.length+1) c4) (.slice (some ⟨g6,0,none⟩) (k+1) c6) (.slice (some ⟨g4,0,none⟩) (L3.length+1) c4) (.slice (some ⟨g6,0,none⟩) (k+1) c6) (.slice ea k ec) L4 (aD (k+1)) (bM ls k) W) (H6.out.setS _) ?_;intro W7 h7;have H7:=yq h7;clear h7 r0 r1 r2 H6 H5 HSR;have HER:Hid (W7.ownsRow base 96 2 (.slice ea k ec) k (enV (bM ls k))):=yq yQ
 go_upto_region 17 with (first
  |(go_at_call 65;refine gvq (fH k _ HKK.out.2) ?_;intro bs2 dr2)
  |(at_builtin;refine wpList_append_lies _ rfl _ _ 52 rfl base 96 i2 _ 2 24 underlying52 hi2 hz12 hz22 hz32 rfl zf (.slice ea k ec) k (enV (bM ls k)) rfl (bB HER.out af) ⟨_,0,none⟩ 1 1 [.string (eQ k),.int .i64 (1+(Z:Int) % 4)] rfl rfl (ax _ [.string (eQ k),.int .i64 (1+(Z:Int) % 4)] _ _ ze) yN zf zP zT yY _ rfl ?_;intro g8 c8 w8 hown hgrow hgg hgl;have h8:=H7.out.en (eQ k) (1+(Z:Int) % 4) (n:=k+1) (by rw [kE]) af hgrow hgg zx hown;rw [HEN.out]at h8;have H8:=yq h8;clear hown hgrow hgg hgl h8))
 clear HER H7;obtain⟨⟨u41,z4⟩,f4⟩:=H8.out.cell zC L1.length zC;have k0:=H8.out.c0;have k1:=H8.out.lt;have zl:=World.block_lt_of_cell? _ _ z4;have d13:(L1.length:Int)<(L3.length:Int)+1:=by have:=HR.n;omega
 have H9:Hid (bF ((w.alloc (.cells #[.slice none 0 0,.slice none 0 0] 58))) base g (.slice (some ⟨g4,0,none⟩) (L3.length+1) c4) (.slice (some ⟨g6,0,none⟩) (k+1) c6) (.slice (some ⟨g4,0,none⟩) (L3.length+1) c4) (.slice (some ⟨g6,0,none⟩) (k+1) c6) (.slice (some ⟨g8,0,none⟩) (k+1) c8) (gG L4 L1.length L4.length) (aD (k+1)) (bM ls (k+1)) (w8.setCell ⟨g4,L1.length*4+1,none⟩ (.int .i64 ((L3.length:Int)+1)))):=yq (by
  have h:=H8.out.patch zC L1.length zC ((L3.length:Int)+1);rw [show((L4.length:Nat):Int)=(L3.length:Int)+1 by have:=HR.n;omega]
  exact h)
 clear H8
 go_wp2_with fail
 go_roundw
 case rel=>exact⟨k+1,_,_,by have:=HK.out;omega,by go_num,by rw [<-HR.h5];exact H9⟩
 case measure=>simp [intOf];have:=HK.out;omega
def l9:List Ins:=[⟨1,2,2,1⟩,⟨1,2,3,1⟩,⟨9,0,0,0⟩,⟨4,0,0,0⟩]
theorem S9:dO l9 [qU]=(2,0):=by decide+kernel
def v9w:Vw:=⟨0,2000,0,0,0,0,0,0,0,0,0,1,[]⟩
theorem qx.insAt{w:World}{bI bS:Nat}(h:qx w bI bS):ig w (.slice (some ⟨bI,0,none⟩) 4 4) l9:=by
 refine⟨by decide,some ⟨bI,0,none⟩,4,rfl,.inr ⟨bI,0,rfl,h.hI,fun i hi=>?_⟩⟩;have hi4:i<4:=hi
 match i,hi4 with
 |0,_=>exact⟨⟨⟨by decide,by decide⟩,⟨by decide,by decide⟩⟩,h.ins 0 _ rfl,h.ins 1 _ rfl,h.ins 2 _ rfl,h.ins 3 _ rfl⟩
 |1,_=>exact⟨⟨⟨by decide,by decide⟩,⟨by decide,by decide⟩⟩,h.ins 4 _ rfl,h.ins 5 _ rfl,h.ins 6 _ rfl,h.ins 7 _ rfl⟩
 |2,_=>exact⟨⟨⟨by decide,by decide⟩,⟨by decide,by decide⟩⟩,h.ins 8 _ rfl,h.ins 9 _ rfl,h.ins 10 _ rfl,h.ins 11 _ rfl⟩
 |3,_=>exact⟨⟨⟨by decide,by decide⟩,⟨by decide,by decide⟩⟩,h.ins 12 _ rfl,h.ins 13 _ rfl,h.ins 14 _ rfl,h.ins 15 _ rfl⟩
theorem qx.slAt{w:World}{bI bS:Nat}(h:qx w bI bS):kJ w (.slice (some ⟨bS,0,none⟩) 1 1) [qU]:=by
 refine⟨by decide,fun s hs=>by simp at hs;subst hs;decide,some ⟨bS,0,none⟩,1,by decide,rfl,.inr ⟨bS,0,rfl,h.hS,fun i hi=>?_⟩⟩;have hi1:i<1:=hi;obtain rfl:i=0:=by omega
 exact h.slt
theorem qx.of{w:World}{bI bS:Nat}{t1 t2:TypeId}(hI:w.heap[bI]? =some (.cells #[.int .i64 1,.int .i64 2,.int .i64 2,.int .i64 1,.int .i64 1,.int .i64 2,.int .i64 3,.int .i64 1,.int .i64 9,.int .i64 0,.int .i64 0,.int .i64 0,.int .i64 4,.int .i64 0,.int .i64 0,.int .i64 0] t1 (0,0)))(hS:w.heap[bS]? =some (.cells #[.string qU] t2 (0,0))):qx w bI bS:=
 ⟨(Array.getElem?_eq_some_iff.1 hI).1,(Array.getElem?_eq_some_iff.1 hS).1,fun i u hu=>(cell_of_row w bI i _ _ _ hI).trans (by simpa using hu),cell_of_row w bS 0 _ _ _ hS⟩
theorem MV(hInf:Hid gU)(bI bS:Nat)(w:World)(hc:qx w bI bS)(ht:Tab w):Calls prog 66 #[.agg #[.slice (some ⟨bI,0,none⟩) 4 4,.slice (some ⟨bS,0,none⟩) 1 1]] w fun e W'=>e= .returned (.tuple #[.int .i64 2,.int .i64 0])/\w.Grows W':=by
 have h:=qM hInf l9 [qU] _ _ w hc.insAt hc.slAt ht;unfold JC at h;rw [S9]at h;exact h
def vwR(v:Vw)(y:Value):Array Value:=#[.int .i64 v.age,.int .i64 v.year,.int .i64 v.children,.int .i64 v.insured,.int .i64 v.worked,.int .i64 v.voluntary,.int .i64 v.service,.int .i64 v.equated,.int .i64 v.raising,.int .i64 v.resident,.int .i64 v.bn,.int .i64 v.bd,y]
theorem Co{k:Nat}(h:k<11):bE (bC k).toList≠0:=by
 have key:∀k,k<11->bE (bC k).toList≠0:=by decide+kernel
 exact key k h
variable {w W0 : World} {base Bl CB VB XB i : Nat} {x : Ins} {sl : List ByteArray} {v : Vw} {vi vs vK vS : Value} {stk slots : List Val} {st : List (ByteArray × Val)}
theorem Qk{y:Value}(HV:Hid (∃ty,W0.heap[VB]? =some (.cells (vwR v y) ty (0,0))))(HY:Hid (bR w y v.years))(hv:v.ok=true)(hr:fP v)(ho:x.op=2)(ha:0<=x.a/\x.a<11):uR w W0 base Bl CB VB XB i x sl v vi vs vK vS stk slots st:=by
 intro H0 HX HCB HS
 intros
 rename_i Q hpan hQ hR
 obtain⟨k,hk⟩:∃k:Nat,x.a=(k:Int):=⟨x.a.toNat,by omega⟩;have hk11:k<11:=by omega
 have hkt:x.a.toNat=k:=by omega
 have hne:bE (bC k).toList≠0:=Co hk11
 have hsz:dJ v (bC k)=some (fK v k):=by
  unfold fK dJ;rw [if_neg (by simp [hne,hv])];rfl
 have HT:Hid (aN sl v x i stk slots st= .inl (i+1,stk++[fK v k],slots,st)):=yq (by unfold aN;rw [hkt];simp [ho])
 have HIN:Hid (∀W,W0.Grows W->Calls prog 68 #[vwV v y,.string (bC k)] W fun e w'=>e= .returned (.tuple #[.agg #[.int .i64 (fK v k).dim,.bool (fK v k).yes,.int .i64 (fK v k).n,.int .i64 (fK v k).d],.bool true])/\W.Grows w'):=yq (fun W hg=>by
  have:=Cn v y (bC k) W hr (HY.out.grows (H0.out.gr.trans' hg)) hne hv;rw [hsz]at this
  exact this)
 have hx:∀w,(Instr.index 136 (.agg oM) (.int .i64 x.a)).run prog w= .ok (.string (bC k)) w:=by rw [hk];exact PG k hk11
 obtain⟨tyv,hvb⟩:=HV.out;unfold vwV at HIN;unfold vwR at hvb;have u0:=cell_of_row W0 _ 0 _ _ _ hvb;have u1:=cell_of_row W0 _ 1 _ _ _ hvb;have u2:=cell_of_row W0 _ 2 _ _ _ hvb;have u3:=cell_of_row W0 _ 3 _ _ _ hvb;have u4:=cell_of_row W0 _ 4 _ _ _ hvb;have u5:=cell_of_row W0 _ 5 _ _ _ hvb;have u6:=cell_of_row W0 _ 6 _ _ _ hvb;have u7:=cell_of_row W0 _ 7 _ _ _ hvb;have u8:=cell_of_row W0 _ 8 _ _ _ hvb;have u9:=cell_of_row W0 _ 9 _ _ _ hvb;have u10:=cell_of_row W0 _ 10 _ _ _ hvb;have u11:=cell_of_row W0 _ 11 _ _ _ hvb;have u12:=cell_of_row W0 _ 12 _ _ _ hvb;have hVB:=(Array.getElem?_eq_some_iff.1 hvb).1;clear hvb hne hsz hkt hk hk11 ha hr hv;generalize fK v k=z at *;generalize bC k=nm at *;have q1:(x.op==1)=false:=by simp;omega
 have q2:(x.op==2)=true:=by simpa using ho
 have q3:(x.op==3)=false:=by simp;omega
 have q4:(x.op==4)=false:=by simp;omega
 have q5:(x.op==5)=false:=by simp;omega
 have q23:(x.op==23)=false:=by simp;omega
 have q24:(x.op==24)=false:=by simp;omega
 have q21:(x.op==21)=false:=by simp;omega
 have q22:(x.op==22)=false:=by simp;omega
 clear ho;obtain⟨i1,hi1,hz11,hz21,hz31⟩:=info_parts dV;obtain⟨ty,hxb⟩:=HX.out;have v0:=cell_of_row W0 _ 0 _ _ _ hxb;have v1:=cell_of_row W0 _ 1 _ _ _ hxb;have v2:=cell_of_row W0 _ 2 _ _ _ hxb;have v3:=cell_of_row W0 _ 3 _ _ _ hxb;have hXB:=(Array.getElem?_eq_some_iff.1 hxb).1;have HXB:=yq hXB;clear hxb
 conv=>arg 2;whnf
 go_upto_region 23 with fail
 refine TS.begin [11] (World.Grows W0) zd zd aj (fun hS=>?_);refine kq 0 hS ?_;refine kq 2 hS ?_;refine kq 3 hS ?_;refine TS.two (i:=1) (k:=9) zd rfl rfl (fun K1 hK1=>?_) (fun K1 hK1=>?_)
 ·have HK1:=yq hK1;clear hK1 hS;dsimp only [getElem_toArray,getElem_cons_succ,getElem_cons_zero]
  go_simp
  go_at_call 69
  refine gvq (jJ _) ?_;intro b1 d1;refine TS.go HK1.out af (fun hS=>?_);clear HK1 K1
  (try simp only [nS])
  refine kq 4 hS ?_;refine TS.two (i:=5) (k:=9) zd rfl rfl (fun K1 hK1=>?_) (fun K1 hK1=>?_)
  focus
   have HK1:=yq hK1;clear hK1 hS;dsimp only [getElem_toArray,getElem_cons_succ,getElem_cons_zero]
   go_simp
   go_at_call 68
   refine gvq (HIN.out _ af) ?_;intro b2 d2;refine TS.go HK1.out af (fun hS=>?_);clear HK1 K1
   (try simp only [nS])
   refine kq 6 hS ?_;refine kq 7 hS ?_;refine kq 8 hS ?_;refine TS.one (i:=9) zd rfl (fun K1 hK1=>?_);have HK1:=yq hK1;clear hK1 hS;dsimp only [getElem_toArray,getElem_cons_succ,getElem_cons_zero]
   go_simp
   refine TS.go HK1.out af (fun hS=>?_);clear HK1 K1
   (try simp only [nS])
  rotate_left
  focus
   have HK1:=yq hK1;clear hK1 hS;dsimp only [getElem_toArray,getElem_cons_succ,getElem_cons_zero]
   go_simp
   refine TS.go HK1.out af (fun hS=>?_);clear HK1 K1
   (try simp only [nS])
   refine TS.one (i:=5) zd rfl (fun K1 hK1=>?_);have HK1:=yq hK1;clear hK1 hS;dsimp only [getElem_toArray,getElem_cons_succ,getElem_cons_zero]
   go_simp
   go_at_call 68
   refine gvq (HIN.out _ af) ?_;intro b2 d2;refine TS.go HK1.out af (fun hS=>?_);clear HK1 K1
   (try simp only [nS])
   refine kq 6 hS ?_;refine kq 7 hS ?_;refine kq 8 hS ?_
  rotate_left
  all_goals
   exact RP
 ·have HK1:=yq hK1;clear hK1 hS;dsimp only [getElem_toArray,getElem_cons_succ,getElem_cons_zero]
  go_simp
  refine TS.go HK1.out af (fun hS=>?_);clear HK1 K1
  (try simp only [nS])
  refine TS.one (i:=1) zd rfl (fun K1 hK1=>?_);have HK1:=yq hK1;clear hK1 hS;dsimp only [getElem_toArray,getElem_cons_succ,getElem_cons_zero]
  go_simp
  go_at_call 69
  refine gvq (jJ _) ?_;intro b1 d1;refine TS.go HK1.out af (fun hS=>?_);clear HK1 K1
  (try simp only [nS])
  refine kq 4 hS ?_;refine TS.one (i:=5) zd rfl (fun K1 hK1=>?_);have HK1:=yq hK1;clear hK1 hS;dsimp only [getElem_toArray,getElem_cons_succ,getElem_cons_zero]
  go_simp
  go_at_call 68
  refine gvq (HIN.out _ af) ?_;intro b2 d2;refine TS.go HK1.out af (fun hS=>?_);clear HK1 K1
  (try simp only [nS])
  refine kq 6 hS ?_;refine kq 7 hS ?_;refine kq 8 hS ?_;exact RP
theorem pK(op:Int)(w:World):Calls prog 60 #[.int .i64 op] w fun e w'=>e= .returned (.int .i64 (opF op))/\w=w':=by
 by_cases h6:op=6
 ·subst h6;exact DU
 have b6:(op==6)=false:=by simpa using h6
 by_cases h7:op=7
 ·subst h7;exact DU
 have b7:(op==7)=false:=by simpa using h7
 by_cases h8:op=8
 ·subst h8;exact DU
 have b8:(op==8)=false:=by simpa using h8
 by_cases h9:9<=op/\op<=18
 ·have e:opF op=op-2:=by unfold opF;rw [if_neg h6,if_neg h7,if_neg h8,if_pos h9]
  rw [e];obtain⟨ha,hb⟩:=h9;clear e h6 h7 h8
  go_enter func60,ntmps60
  go_wp2_with fail
  go_returns
  exact⟨by
   simp;omega,rfl⟩
 by_cases h19:op=19
 ·subst h19;exact DU
 have b19:(op==19)=false:=by simpa using h19
 by_cases h20:op=20
 ·subst h20;exact DU
 have b20:(op==20)=false:=by simpa using h20
 have e:opF op=0:=by unfold opF;rw [if_neg h6,if_neg h7,if_neg h8,if_neg h9,if_neg h19,if_neg h20]
 rw [e];have hr:op<9\/18<op:=by omega
 clear e h6 h7 h8 h9 h19 h20;rcases hr with hr|hr
 ·exact DU
 ·exact DU
def II(a:Int):Int:=if 0<=a/\a<11 then jC.getD a.toNat 0 else 0
def LC(a:Int)(w:World)(e:Ending)(w':World):Prop:=e= .returned (.tuple #[.int .i64 (II a),.bool (decide (0<=a/\a<11))])/\w.Grows w'
theorem oL(a:Int)(w:World):Calls prog 113 #[.int .i64 a] w (LC a w):=by
 by_cases h0:a<0
 ·exact RU
 by_cases h11:11<=a
 ·exact RU
 obtain⟨k,rfl⟩:∃k:Nat,a=(k:Int):=⟨a.toNat,by omega⟩;have hk:k<11:=by omega
 have hd:=wG hk;have HI:=yq (fun w=>iI (bC k) w);have hne:bE (bC k).toList≠0:=by rw [hd];have:=tC hk;omega
 rw [decide_eq_true hne,hd]at HI
 have hc:(w.alloc (.cells oM 9)).cell? ⟨w.heap.size,k,none⟩=some (.string (bC k)):=by
  rw [cell_of_row _ _ _ _ _ _ (heap_alloc_new w _)];exact lW k hk
 have HP:Hid (∀w',w.Grows w'->LC (k:Int) w (.returned (.tuple #[.int .i64 (jC.getD k 0),.bool true])) w'):=yq (fun w' hg=>⟨by unfold II;rw [if_pos zb,decide_eq_true zb];simp,hg⟩);clear hd hne h0 h11;obtain⟨s,hs⟩:∃s,bC k=s:=⟨_,rfl⟩;rw [hs]at hc HI;obtain⟨z,hz⟩:∃z,jC.getD k 0=z:=⟨_,rfl⟩;rw [hz]at HI HP;clear hs hz;have d1:(k:Int)<11:=by omega
 go_enter func113,ntmps113
 go_wp2_with (first
  |(go_at_call 58;refine gw (iH _) ?_)
  |(go_at_call 45;refine gw (HI.out _) ?_))
 go_returns
 exact HP.out _ af
theorem Rb{m N i:Nat}{op a n d:Int}(h1:op≠1):wfF m N i ⟨op,a,n,d⟩=(wfF m N i ⟨op,a,0,0⟩&&decide (n=0/\d=0)):=by
 by_cases h:n=0/\d=0
 ·obtain⟨rfl,rfl⟩:=h;rw [show decide ((0:Int)=0/\(0:Int)=0)=true from rfl,Bool.and_true]
 ·rw [decide_eq_false h,Bool.and_false];unfold wfF;rw [if_neg h1,if_pos h]
theorem BK(l:List Ins)(sl:List ByteArray)(vi vs:Value)(i:Nat)(w:World)(hI:ig w vi l)(hS:kJ w vs sl)(hi:i<l.length) :
 Calls prog 54 #[.agg #[vi,vs],.int .i64 i] w fun e w'=>e= .returned (.bool (wfF sl.length l.length i (l.getD i default)))/\w.Grows w':=by
 obtain⟨hl6,ai,ci,rfl,hx⟩:=hI;obtain⟨hs6,-,as',cs',-,rfl,-⟩:=hS;rcases hx with h0|⟨b,off,rfl,hb,hx⟩
 ·omega
 obtain⟨⟨hn,hd⟩,x0,x1,x2,x3⟩:=hx i hi;have d1:(i:Int)<(l.length:Int):=by omega
 generalize l.getD i default=x at *;obtain⟨op,a,n,d⟩:=x;dsimp only at *;have HV:=yq (fun w=>bP n d w hn.1 hn.2 hd.1 hd.2);have HD:=yq (fun w=>oL a w);have HO:Hid True:=yq trivial;unfold LC at HD;clear hx hi;generalize sl.length=m at *;generalize l.length=N at *;by_cases h1:op=1
 ·subst h1;clear hn hd;by_cases ha:2<=a
  ·by_cases hb4:a<=4
   focus
    have HW:Hid (wfF m N i ⟨1,a,n,d⟩=az n d):=yq (by unfold wfF;rw [if_pos rfl,decide_eq_true (show a=2\/a=3\/a=4 by omega)];rfl);obtain⟨vf,hvf⟩:∃vf,az n d=vf:=⟨_,rfl⟩;rw [hvf]at HV HW;clear hvf
   rotate_left
   focus
    have HW:Hid (wfF m N i ⟨1,a,n,d⟩=false):=yq xB
   rotate_left
   all_goals
    rcases(by omega:(n=0/\d=0)\/(n=0/\d≠0)\/n≠0)with ⟨rfl,rfl⟩|⟨rfl,hd0⟩|hn0
    focus
     go_enter func54,ntmps54
    rotate_left
    focus
     have hd1:(d==0)=false:=by simpa using hd0
     clear hd0
     go_enter func54,ntmps54
    rotate_left
    focus
     have hn1:(n==0)=false:=by simpa using hn0
     clear hn0
     go_enter func54,ntmps54
    rotate_left
    all_goals
     go_wp2_with (first
      |(go_at_call 97;refine gvq (HV.out _) ?_;intro bs d')
      |(go_at_call 113;refine gvq (HD.out _) ?_;intro bs d')
      |(go_at_call 60;refine gw (HO.out _) ?_))
     go_returns
     exact⟨by first|(rw [HW.out];first|rfl|(simp [*];done)|(simp;done))|rfl|(simp [*];done),af⟩
  ·have HW:Hid (wfF m N i ⟨1,a,n,d⟩=false):=yq xB;rcases(by omega:(n=0/\d=0)\/(n=0/\d≠0)\/n≠0)with ⟨rfl,rfl⟩|⟨rfl,hd0⟩|hn0
   focus
    go_enter func54,ntmps54
   rotate_left
   focus
    have hd1:(d==0)=false:=by simpa using hd0
    clear hd0
    go_enter func54,ntmps54
   rotate_left
   focus
    have hn1:(n==0)=false:=by simpa using hn0
    clear hn0
    go_enter func54,ntmps54
   rotate_left
   all_goals
    go_wp2_with (first
     |(go_at_call 97;refine gvq (HV.out _) ?_;intro bs d')
     |(go_at_call 113;refine gvq (HD.out _) ?_;intro bs d')
     |(go_at_call 60;refine gw (HO.out _) ?_))
    go_returns
    exact⟨by first|(rw [HW.out];first|rfl|(simp [*];done)|(simp;done))|rfl|(simp [*];done),af⟩
 have b1:(op==1)=false:=by simpa using h1
 rw [Rb h1];obtain⟨z,hz⟩:∃z,decide (n=0/\d=0)=z:=⟨_,rfl⟩;rw [hz]
 have hzz:(z=true/\n=0/\d=0)\/(z=false/\n=0/\d≠0)\/(z=false/\n≠0):=by
  by_cases c:n=0/\d=0
  ·rw [decide_eq_true c]at hz;exact .inl ⟨hz.symm,c⟩
  ·rw [decide_eq_false c]at hz;by_cases c1:n=0
   ·exact .inr (.inl ⟨hz.symm,c1,fun e=>c ⟨c1,e⟩⟩)
   ·exact .inr (.inr ⟨hz.symm,c1⟩)
 clear hn hd HV hz;have HV:Hid True:=yq trivial;by_cases h2:op=2
 ·subst h2;have HW:Hid (wfF m N i ⟨2,a,0,0⟩=decide (0<=a/\a<11)):=yq rfl;by_cases ha:0<=a/\a<11
  focus
   rw [decide_eq_true ha]at HW HD
  rotate_left
  focus
   rw [decide_eq_false ha]at HW HD
  rotate_left
  all_goals
   generalize II a=q at *;rcases hzz with ⟨rfl,rfl,rfl⟩|⟨rfl,rfl,hd0⟩|⟨rfl,hn0⟩
   focus
    go_enter func54,ntmps54
   rotate_left
   focus
    have hd1:(d==0)=false:=by simpa using hd0
    clear hd0
    go_enter func54,ntmps54
   rotate_left
   focus
    have hn1:(n==0)=false:=by simpa using hn0
    clear hn0
    go_enter func54,ntmps54
   rotate_left
   all_goals
    go_wp2_with (first
     |(go_at_call 97;refine gvq (HV.out _) ?_;intro bs d')
     |(go_at_call 113;refine gvq (HD.out _) ?_;intro bs d')
     |(go_at_call 60;refine gw (HO.out _) ?_))
    go_returns
    exact⟨by first|(rw [HW.out];first|rfl|(simp [*];done)|(simp;done))|rfl|(simp [*];done),af⟩
 have b2:(op==2)=false:=by simpa using h2
 by_cases h3:op=3\/op=4
 ·have HW:Hid (wfF m N i ⟨op,a,0,0⟩=decide (0<=a/\a<m)):=yq xE;by_cases ha:0<=a
  ·by_cases hm:a<m
   focus
    rw [decide_eq_true ⟨ha,hm⟩]at HW
   rotate_left
   focus
    rw [decide_eq_false (fun h=>hm h.2)]at HW
   rotate_left
   all_goals
    rcases h3 with rfl|rfl
    ·rcases hzz with ⟨rfl,rfl,rfl⟩|⟨rfl,rfl,hd0⟩|⟨rfl,hn0⟩
     focus
      go_enter func54,ntmps54
     rotate_left
     focus
      have hd1:(d==0)=false:=by simpa using hd0
      clear hd0
      go_enter func54,ntmps54
     rotate_left
     focus
      have hn1:(n==0)=false:=by simpa using hn0
      clear hn0
      go_enter func54,ntmps54
     rotate_left
     all_goals
      go_wp2_with (first
       |(go_at_call 97;refine gvq (HV.out _) ?_;intro bs d')
       |(go_at_call 113;refine gvq (HD.out _) ?_;intro bs d')
       |(go_at_call 60;refine gw (HO.out _) ?_))
      go_returns
      exact⟨by first|(rw [HW.out];first|rfl|(simp [*];done)|(simp;done))|rfl|(simp [*];done),af⟩
    ·rcases hzz with ⟨rfl,rfl,rfl⟩|⟨rfl,rfl,hd0⟩|⟨rfl,hn0⟩
     focus
      go_enter func54,ntmps54
     rotate_left
     focus
      have hd1:(d==0)=false:=by simpa using hd0
      clear hd0
      go_enter func54,ntmps54
     rotate_left
     focus
      have hn1:(n==0)=false:=by simpa using hn0
      clear hn0
      go_enter func54,ntmps54
     rotate_left
     all_goals
      go_wp2_with (first
       |(go_at_call 97;refine gvq (HV.out _) ?_;intro bs d')
       |(go_at_call 113;refine gvq (HD.out _) ?_;intro bs d')
       |(go_at_call 60;refine gw (HO.out _) ?_))
      go_returns
      exact⟨by first|(rw [HW.out];first|rfl|(simp [*];done)|(simp;done))|rfl|(simp [*];done),af⟩
  ·rw [decide_eq_false (fun h=>ha h.1)]at HW;rcases h3 with rfl|rfl
   ·rcases hzz with ⟨rfl,rfl,rfl⟩|⟨rfl,rfl,hd0⟩|⟨rfl,hn0⟩
    focus
     go_enter func54,ntmps54
    rotate_left
    focus
     have hd1:(d==0)=false:=by simpa using hd0
     clear hd0
     go_enter func54,ntmps54
    rotate_left
    focus
     have hn1:(n==0)=false:=by simpa using hn0
     clear hn0
     go_enter func54,ntmps54
    rotate_left
    all_goals
     go_wp2_with (first
      |(go_at_call 97;refine gvq (HV.out _) ?_;intro bs d')
      |(go_at_call 113;refine gvq (HD.out _) ?_;intro bs d')
      |(go_at_call 60;refine gw (HO.out _) ?_))
     go_returns
     exact⟨by first|(rw [HW.out];first|rfl|(simp [*];done)|(simp;done))|rfl|(simp [*];done),af⟩
   ·rcases hzz with ⟨rfl,rfl,rfl⟩|⟨rfl,rfl,hd0⟩|⟨rfl,hn0⟩
    focus
     go_enter func54,ntmps54
    rotate_left
    focus
     have hd1:(d==0)=false:=by simpa using hd0
     clear hd0
     go_enter func54,ntmps54
    rotate_left
    focus
     have hn1:(n==0)=false:=by simpa using hn0
     clear hn0
     go_enter func54,ntmps54
    rotate_left
    all_goals
     go_wp2_with (first
      |(go_at_call 97;refine gvq (HV.out _) ?_;intro bs d')
      |(go_at_call 113;refine gvq (HD.out _) ?_;intro bs d')
      |(go_at_call 60;refine gw (HO.out _) ?_))
     go_returns
     exact⟨by first|(rw [HW.out];first|rfl|(simp [*];done)|(simp;done))|rfl|(simp [*];done),af⟩
 have b3:(op==3)=false:=by simp;omega
 have b4:(op==4)=false:=by simp;omega
 by_cases h5:op=5
 ·subst h5;have HW:Hid (wfF m N i ⟨5,a,0,0⟩=decide (1<=a/\a<=45)):=yq rfl;by_cases ha:1<=a
  ·by_cases hm:a<=45
   focus
    rw [decide_eq_true ⟨ha,hm⟩]at HW
   rotate_left
   focus
    rw [decide_eq_false (fun h=>hm h.2)]at HW
   rotate_left
   all_goals
    rcases hzz with ⟨rfl,rfl,rfl⟩|⟨rfl,rfl,hd0⟩|⟨rfl,hn0⟩
    focus
     go_enter func54,ntmps54
    rotate_left
    focus
     have hd1:(d==0)=false:=by simpa using hd0
     clear hd0
     go_enter func54,ntmps54
    rotate_left
    focus
     have hn1:(n==0)=false:=by simpa using hn0
     clear hn0
     go_enter func54,ntmps54
    rotate_left
    all_goals
     go_wp2_with (first
      |(go_at_call 97;refine gvq (HV.out _) ?_;intro bs d')
      |(go_at_call 113;refine gvq (HD.out _) ?_;intro bs d')
      |(go_at_call 60;refine gw (HO.out _) ?_))
     go_returns
     exact⟨by first|(rw [HW.out];first|rfl|(simp [*];done)|(simp;done))|rfl|(simp [*];done),af⟩
  ·rw [decide_eq_false (fun h=>ha h.1)]at HW;rcases hzz with ⟨rfl,rfl,rfl⟩|⟨rfl,rfl,hd0⟩|⟨rfl,hn0⟩
   focus
    go_enter func54,ntmps54
   rotate_left
   focus
    have hd1:(d==0)=false:=by simpa using hd0
    clear hd0
    go_enter func54,ntmps54
   rotate_left
   focus
    have hn1:(n==0)=false:=by simpa using hn0
    clear hn0
    go_enter func54,ntmps54
   rotate_left
   all_goals
    go_wp2_with (first
     |(go_at_call 97;refine gvq (HV.out _) ?_;intro bs d')
     |(go_at_call 113;refine gvq (HD.out _) ?_;intro bs d')
     |(go_at_call 60;refine gw (HO.out _) ?_))
    go_returns
    exact⟨by first|(rw [HW.out];first|rfl|(simp [*];done)|(simp;done))|rfl|(simp [*];done),af⟩
 have b5:(op==5)=false:=by simpa using h5
 by_cases h21:op=21\/op=22
 ·have HW:Hid (wfF m N i ⟨op,a,0,0⟩=decide ((i:Int)<a/\a<=N)):=yq xw;by_cases ha:(i:Int)<a
  ·by_cases hm:a<=N
   focus
    rw [decide_eq_true ⟨ha,hm⟩]at HW
   rotate_left
   focus
    rw [decide_eq_false (fun h=>hm h.2)]at HW
   rotate_left
   all_goals
    rcases h21 with rfl|rfl
    ·rcases hzz with ⟨rfl,rfl,rfl⟩|⟨rfl,rfl,hd0⟩|⟨rfl,hn0⟩
     focus
      go_enter func54,ntmps54
     rotate_left
     focus
      have hd1:(d==0)=false:=by simpa using hd0
      clear hd0
      go_enter func54,ntmps54
     rotate_left
     focus
      have hn1:(n==0)=false:=by simpa using hn0
      clear hn0
      go_enter func54,ntmps54
     rotate_left
     all_goals
      go_wp2_with (first
       |(go_at_call 97;refine gvq (HV.out _) ?_;intro bs d')
       |(go_at_call 113;refine gvq (HD.out _) ?_;intro bs d')
       |(go_at_call 60;refine gw (HO.out _) ?_))
      go_returns
      exact⟨by first|(rw [HW.out];first|rfl|(simp [*];done)|(simp;done))|rfl|(simp [*];done),af⟩
    ·rcases hzz with ⟨rfl,rfl,rfl⟩|⟨rfl,rfl,hd0⟩|⟨rfl,hn0⟩
     focus
      go_enter func54,ntmps54
     rotate_left
     focus
      have hd1:(d==0)=false:=by simpa using hd0
      clear hd0
      go_enter func54,ntmps54
     rotate_left
     focus
      have hn1:(n==0)=false:=by simpa using hn0
      clear hn0
      go_enter func54,ntmps54
     rotate_left
     all_goals
      go_wp2_with (first
       |(go_at_call 97;refine gvq (HV.out _) ?_;intro bs d')
       |(go_at_call 113;refine gvq (HD.out _) ?_;intro bs d')
       |(go_at_call 60;refine gw (HO.out _) ?_))
      go_returns
      exact⟨by first|(rw [HW.out];first|rfl|(simp [*];done)|(simp;done))|rfl|(simp [*];done),af⟩
  ·rw [decide_eq_false (fun h=>ha h.1)]at HW;rcases h21 with rfl|rfl
   ·rcases hzz with ⟨rfl,rfl,rfl⟩|⟨rfl,rfl,hd0⟩|⟨rfl,hn0⟩
    focus
     go_enter func54,ntmps54
    rotate_left
    focus
     have hd1:(d==0)=false:=by simpa using hd0
     clear hd0
     go_enter func54,ntmps54
    rotate_left
    focus
     have hn1:(n==0)=false:=by simpa using hn0
     clear hn0
     go_enter func54,ntmps54
    rotate_left
    all_goals
     go_wp2_with (first
      |(go_at_call 97;refine gvq (HV.out _) ?_;intro bs d')
      |(go_at_call 113;refine gvq (HD.out _) ?_;intro bs d')
      |(go_at_call 60;refine gw (HO.out _) ?_))
     go_returns
     exact⟨by first|(rw [HW.out];first|rfl|(simp [*];done)|(simp;done))|rfl|(simp [*];done),af⟩
   ·rcases hzz with ⟨rfl,rfl,rfl⟩|⟨rfl,rfl,hd0⟩|⟨rfl,hn0⟩
    focus
     go_enter func54,ntmps54
    rotate_left
    focus
     have hd1:(d==0)=false:=by simpa using hd0
     clear hd0
     go_enter func54,ntmps54
    rotate_left
    focus
     have hn1:(n==0)=false:=by simpa using hn0
     clear hn0
     go_enter func54,ntmps54
    rotate_left
    all_goals
     go_wp2_with (first
      |(go_at_call 97;refine gvq (HV.out _) ?_;intro bs d')
      |(go_at_call 113;refine gvq (HD.out _) ?_;intro bs d')
      |(go_at_call 60;refine gw (HO.out _) ?_))
     go_returns
     exact⟨by first|(rw [HW.out];first|rfl|(simp [*];done)|(simp;done))|rfl|(simp [*];done),af⟩
 have b21:(op==21)=false:=by simp;omega
 have b22:(op==22)=false:=by simp;omega
 by_cases h23:op=23\/op=24
 ·have HW:Hid (wfF m N i ⟨op,a,0,0⟩=decide (a=0)):=yq xt;by_cases ha:a=0
  focus
   rw [decide_eq_true ha]at HW;subst ha
  rotate_left
  focus
   rw [decide_eq_false ha]at HW;have a0:(a==0)=false:=by simpa using ha
  rotate_left
  all_goals
   rcases h23 with rfl|rfl
   ·rcases hzz with ⟨rfl,rfl,rfl⟩|⟨rfl,rfl,hd0⟩|⟨rfl,hn0⟩
    focus
     go_enter func54,ntmps54
    rotate_left
    focus
     have hd1:(d==0)=false:=by simpa using hd0
     clear hd0
     go_enter func54,ntmps54
    rotate_left
    focus
     have hn1:(n==0)=false:=by simpa using hn0
     clear hn0
     go_enter func54,ntmps54
    rotate_left
    all_goals
     go_wp2_with (first
      |(go_at_call 97;refine gvq (HV.out _) ?_;intro bs d')
      |(go_at_call 113;refine gvq (HD.out _) ?_;intro bs d')
      |(go_at_call 60;refine gw (HO.out _) ?_))
     go_returns
     exact⟨by first|(rw [HW.out];first|rfl|(simp [*];done)|(simp;done))|rfl|(simp [*];done),af⟩
   ·rcases hzz with ⟨rfl,rfl,rfl⟩|⟨rfl,rfl,hd0⟩|⟨rfl,hn0⟩
    focus
     go_enter func54,ntmps54
    rotate_left
    focus
     have hd1:(d==0)=false:=by simpa using hd0
     clear hd0
     go_enter func54,ntmps54
    rotate_left
    focus
     have hn1:(n==0)=false:=by simpa using hn0
     clear hn0
     go_enter func54,ntmps54
    rotate_left
    all_goals
     go_wp2_with (first
      |(go_at_call 97;refine gvq (HV.out _) ?_;intro bs d')
      |(go_at_call 113;refine gvq (HD.out _) ?_;intro bs d')
      |(go_at_call 60;refine gw (HO.out _) ?_))
     go_returns
     exact⟨by first|(rw [HW.out];first|rfl|(simp [*];done)|(simp;done))|rfl|(simp [*];done),af⟩
 have b23:(op==23)=false:=by simp;omega
 have b24:(op==24)=false:=by simp;omega
 have HW:Hid (wfF m N i ⟨op,a,0,0⟩=decide (opF op≠0/\a=0)):=yq xr;clear h1 h2 h3 h5 h21 h23;obtain⟨q,hq⟩:∃q,opF op=q:=⟨_,rfl⟩;have HQ:=yq hq;clear HO;have HO:=yq (fun w=>by have:=pK op w;rw [hq]at this;exact this);rw [hq]at HW;clear hq;by_cases hq0:q=0
 ·subst hq0;rw [decide_eq_false (fun h=>h.1 rfl)]at HW;rcases hzz with ⟨rfl,rfl,rfl⟩|⟨rfl,rfl,hd0⟩|⟨rfl,hn0⟩
  focus
   go_enter func54,ntmps54
  rotate_left
  focus
   have hd1:(d==0)=false:=by simpa using hd0
   clear hd0
   go_enter func54,ntmps54
  rotate_left
  focus
   have hn1:(n==0)=false:=by simpa using hn0
   clear hn0
   go_enter func54,ntmps54
  rotate_left
  all_goals
   go_wp2_with (first
    |(go_at_call 97;refine gvq (HV.out _) ?_;intro bs d')
    |(go_at_call 113;refine gvq (HD.out _) ?_;intro bs d')
    |(go_at_call 60;refine gw (HO.out _) ?_))
   go_returns
   exact⟨by first|(rw [HW.out];first|rfl|(simp [*];done)|(simp;done))|rfl|(simp [*];done),af⟩
 ·have q0:(q !=0)=true:=by simpa using hq0
  by_cases ha:a=0
  focus
   rw [decide_eq_true ⟨hq0,ha⟩]at HW;subst ha;clear hq0
  rotate_left
  focus
   rw [decide_eq_false (fun h=>ha h.2)]at HW;have a0:(a==0)=false:=by simpa using ha
   clear hq0 ha
  rotate_left
  all_goals
   rcases hzz with ⟨rfl,rfl,rfl⟩|⟨rfl,rfl,hd0⟩|⟨rfl,hn0⟩
   focus
    go_enter func54,ntmps54
   rotate_left
   focus
    have hd1:(d==0)=false:=by simpa using hd0
    clear hd0
    go_enter func54,ntmps54
   rotate_left
   focus
    have hn1:(n==0)=false:=by simpa using hn0
    clear hn0
    go_enter func54,ntmps54
   rotate_left
   all_goals
    go_wp2_with (first
     |(go_at_call 97;refine gvq (HV.out _) ?_;intro bs d')
     |(go_at_call 113;refine gvq (HD.out _) ?_;intro bs d')
     |(go_at_call 60;refine gw (HO.out _) ?_))
    go_returns
    exact⟨by first|(rw [HW.out];first|rfl|(simp [*];done)|(simp;done))|rfl|(simp [*];done),af⟩
def Mi(l:List (ByteArray × Int)):List Value:=l.flatMap fun p=>[.string p.1,.int .i64 p.2]
theorem Jg(l:List (ByteArray × Int)):∀i,i<l.length->(Mi l)[i*2]? =some (.string (bdN l i))/\(Mi l)[i*2+1]? =some (.int .i64 (bdD l i)):=by
 induction l with
 |nil=>intro i hi;simp at hi
 |cons p r ih=>
  intro i hi
  cases i with
  |zero=>exact⟨rfl,rfl⟩
  |succ i=>
   obtain⟨h1,h2⟩:=ih i zG;have e1:(i+1)*2=i*2+1+1:=by omega
   have e2:(i+1)*2+1=i*2+1+1+1:=by omega
   rw [e1,show i*2+1+1+1=(i*2+1)+1+1 by omega];exact⟨h1,h2⟩
theorem dx.of_own{w:World}{base:Nat}{v:Value}{l:List (ByteArray × Int)}(h:w.ownsRow base 96 2 v l.length (Mi l))(hl:l.length<=1000):dx w v l:=by
 obtain⟨-,⟨rfl,h0⟩|⟨g,cap,cur,rfl,hb,hg,h2,h3,h4,h5⟩⟩:=id h
 ·exact⟨by omega,none,0,by rw [h0],.inl h0⟩
 ·refine⟨by omega,_,cap,rfl,.inr ⟨g,0,rfl,(Array.getElem?_eq_some_iff.1 hg).1,fun i hi=>?_⟩⟩;obtain⟨g1,g2⟩:=Jg l i hi;rw [Nat.zero_add,h.cellAt (i*2) zb,h.cellAt (i*2+1) zb];exact⟨g1,g2⟩
end Go.Proofs.YteildlpchhlchaaGreatDoor
