import Derived.Test.YtlheailebbngiaaGreatDoorGOf4
set_option linter.all false
set_option maxHeartbeats 16000000
set_option maxRecDepth 1000000
namespace Go.Proofs.YtlheailebbngiaaGreatDoor
open Go.Proofs.Tryz List
open Go.RowKit
theorem Lc(R:df)(w:World)(h1:I64 R.frm)(h2:I64 R.mode)(h3:I64 R.unit)(h4:I64 R.twist)(ca:Option Addr)(sa:Option Addr)(la:Option Addr)(ia:Option Addr)(pa:Option Addr)(ua:Option Addr)(ccap:Nat)(scap:Nat)(lcap:Nat)(icap:Nat)(pcap:Nat)(ucap:Nat)(hcl:R.credits.length<=140737488355328)(hsl:R.series.length<=140737488355328)(hll:R.lets.length<=140737488355328)(hil:R.ifs.length<=140737488355328)(hpl:R.pays.length<=140737488355328)(hul:R.cuts.length<=140737488355328)(HCC:Hid (R.credits.length=0\/∃b off,ca=some ⟨b,off,none⟩/\b<w.heap.size/\∀(i:Nat),i<R.credits.length->w.cell? ⟨b,off+i,none⟩=some (.int .i64 (R.credits.getD i 0))))(HSC:Hid (R.series.length=0\/∃b off,sa=some ⟨b,off,none⟩/\b<w.heap.size/\∀(i:Nat),i<R.series.length->w.cell? ⟨b,off+i,none⟩=some (.int .i64 (R.series.getD i 0))))(HLC:Hid (R.lets.length=0\/∃b off,la=some ⟨b,off,none⟩/\b<w.heap.size/\∀(i:Nat),i<R.lets.length->∃u,w.cell? ⟨b,off+i,none⟩=some u/\ay w u (R.lets.getD i [])))(HIC:Hid (R.ifs.length=0\/∃b off,ia=some ⟨b,off,none⟩/\b<w.heap.size/\∀(i:Nat),i<R.ifs.length->∃u,w.cell? ⟨b,off+i,none⟩=some u/\ay w u (R.ifs.getD i [])))(HPC:Hid (R.pays.length=0\/∃b off,pa=some ⟨b,off,none⟩/\b<w.heap.size/\∀(i:Nat),i<R.pays.length->∃u,w.cell? ⟨b,off+i,none⟩=some u/\ay w u (R.pays.getD i [])))(HUC:Hid (R.cuts.length=0\/∃b off,ua=some ⟨b,off,none⟩/\b<w.heap.size/\∀(i:Nat),i<R.cuts.length->∃u,w.cell? ⟨b,off+i,none⟩=some u/\ay w u (R.cuts.getD i [])))(g:Nat)(wk:Nat)(wc:World)(vcr:Value)(H1:Nat)(hgH1:g<H1)(vse:Value)(H2:Nat)(hgH2:g<H2)(hH12:H1<=H2)(hH2:H2<=wc.heap.size)(HROW1:Hid (bz 129 2 H1 (· <H2) wc vcr (bG R (gY R)) []))(HROW2:Hid (bz 131 3 H2 (· <wc.heap.size) wc vse (bW R (lY R)) []))(HOF1:Hid (dX w (fu R (.slice ca R.credits.length ccap) (.slice sa R.series.length scap) (.slice la R.lets.length lcap) (.slice ia R.ifs.length icap) (.slice pa R.pays.length pcap) (.slice ua R.cuts.length ucap)) g #[.int .i64 (pick R.frm 73049),.int .i64 (pick R.mode 4+1),.int .i64 (aY (pick R.unit 5)),vcr,vse,.slice none 0 0,.slice none 0 0,.slice none 0 0] wc))(hgl1:g<wc.heap.size)(u5 u6 u7 u8 u9 u17 u18 u19 u20 u21 u22 u23 u24 u25 u26 u27 u28 u29 u30 u31 u32 u33 u34 u35 u36 u37 u38 u39 u40 u41 u42 u43 u44 u45 u46 u47 u48 u49 u50 u51 u52 u53 u54 u55 u56 u57 u58 u59 u60 u61 u62 u63 u64 u65 u66 u67 u68 u69 u70 u71 u72 u73 u74 u75 u76 u77 u78 u79 u80 u81 u82 u83 u84 u85 u86 u87 u88 u89 u90 u91 u92 u93 u94 u95 u96 u97 u98 u99 u100 u101 u102 u103 u104 u105 u106 u107 u108 u109 u110 u111 u112 u113 u114 u115 u116 u117 u118 u119 u120 u121 u122 u123 u124 u125 u126 u127 u128 u129 u130 u131 u132 u133 u134 u135 u136 u137 u138 u139 u140 u141 u142 u143 u144 u145 u146 u147 u148 u149 u150 u151 u152 u153 u154 u155 u156 u157 u158 u159 u160 u161 u162 u163 u164 u165 u166 u167 u168 u169 u170 u171 u172 u173 u174 u175 u176 u177 u178 u179 u180 u181 u182 u183 u184 u185 u186 u187 u188 u189 u190 u191 u192 u193 u194 u195 u196 u197 u198 u199 u200 u201 u202 u203 u204 u205 u206 u207 u208 u209 u210 u211 u212 u213 u214 u215 u216 u217 u218 u219 u220 u221 u222 u223 u224 u225 u226 u227 u228 u229 u230 u231 u232 u233 u234 u235 u236 u237 u238 u239:Value) :
 Code.wp prog (tlC (tlC (tlC (tlC (tlC (f36.body.getD .skip)))))) (bodyPost prog f36 (ja R w)) {tmps:=#[(.agg (fu R (.slice ca R.credits.length ccap) (.slice sa R.series.length scap) (.slice la R.lets.length lcap) (.slice ia R.ifs.length icap) (.slice pa R.pays.length pcap) (.slice ua R.cuts.length ucap))),.pointer (some ⟨w.heap.size,0,none⟩),.pointer (some ⟨w.heap.size+1,0,none⟩),.pointer (some ⟨g,0,none⟩),.slice (some ⟨wk,0,none⟩) 6 6,u5,u6,u7,u8,u9,undef,undef,undef,undef,undef,undef,undef,u17,u18,u19,u20,u21,u22,u23,u24,u25,u26,u27,u28,u29,u30,u31,u32,u33,u34,u35,u36,u37,u38,u39,u40,u41,u42,u43,u44,u45,u46,u47,u48,u49,u50,u51,u52,u53,u54,u55,u56,u57,u58,u59,u60,u61,u62,u63,u64,u65,u66,u67,u68,u69,u70,u71,u72,u73,u74,u75,u76,u77,u78,u79,u80,u81,u82,u83,u84,u85,u86,u87,u88,u89,u90,u91,u92,u93,u94,u95,u96,u97,u98,u99,u100,u101,u102,u103,u104,u105,u106,u107,u108,u109,u110,u111,u112,u113,u114,u115,u116,u117,u118,u119,u120,u121,u122,u123,u124,u125,u126,u127,u128,u129,u130,u131,u132,u133,u134,u135,u136,u137,u138,u139,u140,u141,u142,u143,u144,u145,u146,u147,u148,u149,u150,u151,u152,u153,u154,u155,u156,u157,u158,u159,u160,u161,u162,u163,u164,u165,u166,u167,u168,u169,u170,u171,u172,u173,u174,u175,u176,u177,u178,u179,u180,u181,u182,u183,u184,u185,u186,u187,u188,u189,u190,u191,u192,u193,u194,u195,u196,u197,u198,u199,u200,u201,u202,u203,u204,u205,u206,u207,u208,u209,u210,u211,u212,u213,u214,u215,u216,u217,u218,u219,u220,u221,u222,u223,u224,u225,u226,u227,u228,u229,u230,u231,u232,u233,u234,u235,u236,u237,u238,u239],defers:=[]} wc:=by
 obtain⟨i0,hi,hz0,hz1,hz2⟩:=info_parts l8;obtain⟨i1,hj,hj0,hj1,hj2⟩:=info_parts oZ;obtain⟨i2,hq,hq0,hq1,hq2⟩:=info_parts oW;obtain⟨i3,hr,hr0,hr1,hr2⟩:=info_parts l9;obtain⟨i4,ht,ht0,ht1,ht2⟩:=info_parts kH;obtain⟨i5,hv,hv0,hv1,hv2⟩:=info_parts jE
 conv=>arg 2;whnf
 unfold fu
 go_upto_block 4 with fail
 go_cut [10]from 17 (fun vev wx=>∃vle H3 q,dX w (fu R (.slice ca R.credits.length ccap) (.slice sa R.series.length scap) (.slice la R.lets.length lcap) (.slice ia R.ifs.length icap) (.slice pa R.pays.length pcap) (.slice ua R.cuts.length ucap)) g #[.int .i64 (pick R.frm 73049),.int .i64 (pick R.mode 4+1),.int .i64 (aY (pick R.unit 5)),vcr,vse,vle,.slice none 0 0,.slice none 0 0] wx/\bz 129 2 H1 (· <H2) wx vcr (bG R (gY R)) []/\bz 131 3 H2 (· <H3) wx vse (bW R (lY R)) []/\(g<H3/\H2<=H3/\H3<=wx.heap.size)/\bX 84 7 H3 wx vle (fP q) (q.map (·.2))/\bX 64 2 H3 wx vev (jG (fE R (fO R))) []/\qO R (fO R) q)
 case first=>
  go_wp2_with fail
  go_loopw [10,11] (fun v10 v11 wr=>∃k:Nat,∃vle:Value,∃q:List (ByteArray × (Ex × Value)),k<=R.lets.length/\k<=5/\v11= .int .i64 k/\dX w (fu R (.slice ca R.credits.length ccap) (.slice sa R.series.length scap) (.slice la R.lets.length lcap) (.slice ia R.ifs.length icap) (.slice pa R.pays.length pcap) (.slice ua R.cuts.length ucap)) g #[.int .i64 (pick R.frm 73049),.int .i64 (pick R.mode 4+1),.int .i64 (aY (pick R.unit 5)),vcr,vse,vle,.slice none 0 0,.slice none 0 0] wr/\Next g wc wr/\bz 84 7 wc.heap.size (fun b=>v10.ownBlock≠some b) wr vle (fP q) (q.map (·.2))/\bX 64 2 wc.heap.size wr v10 (jG (fE R k)) []/\qO R k q) (fun _ v11 _=>5-(intOf v11).toNat)
  case atStart=>exact⟨0,_,[],by omega,by omega,rfl,HOF1.out,.refl _ _,.nil _ _ _ _ _,.nil _ _ _ _,.nil R⟩
  case round=>
   obtain⟨k,vle,q,hk,hk5,rfl,hof,hnx,hlr,her,hlq⟩:=hrel;have hbx:wr.cell? ⟨w.heap.size,5,none⟩=some (.slice la R.lets.length lcap):=cell_of_row _ _ _ _ _ _ hof.box;have hoc:wr.cell? ⟨g,5,none⟩=some vle:=cell_of_row _ _ _ _ _ _ hof.out;have hl0:=hof.lt0;have hl1:w.heap.size<wr.heap.size:=by omega
   have hl2:=hof.lt;have hl3:=hnx.size;have HNX:=zh hnx;have HOFR:=zh hof;have HL:=zh hlr;have HE:=zh her;have HQ:=zh hlq;have HLL:=zh (show(fP q).length=k by unfold fP;rw [length_map];exact hlq.length);have HEL:=zh (show(jG (fE R k)).length=k by unfold jG;rw [length_map];exact mi R k);obtain⟨aa,acap,rfl⟩:=hlr.form;obtain⟨ea,ecap,hev⟩:=her.form;subst hev;clear hof hnx hlr her hl0 hlq;by_cases hlt:k<R.lets.length
   ·by_cases hlt5:k<5
    ·rcases HLC.out with h0|⟨b,off,rfl,hb,hx⟩
     ·omega
     ·obtain⟨u,hxk,hxi⟩:=hx k hlt;have hkb:b<wr.heap.size:=by omega
      have hyk:wr.cell? ⟨b,off+k,none⟩=some u:=by rw [HOFR.out.bel.cell (by exact hb)];exact hxk
      have HXI:=zh hxi;obtain⟨za,zcap,rfl⟩:=ay.form hxi;have HXK:=zh hxk;clear hxk hx hxi;have d1:(k:Int)<(R.lets.length:Int):=by omega
      have d2:(k:Int)<5:=by omega
      have HSD:Hid (Gl R k=1+(((R.lets.getD k []).length % 4:Nat):Int)):=zh rfl;have HSE:Hid (nO R k=lJ (R.lets.getD k []) (fE R k) (Gl R k)):=zh rfl;have HSF:=zh (GQ R k);generalize hzk:R.lets.getD k []=zk at *;clear hzk;have hzl:zk.length<=140737488355328:=HXI.out.1;have hm4:(zk.length:Int) % 4=((zk.length % 4:Nat):Int):=by omega
      have HM4:=zh hm4;clear hm4;have hD:Gl R k=1+(zk.length:Int) % 4:=by rw [HSD.out];have:=HM4.out;omega
      have HD:=zh hD;have HEE:Hid (lJ zk (fE R k) (1+(zk.length:Int) % 4)=nO R k):=zh (by rw [HSE.out,HD.out]);have hdb1:1<=1+(zk.length:Int) % 4:=by omega
      have hdb4:1+(zk.length:Int) % 4<=4:=by omega
      have hevb:=HE.out.lt;have HEVB:=zh hevb;have hleb:=HL.out.lt;have HLEB:=zh hleb;have HLX:=zh HL.out.ownX;clear hD hevb hleb
      go_upto_region 20 with fail
      refine TG.begin 16 (fun w'=>w'.cell? ⟨g,5,none⟩=some (.slice aa (fP q).length acap)/\w'.cell? ⟨w.heap.size,5,none⟩=some (.slice (some ⟨b,off,none⟩) R.lets.length lcap)/\w'.cell? ⟨b,off+k,none⟩=some (.slice za zk.length zcap)) zf zf ?_ (fun hS=>?_);focus(refine⟨?_, ?_, ?_⟩<;>simp [go_sem,hoc,hbx,hyk,hl1,hl2,hkb])
      refine TG.tkB 0 hS ?_;refine TG.tkB 1 hS ?_;refine TG.tkB 2 hS ?_;refine TG.tkB 4 hS ?_;refine TG.tkB 5 hS ?_;refine TG.tkB 6 hS ?_;refine TG.tkB 7 hS ?_;refine TG.tkB 8 hS ?_;refine TG.tkB 9 hS ?_;refine TG.tkB 10 hS ?_;refine TG.one (i:=3) zf rfl (fun K1 hK1=>?_)
      go_simp
      go_at_call 72
      refine(qX k _ hlt5).mono ?_;rintro e' w' ⟨rfl,bs1,dr1,rfl⟩
      (try simp only [World.drew_grow])
      refine TG.go hK1 ?_ (fun hS=>?_)
      focus
       (try dsimp only)
       (refine⟨?_, ?_, ?_⟩<;>simp [go_sem,hoc,hbx,hyk,hl1,hl2,hkb])
      clear hK1 K1
      (try simp only [nS])
      refine TG.one (i:=11) zf rfl (fun K1 hK1=>?_)
      go_simp
      go_at_call 27
      refine(jm _ _ zk (fE R k) _ (nO R k) (wr.grow bs1 dr1) (aI.of_ints HXI.out (HOFR.out.grow _ _).bel) (bf.of_row (HE.out.grow _ _) (by rw [mi];omega) (jk R k)) hdb1 hdb4 HEE).mono ?_;rintro e' w' ⟨v,rfl,⟨bs2,dr2,rfl⟩,hrep⟩;have H1:=zh ((hrep.eqw (w':=wr.grow (bs1++bs2) dr2) zg).mono (S':=fun b=>wr.heap.size+bs1.size<=b) (fun b hb=>by simpa using hb));have HV:=zh hrep.one;clear hrep
      (try simp only [World.grow_grow])
      refine TG.go hK1 ?_ (fun hS=>?_)
      focus
       (try dsimp only)
       (refine⟨?_, ?_, ?_⟩<;>simp [go_sem,hoc,hbx,hyk,hl1,hl2,hkb])
      clear hK1 K1
      (try simp only [nS])
      refine TG.tkB 12 hS ?_;refine TG.one (i:=13) zf rfl (fun K1 hK1=>?_)
      go_simp
      refine TG.go hK1 ?_ (fun hS=>?_)
      focus
       (try dsimp only)
       (refine⟨?_, ?_, ?_⟩<;>simp [go_sem,hoc,hbx,hyk,hl1,hl2,hkb])
      clear hK1 K1
      (try simp only [nS])
      refine TG.one (i:=14) zf rfl (fun K1 hK1=>?_);refine step_append_lies _ rfl _ _ 77 rfl wc.heap.size 84 i2 _ 7 88 underlying77 hq hq0 hq1 hq2 rfl zo _ _ _ rfl ((HL.out.grow (bs1++bs2) dr2).alloc (.cells (.string (il k)::bL (nO R k) v).toArray 84)).own ⟨wr.heap.size+(bs1.size+bs2.size),0,none⟩ 1 1 (.string (il k)::bL (nO R k) v) rfl rfl ?_ ?_ zo ?_ ?_ ?_ (wr.heap.size+(bs1.size+bs2.size)+1) zg ?_;focus exact fun j u hu=>aR _ (.string (il k)::bL (nO R k) v) 84 _ zg j u hu
      focus exact Ni _ _ _ HV.out
      focus(have:=HLL.out;unfold maxLen;omega)
      focus(have:=HLL.out;omega)
      focus(simp;omega)
      intro g' cap w1 hown' hgrow hat hlt';have R1:=bz.push (rs2:=[(nO R k,v)]) (m:=wr.heap.size+bs1.size) ((HL.out.grow (bs1++bs2) dr2).alloc (.cells (.string (il k)::bL (nO R k) v).toArray 84)) (Ey (H1.out.alloc _)) ze (fun j hj e=>by have:=(HEVB.out j e).2;omega) (fun j hj=>by have:=(HLEB.out j hj).2;omega) rfl rfl rfl hown' hgrow hat zg ze;have O1:=((HOFR.out.grow (bs1++bs2) dr2).alloc (.cells (.string (il k)::bL (nO R k) v).toArray 84)).grown hgrow (fun j hj=>by have:=(HLEB.out j hj).1;have:=HOFR.out.gge;omega);have N1:=((HNX.out.grow (bs1++bs2) dr2).alloc (.cells (.string (il k)::bL (nO R k) v).toArray 84)).grown hgrow (fun j hj=>(HLEB.out j hj).1);have E1:=((HE.out.toX (X:=fun b=>(Value.slice aa (fP q).length acap).ownBlock≠some b) (fun j hj e=>HLX.out j e hj)).grow (bs1++bs2) dr2|>.alloc (.cells (.string (il k)::bL (nO R k) v).toArray 84)).grown hgrow (fun j hj e=>hj e.symm);have hoc2:w1.cell? ⟨g,5,none⟩=some (.slice aa (fP q).length acap):=cell_of_row _ _ _ _ _ _ O1.out;have hof2:w1.frozen? ⟨g,5,none⟩=false:=Joins.unfrozen_of_block O1.out 5;have hyk2:=(O1.bel.cell (p:=⟨b,off+k,none⟩) hb).trans HXK.out
      (try simp only [nS])
      refine TG.go hK1 ?_ (fun hS=>?_);focus exact⟨hoc2,cell_of_row _ _ _ _ _ _ O1.box,hyk2⟩
      clear hK1 K1 hyk2;have HR2:=zh (R1.setCell (a:=⟨g,5,none⟩) hgl1 (.slice (some ⟨g',0,none⟩) ((fP q).length+1) cap));have HO2:=zh (O1.store 5 (.slice (some ⟨g',0,none⟩) ((fP q).length+1) cap));have HN2:=zh (N1.store 5 (.slice (some ⟨g',0,none⟩) ((fP q).length+1) cap));have HE2:=zh ((E1.setCell (a:=⟨g,5,none⟩) hgl1 (.slice (some ⟨g',0,none⟩) ((fP q).length+1) cap)).toG);clear hown' hgrow hat hlt' R1 O1 N1 E1
      (try simp only [nS])
      refine TG.tkB 15 hS ?_;refine TG.one (i:=16) zf rfl (fun K1 hK1=>?_)
      go_simp
      refine hK1 _ _ (fun h=>absurd rfl h) (TG.done zf ?_);clear hK1 K1 hS
      (try simp only [nS])
      clear hoc hbx hyk hoc2 hof2;obtain⟨w2,hw2⟩:∃w2,w2=w1.setCell ⟨g,5,none⟩ (.slice (some ⟨g',0,none⟩) ((fP q).length+1) cap):=⟨_,rfl⟩;rw [<-hw2]at HR2 HO2 HN2 HE2 ⊢;clear hw2;have HE2B:=zh HE2.out.lt;have hsz2:=HN2.out.size
      go_wp2_with (first
       |(go_at_call 72;refine(qX k _ hlt5).mono ?_;rintro e' w' ⟨rfl,bs3,dr3,rfl⟩)
       |(at_builtin;refine wpList_append_lies _ rfl _ _ 54 rfl wc.heap.size 64 i3 _ 2 24 underlying54 hr hr0 hr1 hr2 rfl zo _ _ _ rfl ((HE2.out.grow bs3 dr3).alloc (.cells #[.string (il k),.int .i64 (1+(zk.length:Int) % 4)] 64)).own ⟨w2.heap.size+bs3.size,0,none⟩ 1 1 [.string (il k),.int .i64 (1+(zk.length:Int) % 4)] rfl rfl ?e1 ?e2 zo ?e3 ?e4 ?e5 (w2.heap.size+bs3.size+1) zg ?_))
      case e1=>exact aR _ [.string (il k),.int .i64 (1+(zk.length:Int) % 4)] _ _ zg
      case e2=>intro u hu;simp at hu;rcases hu with rfl|rfl<;>rfl
      case e3=>have:=HEL.out;unfold maxLen;omega
      case e4=>have:=HEL.out;omega
      case e5=>simp;omega
      intro g2 cap2 w3 hown2 hgrow2 hat2 hlt2;have E3:=bX.push (rs2:=[]) (m:=w2.heap.size) ((HE2.out.grow bs3 dr3).alloc (.cells #[.string (il k),.int .i64 (1+(zk.length:Int) % 4)] 64)) (fun x hx=>by cases hx) hsz2 (fun j hj=>(HE2B.out j hj).2) rfl rfl rfl hown2 hgrow2 hat2 zg;have L3:=((((HR2.out.grow bs3 dr3).alloc (.cells #[.string (il k),.int .i64 (1+(zk.length:Int) % 4)] 64)).mono (X':=fun b=>(Value.slice ea (jG (fE R k)).length ecap).ownBlock≠some b/\b≠g2) (Ii hat2 zg)).grown hgrow2 (fun j hj=>Ne.symm hj.1)).mono (X':=fun b=>(Value.slice (some ⟨g2,0,none⟩) ((jG (fE R k)).length+1) cap2).ownBlock≠some b) (fun j hj _ e=>hj.2 (by simpa [Value.ownBlock]using e.symm));have O3:=((HO2.out.grow bs3 dr3).alloc (.cells #[.string (il k),.int .i64 (1+(zk.length:Int) % 4)] 64)).grown hgrow2 (fun j hj=>by have:=(HE2B.out j hj).1;have:=HOFR.out.gge;omega);have N3:=((HN2.out.grow bs3 dr3).alloc (.cells #[.string (il k),.int .i64 (1+(zk.length:Int) % 4)] 64)).grown hgrow2 (fun j hj=>(HE2B.out j hj).1);have HE3:=zh E3;have HL3:=zh L3;have HO3:=zh O3;have HN3:=zh N3;clear hown2 hgrow2 hat2 hlt2 E3 L3 O3 N3
      go_wp2_with fail
      go_roundw
      case rel=>exact⟨k+1,_,q++[(il k,(nO R k,v))],by omega,by omega,by go_num,HO3.out,HN3.out,by rw [Gj,map_append];exact HL3.out,by rw [HSF.out,HD.out,GN];exact HE3.out,HQ.out.push v⟩
      case measure=>simp [intOf];omega
    ·go_wp2_with fail
     go_meet
     exact⟨_,wc.heap.size,q,HOFR.out,HROW1.out.next HNX.out hgH1,HROW2.out.next HNX.out hgH2,⟨hgl1,hH2,HNX.out.size⟩,HL.out.toG,by rw [show fO R=k by unfold fO;omega];exact⟨HE.out,HQ.out⟩⟩
   ·go_wp2_with fail
    go_meet
    exact⟨_,wc.heap.size,q,HOFR.out,HROW1.out.next HNX.out hgH1,HROW2.out.next HNX.out hgH2,⟨hgl1,hH2,HNX.out.size⟩,HL.out.toG,by rw [show fO R=k by unfold fO;omega];exact⟨HE.out,HQ.out⟩⟩
 obtain⟨vle,H3,ql,hof,hrow1,hrow2,⟨hgH3,hH23,hH3⟩,hrow3,henv,hql⟩:=hcut;clear HROW1 HROW2 HOF1 hgl1 hH2;have HROW1:=zh hrow1;have HROW2:=zh hrow2;have HROW3:=zh hrow3.upto;have HENV:=zh henv;have HQL:=zh hql;have HOF1:=zh hof;have hgl1:=hof.lt;obtain⟨eva,evc,hev⟩:=henv.form;subst hev;clear hof hrow1 hrow2 hrow3 henv hql
 go_step
 exact K9 R w h1 h2 h3 h4 ca sa la ia pa ua ccap scap lcap icap pcap ucap hcl hsl hll hil hpl hul HCC HSC HLC HIC HPC HUC g _ wc vcr H1 hgH1 vse H2 hgH2 hH12 vle H3 ql hgH3 hH23 eva evc hH3 HROW1 HROW2 HROW3 HENV HQL HOF1 hgl1 _ _ _ _ _ _ _ _ _ _ _ _ _ _ _ _ _ _ _ _ _ _ _ _ _ _ _ _ _ _ _ _ _ _ _ _ _ _ _ _ _ _ _ _ _ _ _ _ _ _ _ _ _ _ _ _ _ _ _ _ _ _ _ _ _ _ _ _ _ _ _ _ _ _ _ _ _ _ _ _ _ _ _ _ _ _ _ _ _ _ _ _ _ _ _ _ _ _ _ _ _ _ _ _ _ _ _ _ _ _ _ _ _ _ _ _ _ _ _ _ _ _ _ _ _ _ _ _ _ _ _ _ _ _ _ _ _ _ _ _ _ _ _ _ _ _ _ _ _ _ _ _ _ _ _ _ _ _ _ _ _ _ _ _ _ _ _ _ _ _ _ _ _ _ _ _ _ _ _ _ _ _ _ _ _ _ _ _ _ _ _ _ _ _ _ _ _ _ _ _ _ _ _ _ _ _ _ _ _ _ _ _ _ _ _ _ _ _ _ _ _ _ _ _ _ _ _ _ _ _
theorem Ld(R:df)(w:World)(h1:I64 R.frm)(h2:I64 R.mode)(h3:I64 R.unit)(h4:I64 R.twist)(ca:Option Addr)(sa:Option Addr)(la:Option Addr)(ia:Option Addr)(pa:Option Addr)(ua:Option Addr)(ccap:Nat)(scap:Nat)(lcap:Nat)(icap:Nat)(pcap:Nat)(ucap:Nat)(hcl:R.credits.length<=140737488355328)(hsl:R.series.length<=140737488355328)(hll:R.lets.length<=140737488355328)(hil:R.ifs.length<=140737488355328)(hpl:R.pays.length<=140737488355328)(hul:R.cuts.length<=140737488355328)(HCC:Hid (R.credits.length=0\/∃b off,ca=some ⟨b,off,none⟩/\b<w.heap.size/\∀(i:Nat),i<R.credits.length->w.cell? ⟨b,off+i,none⟩=some (.int .i64 (R.credits.getD i 0))))(HSC:Hid (R.series.length=0\/∃b off,sa=some ⟨b,off,none⟩/\b<w.heap.size/\∀(i:Nat),i<R.series.length->w.cell? ⟨b,off+i,none⟩=some (.int .i64 (R.series.getD i 0))))(HLC:Hid (R.lets.length=0\/∃b off,la=some ⟨b,off,none⟩/\b<w.heap.size/\∀(i:Nat),i<R.lets.length->∃u,w.cell? ⟨b,off+i,none⟩=some u/\ay w u (R.lets.getD i [])))(HIC:Hid (R.ifs.length=0\/∃b off,ia=some ⟨b,off,none⟩/\b<w.heap.size/\∀(i:Nat),i<R.ifs.length->∃u,w.cell? ⟨b,off+i,none⟩=some u/\ay w u (R.ifs.getD i [])))(HPC:Hid (R.pays.length=0\/∃b off,pa=some ⟨b,off,none⟩/\b<w.heap.size/\∀(i:Nat),i<R.pays.length->∃u,w.cell? ⟨b,off+i,none⟩=some u/\ay w u (R.pays.getD i [])))(HUC:Hid (R.cuts.length=0\/∃b off,ua=some ⟨b,off,none⟩/\b<w.heap.size/\∀(i:Nat),i<R.cuts.length->∃u,w.cell? ⟨b,off+i,none⟩=some u/\ay w u (R.cuts.getD i [])))(g:Nat)(wk:Nat)(wc:World)(vcr:Value)(H1:Nat)(hgH1:g<H1)(hH1:H1<=wc.heap.size)(HROW1:Hid (bz 129 2 H1 (· <wc.heap.size) wc vcr (bG R (gY R)) []))(HOF1:Hid (dX w (fu R (.slice ca R.credits.length ccap) (.slice sa R.series.length scap) (.slice la R.lets.length lcap) (.slice ia R.ifs.length icap) (.slice pa R.pays.length pcap) (.slice ua R.cuts.length ucap)) g #[.int .i64 (pick R.frm 73049),.int .i64 (pick R.mode 4+1),.int .i64 (aY (pick R.unit 5)),vcr,.slice none 0 0,.slice none 0 0,.slice none 0 0,.slice none 0 0] wc))(hgl1:g<wc.heap.size)(u5 u6 u17 u18 u19 u20 u21 u22 u23 u24 u25 u26 u27 u28 u29 u30 u31 u32 u33 u34 u35 u36 u37 u38 u39 u40 u41 u42 u43 u44 u45 u46 u47 u48 u49 u50 u51 u52 u53 u54 u55 u56 u57 u58 u59 u60 u61 u62 u63 u64 u65 u66 u67 u68 u69 u70 u71 u72 u73 u74 u75 u76 u77 u78 u79 u80 u81 u82 u83 u84 u85 u86 u87 u88 u89 u90 u91 u92 u93 u94 u95 u96 u97 u98 u99 u100 u101 u102 u103 u104 u105 u106 u107 u108 u109 u110 u111 u112 u113 u114 u115 u116 u117 u118 u119 u120 u121 u122 u123 u124 u125 u126 u127 u128 u129 u130 u131 u132 u133 u134 u135 u136 u137 u138 u139 u140 u141 u142 u143 u144 u145 u146 u147 u148 u149 u150 u151 u152 u153 u154 u155 u156 u157 u158 u159 u160 u161 u162 u163 u164 u165 u166 u167 u168 u169 u170 u171 u172 u173 u174 u175 u176 u177 u178 u179 u180 u181 u182 u183 u184 u185 u186 u187 u188 u189 u190 u191 u192 u193 u194 u195 u196 u197 u198 u199 u200 u201 u202 u203 u204 u205 u206 u207 u208 u209 u210 u211 u212 u213 u214 u215 u216 u217 u218 u219 u220 u221 u222 u223 u224 u225 u226 u227 u228 u229 u230 u231 u232 u233 u234 u235 u236 u237 u238 u239:Value) :
 Code.wp prog (tlC (tlC (tlC (tlC (f36.body.getD .skip))))) (bodyPost prog f36 (ja R w)) {tmps:=#[(.agg (fu R (.slice ca R.credits.length ccap) (.slice sa R.series.length scap) (.slice la R.lets.length lcap) (.slice ia R.ifs.length icap) (.slice pa R.pays.length pcap) (.slice ua R.cuts.length ucap))),.pointer (some ⟨w.heap.size,0,none⟩),.pointer (some ⟨w.heap.size+1,0,none⟩),.pointer (some ⟨g,0,none⟩),.slice (some ⟨wk,0,none⟩) 6 6,u5,u6,undef,undef,undef,undef,undef,undef,undef,undef,undef,undef,u17,u18,u19,u20,u21,u22,u23,u24,u25,u26,u27,u28,u29,u30,u31,u32,u33,u34,u35,u36,u37,u38,u39,u40,u41,u42,u43,u44,u45,u46,u47,u48,u49,u50,u51,u52,u53,u54,u55,u56,u57,u58,u59,u60,u61,u62,u63,u64,u65,u66,u67,u68,u69,u70,u71,u72,u73,u74,u75,u76,u77,u78,u79,u80,u81,u82,u83,u84,u85,u86,u87,u88,u89,u90,u91,u92,u93,u94,u95,u96,u97,u98,u99,u100,u101,u102,u103,u104,u105,u106,u107,u108,u109,u110,u111,u112,u113,u114,u115,u116,u117,u118,u119,u120,u121,u122,u123,u124,u125,u126,u127,u128,u129,u130,u131,u132,u133,u134,u135,u136,u137,u138,u139,u140,u141,u142,u143,u144,u145,u146,u147,u148,u149,u150,u151,u152,u153,u154,u155,u156,u157,u158,u159,u160,u161,u162,u163,u164,u165,u166,u167,u168,u169,u170,u171,u172,u173,u174,u175,u176,u177,u178,u179,u180,u181,u182,u183,u184,u185,u186,u187,u188,u189,u190,u191,u192,u193,u194,u195,u196,u197,u198,u199,u200,u201,u202,u203,u204,u205,u206,u207,u208,u209,u210,u211,u212,u213,u214,u215,u216,u217,u218,u219,u220,u221,u222,u223,u224,u225,u226,u227,u228,u229,u230,u231,u232,u233,u234,u235,u236,u237,u238,u239],defers:=[]} wc:=by
 obtain⟨i0,hi,hz0,hz1,hz2⟩:=info_parts l8;obtain⟨i1,hj,hj0,hj1,hj2⟩:=info_parts oZ;obtain⟨i2,hq,hq0,hq1,hq2⟩:=info_parts oW;obtain⟨i3,hr,hr0,hr1,hr2⟩:=info_parts l9;obtain⟨i4,ht,ht0,ht1,ht2⟩:=info_parts kH;obtain⟨i5,hv,hv0,hv1,hv2⟩:=info_parts jE
 conv=>arg 2;whnf
 unfold fu
 go_upto_block 2 with fail
 go_cut []from 17 (fun wx=>∃vse H2,dX w (fu R (.slice ca R.credits.length ccap) (.slice sa R.series.length scap) (.slice la R.lets.length lcap) (.slice ia R.ifs.length icap) (.slice pa R.pays.length pcap) (.slice ua R.cuts.length ucap)) g #[.int .i64 (pick R.frm 73049),.int .i64 (pick R.mode 4+1),.int .i64 (aY (pick R.unit 5)),vcr,vse,.slice none 0 0,.slice none 0 0,.slice none 0 0] wx/\bz 129 2 H1 (· <H2) wx vcr (bG R (gY R)) []/\(g<H2/\H1<=H2/\H2<=wx.heap.size)/\bX 131 3 H2 wx vse (bW R (lY R)) [])
 case first=>
  go_wp2_with fail
  go_loopw [7] (fun v7 wr=>∃k:Nat,∃vse:Value,k<=R.series.length/\k<=6/\v7= .int .i64 k/\dX w (fu R (.slice ca R.credits.length ccap) (.slice sa R.series.length scap) (.slice la R.lets.length lcap) (.slice ia R.ifs.length icap) (.slice pa R.pays.length pcap) (.slice ua R.cuts.length ucap)) g #[.int .i64 (pick R.frm 73049),.int .i64 (pick R.mode 4+1),.int .i64 (aY (pick R.unit 5)),vcr,vse,.slice none 0 0,.slice none 0 0,.slice none 0 0] wr/\Next g wc wr/\bX 131 3 wc.heap.size wr vse (bW R k) []) (fun v7 _=>6-(intOf v7).toNat)
  case atStart=>exact⟨0,_,by omega,by omega,rfl,HOF1.out,.refl _ _,.nil _ _ _ _⟩
  case round=>
   obtain⟨k,vse,hk,hk6,rfl,hof,hnx,hrow⟩:=hrel;have hbx:wr.cell? ⟨w.heap.size,4,none⟩=some (.slice sa R.series.length scap):=cell_of_row _ _ _ _ _ _ hof.box;have hoc:wr.cell? ⟨g,4,none⟩=some vse:=cell_of_row _ _ _ _ _ _ hof.out;have hl0:=hof.lt0;have hl1:w.heap.size<wr.heap.size:=by omega
   have hl2:=hof.lt;have hl3:=hnx.size;have HNX:=zh hnx;have HOFR:=zh hof;have HROW:=zh hrow;have HCL:=zh (rJ R k);obtain⟨aa,acap,rfl⟩:=hrow.form;clear hof hnx hrow hl0;by_cases hlt:k<R.series.length
   ·by_cases hlt6:k<6
    ·rcases HSC.out with h0|⟨b,off,rfl,hb,hx⟩
     ·omega
     ·have hxk:=hx k hlt;have hkb:b<wr.heap.size:=by omega
      have hyk:wr.cell? ⟨b,off+k,none⟩=some (.int .i64 (R.series.getD k 0)):=by rw [HOFR.out.bel.cell (by exact hb)];exact hxk
      have HXK:=zh hxk;clear hxk hx;have d1:(k:Int)<(R.series.length:Int):=by omega
      have d2:(k:Int)<6:=by omega
      have HSU:=zh (uU R k);have HSY:Hid (Ma R k=1930+25*k+pick (R.series.getD k 0) 20):=zh rfl;have HSN:Hid (Mc R k=mkN (pick (R.series.getD k 0) 4000+1) 1000):=zh rfl;have HSD:Hid (Md R k=mkD (pick (R.series.getD k 0) 4000+1) 1000):=zh rfl;generalize hzk:R.series.getD k 0=zk at *;clear hzk;have hp4:=dL zk 4000 ze;have hp2:=dL zk 20 ze
      go_upto_region 14 with (first
       |(go_at_call 15;refine(bN _ _ _ ze).mono ?_;rintro e w' ⟨rfl,rfl⟩)
       |(go_at_call 46;refine(fe _ _ _ ze ze ze ze).mono ?_;rintro e w' ⟨rfl,bs,d,rfl⟩))
      have hm1:IntKind.i64.wrap (25*(k:Int))=25*k:=IntWalk.i64_in _ ze;have hm2:IntKind.i64.wrap (1930+25*(k:Int))=1930+25*k:=IntWalk.i64_in _ ze;have hm3:IntKind.i64.wrap (1930+25*(k:Int)+pick zk 20)=1930+25*k+pick zk 20:=IntWalk.i64_in _ ze;generalize hN:mkN (pick zk 4000+1) 1000=fn at HSN ⊢;generalize hD:mkD (pick zk 4000+1) 1000=fd at HSD ⊢;clear hN hD hp4 hp2;refine TG.begin 17 (fun w'=>w'.cell? ⟨g,4,none⟩=some (.slice aa (bW R k).length acap)/\w'.cell? ⟨w.heap.size,4,none⟩=some (.slice (some ⟨b,off,none⟩) R.series.length scap)/\w'.cell? ⟨b,off+k,none⟩=some (.int .i64 zk)/\w'.cell? ⟨wr.heap.size+bs.size,0,none⟩=some (.int .i64 fn)/\w'.cell? ⟨wr.heap.size+bs.size,1,none⟩=some (.int .i64 fd)) zf zf ?_ (fun hS=>?_)
      focus
       refine⟨?_, ?_, ?_, ?_, ?_⟩<;>simp [go_sem,hoc,hbx,hyk,hl1,hl2,hkb]
      refine TG.tkB 0 hS ?_;refine TG.tkB 1 hS ?_;refine TG.tkB 2 hS ?_;refine TG.tkB 3 hS ?_;refine TG.tkB 4 hS ?_;refine TG.tkB 5 hS ?_;refine TG.tkB 6 hS ?_;refine TG.tkB 7 hS ?_;refine TG.tkB 8 hS ?_;refine TG.tkB 9 hS ?_;refine TG.takeC (i:=10) (v:=(.int .i64 (pick zk 20))) (fn:=15) (args:=#[.int .i64 zk,.int .i64 20]) rfl zf zf zf zo (fun _ _ _ h=>h) rfl hS ?_ ?_ ?_
      focus
       intro wS hSw
       (try dsimp only at hSw)
       go_simp
      focus exact fun wS _=>(bN _ _ _ ze)
      (try simp only [nS])
      refine TG.tkB 11 hS ?_;refine TG.tkB 12 hS ?_;refine TG.tkB 13 hS ?_;refine TG.one (i:=14) zf rfl (fun K1 hK1=>?_)
      go_simp
      refine TG.go hK1 ?_ (fun hS=>?_)
      focus
       (try dsimp only)
       (refine⟨?_, ?_, ?_, ?_, ?_⟩<;>simp [go_sem,hoc,hbx,hyk,hl1,hl2,hkb])
      clear hK1 K1
      (try simp only [nS])
      have HSW:=zh hS;refine TG.one (i:=15) zf rfl (fun K1 hK1=>?_);refine step_append_lies _ rfl _ _ 76 rfl wc.heap.size 131 i1 _ 3 24 underlying76 hj hj0 hj1 hj2 rfl zo _ _ _ rfl (((HROW.out.grow bs d).alloc (.cells #[.int .i64 fn,.int .i64 fd] 23)).alloc (.cells #[.int .i64 (1930+25*k+pick zk 20),.int .i64 fn,.int .i64 fd] 131)).own ⟨wr.heap.size+bs.size+1,0,none⟩ 1 1 [.int .i64 (1930+25*k+pick zk 20),.int .i64 fn,.int .i64 fd] rfl rfl ?_ ?_ zo ?_ ?_ ?_ (wr.heap.size+bs.size+2) zg ?_;focus exact fun j u hu=>aR _ [.int .i64 (1930+25*k+pick zk 20),.int .i64 fn,.int .i64 fd] 131 _ zg j u hu
      focus(intro u hu;simp at hu;rcases hu with rfl|rfl|rfl<;>rfl)
      focus(have:=HCL.out;unfold maxLen;omega)
      focus(have:=HCL.out;omega)
      focus(simp;omega)
      intro g' cap w1 hown' hgrow hat hlt';have hrowb:=HROW.out.lt;have R1:=bX.push (rs2:=[]) (m:=wr.heap.size) (((HROW.out.grow bs d).alloc (.cells #[.int .i64 fn,.int .i64 fd] 23)).alloc (.cells #[.int .i64 (1930+25*k+pick zk 20),.int .i64 fn,.int .i64 fd] 131)).drew (fun x hx=>by cases hx) hl3 (fun j hj=>(hrowb j hj).2) rfl rfl rfl hown' hgrow hat zg;have O1:=(((HOFR.out.grow bs d).alloc (.cells #[.int .i64 fn,.int .i64 fd] 23)).alloc (.cells #[.int .i64 (1930+25*k+pick zk 20),.int .i64 fn,.int .i64 fd] 131)).drew.grown hgrow (fun j hj=>by have:=(hrowb j hj).1;have:=HOFR.out.gge;omega);have N1:=(((HNX.out.grow bs d).alloc (.cells #[.int .i64 fn,.int .i64 fd] 23)).alloc (.cells #[.int .i64 (1930+25*k+pick zk 20),.int .i64 fn,.int .i64 fd] 131)).drew.grown hgrow (fun j hj=>(hrowb j hj).1);have hoc2:w1.cell? ⟨g,4,none⟩=some (.slice aa (bW R k).length acap):=cell_of_row _ _ _ _ _ _ O1.out;have hof2:w1.frozen? ⟨g,4,none⟩=false:=Joins.unfrozen_of_block O1.out 4;have hf0:=(hgrow.cell_far ⟨wr.heap.size+bs.size,0,none⟩ zp (fun e=>absurd (hrowb (wr.heap.size+bs.size) e.symm).2 ze)).trans HSW.out.2.2.2.1;have hf1:=(hgrow.cell_far ⟨wr.heap.size+bs.size,1,none⟩ zp (fun e=>absurd (hrowb (wr.heap.size+bs.size) e.symm).2 ze)).trans HSW.out.2.2.2.2;have hyk2:=(O1.bel.cell (p:=⟨b,off+k,none⟩) hb).trans HXK.out
      (try simp only [nS])
      refine TG.go hK1 ?_ (fun hS=>?_);focus exact⟨hoc2,cell_of_row _ _ _ _ _ _ O1.box,hyk2,hf0,hf1⟩
      clear hK1 K1 HSW hf0 hf1 hyk2;have R2:=zh (R1.setCell (a:=⟨g,4,none⟩) hgl1 (.slice (some ⟨g',0,none⟩) ((bW R k).length+1) cap));have O2:=zh (O1.store 4 (.slice (some ⟨g',0,none⟩) ((bW R k).length+1) cap));have N2:=zh (N1.store 4 (.slice (some ⟨g',0,none⟩) ((bW R k).length+1) cap));clear hown' hgrow hat hlt' R1 O1 N1 hrowb
      (try simp only [nS])
      refine TG.tkB 16 hS ?_;refine TG.one (i:=17) zf rfl (fun K1 hK1=>?_)
      go_simp
      refine hK1 _ _ (fun h=>absurd rfl h) (TG.done zf ?_);clear hK1 K1 hS
      (try simp only [nS])
      go_wp2_with fail
      go_roundw
      case rel=>exact⟨k+1,_,by omega,by omega,by go_num,O2.out,N2.out,by rw [HSU.out,HSY.out,HSN.out,HSD.out];exact R2.out⟩
      case measure=>simp [intOf];omega
    ·go_wp2_with fail
     go_meet
     exact⟨_,wc.heap.size,HOFR.out,HROW1.out.next HNX.out hgH1,⟨hgl1,hH1,HNX.out.size⟩,by rw [show lY R=k by unfold lY;omega];exact HROW.out⟩
   ·go_wp2_with fail
    go_meet
    exact⟨_,wc.heap.size,HOFR.out,HROW1.out.next HNX.out hgH1,⟨hgl1,hH1,HNX.out.size⟩,by rw [show lY R=k by unfold lY;omega];exact HROW.out⟩
 obtain⟨vse,H2,hof,hrow1,⟨hgH2,hH12,hH2⟩,hrow2⟩:=hcut;clear HROW1 HOF1 hgl1 hH1;have HROW1:=zh hrow1;have HROW2:=zh hrow2.upto;have HOF1:=zh hof;have hgl1:=hof.lt;clear hof hrow1 hrow2
 go_step
 exact Lc R w h1 h2 h3 h4 ca sa la ia pa ua ccap scap lcap icap pcap ucap hcl hsl hll hil hpl hul HCC HSC HLC HIC HPC HUC g _ wc vcr H1 hgH1 vse H2 hgH2 hH12 hH2 HROW1 HROW2 HOF1 hgl1 _ _ _ _ _ _ _ _ _ _ _ _ _ _ _ _ _ _ _ _ _ _ _ _ _ _ _ _ _ _ _ _ _ _ _ _ _ _ _ _ _ _ _ _ _ _ _ _ _ _ _ _ _ _ _ _ _ _ _ _ _ _ _ _ _ _ _ _ _ _ _ _ _ _ _ _ _ _ _ _ _ _ _ _ _ _ _ _ _ _ _ _ _ _ _ _ _ _ _ _ _ _ _ _ _ _ _ _ _ _ _ _ _ _ _ _ _ _ _ _ _ _ _ _ _ _ _ _ _ _ _ _ _ _ _ _ _ _ _ _ _ _ _ _ _ _ _ _ _ _ _ _ _ _ _ _ _ _ _ _ _ _ _ _ _ _ _ _ _ _ _ _ _ _ _ _ _ _ _ _ _ _ _ _ _ _ _ _ _ _ _ _ _ _ _ _ _ _ _ _ _ _ _ _ _ _ _ _ _ _ _ _ _ _ _ _ _ _ _ _ _ _ _ _ _ _ _ _
end Go.Proofs.YtlheailebbngiaaGreatDoor
