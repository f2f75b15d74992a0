import Derived.Test.YtlheailebbngiaaGreatDoorRLt5
import Derived.Test.YtlheailebbngiaaGreatDoorROf4
set_option linter.all false
set_option maxHeartbeats 16000000
set_option maxRecDepth 1000000
namespace Go.Proofs.YtlheailebbngiaaGreatDoor
open Go.Proofs.Tryz List
open Go.RowKit
theorem Da(n:Int)(V:cO):(bM n V).cr.length=V.cr.length/\(bM n V).se.length=V.se.length/\(bM n V).le.length=V.le.length/\(bM n V).gr.length=V.gr.length/\(bM n V).re.length=V.re.length:=by
 unfold bM
 repeat' split
 all_goals simp_all
theorem E8(R:dh):(ofP R).cr.length<=1000/\(ofP R).se.length<=1000/\(ofP R).le.length<=10/\(ofP R).gr.length<=1000/\(ofP R).re.length<=1000:=by
 have h:(fC R).cr.length<=1000/\(fC R).se.length<=1000/\(fC R).le.length<=10/\(fC R).gr.length<=1000/\(fC R).re.length<=1000:=by
  simp only [fC,length_map,length_range];unfold ig l9 fQ vN A7;omega
 unfold ofP
 split
 ·exact h
 ·split
  ·obtain⟨a,b,c,d,e⟩:=Da (pick (R.twist.tdiv 8) 7) (fC R);rw [a,b,c,d,e];exact h
  ·exact h
theorem xZ(R:dh):kT (fC R):=by
 refine⟨fun t ht=>?_,fun t ht=>?_,fun t ht=>?_⟩
 ·obtain⟨i,_,rfl⟩:=mem_map.1 ht;exact⟨by rw [wQ];omega,mY _ _ _⟩
 ·obtain⟨i,_,rfl⟩:=mem_map.1 ht;exact⟨mY _ _ _,mY _ _ _⟩
 ·obtain⟨i,_,rfl⟩:=mem_map.1 ht;exact mY _ _ _
theorem JA(n:Int){V:cO}(h:kT V):kT (bM n V):=by
 obtain⟨h1,h2,h3⟩:=h;unfold bM
 split
 ·refine⟨h1,fun t ht=>?_,h3⟩;simp only at ht
  split at ht
  ·rename_i a r he
   rcases mem_cons.1 ht with rfl|ht
   ·have:=h2 a yk;exact⟨this.1,this.1⟩
   ·exact h2 t yC
  ·cases ht
 split
 ·refine⟨h1,fun t ht=>?_,h3⟩;simp only at ht
  split at ht
  ·rename_i a b r he
   rcases mem_cons.1 ht with rfl|ht
   ·exact h2 t yk
   ·rcases mem_cons.1 ht with rfl|ht
    ·exact h2 b (by rw [he];simp)
    ·exact h2 t (by rw [he];simp [ht])
  ·exact h2 t ht
 split
 ·refine⟨fun t ht=>?_,h2,h3⟩;simp only at ht
  split at ht
  ·rename_i a b r he
   rcases mem_cons.1 ht with rfl|ht
   ·exact h1 t yk
   ·rcases mem_cons.1 ht with rfl|ht
    ·exact⟨(h1 a (by rw [he];simp)).1,(h1 b (by rw [he];simp)).2⟩
    ·exact h1 t (by rw [he];simp [ht])
  ·exact h1 t ht
 split
 ·refine⟨fun t ht=>?_,h2,h3⟩;simp only at ht
  split at ht
  ·rename_i a r he
   rcases mem_cons.1 ht with rfl|ht
   ·refine⟨(h1 a yk).1, ?_⟩;show qC.size<=1000000;simp [qC,Ex.size,Ex.sizes]
   ·exact h1 t yC
  ·cases ht
 split
 ·exact⟨h1,h2,h3⟩
 split
 ·exact⟨h1,h2,h3⟩
 ·refine⟨fun t ht=>?_,h2,h3⟩;simp only at ht
  split at ht
  ·rename_i a r he
   rcases mem_cons.1 ht with rfl|ht
   ·refine⟨?_,(h1 a yk).2⟩;show Lv.size<=_;decide
   ·exact h1 t yC
  ·cases ht
theorem OZ(R:dh):kT (ofP R):=by
 unfold ofP
 split
 ·exact xZ R
 ·split
  ·exact JA _ (xZ R)
  ·exact xZ R
theorem LF(R:dh)(w:World)(h1:I64 R.frm)(h2:I64 R.mode)(h3:I64 R.unit)(h4:I64 R.twist)(ca:Option Addr)(sa:Option Addr)(la:Option Addr)(ia:Option Addr)(pa:Option Addr)(ua:Option Addr)(ccap:Nat)(scap:Nat)(lcap:Nat)(icap:Nat)(pcap:Nat)(ucap:Nat)(hcl:R.credits.length<=140737488355328)(hsl:R.series.length<=140737488355328)(hll:R.lets.length<=140737488355328)(hil:R.ifs.length<=140737488355328)(hpl:R.pays.length<=140737488355328)(hul:R.cuts.length<=140737488355328)(HCC:Hid (R.credits.length=0\/∃b off,ca=some ⟨b,off,none⟩/\b<w.heap.size/\∀(i:Nat),i<R.credits.length->w.cell? ⟨b,off+i,none⟩=some (.int .i64 (R.credits.getD i 0))))(HSC:Hid (R.series.length=0\/∃b off,sa=some ⟨b,off,none⟩/\b<w.heap.size/\∀(i:Nat),i<R.series.length->w.cell? ⟨b,off+i,none⟩=some (.int .i64 (R.series.getD i 0))))(HLC:Hid (R.lets.length=0\/∃b off,la=some ⟨b,off,none⟩/\b<w.heap.size/\∀(i:Nat),i<R.lets.length->∃u,w.cell? ⟨b,off+i,none⟩=some u/\ay w u (R.lets.getD i [])))(HIC:Hid (R.ifs.length=0\/∃b off,ia=some ⟨b,off,none⟩/\b<w.heap.size/\∀(i:Nat),i<R.ifs.length->∃u,w.cell? ⟨b,off+i,none⟩=some u/\ay w u (R.ifs.getD i [])))(HPC:Hid (R.pays.length=0\/∃b off,pa=some ⟨b,off,none⟩/\b<w.heap.size/\∀(i:Nat),i<R.pays.length->∃u,w.cell? ⟨b,off+i,none⟩=some u/\ay w u (R.pays.getD i [])))(HUC:Hid (R.cuts.length=0\/∃b off,ua=some ⟨b,off,none⟩/\b<w.heap.size/\∀(i:Nat),i<R.cuts.length->∃u,w.cell? ⟨b,off+i,none⟩=some u/\ay w u (R.cuts.getD i [])))(g:Nat)(wk:Nat)(wc:World)(vcr:Value)(H1:Nat)(hgH1:g<H1)(vse:Value)(H2:Nat)(hgH2:g<H2)(hH12:H1<=H2)(hH2:H2<=wc.heap.size)(HROW1:Hid (bH 129 2 H1 (· <H2) wc vcr (bJ R (ig R)) []))(HROW2:Hid (bH 131 3 H2 (· <wc.heap.size) wc vse (bX R (l9 R)) []))(HOF1:Hid (dZ w (fu R (.slice ca R.credits.length ccap) (.slice sa R.series.length scap) (.slice la R.lets.length lcap) (.slice ia R.ifs.length icap) (.slice pa R.pays.length pcap) (.slice ua R.cuts.length ucap)) g #[.int .i64 (pick R.frm 73049),.int .i64 (pick R.mode 4+1),.int .i64 (bv (pick R.unit 5)),vcr,vse,.slice none 0 0,.slice none 0 0,.slice none 0 0] wc))(hgl1:g<wc.heap.size)(u5 u6 u7 u8 u9 u17 u18 u19 u20 u21 u22 u23 u24 u25 u26 u27 u28 u29 u30 u31 u32 u33 u34 u35 u36 u37 u38 u39 u40 u41 u42 u43 u44 u45 u46 u47 u48 u49 u50 u51 u52 u53 u54 u55 u56 u57 u58 u59 u60 u61 u62 u63 u64 u65 u66 u67 u68 u69 u70 u71 u72 u73 u74 u75 u76 u77 u78 u79 u80 u81 u82 u83 u84 u85 u86 u87 u88 u89 u90 u91 u92 u93 u94 u95 u96 u97 u98 u99 u100 u101 u102 u103 u104 u105 u106 u107 u108 u109 u110 u111 u112 u113 u114 u115 u116 u117 u118 u119 u120 u121 u122 u123 u124 u125 u126 u127 u128 u129 u130 u131 u132 u133 u134 u135 u136 u137 u138 u139 u140 u141 u142 u143 u144 u145 u146 u147 u148 u149 u150 u151 u152 u153 u154 u155 u156 u157 u158 u159 u160 u161 u162 u163 u164 u165 u166 u167 u168 u169 u170 u171 u172 u173 u174 u175 u176 u177 u178 u179 u180 u181 u182 u183 u184 u185 u186 u187 u188 u189 u190 u191 u192 u193 u194 u195 u196 u197 u198 u199 u200 u201 u202 u203 u204 u205 u206 u207 u208 u209 u210 u211 u212 u213 u214 u215 u216 u217 u218 u219 u220 u221 u222 u223 u224 u225 u226 u227 u228 u229 u230 u231 u232 u233 u234 u235 u236 u237 u238 u239:Value) :
 Code.wp prog (tlC (tlC (tlC (tlC (tlC (f36.body.getD .skip)))))) (bodyPost prog f36 (jc R w)) {tmps:=#[(.agg (fu R (.slice ca R.credits.length ccap) (.slice sa R.series.length scap) (.slice la R.lets.length lcap) (.slice ia R.ifs.length icap) (.slice pa R.pays.length pcap) (.slice ua R.cuts.length ucap))),.pointer (some ⟨w.heap.size,0,none⟩),.pointer (some ⟨w.heap.size+1,0,none⟩),.pointer (some ⟨g,0,none⟩),.slice (some ⟨wk,0,none⟩) 6 6,u5,u6,u7,u8,u9,undef,undef,undef,undef,undef,undef,undef,u17,u18,u19,u20,u21,u22,u23,u24,u25,u26,u27,u28,u29,u30,u31,u32,u33,u34,u35,u36,u37,u38,u39,u40,u41,u42,u43,u44,u45,u46,u47,u48,u49,u50,u51,u52,u53,u54,u55,u56,u57,u58,u59,u60,u61,u62,u63,u64,u65,u66,u67,u68,u69,u70,u71,u72,u73,u74,u75,u76,u77,u78,u79,u80,u81,u82,u83,u84,u85,u86,u87,u88,u89,u90,u91,u92,u93,u94,u95,u96,u97,u98,u99,u100,u101,u102,u103,u104,u105,u106,u107,u108,u109,u110,u111,u112,u113,u114,u115,u116,u117,u118,u119,u120,u121,u122,u123,u124,u125,u126,u127,u128,u129,u130,u131,u132,u133,u134,u135,u136,u137,u138,u139,u140,u141,u142,u143,u144,u145,u146,u147,u148,u149,u150,u151,u152,u153,u154,u155,u156,u157,u158,u159,u160,u161,u162,u163,u164,u165,u166,u167,u168,u169,u170,u171,u172,u173,u174,u175,u176,u177,u178,u179,u180,u181,u182,u183,u184,u185,u186,u187,u188,u189,u190,u191,u192,u193,u194,u195,u196,u197,u198,u199,u200,u201,u202,u203,u204,u205,u206,u207,u208,u209,u210,u211,u212,u213,u214,u215,u216,u217,u218,u219,u220,u221,u222,u223,u224,u225,u226,u227,u228,u229,u230,u231,u232,u233,u234,u235,u236,u237,u238,u239],defers:=[]} wc:=by
 obtain⟨i0,hi,hz0,hz1,hz2⟩:=info_parts mq;obtain⟨i1,hj,hj0,hj1,hj2⟩:=info_parts pE;obtain⟨i2,hq,hq0,hq1,hq2⟩:=info_parts pz;obtain⟨i3,hr,hr0,hr1,hr2⟩:=info_parts mr;obtain⟨i4,ht,ht0,ht1,ht2⟩:=info_parts kM;obtain⟨i5,hv,hv0,hv1,hv2⟩:=info_parts jJ
 conv=>arg 2;whnf
 unfold fu
 go_upto_block 4 with fail
 go_cut [10]from 17 (fun vev wx=>∃vle H3 q,dZ w (fu R (.slice ca R.credits.length ccap) (.slice sa R.series.length scap) (.slice la R.lets.length lcap) (.slice ia R.ifs.length icap) (.slice pa R.pays.length pcap) (.slice ua R.cuts.length ucap)) g #[.int .i64 (pick R.frm 73049),.int .i64 (pick R.mode 4+1),.int .i64 (bv (pick R.unit 5)),vcr,vse,vle,.slice none 0 0,.slice none 0 0] wx/\bH 129 2 H1 (· <H2) wx vcr (bJ R (ig R)) []/\bH 131 3 H2 (· <H3) wx vse (bX R (l9 R)) []/\(g<H3/\H2<=H3/\H3<=wx.heap.size)/\bZ 84 7 H3 wx vle (fU q) (q.map (·.2))/\bZ 64 2 H3 wx vev (jL (fF R (fQ R))) []/\qX R (fQ R) q)
 case first=>
  go_wp2_with fail
  go_loopw [10,11] (fun v10 v11 wr=>∃k:Nat,∃vle:Value,∃q:List (ByteArray × (Ex × Value)),k<=R.lets.length/\k<=5/\v11= .int .i64 k/\dZ w (fu R (.slice ca R.credits.length ccap) (.slice sa R.series.length scap) (.slice la R.lets.length lcap) (.slice ia R.ifs.length icap) (.slice pa R.pays.length pcap) (.slice ua R.cuts.length ucap)) g #[.int .i64 (pick R.frm 73049),.int .i64 (pick R.mode 4+1),.int .i64 (bv (pick R.unit 5)),vcr,vse,vle,.slice none 0 0,.slice none 0 0] wr/\Next g wc wr/\bH 84 7 wc.heap.size (fun b=>v10.ownBlock≠some b) wr vle (fU q) (q.map (·.2))/\bZ 64 2 wc.heap.size wr v10 (jL (fF R k)) []/\qX R k q) (fun _ v11 _=>5-(intOf v11).toNat)
  case atStart=>exact⟨0,_,[],by omega,by omega,rfl,HOF1.out,.refl _ _,.nil _ _ _ _ _,.nil _ _ _ _,.nil R⟩
  case round=>
   obtain⟨k,vle,q,hk,hk5,rfl,hof,hnx,hlr,her,hlq⟩:=hrel;have hbx:wr.cell? ⟨w.heap.size,5,none⟩=some (.slice la R.lets.length lcap):=cell_of_row _ _ _ _ _ _ hof.box;have hoc:wr.cell? ⟨g,5,none⟩=some vle:=cell_of_row _ _ _ _ _ _ hof.out;have hl0:=hof.lt0;have hl1:w.heap.size<wr.heap.size:=by omega
   have hl2:=hof.lt;have hl3:=hnx.size;have HNX:=zh hnx;have HOFR:=zh hof;have HL:=zh hlr;have HE:=zh her;have HQ:=zh hlq;have HLL:=zh (show(fU q).length=k by unfold fU;rw [length_map];exact hlq.length);have HEL:=zh (show(jL (fF R k)).length=k by unfold jL;rw [length_map];exact mH R k);obtain⟨aa,acap,rfl⟩:=hlr.form;obtain⟨ea,ecap,hev⟩:=her.form;subst hev;clear hof hnx hlr her hl0 hlq;by_cases hlt:k<R.lets.length
   ·by_cases hlt5:k<5
    ·rcases HLC.out with h0|⟨b,off,rfl,hb,hx⟩
     ·omega
     ·obtain⟨u,hxk,hxi⟩:=hx k hlt;have hkb:b<wr.heap.size:=by omega
      have hyk:wr.cell? ⟨b,off+k,none⟩=some u:=by rw [HOFR.out.bel.cell (by exact hb)];exact hxk
      have HXI:=zh hxi;obtain⟨za,zcap,rfl⟩:=ay.form hxi;have HXK:=zh hxk;clear hxk hx hxi;have d1:(k:Int)<(R.lets.length:Int):=by omega
      have d2:(k:Int)<5:=by omega
      have HSD:Hid (G5 R k=1+(((R.lets.getD k []).length % 4:Nat):Int)):=zh rfl;have HSE:Hid (om R k=lM (R.lets.getD k []) (fF R k) (G5 R k)):=zh rfl;have HSF:=zh (Ii R k);generalize hzk:R.lets.getD k []=zk at *;clear hzk;have hzl:zk.length<=140737488355328:=HXI.out.1;have hm4:(zk.length:Int) % 4=((zk.length % 4:Nat):Int):=by omega
      have HM4:=zh hm4;clear hm4;have hD:G5 R k=1+(zk.length:Int) % 4:=by rw [HSD.out];have:=HM4.out;omega
      have HD:=zh hD;have HEE:Hid (lM zk (fF R k) (1+(zk.length:Int) % 4)=om R k):=zh (by rw [HSE.out,HD.out]);have hdb1:1<=1+(zk.length:Int) % 4:=by omega
      have hdb4:1+(zk.length:Int) % 4<=4:=by omega
      have hevb:=HE.out.lt;have HEVB:=zh hevb;have hleb:=HL.out.lt;have HLEB:=zh hleb;have HLX:=zh HL.out.ownX;clear hD hevb hleb
      go_upto_region 20 with fail
      refine TG.begin 16 (fun w'=>w'.cell? ⟨g,5,none⟩=some (.slice aa (fU q).length acap)/\w'.cell? ⟨w.heap.size,5,none⟩=some (.slice (some ⟨b,off,none⟩) R.lets.length lcap)/\w'.cell? ⟨b,off+k,none⟩=some (.slice za zk.length zcap)) zf zf ?_ (fun hS=>?_);focus(refine⟨?_, ?_, ?_⟩<;>simp [go_sem,hoc,hbx,hyk,hl1,hl2,hkb])
      refine TG.tkB 0 hS ?_;refine TG.tkB 1 hS ?_;refine TG.tkB 2 hS ?_;refine TG.tkB 4 hS ?_;refine TG.tkB 5 hS ?_;refine TG.tkB 6 hS ?_;refine TG.tkB 7 hS ?_;refine TG.tkB 8 hS ?_;refine TG.tkB 9 hS ?_;refine TG.tkB 10 hS ?_;refine TG.one (i:=3) zf rfl (fun K1 hK1=>?_)
      go_simp
      go_at_call 72
      refine(rE k _ hlt5).mono ?_;rintro e' w' ⟨rfl,bs1,dr1,rfl⟩
      (try simp only [World.drew_grow])
      refine TG.go hK1 ?_ (fun hS=>?_)
      focus
       (try dsimp only)
       (refine⟨?_, ?_, ?_⟩<;>simp [go_sem,hoc,hbx,hyk,hl1,hl2,hkb])
      clear hK1 K1
      (try simp only [nS])
      refine TG.one (i:=11) zf rfl (fun K1 hK1=>?_)
      go_simp
      go_at_call 27
      refine(jv _ _ zk (fF R k) _ (om R k) (wr.grow bs1 dr1) (aJ.of_ints HXI.out (HOFR.out.grow _ _).bel) (bF.of_row (HE.out.grow _ _) (by rw [mH];omega) (jq R k)) hdb1 hdb4 HEE).mono ?_;rintro e' w' ⟨v,rfl,⟨bs2,dr2,rfl⟩,hrep⟩;have H1:=zh ((hrep.eqw (w':=wr.grow (bs1++bs2) dr2) zg).mono (S':=fun b=>wr.heap.size+bs1.size<=b) (fun b hb=>by simpa using hb));have HV:=zh hrep.one;clear hrep
      (try simp only [World.grow_grow])
      refine TG.go hK1 ?_ (fun hS=>?_)
      focus
       (try dsimp only)
       (refine⟨?_, ?_, ?_⟩<;>simp [go_sem,hoc,hbx,hyk,hl1,hl2,hkb])
      clear hK1 K1
      (try simp only [nS])
      refine TG.tkB 12 hS ?_;refine TG.one (i:=13) zf rfl (fun K1 hK1=>?_)
      go_simp
      refine TG.go hK1 ?_ (fun hS=>?_)
      focus
       (try dsimp only)
       (refine⟨?_, ?_, ?_⟩<;>simp [go_sem,hoc,hbx,hyk,hl1,hl2,hkb])
      clear hK1 K1
      (try simp only [nS])
      refine TG.one (i:=14) zf rfl (fun K1 hK1=>?_);refine step_append_lies _ rfl _ _ 77 rfl wc.heap.size 84 i2 _ 7 88 underlying77 hq hq0 hq1 hq2 rfl zo _ _ _ rfl ((HL.out.grow (bs1++bs2) dr2).alloc (.cells (.string (iy k)::bN (om R k) v).toArray 84)).own ⟨wr.heap.size+(bs1.size+bs2.size),0,none⟩ 1 1 (.string (iy k)::bN (om R k) v) rfl rfl ?_ ?_ zo ?_ ?_ ?_ (wr.heap.size+(bs1.size+bs2.size)+1) zg ?_;focus exact fun j u hu=>aK _ (.string (iy k)::bN (om R k) v) 84 _ zg j u hu
      focus exact NL _ _ _ HV.out
      focus(have:=HLL.out;unfold maxLen;omega)
      focus(have:=HLL.out;omega)
      focus(simp;omega)
      intro g' cap w1 hown' hgrow hat hlt';have R1:=bH.push (rs2:=[(om R k,v)]) (m:=wr.heap.size+bs1.size) ((HL.out.grow (bs1++bs2) dr2).alloc (.cells (.string (iy k)::bN (om R k) v).toArray 84)) (EU (H1.out.alloc _)) ze (fun j hj e=>by have:=(HEVB.out j e).2;omega) (fun j hj=>by have:=(HLEB.out j hj).2;omega) rfl rfl rfl hown' hgrow hat zg ze;have O1:=((HOFR.out.grow (bs1++bs2) dr2).alloc (.cells (.string (iy k)::bN (om R k) v).toArray 84)).grown hgrow (fun j hj=>by have:=(HLEB.out j hj).1;have:=HOFR.out.gge;omega);have N1:=((HNX.out.grow (bs1++bs2) dr2).alloc (.cells (.string (iy k)::bN (om R k) v).toArray 84)).grown hgrow (fun j hj=>(HLEB.out j hj).1);have E1:=((HE.out.toX (X:=fun b=>(Value.slice aa (fU q).length acap).ownBlock≠some b) (fun j hj e=>HLX.out j e hj)).grow (bs1++bs2) dr2|>.alloc (.cells (.string (iy k)::bN (om R k) v).toArray 84)).grown hgrow (fun j hj e=>hj e.symm);have hoc2:w1.cell? ⟨g,5,none⟩=some (.slice aa (fU q).length acap):=cell_of_row _ _ _ _ _ _ O1.out;have hof2:w1.frozen? ⟨g,5,none⟩=false:=Joins.unfrozen_of_block O1.out 5;have hyk2:=(O1.bel.cell (p:=⟨b,off+k,none⟩) hb).trans HXK.out
      (try simp only [nS])
      refine TG.go hK1 ?_ (fun hS=>?_);focus exact⟨hoc2,cell_of_row _ _ _ _ _ _ O1.box,hyk2⟩
      clear hK1 K1 hyk2;have HR2:=zh (R1.setCell (a:=⟨g,5,none⟩) hgl1 (.slice (some ⟨g',0,none⟩) ((fU q).length+1) cap));have HO2:=zh (O1.store 5 (.slice (some ⟨g',0,none⟩) ((fU q).length+1) cap));have HN2:=zh (N1.store 5 (.slice (some ⟨g',0,none⟩) ((fU q).length+1) cap));have HE2:=zh ((E1.setCell (a:=⟨g,5,none⟩) hgl1 (.slice (some ⟨g',0,none⟩) ((fU q).length+1) cap)).toG);clear hown' hgrow hat hlt' R1 O1 N1 E1
      (try simp only [nS])
      refine TG.tkB 15 hS ?_;refine TG.one (i:=16) zf rfl (fun K1 hK1=>?_)
      go_simp
      refine hK1 _ _ (fun h=>absurd rfl h) (TG.done zf ?_);clear hK1 K1 hS
      (try simp only [nS])
      clear hoc hbx hyk hoc2 hof2;obtain⟨w2,hw2⟩:∃w2,w2=w1.setCell ⟨g,5,none⟩ (.slice (some ⟨g',0,none⟩) ((fU q).length+1) cap):=⟨_,rfl⟩;rw [<-hw2]at HR2 HO2 HN2 HE2 ⊢;clear hw2;have HE2B:=zh HE2.out.lt;have hsz2:=HN2.out.size
      go_wp2_with (first
       |(go_at_call 72;refine(rE k _ hlt5).mono ?_;rintro e' w' ⟨rfl,bs3,dr3,rfl⟩)
       |(at_builtin;refine wpList_append_lies _ rfl _ _ 54 rfl wc.heap.size 64 i3 _ 2 24 underlying54 hr hr0 hr1 hr2 rfl zo _ _ _ rfl ((HE2.out.grow bs3 dr3).alloc (.cells #[.string (iy k),.int .i64 (1+(zk.length:Int) % 4)] 64)).own ⟨w2.heap.size+bs3.size,0,none⟩ 1 1 [.string (iy k),.int .i64 (1+(zk.length:Int) % 4)] rfl rfl ?e1 ?e2 zo ?e3 ?e4 ?e5 (w2.heap.size+bs3.size+1) zg ?_))
      case e1=>exact aK _ [.string (iy k),.int .i64 (1+(zk.length:Int) % 4)] _ _ zg
      case e2=>intro u hu;simp at hu;rcases hu with rfl|rfl<;>rfl
      case e3=>have:=HEL.out;unfold maxLen;omega
      case e4=>have:=HEL.out;omega
      case e5=>simp;omega
      intro g2 cap2 w3 hown2 hgrow2 hat2 hlt2;have E3:=bZ.push (rs2:=[]) (m:=w2.heap.size) ((HE2.out.grow bs3 dr3).alloc (.cells #[.string (iy k),.int .i64 (1+(zk.length:Int) % 4)] 64)) (fun x hx=>by cases hx) hsz2 (fun j hj=>(HE2B.out j hj).2) rfl rfl rfl hown2 hgrow2 hat2 zg;have L3:=((((HR2.out.grow bs3 dr3).alloc (.cells #[.string (iy k),.int .i64 (1+(zk.length:Int) % 4)] 64)).mono (X':=fun b=>(Value.slice ea (jL (fF R k)).length ecap).ownBlock≠some b/\b≠g2) (IV hat2 zg)).grown hgrow2 (fun j hj=>Ne.symm hj.1)).mono (X':=fun b=>(Value.slice (some ⟨g2,0,none⟩) ((jL (fF R k)).length+1) cap2).ownBlock≠some b) (fun j hj _ e=>hj.2 (by simpa [Value.ownBlock]using e.symm));have O3:=((HO2.out.grow bs3 dr3).alloc (.cells #[.string (iy k),.int .i64 (1+(zk.length:Int) % 4)] 64)).grown hgrow2 (fun j hj=>by have:=(HE2B.out j hj).1;have:=HOFR.out.gge;omega);have N3:=((HN2.out.grow bs3 dr3).alloc (.cells #[.string (iy k),.int .i64 (1+(zk.length:Int) % 4)] 64)).grown hgrow2 (fun j hj=>(HE2B.out j hj).1);have HE3:=zh E3;have HL3:=zh L3;have HO3:=zh O3;have HN3:=zh N3;clear hown2 hgrow2 hat2 hlt2 E3 L3 O3 N3
      go_wp2_with fail
      go_roundw
      case rel=>exact⟨k+1,_,q++[(iy k,(om R k,v))],by omega,by omega,by go_num,HO3.out,HN3.out,by rw [GZ,map_append];exact HL3.out,by rw [HSF.out,HD.out,Ih];exact HE3.out,HQ.out.push v⟩
      case measure=>simp [intOf];omega
    ·go_wp2_with fail
     go_meet
     exact⟨_,wc.heap.size,q,HOFR.out,HROW1.out.next HNX.out hgH1,HROW2.out.next HNX.out hgH2,⟨hgl1,hH2,HNX.out.size⟩,HL.out.toG,by rw [show fQ R=k by unfold fQ;omega];exact⟨HE.out,HQ.out⟩⟩
   ·go_wp2_with fail
    go_meet
    exact⟨_,wc.heap.size,q,HOFR.out,HROW1.out.next HNX.out hgH1,HROW2.out.next HNX.out hgH2,⟨hgl1,hH2,HNX.out.size⟩,HL.out.toG,by rw [show fQ R=k by unfold fQ;omega];exact⟨HE.out,HQ.out⟩⟩
 obtain⟨vle,H3,ql,hof,hrow1,hrow2,⟨hgH3,hH23,hH3⟩,hrow3,henv,hql⟩:=hcut;clear HROW1 HROW2 HOF1 hgl1 hH2;have HROW1:=zh hrow1;have HROW2:=zh hrow2;have HROW3:=zh hrow3.upto;have HENV:=zh henv;have HQL:=zh hql;have HOF1:=zh hof;have hgl1:=hof.lt;obtain⟨eva,evc,hev⟩:=henv.form;subst hev;clear hof hrow1 hrow2 hrow3 henv hql
 go_step
 exact LD R w h1 h2 h3 h4 ca sa la ia pa ua ccap scap lcap icap pcap ucap hcl hsl hll hil hpl hul HCC HSC HLC HIC HPC HUC g _ wc vcr H1 hgH1 vse H2 hgH2 hH12 vle H3 ql hgH3 hH23 eva evc hH3 HROW1 HROW2 HROW3 HENV HQL HOF1 hgl1 _ _ _ _ _ _ _ _ _ _ _ _ _ _ _ _ _ _ _ _ _ _ _ _ _ _ _ _ _ _ _ _ _ _ _ _ _ _ _ _ _ _ _ _ _ _ _ _ _ _ _ _ _ _ _ _ _ _ _ _ _ _ _ _ _ _ _ _ _ _ _ _ _ _ _ _ _ _ _ _ _ _ _ _ _ _ _ _ _ _ _ _ _ _ _ _ _ _ _ _ _ _ _ _ _ _ _ _ _ _ _ _ _ _ _ _ _ _ _ _ _ _ _ _ _ _ _ _ _ _ _ _ _ _ _ _ _ _ _ _ _ _ _ _ _ _ _ _ _ _ _ _ _ _ _ _ _ _ _ _ _ _ _ _ _ _ _ _ _ _ _ _ _ _ _ _ _ _ _ _ _ _ _ _ _ _ _ _ _ _ _ _ _ _ _ _ _ _ _ _ _ _ _ _ _ _ _ _ _ _ _ _ _ _ _ _ _ _ _ _ _ _ _ _ _ _ _ _ _ _
theorem LG(R:dh)(w:World)(h1:I64 R.frm)(h2:I64 R.mode)(h3:I64 R.unit)(h4:I64 R.twist)(ca:Option Addr)(sa:Option Addr)(la:Option Addr)(ia:Option Addr)(pa:Option Addr)(ua:Option Addr)(ccap:Nat)(scap:Nat)(lcap:Nat)(icap:Nat)(pcap:Nat)(ucap:Nat)(hcl:R.credits.length<=140737488355328)(hsl:R.series.length<=140737488355328)(hll:R.lets.length<=140737488355328)(hil:R.ifs.length<=140737488355328)(hpl:R.pays.length<=140737488355328)(hul:R.cuts.length<=140737488355328)(HCC:Hid (R.credits.length=0\/∃b off,ca=some ⟨b,off,none⟩/\b<w.heap.size/\∀(i:Nat),i<R.credits.length->w.cell? ⟨b,off+i,none⟩=some (.int .i64 (R.credits.getD i 0))))(HSC:Hid (R.series.length=0\/∃b off,sa=some ⟨b,off,none⟩/\b<w.heap.size/\∀(i:Nat),i<R.series.length->w.cell? ⟨b,off+i,none⟩=some (.int .i64 (R.series.getD i 0))))(HLC:Hid (R.lets.length=0\/∃b off,la=some ⟨b,off,none⟩/\b<w.heap.size/\∀(i:Nat),i<R.lets.length->∃u,w.cell? ⟨b,off+i,none⟩=some u/\ay w u (R.lets.getD i [])))(HIC:Hid (R.ifs.length=0\/∃b off,ia=some ⟨b,off,none⟩/\b<w.heap.size/\∀(i:Nat),i<R.ifs.length->∃u,w.cell? ⟨b,off+i,none⟩=some u/\ay w u (R.ifs.getD i [])))(HPC:Hid (R.pays.length=0\/∃b off,pa=some ⟨b,off,none⟩/\b<w.heap.size/\∀(i:Nat),i<R.pays.length->∃u,w.cell? ⟨b,off+i,none⟩=some u/\ay w u (R.pays.getD i [])))(HUC:Hid (R.cuts.length=0\/∃b off,ua=some ⟨b,off,none⟩/\b<w.heap.size/\∀(i:Nat),i<R.cuts.length->∃u,w.cell? ⟨b,off+i,none⟩=some u/\ay w u (R.cuts.getD i [])))(g:Nat)(wk:Nat)(wc:World)(vcr:Value)(H1:Nat)(hgH1:g<H1)(hH1:H1<=wc.heap.size)(HROW1:Hid (bH 129 2 H1 (· <wc.heap.size) wc vcr (bJ R (ig R)) []))(HOF1:Hid (dZ w (fu R (.slice ca R.credits.length ccap) (.slice sa R.series.length scap) (.slice la R.lets.length lcap) (.slice ia R.ifs.length icap) (.slice pa R.pays.length pcap) (.slice ua R.cuts.length ucap)) g #[.int .i64 (pick R.frm 73049),.int .i64 (pick R.mode 4+1),.int .i64 (bv (pick R.unit 5)),vcr,.slice none 0 0,.slice none 0 0,.slice none 0 0,.slice none 0 0] wc))(hgl1:g<wc.heap.size)(u5 u6 u17 u18 u19 u20 u21 u22 u23 u24 u25 u26 u27 u28 u29 u30 u31 u32 u33 u34 u35 u36 u37 u38 u39 u40 u41 u42 u43 u44 u45 u46 u47 u48 u49 u50 u51 u52 u53 u54 u55 u56 u57 u58 u59 u60 u61 u62 u63 u64 u65 u66 u67 u68 u69 u70 u71 u72 u73 u74 u75 u76 u77 u78 u79 u80 u81 u82 u83 u84 u85 u86 u87 u88 u89 u90 u91 u92 u93 u94 u95 u96 u97 u98 u99 u100 u101 u102 u103 u104 u105 u106 u107 u108 u109 u110 u111 u112 u113 u114 u115 u116 u117 u118 u119 u120 u121 u122 u123 u124 u125 u126 u127 u128 u129 u130 u131 u132 u133 u134 u135 u136 u137 u138 u139 u140 u141 u142 u143 u144 u145 u146 u147 u148 u149 u150 u151 u152 u153 u154 u155 u156 u157 u158 u159 u160 u161 u162 u163 u164 u165 u166 u167 u168 u169 u170 u171 u172 u173 u174 u175 u176 u177 u178 u179 u180 u181 u182 u183 u184 u185 u186 u187 u188 u189 u190 u191 u192 u193 u194 u195 u196 u197 u198 u199 u200 u201 u202 u203 u204 u205 u206 u207 u208 u209 u210 u211 u212 u213 u214 u215 u216 u217 u218 u219 u220 u221 u222 u223 u224 u225 u226 u227 u228 u229 u230 u231 u232 u233 u234 u235 u236 u237 u238 u239:Value) :
 Code.wp prog (tlC (tlC (tlC (tlC (f36.body.getD .skip))))) (bodyPost prog f36 (jc R w)) {tmps:=#[(.agg (fu R (.slice ca R.credits.length ccap) (.slice sa R.series.length scap) (.slice la R.lets.length lcap) (.slice ia R.ifs.length icap) (.slice pa R.pays.length pcap) (.slice ua R.cuts.length ucap))),.pointer (some ⟨w.heap.size,0,none⟩),.pointer (some ⟨w.heap.size+1,0,none⟩),.pointer (some ⟨g,0,none⟩),.slice (some ⟨wk,0,none⟩) 6 6,u5,u6,undef,undef,undef,undef,undef,undef,undef,undef,undef,undef,u17,u18,u19,u20,u21,u22,u23,u24,u25,u26,u27,u28,u29,u30,u31,u32,u33,u34,u35,u36,u37,u38,u39,u40,u41,u42,u43,u44,u45,u46,u47,u48,u49,u50,u51,u52,u53,u54,u55,u56,u57,u58,u59,u60,u61,u62,u63,u64,u65,u66,u67,u68,u69,u70,u71,u72,u73,u74,u75,u76,u77,u78,u79,u80,u81,u82,u83,u84,u85,u86,u87,u88,u89,u90,u91,u92,u93,u94,u95,u96,u97,u98,u99,u100,u101,u102,u103,u104,u105,u106,u107,u108,u109,u110,u111,u112,u113,u114,u115,u116,u117,u118,u119,u120,u121,u122,u123,u124,u125,u126,u127,u128,u129,u130,u131,u132,u133,u134,u135,u136,u137,u138,u139,u140,u141,u142,u143,u144,u145,u146,u147,u148,u149,u150,u151,u152,u153,u154,u155,u156,u157,u158,u159,u160,u161,u162,u163,u164,u165,u166,u167,u168,u169,u170,u171,u172,u173,u174,u175,u176,u177,u178,u179,u180,u181,u182,u183,u184,u185,u186,u187,u188,u189,u190,u191,u192,u193,u194,u195,u196,u197,u198,u199,u200,u201,u202,u203,u204,u205,u206,u207,u208,u209,u210,u211,u212,u213,u214,u215,u216,u217,u218,u219,u220,u221,u222,u223,u224,u225,u226,u227,u228,u229,u230,u231,u232,u233,u234,u235,u236,u237,u238,u239],defers:=[]} wc:=by
 obtain⟨i0,hi,hz0,hz1,hz2⟩:=info_parts mq;obtain⟨i1,hj,hj0,hj1,hj2⟩:=info_parts pE;obtain⟨i2,hq,hq0,hq1,hq2⟩:=info_parts pz;obtain⟨i3,hr,hr0,hr1,hr2⟩:=info_parts mr;obtain⟨i4,ht,ht0,ht1,ht2⟩:=info_parts kM;obtain⟨i5,hv,hv0,hv1,hv2⟩:=info_parts jJ
 conv=>arg 2;whnf
 unfold fu
 go_upto_block 2 with fail
 go_cut []from 17 (fun wx=>∃vse H2,dZ w (fu R (.slice ca R.credits.length ccap) (.slice sa R.series.length scap) (.slice la R.lets.length lcap) (.slice ia R.ifs.length icap) (.slice pa R.pays.length pcap) (.slice ua R.cuts.length ucap)) g #[.int .i64 (pick R.frm 73049),.int .i64 (pick R.mode 4+1),.int .i64 (bv (pick R.unit 5)),vcr,vse,.slice none 0 0,.slice none 0 0,.slice none 0 0] wx/\bH 129 2 H1 (· <H2) wx vcr (bJ R (ig R)) []/\(g<H2/\H1<=H2/\H2<=wx.heap.size)/\bZ 131 3 H2 wx vse (bX R (l9 R)) [])
 case first=>
  go_wp2_with fail
  go_loopw [7] (fun v7 wr=>∃k:Nat,∃vse:Value,k<=R.series.length/\k<=6/\v7= .int .i64 k/\dZ w (fu R (.slice ca R.credits.length ccap) (.slice sa R.series.length scap) (.slice la R.lets.length lcap) (.slice ia R.ifs.length icap) (.slice pa R.pays.length pcap) (.slice ua R.cuts.length ucap)) g #[.int .i64 (pick R.frm 73049),.int .i64 (pick R.mode 4+1),.int .i64 (bv (pick R.unit 5)),vcr,vse,.slice none 0 0,.slice none 0 0,.slice none 0 0] wr/\Next g wc wr/\bZ 131 3 wc.heap.size wr vse (bX R k) []) (fun v7 _=>6-(intOf v7).toNat)
  case atStart=>exact⟨0,_,by omega,by omega,rfl,HOF1.out,.refl _ _,.nil _ _ _ _⟩
  case round=>
   obtain⟨k,vse,hk,hk6,rfl,hof,hnx,hrow⟩:=hrel;have hbx:wr.cell? ⟨w.heap.size,4,none⟩=some (.slice sa R.series.length scap):=cell_of_row _ _ _ _ _ _ hof.box;have hoc:wr.cell? ⟨g,4,none⟩=some vse:=cell_of_row _ _ _ _ _ _ hof.out;have hl0:=hof.lt0;have hl1:w.heap.size<wr.heap.size:=by omega
   have hl2:=hof.lt;have hl3:=hnx.size;have HNX:=zh hnx;have HOFR:=zh hof;have HROW:=zh hrow;have HCL:=zh (rX R k);obtain⟨aa,acap,rfl⟩:=hrow.form;clear hof hnx hrow hl0;by_cases hlt:k<R.series.length
   ·by_cases hlt6:k<6
    ·rcases HSC.out with h0|⟨b,off,rfl,hb,hx⟩
     ·omega
     ·have hxk:=hx k hlt;have hkb:b<wr.heap.size:=by omega
      have hyk:wr.cell? ⟨b,off+k,none⟩=some (.int .i64 (R.series.getD k 0)):=by rw [HOFR.out.bel.cell (by exact hb)];exact hxk
      have HXK:=zh hxk;clear hxk hx;have d1:(k:Int)<(R.series.length:Int):=by omega
      have d2:(k:Int)<6:=by omega
      have HSU:=zh (vJ R k);have HSY:Hid (MC R k=1930+25*k+pick (R.series.getD k 0) 20):=zh rfl;have HSN:Hid (ME R k=mkN (pick (R.series.getD k 0) 4000+1) 1000):=zh rfl;have HSD:Hid (MF R k=mkD (pick (R.series.getD k 0) 4000+1) 1000):=zh rfl;generalize hzk:R.series.getD k 0=zk at *;clear hzk;have hp4:=dO zk 4000 ze;have hp2:=dO zk 20 ze
      go_upto_region 14 with (first
       |(go_at_call 15;refine(bP _ _ _ ze).mono ?_;rintro e w' ⟨rfl,rfl⟩)
       |(go_at_call 46;refine(fo _ _ _ ze ze ze ze).mono ?_;rintro e w' ⟨rfl,bs,d,rfl⟩))
      have hm1:IntKind.i64.wrap (25*(k:Int))=25*k:=IntWalk.i64_in _ ze;have hm2:IntKind.i64.wrap (1930+25*(k:Int))=1930+25*k:=IntWalk.i64_in _ ze;have hm3:IntKind.i64.wrap (1930+25*(k:Int)+pick zk 20)=1930+25*k+pick zk 20:=IntWalk.i64_in _ ze;generalize hN:mkN (pick zk 4000+1) 1000=fn at HSN ⊢;generalize hD:mkD (pick zk 4000+1) 1000=fd at HSD ⊢;clear hN hD hp4 hp2;refine TG.begin 17 (fun w'=>w'.cell? ⟨g,4,none⟩=some (.slice aa (bX R k).length acap)/\w'.cell? ⟨w.heap.size,4,none⟩=some (.slice (some ⟨b,off,none⟩) R.series.length scap)/\w'.cell? ⟨b,off+k,none⟩=some (.int .i64 zk)/\w'.cell? ⟨wr.heap.size+bs.size,0,none⟩=some (.int .i64 fn)/\w'.cell? ⟨wr.heap.size+bs.size,1,none⟩=some (.int .i64 fd)) zf zf ?_ (fun hS=>?_)
      focus
       refine⟨?_, ?_, ?_, ?_, ?_⟩<;>simp [go_sem,hoc,hbx,hyk,hl1,hl2,hkb]
      refine TG.tkB 0 hS ?_;refine TG.tkB 1 hS ?_;refine TG.tkB 2 hS ?_;refine TG.tkB 3 hS ?_;refine TG.tkB 4 hS ?_;refine TG.tkB 5 hS ?_;refine TG.tkB 6 hS ?_;refine TG.tkB 7 hS ?_;refine TG.tkB 8 hS ?_;refine TG.tkB 9 hS ?_;refine TG.takeC (i:=10) (v:=(.int .i64 (pick zk 20))) (fn:=15) (args:=#[.int .i64 zk,.int .i64 20]) rfl zf zf zf zo (fun _ _ _ h=>h) rfl hS ?_ ?_ ?_
      focus
       intro wS hSw
       (try dsimp only at hSw)
       go_simp
      focus exact fun wS _=>(bP _ _ _ ze)
      (try simp only [nS])
      refine TG.tkB 11 hS ?_;refine TG.tkB 12 hS ?_;refine TG.tkB 13 hS ?_;refine TG.one (i:=14) zf rfl (fun K1 hK1=>?_)
      go_simp
      refine TG.go hK1 ?_ (fun hS=>?_)
      focus
       (try dsimp only)
       (refine⟨?_, ?_, ?_, ?_, ?_⟩<;>simp [go_sem,hoc,hbx,hyk,hl1,hl2,hkb])
      clear hK1 K1
      (try simp only [nS])
      have HSW:=zh hS;refine TG.one (i:=15) zf rfl (fun K1 hK1=>?_);refine step_append_lies _ rfl _ _ 76 rfl wc.heap.size 131 i1 _ 3 24 underlying76 hj hj0 hj1 hj2 rfl zo _ _ _ rfl (((HROW.out.grow bs d).alloc (.cells #[.int .i64 fn,.int .i64 fd] 23)).alloc (.cells #[.int .i64 (1930+25*k+pick zk 20),.int .i64 fn,.int .i64 fd] 131)).own ⟨wr.heap.size+bs.size+1,0,none⟩ 1 1 [.int .i64 (1930+25*k+pick zk 20),.int .i64 fn,.int .i64 fd] rfl rfl ?_ ?_ zo ?_ ?_ ?_ (wr.heap.size+bs.size+2) zg ?_;focus exact fun j u hu=>aK _ [.int .i64 (1930+25*k+pick zk 20),.int .i64 fn,.int .i64 fd] 131 _ zg j u hu
      focus(intro u hu;simp at hu;rcases hu with rfl|rfl|rfl<;>rfl)
      focus(have:=HCL.out;unfold maxLen;omega)
      focus(have:=HCL.out;omega)
      focus(simp;omega)
      intro g' cap w1 hown' hgrow hat hlt';have hrowb:=HROW.out.lt;have R1:=bZ.push (rs2:=[]) (m:=wr.heap.size) (((HROW.out.grow bs d).alloc (.cells #[.int .i64 fn,.int .i64 fd] 23)).alloc (.cells #[.int .i64 (1930+25*k+pick zk 20),.int .i64 fn,.int .i64 fd] 131)).drew (fun x hx=>by cases hx) hl3 (fun j hj=>(hrowb j hj).2) rfl rfl rfl hown' hgrow hat zg;have O1:=(((HOFR.out.grow bs d).alloc (.cells #[.int .i64 fn,.int .i64 fd] 23)).alloc (.cells #[.int .i64 (1930+25*k+pick zk 20),.int .i64 fn,.int .i64 fd] 131)).drew.grown hgrow (fun j hj=>by have:=(hrowb j hj).1;have:=HOFR.out.gge;omega);have N1:=(((HNX.out.grow bs d).alloc (.cells #[.int .i64 fn,.int .i64 fd] 23)).alloc (.cells #[.int .i64 (1930+25*k+pick zk 20),.int .i64 fn,.int .i64 fd] 131)).drew.grown hgrow (fun j hj=>(hrowb j hj).1);have hoc2:w1.cell? ⟨g,4,none⟩=some (.slice aa (bX R k).length acap):=cell_of_row _ _ _ _ _ _ O1.out;have hof2:w1.frozen? ⟨g,4,none⟩=false:=Joins.unfrozen_of_block O1.out 4;have hf0:=(hgrow.cell_far ⟨wr.heap.size+bs.size,0,none⟩ zp (fun e=>absurd (hrowb (wr.heap.size+bs.size) e.symm).2 ze)).trans HSW.out.2.2.2.1;have hf1:=(hgrow.cell_far ⟨wr.heap.size+bs.size,1,none⟩ zp (fun e=>absurd (hrowb (wr.heap.size+bs.size) e.symm).2 ze)).trans HSW.out.2.2.2.2;have hyk2:=(O1.bel.cell (p:=⟨b,off+k,none⟩) hb).trans HXK.out
      (try simp only [nS])
      refine TG.go hK1 ?_ (fun hS=>?_);focus exact⟨hoc2,cell_of_row _ _ _ _ _ _ O1.box,hyk2,hf0,hf1⟩
      clear hK1 K1 HSW hf0 hf1 hyk2;have R2:=zh (R1.setCell (a:=⟨g,4,none⟩) hgl1 (.slice (some ⟨g',0,none⟩) ((bX R k).length+1) cap));have O2:=zh (O1.store 4 (.slice (some ⟨g',0,none⟩) ((bX R k).length+1) cap));have N2:=zh (N1.store 4 (.slice (some ⟨g',0,none⟩) ((bX R k).length+1) cap));clear hown' hgrow hat hlt' R1 O1 N1 hrowb
      (try simp only [nS])
      refine TG.tkB 16 hS ?_;refine TG.one (i:=17) zf rfl (fun K1 hK1=>?_)
      go_simp
      refine hK1 _ _ (fun h=>absurd rfl h) (TG.done zf ?_);clear hK1 K1 hS
      (try simp only [nS])
      go_wp2_with fail
      go_roundw
      case rel=>exact⟨k+1,_,by omega,by omega,by go_num,O2.out,N2.out,by rw [HSU.out,HSY.out,HSN.out,HSD.out];exact R2.out⟩
      case measure=>simp [intOf];omega
    ·go_wp2_with fail
     go_meet
     exact⟨_,wc.heap.size,HOFR.out,HROW1.out.next HNX.out hgH1,⟨hgl1,hH1,HNX.out.size⟩,by rw [show l9 R=k by unfold l9;omega];exact HROW.out⟩
   ·go_wp2_with fail
    go_meet
    exact⟨_,wc.heap.size,HOFR.out,HROW1.out.next HNX.out hgH1,⟨hgl1,hH1,HNX.out.size⟩,by rw [show l9 R=k by unfold l9;omega];exact HROW.out⟩
 obtain⟨vse,H2,hof,hrow1,⟨hgH2,hH12,hH2⟩,hrow2⟩:=hcut;clear HROW1 HOF1 hgl1 hH1;have HROW1:=zh hrow1;have HROW2:=zh hrow2.upto;have HOF1:=zh hof;have hgl1:=hof.lt;clear hof hrow1 hrow2
 go_step
 exact LF R w h1 h2 h3 h4 ca sa la ia pa ua ccap scap lcap icap pcap ucap hcl hsl hll hil hpl hul HCC HSC HLC HIC HPC HUC g _ wc vcr H1 hgH1 vse H2 hgH2 hH12 hH2 HROW1 HROW2 HOF1 hgl1 _ _ _ _ _ _ _ _ _ _ _ _ _ _ _ _ _ _ _ _ _ _ _ _ _ _ _ _ _ _ _ _ _ _ _ _ _ _ _ _ _ _ _ _ _ _ _ _ _ _ _ _ _ _ _ _ _ _ _ _ _ _ _ _ _ _ _ _ _ _ _ _ _ _ _ _ _ _ _ _ _ _ _ _ _ _ _ _ _ _ _ _ _ _ _ _ _ _ _ _ _ _ _ _ _ _ _ _ _ _ _ _ _ _ _ _ _ _ _ _ _ _ _ _ _ _ _ _ _ _ _ _ _ _ _ _ _ _ _ _ _ _ _ _ _ _ _ _ _ _ _ _ _ _ _ _ _ _ _ _ _ _ _ _ _ _ _ _ _ _ _ _ _ _ _ _ _ _ _ _ _ _ _ _ _ _ _ _ _ _ _ _ _ _ _ _ _ _ _ _ _ _ _ _ _ _ _ _ _ _ _ _ _ _ _ _ _ _ _ _ _ _ _ _ _ _ _ _
theorem OQ(R:dh)(vc vs vl vi vp vu:Value)(w:World)(h1:I64 R.frm)(h2:I64 R.mode)(h3:I64 R.unit)(h4:I64 R.twist)
 (hC:ay w vc R.credits) (hS:ay w vs R.series) (hL:eY w vl R.lets) (hI:eY w vi R.ifs) (hP:eY w vp R.pays) (hU:eY w vu R.cuts) :
 Calls prog 36 #[.agg #[.int .i64 R.frm,.int .i64 R.mode,.int .i64 R.unit,vc,vs,vl,vi,vp,vu,.int .i64 R.twist]] w (jc R w):=by

 obtain⟨i0,hi,hz0,hz1,hz2⟩:=info_parts mq;obtain⟨i1,hj,hj0,hj1,hj2⟩:=info_parts pE;obtain⟨i2,hq,hq0,hq1,hq2⟩:=info_parts pz;obtain⟨i3,hr,hr0,hr1,hr2⟩:=info_parts mr;obtain⟨i4,ht,ht0,ht1,ht2⟩:=info_parts kM;obtain⟨i5,hv,hv0,hv1,hv2⟩:=info_parts jJ;obtain⟨hcl,-,ca,ccap,rfl,hcc⟩:=hC;have HCC:=zh hcc;obtain⟨hsl,-,sa,scap,rfl,hsc⟩:=hS;have HSC:=zh hsc;obtain⟨hll,la,lcap,rfl,hlc⟩:=hL;have HLC:=zh hlc;obtain⟨hil,ia,icap,rfl,hic⟩:=hI;have HIC:=zh hic;obtain⟨hpl,pa,pcap,rfl,hpc⟩:=hP;have HPC:=zh hpc;obtain⟨hul,ua,ucap,rfl,huc⟩:=hU;have HUC:=zh huc;clear hcc hsc hlc hic hpc huc
 go_enter func36,ntmps36
 go_upto_region 1 with fail
 go_cut [3]from 17 (fun v3 wx=>∃g,v3= .pointer (some ⟨g,0,none⟩)/\dZ w (fu R (.slice ca R.credits.length ccap) (.slice sa R.series.length scap) (.slice la R.lets.length lcap) (.slice ia R.ifs.length icap) (.slice pa R.pays.length pcap) (.slice ua R.cuts.length ucap)) g #[.int .i64 (pick R.frm 73049),.int .i64 (pick R.mode 4+1),.int .i64 (bv (pick R.unit 5)),.slice none 0 0,.slice none 0 0,.slice none 0 0,.slice none 0 0,.slice none 0 0] wx)
 case first=>
  obtain⟨hp0,hp5⟩:=dO R.unit 5 ze;have hpm:=dO R.mode 4 ze;have hM:IntKind.i64.wrap (pick R.mode 4+1)=pick R.mode 4+1:=IntWalk.i64_in _ ze;clear hpm;have hA:=Ls ((w.alloc ((.cells #[.int .i64 R.frm,.int .i64 R.mode,.int .i64 R.unit,(.slice ca R.credits.length ccap),(.slice sa R.series.length scap),(.slice la R.lets.length lcap),(.slice ia R.ifs.length icap),(.slice pa R.pays.length pcap),(.slice ua R.cuts.length ucap),.int .i64 R.twist] 72))).alloc ((.cells #[.int .i64 0,.int .i64 0,.int .i64 0,.slice none 0 0,.slice none 0 0,.slice none 0 0,.slice none 0 0,.slice none 0 0] 81))) (pick R.unit 5) (w.heap.size+1+1) zg hp0 hp5;have hB:=Ls (((w.alloc ((.cells #[.int .i64 R.frm,.int .i64 R.mode,.int .i64 R.unit,(.slice ca R.credits.length ccap),(.slice sa R.series.length scap),(.slice la R.lets.length lcap),(.slice ia R.ifs.length icap),(.slice pa R.pays.length pcap),(.slice ua R.cuts.length ucap),.int .i64 R.twist] 72))).alloc ((.cells #[.int .i64 0,.int .i64 0,.int .i64 0,.slice none 0 0,.slice none 0 0,.slice none 0 0,.slice none 0 0,.slice none 0 0] 81))).alloc ((.cells #[.int .i64 0,.int .i64 0,.int .i64 0,.slice none 0 0,.slice none 0 0,.slice none 0 0,.slice none 0 0,.slice none 0 0] 81))) (pick R.unit 5) (w.heap.size+1+1+1) zg hp0 hp5;refine TG.begin 16 (fun w'=>w'.cell? ⟨w.heap.size,0,none⟩=some (.int .i64 R.frm)/\w'.cell? ⟨w.heap.size,1,none⟩=some (.int .i64 R.mode)/\w'.cell? ⟨w.heap.size,2,none⟩=some (.int .i64 R.unit)) zf zf zG (fun hS=>?_);refine TG.tkB 0 hS ?_;refine TG.tkB 1 hS ?_;refine TG.takeC (i:=2) (v:=(.int .i64 (pick R.frm 73049))) (fn:=15) (args:=#[.int .i64 R.frm,.int .i64 73049]) rfl zf zf zf zo (fun _ _ _ h=>h) rfl hS ?_ ?_ ?_
  focus
   intro wS hSw
   (try dsimp only at hSw)
   go_simp
  focus exact fun wS _=>(bP _ _ _ ze)
  (try simp only [nS])
  refine TG.tkB 3 hS ?_;refine TG.tkB 4 hS ?_;refine TG.takeC (i:=5) (v:=(.int .i64 (pick R.mode 4))) (fn:=15) (args:=#[.int .i64 R.mode,.int .i64 4]) rfl zf zf zf zo (fun _ _ _ h=>h) rfl hS ?_ ?_ ?_
  focus
   intro wS hSw
   (try dsimp only at hSw)
   go_simp
  focus exact fun wS _=>(bP _ _ _ ze)
  (try simp only [nS])
  refine TG.tkB 6 hS ?_;refine TG.tkB 8 hS ?_;refine TG.tkB 9 hS ?_;refine TG.takeC (i:=10) (v:=(.int .i64 (pick R.unit 5))) (fn:=15) (args:=#[.int .i64 R.unit,.int .i64 5]) rfl zf zf zf zo (fun _ _ _ h=>h) rfl hS ?_ ?_ ?_
  focus
   intro wS hSw
   (try dsimp only at hSw)
   go_simp
  focus exact fun wS _=>(bP _ _ _ ze)
  (try simp only [nS])
  refine TG.two (i:=7) (k:=15) zf rfl rfl (fun K1 hK1=>?_) (fun K1 hK1=>?_)
  ·go_simp
   refine TG.go hK1 ?_ (fun hS=>?_)
   focus
    (try dsimp only)
    go_keep
   clear hK1 K1
   (try simp only [nS])
   refine TG.tkB 11 hS ?_;refine TG.two (i:=12) (k:=15) zf rfl rfl (fun K1 hK1=>?_) (fun K1 hK1=>?_)
   focus
    go_simp
    refine TG.go hK1 ?_ (fun hS=>?_)
    focus
     (try dsimp only)
     go_keep
    clear hK1 K1
    (try simp only [nS])
    refine TG.tkB 13 hS ?_;refine TG.tkB 14 hS ?_;refine TG.one (i:=15) zf rfl (fun K1 hK1=>?_)
    go_simp
    refine TG.go hK1 ?_ (fun hS=>?_)
    focus
     (try dsimp only)
     go_keep
    clear hK1 K1
    (try simp only [nS])
   rotate_left
   focus
    go_simp
    refine TG.go hK1 ?_ (fun hS=>?_)
    focus
     (try dsimp only)
     go_keep
    clear hK1 K1
    (try simp only [nS])
    refine TG.one (i:=12) zf rfl (fun K1 hK1=>?_)
    go_simp
    refine TG.go hK1 ?_ (fun hS=>?_)
    focus
     (try dsimp only)
     go_keep
    clear hK1 K1
    (try simp only [nS])
    refine TG.tkB 13 hS ?_;refine TG.tkB 14 hS ?_
   rotate_left
   all_goals
    refine TG.one (i:=16) zf rfl (fun K1 hK1=>?_)
    go_simp
    refine hK1 _ _ (fun h=>absurd rfl h) (TG.done zf ?_);clear hK1 K1 hS
    (try simp only [nS])
    go_wp2_with fail
    go_meet
    exact⟨_,rfl,dZ.start_a _ _ _ _⟩
  ·go_simp
   refine TG.go hK1 ?_ (fun hS=>?_)
   focus
    (try dsimp only)
    go_keep
   clear hK1 K1
   (try simp only [nS])
   refine TG.one (i:=7) zf rfl (fun K1 hK1=>?_)
   go_simp
   refine TG.go hK1 ?_ (fun hS=>?_)
   focus
    (try dsimp only)
    go_keep
   clear hK1 K1
   (try simp only [nS])
   refine TG.tkB 11 hS ?_;refine TG.one (i:=12) zf rfl (fun K1 hK1=>?_)
   go_simp
   refine TG.go hK1 ?_ (fun hS=>?_)
   focus
    (try dsimp only)
    go_keep
   clear hK1 K1
   (try simp only [nS])
   refine TG.tkB 13 hS ?_;refine TG.tkB 14 hS ?_;refine TG.one (i:=16) zf rfl (fun K1 hK1=>?_)
   go_simp
   refine hK1 _ _ (fun h=>absurd rfl h) (TG.done zf ?_);clear hK1 K1 hS
   (try simp only [nS])
   go_wp2_with fail
   go_meet
   exact⟨_,rfl,dZ.start_b _ _ _ _⟩
 obtain⟨g,rfl,hof⟩:=hcut;have hgl:=hof.lt;have HOF:=zh hof;clear hof
 go_upto_block 0 with fail
 go_cut []from 17 (fun wx=>∃vcr H1,dZ w (fu R (.slice ca R.credits.length ccap) (.slice sa R.series.length scap) (.slice la R.lets.length lcap) (.slice ia R.ifs.length icap) (.slice pa R.pays.length pcap) (.slice ua R.cuts.length ucap)) g #[.int .i64 (pick R.frm 73049),.int .i64 (pick R.mode 4+1),.int .i64 (bv (pick R.unit 5)),vcr,.slice none 0 0,.slice none 0 0,.slice none 0 0,.slice none 0 0] wx/\(g<H1/\H1<=wx.heap.size)/\bZ 129 2 H1 wx vcr (bJ R (ig R)) [])
 case first=>
  go_wp2_with fail
  go_loopw [5] (fun v5 wr=>∃k:Nat,∃vcr:Value,k<=R.credits.length/\k<=4/\v5= .int .i64 k/\dZ w (fu R (.slice ca R.credits.length ccap) (.slice sa R.series.length scap) (.slice la R.lets.length lcap) (.slice ia R.ifs.length icap) (.slice pa R.pays.length pcap) (.slice ua R.cuts.length ucap)) g #[.int .i64 (pick R.frm 73049),.int .i64 (pick R.mode 4+1),.int .i64 (bv (pick R.unit 5)),vcr,.slice none 0 0,.slice none 0 0,.slice none 0 0,.slice none 0 0] wr/\wr.heap[wc.heap.size]? =some Qf/\bZ 129 2 (wc.heap.size+1) wr vcr (bJ R k) []) (fun v5 _=>4-(intOf v5).toNat)
  case atStart=>exact⟨0,_,by omega,by omega,rfl,HOF.out.alloc _,aY _ _ _ rfl,.nil _ _ _ _⟩
  case round=>
   obtain⟨k,vcr,hk,hk4,rfl,hof,hkd,hrow⟩:=hrel;have hbx:wr.cell? ⟨w.heap.size,3,none⟩=some (.slice ca R.credits.length ccap):=cell_of_row _ _ _ _ _ _ hof.box;have hoc:wr.cell? ⟨g,3,none⟩=some vcr:=cell_of_row _ _ _ _ _ _ hof.out;have hof1:wr.frozen? ⟨g,3,none⟩=false:=Joins.unfrozen_of_block hof.out 3;have hl0:=hof.lt0;have hl1:w.heap.size<wr.heap.size:=by omega
   have hl2:=hof.lt;have hl3:wc.heap.size<wr.heap.size:=(Array.getElem?_eq_some_iff.1 hkd).1;have HKD:=zh hkd;have HOFR:=zh hof;have HROW:=zh hrow;have HCL:=zh (qP R k);obtain⟨aa,acap,rfl⟩:=hrow.form;clear hof hkd hrow hl0;by_cases hlt:k<R.credits.length
   ·by_cases hlt4:k<4
    ·rcases HCC.out with h0|⟨b,off,rfl,hb,hx⟩
     ·omega
     ·have hx0:=hx 0 ze;have hxk:=hx k hlt;have hkb:b<wr.heap.size:=by omega
      have hy0:wr.cell? ⟨b,off,none⟩=some (.int .i64 (R.credits.getD 0 0)):=by rw [HOFR.out.bel.cell (by exact hb)];exact hx0
      have hyk:wr.cell? ⟨b,off+k,none⟩=some (.int .i64 (R.credits.getD k 0)):=by rw [HOFR.out.bel.cell (by exact hb)];exact hxk
      clear hx0 hxk hx;have d1:(k:Int)<(R.credits.length:Int):=by omega
      have d2:(k:Int)<4:=by omega
      have d3:(0:Int)<(R.credits.length:Int):=by omega
      have hp0:=dO (R.credits.getD 0 0) 6 ze;have HSU:=zh (uW R k)
      have hkk:wr.cell? ⟨wc.heap.size,(((k:Int)+pick (R.credits.getD 0 0) 6) % 6).toNat,none⟩=some (.int .i64 (Cr R k)):=by
       rw [cell_of_row _ _ _ _ _ _ HKD.out];exact Hl _ ze ze
      have hpk:=dO (R.credits.getD k 0) 900 ze;have HKV:Hid (Cq R k=if(R.credits.getD k 0).tmod 3=0 then pick (R.credits.getD k 0) 900+1 else 0):=zh rfl;generalize hz0:R.credits.getD 0 0=z0 at *;generalize hzk:R.credits.getD k 0=zk at *;generalize hpv:pick z0 6=pv at *;have HPV:=zh hpv;generalize hkv:Cr R k=kv at *;generalize hlv:Cq R k=lv at *;clear hz0 hzk hkv hlv hpv;obtain⟨hp1,hp2⟩:=hp0;have HGE:=zh (HOF.out.gge);have hsz1:wc.heap.size+1<=wr.heap.size:=by omega
      by_cases ht:zk.tmod 3=0
      focus
       rw [if_pos ht]at HKV
       go_wp2_with (first
        |(go_at_call 15;refine(bP _ _ _ ze).mono ?_;rintro e w' ⟨rfl,rfl⟩;try simp only [HPV.out])
        |(at_builtin;refine wpList_append_lies _ rfl _ _ 75 rfl (wc.heap.size+1) 129 i0 _ 2 16 underlying75 hi hz0 hz1 hz2 rfl zo _ _ _ rfl ((HROW.out.alloc _).alloc _).own ⟨wr.heap.size+1,0,none⟩ 1 1 [.int .i64 kv,.int .i64 (pick zk 900+1)] rfl rfl ?c1 ?c2 zo ?c3 ?c4 ?c5 (wr.heap.size+2) zg ?_))
       case c1=>exact aK _ [.int .i64 kv,.int .i64 (pick zk 900+1)] _ _ zg
       case c2=>intro u hu;simp at hu;rcases hu with rfl|rfl<;>rfl
       case c3=>have:=HCL.out;unfold maxLen;omega
       case c4=>have:=HCL.out;omega
       case c5=>simp;omega
       intro g' cap w1 hown' hgrow hat hlt';have R1:=bZ.push (rs2:=[]) (m:=wr.heap.size) ((HROW.out.alloc _).alloc _) (fun x hx=>by cases hx) hsz1 (fun j hj=>(HROW.out.lt j hj).2) rfl rfl rfl hown' hgrow hat zg;have O1:=((HOFR.out.alloc (.cells #[.int .i64 kv,.int .i64 (pick zk 900+1)] 129)).alloc (.cells #[.int .i64 kv,.int .i64 (pick zk 900+1)] 129)).grown hgrow (fun j hj=>by have:=(HROW.out.lt j hj).1;have:=HGE.out;omega)
      rotate_left
      focus
       rw [if_neg ht]at HKV
       go_wp2_with (first
        |(go_at_call 15;refine(bP _ _ _ ze).mono ?_;rintro e w' ⟨rfl,rfl⟩;try simp only [HPV.out])
        |(at_builtin;refine wpList_append_lies _ rfl _ _ 75 rfl (wc.heap.size+1) 129 i0 _ 2 16 underlying75 hi hz0 hz1 hz2 rfl zo _ _ _ rfl ((HROW.out.alloc _).alloc _).own ⟨wr.heap.size+1,0,none⟩ 1 1 [.int .i64 kv,.int .i64 (0)] rfl rfl ?c1 ?c2 zo ?c3 ?c4 ?c5 (wr.heap.size+2) zg ?_))
       case c1=>exact aK _ [.int .i64 kv,.int .i64 (0)] _ _ zg
       case c2=>intro u hu;simp at hu;rcases hu with rfl|rfl<;>rfl
       case c3=>have:=HCL.out;unfold maxLen;omega
       case c4=>have:=HCL.out;omega
       case c5=>simp;omega
       intro g' cap w1 hown' hgrow hat hlt';have R1:=bZ.push (rs2:=[]) (m:=wr.heap.size) ((HROW.out.alloc _).alloc _) (fun x hx=>by cases hx) hsz1 (fun j hj=>(HROW.out.lt j hj).2) rfl rfl rfl hown' hgrow hat zg;have O1:=((HOFR.out.alloc (.cells #[.int .i64 kv,.int .i64 (0)] 129)).alloc (.cells #[.int .i64 kv,.int .i64 (0)] 129)).grown hgrow (fun j hj=>by have:=(HROW.out.lt j hj).1;have:=HGE.out;omega)
      rotate_left
      all_goals
       have K1:=(hgrow.block wc.heap.size zp (fun e=>by have:=(HROW.out.lt _ e.symm).1;omega)).trans ((Below.heap_alloc _ _ _ zp).trans ((Below.heap_alloc _ _ _ hl3).trans HKD.out));have hoc2:w1.cell? ⟨g,3,none⟩=some (.slice aa (bJ R k).length acap):=cell_of_row _ _ _ _ _ _ O1.out;have hof2:w1.frozen? ⟨g,3,none⟩=false:=Joins.unfrozen_of_block O1.out 3;have R2:=zh (R1.setCell (a:=⟨g,3,none⟩) (show g<wc.heap.size+1 by omega) (.slice (some ⟨g',0,none⟩) ((bJ R k).length+1) cap));have O2:=zh (O1.store 3 (.slice (some ⟨g',0,none⟩) ((bJ R k).length+1) cap));have K2:=zh ((Below.heap_setCell w1 ⟨g,3,none⟩ (.slice (some ⟨g',0,none⟩) ((bJ R k).length+1) cap) wc.heap.size (by show wc.heap.size≠g;omega)).trans K1);clear hown' hgrow hat hlt' R1 O1 K1
       go_wp2_with fail
       go_roundw
       case rel=>exact⟨k+1,_,by omega,by omega,by go_num,O2.out,K2.out,by rw [HSU.out,HKV.out];exact R2.out⟩
       case measure=>simp [intOf];omega
    ·go_wp2_with fail
     go_meet
     exact⟨_,wc.heap.size+1,HOFR.out,⟨by omega,by omega⟩,by rw [show ig R=k by unfold ig;omega];exact HROW.out⟩
   ·go_wp2_with fail
    go_meet
    exact⟨_,wc.heap.size+1,HOFR.out,⟨by omega,by omega⟩,by rw [show ig R=k by unfold ig;omega];exact HROW.out⟩
 obtain⟨vcr,H1,hof,⟨hgH1,hH1⟩,hrow1⟩:=hcut;have HROW1:=zh hrow1.upto;have HOF1:=zh hof;have hgl1:=hof.lt;clear HOF hgl hof hrow1
 go_step
 exact LG R w h1 h2 h3 h4 ca sa la ia pa ua ccap scap lcap icap pcap ucap hcl hsl hll hil hpl hul HCC HSC HLC HIC HPC HUC g _ wc vcr H1 hgH1 hH1 HROW1 HOF1 hgl1 _ _ _ _ _ _ _ _ _ _ _ _ _ _ _ _ _ _ _ _ _ _ _ _ _ _ _ _ _ _ _ _ _ _ _ _ _ _ _ _ _ _ _ _ _ _ _ _ _ _ _ _ _ _ _ _ _ _ _ _ _ _ _ _ _ _ _ _ _ _ _ _ _ _ _ _ _ _ _ _ _ _ _ _ _ _ _ _ _ _ _ _ _ _ _ _ _ _ _ _ _ _ _ _ _ _ _ _ _ _ _ _ _ _ _ _ _ _ _ _ _ _ _ _ _ _ _ _ _ _ _ _ _ _ _ _ _ _ _ _ _ _ _ _ _ _ _ _ _ _ _ _ _ _ _ _ _ _ _ _ _ _ _ _ _ _ _ _ _ _ _ _ _ _ _ _ _ _ _ _ _ _ _ _ _ _ _ _ _ _ _ _ _ _ _ _ _ _ _ _ _ _ _ _ _ _ _ _ _ _ _ _ _ _ _ _ _ _ _ _ _ _ _ _ _
theorem E5:Hid vC:=zh (by
 intro R cs w hR;obtain⟨h1,h2,h3,h4,vc,vs,vl,vi,vp,vu,he,hC,hS,hL,hI,hP,hU⟩:=hR;obtain⟨l⟩:=cs;simp only at he;subst he
 exact OQ R vc vs vl vi vp vu w h1 h2 h3 h4 hC hS hL hI hP hU)
open Go.RowKit Go.ChangeShapes Go.WideShapes Go.Deep
section
variable {H : Type} {enc : TypeId × Value -> H} {P : Program} {w : World}
theorem eY.of_trod{t e q:TypeId}{fuel:Nat}{v:Value}{x:DataW H × List MemPlace}(ht:P.underlying t=some (.slice e))(he:P.underlying e=some (.slice q))(hq:P.underlying q=some (.int .i64))(ce:P.cellsOf e=1)(cq:P.cellsOf q=1)(be:P.bytesOf e=24)(bq:P.bytesOf q=8)
 (h:DataW.trod enc P w 0 (fun _=>true) true fuel t [v]=some x) (hf:fits P t x.1):∃zss,eY w v zss:=by
 rcases open_int_rows ht he hq ce cq h with ⟨hcs,_⟩|⟨a,len,cap,A,L,C,Z,hcs,_,hl,hm,hx,hr⟩
 ·simp at hcs;subst hcs;exact⟨[],by simp,none,0,rfl,.inl rfl⟩
 ·simp at hcs;subst hcs
  have h8:len<=140737488355328:=by
   have h9:=hf ((len+(cap-len))*24) (by rw [hx];simp [DataW.weights,ht,be]);omega
  have hrow:∀r,r<len->ay w (.slice (A r) (L r) (C r)) ((Z r).take (L r)):=by
   intro r hrl;obtain⟨h1,h2,h3,h4,h5,h6,h7⟩:=hr r ze;refine ay.of_cells h2 h4 h5 ?_ (fun e=>by have:=h6 e;omega) (fun x' hx' i hi=>(h7 x' hx').2 i hi)
   cases hA:A r with
   |none=>have:=h6 hA;omega
   |some y=>
    have h9:=hf ((L r+(C r-L r))*8) (by
     rw [hx];simp only [DataW.weights,ht,mem_cons,mem_append];right;left
     have key:∀(l:List Nat),r∈l->(L r+(C r-L r))*8∈DataW.weightsAll P e (l.map fun r=>(intRow (H:=H) .i64 (A r) (L r) (Z r))):=by
      intro l
      induction l with
      |nil=>intro h;cases h
      |cons y' l ih=>
       intro h;simp only [map_cons,DataW.weightsAll,mem_append];rcases mem_cons.1 h with rfl|h
       ·left;simp [intRow,hA,DataW.weights,he,lits,bq,h4,Nat.min_eq_left h2]
       ·exact .inr (ih h)
     exact key _ (mem_range.2 hrl))
    omega
  refine⟨(List.range len).map fun r=>(Z r).take (L r),by simpa using h8,some a,cap,by simp, ?_⟩;by_cases h0:len=0
  ·left;simp [h0]
  ·right;obtain⟨b,off,spot⟩:=a;have h1:=(hr 0 ze).1;have hspot:spot=none:=by simpa [Addr.add]using World.cell?_spot h1
   subst hspot
   have h2:∀i,i<cap->w.cell? ⟨b,off+i,none⟩=some (.slice (A i) (L i) (C i)):=fun i hi=>by
    rw [<-FO];exact(hr i hi).1
   refine⟨b,off,rfl,FN (h2 0 ze),fun i hi=>?_⟩;have hi':i<len:=by simpa using hi
   refine⟨_,h2 i ze, ?_⟩;have:((List.range len).map fun r=>(Z r).take (L r)).getD i []=(Z i).take (L i):=by simp [getD_eq_getElem?_getD,hi']
   rw [this];exact hrow i hi'
end
theorem OJ{α:Type}{cs:Array α}(h:cs.size=10):∃c0 c1 c2 c3 c4 c5 c6 c7 c8 c9,cs=#[c0,c1,c2,c3,c4,c5,c6,c7,c8,c9]:=by
 obtain⟨l⟩:=cs
 match l,h with
 | [c0,c1,c2,c3,c4,c5,c6,c7,c8,c9],_=>exact⟨c0,c1,c2,c3,c4,c5,c6,c7,c8,c9,rfl⟩
theorem c25:(prog).cellsOf 72=10:=by kernel_rfl
theorem lL.of_trod{H:Type}{enc:TypeId × Value->H}{w:World}{r:Reach}{b0:Nat}{v:Value}{d:DataW H}{p:List MemPlace}(hv:Value.okWide prog w r b0 72 v)
 (h:DataW.Trod enc prog w 0 (fun _=>true) true 72 v d p) (hf:fits prog 72 d) :
 ∃R cs,v= .agg cs/\lL w cs.toList R:=by
 have ht:=underlying72;obtain⟨cs,rfl,hsz⟩:=okWide_struct ht hv;obtain⟨c0,c1,c2,c3',c4,c5,c6,c7,c8,c9,rfl⟩:=OJ (hsz.trans c25);obtain⟨fuel,h⟩:=h;obtain⟨xs,n,_,hx,_,hlen,hF⟩:=DataW.trod_struct ht h;simp only [Prod.mk.injEq]at hx;obtain⟨rfl,-⟩:=hx;have k0:=hF 0 _ rfl;have k1:=hF 1 _ rfl;have k2:=hF 2 _ rfl;have k3:=hF 3 _ rfl;have k4:=hF 4 _ rfl;have k5:=hF 5 _ rfl;have k6:=hF 6 _ rfl;have k7:=hF 7 _ rfl;have k8:=hF 8 _ rfl;have k9:=hF 9 _ rfl;simp only [Value.cells,drop_zero,drop_succ_cons,take_succ_cons,take_zero]at k0 k1 k2 k3 k4 k5 k6 k7 k8 k9
 match xs,hlen with
 | [y0,y1,y2,y3,y4,y5,y6,y7,y8,y9],_=>
   obtain⟨n0,rfl,w0⟩:=eT k0;obtain⟨n1,rfl,w1⟩:=eT k1;obtain⟨n2,rfl,w2⟩:=eT k2;obtain⟨n9,rfl,w9⟩:=eT k9;obtain⟨z3,w3⟩:=ay.of_trod underlying24 underlying3 c3 b3 k3 (gT ht hf (i:=3) rfl rfl);obtain⟨z4,w4⟩:=ay.of_trod underlying24 underlying3 c3 b3 k4 (gT ht hf (i:=4) rfl rfl);obtain⟨z5,w5⟩:=eY.of_trod underlying70 underlying24 underlying3 c22 c3 b22 b3 k5 (gT ht hf (i:=5) rfl rfl);obtain⟨z6,w6⟩:=eY.of_trod underlying70 underlying24 underlying3 c22 c3 b22 b3 k6 (gT ht hf (i:=6) rfl rfl);obtain⟨z7,w7⟩:=eY.of_trod underlying70 underlying24 underlying3 c22 c3 b22 b3 k7 (gT ht hf (i:=7) rfl rfl);obtain⟨z8,w8⟩:=eY.of_trod underlying70 underlying24 underlying3 c22 c3 b22 b3 k8 (gT ht hf (i:=8) rfl rfl);exact⟨⟨n0,n1,n2,z3,z4,z5,z6,z7,z8,n9⟩,_,rfl,w0,w1,w2,w9,c3',c4,c5,c6,c7,c8,rfl,w3,w4,w5,w6,w7,w8⟩
end Go.Proofs.YtlheailebbngiaaGreatDoor
