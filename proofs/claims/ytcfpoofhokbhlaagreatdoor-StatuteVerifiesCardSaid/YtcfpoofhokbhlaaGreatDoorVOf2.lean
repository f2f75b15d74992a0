import Derived.Test.YtcfpoofhokbhlaaGreatDoorVTwistW
set_option linter.all false
set_option maxHeartbeats 16000000
set_option maxRecDepth 1000000
namespace Go.Proofs.YtcfpoofhokbhlaaGreatDoor
open Tryz List
open Go.RowKit
theorem MO(R:cO)(w:World)(h1:I64 R.frm)(h2:I64 R.mode)(h3:I64 R.unit)(h4:I64 R.twist)(ca:Option Addr)(sa:Option Addr)(la:Option Addr)(ia:Option Addr)(pa:Option Addr)(ua:Option Addr)(ccap:Nat)(scap:Nat)(lcap:Nat)(icap:Nat)(pcap:Nat)(ucap:Nat)(hcl:R.credits.length<=140737488355328)(hsl:R.series.length<=140737488355328)(hll:R.lets.length<=140737488355328)(hil:R.ifs.length<=140737488355328)(hpl:R.pays.length<=140737488355328)(hul:R.cuts.length<=140737488355328)(HCC:Hid (R.credits.length=0\/∃b off,ca=some ⟨b,off,none⟩/\b<w.heap.size/\∀(i:Nat),i<R.credits.length->w.cell? ⟨b,off+i,none⟩=some (.int .i64 (R.credits.getD i 0))))(HSC:Hid (R.series.length=0\/∃b off,sa=some ⟨b,off,none⟩/\b<w.heap.size/\∀(i:Nat),i<R.series.length->w.cell? ⟨b,off+i,none⟩=some (.int .i64 (R.series.getD i 0))))(HLC:Hid (R.lets.length=0\/∃b off,la=some ⟨b,off,none⟩/\b<w.heap.size/\∀(i:Nat),i<R.lets.length->∃u,w.cell? ⟨b,off+i,none⟩=some u/\ax w u (R.lets.getD i [])))(HIC:Hid (R.ifs.length=0\/∃b off,ia=some ⟨b,off,none⟩/\b<w.heap.size/\∀(i:Nat),i<R.ifs.length->∃u,w.cell? ⟨b,off+i,none⟩=some u/\ax w u (R.ifs.getD i [])))(HPC:Hid (R.pays.length=0\/∃b off,pa=some ⟨b,off,none⟩/\b<w.heap.size/\∀(i:Nat),i<R.pays.length->∃u,w.cell? ⟨b,off+i,none⟩=some u/\ax w u (R.pays.getD i [])))(HUC:Hid (R.cuts.length=0\/∃b off,ua=some ⟨b,off,none⟩/\b<w.heap.size/\∀(i:Nat),i<R.cuts.length->∃u,w.cell? ⟨b,off+i,none⟩=some u/\ax w u (R.cuts.getD i [])))(g:Nat)(wk:Nat)(wc:World)(vcr:Value)(H1:Nat)(hgH1:g<H1)(vse:Value)(H2:Nat)(hgH2:g<H2)(hH12:H1<=H2)(hH2:H2<=wc.heap.size)(HROW1:Hid (bv 60 2 H1 (· <H2) wc vcr (bE R (gZ R)) []))(HROW2:Hid (bv 64 3 H2 (· <wc.heap.size) wc vse (bS R (l6 R)) []))(HOF1:Hid (dQ w (fo R (.slice ca R.credits.length ccap) (.slice sa R.series.length scap) (.slice la R.lets.length lcap) (.slice ia R.ifs.length icap) (.slice pa R.pays.length pcap) (.slice ua R.cuts.length ucap)) g #[.int .i64 (pick R.frm 73049),.int .i64 (pick R.mode 4+1),.int .i64 (aV (pick R.unit 5)),vcr,vse,.slice none 0 0,.slice none 0 0,.slice none 0 0] wc))(hgl1:g<wc.heap.size)(u5 u6 u7 u8 u9 u17 u18 u19 u20 u21 u22 u23 u24 u25 u26 u27 u28 u29 u30 u31 u32 u33 u34 u35 u36 u37 u38 u39 u40 u41 u42 u43 u44 u45 u46 u47 u48 u49 u50 u51 u52 u53 u54 u55 u56 u57 u58 u59 u60 u61 u62 u63 u64 u65 u66 u67 u68 u69 u70 u71 u72 u73 u74 u75 u76 u77 u78 u79 u80 u81 u82 u83 u84 u85 u86 u87 u88 u89 u90 u91 u92 u93 u94 u95 u96 u97 u98 u99 u100 u101 u102 u103 u104 u105 u106 u107 u108 u109 u110 u111 u112 u113 u114 u115 u116 u117 u118 u119 u120 u121 u122 u123 u124 u125 u126 u127 u128 u129 u130 u131 u132 u133 u134 u135 u136 u137 u138 u139 u140 u141 u142 u143 u144 u145 u146 u147 u148 u149 u150 u151 u152 u153 u154 u155 u156 u157 u158 u159 u160 u161 u162 u163 u164 u165 u166 u167 u168 u169 u170 u171 u172 u173 u174 u175 u176 u177 u178 u179 u180 u181 u182 u183 u184 u185 u186 u187 u188 u189 u190 u191 u192 u193 u194 u195 u196 u197 u198 u199 u200 u201 u202 u203 u204 u205 u206 u207 u208 u209 u210 u211 u212 u213 u214 u215 u216 u217 u218 u219 u220 u221 u222 u223 u224 u225 u226 u227 u228 u229 u230 u231 u232 u233 u234 u235 u236 u237 u238 u239:Value) :
 Code.wp prog (tlC (tlC (tlC (tlC (tlC (f4.body.getD .skip)))))) (bodyPost prog f4 (ja R w)) {tmps:=#[(.agg (fo R (.slice ca R.credits.length ccap) (.slice sa R.series.length scap) (.slice la R.lets.length lcap) (.slice ia R.ifs.length icap) (.slice pa R.pays.length pcap) (.slice ua R.cuts.length ucap))),.pointer (some ⟨w.heap.size,0,none⟩),.pointer (some ⟨w.heap.size+1,0,none⟩),.pointer (some ⟨g,0,none⟩),.slice (some ⟨wk,0,none⟩) 6 6,u5,u6,u7,u8,u9,undef,undef,undef,undef,undef,undef,undef,u17,u18,u19,u20,u21,u22,u23,u24,u25,u26,u27,u28,u29,u30,u31,u32,u33,u34,u35,u36,u37,u38,u39,u40,u41,u42,u43,u44,u45,u46,u47,u48,u49,u50,u51,u52,u53,u54,u55,u56,u57,u58,u59,u60,u61,u62,u63,u64,u65,u66,u67,u68,u69,u70,u71,u72,u73,u74,u75,u76,u77,u78,u79,u80,u81,u82,u83,u84,u85,u86,u87,u88,u89,u90,u91,u92,u93,u94,u95,u96,u97,u98,u99,u100,u101,u102,u103,u104,u105,u106,u107,u108,u109,u110,u111,u112,u113,u114,u115,u116,u117,u118,u119,u120,u121,u122,u123,u124,u125,u126,u127,u128,u129,u130,u131,u132,u133,u134,u135,u136,u137,u138,u139,u140,u141,u142,u143,u144,u145,u146,u147,u148,u149,u150,u151,u152,u153,u154,u155,u156,u157,u158,u159,u160,u161,u162,u163,u164,u165,u166,u167,u168,u169,u170,u171,u172,u173,u174,u175,u176,u177,u178,u179,u180,u181,u182,u183,u184,u185,u186,u187,u188,u189,u190,u191,u192,u193,u194,u195,u196,u197,u198,u199,u200,u201,u202,u203,u204,u205,u206,u207,u208,u209,u210,u211,u212,u213,u214,u215,u216,u217,u218,u219,u220,u221,u222,u223,u224,u225,u226,u227,u228,u229,u230,u231,u232,u233,u234,u235,u236,u237,u238,u239],defers:=[]} wc:=by
 obtain⟨i0,hi,hz0,hz1,hz2⟩:=info_parts mf;obtain⟨i1,hj,hj0,hj1,hj2⟩:=info_parts o9;obtain⟨i2,hq,hq0,hq1,hq2⟩:=info_parts o8;obtain⟨i3,hr,hr0,hr1,hr2⟩:=info_parts mg;obtain⟨i4,ht,ht0,ht1,ht2⟩:=info_parts kL;obtain⟨i5,hv,hv0,hv1,hv2⟩:=info_parts jF
 conv=>arg 2;whnf
 unfold fo
 go_upto_block 4 with fail
 go_cut [10]from 17 (fun vev wx=>∃vle H3 q,dQ w (fo R (.slice ca R.credits.length ccap) (.slice sa R.series.length scap) (.slice la R.lets.length lcap) (.slice ia R.ifs.length icap) (.slice pa R.pays.length pcap) (.slice ua R.cuts.length ucap)) g #[.int .i64 (pick R.frm 73049),.int .i64 (pick R.mode 4+1),.int .i64 (aV (pick R.unit 5)),vcr,vse,vle,.slice none 0 0,.slice none 0 0] wx/\bv 60 2 H1 (· <H2) wx vcr (bE R (gZ R)) []/\bv 64 3 H2 (· <H3) wx vse (bS R (l6 R)) []/\(g<H3/\H2<=H3/\H3<=wx.heap.size)/\bV 72 7 H3 wx vle (fQ q) (q.map (·.2))/\bV 74 2 H3 wx vev (jH (fD R (fP R))) []/\qX R (fP R) q)
 case first=>
  go_wp2_with fail
  go_loopw [10,11] (fun v10 v11 wr=>∃k:Nat,∃vle:Value,∃q:List (ByteArray × (Ex × Value)),k<=R.lets.length/\k<=5/\v11= .int .i64 k/\dQ w (fo R (.slice ca R.credits.length ccap) (.slice sa R.series.length scap) (.slice la R.lets.length lcap) (.slice ia R.ifs.length icap) (.slice pa R.pays.length pcap) (.slice ua R.cuts.length ucap)) g #[.int .i64 (pick R.frm 73049),.int .i64 (pick R.mode 4+1),.int .i64 (aV (pick R.unit 5)),vcr,vse,vle,.slice none 0 0,.slice none 0 0] wr/\Next g wc wr/\bv 72 7 wc.heap.size (fun b=>v10.ownBlock≠some b) wr vle (fQ q) (q.map (·.2))/\bV 74 2 wc.heap.size wr v10 (jH (fD R k)) []/\qX R k q) (fun _ v11 _=>5-(intOf v11).toNat)
  case atStart=>exact⟨0,_,[],by omega,by omega,rfl,HOF1.out,.refl _ _,.nil _ _ _ _ _,.nil _ _ _ _,.nil R⟩
  case round=>
   obtain⟨k,vle,q,hk,hk5,rfl,hof,hnx,hlr,her,hlq⟩:=hrel;have hbx:wr.cell? ⟨w.heap.size,5,none⟩=some (.slice la R.lets.length lcap):=cell_of_row _ _ _ _ _ _ hof.box;have hoc:wr.cell? ⟨g,5,none⟩=some vle:=cell_of_row _ _ _ _ _ _ hof.out;have hl0:=hof.lt0;have hl1:w.heap.size<wr.heap.size:=by omega
   have hl2:=hof.lt;have hl3:=hnx.size;have HNX:=yq hnx;have HOFR:=yq hof;have HL:=yq hlr;have HE:=yq her;have HQ:=yq hlq;have HLL:=yq (show(fQ q).length=k by unfold fQ;rw [length_map];exact hlq.length);have HEL:=yq (show(jH (fD R k)).length=k by unfold jH;rw [length_map];exact mr R k);obtain⟨aa,acap,rfl⟩:=hlr.form;obtain⟨ea,ecap,hev⟩:=her.form;subst hev;clear hof hnx hlr her hl0 hlq;by_cases hlt:k<R.lets.length
   ·by_cases hlt5:k<5
    ·rcases HLC.out with h0|⟨b,off,rfl,hb,hx⟩
     ·omega
     ·obtain⟨u,hxk,hxi⟩:=hx k hlt;have hkb:b<wr.heap.size:=by omega
      have hyk:wr.cell? ⟨b,off+k,none⟩=some u:=by rw [HOFR.out.bel.cell zZ];exact hxk
      have HXI:=yq hxi;obtain⟨za,zcap,rfl⟩:=ax.form hxi;have HXK:=yq hxk;clear hxk hx hxi;have d1:(k:Int)<(R.lets.length:Int):=by omega
      have d2:(k:Int)<5:=by omega
      have HSD:Hid (IJ R k=1+(((R.lets.getD k []).length % 4:Nat):Int)):=yq rfl;have HSE:Hid (nU R k=lJ (R.lets.getD k []) (fD R k) (IJ R k)):=yq rfl;have HSF:=yq (Jd R k);generalize hzk:R.lets.getD k []=zk at *;clear hzk;have hzl:zk.length<=140737488355328:=HXI.out.1;have hm4:(zk.length:Int) % 4=((zk.length % 4:Nat):Int):=by omega
      have HM4:=yq hm4;clear hm4;have hD:IJ R k=1+(zk.length:Int) % 4:=by rw [HSD.out];have:=HM4.out;omega
      have HD:=yq hD;have HEE:Hid (lJ zk (fD R k) (1+(zk.length:Int) % 4)=nU R k):=yq (by rw [HSE.out,HD.out]);have hdb1:1<=1+(zk.length:Int) % 4:=by omega
      have hdb4:1+(zk.length:Int) % 4<=4:=by omega
      have hevb:=HE.out.lt;have HEVB:=yq hevb;have hleb:=HL.out.lt;have HLEB:=yq hleb;have HLX:=yq HL.out.ownX;clear hD hevb hleb
      go_upto_region 20 with fail
      refine TG.begin 16 (fun w'=>w'.cell? ⟨g,5,none⟩=some (.slice aa (fQ q).length acap)/\w'.cell? ⟨w.heap.size,5,none⟩=some (.slice (some ⟨b,off,none⟩) R.lets.length lcap)/\w'.cell? ⟨b,off+k,none⟩=some (.slice za zk.length zcap)) zf zf ?_ (fun hS=>?_);focus(refine⟨?_, ?_, ?_⟩<;>simp [go_sem,hoc,hbx,hyk,hl1,hl2,hkb])
      refine TG.tkB 0 hS ?_;refine TG.tkB 1 hS ?_;refine TG.tkB 2 hS ?_;refine TG.tkB 4 hS ?_;refine TG.tkB 5 hS ?_;refine TG.tkB 6 hS ?_;refine TG.tkB 7 hS ?_;refine TG.tkB 8 hS ?_;refine TG.tkB 9 hS ?_;refine TG.tkB 10 hS ?_;refine TG.one (i:=3) zf rfl (fun K1 hK1=>?_)
      go_simp
      go_at_call 13
      refine gvq (rA k _ hlt5) ?_;intro bs1 dr1
      (try simp only [World.drew_grow])
      refine TG.go hK1 ?_ (fun hS=>?_)
      focus
       (try dsimp only)
       (refine⟨?_, ?_, ?_⟩<;>simp [go_sem,hoc,hbx,hyk,hl1,hl2,hkb])
      clear hK1 K1
      (try simp only [nS])
      refine TG.one (i:=11) zf rfl (fun K1 hK1=>?_)
      go_simp
      go_at_call 14
      refine(jo _ _ zk (fD R k) _ (nU R k) (wr.grow bs1 dr1) (aH.of_ints HXI.out (HOFR.out.grow _ _).bel) (aZ.of_row (HE.out.grow _ _) (by rw [mr];omega) (jl R k)) hdb1 hdb4 HEE).mono ?_;rintro e' w' ⟨v,rfl,⟨bs2,dr2,rfl⟩,hrep⟩;have H1:=yq ((hrep.eqw (w':=wr.grow (bs1++bs2) dr2) zg).mono (S':=fun b=>wr.heap.size+bs1.size<=b) (fun b hb=>by simpa using hb));have HV:=yq hrep.one;clear hrep
      (try simp only [World.grow_grow])
      refine TG.go hK1 ?_ (fun hS=>?_)
      focus
       (try dsimp only)
       (refine⟨?_, ?_, ?_⟩<;>simp [go_sem,hoc,hbx,hyk,hl1,hl2,hkb])
      clear hK1 K1
      (try simp only [nS])
      refine TG.tkB 12 hS ?_;refine TG.one (i:=13) zf rfl (fun K1 hK1=>?_)
      go_simp
      refine TG.go hK1 ?_ (fun hS=>?_)
      focus
       (try dsimp only)
       (refine⟨?_, ?_, ?_⟩<;>simp [go_sem,hoc,hbx,hyk,hl1,hl2,hkb])
      clear hK1 K1
      (try simp only [nS])
      refine TG.one (i:=14) zf rfl (fun K1 hK1=>?_);refine step_append_lies _ rfl _ _ 32 rfl wc.heap.size 72 i2 _ 7 88 underlying32 hq hq0 hq1 hq2 rfl zo _ _ _ rfl ((HL.out.grow (bs1++bs2) dr2).alloc (.cells (.string (iq k)::bH (nU R k) v).toArray 72)).own ⟨wr.heap.size+(bs1.size+bs2.size),0,none⟩ 1 1 (.string (iq k)::bH (nU R k) v) rfl rfl ?_ ?_ zo ?_ ?_ ?_ (wr.heap.size+(bs1.size+bs2.size)+1) zg ?_;focus exact fun j u hu=>aQ _ (.string (iq k)::bH (nU R k) v) 72 _ zg j u hu
      focus exact OP _ _ _ HV.out
      focus(have:=HLL.out;unfold maxLen;omega)
      focus(have:=HLL.out;omega)
      focus(simp;omega)
      intro g' cap w1 hown' hgrow hat hlt';have R1:=bv.push (rs2:=[(nU R k,v)]) (m:=wr.heap.size+bs1.size) ((HL.out.grow (bs1++bs2) dr2).alloc (.cells (.string (iq k)::bH (nU R k) v).toArray 72)) (FT (H1.out.alloc _)) ze (fun j hj e=>by have:=(HEVB.out j e).2;omega) (fun j hj=>by have:=(HLEB.out j hj).2;omega) rfl rfl rfl hown' hgrow hat zg ze;have O1:=((HOFR.out.grow (bs1++bs2) dr2).alloc (.cells (.string (iq k)::bH (nU R k) v).toArray 72)).grown hgrow (fun j hj=>by have:=(HLEB.out j hj).1;have:=HOFR.out.gge;omega);have N1:=((HNX.out.grow (bs1++bs2) dr2).alloc (.cells (.string (iq k)::bH (nU R k) v).toArray 72)).grown hgrow (fun j hj=>(HLEB.out j hj).1);have E1:=((HE.out.toX (X:=fun b=>(Value.slice aa (fQ q).length acap).ownBlock≠some b) (fun j hj e=>HLX.out j e hj)).grow (bs1++bs2) dr2|>.alloc (.cells (.string (iq k)::bH (nU R k) v).toArray 72)).grown hgrow (fun j hj e=>hj e.symm);have hoc2:w1.cell? ⟨g,5,none⟩=some (.slice aa (fQ q).length acap):=cell_of_row _ _ _ _ _ _ O1.out;have hof2:w1.frozen? ⟨g,5,none⟩=false:=Joins.unfrozen_of_block O1.out 5;have hyk2:=(O1.bel.cell (p:=⟨b,off+k,none⟩) hb).trans HXK.out
      (try simp only [nS])
      refine TG.go hK1 ?_ (fun hS=>?_);focus exact⟨hoc2,cell_of_row _ _ _ _ _ _ O1.box,hyk2⟩
      clear hK1 K1 hyk2;have HR2:=yq (R1.setCell (a:=⟨g,5,none⟩) hgl1 (.slice (some ⟨g',0,none⟩) ((fQ q).length+1) cap));have HO2:=yq (O1.store 5 (.slice (some ⟨g',0,none⟩) ((fQ q).length+1) cap));have HN2:=yq (N1.store 5 (.slice (some ⟨g',0,none⟩) ((fQ q).length+1) cap));have HE2:=yq ((E1.setCell (a:=⟨g,5,none⟩) hgl1 (.slice (some ⟨g',0,none⟩) ((fQ q).length+1) cap)).toG);clear hown' hgrow hat hlt' R1 O1 N1 E1
      (try simp only [nS])
      refine TG.tkB 15 hS ?_;refine TG.one (i:=16) zf rfl (fun K1 hK1=>?_)
      go_simp
      refine hK1 _ _ (fun h=>absurd rfl h) (TG.done zf ?_);clear hK1 K1 hS
      (try simp only [nS])
      clear hoc hbx hyk hoc2 hof2;obtain⟨w2,hw2⟩:∃w2,w2=w1.setCell ⟨g,5,none⟩ (.slice (some ⟨g',0,none⟩) ((fQ q).length+1) cap):=⟨_,rfl⟩;rw [<-hw2]at HR2 HO2 HN2 HE2 ⊢;clear hw2;have HE2B:=yq HE2.out.lt;have hsz2:=HN2.out.size
      go_wp2_with (first
       |(go_at_call 13;refine gvq (rA k _ hlt5) ?_;intro bs3 dr3)
       |(at_builtin;refine wpList_append_lies _ rfl _ _ 65 rfl wc.heap.size 74 i3 _ 2 24 underlying65 hr hr0 hr1 hr2 rfl zo _ _ _ rfl ((HE2.out.grow bs3 dr3).alloc (.cells #[.string (iq k),.int .i64 (1+(zk.length:Int) % 4)] 74)).own ⟨w2.heap.size+bs3.size,0,none⟩ 1 1 [.string (iq k),.int .i64 (1+(zk.length:Int) % 4)] rfl rfl ?e1 ?e2 zo ?e3 ?e4 ?e5 (w2.heap.size+bs3.size+1) zg ?_))
      case e1=>exact aQ _ [.string (iq k),.int .i64 (1+(zk.length:Int) % 4)] _ _ zg
      case e2=>intro u hu;simp at hu;rcases hu with rfl|rfl<;>rfl
      case e3=>have:=HEL.out;unfold maxLen;omega
      case e4=>have:=HEL.out;omega
      case e5=>simp;omega
      intro g2 cap2 w3 hown2 hgrow2 hat2 hlt2;have E3:=bV.push (rs2:=[]) (m:=w2.heap.size) ((HE2.out.grow bs3 dr3).alloc (.cells #[.string (iq k),.int .i64 (1+(zk.length:Int) % 4)] 74)) (fun x hx=>by cases hx) hsz2 (fun j hj=>(HE2B.out j hj).2) rfl rfl rfl hown2 hgrow2 hat2 zg;have L3:=((((HR2.out.grow bs3 dr3).alloc (.cells #[.string (iq k),.int .i64 (1+(zk.length:Int) % 4)] 74)).mono (X':=fun b=>(Value.slice ea (jH (fD R k)).length ecap).ownBlock≠some b/\b≠g2) (JJ hat2 zg)).grown hgrow2 (fun j hj=>Ne.symm hj.1)).mono (X':=fun b=>(Value.slice (some ⟨g2,0,none⟩) ((jH (fD R k)).length+1) cap2).ownBlock≠some b) (fun j hj _ e=>hj.2 (by simpa [Value.ownBlock]using e.symm));have O3:=((HO2.out.grow bs3 dr3).alloc (.cells #[.string (iq k),.int .i64 (1+(zk.length:Int) % 4)] 74)).grown hgrow2 (fun j hj=>by have:=(HE2B.out j hj).1;have:=HOFR.out.gge;omega);have N3:=((HN2.out.grow bs3 dr3).alloc (.cells #[.string (iq k),.int .i64 (1+(zk.length:Int) % 4)] 74)).grown hgrow2 (fun j hj=>(HE2B.out j hj).1);have HE3:=yq E3;have HL3:=yq L3;have HO3:=yq O3;have HN3:=yq N3;clear hown2 hgrow2 hat2 hlt2 E3 L3 O3 N3
      go_wp2_with fail
      go_roundw
      case rel=>exact⟨k+1,_,q++[(iq k,(nU R k,v))],by omega,by omega,by go_num,HO3.out,HN3.out,by rw [II,map_append];exact HL3.out,by rw [HSF.out,HD.out,Jc];exact HE3.out,HQ.out.push v⟩
      case measure=>simp [intOf];omega
    ·go_wp2_with fail
     go_meet
     exact⟨_,wc.heap.size,q,HOFR.out,HROW1.out.next HNX.out hgH1,HROW2.out.next HNX.out hgH2,⟨hgl1,hH2,HNX.out.size⟩,HL.out.toG,by rw [show fP R=k by unfold fP;omega];exact⟨HE.out,HQ.out⟩⟩
   ·go_wp2_with fail
    go_meet
    exact⟨_,wc.heap.size,q,HOFR.out,HROW1.out.next HNX.out hgH1,HROW2.out.next HNX.out hgH2,⟨hgl1,hH2,HNX.out.size⟩,HL.out.toG,by rw [show fP R=k by unfold fP;omega];exact⟨HE.out,HQ.out⟩⟩
 obtain⟨vle,H3,ql,hof,hrow1,hrow2,⟨hgH3,hH23,hH3⟩,hrow3,henv,hql⟩:=hcut;clear HROW1 HROW2 HOF1 hgl1 hH2;have HROW1:=yq hrow1;have HROW2:=yq hrow2;have HROW3:=yq hrow3.upto;have HENV:=yq henv;have HQL:=yq hql;have HOF1:=yq hof;have hgl1:=hof.lt;obtain⟨eva,evc,hev⟩:=henv.form;subst hev;clear hof hrow1 hrow2 hrow3 henv hql
 go_step
 exact MN R w h1 h2 h3 h4 ca sa la ia pa ua ccap scap lcap icap pcap ucap hcl hsl hll hil hpl hul HCC HSC HLC HIC HPC HUC g _ wc vcr H1 hgH1 vse H2 hgH2 hH12 vle H3 ql hgH3 hH23 eva evc hH3 HROW1 HROW2 HROW3 HENV HQL HOF1 hgl1 _ _ _ _ _ _ _ _ _ _ _ _ _ _ _ _ _ _ _ _ _ _ _ _ _ _ _ _ _ _ _ _ _ _ _ _ _ _ _ _ _ _ _ _ _ _ _ _ _ _ _ _ _ _ _ _ _ _ _ _ _ _ _ _ _ _ _ _ _ _ _ _ _ _ _ _ _ _ _ _ _ _ _ _ _ _ _ _ _ _ _ _ _ _ _ _ _ _ _ _ _ _ _ _ _ _ _ _ _ _ _ _ _ _ _ _ _ _ _ _ _ _ _ _ _ _ _ _ _ _ _ _ _ _ _ _ _ _ _ _ _ _ _ _ _ _ _ _ _ _ _ _ _ _ _ _ _ _ _ _ _ _ _ _ _ _ _ _ _ _ _ _ _ _ _ _ _ _ _ _ _ _ _ _ _ _ _ _ _ _ _ _ _ _ _ _ _ _ _ _ _ _ _ _ _ _ _ _ _ _ _ _ _ _ _ _ _ _ _ _ _ _ _ _ _ _ _ _ _ _
theorem MP(R:cO)(w:World)(h1:I64 R.frm)(h2:I64 R.mode)(h3:I64 R.unit)(h4:I64 R.twist)(ca:Option Addr)(sa:Option Addr)(la:Option Addr)(ia:Option Addr)(pa:Option Addr)(ua:Option Addr)(ccap:Nat)(scap:Nat)(lcap:Nat)(icap:Nat)(pcap:Nat)(ucap:Nat)(hcl:R.credits.length<=140737488355328)(hsl:R.series.length<=140737488355328)(hll:R.lets.length<=140737488355328)(hil:R.ifs.length<=140737488355328)(hpl:R.pays.length<=140737488355328)(hul:R.cuts.length<=140737488355328)(HCC:Hid (R.credits.length=0\/∃b off,ca=some ⟨b,off,none⟩/\b<w.heap.size/\∀(i:Nat),i<R.credits.length->w.cell? ⟨b,off+i,none⟩=some (.int .i64 (R.credits.getD i 0))))(HSC:Hid (R.series.length=0\/∃b off,sa=some ⟨b,off,none⟩/\b<w.heap.size/\∀(i:Nat),i<R.series.length->w.cell? ⟨b,off+i,none⟩=some (.int .i64 (R.series.getD i 0))))(HLC:Hid (R.lets.length=0\/∃b off,la=some ⟨b,off,none⟩/\b<w.heap.size/\∀(i:Nat),i<R.lets.length->∃u,w.cell? ⟨b,off+i,none⟩=some u/\ax w u (R.lets.getD i [])))(HIC:Hid (R.ifs.length=0\/∃b off,ia=some ⟨b,off,none⟩/\b<w.heap.size/\∀(i:Nat),i<R.ifs.length->∃u,w.cell? ⟨b,off+i,none⟩=some u/\ax w u (R.ifs.getD i [])))(HPC:Hid (R.pays.length=0\/∃b off,pa=some ⟨b,off,none⟩/\b<w.heap.size/\∀(i:Nat),i<R.pays.length->∃u,w.cell? ⟨b,off+i,none⟩=some u/\ax w u (R.pays.getD i [])))(HUC:Hid (R.cuts.length=0\/∃b off,ua=some ⟨b,off,none⟩/\b<w.heap.size/\∀(i:Nat),i<R.cuts.length->∃u,w.cell? ⟨b,off+i,none⟩=some u/\ax w u (R.cuts.getD i [])))(g:Nat)(wk:Nat)(wc:World)(vcr:Value)(H1:Nat)(hgH1:g<H1)(hH1:H1<=wc.heap.size)(HROW1:Hid (bv 60 2 H1 (· <wc.heap.size) wc vcr (bE R (gZ R)) []))(HOF1:Hid (dQ w (fo R (.slice ca R.credits.length ccap) (.slice sa R.series.length scap) (.slice la R.lets.length lcap) (.slice ia R.ifs.length icap) (.slice pa R.pays.length pcap) (.slice ua R.cuts.length ucap)) g #[.int .i64 (pick R.frm 73049),.int .i64 (pick R.mode 4+1),.int .i64 (aV (pick R.unit 5)),vcr,.slice none 0 0,.slice none 0 0,.slice none 0 0,.slice none 0 0] wc))(hgl1:g<wc.heap.size)(u5 u6 u17 u18 u19 u20 u21 u22 u23 u24 u25 u26 u27 u28 u29 u30 u31 u32 u33 u34 u35 u36 u37 u38 u39 u40 u41 u42 u43 u44 u45 u46 u47 u48 u49 u50 u51 u52 u53 u54 u55 u56 u57 u58 u59 u60 u61 u62 u63 u64 u65 u66 u67 u68 u69 u70 u71 u72 u73 u74 u75 u76 u77 u78 u79 u80 u81 u82 u83 u84 u85 u86 u87 u88 u89 u90 u91 u92 u93 u94 u95 u96 u97 u98 u99 u100 u101 u102 u103 u104 u105 u106 u107 u108 u109 u110 u111 u112 u113 u114 u115 u116 u117 u118 u119 u120 u121 u122 u123 u124 u125 u126 u127 u128 u129 u130 u131 u132 u133 u134 u135 u136 u137 u138 u139 u140 u141 u142 u143 u144 u145 u146 u147 u148 u149 u150 u151 u152 u153 u154 u155 u156 u157 u158 u159 u160 u161 u162 u163 u164 u165 u166 u167 u168 u169 u170 u171 u172 u173 u174 u175 u176 u177 u178 u179 u180 u181 u182 u183 u184 u185 u186 u187 u188 u189 u190 u191 u192 u193 u194 u195 u196 u197 u198 u199 u200 u201 u202 u203 u204 u205 u206 u207 u208 u209 u210 u211 u212 u213 u214 u215 u216 u217 u218 u219 u220 u221 u222 u223 u224 u225 u226 u227 u228 u229 u230 u231 u232 u233 u234 u235 u236 u237 u238 u239:Value) :
 Code.wp prog (tlC (tlC (tlC (tlC (f4.body.getD .skip))))) (bodyPost prog f4 (ja R w)) {tmps:=#[(.agg (fo R (.slice ca R.credits.length ccap) (.slice sa R.series.length scap) (.slice la R.lets.length lcap) (.slice ia R.ifs.length icap) (.slice pa R.pays.length pcap) (.slice ua R.cuts.length ucap))),.pointer (some ⟨w.heap.size,0,none⟩),.pointer (some ⟨w.heap.size+1,0,none⟩),.pointer (some ⟨g,0,none⟩),.slice (some ⟨wk,0,none⟩) 6 6,u5,u6,undef,undef,undef,undef,undef,undef,undef,undef,undef,undef,u17,u18,u19,u20,u21,u22,u23,u24,u25,u26,u27,u28,u29,u30,u31,u32,u33,u34,u35,u36,u37,u38,u39,u40,u41,u42,u43,u44,u45,u46,u47,u48,u49,u50,u51,u52,u53,u54,u55,u56,u57,u58,u59,u60,u61,u62,u63,u64,u65,u66,u67,u68,u69,u70,u71,u72,u73,u74,u75,u76,u77,u78,u79,u80,u81,u82,u83,u84,u85,u86,u87,u88,u89,u90,u91,u92,u93,u94,u95,u96,u97,u98,u99,u100,u101,u102,u103,u104,u105,u106,u107,u108,u109,u110,u111,u112,u113,u114,u115,u116,u117,u118,u119,u120,u121,u122,u123,u124,u125,u126,u127,u128,u129,u130,u131,u132,u133,u134,u135,u136,u137,u138,u139,u140,u141,u142,u143,u144,u145,u146,u147,u148,u149,u150,u151,u152,u153,u154,u155,u156,u157,u158,u159,u160,u161,u162,u163,u164,u165,u166,u167,u168,u169,u170,u171,u172,u173,u174,u175,u176,u177,u178,u179,u180,u181,u182,u183,u184,u185,u186,u187,u188,u189,u190,u191,u192,u193,u194,u195,u196,u197,u198,u199,u200,u201,u202,u203,u204,u205,u206,u207,u208,u209,u210,u211,u212,u213,u214,u215,u216,u217,u218,u219,u220,u221,u222,u223,u224,u225,u226,u227,u228,u229,u230,u231,u232,u233,u234,u235,u236,u237,u238,u239],defers:=[]} wc:=by
 obtain⟨i0,hi,hz0,hz1,hz2⟩:=info_parts mf;obtain⟨i1,hj,hj0,hj1,hj2⟩:=info_parts o9;obtain⟨i2,hq,hq0,hq1,hq2⟩:=info_parts o8;obtain⟨i3,hr,hr0,hr1,hr2⟩:=info_parts mg;obtain⟨i4,ht,ht0,ht1,ht2⟩:=info_parts kL;obtain⟨i5,hv,hv0,hv1,hv2⟩:=info_parts jF
 conv=>arg 2;whnf
 unfold fo
 go_upto_block 2 with fail
 go_cut []from 17 (fun wx=>∃vse H2,dQ w (fo R (.slice ca R.credits.length ccap) (.slice sa R.series.length scap) (.slice la R.lets.length lcap) (.slice ia R.ifs.length icap) (.slice pa R.pays.length pcap) (.slice ua R.cuts.length ucap)) g #[.int .i64 (pick R.frm 73049),.int .i64 (pick R.mode 4+1),.int .i64 (aV (pick R.unit 5)),vcr,vse,.slice none 0 0,.slice none 0 0,.slice none 0 0] wx/\bv 60 2 H1 (· <H2) wx vcr (bE R (gZ R)) []/\(g<H2/\H1<=H2/\H2<=wx.heap.size)/\bV 64 3 H2 wx vse (bS R (l6 R)) [])
 case first=>
  go_wp2_with fail
  go_loopw [7] (fun v7 wr=>∃k:Nat,∃vse:Value,k<=R.series.length/\k<=6/\v7= .int .i64 k/\dQ w (fo R (.slice ca R.credits.length ccap) (.slice sa R.series.length scap) (.slice la R.lets.length lcap) (.slice ia R.ifs.length icap) (.slice pa R.pays.length pcap) (.slice ua R.cuts.length ucap)) g #[.int .i64 (pick R.frm 73049),.int .i64 (pick R.mode 4+1),.int .i64 (aV (pick R.unit 5)),vcr,vse,.slice none 0 0,.slice none 0 0,.slice none 0 0] wr/\Next g wc wr/\bV 64 3 wc.heap.size wr vse (bS R k) []) (fun v7 _=>6-(intOf v7).toNat)
  case atStart=>exact⟨0,_,by omega,by omega,rfl,HOF1.out,.refl _ _,.nil _ _ _ _⟩
  case round=>
   obtain⟨k,vse,hk,hk6,rfl,hof,hnx,hrow⟩:=hrel;have hbx:wr.cell? ⟨w.heap.size,4,none⟩=some (.slice sa R.series.length scap):=cell_of_row _ _ _ _ _ _ hof.box;have hoc:wr.cell? ⟨g,4,none⟩=some vse:=cell_of_row _ _ _ _ _ _ hof.out;have hl0:=hof.lt0;have hl1:w.heap.size<wr.heap.size:=by omega
   have hl2:=hof.lt;have hl3:=hnx.size;have HNX:=yq hnx;have HOFR:=yq hof;have HROW:=yq hrow;have HCL:=yq (rV R k);obtain⟨aa,acap,rfl⟩:=hrow.form;clear hof hnx hrow hl0;by_cases hlt:k<R.series.length
   ·by_cases hlt6:k<6
    ·rcases HSC.out with h0|⟨b,off,rfl,hb,hx⟩
     ·omega
     ·have hxk:=hx k hlt;have hkb:b<wr.heap.size:=by omega
      have hyk:wr.cell? ⟨b,off+k,none⟩=some (.int .i64 (R.series.getD k 0)):=by rw [HOFR.out.bel.cell zZ];exact hxk
      have HXK:=yq hxk;clear hxk hx;have d1:(k:Int)<(R.series.length:Int):=by omega
      have d2:(k:Int)<6:=by omega
      have HSU:=yq (vH R k);have HSY:Hid (NF R k=1930+25*k+pick (R.series.getD k 0) 20):=yq rfl;have HSN:Hid (NG R k=mkN (pick (R.series.getD k 0) 4000+1) 1000):=yq rfl;have HSD:Hid (NH R k=mkD (pick (R.series.getD k 0) 4000+1) 1000):=yq rfl;generalize hzk:R.series.getD k 0=zk at *;clear hzk;have hp4:=cZ zk 4000 ze;have hp2:=cZ zk 20 ze
      go_upto_region 14 with (first
       |(go_at_call 6;refine gw (bz _ _ _ ze) ?_)
       |(go_at_call 12;refine gvq (dZ _ _ _ ze ze ze ze) ?_;intro bs d))
      have hm1:IntKind.i64.wrap (25*(k:Int))=25*k:=IntWalk.i64_in _ ze;have hm2:IntKind.i64.wrap (1930+25*(k:Int))=1930+25*k:=IntWalk.i64_in _ ze;have hm3:IntKind.i64.wrap (1930+25*(k:Int)+pick zk 20)=1930+25*k+pick zk 20:=IntWalk.i64_in _ ze;generalize hN:mkN (pick zk 4000+1) 1000=fn at HSN ⊢;generalize hD:mkD (pick zk 4000+1) 1000=fd at HSD ⊢;clear hN hD hp4 hp2;refine TG.begin 17 (fun w'=>w'.cell? ⟨g,4,none⟩=some (.slice aa (bS R k).length acap)/\w'.cell? ⟨w.heap.size,4,none⟩=some (.slice (some ⟨b,off,none⟩) R.series.length scap)/\w'.cell? ⟨b,off+k,none⟩=some (.int .i64 zk)/\w'.cell? ⟨wr.heap.size+bs.size,0,none⟩=some (.int .i64 fn)/\w'.cell? ⟨wr.heap.size+bs.size,1,none⟩=some (.int .i64 fd)) zf zf ?_ (fun hS=>?_)
      focus
       refine⟨?_, ?_, ?_, ?_, ?_⟩<;>simp [go_sem,hoc,hbx,hyk,hl1,hl2,hkb]
      refine TG.tkB 0 hS ?_;refine TG.tkB 1 hS ?_;refine TG.tkB 2 hS ?_;refine TG.tkB 3 hS ?_;refine TG.tkB 4 hS ?_;refine TG.tkB 5 hS ?_;refine TG.tkB 6 hS ?_;refine TG.tkB 7 hS ?_;refine TG.tkB 8 hS ?_;refine TG.tkB 9 hS ?_;refine TG.takeC (i:=10) (v:=(.int .i64 (pick zk 20))) (fn:=6) (args:=#[.int .i64 zk,.int .i64 20]) rfl zf zf zf zo (fun _ _ _ h=>h) rfl hS ?_ ?_ ?_
      focus
       intro wS hSw
       (try dsimp only at hSw)
       go_simp
      focus exact fun wS _=>(bz _ _ _ ze)
      (try simp only [nS])
      refine TG.tkB 11 hS ?_;refine TG.tkB 12 hS ?_;refine TG.tkB 13 hS ?_;refine TG.one (i:=14) zf rfl (fun K1 hK1=>?_)
      go_simp
      refine TG.go hK1 ?_ (fun hS=>?_)
      focus
       (try dsimp only)
       (refine⟨?_, ?_, ?_, ?_, ?_⟩<;>simp [go_sem,hoc,hbx,hyk,hl1,hl2,hkb])
      clear hK1 K1
      (try simp only [nS])
      have HSW:=yq hS;refine TG.one (i:=15) zf rfl (fun K1 hK1=>?_);refine step_append_lies _ rfl _ _ 31 rfl wc.heap.size 64 i1 _ 3 24 underlying31 hj hj0 hj1 hj2 rfl zo _ _ _ rfl (((HROW.out.grow bs d).alloc (.cells #[.int .i64 fn,.int .i64 fd] 39)).alloc (.cells #[.int .i64 (1930+25*k+pick zk 20),.int .i64 fn,.int .i64 fd] 64)).own ⟨wr.heap.size+bs.size+1,0,none⟩ 1 1 [.int .i64 (1930+25*k+pick zk 20),.int .i64 fn,.int .i64 fd] rfl rfl ?_ ?_ zo ?_ ?_ ?_ (wr.heap.size+bs.size+2) zg ?_;focus exact fun j u hu=>aQ _ [.int .i64 (1930+25*k+pick zk 20),.int .i64 fn,.int .i64 fd] 64 _ zg j u hu
      focus(intro u hu;simp at hu;rcases hu with rfl|rfl|rfl<;>rfl)
      focus(have:=HCL.out;unfold maxLen;omega)
      focus(have:=HCL.out;omega)
      focus(simp;omega)
      intro g' cap w1 hown' hgrow hat hlt';have hrowb:=HROW.out.lt;have R1:=bV.push (rs2:=[]) (m:=wr.heap.size) (((HROW.out.grow bs d).alloc (.cells #[.int .i64 fn,.int .i64 fd] 39)).alloc (.cells #[.int .i64 (1930+25*k+pick zk 20),.int .i64 fn,.int .i64 fd] 64)).drew (fun x hx=>by cases hx) hl3 (fun j hj=>(hrowb j hj).2) rfl rfl rfl hown' hgrow hat zg;have O1:=(((HOFR.out.grow bs d).alloc (.cells #[.int .i64 fn,.int .i64 fd] 39)).alloc (.cells #[.int .i64 (1930+25*k+pick zk 20),.int .i64 fn,.int .i64 fd] 64)).drew.grown hgrow (fun j hj=>by have:=(hrowb j hj).1;have:=HOFR.out.gge;omega);have N1:=(((HNX.out.grow bs d).alloc (.cells #[.int .i64 fn,.int .i64 fd] 39)).alloc (.cells #[.int .i64 (1930+25*k+pick zk 20),.int .i64 fn,.int .i64 fd] 64)).drew.grown hgrow (fun j hj=>(hrowb j hj).1);have hoc2:w1.cell? ⟨g,4,none⟩=some (.slice aa (bS R k).length acap):=cell_of_row _ _ _ _ _ _ O1.out;have hof2:w1.frozen? ⟨g,4,none⟩=false:=Joins.unfrozen_of_block O1.out 4;have hf0:=(hgrow.cell_far ⟨wr.heap.size+bs.size,0,none⟩ zp (fun e=>absurd (hrowb (wr.heap.size+bs.size) e.symm).2 ze)).trans HSW.out.2.2.2.1;have hf1:=(hgrow.cell_far ⟨wr.heap.size+bs.size,1,none⟩ zp (fun e=>absurd (hrowb (wr.heap.size+bs.size) e.symm).2 ze)).trans HSW.out.2.2.2.2;have hyk2:=(O1.bel.cell (p:=⟨b,off+k,none⟩) hb).trans HXK.out
      (try simp only [nS])
      refine TG.go hK1 ?_ (fun hS=>?_);focus exact⟨hoc2,cell_of_row _ _ _ _ _ _ O1.box,hyk2,hf0,hf1⟩
      clear hK1 K1 HSW hf0 hf1 hyk2;have R2:=yq (R1.setCell (a:=⟨g,4,none⟩) hgl1 (.slice (some ⟨g',0,none⟩) ((bS R k).length+1) cap));have O2:=yq (O1.store 4 (.slice (some ⟨g',0,none⟩) ((bS R k).length+1) cap));have N2:=yq (N1.store 4 (.slice (some ⟨g',0,none⟩) ((bS R k).length+1) cap));clear hown' hgrow hat hlt' R1 O1 N1 hrowb
      (try simp only [nS])
      refine TG.tkB 16 hS ?_;refine TG.one (i:=17) zf rfl (fun K1 hK1=>?_)
      go_simp
      refine hK1 _ _ (fun h=>absurd rfl h) (TG.done zf ?_);clear hK1 K1 hS
      (try simp only [nS])
      go_wp2_with fail
      go_roundw
      case rel=>exact⟨k+1,_,by omega,by omega,by go_num,O2.out,N2.out,by rw [HSU.out,HSY.out,HSN.out,HSD.out];exact R2.out⟩
      case measure=>simp [intOf];omega
    ·go_wp2_with fail
     go_meet
     exact⟨_,wc.heap.size,HOFR.out,HROW1.out.next HNX.out hgH1,⟨hgl1,hH1,HNX.out.size⟩,by rw [show l6 R=k by unfold l6;omega];exact HROW.out⟩
   ·go_wp2_with fail
    go_meet
    exact⟨_,wc.heap.size,HOFR.out,HROW1.out.next HNX.out hgH1,⟨hgl1,hH1,HNX.out.size⟩,by rw [show l6 R=k by unfold l6;omega];exact HROW.out⟩
 obtain⟨vse,H2,hof,hrow1,⟨hgH2,hH12,hH2⟩,hrow2⟩:=hcut;clear HROW1 HOF1 hgl1 hH1;have HROW1:=yq hrow1;have HROW2:=yq hrow2.upto;have HOF1:=yq hof;have hgl1:=hof.lt;clear hof hrow1 hrow2
 go_step
 exact MO R w h1 h2 h3 h4 ca sa la ia pa ua ccap scap lcap icap pcap ucap hcl hsl hll hil hpl hul HCC HSC HLC HIC HPC HUC g _ wc vcr H1 hgH1 vse H2 hgH2 hH12 hH2 HROW1 HROW2 HOF1 hgl1 _ _ _ _ _ _ _ _ _ _ _ _ _ _ _ _ _ _ _ _ _ _ _ _ _ _ _ _ _ _ _ _ _ _ _ _ _ _ _ _ _ _ _ _ _ _ _ _ _ _ _ _ _ _ _ _ _ _ _ _ _ _ _ _ _ _ _ _ _ _ _ _ _ _ _ _ _ _ _ _ _ _ _ _ _ _ _ _ _ _ _ _ _ _ _ _ _ _ _ _ _ _ _ _ _ _ _ _ _ _ _ _ _ _ _ _ _ _ _ _ _ _ _ _ _ _ _ _ _ _ _ _ _ _ _ _ _ _ _ _ _ _ _ _ _ _ _ _ _ _ _ _ _ _ _ _ _ _ _ _ _ _ _ _ _ _ _ _ _ _ _ _ _ _ _ _ _ _ _ _ _ _ _ _ _ _ _ _ _ _ _ _ _ _ _ _ _ _ _ _ _ _ _ _ _ _ _ _ _ _ _ _ _ _ _ _ _ _ _ _ _ _ _ _ _ _ _ _
theorem PU(R:cO)(vc vs vl vi vp vu:Value)(w:World)(h1:I64 R.frm)(h2:I64 R.mode)(h3:I64 R.unit)(h4:I64 R.twist)
 (hC:ax w vc R.credits) (hS:ax w vs R.series) (hL:eQ w vl R.lets) (hI:eQ w vi R.ifs) (hP:eQ w vp R.pays) (hU:eQ w vu R.cuts) :
 Calls prog 4 #[.agg #[.int .i64 R.frm,.int .i64 R.mode,.int .i64 R.unit,vc,vs,vl,vi,vp,vu,.int .i64 R.twist]] w (ja R w):=by

 obtain⟨i0,hi,hz0,hz1,hz2⟩:=info_parts mf;obtain⟨i1,hj,hj0,hj1,hj2⟩:=info_parts o9;obtain⟨i2,hq,hq0,hq1,hq2⟩:=info_parts o8;obtain⟨i3,hr,hr0,hr1,hr2⟩:=info_parts mg;obtain⟨i4,ht,ht0,ht1,ht2⟩:=info_parts kL;obtain⟨i5,hv,hv0,hv1,hv2⟩:=info_parts jF;obtain⟨hcl,-,ca,ccap,rfl,hcc⟩:=hC;have HCC:=yq hcc;obtain⟨hsl,-,sa,scap,rfl,hsc⟩:=hS;have HSC:=yq hsc;obtain⟨hll,la,lcap,rfl,hlc⟩:=hL;have HLC:=yq hlc;obtain⟨hil,ia,icap,rfl,hic⟩:=hI;have HIC:=yq hic;obtain⟨hpl,pa,pcap,rfl,hpc⟩:=hP;have HPC:=yq hpc;obtain⟨hul,ua,ucap,rfl,huc⟩:=hU;have HUC:=yq huc;clear hcc hsc hlc hic hpc huc
 go_enter func4,ntmps4
 go_upto_region 1 with fail
 go_cut [3]from 17 (fun v3 wx=>∃g,v3= .pointer (some ⟨g,0,none⟩)/\dQ w (fo R (.slice ca R.credits.length ccap) (.slice sa R.series.length scap) (.slice la R.lets.length lcap) (.slice ia R.ifs.length icap) (.slice pa R.pays.length pcap) (.slice ua R.cuts.length ucap)) g #[.int .i64 (pick R.frm 73049),.int .i64 (pick R.mode 4+1),.int .i64 (aV (pick R.unit 5)),.slice none 0 0,.slice none 0 0,.slice none 0 0,.slice none 0 0,.slice none 0 0] wx)
 case first=>
  obtain⟨hp0,hp5⟩:=cZ R.unit 5 ze;have hpm:=cZ R.mode 4 ze;have hM:IntKind.i64.wrap (pick R.mode 4+1)=pick R.mode 4+1:=IntWalk.i64_in _ ze;clear hpm;have hA:=MF ((w.alloc ((.cells #[.int .i64 R.frm,.int .i64 R.mode,.int .i64 R.unit,(.slice ca R.credits.length ccap),(.slice sa R.series.length scap),(.slice la R.lets.length lcap),(.slice ia R.ifs.length icap),(.slice pa R.pays.length pcap),(.slice ua R.cuts.length ucap),.int .i64 R.twist] 25))).alloc ((.cells #[.int .i64 0,.int .i64 0,.int .i64 0,.slice none 0 0,.slice none 0 0,.slice none 0 0,.slice none 0 0,.slice none 0 0] 36))) (pick R.unit 5) (w.heap.size+1+1) zg hp0 hp5;have hB:=MF (((w.alloc ((.cells #[.int .i64 R.frm,.int .i64 R.mode,.int .i64 R.unit,(.slice ca R.credits.length ccap),(.slice sa R.series.length scap),(.slice la R.lets.length lcap),(.slice ia R.ifs.length icap),(.slice pa R.pays.length pcap),(.slice ua R.cuts.length ucap),.int .i64 R.twist] 25))).alloc ((.cells #[.int .i64 0,.int .i64 0,.int .i64 0,.slice none 0 0,.slice none 0 0,.slice none 0 0,.slice none 0 0,.slice none 0 0] 36))).alloc ((.cells #[.int .i64 0,.int .i64 0,.int .i64 0,.slice none 0 0,.slice none 0 0,.slice none 0 0,.slice none 0 0,.slice none 0 0] 36))) (pick R.unit 5) (w.heap.size+1+1+1) zg hp0 hp5;refine TG.begin 16 (fun w'=>w'.cell? ⟨w.heap.size,0,none⟩=some (.int .i64 R.frm)/\w'.cell? ⟨w.heap.size,1,none⟩=some (.int .i64 R.mode)/\w'.cell? ⟨w.heap.size,2,none⟩=some (.int .i64 R.unit)) zf zf zE (fun hS=>?_);refine TG.tkB 0 hS ?_;refine TG.tkB 1 hS ?_;refine TG.takeC (i:=2) (v:=(.int .i64 (pick R.frm 73049))) (fn:=6) (args:=#[.int .i64 R.frm,.int .i64 73049]) rfl zf zf zf zo (fun _ _ _ h=>h) rfl hS ?_ ?_ ?_
  focus
   intro wS hSw
   (try dsimp only at hSw)
   go_simp
  focus exact fun wS _=>(bz _ _ _ ze)
  (try simp only [nS])
  refine TG.tkB 3 hS ?_;refine TG.tkB 4 hS ?_;refine TG.takeC (i:=5) (v:=(.int .i64 (pick R.mode 4))) (fn:=6) (args:=#[.int .i64 R.mode,.int .i64 4]) rfl zf zf zf zo (fun _ _ _ h=>h) rfl hS ?_ ?_ ?_
  focus
   intro wS hSw
   (try dsimp only at hSw)
   go_simp
  focus exact fun wS _=>(bz _ _ _ ze)
  (try simp only [nS])
  refine TG.tkB 6 hS ?_;refine TG.tkB 8 hS ?_;refine TG.tkB 9 hS ?_;refine TG.takeC (i:=10) (v:=(.int .i64 (pick R.unit 5))) (fn:=6) (args:=#[.int .i64 R.unit,.int .i64 5]) rfl zf zf zf zo (fun _ _ _ h=>h) rfl hS ?_ ?_ ?_
  focus
   intro wS hSw
   (try dsimp only at hSw)
   go_simp
  focus exact fun wS _=>(bz _ _ _ ze)
  (try simp only [nS])
  refine TG.two (i:=7) (k:=15) zf rfl rfl (fun K1 hK1=>?_) (fun K1 hK1=>?_)
  ·go_simp
   refine TG.go hK1 ?_ (fun hS=>?_)
   focus
    (try dsimp only)
    go_keep
   clear hK1 K1
   (try simp only [nS])
   refine TG.tkB 11 hS ?_;refine TG.two (i:=12) (k:=15) zf rfl rfl (fun K1 hK1=>?_) (fun K1 hK1=>?_)
   focus
    go_simp
    refine TG.go hK1 ?_ (fun hS=>?_)
    focus
     (try dsimp only)
     go_keep
    clear hK1 K1
    (try simp only [nS])
    refine TG.tkB 13 hS ?_;refine TG.tkB 14 hS ?_;refine TG.one (i:=15) zf rfl (fun K1 hK1=>?_)
    go_simp
    refine TG.go hK1 ?_ (fun hS=>?_)
    focus
     (try dsimp only)
     go_keep
    clear hK1 K1
    (try simp only [nS])
   rotate_left
   focus
    go_simp
    refine TG.go hK1 ?_ (fun hS=>?_)
    focus
     (try dsimp only)
     go_keep
    clear hK1 K1
    (try simp only [nS])
    refine TG.one (i:=12) zf rfl (fun K1 hK1=>?_)
    go_simp
    refine TG.go hK1 ?_ (fun hS=>?_)
    focus
     (try dsimp only)
     go_keep
    clear hK1 K1
    (try simp only [nS])
    refine TG.tkB 13 hS ?_;refine TG.tkB 14 hS ?_
   rotate_left
   all_goals
    refine TG.one (i:=16) zf rfl (fun K1 hK1=>?_)
    go_simp
    refine hK1 _ _ (fun h=>absurd rfl h) (TG.done zf ?_);clear hK1 K1 hS
    (try simp only [nS])
    go_wp2_with fail
    go_meet
    exact⟨_,rfl,dQ.start_a _ _ _ _⟩
  ·go_simp
   refine TG.go hK1 ?_ (fun hS=>?_)
   focus
    (try dsimp only)
    go_keep
   clear hK1 K1
   (try simp only [nS])
   refine TG.one (i:=7) zf rfl (fun K1 hK1=>?_)
   go_simp
   refine TG.go hK1 ?_ (fun hS=>?_)
   focus
    (try dsimp only)
    go_keep
   clear hK1 K1
   (try simp only [nS])
   refine TG.tkB 11 hS ?_;refine TG.one (i:=12) zf rfl (fun K1 hK1=>?_)
   go_simp
   refine TG.go hK1 ?_ (fun hS=>?_)
   focus
    (try dsimp only)
    go_keep
   clear hK1 K1
   (try simp only [nS])
   refine TG.tkB 13 hS ?_;refine TG.tkB 14 hS ?_;refine TG.one (i:=16) zf rfl (fun K1 hK1=>?_)
   go_simp
   refine hK1 _ _ (fun h=>absurd rfl h) (TG.done zf ?_);clear hK1 K1 hS
   (try simp only [nS])
   go_wp2_with fail
   go_meet
   exact⟨_,rfl,dQ.start_b _ _ _ _⟩
 obtain⟨g,rfl,hof⟩:=hcut;have hgl:=hof.lt;have HOF:=yq hof;clear hof
 go_upto_block 0 with fail
 go_cut []from 17 (fun wx=>∃vcr H1,dQ w (fo R (.slice ca R.credits.length ccap) (.slice sa R.series.length scap) (.slice la R.lets.length lcap) (.slice ia R.ifs.length icap) (.slice pa R.pays.length pcap) (.slice ua R.cuts.length ucap)) g #[.int .i64 (pick R.frm 73049),.int .i64 (pick R.mode 4+1),.int .i64 (aV (pick R.unit 5)),vcr,.slice none 0 0,.slice none 0 0,.slice none 0 0,.slice none 0 0] wx/\(g<H1/\H1<=wx.heap.size)/\bV 60 2 H1 wx vcr (bE R (gZ R)) [])
 case first=>
  go_wp2_with fail
  go_loopw [5] (fun v5 wr=>∃k:Nat,∃vcr:Value,k<=R.credits.length/\k<=4/\v5= .int .i64 k/\dQ w (fo R (.slice ca R.credits.length ccap) (.slice sa R.series.length scap) (.slice la R.lets.length lcap) (.slice ia R.ifs.length icap) (.slice pa R.pays.length pcap) (.slice ua R.cuts.length ucap)) g #[.int .i64 (pick R.frm 73049),.int .i64 (pick R.mode 4+1),.int .i64 (aV (pick R.unit 5)),vcr,.slice none 0 0,.slice none 0 0,.slice none 0 0,.slice none 0 0] wr/\wr.heap[wc.heap.size]? =some Q4/\bV 60 2 (wc.heap.size+1) wr vcr (bE R k) []) (fun v5 _=>4-(intOf v5).toNat)
  case atStart=>exact⟨0,_,by omega,by omega,rfl,HOF.out.alloc _,bP _ _ _ rfl,.nil _ _ _ _⟩
  case round=>
   obtain⟨k,vcr,hk,hk4,rfl,hof,hkd,hrow⟩:=hrel;have hbx:wr.cell? ⟨w.heap.size,3,none⟩=some (.slice ca R.credits.length ccap):=cell_of_row _ _ _ _ _ _ hof.box;have hoc:wr.cell? ⟨g,3,none⟩=some vcr:=cell_of_row _ _ _ _ _ _ hof.out;have hof1:wr.frozen? ⟨g,3,none⟩=false:=Joins.unfrozen_of_block hof.out 3;have hl0:=hof.lt0;have hl1:w.heap.size<wr.heap.size:=by omega
   have hl2:=hof.lt;have hl3:wc.heap.size<wr.heap.size:=(Array.getElem?_eq_some_iff.1 hkd).1;have HKD:=yq hkd;have HOFR:=yq hof;have HROW:=yq hrow;have HCL:=yq (qO R k);obtain⟨aa,acap,rfl⟩:=hrow.form;clear hof hkd hrow hl0;by_cases hlt:k<R.credits.length
   ·by_cases hlt4:k<4
    ·rcases HCC.out with h0|⟨b,off,rfl,hb,hx⟩
     ·omega
     ·have hx0:=hx 0 ze;have hxk:=hx k hlt;have hkb:b<wr.heap.size:=by omega
      have hy0:wr.cell? ⟨b,off,none⟩=some (.int .i64 (R.credits.getD 0 0)):=by rw [HOFR.out.bel.cell zZ];exact hx0
      have hyk:wr.cell? ⟨b,off+k,none⟩=some (.int .i64 (R.credits.getD k 0)):=by rw [HOFR.out.bel.cell zZ];exact hxk
      clear hx0 hxk hx;have d1:(k:Int)<(R.credits.length:Int):=by omega
      have d2:(k:Int)<4:=by omega
      have d3:(0:Int)<(R.credits.length:Int):=by omega
      have hp0:=cZ (R.credits.getD 0 0) 6 ze;have HSU:=yq (uZ R k)
      have hkk:wr.cell? ⟨wc.heap.size,(((k:Int)+pick (R.credits.getD 0 0) 6) % 6).toNat,none⟩=some (.int .i64 (C9 R k)):=by
       rw [cell_of_row _ _ _ _ _ _ HKD.out];exact IR _ ze ze
      have hpk:=cZ (R.credits.getD k 0) 900 ze;have HKV:Hid (C8 R k=if(R.credits.getD k 0).tmod 3=0 then pick (R.credits.getD k 0) 900+1 else 0):=yq rfl;generalize hz0:R.credits.getD 0 0=z0 at *;generalize hzk:R.credits.getD k 0=zk at *;generalize hpv:pick z0 6=pv at *;have HPV:=yq hpv;generalize hkv:C9 R k=kv at *;generalize hlv:C8 R k=lv at *;clear hz0 hzk hkv hlv hpv;obtain⟨hp1,hp2⟩:=hp0;have HGE:=yq (HOF.out.gge);have hsz1:wc.heap.size+1<=wr.heap.size:=by omega
      by_cases ht:zk.tmod 3=0
      focus
       rw [if_pos ht]at HKV
       go_wp2_with (first
        |(go_at_call 6;refine gw (bz _ _ _ ze) ?_;try simp only [HPV.out])
        |(at_builtin;refine wpList_append_lies _ rfl _ _ 30 rfl (wc.heap.size+1) 60 i0 _ 2 16 underlying30 hi hz0 hz1 hz2 rfl zo _ _ _ rfl ((HROW.out.alloc _).alloc _).own ⟨wr.heap.size+1,0,none⟩ 1 1 [.int .i64 kv,.int .i64 (pick zk 900+1)] rfl rfl ?c1 ?c2 zo ?c3 ?c4 ?c5 (wr.heap.size+2) zg ?_))
       case c1=>exact aQ _ [.int .i64 kv,.int .i64 (pick zk 900+1)] _ _ zg
       case c2=>intro u hu;simp at hu;rcases hu with rfl|rfl<;>rfl
       case c3=>have:=HCL.out;unfold maxLen;omega
       case c4=>have:=HCL.out;omega
       case c5=>simp;omega
       intro g' cap w1 hown' hgrow hat hlt';have R1:=bV.push (rs2:=[]) (m:=wr.heap.size) ((HROW.out.alloc _).alloc _) (fun x hx=>by cases hx) hsz1 (fun j hj=>(HROW.out.lt j hj).2) rfl rfl rfl hown' hgrow hat zg;have O1:=((HOFR.out.alloc (.cells #[.int .i64 kv,.int .i64 (pick zk 900+1)] 60)).alloc (.cells #[.int .i64 kv,.int .i64 (pick zk 900+1)] 60)).grown hgrow (fun j hj=>by have:=(HROW.out.lt j hj).1;have:=HGE.out;omega)
      rotate_left
      focus
       rw [if_neg ht]at HKV
       go_wp2_with (first
        |(go_at_call 6;refine gw (bz _ _ _ ze) ?_;try simp only [HPV.out])
        |(at_builtin;refine wpList_append_lies _ rfl _ _ 30 rfl (wc.heap.size+1) 60 i0 _ 2 16 underlying30 hi hz0 hz1 hz2 rfl zo _ _ _ rfl ((HROW.out.alloc _).alloc _).own ⟨wr.heap.size+1,0,none⟩ 1 1 [.int .i64 kv,.int .i64 (0)] rfl rfl ?c1 ?c2 zo ?c3 ?c4 ?c5 (wr.heap.size+2) zg ?_))
       case c1=>exact aQ _ [.int .i64 kv,.int .i64 (0)] _ _ zg
       case c2=>intro u hu;simp at hu;rcases hu with rfl|rfl<;>rfl
       case c3=>have:=HCL.out;unfold maxLen;omega
       case c4=>have:=HCL.out;omega
       case c5=>simp;omega
       intro g' cap w1 hown' hgrow hat hlt';have R1:=bV.push (rs2:=[]) (m:=wr.heap.size) ((HROW.out.alloc _).alloc _) (fun x hx=>by cases hx) hsz1 (fun j hj=>(HROW.out.lt j hj).2) rfl rfl rfl hown' hgrow hat zg;have O1:=((HOFR.out.alloc (.cells #[.int .i64 kv,.int .i64 (0)] 60)).alloc (.cells #[.int .i64 kv,.int .i64 (0)] 60)).grown hgrow (fun j hj=>by have:=(HROW.out.lt j hj).1;have:=HGE.out;omega)
      rotate_left
      all_goals
       have K1:=(hgrow.block wc.heap.size zp (fun e=>by have:=(HROW.out.lt _ e.symm).1;omega)).trans ((Below.heap_alloc _ _ _ zp).trans ((Below.heap_alloc _ _ _ hl3).trans HKD.out));have hoc2:w1.cell? ⟨g,3,none⟩=some (.slice aa (bE R k).length acap):=cell_of_row _ _ _ _ _ _ O1.out;have hof2:w1.frozen? ⟨g,3,none⟩=false:=Joins.unfrozen_of_block O1.out 3;have R2:=yq (R1.setCell (a:=⟨g,3,none⟩) (show g<wc.heap.size+1 by omega) (.slice (some ⟨g',0,none⟩) ((bE R k).length+1) cap));have O2:=yq (O1.store 3 (.slice (some ⟨g',0,none⟩) ((bE R k).length+1) cap));have K2:=yq ((Below.heap_setCell w1 ⟨g,3,none⟩ (.slice (some ⟨g',0,none⟩) ((bE R k).length+1) cap) wc.heap.size (by show wc.heap.size≠g;omega)).trans K1);clear hown' hgrow hat hlt' R1 O1 K1
       go_wp2_with fail
       go_roundw
       case rel=>exact⟨k+1,_,by omega,by omega,by go_num,O2.out,K2.out,by rw [HSU.out,HKV.out];exact R2.out⟩
       case measure=>simp [intOf];omega
    ·go_wp2_with fail
     go_meet
     exact⟨_,wc.heap.size+1,HOFR.out,⟨by omega,by omega⟩,by rw [show gZ R=k by unfold gZ;omega];exact HROW.out⟩
   ·go_wp2_with fail
    go_meet
    exact⟨_,wc.heap.size+1,HOFR.out,⟨by omega,by omega⟩,by rw [show gZ R=k by unfold gZ;omega];exact HROW.out⟩
 obtain⟨vcr,H1,hof,⟨hgH1,hH1⟩,hrow1⟩:=hcut;have HROW1:=yq hrow1.upto;have HOF1:=yq hof;have hgl1:=hof.lt;clear HOF hgl hof hrow1
 go_step
 exact MP R w h1 h2 h3 h4 ca sa la ia pa ua ccap scap lcap icap pcap ucap hcl hsl hll hil hpl hul HCC HSC HLC HIC HPC HUC g _ wc vcr H1 hgH1 hH1 HROW1 HOF1 hgl1 _ _ _ _ _ _ _ _ _ _ _ _ _ _ _ _ _ _ _ _ _ _ _ _ _ _ _ _ _ _ _ _ _ _ _ _ _ _ _ _ _ _ _ _ _ _ _ _ _ _ _ _ _ _ _ _ _ _ _ _ _ _ _ _ _ _ _ _ _ _ _ _ _ _ _ _ _ _ _ _ _ _ _ _ _ _ _ _ _ _ _ _ _ _ _ _ _ _ _ _ _ _ _ _ _ _ _ _ _ _ _ _ _ _ _ _ _ _ _ _ _ _ _ _ _ _ _ _ _ _ _ _ _ _ _ _ _ _ _ _ _ _ _ _ _ _ _ _ _ _ _ _ _ _ _ _ _ _ _ _ _ _ _ _ _ _ _ _ _ _ _ _ _ _ _ _ _ _ _ _ _ _ _ _ _ _ _ _ _ _ _ _ _ _ _ _ _ _ _ _ _ _ _ _ _ _ _ _ _ _ _ _ _ _ _ _ _ _ _ _ _ _ _ _ _
theorem Ow:Hid AV:=yq (by
 intro R cs w hR;obtain⟨h1,h2,h3,h4,vc,vs,vl,vi,vp,vu,he,hC,hS,hL,hI,hP,hU⟩:=hR;obtain⟨l⟩:=cs;simp only at he;subst he
 exact PU R vc vs vl vi vp vu w h1 h2 h3 h4 hC hS hL hI hP hU)
end Go.Proofs.YtcfpoofhokbhlaaGreatDoor
