import Derived.Test.YthionhbjmheimaaDoorLTwistW
set_option linter.all false
set_option maxHeartbeats 16000000
set_option maxRecDepth 1000000
namespace Go.Proofs.YthionhbjmheimaaDoor
open Go.RowKit
theorem Of_from4(R:RawV)(w:World)(h1:I64 R.frm)(h2:I64 R.mode)(h3:I64 R.unit)(h4:I64 R.twist)(ca:Option Addr)(sa:Option Addr)(la:Option Addr)(ia:Option Addr)(pa:Option Addr)(ua:Option Addr)(ccap:Nat)(scap:Nat)(lcap:Nat)(icap:Nat)(pcap:Nat)(ucap:Nat)(hcl:R.credits.length≤140737488355328)(hsl:R.series.length≤140737488355328)(hll:R.lets.length≤140737488355328)(hil:R.ifs.length≤140737488355328)(hpl:R.pays.length≤140737488355328)(hul:R.cuts.length≤140737488355328)(HCC:Hid (R.credits.length=0∨∃b off,ca=some ⟨b,off,none⟩∧b<w.heap.size∧∀(i:Nat),i<R.credits.length→w.cell? ⟨b,off+i,none⟩=some (.int .i64 (R.credits.getD i 0))))(HSC:Hid (R.series.length=0∨∃b off,sa=some ⟨b,off,none⟩∧b<w.heap.size∧∀(i:Nat),i<R.series.length→w.cell? ⟨b,off+i,none⟩=some (.int .i64 (R.series.getD i 0))))(HLC:Hid (R.lets.length=0∨∃b off,la=some ⟨b,off,none⟩∧b<w.heap.size∧∀(i:Nat),i<R.lets.length→∃u,w.cell? ⟨b,off+i,none⟩=some u∧IntsAt w u (R.lets.getD i [])))(HIC:Hid (R.ifs.length=0∨∃b off,ia=some ⟨b,off,none⟩∧b<w.heap.size∧∀(i:Nat),i<R.ifs.length→∃u,w.cell? ⟨b,off+i,none⟩=some u∧IntsAt w u (R.ifs.getD i [])))(HPC:Hid (R.pays.length=0∨∃b off,pa=some ⟨b,off,none⟩∧b<w.heap.size∧∀(i:Nat),i<R.pays.length→∃u,w.cell? ⟨b,off+i,none⟩=some u∧IntsAt w u (R.pays.getD i [])))(HUC:Hid (R.cuts.length=0∨∃b off,ua=some ⟨b,off,none⟩∧b<w.heap.size∧∀(i:Nat),i<R.cuts.length→∃u,w.cell? ⟨b,off+i,none⟩=some u∧IntsAt w u (R.cuts.getD i [])))(g:Nat)(wk:Nat)(wc:World)(vcr:Value)(H1:Nat)(hgH1:g<H1)(vse:Value)(H2:Nat)(hgH2:g<H2)(hH12:H1≤H2)(vle:Value)(H3:Nat)(ql:List (ByteArray × (Ex × Value)))(hgH3:g<H3)(hH23:H2≤H3)(eva:Option Addr)(evc:Nat)(vgr:Value)(H4:Nat)(qg:List GrT)(hgH4:g<H4)(hH34:H3≤H4)(hH4:H4≤wc.heap.size)(HROW1:Hid (RowX 68 2 H1 (· <H2) wc vcr (credCells R (nCred R)) []))(HROW2:Hid (RowX 72 3 H2 (· <H3) wc vse (serCells R (nSer R)) []))(HROW3:Hid (RowX 77 7 H3 (· <H4) wc vle (letL ql) (ql.map (·.2))))(HENV:Hid (RowG 79 2 H3 wc (.slice eva (envL (envF R (nLet R))).length evc) (envL (envF R (nLet R))) []))(HROW4:Hid (RowX 65 13 H4 (· <wc.heap.size) wc vgr (grL qg) (grR qg)))(HQL:Hid (LetQ R (nLet R) ql))(HQG:Hid (GrQ R (nPay R) qg))(HOF1:Hid (OfAt w (raw10 R (.slice ca R.credits.length ccap) (.slice sa R.series.length scap) (.slice la R.lets.length lcap) (.slice ia R.ifs.length icap) (.slice pa R.pays.length pcap) (.slice ua R.cuts.length ucap)) g #[.int .i64 (pick R.frm 73049),.int .i64 (pick R.mode 4+1),.int .i64 (unitOf (pick R.unit 5)),vcr,vse,vle,vgr,.slice none 0 0] wc))(hgl1:g<wc.heap.size)(u5 u6 u7 u8 u9 u11 u12 u13 u14 u15 u17 u18 u19 u20 u21 u22 u23 u24 u25 u26 u27 u28 u29 u30 u31 u32 u33 u34 u35 u36 u37 u38 u39 u40 u41 u42 u43 u44 u45 u46 u47 u48 u49 u50 u51 u52 u53 u54 u55 u56 u57 u58 u59 u60 u61 u62 u63 u64 u65 u66 u67 u68 u69 u70 u71 u72 u73 u74 u75 u76 u77 u78 u79 u80 u81 u82 u83 u84 u85 u86 u87 u88 u89 u90 u91 u92 u93 u94 u95 u96 u97 u98 u99 u100 u101 u102 u103 u104 u105 u106 u107 u108 u109 u110 u111 u112 u113 u114 u115 u116 u117 u118 u119 u120 u121 u122 u123 u124 u125 u126 u127 u128 u129 u130 u131 u132 u133 u134 u135 u136 u137 u138 u139 u140 u141 u142 u143 u144 u145 u146 u147 u148 u149 u150 u151 u152 u153 u154 u155 u156 u157 u158 u159 u160 u161 u162 u163 u164 u165 u166 u167 u168 u169 u170 u171 u172 u173 u174 u175 u176 u177 u178 u179 u180 u181 u182 u183 u184 u185 u186 u187 u188 u189 u190 u191 u192 u193 u194 u195 u196 u197 u198 u199 u200 u201 u202 u203 u204 u205 u206 u207 u208 u209 u210 u211 u212 u213 u214 u215 u216 u217 u218 u219 u220 u221 u222 u223 u224 u225 u226 u227 u228 u229 u230 u231 u232 u233 u234 u235 u236 u237 u238 u239:Value) :
 Code.wp Tryd.prog (tlC (tlC (tlC (tlC (tlC (tlC (tlC (tlC (Tryd.f5.body.getD .skip))))))))) (bodyPost Tryd.prog Tryd.f5 (OfPost R w)) {tmps:=#[(.agg (raw10 R (.slice ca R.credits.length ccap) (.slice sa R.series.length scap) (.slice la R.lets.length lcap) (.slice ia R.ifs.length icap) (.slice pa R.pays.length pcap) (.slice ua R.cuts.length ucap))),.pointer (some ⟨w.heap.size,0,none⟩),.pointer (some ⟨w.heap.size+1,0,none⟩),.pointer (some ⟨g,0,none⟩),.slice (some ⟨wk,0,none⟩) 6 6,u5,u6,u7,u8,u9,.slice eva (envL (envF R (nLet R))).length evc,u11,u12,u13,u14,u15,undef,u17,u18,u19,u20,u21,u22,u23,u24,u25,u26,u27,u28,u29,u30,u31,u32,u33,u34,u35,u36,u37,u38,u39,u40,u41,u42,u43,u44,u45,u46,u47,u48,u49,u50,u51,u52,u53,u54,u55,u56,u57,u58,u59,u60,u61,u62,u63,u64,u65,u66,u67,u68,u69,u70,u71,u72,u73,u74,u75,u76,u77,u78,u79,u80,u81,u82,u83,u84,u85,u86,u87,u88,u89,u90,u91,u92,u93,u94,u95,u96,u97,u98,u99,u100,u101,u102,u103,u104,u105,u106,u107,u108,u109,u110,u111,u112,u113,u114,u115,u116,u117,u118,u119,u120,u121,u122,u123,u124,u125,u126,u127,u128,u129,u130,u131,u132,u133,u134,u135,u136,u137,u138,u139,u140,u141,u142,u143,u144,u145,u146,u147,u148,u149,u150,u151,u152,u153,u154,u155,u156,u157,u158,u159,u160,u161,u162,u163,u164,u165,u166,u167,u168,u169,u170,u171,u172,u173,u174,u175,u176,u177,u178,u179,u180,u181,u182,u183,u184,u185,u186,u187,u188,u189,u190,u191,u192,u193,u194,u195,u196,u197,u198,u199,u200,u201,u202,u203,u204,u205,u206,u207,u208,u209,u210,u211,u212,u213,u214,u215,u216,u217,u218,u219,u220,u221,u222,u223,u224,u225,u226,u227,u228,u229,u230,u231,u232,u233,u234,u235,u236,u237,u238,u239],defers:=[]} wc:=by
 obtain⟨i0,hi,hz0,hz1,hz2⟩:=info_parts infoCred
 obtain⟨i1,hj,hj0,hj1,hj2⟩:=info_parts infoIdx
 obtain⟨i2,hq,hq0,hq1,hq2⟩:=info_parts infoLet
 obtain⟨i3,hr,hr0,hr1,hr2⟩:=info_parts infoBind
 obtain⟨i4,ht,ht0,ht1,ht2⟩:=info_parts infoGrant
 obtain⟨i5,hv,hv0,hv1,hv2⟩:=info_parts infoReduce
 conv=>arg 2;whnf
 unfold raw10
 go_upto_block 8 with fail
 go_cut []from 17 (fun wx=>∃vre H5 q,OfAt w (raw10 R (.slice ca R.credits.length ccap) (.slice sa R.series.length scap) (.slice la R.lets.length lcap) (.slice ia R.ifs.length icap) (.slice pa R.pays.length pcap) (.slice ua R.cuts.length ucap)) g #[.int .i64 (pick R.frm 73049),.int .i64 (pick R.mode 4+1),.int .i64 (unitOf (pick R.unit 5)),vcr,vse,vle,vgr,vre] wx∧RowX 68 2 H1 (· <H2) wx vcr (credCells R (nCred R)) []∧RowX 72 3 H2 (· <H3) wx vse (serCells R (nSer R)) []∧RowX 77 7 H3 (· <H4) wx vle (letL ql) (ql.map (·.2))∧RowX 65 13 H4 (· <H5) wx vgr (grL qg) (grR qg)∧(g<H5∧H4≤H5∧H5≤wx.heap.size)∧RowG 81 7 H5 wx vre (reL q) (q.map (·.2))∧ReQ R (nCut R) q)
 case first=>
  go_wp2_with fail
  go_loopw [16] (fun v16 wr=>∃k:Nat,∃vre:Value,∃q:List (Int × (Ex × Value)),k≤R.cuts.length∧k≤2∧v16= .int .i64 k∧OfAt w (raw10 R (.slice ca R.credits.length ccap) (.slice sa R.series.length scap) (.slice la R.lets.length lcap) (.slice ia R.ifs.length icap) (.slice pa R.pays.length pcap) (.slice ua R.cuts.length ucap)) g #[.int .i64 (pick R.frm 73049),.int .i64 (pick R.mode 4+1),.int .i64 (unitOf (pick R.unit 5)),vcr,vse,vle,vgr,vre] wr∧Next g wc wr∧RowG 81 7 wc.heap.size wr vre (reL q) (q.map (·.2))∧ReQ R k q) (fun v16 _=>2-(intOf v16).toNat)
  case atStart=>exact⟨0,_,[],by omega,by omega,rfl,HOF1.out,.refl _ _,.nil _ _ _ _,rfl⟩
  case round=>
   obtain⟨k,vre,q,hk,hk2,rfl,hof,hnx,hrow,hgq⟩:=hrel
   have hbx:wr.cell? ⟨w.heap.size,8,none⟩=some (.slice ua R.cuts.length ucap):=cell_of_row _ _ _ _ _ _ hof.box
   have hoc:wr.cell? ⟨g,7,none⟩=some vre:=cell_of_row _ _ _ _ _ _ hof.out
   have hl0:=hof.lt0
   have hl1:w.heap.size<wr.heap.size:=by omega
   have hl2:=hof.lt
   have hl3:=hnx.size
   have HNX:=Lib.hid hnx
   have HOFR:=Lib.hid hof
   have HROW:=Lib.hid hrow
   have HQ:=Lib.hid hgq
   have HLL:=Lib.hid (show(reL q).length=k by unfold reL;rw [List.length_map];exact hgq.length)
   obtain⟨aa,acap,rfl⟩:=hrow.form
   clear hof hnx hrow hl0 hgq
   by_cases hlt:k<R.cuts.length
   ·by_cases hlt2:k<2
    ·rcases HUC.out with h0|⟨b,off,rfl,hb,hx⟩
     ·omega
     ·obtain⟨u,hxk,hxi⟩:=hx k hlt
      have hkb:b<wr.heap.size:=by omega
      have hyk:wr.cell? ⟨b,off+k,none⟩=some u:=by rw [HOFR.out.bel.cell (by exact hb)];exact hxk
      have HXI:=Lib.hid hxi
      obtain⟨za,zcap,rfl⟩:=IntsAt.form hxi
      have HXK:=Lib.hid hxk
      clear hxk hx hxi
      have d1:(k:Int)<(R.cuts.length:Int):=by omega
      have d2:(k:Int)<2:=by omega
      have HCE:Hid (topF (R.cuts.getD k []) (envF R (nLet R)) 2=cutE R k):=Lib.hid rfl
      generalize hzk:R.cuts.getD k []=zk at *
      clear hzk
      have hzl:zk.length≤140737488355328:=HXI.out.1
      have hm1:IntKind.i64.wrap ((k:Int)+1)=k+1:=IntWalk.i64_in _ (by omega)
      have HRB:=Lib.hid HROW.out.lt
      go_upto_region 34 with fail
      refine TG.begin 15 (fun w'=>w'.cell? ⟨g,7,none⟩=some (.slice aa (reL q).length acap)∧w'.cell? ⟨w.heap.size,8,none⟩=some (.slice (some ⟨b,off,none⟩) R.cuts.length ucap)∧w'.cell? ⟨b,off+k,none⟩=some (.slice za zk.length zcap)) (by kernel_rfl) (by kernel_rfl) ?_ (fun hS=>?_)
      focus(refine⟨?_, ?_, ?_⟩<;>simp [go_sem,hoc,hbx,hyk,hl1,hl2,hkb])
      refine TG.tkB 0 hS ?_
      refine TG.tkB 1 hS ?_
      refine TG.tkB 2 hS ?_
      refine TG.tkB 3 hS ?_
      refine TG.tkB 4 hS ?_
      refine TG.tkB 5 hS ?_
      refine TG.tkB 6 hS ?_
      refine TG.tkB 7 hS ?_
      refine TG.tkB 8 hS ?_
      refine TG.tkB 9 hS ?_
      refine TG.one (i:=10) (by kernel_rfl) rfl (fun K1 hK1=>?_)
      go_simp
      go_at_call 17
      refine(Expr_any2 _ _ zk (envF R (nLet R)) 2 (cutE R k) wr.drew (ListAt.of_ints HXI.out HOFR.out.drew.bel) (EnvAt.of_row ((HENV.out.next HNX.out hgH3).drew) (by rw [envF_length];unfold nLet;omega) (envF_size R _)) (by omega) (by omega) HCE).mono ?_
      rintro e' w' ⟨v1,rfl,⟨bs1,dr1,rfl⟩,hrep⟩
      have H1:=Lib.hid (hrep.eqw (w':=wr.grow bs1 dr1) (by simp))
      obtain⟨v1a,v1c,hv1⟩:=hrep.form
      subst hv1
      clear hrep
      (try simp only [World.drew_grow])
      refine TG.go hK1 ?_ (fun hS=>?_)
      focus
       (try dsimp only)
       (refine⟨?_, ?_, ?_⟩<;>simp [go_sem,hoc,hbx,hyk,hl1,hl2,hkb])
      clear hK1 K1
      (try simp only [nS])
      refine TG.tkB 11 hS ?_
      refine TG.one (i:=12) (by kernel_rfl) rfl (fun K1 hK1=>?_)
      go_simp
      refine TG.go hK1 ?_ (fun hS=>?_)
      focus
       (try dsimp only)
       (refine⟨?_, ?_, ?_⟩<;>simp [go_sem,hoc,hbx,hyk,hl1,hl2,hkb])
      clear hK1 K1
      (try simp only [nS])
      refine TG.one (i:=13) (by kernel_rfl) rfl (fun K1 hK1=>?_)
      refine step_append_lies _ rfl _ _ 42 rfl wc.heap.size 81 i5 _ 7 80 Tryd.underlying42 hv hv0 hv1 hv2 rfl (by decide) _ _ _ rfl ((HROW.out.grow bs1 dr1).alloc (.cells #[.int .i64 ((k:Int)+1),.int .i64 (cutE R k).op,.int .i64 (cutE R k).num,.int .i64 (cutE R k).den,.int .i64 (cutE R k).dim,.string (cutE R k).name,.slice v1a (cutE R k).args.length v1c] 81)).own ⟨wr.heap.size+bs1.size,0,none⟩ 1 1 [.int .i64 ((k:Int)+1),.int .i64 (cutE R k).op,.int .i64 (cutE R k).num,.int .i64 (cutE R k).den,.int .i64 (cutE R k).dim,.string (cutE R k).name,.slice v1a (cutE R k).args.length v1c] rfl rfl ?_ ?_ (by decide) ?_ ?_ ?_ (wr.heap.size+bs1.size+1) (by simp) ?_
      focus exact fun j u hu=>news_cells _ [.int .i64 ((k:Int)+1),.int .i64 (cutE R k).op,.int .i64 (cutE R k).num,.int .i64 (cutE R k).den,.int .i64 (cutE R k).dim,.string (cutE R k).name,.slice v1a (cutE R k).args.length v1c] 81 _ (by simp) j u hu
      focus exact re_one _ _ _ rfl
      focus(have:=HLL.out;unfold maxLen;omega)
      focus(have:=HLL.out;omega)
      focus(simp;omega)
      intro g' cap w1 hown' hgrow hat hlt'
      have R1:=RowG.push (rs2:=[(cutE R k,.slice v1a (cutE R k).args.length v1c)]) (m:=wr.heap.size) ((HROW.out.grow bs1 dr1).alloc (.cells #[.int .i64 ((k:Int)+1),.int .i64 (cutE R k).op,.int .i64 (cutE R k).num,.int .i64 (cutE R k).den,.int .i64 (cutE R k).dim,.string (cutE R k).name,.slice v1a (cutE R k).args.length v1c] 81)) (rep_one ((H1.out.mono (fun b hb=>by simpa using hb)).alloc _)) hl3 (fun j hj=>(HRB.out j hj).2) rfl rfl rfl hown' hgrow hat (by simp)
      have O1:=((HOFR.out.grow bs1 dr1).alloc (.cells #[.int .i64 ((k:Int)+1),.int .i64 (cutE R k).op,.int .i64 (cutE R k).num,.int .i64 (cutE R k).den,.int .i64 (cutE R k).dim,.string (cutE R k).name,.slice v1a (cutE R k).args.length v1c] 81)).grown hgrow (fun j hj=>by have:=(HRB.out j hj).1;have:=HOFR.out.gge;omega)
      have N1:=((HNX.out.grow bs1 dr1).alloc (.cells #[.int .i64 ((k:Int)+1),.int .i64 (cutE R k).op,.int .i64 (cutE R k).num,.int .i64 (cutE R k).den,.int .i64 (cutE R k).dim,.string (cutE R k).name,.slice v1a (cutE R k).args.length v1c] 81)).grown hgrow (fun j hj=>(HRB.out j hj).1)
      have hoc2:w1.cell? ⟨g,7,none⟩=some (.slice aa (reL q).length acap):=cell_of_row _ _ _ _ _ _ O1.out
      have hof2:w1.frozen? ⟨g,7,none⟩=false:=Joins.unfrozen_of_block O1.out 7
      have hyk2:=(O1.bel.cell (p:=⟨b,off+k,none⟩) hb).trans HXK.out
      (try simp only [nS])
      refine TG.go hK1 ?_ (fun hS=>?_)
      focus exact⟨hoc2,cell_of_row _ _ _ _ _ _ O1.box,hyk2⟩
      clear hK1 K1 hyk2
      have HR2:=Lib.hid (R1.setCell (a:=⟨g,7,none⟩) hgl1 (.slice (some ⟨g',0,none⟩) ((reL q).length+1) cap))
      have HO2:=Lib.hid (O1.store 7 (.slice (some ⟨g',0,none⟩) ((reL q).length+1) cap))
      have HN2:=Lib.hid (N1.store 7 (.slice (some ⟨g',0,none⟩) ((reL q).length+1) cap))
      clear hown' hgrow hat hlt' R1 O1 N1
      (try simp only [nS])
      refine TG.tkB 14 hS ?_
      refine TG.one (i:=15) (by kernel_rfl) rfl (fun K1 hK1=>?_)
      go_simp
      refine hK1 _ _ (fun h=>absurd rfl h) (TG.done (by kernel_rfl) ?_)
      clear hK1 K1 hS
      (try simp only [nS])
      go_wp2_with fail
      go_roundw
      case rel=>exact⟨k+1,_,q++[((k:Int)+1,(cutE R k,.slice v1a (cutE R k).args.length v1c))],by omega,by omega,by go_num,HO2.out,HN2.out,by rw [reL_push,List.map_append];exact HR2.out,HQ.out.push _⟩
      case measure=>simp [intOf];omega
    ·go_wp2_with fail
     go_meet
     exact⟨_,wc.heap.size,q,HOFR.out,HROW1.out.next HNX.out hgH1,HROW2.out.next HNX.out hgH2,HROW3.out.next HNX.out hgH3,HROW4.out.next HNX.out hgH4,⟨hgl1,hH4,HNX.out.size⟩,by rw [show nCut R=k by unfold nCut;omega];exact⟨HROW.out,HQ.out⟩⟩
   ·go_wp2_with fail
    go_meet
    exact⟨_,wc.heap.size,q,HOFR.out,HROW1.out.next HNX.out hgH1,HROW2.out.next HNX.out hgH2,HROW3.out.next HNX.out hgH3,HROW4.out.next HNX.out hgH4,⟨hgl1,hH4,HNX.out.size⟩,by rw [show nCut R=k by unfold nCut;omega];exact⟨HROW.out,HQ.out⟩⟩
 obtain⟨vre,H5,qr,hcut⟩:=hcut
 clear HROW1 HROW2 HROW3 HROW4 HENV HOF1 hgl1 hH4
 go_step
 exact Of_from5 R w h1 h2 h3 h4 ca sa la ia pa ua ccap scap lcap icap pcap ucap hcl hsl hll hil hpl hul HCC HSC HLC HIC HPC HUC g _ wc vcr H1 hgH1 vse H2 hgH2 hH12 vle H3 ql hgH3 hH23 eva evc vgr H4 qg hgH4 hH34 vre H5 qr hcut HQL HQG _ _ _ _ _ _ _ _ _ _ _ _ _ _ _ _ _ _ _ _ _ _ _ _ _ _ _ _ _ _ _ _ _ _ _ _ _ _ _ _ _ _ _ _ _ _ _ _ _ _ _ _ _ _ _ _ _ _ _ _ _ _ _ _ _ _ _ _ _ _ _ _ _ _ _ _ _ _ _ _ _ _ _ _ _ _ _ _ _ _ _ _ _ _ _ _ _ _ _ _ _ _ _ _ _ _ _ _ _ _ _ _ _ _ _ _ _ _ _ _ _ _ _ _ _ _ _ _ _ _ _ _ _ _ _ _ _ _ _ _ _ _ _ _ _ _ _ _ _ _ _ _ _ _ _ _ _ _ _ _ _ _ _ _ _ _ _ _ _ _ _ _ _ _ _ _ _ _ _ _ _ _ _ _ _ _ _ _ _ _ _ _ _ _ _ _ _ _ _ _ _ _ _ _ _ _ _ _ _ _ _ _ _ _ _ _ _ _ _ _ _ _ _ _ _ _ _ _ _ _ _ _ _ _
theorem Of_from3(R:RawV)(w:World)(h1:I64 R.frm)(h2:I64 R.mode)(h3:I64 R.unit)(h4:I64 R.twist)(ca:Option Addr)(sa:Option Addr)(la:Option Addr)(ia:Option Addr)(pa:Option Addr)(ua:Option Addr)(ccap:Nat)(scap:Nat)(lcap:Nat)(icap:Nat)(pcap:Nat)(ucap:Nat)(hcl:R.credits.length≤140737488355328)(hsl:R.series.length≤140737488355328)(hll:R.lets.length≤140737488355328)(hil:R.ifs.length≤140737488355328)(hpl:R.pays.length≤140737488355328)(hul:R.cuts.length≤140737488355328)(HCC:Hid (R.credits.length=0∨∃b off,ca=some ⟨b,off,none⟩∧b<w.heap.size∧∀(i:Nat),i<R.credits.length→w.cell? ⟨b,off+i,none⟩=some (.int .i64 (R.credits.getD i 0))))(HSC:Hid (R.series.length=0∨∃b off,sa=some ⟨b,off,none⟩∧b<w.heap.size∧∀(i:Nat),i<R.series.length→w.cell? ⟨b,off+i,none⟩=some (.int .i64 (R.series.getD i 0))))(HLC:Hid (R.lets.length=0∨∃b off,la=some ⟨b,off,none⟩∧b<w.heap.size∧∀(i:Nat),i<R.lets.length→∃u,w.cell? ⟨b,off+i,none⟩=some u∧IntsAt w u (R.lets.getD i [])))(HIC:Hid (R.ifs.length=0∨∃b off,ia=some ⟨b,off,none⟩∧b<w.heap.size∧∀(i:Nat),i<R.ifs.length→∃u,w.cell? ⟨b,off+i,none⟩=some u∧IntsAt w u (R.ifs.getD i [])))(HPC:Hid (R.pays.length=0∨∃b off,pa=some ⟨b,off,none⟩∧b<w.heap.size∧∀(i:Nat),i<R.pays.length→∃u,w.cell? ⟨b,off+i,none⟩=some u∧IntsAt w u (R.pays.getD i [])))(HUC:Hid (R.cuts.length=0∨∃b off,ua=some ⟨b,off,none⟩∧b<w.heap.size∧∀(i:Nat),i<R.cuts.length→∃u,w.cell? ⟨b,off+i,none⟩=some u∧IntsAt w u (R.cuts.getD i [])))(g:Nat)(wk:Nat)(wc:World)(vcr:Value)(H1:Nat)(hgH1:g<H1)(vse:Value)(H2:Nat)(hgH2:g<H2)(hH12:H1≤H2)(vle:Value)(H3:Nat)(ql:List (ByteArray × (Ex × Value)))(hgH3:g<H3)(hH23:H2≤H3)(eva:Option Addr)(evc:Nat)(hH3:H3≤wc.heap.size)(HROW1:Hid (RowX 68 2 H1 (· <H2) wc vcr (credCells R (nCred R)) []))(HROW2:Hid (RowX 72 3 H2 (· <H3) wc vse (serCells R (nSer R)) []))(HROW3:Hid (RowX 77 7 H3 (· <wc.heap.size) wc vle (letL ql) (ql.map (·.2))))(HENV:Hid (RowG 79 2 H3 wc (.slice eva (envL (envF R (nLet R))).length evc) (envL (envF R (nLet R))) []))(HQL:Hid (LetQ R (nLet R) ql))(HOF1:Hid (OfAt w (raw10 R (.slice ca R.credits.length ccap) (.slice sa R.series.length scap) (.slice la R.lets.length lcap) (.slice ia R.ifs.length icap) (.slice pa R.pays.length pcap) (.slice ua R.cuts.length ucap)) g #[.int .i64 (pick R.frm 73049),.int .i64 (pick R.mode 4+1),.int .i64 (unitOf (pick R.unit 5)),vcr,vse,vle,.slice none 0 0,.slice none 0 0] wc))(hgl1:g<wc.heap.size)(u5 u6 u7 u8 u9 u11 u12 u17 u18 u19 u20 u21 u22 u23 u24 u25 u26 u27 u28 u29 u30 u31 u32 u33 u34 u35 u36 u37 u38 u39 u40 u41 u42 u43 u44 u45 u46 u47 u48 u49 u50 u51 u52 u53 u54 u55 u56 u57 u58 u59 u60 u61 u62 u63 u64 u65 u66 u67 u68 u69 u70 u71 u72 u73 u74 u75 u76 u77 u78 u79 u80 u81 u82 u83 u84 u85 u86 u87 u88 u89 u90 u91 u92 u93 u94 u95 u96 u97 u98 u99 u100 u101 u102 u103 u104 u105 u106 u107 u108 u109 u110 u111 u112 u113 u114 u115 u116 u117 u118 u119 u120 u121 u122 u123 u124 u125 u126 u127 u128 u129 u130 u131 u132 u133 u134 u135 u136 u137 u138 u139 u140 u141 u142 u143 u144 u145 u146 u147 u148 u149 u150 u151 u152 u153 u154 u155 u156 u157 u158 u159 u160 u161 u162 u163 u164 u165 u166 u167 u168 u169 u170 u171 u172 u173 u174 u175 u176 u177 u178 u179 u180 u181 u182 u183 u184 u185 u186 u187 u188 u189 u190 u191 u192 u193 u194 u195 u196 u197 u198 u199 u200 u201 u202 u203 u204 u205 u206 u207 u208 u209 u210 u211 u212 u213 u214 u215 u216 u217 u218 u219 u220 u221 u222 u223 u224 u225 u226 u227 u228 u229 u230 u231 u232 u233 u234 u235 u236 u237 u238 u239:Value) :
 Code.wp Tryd.prog (tlC (tlC (tlC (tlC (tlC (tlC (tlC (Tryd.f5.body.getD .skip)))))))) (bodyPost Tryd.prog Tryd.f5 (OfPost R w)) {tmps:=#[(.agg (raw10 R (.slice ca R.credits.length ccap) (.slice sa R.series.length scap) (.slice la R.lets.length lcap) (.slice ia R.ifs.length icap) (.slice pa R.pays.length pcap) (.slice ua R.cuts.length ucap))),.pointer (some ⟨w.heap.size,0,none⟩),.pointer (some ⟨w.heap.size+1,0,none⟩),.pointer (some ⟨g,0,none⟩),.slice (some ⟨wk,0,none⟩) 6 6,u5,u6,u7,u8,u9,.slice eva (envL (envF R (nLet R))).length evc,u11,u12,undef,undef,undef,undef,u17,u18,u19,u20,u21,u22,u23,u24,u25,u26,u27,u28,u29,u30,u31,u32,u33,u34,u35,u36,u37,u38,u39,u40,u41,u42,u43,u44,u45,u46,u47,u48,u49,u50,u51,u52,u53,u54,u55,u56,u57,u58,u59,u60,u61,u62,u63,u64,u65,u66,u67,u68,u69,u70,u71,u72,u73,u74,u75,u76,u77,u78,u79,u80,u81,u82,u83,u84,u85,u86,u87,u88,u89,u90,u91,u92,u93,u94,u95,u96,u97,u98,u99,u100,u101,u102,u103,u104,u105,u106,u107,u108,u109,u110,u111,u112,u113,u114,u115,u116,u117,u118,u119,u120,u121,u122,u123,u124,u125,u126,u127,u128,u129,u130,u131,u132,u133,u134,u135,u136,u137,u138,u139,u140,u141,u142,u143,u144,u145,u146,u147,u148,u149,u150,u151,u152,u153,u154,u155,u156,u157,u158,u159,u160,u161,u162,u163,u164,u165,u166,u167,u168,u169,u170,u171,u172,u173,u174,u175,u176,u177,u178,u179,u180,u181,u182,u183,u184,u185,u186,u187,u188,u189,u190,u191,u192,u193,u194,u195,u196,u197,u198,u199,u200,u201,u202,u203,u204,u205,u206,u207,u208,u209,u210,u211,u212,u213,u214,u215,u216,u217,u218,u219,u220,u221,u222,u223,u224,u225,u226,u227,u228,u229,u230,u231,u232,u233,u234,u235,u236,u237,u238,u239],defers:=[]} wc:=by
 obtain⟨i0,hi,hz0,hz1,hz2⟩:=info_parts infoCred
 obtain⟨i1,hj,hj0,hj1,hj2⟩:=info_parts infoIdx
 obtain⟨i2,hq,hq0,hq1,hq2⟩:=info_parts infoLet
 obtain⟨i3,hr,hr0,hr1,hr2⟩:=info_parts infoBind
 obtain⟨i4,ht,ht0,ht1,ht2⟩:=info_parts infoGrant
 obtain⟨i5,hv,hv0,hv1,hv2⟩:=info_parts infoReduce
 conv=>arg 2;whnf
 unfold raw10
 go_upto_block 6 with fail
 go_cut []from 17 (fun wx=>∃vgr H4 q,OfAt w (raw10 R (.slice ca R.credits.length ccap) (.slice sa R.series.length scap) (.slice la R.lets.length lcap) (.slice ia R.ifs.length icap) (.slice pa R.pays.length pcap) (.slice ua R.cuts.length ucap)) g #[.int .i64 (pick R.frm 73049),.int .i64 (pick R.mode 4+1),.int .i64 (unitOf (pick R.unit 5)),vcr,vse,vle,vgr,.slice none 0 0] wx∧RowX 68 2 H1 (· <H2) wx vcr (credCells R (nCred R)) []∧RowX 72 3 H2 (· <H3) wx vse (serCells R (nSer R)) []∧(RowX 77 7 H3 (· <H4) wx vle (letL ql) (ql.map (·.2))∧RowG 79 2 H3 wx (.slice eva (envL (envF R (nLet R))).length evc) (envL (envF R (nLet R))) [])∧(g<H4∧H3≤H4∧H4≤wx.heap.size)∧RowG 65 13 H4 wx vgr (grL q) (grR q)∧GrQ R (nPay R) q)
 case first=>
  go_wp2_with fail
  go_loopw [13] (fun v13 wr=>∃k:Nat,∃vgr:Value,∃q:List GrT,k≤R.pays.length∧k≤3∧v13= .int .i64 k∧OfAt w (raw10 R (.slice ca R.credits.length ccap) (.slice sa R.series.length scap) (.slice la R.lets.length lcap) (.slice ia R.ifs.length icap) (.slice pa R.pays.length pcap) (.slice ua R.cuts.length ucap)) g #[.int .i64 (pick R.frm 73049),.int .i64 (pick R.mode 4+1),.int .i64 (unitOf (pick R.unit 5)),vcr,vse,vle,vgr,.slice none 0 0] wr∧Next g wc wr∧RowG 65 13 wc.heap.size wr vgr (grL q) (grR q)∧GrQ R k q) (fun v13 _=>3-(intOf v13).toNat)
  case atStart=>exact⟨0,_,[],by omega,by omega,rfl,HOF1.out,.refl _ _,.nil _ _ _ _,rfl⟩
  case round=>
   obtain⟨k,vgr,q,hk,hk3,rfl,hof,hnx,hrow,hgq⟩:=hrel
   have hbx:wr.cell? ⟨w.heap.size,7,none⟩=some (.slice pa R.pays.length pcap):=cell_of_row _ _ _ _ _ _ hof.box
   have hbx2:wr.cell? ⟨w.heap.size,6,none⟩=some (.slice ia R.ifs.length icap):=cell_of_row _ _ _ _ _ _ hof.box
   have hoc:wr.cell? ⟨g,6,none⟩=some vgr:=cell_of_row _ _ _ _ _ _ hof.out
   have hl0:=hof.lt0
   have hl1:w.heap.size<wr.heap.size:=by omega
   have hl2:=hof.lt
   have hl3:=hnx.size
   have HNX:=Lib.hid hnx
   have HOFR:=Lib.hid hof
   have HROW:=Lib.hid hrow
   have HQ:=Lib.hid hgq
   have HLL:=Lib.hid (show(grL q).length=k by unfold grL;rw [List.length_map];exact hgq.length)
   obtain⟨aa,acap,rfl⟩:=hrow.form
   clear hof hnx hrow hl0 hgq
   by_cases hlt:k<R.pays.length
   ·by_cases hlt3:k<3
    ·rcases HPC.out with h0|⟨b,off,rfl,hb,hx⟩
     ·omega
     ·obtain⟨u,hxk,hxi⟩:=hx k hlt
      have hkb:b<wr.heap.size:=by omega
      have hyk:wr.cell? ⟨b,off+k,none⟩=some u:=by rw [HOFR.out.bel.cell (by exact hb)];exact hxk
      have HXI:=Lib.hid hxi
      obtain⟨za,zcap,rfl⟩:=IntsAt.form hxi
      clear hxk hx hxi
      have d1:(k:Int)<(R.pays.length:Int):=by omega
      have d2:(k:Int)<3:=by omega
      have HPE:Hid (topF (R.pays.getD k []) (envF R (nLet R)) 4=payE R k):=Lib.hid rfl
      have HIE:Hid (topF (R.ifs.getD k []) (envF R (nLet R)) 1=ifE R k):=Lib.hid rfl
      generalize hzk:R.pays.getD k []=zk at *
      clear hzk
      have hzl:zk.length≤140737488355328:=HXI.out.1
      have hrowb:=HROW.out.lt
      have HRB:=Lib.hid hrowb
      clear hrowb
      by_cases hli:k<R.ifs.length
      ·rcases HIC.out with h0|⟨b2,off2,rfl,hb2,hx2⟩
       ·omega
       ·obtain⟨u2,hxk2,hxi2⟩:=hx2 k hli
        have hkb2:b2<wr.heap.size:=by omega
        have hyk2:wr.cell? ⟨b2,off2+k,none⟩=some u2:=by rw [HOFR.out.bel.cell (by exact hb2)];exact hxk2
        have HXI2:=Lib.hid hxi2
        obtain⟨za2,zcap2,rfl⟩:=IntsAt.form hxi2
        clear hxk2 hx2 hxi2
        have d3:(k:Int)<(R.ifs.length:Int):=by omega
        generalize hzi:R.ifs.getD k []=zi at *
        clear hzi
        go_wp2_with fail
        refine(Expr_any2 _ _ zk (envF R (nLet R)) 4 (payE R k) wr (ListAt.of_ints HXI.out HOFR.out.bel) (EnvAt.of_row (HENV.out.next HNX.out hgH3) (by rw [envF_length];unfold nLet;omega) (envF_size R _)) (by omega) (by omega) HPE).mono ?_
        rintro e' w' ⟨v1,rfl,⟨bs1,dr1,rfl⟩,hrep⟩
        have H1:=Lib.hid hrep
        obtain⟨v1a,v1c,hv1⟩:=hrep.form
        subst hv1
        clear hrep
        go_wp2_with fail
        refine(Expr_any2 _ _ zi (envF R (nLet R)) 1 (ifE R k) ((wr.grow bs1 dr1).alloc ((.cells #[.int .i64 ((k:Int)+1),.int .i64 0,.int .i64 0,.int .i64 0,.int .i64 0,.string ⟨#[]⟩,.slice none 0 0,.int .i64 (payE R k).op,.int .i64 (payE R k).num,.int .i64 (payE R k).den,.int .i64 (payE R k).dim,.string (payE R k).name,.slice v1a (payE R k).args.length v1c] 65))) (ListAt.of_ints HXI2.out ((HOFR.out.grow bs1 dr1).alloc ((.cells #[.int .i64 ((k:Int)+1),.int .i64 0,.int .i64 0,.int .i64 0,.int .i64 0,.string ⟨#[]⟩,.slice none 0 0,.int .i64 (payE R k).op,.int .i64 (payE R k).num,.int .i64 (payE R k).den,.int .i64 (payE R k).dim,.string (payE R k).name,.slice v1a (payE R k).args.length v1c] 65))).bel) (EnvAt.of_row (((HENV.out.next HNX.out hgH3).grow bs1 dr1).alloc ((.cells #[.int .i64 ((k:Int)+1),.int .i64 0,.int .i64 0,.int .i64 0,.int .i64 0,.string ⟨#[]⟩,.slice none 0 0,.int .i64 (payE R k).op,.int .i64 (payE R k).num,.int .i64 (payE R k).den,.int .i64 (payE R k).dim,.string (payE R k).name,.slice v1a (payE R k).args.length v1c] 65))) (by rw [envF_length];unfold nLet;omega) (envF_size R _)) (by omega) (by omega) HIE).mono ?_
        rintro e' w' ⟨v2,rfl,⟨bs2,dr2,rfl⟩,hrep⟩
        have H2:=Lib.hid hrep
        obtain⟨v2a,v2c,hv2⟩:=hrep.form
        subst hv2
        clear hrep
        go_wp2_with (at_builtin;refine wpList_append_lies _ rfl _ _ 41 rfl wc.heap.size 65 i4 _ 13 152 Tryd.underlying41 ht ht0 ht1 ht2 rfl (by decide) _ _ _ rfl ((((HROW.out.grow bs1 dr1).alloc ((.cells #[.int .i64 ((k:Int)+1),.int .i64 (ifE R k).op,.int .i64 (ifE R k).num,.int .i64 (ifE R k).den,.int .i64 (ifE R k).dim,.string (ifE R k).name,.slice v2a (ifE R k).args.length v2c,.int .i64 (payE R k).op,.int .i64 (payE R k).num,.int .i64 (payE R k).den,.int .i64 (payE R k).dim,.string (payE R k).name,.slice v1a (payE R k).args.length v1c] 65))).grow bs2 dr2).alloc ((.cells #[.int .i64 ((k:Int)+1),.int .i64 (ifE R k).op,.int .i64 (ifE R k).num,.int .i64 (ifE R k).den,.int .i64 (ifE R k).dim,.string (ifE R k).name,.slice v2a (ifE R k).args.length v2c,.int .i64 (payE R k).op,.int .i64 (payE R k).num,.int .i64 (payE R k).den,.int .i64 (payE R k).dim,.string (payE R k).name,.slice v1a (payE R k).args.length v1c] 65))).own ⟨wr.heap.size+bs1.size+1+bs2.size,0,none⟩ 1 1 [.int .i64 ((k:Int)+1),.int .i64 (ifE R k).op,.int .i64 (ifE R k).num,.int .i64 (ifE R k).den,.int .i64 (ifE R k).dim,.string (ifE R k).name,.slice v2a (ifE R k).args.length v2c,.int .i64 (payE R k).op,.int .i64 (payE R k).num,.int .i64 (payE R k).den,.int .i64 (payE R k).dim,.string (payE R k).name,.slice v1a (payE R k).args.length v1c] rfl rfl ?f1 ?f2 (by decide) ?f3 ?f4 ?f5 (wr.heap.size+bs1.size+1+bs2.size+1) (by simp) ?_)
        case f1=>exact news_cells _ [.int .i64 ((k:Int)+1),.int .i64 (ifE R k).op,.int .i64 (ifE R k).num,.int .i64 (ifE R k).den,.int .i64 (ifE R k).dim,.string (ifE R k).name,.slice v2a (ifE R k).args.length v2c,.int .i64 (payE R k).op,.int .i64 (payE R k).num,.int .i64 (payE R k).den,.int .i64 (payE R k).dim,.string (payE R k).name,.slice v1a (payE R k).args.length v1c] _ _ (by simp)
        case f2=>exact gr_one _ _ _ _ _ rfl rfl
        case f3=>have:=HLL.out;unfold maxLen;omega
        case f4=>have:=HLL.out;omega
        case f5=>simp;omega
        intro g' cap w1 hown' hgrow hat hlt'
        have R1:=RowG.push (rs2:=[(ifE R k,.slice v2a (ifE R k).args.length v2c),(payE R k,.slice v1a (payE R k).args.length v1c)]) (m:=wr.heap.size) ((((HROW.out.grow bs1 dr1).alloc ((.cells #[.int .i64 ((k:Int)+1),.int .i64 (ifE R k).op,.int .i64 (ifE R k).num,.int .i64 (ifE R k).den,.int .i64 (ifE R k).dim,.string (ifE R k).name,.slice v2a (ifE R k).args.length v2c,.int .i64 (payE R k).op,.int .i64 (payE R k).num,.int .i64 (payE R k).den,.int .i64 (payE R k).dim,.string (payE R k).name,.slice v1a (payE R k).args.length v1c] 65))).grow bs2 dr2).alloc ((.cells #[.int .i64 ((k:Int)+1),.int .i64 (ifE R k).op,.int .i64 (ifE R k).num,.int .i64 (ifE R k).den,.int .i64 (ifE R k).dim,.string (ifE R k).name,.slice v2a (ifE R k).args.length v2c,.int .i64 (payE R k).op,.int .i64 (payE R k).num,.int .i64 (payE R k).den,.int .i64 (payE R k).dim,.string (payE R k).name,.slice v1a (payE R k).args.length v1c] 65))) (rep_two (((H2.out.lift0 (A':=(wr.grow bs1 dr1).alloc ((.cells #[.int .i64 ((k:Int)+1),.int .i64 (ifE R k).op,.int .i64 (ifE R k).num,.int .i64 (ifE R k).den,.int .i64 (ifE R k).dim,.string (ifE R k).name,.slice v2a (ifE R k).args.length v2c,.int .i64 (payE R k).op,.int .i64 (payE R k).num,.int .i64 (payE R k).den,.int .i64 (payE R k).dim,.string (payE R k).name,.slice v1a (payE R k).args.length v1c] 65))) (Nat.le_refl _) (by simp) dr2).mono (fun b hb=>by simp at hb;omega)).alloc ((.cells #[.int .i64 ((k:Int)+1),.int .i64 (ifE R k).op,.int .i64 (ifE R k).num,.int .i64 (ifE R k).den,.int .i64 (ifE R k).dim,.string (ifE R k).name,.slice v2a (ifE R k).args.length v2c,.int .i64 (payE R k).op,.int .i64 (payE R k).num,.int .i64 (payE R k).den,.int .i64 (payE R k).dim,.string (payE R k).name,.slice v1a (payE R k).args.length v1c] 65))) (((H1.out.alloc ((.cells #[.int .i64 ((k:Int)+1),.int .i64 (ifE R k).op,.int .i64 (ifE R k).num,.int .i64 (ifE R k).den,.int .i64 (ifE R k).dim,.string (ifE R k).name,.slice v2a (ifE R k).args.length v2c,.int .i64 (payE R k).op,.int .i64 (payE R k).num,.int .i64 (payE R k).den,.int .i64 (payE R k).dim,.string (payE R k).name,.slice v1a (payE R k).args.length v1c] 65))).grow bs2 dr2).alloc ((.cells #[.int .i64 ((k:Int)+1),.int .i64 (ifE R k).op,.int .i64 (ifE R k).num,.int .i64 (ifE R k).den,.int .i64 (ifE R k).dim,.string (ifE R k).name,.slice v2a (ifE R k).args.length v2c,.int .i64 (payE R k).op,.int .i64 (payE R k).num,.int .i64 (payE R k).den,.int .i64 (payE R k).dim,.string (payE R k).name,.slice v1a (payE R k).args.length v1c] 65)))) hl3 (fun j hj=>(HRB.out j hj).2) rfl rfl rfl hown' hgrow hat (by simp)
        have O1:=((((HOFR.out.grow bs1 dr1).alloc ((.cells #[.int .i64 ((k:Int)+1),.int .i64 (ifE R k).op,.int .i64 (ifE R k).num,.int .i64 (ifE R k).den,.int .i64 (ifE R k).dim,.string (ifE R k).name,.slice v2a (ifE R k).args.length v2c,.int .i64 (payE R k).op,.int .i64 (payE R k).num,.int .i64 (payE R k).den,.int .i64 (payE R k).dim,.string (payE R k).name,.slice v1a (payE R k).args.length v1c] 65))).grow bs2 dr2).alloc ((.cells #[.int .i64 ((k:Int)+1),.int .i64 (ifE R k).op,.int .i64 (ifE R k).num,.int .i64 (ifE R k).den,.int .i64 (ifE R k).dim,.string (ifE R k).name,.slice v2a (ifE R k).args.length v2c,.int .i64 (payE R k).op,.int .i64 (payE R k).num,.int .i64 (payE R k).den,.int .i64 (payE R k).dim,.string (payE R k).name,.slice v1a (payE R k).args.length v1c] 65))).grown hgrow (fun j hj=>by have:=(HRB.out j hj).1;have:=HOFR.out.gge;omega)
        have N1:=((((HNX.out.grow bs1 dr1).alloc ((.cells #[.int .i64 ((k:Int)+1),.int .i64 (ifE R k).op,.int .i64 (ifE R k).num,.int .i64 (ifE R k).den,.int .i64 (ifE R k).dim,.string (ifE R k).name,.slice v2a (ifE R k).args.length v2c,.int .i64 (payE R k).op,.int .i64 (payE R k).num,.int .i64 (payE R k).den,.int .i64 (payE R k).dim,.string (payE R k).name,.slice v1a (payE R k).args.length v1c] 65))).grow bs2 dr2).alloc ((.cells #[.int .i64 ((k:Int)+1),.int .i64 (ifE R k).op,.int .i64 (ifE R k).num,.int .i64 (ifE R k).den,.int .i64 (ifE R k).dim,.string (ifE R k).name,.slice v2a (ifE R k).args.length v2c,.int .i64 (payE R k).op,.int .i64 (payE R k).num,.int .i64 (payE R k).den,.int .i64 (payE R k).dim,.string (payE R k).name,.slice v1a (payE R k).args.length v1c] 65))).grown hgrow (fun j hj=>(HRB.out j hj).1)
        have hoc2:w1.cell? ⟨g,6,none⟩=some (.slice aa (grL q).length acap):=cell_of_row _ _ _ _ _ _ O1.out
        have hof2:w1.frozen? ⟨g,6,none⟩=false:=Joins.unfrozen_of_block O1.out 6
        have HR2:=Lib.hid (R1.setCell (a:=⟨g,6,none⟩) hgl1 (.slice (some ⟨g',0,none⟩) ((grL q).length+1) cap))
        have HO2:=Lib.hid (O1.store 6 (.slice (some ⟨g',0,none⟩) ((grL q).length+1) cap))
        have HN2:=Lib.hid (N1.store 6 (.slice (some ⟨g',0,none⟩) ((grL q).length+1) cap))
        clear hown' hgrow hat hlt' R1 O1 N1
        go_wp2_with fail
        go_roundw
        case rel=>exact⟨k+1,_,q++[((k:Int)+1,(ifE R k,.slice v2a (ifE R k).args.length v2c),(payE R k,.slice v1a (payE R k).args.length v1c))],by omega,by omega,by go_num,HO2.out,HN2.out,by rw [grL_push,grR_push];exact HR2.out,HQ.out.push _ _⟩
        case measure=>simp [intOf];omega
      ·have d3:¬(k:Int)<(R.ifs.length:Int):=by omega
       have HIE2:Hid (topF [] (envF R (nLet R)) 1=ifE R k):=Lib.hid (by rw [←HIE.out,List.getD_eq_getElem?_getD,List.getElem?_eq_none (by omega)];rfl)
       go_wp2_with fail
       refine(Expr_any2 _ _ zk (envF R (nLet R)) 4 (payE R k) wr (ListAt.of_ints HXI.out HOFR.out.bel) (EnvAt.of_row (HENV.out.next HNX.out hgH3) (by rw [envF_length];unfold nLet;omega) (envF_size R _)) (by omega) (by omega) HPE).mono ?_
       rintro e' w' ⟨v1,rfl,⟨bs1,dr1,rfl⟩,hrep⟩
       have H1:=Lib.hid hrep
       obtain⟨v1a,v1c,hv1⟩:=hrep.form
       subst hv1
       clear hrep
       go_wp2_with fail
       refine(Expr_any2 _ _ [] (envF R (nLet R)) 1 (ifE R k) ((wr.grow bs1 dr1).alloc ((.cells #[.int .i64 ((k:Int)+1),.int .i64 0,.int .i64 0,.int .i64 0,.int .i64 0,.string ⟨#[]⟩,.slice none 0 0,.int .i64 (payE R k).op,.int .i64 (payE R k).num,.int .i64 (payE R k).den,.int .i64 (payE R k).dim,.string (payE R k).name,.slice v1a (payE R k).args.length v1c] 65))) (ListAt.nil _ _) (EnvAt.of_row (((HENV.out.next HNX.out hgH3).grow bs1 dr1).alloc ((.cells #[.int .i64 ((k:Int)+1),.int .i64 0,.int .i64 0,.int .i64 0,.int .i64 0,.string ⟨#[]⟩,.slice none 0 0,.int .i64 (payE R k).op,.int .i64 (payE R k).num,.int .i64 (payE R k).den,.int .i64 (payE R k).dim,.string (payE R k).name,.slice v1a (payE R k).args.length v1c] 65))) (by rw [envF_length];unfold nLet;omega) (envF_size R _)) (by omega) (by omega) HIE2).mono ?_
       rintro e' w' ⟨v2,rfl,⟨bs2,dr2,rfl⟩,hrep⟩
       have H2:=Lib.hid hrep
       obtain⟨v2a,v2c,hv2⟩:=hrep.form
       subst hv2
       clear hrep
       go_wp2_with (at_builtin;refine wpList_append_lies _ rfl _ _ 41 rfl wc.heap.size 65 i4 _ 13 152 Tryd.underlying41 ht ht0 ht1 ht2 rfl (by decide) _ _ _ rfl ((((HROW.out.grow bs1 dr1).alloc ((.cells #[.int .i64 ((k:Int)+1),.int .i64 (ifE R k).op,.int .i64 (ifE R k).num,.int .i64 (ifE R k).den,.int .i64 (ifE R k).dim,.string (ifE R k).name,.slice v2a (ifE R k).args.length v2c,.int .i64 (payE R k).op,.int .i64 (payE R k).num,.int .i64 (payE R k).den,.int .i64 (payE R k).dim,.string (payE R k).name,.slice v1a (payE R k).args.length v1c] 65))).grow bs2 dr2).alloc ((.cells #[.int .i64 ((k:Int)+1),.int .i64 (ifE R k).op,.int .i64 (ifE R k).num,.int .i64 (ifE R k).den,.int .i64 (ifE R k).dim,.string (ifE R k).name,.slice v2a (ifE R k).args.length v2c,.int .i64 (payE R k).op,.int .i64 (payE R k).num,.int .i64 (payE R k).den,.int .i64 (payE R k).dim,.string (payE R k).name,.slice v1a (payE R k).args.length v1c] 65))).own ⟨wr.heap.size+bs1.size+1+bs2.size,0,none⟩ 1 1 [.int .i64 ((k:Int)+1),.int .i64 (ifE R k).op,.int .i64 (ifE R k).num,.int .i64 (ifE R k).den,.int .i64 (ifE R k).dim,.string (ifE R k).name,.slice v2a (ifE R k).args.length v2c,.int .i64 (payE R k).op,.int .i64 (payE R k).num,.int .i64 (payE R k).den,.int .i64 (payE R k).dim,.string (payE R k).name,.slice v1a (payE R k).args.length v1c] rfl rfl ?f1 ?f2 (by decide) ?f3 ?f4 ?f5 (wr.heap.size+bs1.size+1+bs2.size+1) (by simp) ?_)
       case f1=>exact news_cells _ [.int .i64 ((k:Int)+1),.int .i64 (ifE R k).op,.int .i64 (ifE R k).num,.int .i64 (ifE R k).den,.int .i64 (ifE R k).dim,.string (ifE R k).name,.slice v2a (ifE R k).args.length v2c,.int .i64 (payE R k).op,.int .i64 (payE R k).num,.int .i64 (payE R k).den,.int .i64 (payE R k).dim,.string (payE R k).name,.slice v1a (payE R k).args.length v1c] _ _ (by simp)
       case f2=>exact gr_one _ _ _ _ _ rfl rfl
       case f3=>have:=HLL.out;unfold maxLen;omega
       case f4=>have:=HLL.out;omega
       case f5=>simp;omega
       intro g' cap w1 hown' hgrow hat hlt'
       have R1:=RowG.push (rs2:=[(ifE R k,.slice v2a (ifE R k).args.length v2c),(payE R k,.slice v1a (payE R k).args.length v1c)]) (m:=wr.heap.size) ((((HROW.out.grow bs1 dr1).alloc ((.cells #[.int .i64 ((k:Int)+1),.int .i64 (ifE R k).op,.int .i64 (ifE R k).num,.int .i64 (ifE R k).den,.int .i64 (ifE R k).dim,.string (ifE R k).name,.slice v2a (ifE R k).args.length v2c,.int .i64 (payE R k).op,.int .i64 (payE R k).num,.int .i64 (payE R k).den,.int .i64 (payE R k).dim,.string (payE R k).name,.slice v1a (payE R k).args.length v1c] 65))).grow bs2 dr2).alloc ((.cells #[.int .i64 ((k:Int)+1),.int .i64 (ifE R k).op,.int .i64 (ifE R k).num,.int .i64 (ifE R k).den,.int .i64 (ifE R k).dim,.string (ifE R k).name,.slice v2a (ifE R k).args.length v2c,.int .i64 (payE R k).op,.int .i64 (payE R k).num,.int .i64 (payE R k).den,.int .i64 (payE R k).dim,.string (payE R k).name,.slice v1a (payE R k).args.length v1c] 65))) (rep_two (((H2.out.lift0 (A':=(wr.grow bs1 dr1).alloc ((.cells #[.int .i64 ((k:Int)+1),.int .i64 (ifE R k).op,.int .i64 (ifE R k).num,.int .i64 (ifE R k).den,.int .i64 (ifE R k).dim,.string (ifE R k).name,.slice v2a (ifE R k).args.length v2c,.int .i64 (payE R k).op,.int .i64 (payE R k).num,.int .i64 (payE R k).den,.int .i64 (payE R k).dim,.string (payE R k).name,.slice v1a (payE R k).args.length v1c] 65))) (Nat.le_refl _) (by simp) dr2).mono (fun b hb=>by simp at hb;omega)).alloc ((.cells #[.int .i64 ((k:Int)+1),.int .i64 (ifE R k).op,.int .i64 (ifE R k).num,.int .i64 (ifE R k).den,.int .i64 (ifE R k).dim,.string (ifE R k).name,.slice v2a (ifE R k).args.length v2c,.int .i64 (payE R k).op,.int .i64 (payE R k).num,.int .i64 (payE R k).den,.int .i64 (payE R k).dim,.string (payE R k).name,.slice v1a (payE R k).args.length v1c] 65))) (((H1.out.alloc ((.cells #[.int .i64 ((k:Int)+1),.int .i64 (ifE R k).op,.int .i64 (ifE R k).num,.int .i64 (ifE R k).den,.int .i64 (ifE R k).dim,.string (ifE R k).name,.slice v2a (ifE R k).args.length v2c,.int .i64 (payE R k).op,.int .i64 (payE R k).num,.int .i64 (payE R k).den,.int .i64 (payE R k).dim,.string (payE R k).name,.slice v1a (payE R k).args.length v1c] 65))).grow bs2 dr2).alloc ((.cells #[.int .i64 ((k:Int)+1),.int .i64 (ifE R k).op,.int .i64 (ifE R k).num,.int .i64 (ifE R k).den,.int .i64 (ifE R k).dim,.string (ifE R k).name,.slice v2a (ifE R k).args.length v2c,.int .i64 (payE R k).op,.int .i64 (payE R k).num,.int .i64 (payE R k).den,.int .i64 (payE R k).dim,.string (payE R k).name,.slice v1a (payE R k).args.length v1c] 65)))) hl3 (fun j hj=>(HRB.out j hj).2) rfl rfl rfl hown' hgrow hat (by simp)
       have O1:=((((HOFR.out.grow bs1 dr1).alloc ((.cells #[.int .i64 ((k:Int)+1),.int .i64 (ifE R k).op,.int .i64 (ifE R k).num,.int .i64 (ifE R k).den,.int .i64 (ifE R k).dim,.string (ifE R k).name,.slice v2a (ifE R k).args.length v2c,.int .i64 (payE R k).op,.int .i64 (payE R k).num,.int .i64 (payE R k).den,.int .i64 (payE R k).dim,.string (payE R k).name,.slice v1a (payE R k).args.length v1c] 65))).grow bs2 dr2).alloc ((.cells #[.int .i64 ((k:Int)+1),.int .i64 (ifE R k).op,.int .i64 (ifE R k).num,.int .i64 (ifE R k).den,.int .i64 (ifE R k).dim,.string (ifE R k).name,.slice v2a (ifE R k).args.length v2c,.int .i64 (payE R k).op,.int .i64 (payE R k).num,.int .i64 (payE R k).den,.int .i64 (payE R k).dim,.string (payE R k).name,.slice v1a (payE R k).args.length v1c] 65))).grown hgrow (fun j hj=>by have:=(HRB.out j hj).1;have:=HOFR.out.gge;omega)
       have N1:=((((HNX.out.grow bs1 dr1).alloc ((.cells #[.int .i64 ((k:Int)+1),.int .i64 (ifE R k).op,.int .i64 (ifE R k).num,.int .i64 (ifE R k).den,.int .i64 (ifE R k).dim,.string (ifE R k).name,.slice v2a (ifE R k).args.length v2c,.int .i64 (payE R k).op,.int .i64 (payE R k).num,.int .i64 (payE R k).den,.int .i64 (payE R k).dim,.string (payE R k).name,.slice v1a (payE R k).args.length v1c] 65))).grow bs2 dr2).alloc ((.cells #[.int .i64 ((k:Int)+1),.int .i64 (ifE R k).op,.int .i64 (ifE R k).num,.int .i64 (ifE R k).den,.int .i64 (ifE R k).dim,.string (ifE R k).name,.slice v2a (ifE R k).args.length v2c,.int .i64 (payE R k).op,.int .i64 (payE R k).num,.int .i64 (payE R k).den,.int .i64 (payE R k).dim,.string (payE R k).name,.slice v1a (payE R k).args.length v1c] 65))).grown hgrow (fun j hj=>(HRB.out j hj).1)
       have hoc2:w1.cell? ⟨g,6,none⟩=some (.slice aa (grL q).length acap):=cell_of_row _ _ _ _ _ _ O1.out
       have hof2:w1.frozen? ⟨g,6,none⟩=false:=Joins.unfrozen_of_block O1.out 6
       have HR2:=Lib.hid (R1.setCell (a:=⟨g,6,none⟩) hgl1 (.slice (some ⟨g',0,none⟩) ((grL q).length+1) cap))
       have HO2:=Lib.hid (O1.store 6 (.slice (some ⟨g',0,none⟩) ((grL q).length+1) cap))
       have HN2:=Lib.hid (N1.store 6 (.slice (some ⟨g',0,none⟩) ((grL q).length+1) cap))
       clear hown' hgrow hat hlt' R1 O1 N1
       go_wp2_with fail
       go_roundw
       case rel=>exact⟨k+1,_,q++[((k:Int)+1,(ifE R k,.slice v2a (ifE R k).args.length v2c),(payE R k,.slice v1a (payE R k).args.length v1c))],by omega,by omega,by go_num,HO2.out,HN2.out,by rw [grL_push,grR_push];exact HR2.out,HQ.out.push _ _⟩
       case measure=>simp [intOf];omega
    ·go_wp2_with fail
     go_meet
     exact⟨_,wc.heap.size,q,HOFR.out,HROW1.out.next HNX.out hgH1,HROW2.out.next HNX.out hgH2,⟨HROW3.out.next HNX.out hgH3,HENV.out.next HNX.out hgH3⟩,⟨hgl1,hH3,HNX.out.size⟩,by rw [show nPay R=k by unfold nPay;omega];exact⟨HROW.out,HQ.out⟩⟩
   ·go_wp2_with fail
    go_meet
    exact⟨_,wc.heap.size,q,HOFR.out,HROW1.out.next HNX.out hgH1,HROW2.out.next HNX.out hgH2,⟨HROW3.out.next HNX.out hgH3,HENV.out.next HNX.out hgH3⟩,⟨hgl1,hH3,HNX.out.size⟩,by rw [show nPay R=k by unfold nPay;omega];exact⟨HROW.out,HQ.out⟩⟩
 obtain⟨vgr,H4,qg,hof,hrow1,hrow2,⟨hrow3,henv⟩,⟨hgH4,hH34,hH4⟩,hrow4,hqg⟩:=hcut
 clear HROW1 HROW2 HROW3 HENV HOF1 hgl1 hH3
 have HROW1:=Lib.hid hrow1
 have HROW2:=Lib.hid hrow2
 have HROW3:=Lib.hid hrow3
 have HENV:=Lib.hid henv
 have HROW4:=Lib.hid hrow4.upto
 have HQG:=Lib.hid hqg
 have HOF1:=Lib.hid hof
 have hgl1:=hof.lt
 clear hof hrow1 hrow2 hrow3 hrow4 henv hqg
 go_step
 exact Of_from4 R w h1 h2 h3 h4 ca sa la ia pa ua ccap scap lcap icap pcap ucap hcl hsl hll hil hpl hul HCC HSC HLC HIC HPC HUC g _ wc vcr H1 hgH1 vse H2 hgH2 hH12 vle H3 ql hgH3 hH23 eva evc vgr H4 qg hgH4 hH34 hH4 HROW1 HROW2 HROW3 HENV HROW4 HQL HQG HOF1 hgl1 _ _ _ _ _ _ _ _ _ _ _ _ _ _ _ _ _ _ _ _ _ _ _ _ _ _ _ _ _ _ _ _ _ _ _ _ _ _ _ _ _ _ _ _ _ _ _ _ _ _ _ _ _ _ _ _ _ _ _ _ _ _ _ _ _ _ _ _ _ _ _ _ _ _ _ _ _ _ _ _ _ _ _ _ _ _ _ _ _ _ _ _ _ _ _ _ _ _ _ _ _ _ _ _ _ _ _ _ _ _ _ _ _ _ _ _ _ _ _ _ _ _ _ _ _ _ _ _ _ _ _ _ _ _ _ _ _ _ _ _ _ _ _ _ _ _ _ _ _ _ _ _ _ _ _ _ _ _ _ _ _ _ _ _ _ _ _ _ _ _ _ _ _ _ _ _ _ _ _ _ _ _ _ _ _ _ _ _ _ _ _ _ _ _ _ _ _ _ _ _ _ _ _ _ _ _ _ _ _ _ _ _ _ _ _ _ _ _ _ _ _ _ _ _ _ _ _ _ _ _ _ _ _
end Go.Proofs.YthionhbjmheimaaDoor
