import Derived.Test.YtfoefpoaomepbaaGreatDoorTTwistW
set_option linter.all false
set_option maxHeartbeats 16000000
set_option maxRecDepth 1000000
namespace Go.Proofs.YtfoefpoaomepbaaGreatDoor
open Go.RowKit
theorem Of_from3(R:RawV)(w:World)(h1:I64 R.frm)(h2:I64 R.mode)(h3:I64 R.unit)(h4:I64 R.twist)(ca:Option Addr)(sa:Option Addr)(la:Option Addr)(ia:Option Addr)(pa:Option Addr)(ua:Option Addr)(ccap:Nat)(scap:Nat)(lcap:Nat)(icap:Nat)(pcap:Nat)(ucap:Nat)(hcl:R.credits.length≤140737488355328)(hsl:R.series.length≤140737488355328)(hll:R.lets.length≤140737488355328)(hil:R.ifs.length≤140737488355328)(hpl:R.pays.length≤140737488355328)(hul:R.cuts.length≤140737488355328)(HCC:Hid (R.credits.length=0∨∃b off,ca=some ⟨b,off,none⟩∧b<w.heap.size∧∀(i:Nat),i<R.credits.length→w.cell? ⟨b,off+i,none⟩=some (.int .i64 (R.credits.getD i 0))))(HSC:Hid (R.series.length=0∨∃b off,sa=some ⟨b,off,none⟩∧b<w.heap.size∧∀(i:Nat),i<R.series.length→w.cell? ⟨b,off+i,none⟩=some (.int .i64 (R.series.getD i 0))))(HLC:Hid (R.lets.length=0∨∃b off,la=some ⟨b,off,none⟩∧b<w.heap.size∧∀(i:Nat),i<R.lets.length→∃u,w.cell? ⟨b,off+i,none⟩=some u∧IntsAt w u (R.lets.getD i [])))(HIC:Hid (R.ifs.length=0∨∃b off,ia=some ⟨b,off,none⟩∧b<w.heap.size∧∀(i:Nat),i<R.ifs.length→∃u,w.cell? ⟨b,off+i,none⟩=some u∧IntsAt w u (R.ifs.getD i [])))(HPC:Hid (R.pays.length=0∨∃b off,pa=some ⟨b,off,none⟩∧b<w.heap.size∧∀(i:Nat),i<R.pays.length→∃u,w.cell? ⟨b,off+i,none⟩=some u∧IntsAt w u (R.pays.getD i [])))(HUC:Hid (R.cuts.length=0∨∃b off,ua=some ⟨b,off,none⟩∧b<w.heap.size∧∀(i:Nat),i<R.cuts.length→∃u,w.cell? ⟨b,off+i,none⟩=some u∧IntsAt w u (R.cuts.getD i [])))(g:Nat)(wk:Nat)(wc:World)(vcr:Value)(H1:Nat)(hgH1:g<H1)(vse:Value)(H2:Nat)(hgH2:g<H2)(hH12:H1≤H2)(vle:Value)(H3:Nat)(ql:List (ByteArray × (Ex × Value)))(hgH3:g<H3)(hH23:H2≤H3)(eva:Option Addr)(evc:Nat)(hH3:H3≤wc.heap.size)(HROW1:Hid (RowX 133 2 H1 (· <H2) wc vcr (credCells R (nCred R)) []))(HROW2:Hid (RowX 135 3 H2 (· <H3) wc vse (serCells R (nSer R)) []))(HROW3:Hid (RowX 63 7 H3 (· <wc.heap.size) wc vle (letL ql) (ql.map (·.2))))(HENV:Hid (RowG 106 2 H3 wc (.slice eva (envL (envF R (nLet R))).length evc) (envL (envF R (nLet R))) []))(HQL:Hid (LetQ R (nLet R) ql))(HOF1:Hid (OfAt w (raw10 R (.slice ca R.credits.length ccap) (.slice sa R.series.length scap) (.slice la R.lets.length lcap) (.slice ia R.ifs.length icap) (.slice pa R.pays.length pcap) (.slice ua R.cuts.length ucap)) g #[.int .i64 (pick R.frm 73049),.int .i64 (pick R.mode 4+1),.int .i64 (unitOf (pick R.unit 5)),vcr,vse,vle,.slice none 0 0,.slice none 0 0] wc))(hgl1:g<wc.heap.size)(u5 u6 u7 u8 u9 u11 u12 u17 u18 u19 u20 u21 u22 u23 u24 u25 u26 u27 u28 u29 u30 u31 u32 u33 u34 u35 u36 u37 u38 u39 u40 u41 u42 u43 u44 u45 u46 u47 u48 u49 u50 u51 u52 u53 u54 u55 u56 u57 u58 u59 u60 u61 u62 u63 u64 u65 u66 u67 u68 u69 u70 u71 u72 u73 u74 u75 u76 u77 u78 u79 u80 u81 u82 u83 u84 u85 u86 u87 u88 u89 u90 u91 u92 u93 u94 u95 u96 u97 u98 u99 u100 u101 u102 u103 u104 u105 u106 u107 u108 u109 u110 u111 u112 u113 u114 u115 u116 u117 u118 u119 u120 u121 u122 u123 u124 u125 u126 u127 u128 u129 u130 u131 u132 u133 u134 u135 u136 u137 u138 u139 u140 u141 u142 u143 u144 u145 u146 u147 u148 u149 u150 u151 u152 u153 u154 u155 u156 u157 u158 u159 u160 u161 u162 u163 u164 u165 u166 u167 u168 u169 u170 u171 u172 u173 u174 u175 u176 u177 u178 u179 u180 u181 u182 u183 u184 u185 u186 u187 u188 u189 u190 u191 u192 u193 u194 u195 u196 u197 u198 u199 u200 u201 u202 u203 u204 u205 u206 u207 u208 u209 u210 u211 u212 u213 u214 u215 u216 u217 u218 u219 u220 u221 u222 u223 u224 u225 u226 u227 u228 u229 u230 u231 u232 u233 u234 u235 u236 u237 u238 u239:Value) :
 Code.wp Tryz.prog (tlC (tlC (tlC (tlC (tlC (tlC (tlC (Tryz.f26.body.getD .skip)))))))) (bodyPost Tryz.prog Tryz.f26 (OfPost R w)) {tmps:=#[(.agg (raw10 R (.slice ca R.credits.length ccap) (.slice sa R.series.length scap) (.slice la R.lets.length lcap) (.slice ia R.ifs.length icap) (.slice pa R.pays.length pcap) (.slice ua R.cuts.length ucap))),.pointer (some ⟨w.heap.size,0,none⟩),.pointer (some ⟨w.heap.size+1,0,none⟩),.pointer (some ⟨g,0,none⟩),.slice (some ⟨wk,0,none⟩) 6 6,u5,u6,u7,u8,u9,.slice eva (envL (envF R (nLet R))).length evc,u11,u12,undef,undef,undef,undef,u17,u18,u19,u20,u21,u22,u23,u24,u25,u26,u27,u28,u29,u30,u31,u32,u33,u34,u35,u36,u37,u38,u39,u40,u41,u42,u43,u44,u45,u46,u47,u48,u49,u50,u51,u52,u53,u54,u55,u56,u57,u58,u59,u60,u61,u62,u63,u64,u65,u66,u67,u68,u69,u70,u71,u72,u73,u74,u75,u76,u77,u78,u79,u80,u81,u82,u83,u84,u85,u86,u87,u88,u89,u90,u91,u92,u93,u94,u95,u96,u97,u98,u99,u100,u101,u102,u103,u104,u105,u106,u107,u108,u109,u110,u111,u112,u113,u114,u115,u116,u117,u118,u119,u120,u121,u122,u123,u124,u125,u126,u127,u128,u129,u130,u131,u132,u133,u134,u135,u136,u137,u138,u139,u140,u141,u142,u143,u144,u145,u146,u147,u148,u149,u150,u151,u152,u153,u154,u155,u156,u157,u158,u159,u160,u161,u162,u163,u164,u165,u166,u167,u168,u169,u170,u171,u172,u173,u174,u175,u176,u177,u178,u179,u180,u181,u182,u183,u184,u185,u186,u187,u188,u189,u190,u191,u192,u193,u194,u195,u196,u197,u198,u199,u200,u201,u202,u203,u204,u205,u206,u207,u208,u209,u210,u211,u212,u213,u214,u215,u216,u217,u218,u219,u220,u221,u222,u223,u224,u225,u226,u227,u228,u229,u230,u231,u232,u233,u234,u235,u236,u237,u238,u239],defers:=[]} wc:=by
 obtain⟨i0,hi,hz0,hz1,hz2⟩:=info_parts infoCred
 obtain⟨i1,hj,hj0,hj1,hj2⟩:=info_parts infoIdx
 obtain⟨i2,hq,hq0,hq1,hq2⟩:=info_parts infoLet
 obtain⟨i3,hr,hr0,hr1,hr2⟩:=info_parts infoBind
 obtain⟨i4,ht,ht0,ht1,ht2⟩:=info_parts infoGrant
 obtain⟨i5,hv,hv0,hv1,hv2⟩:=info_parts infoReduce
 conv=>arg 2;whnf
 unfold raw10
 go_upto_block 6 with fail
 go_cut []from 17 (fun wx=>∃vgr H4 q,OfAt w (raw10 R (.slice ca R.credits.length ccap) (.slice sa R.series.length scap) (.slice la R.lets.length lcap) (.slice ia R.ifs.length icap) (.slice pa R.pays.length pcap) (.slice ua R.cuts.length ucap)) g #[.int .i64 (pick R.frm 73049),.int .i64 (pick R.mode 4+1),.int .i64 (unitOf (pick R.unit 5)),vcr,vse,vle,vgr,.slice none 0 0] wx∧RowX 133 2 H1 (· <H2) wx vcr (credCells R (nCred R)) []∧RowX 135 3 H2 (· <H3) wx vse (serCells R (nSer R)) []∧(RowX 63 7 H3 (· <H4) wx vle (letL ql) (ql.map (·.2))∧RowG 106 2 H3 wx (.slice eva (envL (envF R (nLet R))).length evc) (envL (envF R (nLet R))) [])∧(g<H4∧H3≤H4∧H4≤wx.heap.size)∧RowG 86 13 H4 wx vgr (grL q) (grR q)∧GrQ R (nPay R) q)
 case first=>
  go_wp2_with fail
  go_loopw [13] (fun v13 wr=>∃k:Nat,∃vgr:Value,∃q:List GrT,k≤R.pays.length∧k≤3∧v13= .int .i64 k∧OfAt w (raw10 R (.slice ca R.credits.length ccap) (.slice sa R.series.length scap) (.slice la R.lets.length lcap) (.slice ia R.ifs.length icap) (.slice pa R.pays.length pcap) (.slice ua R.cuts.length ucap)) g #[.int .i64 (pick R.frm 73049),.int .i64 (pick R.mode 4+1),.int .i64 (unitOf (pick R.unit 5)),vcr,vse,vle,vgr,.slice none 0 0] wr∧Next g wc wr∧RowG 86 13 wc.heap.size wr vgr (grL q) (grR q)∧GrQ R k q) (fun v13 _=>3-(intOf v13).toNat)
  case atStart=>exact⟨0,_,[],by omega,by omega,rfl,HOF1.out,.refl _ _,.nil _ _ _ _,rfl⟩
  case round=>
   obtain⟨k,vgr,q,hk,hk3,rfl,hof,hnx,hrow,hgq⟩:=hrel
   have hbx:wr.cell? ⟨w.heap.size,7,none⟩=some (.slice pa R.pays.length pcap):=cell_of_row _ _ _ _ _ _ hof.box
   have hbx2:wr.cell? ⟨w.heap.size,6,none⟩=some (.slice ia R.ifs.length icap):=cell_of_row _ _ _ _ _ _ hof.box
   have hoc:wr.cell? ⟨g,6,none⟩=some vgr:=cell_of_row _ _ _ _ _ _ hof.out
   have hl0:=hof.lt0
   have hl1:w.heap.size<wr.heap.size:=by omega
   have hl2:=hof.lt
   have hl3:=hnx.size
   have HNX:=Lib.hid hnx
   have HOFR:=Lib.hid hof
   have HROW:=Lib.hid hrow
   have HQ:=Lib.hid hgq
   have HLL:=Lib.hid (show(grL q).length=k by unfold grL;rw [List.length_map];exact hgq.length)
   obtain⟨aa,acap,rfl⟩:=hrow.form
   clear hof hnx hrow hl0 hgq
   by_cases hlt:k<R.pays.length
   ·by_cases hlt3:k<3
    ·rcases HPC.out with h0|⟨b,off,rfl,hb,hx⟩
     ·omega
     ·obtain⟨u,hxk,hxi⟩:=hx k hlt
      have hkb:b<wr.heap.size:=by omega
      have hyk:wr.cell? ⟨b,off+k,none⟩=some u:=by rw [HOFR.out.bel.cell (by exact hb)];exact hxk
      have HXI:=Lib.hid hxi
      obtain⟨za,zcap,rfl⟩:=IntsAt.form hxi
      clear hxk hx hxi
      have d1:(k:Int)<(R.pays.length:Int):=by omega
      have d2:(k:Int)<3:=by omega
      have HPE:Hid (topF (R.pays.getD k []) (envF R (nLet R)) 4=payE R k):=Lib.hid rfl
      have HIE:Hid (topF (R.ifs.getD k []) (envF R (nLet R)) 1=ifE R k):=Lib.hid rfl
      generalize hzk:R.pays.getD k []=zk at *
      clear hzk
      have hzl:zk.length≤140737488355328:=HXI.out.1
      have hrowb:=HROW.out.lt
      have HRB:=Lib.hid hrowb
      clear hrowb
      by_cases hli:k<R.ifs.length
      ·rcases HIC.out with h0|⟨b2,off2,rfl,hb2,hx2⟩
       ·omega
       ·obtain⟨u2,hxk2,hxi2⟩:=hx2 k hli
        have hkb2:b2<wr.heap.size:=by omega
        have hyk2:wr.cell? ⟨b2,off2+k,none⟩=some u2:=by rw [HOFR.out.bel.cell (by exact hb2)];exact hxk2
        have HXI2:=Lib.hid hxi2
        obtain⟨za2,zcap2,rfl⟩:=IntsAt.form hxi2
        clear hxk2 hx2 hxi2
        have d3:(k:Int)<(R.ifs.length:Int):=by omega
        generalize hzi:R.ifs.getD k []=zi at *
        clear hzi
        go_wp2_with fail
        refine(Expr_any2 _ _ zk (envF R (nLet R)) 4 (payE R k) wr (ListAt.of_ints HXI.out HOFR.out.bel) (EnvAt.of_row (HENV.out.next HNX.out hgH3) (by rw [envF_length];unfold nLet;omega) (envF_size R _)) (by omega) (by omega) HPE).mono ?_
        rintro e' w' ⟨v1,rfl,⟨bs1,dr1,rfl⟩,hrep⟩
        have H1:=Lib.hid hrep
        obtain⟨v1a,v1c,hv1⟩:=hrep.form
        subst hv1
        clear hrep
        go_wp2_with fail
        refine(Expr_any2 _ _ zi (envF R (nLet R)) 1 (ifE R k) ((wr.grow bs1 dr1).alloc ((.cells #[.int .i64 ((k:Int)+1),.int .i64 0,.int .i64 0,.int .i64 0,.int .i64 0,.string ⟨#[]⟩,.slice none 0 0,.int .i64 (payE R k).op,.int .i64 (payE R k).num,.int .i64 (payE R k).den,.int .i64 (payE R k).dim,.string (payE R k).name,.slice v1a (payE R k).args.length v1c] 86))) (ListAt.of_ints HXI2.out ((HOFR.out.grow bs1 dr1).alloc ((.cells #[.int .i64 ((k:Int)+1),.int .i64 0,.int .i64 0,.int .i64 0,.int .i64 0,.string ⟨#[]⟩,.slice none 0 0,.int .i64 (payE R k).op,.int .i64 (payE R k).num,.int .i64 (payE R k).den,.int .i64 (payE R k).dim,.string (payE R k).name,.slice v1a (payE R k).args.length v1c] 86))).bel) (EnvAt.of_row (((HENV.out.next HNX.out hgH3).grow bs1 dr1).alloc ((.cells #[.int .i64 ((k:Int)+1),.int .i64 0,.int .i64 0,.int .i64 0,.int .i64 0,.string ⟨#[]⟩,.slice none 0 0,.int .i64 (payE R k).op,.int .i64 (payE R k).num,.int .i64 (payE R k).den,.int .i64 (payE R k).dim,.string (payE R k).name,.slice v1a (payE R k).args.length v1c] 86))) (by rw [envF_length];unfold nLet;omega) (envF_size R _)) (by omega) (by omega) HIE).mono ?_
        rintro e' w' ⟨v2,rfl,⟨bs2,dr2,rfl⟩,hrep⟩
        have H2:=Lib.hid hrep
        obtain⟨v2a,v2c,hv2⟩:=hrep.form
        subst hv2
        clear hrep
        go_wp2_with (at_builtin;refine wpList_append_lies _ rfl _ _ 79 rfl wc.heap.size 86 i4 _ 13 152 Tryz.underlying79 ht ht0 ht1 ht2 rfl (by decide) _ _ _ rfl ((((HROW.out.grow bs1 dr1).alloc ((.cells #[.int .i64 ((k:Int)+1),.int .i64 (ifE R k).op,.int .i64 (ifE R k).num,.int .i64 (ifE R k).den,.int .i64 (ifE R k).dim,.string (ifE R k).name,.slice v2a (ifE R k).args.length v2c,.int .i64 (payE R k).op,.int .i64 (payE R k).num,.int .i64 (payE R k).den,.int .i64 (payE R k).dim,.string (payE R k).name,.slice v1a (payE R k).args.length v1c] 86))).grow bs2 dr2).alloc ((.cells #[.int .i64 ((k:Int)+1),.int .i64 (ifE R k).op,.int .i64 (ifE R k).num,.int .i64 (ifE R k).den,.int .i64 (ifE R k).dim,.string (ifE R k).name,.slice v2a (ifE R k).args.length v2c,.int .i64 (payE R k).op,.int .i64 (payE R k).num,.int .i64 (payE R k).den,.int .i64 (payE R k).dim,.string (payE R k).name,.slice v1a (payE R k).args.length v1c] 86))).own ⟨wr.heap.size+bs1.size+1+bs2.size,0,none⟩ 1 1 [.int .i64 ((k:Int)+1),.int .i64 (ifE R k).op,.int .i64 (ifE R k).num,.int .i64 (ifE R k).den,.int .i64 (ifE R k).dim,.string (ifE R k).name,.slice v2a (ifE R k).args.length v2c,.int .i64 (payE R k).op,.int .i64 (payE R k).num,.int .i64 (payE R k).den,.int .i64 (payE R k).dim,.string (payE R k).name,.slice v1a (payE R k).args.length v1c] rfl rfl ?f1 ?f2 (by decide) ?f3 ?f4 ?f5 (wr.heap.size+bs1.size+1+bs2.size+1) (by simp) ?_)
        case f1=>exact news_cells _ [.int .i64 ((k:Int)+1),.int .i64 (ifE R k).op,.int .i64 (ifE R k).num,.int .i64 (ifE R k).den,.int .i64 (ifE R k).dim,.string (ifE R k).name,.slice v2a (ifE R k).args.length v2c,.int .i64 (payE R k).op,.int .i64 (payE R k).num,.int .i64 (payE R k).den,.int .i64 (payE R k).dim,.string (payE R k).name,.slice v1a (payE R k).args.length v1c] _ _ (by simp)
        case f2=>exact gr_one _ _ _ _ _ rfl rfl
        case f3=>have:=HLL.out;unfold maxLen;omega
        case f4=>have:=HLL.out;omega
        case f5=>simp;omega
        intro g' cap w1 hown' hgrow hat hlt'
        have R1:=RowG.push (rs2:=[(ifE R k,.slice v2a (ifE R k).args.length v2c),(payE R k,.slice v1a (payE R k).args.length v1c)]) (m:=wr.heap.size) ((((HROW.out.grow bs1 dr1).alloc ((.cells #[.int .i64 ((k:Int)+1),.int .i64 (ifE R k).op,.int .i64 (ifE R k).num,.int .i64 (ifE R k).den,.int .i64 (ifE R k).dim,.string (ifE R k).name,.slice v2a (ifE R k).args.length v2c,.int .i64 (payE R k).op,.int .i64 (payE R k).num,.int .i64 (payE R k).den,.int .i64 (payE R k).dim,.string (payE R k).name,.slice v1a (payE R k).args.length v1c] 86))).grow bs2 dr2).alloc ((.cells #[.int .i64 ((k:Int)+1),.int .i64 (ifE R k).op,.int .i64 (ifE R k).num,.int .i64 (ifE R k).den,.int .i64 (ifE R k).dim,.string (ifE R k).name,.slice v2a (ifE R k).args.length v2c,.int .i64 (payE R k).op,.int .i64 (payE R k).num,.int .i64 (payE R k).den,.int .i64 (payE R k).dim,.string (payE R k).name,.slice v1a (payE R k).args.length v1c] 86))) (rep_two (((H2.out.lift0 (A':=(wr.grow bs1 dr1).alloc ((.cells #[.int .i64 ((k:Int)+1),.int .i64 (ifE R k).op,.int .i64 (ifE R k).num,.int .i64 (ifE R k).den,.int .i64 (ifE R k).dim,.string (ifE R k).name,.slice v2a (ifE R k).args.length v2c,.int .i64 (payE R k).op,.int .i64 (payE R k).num,.int .i64 (payE R k).den,.int .i64 (payE R k).dim,.string (payE R k).name,.slice v1a (payE R k).args.length v1c] 86))) (Nat.le_refl _) (by simp) dr2).mono (fun b hb=>by simp at hb;omega)).alloc ((.cells #[.int .i64 ((k:Int)+1),.int .i64 (ifE R k).op,.int .i64 (ifE R k).num,.int .i64 (ifE R k).den,.int .i64 (ifE R k).dim,.string (ifE R k).name,.slice v2a (ifE R k).args.length v2c,.int .i64 (payE R k).op,.int .i64 (payE R k).num,.int .i64 (payE R k).den,.int .i64 (payE R k).dim,.string (payE R k).name,.slice v1a (payE R k).args.length v1c] 86))) (((H1.out.alloc ((.cells #[.int .i64 ((k:Int)+1),.int .i64 (ifE R k).op,.int .i64 (ifE R k).num,.int .i64 (ifE R k).den,.int .i64 (ifE R k).dim,.string (ifE R k).name,.slice v2a (ifE R k).args.length v2c,.int .i64 (payE R k).op,.int .i64 (payE R k).num,.int .i64 (payE R k).den,.int .i64 (payE R k).dim,.string (payE R k).name,.slice v1a (payE R k).args.length v1c] 86))).grow bs2 dr2).alloc ((.cells #[.int .i64 ((k:Int)+1),.int .i64 (ifE R k).op,.int .i64 (ifE R k).num,.int .i64 (ifE R k).den,.int .i64 (ifE R k).dim,.string (ifE R k).name,.slice v2a (ifE R k).args.length v2c,.int .i64 (payE R k).op,.int .i64 (payE R k).num,.int .i64 (payE R k).den,.int .i64 (payE R k).dim,.string (payE R k).name,.slice v1a (payE R k).args.length v1c] 86)))) hl3 (fun j hj=>(HRB.out j hj).2) rfl rfl rfl hown' hgrow hat (by simp)
        have O1:=((((HOFR.out.grow bs1 dr1).alloc ((.cells #[.int .i64 ((k:Int)+1),.int .i64 (ifE R k).op,.int .i64 (ifE R k).num,.int .i64 (ifE R k).den,.int .i64 (ifE R k).dim,.string (ifE R k).name,.slice v2a (ifE R k).args.length v2c,.int .i64 (payE R k).op,.int .i64 (payE R k).num,.int .i64 (payE R k).den,.int .i64 (payE R k).dim,.string (payE R k).name,.slice v1a (payE R k).args.length v1c] 86))).grow bs2 dr2).alloc ((.cells #[.int .i64 ((k:Int)+1),.int .i64 (ifE R k).op,.int .i64 (ifE R k).num,.int .i64 (ifE R k).den,.int .i64 (ifE R k).dim,.string (ifE R k).name,.slice v2a (ifE R k).args.length v2c,.int .i64 (payE R k).op,.int .i64 (payE R k).num,.int .i64 (payE R k).den,.int .i64 (payE R k).dim,.string (payE R k).name,.slice v1a (payE R k).args.length v1c] 86))).grown hgrow (fun j hj=>by have:=(HRB.out j hj).1;have:=HOFR.out.gge;omega)
        have N1:=((((HNX.out.grow bs1 dr1).alloc ((.cells #[.int .i64 ((k:Int)+1),.int .i64 (ifE R k).op,.int .i64 (ifE R k).num,.int .i64 (ifE R k).den,.int .i64 (ifE R k).dim,.string (ifE R k).name,.slice v2a (ifE R k).args.length v2c,.int .i64 (payE R k).op,.int .i64 (payE R k).num,.int .i64 (payE R k).den,.int .i64 (payE R k).dim,.string (payE R k).name,.slice v1a (payE R k).args.length v1c] 86))).grow bs2 dr2).alloc ((.cells #[.int .i64 ((k:Int)+1),.int .i64 (ifE R k).op,.int .i64 (ifE R k).num,.int .i64 (ifE R k).den,.int .i64 (ifE R k).dim,.string (ifE R k).name,.slice v2a (ifE R k).args.length v2c,.int .i64 (payE R k).op,.int .i64 (payE R k).num,.int .i64 (payE R k).den,.int .i64 (payE R k).dim,.string (payE R k).name,.slice v1a (payE R k).args.length v1c] 86))).grown hgrow (fun j hj=>(HRB.out j hj).1)
        have hoc2:w1.cell? ⟨g,6,none⟩=some (.slice aa (grL q).length acap):=cell_of_row _ _ _ _ _ _ O1.out
        have hof2:w1.frozen? ⟨g,6,none⟩=false:=Joins.unfrozen_of_block O1.out 6
        have HR2:=Lib.hid (R1.setCell (a:=⟨g,6,none⟩) hgl1 (.slice (some ⟨g',0,none⟩) ((grL q).length+1) cap))
        have HO2:=Lib.hid (O1.store 6 (.slice (some ⟨g',0,none⟩) ((grL q).length+1) cap))
        have HN2:=Lib.hid (N1.store 6 (.slice (some ⟨g',0,none⟩) ((grL q).length+1) cap))
        clear hown' hgrow hat hlt' R1 O1 N1
        go_wp2_with fail
        go_roundw
        case rel=>exact⟨k+1,_,q++[((k:Int)+1,(ifE R k,.slice v2a (ifE R k).args.length v2c),(payE R k,.slice v1a (payE R k).args.length v1c))],by omega,by omega,by go_num,HO2.out,HN2.out,by rw [grL_push,grR_push];exact HR2.out,HQ.out.push _ _⟩
        case measure=>simp [intOf];omega
      ·have d3:¬(k:Int)<(R.ifs.length:Int):=by omega
       have HIE2:Hid (topF [] (envF R (nLet R)) 1=ifE R k):=Lib.hid (by rw [←HIE.out,List.getD_eq_getElem?_getD,List.getElem?_eq_none (by omega)];rfl)
       go_wp2_with fail
       refine(Expr_any2 _ _ zk (envF R (nLet R)) 4 (payE R k) wr (ListAt.of_ints HXI.out HOFR.out.bel) (EnvAt.of_row (HENV.out.next HNX.out hgH3) (by rw [envF_length];unfold nLet;omega) (envF_size R _)) (by omega) (by omega) HPE).mono ?_
       rintro e' w' ⟨v1,rfl,⟨bs1,dr1,rfl⟩,hrep⟩
       have H1:=Lib.hid hrep
       obtain⟨v1a,v1c,hv1⟩:=hrep.form
       subst hv1
       clear hrep
       go_wp2_with fail
       refine(Expr_any2 _ _ [] (envF R (nLet R)) 1 (ifE R k) ((wr.grow bs1 dr1).alloc ((.cells #[.int .i64 ((k:Int)+1),.int .i64 0,.int .i64 0,.int .i64 0,.int .i64 0,.string ⟨#[]⟩,.slice none 0 0,.int .i64 (payE R k).op,.int .i64 (payE R k).num,.int .i64 (payE R k).den,.int .i64 (payE R k).dim,.string (payE R k).name,.slice v1a (payE R k).args.length v1c] 86))) (ListAt.nil _ _) (EnvAt.of_row (((HENV.out.next HNX.out hgH3).grow bs1 dr1).alloc ((.cells #[.int .i64 ((k:Int)+1),.int .i64 0,.int .i64 0,.int .i64 0,.int .i64 0,.string ⟨#[]⟩,.slice none 0 0,.int .i64 (payE R k).op,.int .i64 (payE R k).num,.int .i64 (payE R k).den,.int .i64 (payE R k).dim,.string (payE R k).name,.slice v1a (payE R k).args.length v1c] 86))) (by rw [envF_length];unfold nLet;omega) (envF_size R _)) (by omega) (by omega) HIE2).mono ?_
       rintro e' w' ⟨v2,rfl,⟨bs2,dr2,rfl⟩,hrep⟩
       have H2:=Lib.hid hrep
       obtain⟨v2a,v2c,hv2⟩:=hrep.form
       subst hv2
       clear hrep
       go_wp2_with (at_builtin;refine wpList_append_lies _ rfl _ _ 79 rfl wc.heap.size 86 i4 _ 13 152 Tryz.underlying79 ht ht0 ht1 ht2 rfl (by decide) _ _ _ rfl ((((HROW.out.grow bs1 dr1).alloc ((.cells #[.int .i64 ((k:Int)+1),.int .i64 (ifE R k).op,.int .i64 (ifE R k).num,.int .i64 (ifE R k).den,.int .i64 (ifE R k).dim,.string (ifE R k).name,.slice v2a (ifE R k).args.length v2c,.int .i64 (payE R k).op,.int .i64 (payE R k).num,.int .i64 (payE R k).den,.int .i64 (payE R k).dim,.string (payE R k).name,.slice v1a (payE R k).args.length v1c] 86))).grow bs2 dr2).alloc ((.cells #[.int .i64 ((k:Int)+1),.int .i64 (ifE R k).op,.int .i64 (ifE R k).num,.int .i64 (ifE R k).den,.int .i64 (ifE R k).dim,.string (ifE R k).name,.slice v2a (ifE R k).args.length v2c,.int .i64 (payE R k).op,.int .i64 (payE R k).num,.int .i64 (payE R k).den,.int .i64 (payE R k).dim,.string (payE R k).name,.slice v1a (payE R k).args.length v1c] 86))).own ⟨wr.heap.size+bs1.size+1+bs2.size,0,none⟩ 1 1 [.int .i64 ((k:Int)+1),.int .i64 (ifE R k).op,.int .i64 (ifE R k).num,.int .i64 (ifE R k).den,.int .i64 (ifE R k).dim,.string (ifE R k).name,.slice v2a (ifE R k).args.length v2c,.int .i64 (payE R k).op,.int .i64 (payE R k).num,.int .i64 (payE R k).den,.int .i64 (payE R k).dim,.string (payE R k).name,.slice v1a (payE R k).args.length v1c] rfl rfl ?f1 ?f2 (by decide) ?f3 ?f4 ?f5 (wr.heap.size+bs1.size+1+bs2.size+1) (by simp) ?_)
       case f1=>exact news_cells _ [.int .i64 ((k:Int)+1),.int .i64 (ifE R k).op,.int .i64 (ifE R k).num,.int .i64 (ifE R k).den,.int .i64 (ifE R k).dim,.string (ifE R k).name,.slice v2a (ifE R k).args.length v2c,.int .i64 (payE R k).op,.int .i64 (payE R k).num,.int .i64 (payE R k).den,.int .i64 (payE R k).dim,.string (payE R k).name,.slice v1a (payE R k).args.length v1c] _ _ (by simp)
       case f2=>exact gr_one _ _ _ _ _ rfl rfl
       case f3=>have:=HLL.out;unfold maxLen;omega
       case f4=>have:=HLL.out;omega
       case f5=>simp;omega
       intro g' cap w1 hown' hgrow hat hlt'
       have R1:=RowG.push (rs2:=[(ifE R k,.slice v2a (ifE R k).args.length v2c),(payE R k,.slice v1a (payE R k).args.length v1c)]) (m:=wr.heap.size) ((((HROW.out.grow bs1 dr1).alloc ((.cells #[.int .i64 ((k:Int)+1),.int .i64 (ifE R k).op,.int .i64 (ifE R k).num,.int .i64 (ifE R k).den,.int .i64 (ifE R k).dim,.string (ifE R k).name,.slice v2a (ifE R k).args.length v2c,.int .i64 (payE R k).op,.int .i64 (payE R k).num,.int .i64 (payE R k).den,.int .i64 (payE R k).dim,.string (payE R k).name,.slice v1a (payE R k).args.length v1c] 86))).grow bs2 dr2).alloc ((.cells #[.int .i64 ((k:Int)+1),.int .i64 (ifE R k).op,.int .i64 (ifE R k).num,.int .i64 (ifE R k).den,.int .i64 (ifE R k).dim,.string (ifE R k).name,.slice v2a (ifE R k).args.length v2c,.int .i64 (payE R k).op,.int .i64 (payE R k).num,.int .i64 (payE R k).den,.int .i64 (payE R k).dim,.string (payE R k).name,.slice v1a (payE R k).args.length v1c] 86))) (rep_two (((H2.out.lift0 (A':=(wr.grow bs1 dr1).alloc ((.cells #[.int .i64 ((k:Int)+1),.int .i64 (ifE R k).op,.int .i64 (ifE R k).num,.int .i64 (ifE R k).den,.int .i64 (ifE R k).dim,.string (ifE R k).name,.slice v2a (ifE R k).args.length v2c,.int .i64 (payE R k).op,.int .i64 (payE R k).num,.int .i64 (payE R k).den,.int .i64 (payE R k).dim,.string (payE R k).name,.slice v1a (payE R k).args.length v1c] 86))) (Nat.le_refl _) (by simp) dr2).mono (fun b hb=>by simp at hb;omega)).alloc ((.cells #[.int .i64 ((k:Int)+1),.int .i64 (ifE R k).op,.int .i64 (ifE R k).num,.int .i64 (ifE R k).den,.int .i64 (ifE R k).dim,.string (ifE R k).name,.slice v2a (ifE R k).args.length v2c,.int .i64 (payE R k).op,.int .i64 (payE R k).num,.int .i64 (payE R k).den,.int .i64 (payE R k).dim,.string (payE R k).name,.slice v1a (payE R k).args.length v1c] 86))) (((H1.out.alloc ((.cells #[.int .i64 ((k:Int)+1),.int .i64 (ifE R k).op,.int .i64 (ifE R k).num,.int .i64 (ifE R k).den,.int .i64 (ifE R k).dim,.string (ifE R k).name,.slice v2a (ifE R k).args.length v2c,.int .i64 (payE R k).op,.int .i64 (payE R k).num,.int .i64 (payE R k).den,.int .i64 (payE R k).dim,.string (payE R k).name,.slice v1a (payE R k).args.length v1c] 86))).grow bs2 dr2).alloc ((.cells #[.int .i64 ((k:Int)+1),.int .i64 (ifE R k).op,.int .i64 (ifE R k).num,.int .i64 (ifE R k).den,.int .i64 (ifE R k).dim,.string (ifE R k).name,.slice v2a (ifE R k).args.length v2c,.int .i64 (payE R k).op,.int .i64 (payE R k).num,.int .i64 (payE R k).den,.int .i64 (payE R k).dim,.string (payE R k).name,.slice v1a (payE R k).args.length v1c] 86)))) hl3 (fun j hj=>(HRB.out j hj).2) rfl rfl rfl hown' hgrow hat (by simp)
       have O1:=((((HOFR.out.grow bs1 dr1).alloc ((.cells #[.int .i64 ((k:Int)+1),.int .i64 (ifE R k).op,.int .i64 (ifE R k).num,.int .i64 (ifE R k).den,.int .i64 (ifE R k).dim,.string (ifE R k).name,.slice v2a (ifE R k).args.length v2c,.int .i64 (payE R k).op,.int .i64 (payE R k).num,.int .i64 (payE R k).den,.int .i64 (payE R k).dim,.string (payE R k).name,.slice v1a (payE R k).args.length v1c] 86))).grow bs2 dr2).alloc ((.cells #[.int .i64 ((k:Int)+1),.int .i64 (ifE R k).op,.int .i64 (ifE R k).num,.int .i64 (ifE R k).den,.int .i64 (ifE R k).dim,.string (ifE R k).name,.slice v2a (ifE R k).args.length v2c,.int .i64 (payE R k).op,.int .i64 (payE R k).num,.int .i64 (payE R k).den,.int .i64 (payE R k).dim,.string (payE R k).name,.slice v1a (payE R k).args.length v1c] 86))).grown hgrow (fun j hj=>by have:=(HRB.out j hj).1;have:=HOFR.out.gge;omega)
       have N1:=((((HNX.out.grow bs1 dr1).alloc ((.cells #[.int .i64 ((k:Int)+1),.int .i64 (ifE R k).op,.int .i64 (ifE R k).num,.int .i64 (ifE R k).den,.int .i64 (ifE R k).dim,.string (ifE R k).name,.slice v2a (ifE R k).args.length v2c,.int .i64 (payE R k).op,.int .i64 (payE R k).num,.int .i64 (payE R k).den,.int .i64 (payE R k).dim,.string (payE R k).name,.slice v1a (payE R k).args.length v1c] 86))).grow bs2 dr2).alloc ((.cells #[.int .i64 ((k:Int)+1),.int .i64 (ifE R k).op,.int .i64 (ifE R k).num,.int .i64 (ifE R k).den,.int .i64 (ifE R k).dim,.string (ifE R k).name,.slice v2a (ifE R k).args.length v2c,.int .i64 (payE R k).op,.int .i64 (payE R k).num,.int .i64 (payE R k).den,.int .i64 (payE R k).dim,.string (payE R k).name,.slice v1a (payE R k).args.length v1c] 86))).grown hgrow (fun j hj=>(HRB.out j hj).1)
       have hoc2:w1.cell? ⟨g,6,none⟩=some (.slice aa (grL q).length acap):=cell_of_row _ _ _ _ _ _ O1.out
       have hof2:w1.frozen? ⟨g,6,none⟩=false:=Joins.unfrozen_of_block O1.out 6
       have HR2:=Lib.hid (R1.setCell (a:=⟨g,6,none⟩) hgl1 (.slice (some ⟨g',0,none⟩) ((grL q).length+1) cap))
       have HO2:=Lib.hid (O1.store 6 (.slice (some ⟨g',0,none⟩) ((grL q).length+1) cap))
       have HN2:=Lib.hid (N1.store 6 (.slice (some ⟨g',0,none⟩) ((grL q).length+1) cap))
       clear hown' hgrow hat hlt' R1 O1 N1
       go_wp2_with fail
       go_roundw
       case rel=>exact⟨k+1,_,q++[((k:Int)+1,(ifE R k,.slice v2a (ifE R k).args.length v2c),(payE R k,.slice v1a (payE R k).args.length v1c))],by omega,by omega,by go_num,HO2.out,HN2.out,by rw [grL_push,grR_push];exact HR2.out,HQ.out.push _ _⟩
       case measure=>simp [intOf];omega
    ·go_wp2_with fail
     go_meet
     exact⟨_,wc.heap.size,q,HOFR.out,HROW1.out.next HNX.out hgH1,HROW2.out.next HNX.out hgH2,⟨HROW3.out.next HNX.out hgH3,HENV.out.next HNX.out hgH3⟩,⟨hgl1,hH3,HNX.out.size⟩,by rw [show nPay R=k by unfold nPay;omega];exact⟨HROW.out,HQ.out⟩⟩
   ·go_wp2_with fail
    go_meet
    exact⟨_,wc.heap.size,q,HOFR.out,HROW1.out.next HNX.out hgH1,HROW2.out.next HNX.out hgH2,⟨HROW3.out.next HNX.out hgH3,HENV.out.next HNX.out hgH3⟩,⟨hgl1,hH3,HNX.out.size⟩,by rw [show nPay R=k by unfold nPay;omega];exact⟨HROW.out,HQ.out⟩⟩
 obtain⟨vgr,H4,qg,hof,hrow1,hrow2,⟨hrow3,henv⟩,⟨hgH4,hH34,hH4⟩,hrow4,hqg⟩:=hcut
 clear HROW1 HROW2 HROW3 HENV HOF1 hgl1 hH3
 have HROW1:=Lib.hid hrow1
 have HROW2:=Lib.hid hrow2
 have HROW3:=Lib.hid hrow3
 have HENV:=Lib.hid henv
 have HROW4:=Lib.hid hrow4.upto
 have HQG:=Lib.hid hqg
 have HOF1:=Lib.hid hof
 have hgl1:=hof.lt
 clear hof hrow1 hrow2 hrow3 hrow4 henv hqg
 go_step
 exact Of_from4 R w h1 h2 h3 h4 ca sa la ia pa ua ccap scap lcap icap pcap ucap hcl hsl hll hil hpl hul HCC HSC HLC HIC HPC HUC g _ wc vcr H1 hgH1 vse H2 hgH2 hH12 vle H3 ql hgH3 hH23 eva evc vgr H4 qg hgH4 hH34 hH4 HROW1 HROW2 HROW3 HENV HROW4 HQL HQG HOF1 hgl1 _ _ _ _ _ _ _ _ _ _ _ _ _ _ _ _ _ _ _ _ _ _ _ _ _ _ _ _ _ _ _ _ _ _ _ _ _ _ _ _ _ _ _ _ _ _ _ _ _ _ _ _ _ _ _ _ _ _ _ _ _ _ _ _ _ _ _ _ _ _ _ _ _ _ _ _ _ _ _ _ _ _ _ _ _ _ _ _ _ _ _ _ _ _ _ _ _ _ _ _ _ _ _ _ _ _ _ _ _ _ _ _ _ _ _ _ _ _ _ _ _ _ _ _ _ _ _ _ _ _ _ _ _ _ _ _ _ _ _ _ _ _ _ _ _ _ _ _ _ _ _ _ _ _ _ _ _ _ _ _ _ _ _ _ _ _ _ _ _ _ _ _ _ _ _ _ _ _ _ _ _ _ _ _ _ _ _ _ _ _ _ _ _ _ _ _ _ _ _ _ _ _ _ _ _ _ _ _ _ _ _ _ _ _ _ _ _ _ _ _ _ _ _ _ _ _ _ _ _ _ _ _ _
theorem Of_from2(R:RawV)(w:World)(h1:I64 R.frm)(h2:I64 R.mode)(h3:I64 R.unit)(h4:I64 R.twist)(ca:Option Addr)(sa:Option Addr)(la:Option Addr)(ia:Option Addr)(pa:Option Addr)(ua:Option Addr)(ccap:Nat)(scap:Nat)(lcap:Nat)(icap:Nat)(pcap:Nat)(ucap:Nat)(hcl:R.credits.length≤140737488355328)(hsl:R.series.length≤140737488355328)(hll:R.lets.length≤140737488355328)(hil:R.ifs.length≤140737488355328)(hpl:R.pays.length≤140737488355328)(hul:R.cuts.length≤140737488355328)(HCC:Hid (R.credits.length=0∨∃b off,ca=some ⟨b,off,none⟩∧b<w.heap.size∧∀(i:Nat),i<R.credits.length→w.cell? ⟨b,off+i,none⟩=some (.int .i64 (R.credits.getD i 0))))(HSC:Hid (R.series.length=0∨∃b off,sa=some ⟨b,off,none⟩∧b<w.heap.size∧∀(i:Nat),i<R.series.length→w.cell? ⟨b,off+i,none⟩=some (.int .i64 (R.series.getD i 0))))(HLC:Hid (R.lets.length=0∨∃b off,la=some ⟨b,off,none⟩∧b<w.heap.size∧∀(i:Nat),i<R.lets.length→∃u,w.cell? ⟨b,off+i,none⟩=some u∧IntsAt w u (R.lets.getD i [])))(HIC:Hid (R.ifs.length=0∨∃b off,ia=some ⟨b,off,none⟩∧b<w.heap.size∧∀(i:Nat),i<R.ifs.length→∃u,w.cell? ⟨b,off+i,none⟩=some u∧IntsAt w u (R.ifs.getD i [])))(HPC:Hid (R.pays.length=0∨∃b off,pa=some ⟨b,off,none⟩∧b<w.heap.size∧∀(i:Nat),i<R.pays.length→∃u,w.cell? ⟨b,off+i,none⟩=some u∧IntsAt w u (R.pays.getD i [])))(HUC:Hid (R.cuts.length=0∨∃b off,ua=some ⟨b,off,none⟩∧b<w.heap.size∧∀(i:Nat),i<R.cuts.length→∃u,w.cell? ⟨b,off+i,none⟩=some u∧IntsAt w u (R.cuts.getD i [])))(g:Nat)(wk:Nat)(wc:World)(vcr:Value)(H1:Nat)(hgH1:g<H1)(vse:Value)(H2:Nat)(hgH2:g<H2)(hH12:H1≤H2)(hH2:H2≤wc.heap.size)(HROW1:Hid (RowX 133 2 H1 (· <H2) wc vcr (credCells R (nCred R)) []))(HROW2:Hid (RowX 135 3 H2 (· <wc.heap.size) wc vse (serCells R (nSer R)) []))(HOF1:Hid (OfAt w (raw10 R (.slice ca R.credits.length ccap) (.slice sa R.series.length scap) (.slice la R.lets.length lcap) (.slice ia R.ifs.length icap) (.slice pa R.pays.length pcap) (.slice ua R.cuts.length ucap)) g #[.int .i64 (pick R.frm 73049),.int .i64 (pick R.mode 4+1),.int .i64 (unitOf (pick R.unit 5)),vcr,vse,.slice none 0 0,.slice none 0 0,.slice none 0 0] wc))(hgl1:g<wc.heap.size)(u5 u6 u7 u8 u9 u17 u18 u19 u20 u21 u22 u23 u24 u25 u26 u27 u28 u29 u30 u31 u32 u33 u34 u35 u36 u37 u38 u39 u40 u41 u42 u43 u44 u45 u46 u47 u48 u49 u50 u51 u52 u53 u54 u55 u56 u57 u58 u59 u60 u61 u62 u63 u64 u65 u66 u67 u68 u69 u70 u71 u72 u73 u74 u75 u76 u77 u78 u79 u80 u81 u82 u83 u84 u85 u86 u87 u88 u89 u90 u91 u92 u93 u94 u95 u96 u97 u98 u99 u100 u101 u102 u103 u104 u105 u106 u107 u108 u109 u110 u111 u112 u113 u114 u115 u116 u117 u118 u119 u120 u121 u122 u123 u124 u125 u126 u127 u128 u129 u130 u131 u132 u133 u134 u135 u136 u137 u138 u139 u140 u141 u142 u143 u144 u145 u146 u147 u148 u149 u150 u151 u152 u153 u154 u155 u156 u157 u158 u159 u160 u161 u162 u163 u164 u165 u166 u167 u168 u169 u170 u171 u172 u173 u174 u175 u176 u177 u178 u179 u180 u181 u182 u183 u184 u185 u186 u187 u188 u189 u190 u191 u192 u193 u194 u195 u196 u197 u198 u199 u200 u201 u202 u203 u204 u205 u206 u207 u208 u209 u210 u211 u212 u213 u214 u215 u216 u217 u218 u219 u220 u221 u222 u223 u224 u225 u226 u227 u228 u229 u230 u231 u232 u233 u234 u235 u236 u237 u238 u239:Value) :
 Code.wp Tryz.prog (tlC (tlC (tlC (tlC (tlC (Tryz.f26.body.getD .skip)))))) (bodyPost Tryz.prog Tryz.f26 (OfPost R w)) {tmps:=#[(.agg (raw10 R (.slice ca R.credits.length ccap) (.slice sa R.series.length scap) (.slice la R.lets.length lcap) (.slice ia R.ifs.length icap) (.slice pa R.pays.length pcap) (.slice ua R.cuts.length ucap))),.pointer (some ⟨w.heap.size,0,none⟩),.pointer (some ⟨w.heap.size+1,0,none⟩),.pointer (some ⟨g,0,none⟩),.slice (some ⟨wk,0,none⟩) 6 6,u5,u6,u7,u8,u9,undef,undef,undef,undef,undef,undef,undef,u17,u18,u19,u20,u21,u22,u23,u24,u25,u26,u27,u28,u29,u30,u31,u32,u33,u34,u35,u36,u37,u38,u39,u40,u41,u42,u43,u44,u45,u46,u47,u48,u49,u50,u51,u52,u53,u54,u55,u56,u57,u58,u59,u60,u61,u62,u63,u64,u65,u66,u67,u68,u69,u70,u71,u72,u73,u74,u75,u76,u77,u78,u79,u80,u81,u82,u83,u84,u85,u86,u87,u88,u89,u90,u91,u92,u93,u94,u95,u96,u97,u98,u99,u100,u101,u102,u103,u104,u105,u106,u107,u108,u109,u110,u111,u112,u113,u114,u115,u116,u117,u118,u119,u120,u121,u122,u123,u124,u125,u126,u127,u128,u129,u130,u131,u132,u133,u134,u135,u136,u137,u138,u139,u140,u141,u142,u143,u144,u145,u146,u147,u148,u149,u150,u151,u152,u153,u154,u155,u156,u157,u158,u159,u160,u161,u162,u163,u164,u165,u166,u167,u168,u169,u170,u171,u172,u173,u174,u175,u176,u177,u178,u179,u180,u181,u182,u183,u184,u185,u186,u187,u188,u189,u190,u191,u192,u193,u194,u195,u196,u197,u198,u199,u200,u201,u202,u203,u204,u205,u206,u207,u208,u209,u210,u211,u212,u213,u214,u215,u216,u217,u218,u219,u220,u221,u222,u223,u224,u225,u226,u227,u228,u229,u230,u231,u232,u233,u234,u235,u236,u237,u238,u239],defers:=[]} wc:=by
 obtain⟨i0,hi,hz0,hz1,hz2⟩:=info_parts infoCred
 obtain⟨i1,hj,hj0,hj1,hj2⟩:=info_parts infoIdx
 obtain⟨i2,hq,hq0,hq1,hq2⟩:=info_parts infoLet
 obtain⟨i3,hr,hr0,hr1,hr2⟩:=info_parts infoBind
 obtain⟨i4,ht,ht0,ht1,ht2⟩:=info_parts infoGrant
 obtain⟨i5,hv,hv0,hv1,hv2⟩:=info_parts infoReduce
 conv=>arg 2;whnf
 unfold raw10
 go_upto_block 4 with fail
 go_cut [10]from 17 (fun vev wx=>∃vle H3 q,OfAt w (raw10 R (.slice ca R.credits.length ccap) (.slice sa R.series.length scap) (.slice la R.lets.length lcap) (.slice ia R.ifs.length icap) (.slice pa R.pays.length pcap) (.slice ua R.cuts.length ucap)) g #[.int .i64 (pick R.frm 73049),.int .i64 (pick R.mode 4+1),.int .i64 (unitOf (pick R.unit 5)),vcr,vse,vle,.slice none 0 0,.slice none 0 0] wx∧RowX 133 2 H1 (· <H2) wx vcr (credCells R (nCred R)) []∧RowX 135 3 H2 (· <H3) wx vse (serCells R (nSer R)) []∧(g<H3∧H2≤H3∧H3≤wx.heap.size)∧RowG 63 7 H3 wx vle (letL q) (q.map (·.2))∧RowG 106 2 H3 wx vev (envL (envF R (nLet R))) []∧LetQ R (nLet R) q)
 case first=>
  go_wp2_with fail
  go_loopw [10,11] (fun v10 v11 wr=>∃k:Nat,∃vle:Value,∃q:List (ByteArray × (Ex × Value)),k≤R.lets.length∧k≤5∧v11= .int .i64 k∧OfAt w (raw10 R (.slice ca R.credits.length ccap) (.slice sa R.series.length scap) (.slice la R.lets.length lcap) (.slice ia R.ifs.length icap) (.slice pa R.pays.length pcap) (.slice ua R.cuts.length ucap)) g #[.int .i64 (pick R.frm 73049),.int .i64 (pick R.mode 4+1),.int .i64 (unitOf (pick R.unit 5)),vcr,vse,vle,.slice none 0 0,.slice none 0 0] wr∧Next g wc wr∧RowX 63 7 wc.heap.size (fun b=>v10.ownBlock≠some b) wr vle (letL q) (q.map (·.2))∧RowG 106 2 wc.heap.size wr v10 (envL (envF R k)) []∧LetQ R k q) (fun _ v11 _=>5-(intOf v11).toNat)
  case atStart=>exact⟨0,_,[],by omega,by omega,rfl,HOF1.out,.refl _ _,.nil _ _ _ _ _,.nil _ _ _ _,.nil R⟩
  case round=>
   obtain⟨k,vle,q,hk,hk5,rfl,hof,hnx,hlr,her,hlq⟩:=hrel
   have hbx:wr.cell? ⟨w.heap.size,5,none⟩=some (.slice la R.lets.length lcap):=cell_of_row _ _ _ _ _ _ hof.box
   have hoc:wr.cell? ⟨g,5,none⟩=some vle:=cell_of_row _ _ _ _ _ _ hof.out
   have hl0:=hof.lt0
   have hl1:w.heap.size<wr.heap.size:=by omega
   have hl2:=hof.lt
   have hl3:=hnx.size
   have HNX:=Lib.hid hnx
   have HOFR:=Lib.hid hof
   have HL:=Lib.hid hlr
   have HE:=Lib.hid her
   have HQ:=Lib.hid hlq
   have HLL:=Lib.hid (show(letL q).length=k by unfold letL;rw [List.length_map];exact hlq.length)
   have HEL:=Lib.hid (show(envL (envF R k)).length=k by unfold envL;rw [List.length_map];exact envF_length R k)
   obtain⟨aa,acap,rfl⟩:=hlr.form
   obtain⟨ea,ecap,hev⟩:=her.form
   subst hev
   clear hof hnx hlr her hl0 hlq
   by_cases hlt:k<R.lets.length
   ·by_cases hlt5:k<5
    ·rcases HLC.out with h0|⟨b,off,rfl,hb,hx⟩
     ·omega
     ·obtain⟨u,hxk,hxi⟩:=hx k hlt
      have hkb:b<wr.heap.size:=by omega
      have hyk:wr.cell? ⟨b,off+k,none⟩=some u:=by rw [HOFR.out.bel.cell (by exact hb)];exact hxk
      have HXI:=Lib.hid hxi
      obtain⟨za,zcap,rfl⟩:=IntsAt.form hxi
      have HXK:=Lib.hid hxk
      clear hxk hx hxi
      have d1:(k:Int)<(R.lets.length:Int):=by omega
      have d2:(k:Int)<5:=by omega
      have HSD:Hid (letD R k=1+(((R.lets.getD k []).length % 4:Nat):Int)):=Lib.hid rfl
      have HSE:Hid (letE R k=topF (R.lets.getD k []) (envF R k) (letD R k)):=Lib.hid rfl
      have HSF:=Lib.hid (envF_succ R k)
      generalize hzk:R.lets.getD k []=zk at *
      clear hzk
      have hzl:zk.length≤140737488355328:=HXI.out.1
      have hm4:(zk.length:Int) % 4=((zk.length % 4:Nat):Int):=by omega
      have HM4:=Lib.hid hm4
      clear hm4
      have hD:letD R k=1+(zk.length:Int) % 4:=by rw [HSD.out];have:=HM4.out;omega
      have HD:=Lib.hid hD
      have HEE:Hid (topF zk (envF R k) (1+(zk.length:Int) % 4)=letE R k):=Lib.hid (by rw [HSE.out,HD.out])
      have hdb1:1≤1+(zk.length:Int) % 4:=by omega
      have hdb4:1+(zk.length:Int) % 4≤4:=by omega
      have hevb:=HE.out.lt
      have HEVB:=Lib.hid hevb
      have hleb:=HL.out.lt
      have HLEB:=Lib.hid hleb
      have HLX:=Lib.hid HL.out.ownX
      clear hD hevb hleb
      go_upto_region 20 with fail
      refine TG.begin 16 (fun w'=>w'.cell? ⟨g,5,none⟩=some (.slice aa (letL q).length acap)∧w'.cell? ⟨w.heap.size,5,none⟩=some (.slice (some ⟨b,off,none⟩) R.lets.length lcap)∧w'.cell? ⟨b,off+k,none⟩=some (.slice za zk.length zcap)) (by kernel_rfl) (by kernel_rfl) ?_ (fun hS=>?_)
      focus(refine⟨?_, ?_, ?_⟩<;>simp [go_sem,hoc,hbx,hyk,hl1,hl2,hkb])
      refine TG.tkB 0 hS ?_
      refine TG.tkB 1 hS ?_
      refine TG.tkB 2 hS ?_
      refine TG.tkB 4 hS ?_
      refine TG.tkB 5 hS ?_
      refine TG.tkB 6 hS ?_
      refine TG.tkB 7 hS ?_
      refine TG.tkB 8 hS ?_
      refine TG.tkB 9 hS ?_
      refine TG.tkB 10 hS ?_
      refine TG.one (i:=3) (by kernel_rfl) rfl (fun K1 hK1=>?_)
      go_simp
      go_at_call 62
      refine(letName_any k _ hlt5).mono ?_
      rintro e' w' ⟨rfl,bs1,dr1,rfl⟩
      (try simp only [World.drew_grow])
      refine TG.go hK1 ?_ (fun hS=>?_)
      focus
       (try dsimp only)
       (refine⟨?_, ?_, ?_⟩<;>simp [go_sem,hoc,hbx,hyk,hl1,hl2,hkb])
      clear hK1 K1
      (try simp only [nS])
      refine TG.one (i:=11) (by kernel_rfl) rfl (fun K1 hK1=>?_)
      go_simp
      go_at_call 9
      refine(Expr_any2 _ _ zk (envF R k) _ (letE R k) (wr.grow bs1 dr1) (ListAt.of_ints HXI.out (HOFR.out.grow _ _).bel) (EnvAt.of_row (HE.out.grow _ _) (by rw [envF_length];omega) (envF_size R k)) hdb1 hdb4 HEE).mono ?_
      rintro e' w' ⟨v,rfl,⟨bs2,dr2,rfl⟩,hrep⟩
      have H1:=Lib.hid ((hrep.eqw (w':=wr.grow (bs1++bs2) dr2) (by simp)).mono (S':=fun b=>wr.heap.size+bs1.size≤b) (fun b hb=>by simpa using hb))
      have HV:=Lib.hid hrep.one
      clear hrep
      (try simp only [World.grow_grow])
      refine TG.go hK1 ?_ (fun hS=>?_)
      focus
       (try dsimp only)
       (refine⟨?_, ?_, ?_⟩<;>simp [go_sem,hoc,hbx,hyk,hl1,hl2,hkb])
      clear hK1 K1
      (try simp only [nS])
      refine TG.tkB 12 hS ?_
      refine TG.one (i:=13) (by kernel_rfl) rfl (fun K1 hK1=>?_)
      go_simp
      refine TG.go hK1 ?_ (fun hS=>?_)
      focus
       (try dsimp only)
       (refine⟨?_, ?_, ?_⟩<;>simp [go_sem,hoc,hbx,hyk,hl1,hl2,hkb])
      clear hK1 K1
      (try simp only [nS])
      refine TG.one (i:=14) (by kernel_rfl) rfl (fun K1 hK1=>?_)
      refine step_append_lies _ rfl _ _ 50 rfl wc.heap.size 63 i2 _ 7 88 Tryz.underlying50 hq hq0 hq1 hq2 rfl (by decide) _ _ _ rfl ((HL.out.grow (bs1++bs2) dr2).alloc (.cells (.string (letN k)::cells1 (letE R k) v).toArray 63)).own ⟨wr.heap.size+(bs1.size+bs2.size),0,none⟩ 1 1 (.string (letN k)::cells1 (letE R k) v) rfl rfl ?_ ?_ (by decide) ?_ ?_ ?_ (wr.heap.size+(bs1.size+bs2.size)+1) (by simp) ?_
      focus exact fun j u hu=>news_cells _ (.string (letN k)::cells1 (letE R k) v) 63 _ (by simp) j u hu
      focus exact let_one _ _ _ HV.out
      focus(have:=HLL.out;unfold maxLen;omega)
      focus(have:=HLL.out;omega)
      focus(simp;omega)
      intro g' cap w1 hown' hgrow hat hlt'
      have R1:=RowX.push (rs2:=[(letE R k,v)]) (m:=wr.heap.size+bs1.size) ((HL.out.grow (bs1++bs2) dr2).alloc (.cells (.string (letN k)::cells1 (letE R k) v).toArray 63)) (rep_one (H1.out.alloc _)) (by omega) (fun j hj e=>by have:=(HEVB.out j e).2;omega) (fun j hj=>by have:=(HLEB.out j hj).2;omega) rfl rfl rfl hown' hgrow hat (by simp) (by omega)
      have O1:=((HOFR.out.grow (bs1++bs2) dr2).alloc (.cells (.string (letN k)::cells1 (letE R k) v).toArray 63)).grown hgrow (fun j hj=>by have:=(HLEB.out j hj).1;have:=HOFR.out.gge;omega)
      have N1:=((HNX.out.grow (bs1++bs2) dr2).alloc (.cells (.string (letN k)::cells1 (letE R k) v).toArray 63)).grown hgrow (fun j hj=>(HLEB.out j hj).1)
      have E1:=((HE.out.toX (X:=fun b=>(Value.slice aa (letL q).length acap).ownBlock≠some b) (fun j hj e=>HLX.out j e hj)).grow (bs1++bs2) dr2|>.alloc (.cells (.string (letN k)::cells1 (letE R k) v).toArray 63)).grown hgrow (fun j hj e=>hj e.symm)
      have hoc2:w1.cell? ⟨g,5,none⟩=some (.slice aa (letL q).length acap):=cell_of_row _ _ _ _ _ _ O1.out
      have hof2:w1.frozen? ⟨g,5,none⟩=false:=Joins.unfrozen_of_block O1.out 5
      have hyk2:=(O1.bel.cell (p:=⟨b,off+k,none⟩) hb).trans HXK.out
      (try simp only [nS])
      refine TG.go hK1 ?_ (fun hS=>?_)
      focus exact⟨hoc2,cell_of_row _ _ _ _ _ _ O1.box,hyk2⟩
      clear hK1 K1 hyk2
      have HR2:=Lib.hid (R1.setCell (a:=⟨g,5,none⟩) hgl1 (.slice (some ⟨g',0,none⟩) ((letL q).length+1) cap))
      have HO2:=Lib.hid (O1.store 5 (.slice (some ⟨g',0,none⟩) ((letL q).length+1) cap))
      have HN2:=Lib.hid (N1.store 5 (.slice (some ⟨g',0,none⟩) ((letL q).length+1) cap))
      have HE2:=Lib.hid ((E1.setCell (a:=⟨g,5,none⟩) hgl1 (.slice (some ⟨g',0,none⟩) ((letL q).length+1) cap)).toG)
      clear hown' hgrow hat hlt' R1 O1 N1 E1
      (try simp only [nS])
      refine TG.tkB 15 hS ?_
      refine TG.one (i:=16) (by kernel_rfl) rfl (fun K1 hK1=>?_)
      go_simp
      refine hK1 _ _ (fun h=>absurd rfl h) (TG.done (by kernel_rfl) ?_)
      clear hK1 K1 hS
      (try simp only [nS])
      clear hoc hbx hyk hoc2 hof2
      obtain⟨w2,hw2⟩:∃w2,w2=w1.setCell ⟨g,5,none⟩ (.slice (some ⟨g',0,none⟩) ((letL q).length+1) cap):=⟨_,rfl⟩
      rw [←hw2]at HR2 HO2 HN2 HE2 ⊢
      clear hw2
      have HE2B:=Lib.hid HE2.out.lt
      have hsz2:=HN2.out.size
      go_wp2_with (first
       |(go_at_call 62;refine(letName_any k _ hlt5).mono ?_;rintro e' w' ⟨rfl,bs3,dr3,rfl⟩)
       |(at_builtin;refine wpList_append_lies _ rfl _ _ 52 rfl wc.heap.size 106 i3 _ 2 24 Tryz.underlying52 hr hr0 hr1 hr2 rfl (by decide) _ _ _ rfl ((HE2.out.grow bs3 dr3).alloc (.cells #[.string (letN k),.int .i64 (1+(zk.length:Int) % 4)] 106)).own ⟨w2.heap.size+bs3.size,0,none⟩ 1 1 [.string (letN k),.int .i64 (1+(zk.length:Int) % 4)] rfl rfl ?e1 ?e2 (by decide) ?e3 ?e4 ?e5 (w2.heap.size+bs3.size+1) (by simp) ?_))
      case e1=>exact news_cells _ [.string (letN k),.int .i64 (1+(zk.length:Int) % 4)] _ _ (by simp)
      case e2=>intro u hu;simp at hu;rcases hu with rfl|rfl<;>rfl
      case e3=>have:=HEL.out;unfold maxLen;omega
      case e4=>have:=HEL.out;omega
      case e5=>simp;omega
      intro g2 cap2 w3 hown2 hgrow2 hat2 hlt2
      have E3:=RowG.push (rs2:=[]) (m:=w2.heap.size) ((HE2.out.grow bs3 dr3).alloc (.cells #[.string (letN k),.int .i64 (1+(zk.length:Int) % 4)] 106)) (fun x hx=>by cases hx) hsz2 (fun j hj=>(HE2B.out j hj).2) rfl rfl rfl hown2 hgrow2 hat2 (by simp)
      have L3:=((((HR2.out.grow bs3 dr3).alloc (.cells #[.string (letN k),.int .i64 (1+(zk.length:Int) % 4)] 106)).mono (X':=fun b=>(Value.slice ea (envL (envF R k)).length ecap).ownBlock≠some b∧b≠g2) (apart_new hat2 (by simp))).grown hgrow2 (fun j hj=>Ne.symm hj.1)).mono (X':=fun b=>(Value.slice (some ⟨g2,0,none⟩) ((envL (envF R k)).length+1) cap2).ownBlock≠some b) (fun j hj _ e=>hj.2 (by simpa [Value.ownBlock]using e.symm))
      have O3:=((HO2.out.grow bs3 dr3).alloc (.cells #[.string (letN k),.int .i64 (1+(zk.length:Int) % 4)] 106)).grown hgrow2 (fun j hj=>by have:=(HE2B.out j hj).1;have:=HOFR.out.gge;omega)
      have N3:=((HN2.out.grow bs3 dr3).alloc (.cells #[.string (letN k),.int .i64 (1+(zk.length:Int) % 4)] 106)).grown hgrow2 (fun j hj=>(HE2B.out j hj).1)
      have HE3:=Lib.hid E3
      have HL3:=Lib.hid L3
      have HO3:=Lib.hid O3
      have HN3:=Lib.hid N3
      clear hown2 hgrow2 hat2 hlt2 E3 L3 O3 N3
      go_wp2_with fail
      go_roundw
      case rel=>exact⟨k+1,_,q++[(letN k,(letE R k,v))],by omega,by omega,by go_num,HO3.out,HN3.out,by rw [letL_push,List.map_append];exact HL3.out,by rw [HSF.out,HD.out,envL_push];exact HE3.out,HQ.out.push v⟩
      case measure=>simp [intOf];omega
    ·go_wp2_with fail
     go_meet
     exact⟨_,wc.heap.size,q,HOFR.out,HROW1.out.next HNX.out hgH1,HROW2.out.next HNX.out hgH2,⟨hgl1,hH2,HNX.out.size⟩,HL.out.toG,by rw [show nLet R=k by unfold nLet;omega];exact⟨HE.out,HQ.out⟩⟩
   ·go_wp2_with fail
    go_meet
    exact⟨_,wc.heap.size,q,HOFR.out,HROW1.out.next HNX.out hgH1,HROW2.out.next HNX.out hgH2,⟨hgl1,hH2,HNX.out.size⟩,HL.out.toG,by rw [show nLet R=k by unfold nLet;omega];exact⟨HE.out,HQ.out⟩⟩
 obtain⟨vle,H3,ql,hof,hrow1,hrow2,⟨hgH3,hH23,hH3⟩,hrow3,henv,hql⟩:=hcut
 clear HROW1 HROW2 HOF1 hgl1 hH2
 have HROW1:=Lib.hid hrow1
 have HROW2:=Lib.hid hrow2
 have HROW3:=Lib.hid hrow3.upto
 have HENV:=Lib.hid henv
 have HQL:=Lib.hid hql
 have HOF1:=Lib.hid hof
 have hgl1:=hof.lt
 obtain⟨eva,evc,hev⟩:=henv.form
 subst hev
 clear hof hrow1 hrow2 hrow3 henv hql
 go_step
 exact Of_from3 R w h1 h2 h3 h4 ca sa la ia pa ua ccap scap lcap icap pcap ucap hcl hsl hll hil hpl hul HCC HSC HLC HIC HPC HUC g _ wc vcr H1 hgH1 vse H2 hgH2 hH12 vle H3 ql hgH3 hH23 eva evc hH3 HROW1 HROW2 HROW3 HENV HQL HOF1 hgl1 _ _ _ _ _ _ _ _ _ _ _ _ _ _ _ _ _ _ _ _ _ _ _ _ _ _ _ _ _ _ _ _ _ _ _ _ _ _ _ _ _ _ _ _ _ _ _ _ _ _ _ _ _ _ _ _ _ _ _ _ _ _ _ _ _ _ _ _ _ _ _ _ _ _ _ _ _ _ _ _ _ _ _ _ _ _ _ _ _ _ _ _ _ _ _ _ _ _ _ _ _ _ _ _ _ _ _ _ _ _ _ _ _ _ _ _ _ _ _ _ _ _ _ _ _ _ _ _ _ _ _ _ _ _ _ _ _ _ _ _ _ _ _ _ _ _ _ _ _ _ _ _ _ _ _ _ _ _ _ _ _ _ _ _ _ _ _ _ _ _ _ _ _ _ _ _ _ _ _ _ _ _ _ _ _ _ _ _ _ _ _ _ _ _ _ _ _ _ _ _ _ _ _ _ _ _ _ _ _ _ _ _ _ _ _ _ _ _ _ _ _ _ _ _ _ _ _ _ _ _
theorem Of_from1(R:RawV)(w:World)(h1:I64 R.frm)(h2:I64 R.mode)(h3:I64 R.unit)(h4:I64 R.twist)(ca:Option Addr)(sa:Option Addr)(la:Option Addr)(ia:Option Addr)(pa:Option Addr)(ua:Option Addr)(ccap:Nat)(scap:Nat)(lcap:Nat)(icap:Nat)(pcap:Nat)(ucap:Nat)(hcl:R.credits.length≤140737488355328)(hsl:R.series.length≤140737488355328)(hll:R.lets.length≤140737488355328)(hil:R.ifs.length≤140737488355328)(hpl:R.pays.length≤140737488355328)(hul:R.cuts.length≤140737488355328)(HCC:Hid (R.credits.length=0∨∃b off,ca=some ⟨b,off,none⟩∧b<w.heap.size∧∀(i:Nat),i<R.credits.length→w.cell? ⟨b,off+i,none⟩=some (.int .i64 (R.credits.getD i 0))))(HSC:Hid (R.series.length=0∨∃b off,sa=some ⟨b,off,none⟩∧b<w.heap.size∧∀(i:Nat),i<R.series.length→w.cell? ⟨b,off+i,none⟩=some (.int .i64 (R.series.getD i 0))))(HLC:Hid (R.lets.length=0∨∃b off,la=some ⟨b,off,none⟩∧b<w.heap.size∧∀(i:Nat),i<R.lets.length→∃u,w.cell? ⟨b,off+i,none⟩=some u∧IntsAt w u (R.lets.getD i [])))(HIC:Hid (R.ifs.length=0∨∃b off,ia=some ⟨b,off,none⟩∧b<w.heap.size∧∀(i:Nat),i<R.ifs.length→∃u,w.cell? ⟨b,off+i,none⟩=some u∧IntsAt w u (R.ifs.getD i [])))(HPC:Hid (R.pays.length=0∨∃b off,pa=some ⟨b,off,none⟩∧b<w.heap.size∧∀(i:Nat),i<R.pays.length→∃u,w.cell? ⟨b,off+i,none⟩=some u∧IntsAt w u (R.pays.getD i [])))(HUC:Hid (R.cuts.length=0∨∃b off,ua=some ⟨b,off,none⟩∧b<w.heap.size∧∀(i:Nat),i<R.cuts.length→∃u,w.cell? ⟨b,off+i,none⟩=some u∧IntsAt w u (R.cuts.getD i [])))(g:Nat)(wk:Nat)(wc:World)(vcr:Value)(H1:Nat)(hgH1:g<H1)(hH1:H1≤wc.heap.size)(HROW1:Hid (RowX 133 2 H1 (· <wc.heap.size) wc vcr (credCells R (nCred R)) []))(HOF1:Hid (OfAt w (raw10 R (.slice ca R.credits.length ccap) (.slice sa R.series.length scap) (.slice la R.lets.length lcap) (.slice ia R.ifs.length icap) (.slice pa R.pays.length pcap) (.slice ua R.cuts.length ucap)) g #[.int .i64 (pick R.frm 73049),.int .i64 (pick R.mode 4+1),.int .i64 (unitOf (pick R.unit 5)),vcr,.slice none 0 0,.slice none 0 0,.slice none 0 0,.slice none 0 0] wc))(hgl1:g<wc.heap.size)(u5 u6 u17 u18 u19 u20 u21 u22 u23 u24 u25 u26 u27 u28 u29 u30 u31 u32 u33 u34 u35 u36 u37 u38 u39 u40 u41 u42 u43 u44 u45 u46 u47 u48 u49 u50 u51 u52 u53 u54 u55 u56 u57 u58 u59 u60 u61 u62 u63 u64 u65 u66 u67 u68 u69 u70 u71 u72 u73 u74 u75 u76 u77 u78 u79 u80 u81 u82 u83 u84 u85 u86 u87 u88 u89 u90 u91 u92 u93 u94 u95 u96 u97 u98 u99 u100 u101 u102 u103 u104 u105 u106 u107 u108 u109 u110 u111 u112 u113 u114 u115 u116 u117 u118 u119 u120 u121 u122 u123 u124 u125 u126 u127 u128 u129 u130 u131 u132 u133 u134 u135 u136 u137 u138 u139 u140 u141 u142 u143 u144 u145 u146 u147 u148 u149 u150 u151 u152 u153 u154 u155 u156 u157 u158 u159 u160 u161 u162 u163 u164 u165 u166 u167 u168 u169 u170 u171 u172 u173 u174 u175 u176 u177 u178 u179 u180 u181 u182 u183 u184 u185 u186 u187 u188 u189 u190 u191 u192 u193 u194 u195 u196 u197 u198 u199 u200 u201 u202 u203 u204 u205 u206 u207 u208 u209 u210 u211 u212 u213 u214 u215 u216 u217 u218 u219 u220 u221 u222 u223 u224 u225 u226 u227 u228 u229 u230 u231 u232 u233 u234 u235 u236 u237 u238 u239:Value) :
 Code.wp Tryz.prog (tlC (tlC (tlC (tlC (Tryz.f26.body.getD .skip))))) (bodyPost Tryz.prog Tryz.f26 (OfPost R w)) {tmps:=#[(.agg (raw10 R (.slice ca R.credits.length ccap) (.slice sa R.series.length scap) (.slice la R.lets.length lcap) (.slice ia R.ifs.length icap) (.slice pa R.pays.length pcap) (.slice ua R.cuts.length ucap))),.pointer (some ⟨w.heap.size,0,none⟩),.pointer (some ⟨w.heap.size+1,0,none⟩),.pointer (some ⟨g,0,none⟩),.slice (some ⟨wk,0,none⟩) 6 6,u5,u6,undef,undef,undef,undef,undef,undef,undef,undef,undef,undef,u17,u18,u19,u20,u21,u22,u23,u24,u25,u26,u27,u28,u29,u30,u31,u32,u33,u34,u35,u36,u37,u38,u39,u40,u41,u42,u43,u44,u45,u46,u47,u48,u49,u50,u51,u52,u53,u54,u55,u56,u57,u58,u59,u60,u61,u62,u63,u64,u65,u66,u67,u68,u69,u70,u71,u72,u73,u74,u75,u76,u77,u78,u79,u80,u81,u82,u83,u84,u85,u86,u87,u88,u89,u90,u91,u92,u93,u94,u95,u96,u97,u98,u99,u100,u101,u102,u103,u104,u105,u106,u107,u108,u109,u110,u111,u112,u113,u114,u115,u116,u117,u118,u119,u120,u121,u122,u123,u124,u125,u126,u127,u128,u129,u130,u131,u132,u133,u134,u135,u136,u137,u138,u139,u140,u141,u142,u143,u144,u145,u146,u147,u148,u149,u150,u151,u152,u153,u154,u155,u156,u157,u158,u159,u160,u161,u162,u163,u164,u165,u166,u167,u168,u169,u170,u171,u172,u173,u174,u175,u176,u177,u178,u179,u180,u181,u182,u183,u184,u185,u186,u187,u188,u189,u190,u191,u192,u193,u194,u195,u196,u197,u198,u199,u200,u201,u202,u203,u204,u205,u206,u207,u208,u209,u210,u211,u212,u213,u214,u215,u216,u217,u218,u219,u220,u221,u222,u223,u224,u225,u226,u227,u228,u229,u230,u231,u232,u233,u234,u235,u236,u237,u238,u239],defers:=[]} wc:=by
 obtain⟨i0,hi,hz0,hz1,hz2⟩:=info_parts infoCred
 obtain⟨i1,hj,hj0,hj1,hj2⟩:=info_parts infoIdx
 obtain⟨i2,hq,hq0,hq1,hq2⟩:=info_parts infoLet
 obtain⟨i3,hr,hr0,hr1,hr2⟩:=info_parts infoBind
 obtain⟨i4,ht,ht0,ht1,ht2⟩:=info_parts infoGrant
 obtain⟨i5,hv,hv0,hv1,hv2⟩:=info_parts infoReduce
 conv=>arg 2;whnf
 unfold raw10
 go_upto_block 2 with fail
 go_cut []from 17 (fun wx=>∃vse H2,OfAt w (raw10 R (.slice ca R.credits.length ccap) (.slice sa R.series.length scap) (.slice la R.lets.length lcap) (.slice ia R.ifs.length icap) (.slice pa R.pays.length pcap) (.slice ua R.cuts.length ucap)) g #[.int .i64 (pick R.frm 73049),.int .i64 (pick R.mode 4+1),.int .i64 (unitOf (pick R.unit 5)),vcr,vse,.slice none 0 0,.slice none 0 0,.slice none 0 0] wx∧RowX 133 2 H1 (· <H2) wx vcr (credCells R (nCred R)) []∧(g<H2∧H1≤H2∧H2≤wx.heap.size)∧RowG 135 3 H2 wx vse (serCells R (nSer R)) [])
 case first=>
  go_wp2_with fail
  go_loopw [7] (fun v7 wr=>∃k:Nat,∃vse:Value,k≤R.series.length∧k≤6∧v7= .int .i64 k∧OfAt w (raw10 R (.slice ca R.credits.length ccap) (.slice sa R.series.length scap) (.slice la R.lets.length lcap) (.slice ia R.ifs.length icap) (.slice pa R.pays.length pcap) (.slice ua R.cuts.length ucap)) g #[.int .i64 (pick R.frm 73049),.int .i64 (pick R.mode 4+1),.int .i64 (unitOf (pick R.unit 5)),vcr,vse,.slice none 0 0,.slice none 0 0,.slice none 0 0] wr∧Next g wc wr∧RowG 135 3 wc.heap.size wr vse (serCells R k) []) (fun v7 _=>6-(intOf v7).toNat)
  case atStart=>exact⟨0,_,by omega,by omega,rfl,HOF1.out,.refl _ _,.nil _ _ _ _⟩
  case round=>
   obtain⟨k,vse,hk,hk6,rfl,hof,hnx,hrow⟩:=hrel
   have hbx:wr.cell? ⟨w.heap.size,4,none⟩=some (.slice sa R.series.length scap):=cell_of_row _ _ _ _ _ _ hof.box
   have hoc:wr.cell? ⟨g,4,none⟩=some vse:=cell_of_row _ _ _ _ _ _ hof.out
   have hl0:=hof.lt0
   have hl1:w.heap.size<wr.heap.size:=by omega
   have hl2:=hof.lt
   have hl3:=hnx.size
   have HNX:=Lib.hid hnx
   have HOFR:=Lib.hid hof
   have HROW:=Lib.hid hrow
   have HCL:=Lib.hid (serCells_length R k)
   obtain⟨aa,acap,rfl⟩:=hrow.form
   clear hof hnx hrow hl0
   by_cases hlt:k<R.series.length
   ·by_cases hlt6:k<6
    ·rcases HSC.out with h0|⟨b,off,rfl,hb,hx⟩
     ·omega
     ·have hxk:=hx k hlt
      have hkb:b<wr.heap.size:=by omega
      have hyk:wr.cell? ⟨b,off+k,none⟩=some (.int .i64 (R.series.getD k 0)):=by rw [HOFR.out.bel.cell (by exact hb)];exact hxk
      have HXK:=Lib.hid hxk
      clear hxk hx
      have d1:(k:Int)<(R.series.length:Int):=by omega
      have d2:(k:Int)<6:=by omega
      have HSU:=Lib.hid (serCells_succ R k)
      have HSY:Hid (serY R k=1930+25*k+pick (R.series.getD k 0) 20):=Lib.hid rfl
      have HSN:Hid (serN R k=mkN (pick (R.series.getD k 0) 4000+1) 1000):=Lib.hid rfl
      have HSD:Hid (serD R k=mkD (pick (R.series.getD k 0) 4000+1) 1000):=Lib.hid rfl
      generalize hzk:R.series.getD k 0=zk at *
      clear hzk
      have hp4:=pick_bd zk 4000 (by omega)
      have hp2:=pick_bd zk 20 (by omega)
      go_upto_region 14 with (first
       |(go_at_call 10;refine(Pick_any _ _ _ (by omega)).mono ?_;rintro e w' ⟨rfl,rfl⟩)
       |(go_at_call 39;refine(MakeFraction_any _ _ _ (by omega) (by omega) (by omega) (by omega)).mono ?_;rintro e w' ⟨rfl,bs,d,rfl⟩))
      have hm1:IntKind.i64.wrap (25*(k:Int))=25*k:=IntWalk.i64_in _ (by omega)
      have hm2:IntKind.i64.wrap (1930+25*(k:Int))=1930+25*k:=IntWalk.i64_in _ (by omega)
      have hm3:IntKind.i64.wrap (1930+25*(k:Int)+pick zk 20)=1930+25*k+pick zk 20:=IntWalk.i64_in _ (by omega)
      generalize hN:mkN (pick zk 4000+1) 1000=fn at HSN ⊢
      generalize hD:mkD (pick zk 4000+1) 1000=fd at HSD ⊢
      clear hN hD hp4 hp2
      refine TG.begin 17 (fun w'=>w'.cell? ⟨g,4,none⟩=some (.slice aa (serCells R k).length acap)∧w'.cell? ⟨w.heap.size,4,none⟩=some (.slice (some ⟨b,off,none⟩) R.series.length scap)∧w'.cell? ⟨b,off+k,none⟩=some (.int .i64 zk)∧w'.cell? ⟨wr.heap.size+bs.size,0,none⟩=some (.int .i64 fn)∧w'.cell? ⟨wr.heap.size+bs.size,1,none⟩=some (.int .i64 fd)) (by kernel_rfl) (by kernel_rfl) ?_ (fun hS=>?_)
      focus
       refine⟨?_, ?_, ?_, ?_, ?_⟩<;>simp [go_sem,hoc,hbx,hyk,hl1,hl2,hkb]
      refine TG.tkB 0 hS ?_
      refine TG.tkB 1 hS ?_
      refine TG.tkB 2 hS ?_
      refine TG.tkB 3 hS ?_
      refine TG.tkB 4 hS ?_
      refine TG.tkB 5 hS ?_
      refine TG.tkB 6 hS ?_
      refine TG.tkB 7 hS ?_
      refine TG.tkB 8 hS ?_
      refine TG.tkB 9 hS ?_
      refine TG.takeC (i:=10) (v:=(.int .i64 (pick zk 20))) (fn:=10) (args:=#[.int .i64 zk,.int .i64 20]) rfl (by kernel_rfl) (by kernel_rfl) (by kernel_rfl) (by decide) (fun _ _ _ h=>h) rfl hS ?_ ?_ ?_
      focus
       intro wS hSw
       (try dsimp only at hSw)
       go_simp
      focus exact fun wS _=>(Pick_any _ _ _ (by omega))
      (try simp only [nS])
      refine TG.tkB 11 hS ?_
      refine TG.tkB 12 hS ?_
      refine TG.tkB 13 hS ?_
      refine TG.one (i:=14) (by kernel_rfl) rfl (fun K1 hK1=>?_)
      go_simp
      refine TG.go hK1 ?_ (fun hS=>?_)
      focus
       (try dsimp only)
       (refine⟨?_, ?_, ?_, ?_, ?_⟩<;>simp [go_sem,hoc,hbx,hyk,hl1,hl2,hkb])
      clear hK1 K1
      (try simp only [nS])
      have HSW:=Lib.hid hS
      refine TG.one (i:=15) (by kernel_rfl) rfl (fun K1 hK1=>?_)
      refine step_append_lies _ rfl _ _ 78 rfl wc.heap.size 135 i1 _ 3 24 Tryz.underlying78 hj hj0 hj1 hj2 rfl (by decide) _ _ _ rfl (((HROW.out.grow bs d).alloc (.cells #[.int .i64 fn,.int .i64 fd] 24)).alloc (.cells #[.int .i64 (1930+25*k+pick zk 20),.int .i64 fn,.int .i64 fd] 135)).own ⟨wr.heap.size+bs.size+1,0,none⟩ 1 1 [.int .i64 (1930+25*k+pick zk 20),.int .i64 fn,.int .i64 fd] rfl rfl ?_ ?_ (by decide) ?_ ?_ ?_ (wr.heap.size+bs.size+2) (by simp) ?_
      focus exact fun j u hu=>news_cells _ [.int .i64 (1930+25*k+pick zk 20),.int .i64 fn,.int .i64 fd] 135 _ (by simp) j u hu
      focus(intro u hu;simp at hu;rcases hu with rfl|rfl|rfl<;>rfl)
      focus(have:=HCL.out;unfold maxLen;omega)
      focus(have:=HCL.out;omega)
      focus(simp;omega)
      intro g' cap w1 hown' hgrow hat hlt'
      have hrowb:=HROW.out.lt
      have R1:=RowG.push (rs2:=[]) (m:=wr.heap.size) (((HROW.out.grow bs d).alloc (.cells #[.int .i64 fn,.int .i64 fd] 24)).alloc (.cells #[.int .i64 (1930+25*k+pick zk 20),.int .i64 fn,.int .i64 fd] 135)).drew (fun x hx=>by cases hx) hl3 (fun j hj=>(hrowb j hj).2) rfl rfl rfl hown' hgrow hat (by simp)
      have O1:=(((HOFR.out.grow bs d).alloc (.cells #[.int .i64 fn,.int .i64 fd] 24)).alloc (.cells #[.int .i64 (1930+25*k+pick zk 20),.int .i64 fn,.int .i64 fd] 135)).drew.grown hgrow (fun j hj=>by have:=(hrowb j hj).1;have:=HOFR.out.gge;omega)
      have N1:=(((HNX.out.grow bs d).alloc (.cells #[.int .i64 fn,.int .i64 fd] 24)).alloc (.cells #[.int .i64 (1930+25*k+pick zk 20),.int .i64 fn,.int .i64 fd] 135)).drew.grown hgrow (fun j hj=>(hrowb j hj).1)
      have hoc2:w1.cell? ⟨g,4,none⟩=some (.slice aa (serCells R k).length acap):=cell_of_row _ _ _ _ _ _ O1.out
      have hof2:w1.frozen? ⟨g,4,none⟩=false:=Joins.unfrozen_of_block O1.out 4
      have hf0:=(hgrow.cell_far ⟨wr.heap.size+bs.size,0,none⟩ (by simp;omega) (fun e=>absurd (hrowb (wr.heap.size+bs.size) e.symm).2 (by omega))).trans HSW.out.2.2.2.1
      have hf1:=(hgrow.cell_far ⟨wr.heap.size+bs.size,1,none⟩ (by simp;omega) (fun e=>absurd (hrowb (wr.heap.size+bs.size) e.symm).2 (by omega))).trans HSW.out.2.2.2.2
      have hyk2:=(O1.bel.cell (p:=⟨b,off+k,none⟩) hb).trans HXK.out
      (try simp only [nS])
      refine TG.go hK1 ?_ (fun hS=>?_)
      focus exact⟨hoc2,cell_of_row _ _ _ _ _ _ O1.box,hyk2,hf0,hf1⟩
      clear hK1 K1 HSW hf0 hf1 hyk2
      have R2:=Lib.hid (R1.setCell (a:=⟨g,4,none⟩) hgl1 (.slice (some ⟨g',0,none⟩) ((serCells R k).length+1) cap))
      have O2:=Lib.hid (O1.store 4 (.slice (some ⟨g',0,none⟩) ((serCells R k).length+1) cap))
      have N2:=Lib.hid (N1.store 4 (.slice (some ⟨g',0,none⟩) ((serCells R k).length+1) cap))
      clear hown' hgrow hat hlt' R1 O1 N1 hrowb
      (try simp only [nS])
      refine TG.tkB 16 hS ?_
      refine TG.one (i:=17) (by kernel_rfl) rfl (fun K1 hK1=>?_)
      go_simp
      refine hK1 _ _ (fun h=>absurd rfl h) (TG.done (by kernel_rfl) ?_)
      clear hK1 K1 hS
      (try simp only [nS])
      go_wp2_with fail
      go_roundw
      case rel=>exact⟨k+1,_,by omega,by omega,by go_num,O2.out,N2.out,by rw [HSU.out,HSY.out,HSN.out,HSD.out];exact R2.out⟩
      case measure=>simp [intOf];omega
    ·go_wp2_with fail
     go_meet
     exact⟨_,wc.heap.size,HOFR.out,HROW1.out.next HNX.out hgH1,⟨hgl1,hH1,HNX.out.size⟩,by rw [show nSer R=k by unfold nSer;omega];exact HROW.out⟩
   ·go_wp2_with fail
    go_meet
    exact⟨_,wc.heap.size,HOFR.out,HROW1.out.next HNX.out hgH1,⟨hgl1,hH1,HNX.out.size⟩,by rw [show nSer R=k by unfold nSer;omega];exact HROW.out⟩
 obtain⟨vse,H2,hof,hrow1,⟨hgH2,hH12,hH2⟩,hrow2⟩:=hcut
 clear HROW1 HOF1 hgl1 hH1
 have HROW1:=Lib.hid hrow1
 have HROW2:=Lib.hid hrow2.upto
 have HOF1:=Lib.hid hof
 have hgl1:=hof.lt
 clear hof hrow1 hrow2
 go_step
 exact Of_from2 R w h1 h2 h3 h4 ca sa la ia pa ua ccap scap lcap icap pcap ucap hcl hsl hll hil hpl hul HCC HSC HLC HIC HPC HUC g _ wc vcr H1 hgH1 vse H2 hgH2 hH12 hH2 HROW1 HROW2 HOF1 hgl1 _ _ _ _ _ _ _ _ _ _ _ _ _ _ _ _ _ _ _ _ _ _ _ _ _ _ _ _ _ _ _ _ _ _ _ _ _ _ _ _ _ _ _ _ _ _ _ _ _ _ _ _ _ _ _ _ _ _ _ _ _ _ _ _ _ _ _ _ _ _ _ _ _ _ _ _ _ _ _ _ _ _ _ _ _ _ _ _ _ _ _ _ _ _ _ _ _ _ _ _ _ _ _ _ _ _ _ _ _ _ _ _ _ _ _ _ _ _ _ _ _ _ _ _ _ _ _ _ _ _ _ _ _ _ _ _ _ _ _ _ _ _ _ _ _ _ _ _ _ _ _ _ _ _ _ _ _ _ _ _ _ _ _ _ _ _ _ _ _ _ _ _ _ _ _ _ _ _ _ _ _ _ _ _ _ _ _ _ _ _ _ _ _ _ _ _ _ _ _ _ _ _ _ _ _ _ _ _ _ _ _ _ _ _ _ _ _ _ _ _ _ _ _ _ _ _ _ _
theorem Of_walk(R:RawV)(vc vs vl vi vp vu:Value)(w:World)(h1:I64 R.frm)(h2:I64 R.mode)(h3:I64 R.unit)(h4:I64 R.twist)
 (hC:IntsAt w vc R.credits) (hS:IntsAt w vs R.series) (hL:RowsAt w vl R.lets) (hI:RowsAt w vi R.ifs) (hP:RowsAt w vp R.pays) (hU:RowsAt w vu R.cuts) :
 Calls Tryz.prog 26 #[.agg #[.int .i64 R.frm,.int .i64 R.mode,.int .i64 R.unit,vc,vs,vl,vi,vp,vu,.int .i64 R.twist]] w (OfPost R w):=by

 obtain⟨i0,hi,hz0,hz1,hz2⟩:=info_parts infoCred
 obtain⟨i1,hj,hj0,hj1,hj2⟩:=info_parts infoIdx
 obtain⟨i2,hq,hq0,hq1,hq2⟩:=info_parts infoLet
 obtain⟨i3,hr,hr0,hr1,hr2⟩:=info_parts infoBind
 obtain⟨i4,ht,ht0,ht1,ht2⟩:=info_parts infoGrant
 obtain⟨i5,hv,hv0,hv1,hv2⟩:=info_parts infoReduce
 obtain⟨hcl,-,ca,ccap,rfl,hcc⟩:=hC
 have HCC:=Lib.hid hcc
 obtain⟨hsl,-,sa,scap,rfl,hsc⟩:=hS
 have HSC:=Lib.hid hsc
 obtain⟨hll,la,lcap,rfl,hlc⟩:=hL
 have HLC:=Lib.hid hlc
 obtain⟨hil,ia,icap,rfl,hic⟩:=hI
 have HIC:=Lib.hid hic
 obtain⟨hpl,pa,pcap,rfl,hpc⟩:=hP
 have HPC:=Lib.hid hpc
 obtain⟨hul,ua,ucap,rfl,huc⟩:=hU
 have HUC:=Lib.hid huc
 clear hcc hsc hlc hic hpc huc
 go_enter Tryz.func26,Tryz.ntmps26
 go_upto_region 1 with fail
 go_cut [3]from 17 (fun v3 wx=>∃g,v3= .pointer (some ⟨g,0,none⟩)∧OfAt w (raw10 R (.slice ca R.credits.length ccap) (.slice sa R.series.length scap) (.slice la R.lets.length lcap) (.slice ia R.ifs.length icap) (.slice pa R.pays.length pcap) (.slice ua R.cuts.length ucap)) g #[.int .i64 (pick R.frm 73049),.int .i64 (pick R.mode 4+1),.int .i64 (unitOf (pick R.unit 5)),.slice none 0 0,.slice none 0 0,.slice none 0 0,.slice none 0 0,.slice none 0 0] wx)
 case first=>
  obtain⟨hp0,hp5⟩:=pick_bd R.unit 5 (by omega)
  have hpm:=pick_bd R.mode 4 (by omega)
  have hM:IntKind.i64.wrap (pick R.mode 4+1)=pick R.mode 4+1:=IntWalk.i64_in _ (by omega)
  clear hpm
  have hA:=arr_at ((w.alloc ((.cells #[.int .i64 R.frm,.int .i64 R.mode,.int .i64 R.unit,(.slice ca R.credits.length ccap),(.slice sa R.series.length scap),(.slice la R.lets.length lcap),(.slice ia R.ifs.length icap),(.slice pa R.pays.length pcap),(.slice ua R.cuts.length ucap),.int .i64 R.twist] 49))).alloc ((.cells #[.int .i64 0,.int .i64 0,.int .i64 0,.slice none 0 0,.slice none 0 0,.slice none 0 0,.slice none 0 0,.slice none 0 0] 82))) (pick R.unit 5) (w.heap.size+1+1) (by simp) hp0 hp5
  have hB:=arr_at (((w.alloc ((.cells #[.int .i64 R.frm,.int .i64 R.mode,.int .i64 R.unit,(.slice ca R.credits.length ccap),(.slice sa R.series.length scap),(.slice la R.lets.length lcap),(.slice ia R.ifs.length icap),(.slice pa R.pays.length pcap),(.slice ua R.cuts.length ucap),.int .i64 R.twist] 49))).alloc ((.cells #[.int .i64 0,.int .i64 0,.int .i64 0,.slice none 0 0,.slice none 0 0,.slice none 0 0,.slice none 0 0,.slice none 0 0] 82))).alloc ((.cells #[.int .i64 0,.int .i64 0,.int .i64 0,.slice none 0 0,.slice none 0 0,.slice none 0 0,.slice none 0 0,.slice none 0 0] 82))) (pick R.unit 5) (w.heap.size+1+1+1) (by simp) hp0 hp5
  refine TG.begin 16 (fun w'=>w'.cell? ⟨w.heap.size,0,none⟩=some (.int .i64 R.frm)∧w'.cell? ⟨w.heap.size,1,none⟩=some (.int .i64 R.mode)∧w'.cell? ⟨w.heap.size,2,none⟩=some (.int .i64 R.unit)) (by kernel_rfl) (by kernel_rfl) (by simp [go_sem]) (fun hS=>?_)
  refine TG.tkB 0 hS ?_
  refine TG.tkB 1 hS ?_
  refine TG.takeC (i:=2) (v:=(.int .i64 (pick R.frm 73049))) (fn:=10) (args:=#[.int .i64 R.frm,.int .i64 73049]) rfl (by kernel_rfl) (by kernel_rfl) (by kernel_rfl) (by decide) (fun _ _ _ h=>h) rfl hS ?_ ?_ ?_
  focus
   intro wS hSw
   (try dsimp only at hSw)
   go_simp
  focus exact fun wS _=>(Pick_any _ _ _ (by omega))
  (try simp only [nS])
  refine TG.tkB 3 hS ?_
  refine TG.tkB 4 hS ?_
  refine TG.takeC (i:=5) (v:=(.int .i64 (pick R.mode 4))) (fn:=10) (args:=#[.int .i64 R.mode,.int .i64 4]) rfl (by kernel_rfl) (by kernel_rfl) (by kernel_rfl) (by decide) (fun _ _ _ h=>h) rfl hS ?_ ?_ ?_
  focus
   intro wS hSw
   (try dsimp only at hSw)
   go_simp
  focus exact fun wS _=>(Pick_any _ _ _ (by omega))
  (try simp only [nS])
  refine TG.tkB 6 hS ?_
  refine TG.tkB 8 hS ?_
  refine TG.tkB 9 hS ?_
  refine TG.takeC (i:=10) (v:=(.int .i64 (pick R.unit 5))) (fn:=10) (args:=#[.int .i64 R.unit,.int .i64 5]) rfl (by kernel_rfl) (by kernel_rfl) (by kernel_rfl) (by decide) (fun _ _ _ h=>h) rfl hS ?_ ?_ ?_
  focus
   intro wS hSw
   (try dsimp only at hSw)
   go_simp
  focus exact fun wS _=>(Pick_any _ _ _ (by omega))
  (try simp only [nS])
  refine TG.two (i:=7) (k:=15) (by kernel_rfl) rfl rfl (fun K1 hK1=>?_) (fun K1 hK1=>?_)
  ·go_simp
   refine TG.go hK1 ?_ (fun hS=>?_)
   focus
    (try dsimp only)
    go_keep
   clear hK1 K1
   (try simp only [nS])
   refine TG.tkB 11 hS ?_
   refine TG.two (i:=12) (k:=15) (by kernel_rfl) rfl rfl (fun K1 hK1=>?_) (fun K1 hK1=>?_)
   focus
    go_simp
    refine TG.go hK1 ?_ (fun hS=>?_)
    focus
     (try dsimp only)
     go_keep
    clear hK1 K1
    (try simp only [nS])
    refine TG.tkB 13 hS ?_
    refine TG.tkB 14 hS ?_
    refine TG.one (i:=15) (by kernel_rfl) rfl (fun K1 hK1=>?_)
    go_simp
    refine TG.go hK1 ?_ (fun hS=>?_)
    focus
     (try dsimp only)
     go_keep
    clear hK1 K1
    (try simp only [nS])
   rotate_left
   focus
    go_simp
    refine TG.go hK1 ?_ (fun hS=>?_)
    focus
     (try dsimp only)
     go_keep
    clear hK1 K1
    (try simp only [nS])
    refine TG.one (i:=12) (by kernel_rfl) rfl (fun K1 hK1=>?_)
    go_simp
    refine TG.go hK1 ?_ (fun hS=>?_)
    focus
     (try dsimp only)
     go_keep
    clear hK1 K1
    (try simp only [nS])
    refine TG.tkB 13 hS ?_
    refine TG.tkB 14 hS ?_
   rotate_left
   all_goals
    refine TG.one (i:=16) (by kernel_rfl) rfl (fun K1 hK1=>?_)
    go_simp
    refine hK1 _ _ (fun h=>absurd rfl h) (TG.done (by kernel_rfl) ?_)
    clear hK1 K1 hS
    (try simp only [nS])
    go_wp2_with fail
    go_meet
    exact⟨_,rfl,OfAt.start_a _ _ _ _⟩
  ·go_simp
   refine TG.go hK1 ?_ (fun hS=>?_)
   focus
    (try dsimp only)
    go_keep
   clear hK1 K1
   (try simp only [nS])
   refine TG.one (i:=7) (by kernel_rfl) rfl (fun K1 hK1=>?_)
   go_simp
   refine TG.go hK1 ?_ (fun hS=>?_)
   focus
    (try dsimp only)
    go_keep
   clear hK1 K1
   (try simp only [nS])
   refine TG.tkB 11 hS ?_
   refine TG.one (i:=12) (by kernel_rfl) rfl (fun K1 hK1=>?_)
   go_simp
   refine TG.go hK1 ?_ (fun hS=>?_)
   focus
    (try dsimp only)
    go_keep
   clear hK1 K1
   (try simp only [nS])
   refine TG.tkB 13 hS ?_
   refine TG.tkB 14 hS ?_
   refine TG.one (i:=16) (by kernel_rfl) rfl (fun K1 hK1=>?_)
   go_simp
   refine hK1 _ _ (fun h=>absurd rfl h) (TG.done (by kernel_rfl) ?_)
   clear hK1 K1 hS
   (try simp only [nS])
   go_wp2_with fail
   go_meet
   exact⟨_,rfl,OfAt.start_b _ _ _ _⟩
 obtain⟨g,rfl,hof⟩:=hcut
 have hgl:=hof.lt
 have HOF:=Lib.hid hof
 clear hof
 go_upto_block 0 with fail
 go_cut []from 17 (fun wx=>∃vcr H1,OfAt w (raw10 R (.slice ca R.credits.length ccap) (.slice sa R.series.length scap) (.slice la R.lets.length lcap) (.slice ia R.ifs.length icap) (.slice pa R.pays.length pcap) (.slice ua R.cuts.length ucap)) g #[.int .i64 (pick R.frm 73049),.int .i64 (pick R.mode 4+1),.int .i64 (unitOf (pick R.unit 5)),vcr,.slice none 0 0,.slice none 0 0,.slice none 0 0,.slice none 0 0] wx∧(g<H1∧H1≤wx.heap.size)∧RowG 133 2 H1 wx vcr (credCells R (nCred R)) [])
 case first=>
  go_wp2_with fail
  go_loopw [5] (fun v5 wr=>∃k:Nat,∃vcr:Value,k≤R.credits.length∧k≤4∧v5= .int .i64 k∧OfAt w (raw10 R (.slice ca R.credits.length ccap) (.slice sa R.series.length scap) (.slice la R.lets.length lcap) (.slice ia R.ifs.length icap) (.slice pa R.pays.length pcap) (.slice ua R.cuts.length ucap)) g #[.int .i64 (pick R.frm 73049),.int .i64 (pick R.mode 4+1),.int .i64 (unitOf (pick R.unit 5)),vcr,.slice none 0 0,.slice none 0 0,.slice none 0 0,.slice none 0 0] wr∧wr.heap[wc.heap.size]? =some kindsO∧RowG 133 2 (wc.heap.size+1) wr vcr (credCells R k) []) (fun v5 _=>4-(intOf v5).toNat)
  case atStart=>exact⟨0,_,by omega,by omega,rfl,HOF.out.alloc _,heap_new _ _ _ rfl,.nil _ _ _ _⟩
  case round=>
   obtain⟨k,vcr,hk,hk4,rfl,hof,hkd,hrow⟩:=hrel
   have hbx:wr.cell? ⟨w.heap.size,3,none⟩=some (.slice ca R.credits.length ccap):=cell_of_row _ _ _ _ _ _ hof.box
   have hoc:wr.cell? ⟨g,3,none⟩=some vcr:=cell_of_row _ _ _ _ _ _ hof.out
   have hof1:wr.frozen? ⟨g,3,none⟩=false:=Joins.unfrozen_of_block hof.out 3
   have hl0:=hof.lt0
   have hl1:w.heap.size<wr.heap.size:=by omega
   have hl2:=hof.lt
   have hl3:wc.heap.size<wr.heap.size:=(Array.getElem?_eq_some_iff.1 hkd).1
   have HKD:=Lib.hid hkd
   have HOFR:=Lib.hid hof
   have HROW:=Lib.hid hrow
   have HCL:=Lib.hid (credCells_length R k)
   obtain⟨aa,acap,rfl⟩:=hrow.form
   clear hof hkd hrow hl0
   by_cases hlt:k<R.credits.length
   ·by_cases hlt4:k<4
    ·rcases HCC.out with h0|⟨b,off,rfl,hb,hx⟩
     ·omega
     ·have hx0:=hx 0 (by omega)
      have hxk:=hx k hlt
      have hkb:b<wr.heap.size:=by omega
      have hy0:wr.cell? ⟨b,off,none⟩=some (.int .i64 (R.credits.getD 0 0)):=by rw [HOFR.out.bel.cell (by exact hb)];exact hx0
      have hyk:wr.cell? ⟨b,off+k,none⟩=some (.int .i64 (R.credits.getD k 0)):=by rw [HOFR.out.bel.cell (by exact hb)];exact hxk
      clear hx0 hxk hx
      have d1:(k:Int)<(R.credits.length:Int):=by omega
      have d2:(k:Int)<4:=by omega
      have d3:(0:Int)<(R.credits.length:Int):=by omega
      have hp0:=pick_bd (R.credits.getD 0 0) 6 (by omega)
      have HSU:=Lib.hid (credCells_succ R k)
      have hkk:wr.cell? ⟨wc.heap.size,(((k:Int)+pick (R.credits.getD 0 0) 6) % 6).toNat,none⟩=some (.int .i64 (credK R k)):=by
       rw [cell_of_row _ _ _ _ _ _ HKD.out];exact kinds_get _ (by omega) (by omega)
      have hpk:=pick_bd (R.credits.getD k 0) 900 (by omega)
      have HKV:Hid (credL R k=if(R.credits.getD k 0).tmod 3=0 then pick (R.credits.getD k 0) 900+1 else 0):=Lib.hid rfl
      generalize hz0:R.credits.getD 0 0=z0 at *
      generalize hzk:R.credits.getD k 0=zk at *
      generalize hpv:pick z0 6=pv at *
      have HPV:=Lib.hid hpv
      generalize hkv:credK R k=kv at *
      generalize hlv:credL R k=lv at *
      clear hz0 hzk hkv hlv hpv
      obtain⟨hp1,hp2⟩:=hp0
      have HGE:=Lib.hid (HOF.out.gge)
      have hsz1:wc.heap.size+1≤wr.heap.size:=by omega
      by_cases ht:zk.tmod 3=0
      focus
       rw [if_pos ht]at HKV
       go_wp2_with (first
        |(go_at_call 10;refine(Pick_any _ _ _ (by omega)).mono ?_;rintro e w' ⟨rfl,rfl⟩;try simp only [HPV.out])
        |(at_builtin;refine wpList_append_lies _ rfl _ _ 77 rfl (wc.heap.size+1) 133 i0 _ 2 16 Tryz.underlying77 hi hz0 hz1 hz2 rfl (by decide) _ _ _ rfl ((HROW.out.alloc _).alloc _).own ⟨wr.heap.size+1,0,none⟩ 1 1 [.int .i64 kv,.int .i64 (pick zk 900+1)] rfl rfl ?c1 ?c2 (by decide) ?c3 ?c4 ?c5 (wr.heap.size+2) (by simp) ?_))
       case c1=>exact news_cells _ [.int .i64 kv,.int .i64 (pick zk 900+1)] _ _ (by simp)
       case c2=>intro u hu;simp at hu;rcases hu with rfl|rfl<;>rfl
       case c3=>have:=HCL.out;unfold maxLen;omega
       case c4=>have:=HCL.out;omega
       case c5=>simp;omega
       intro g' cap w1 hown' hgrow hat hlt'
       have R1:=RowG.push (rs2:=[]) (m:=wr.heap.size) ((HROW.out.alloc _).alloc _) (fun x hx=>by cases hx) hsz1 (fun j hj=>(HROW.out.lt j hj).2) rfl rfl rfl hown' hgrow hat (by simp)
       have O1:=((HOFR.out.alloc (.cells #[.int .i64 kv,.int .i64 (pick zk 900+1)] 133)).alloc (.cells #[.int .i64 kv,.int .i64 (pick zk 900+1)] 133)).grown hgrow (fun j hj=>by have:=(HROW.out.lt j hj).1;have:=HGE.out;omega)
      rotate_left
      focus
       rw [if_neg ht]at HKV
       go_wp2_with (first
        |(go_at_call 10;refine(Pick_any _ _ _ (by omega)).mono ?_;rintro e w' ⟨rfl,rfl⟩;try simp only [HPV.out])
        |(at_builtin;refine wpList_append_lies _ rfl _ _ 77 rfl (wc.heap.size+1) 133 i0 _ 2 16 Tryz.underlying77 hi hz0 hz1 hz2 rfl (by decide) _ _ _ rfl ((HROW.out.alloc _).alloc _).own ⟨wr.heap.size+1,0,none⟩ 1 1 [.int .i64 kv,.int .i64 (0)] rfl rfl ?c1 ?c2 (by decide) ?c3 ?c4 ?c5 (wr.heap.size+2) (by simp) ?_))
       case c1=>exact news_cells _ [.int .i64 kv,.int .i64 (0)] _ _ (by simp)
       case c2=>intro u hu;simp at hu;rcases hu with rfl|rfl<;>rfl
       case c3=>have:=HCL.out;unfold maxLen;omega
       case c4=>have:=HCL.out;omega
       case c5=>simp;omega
       intro g' cap w1 hown' hgrow hat hlt'
       have R1:=RowG.push (rs2:=[]) (m:=wr.heap.size) ((HROW.out.alloc _).alloc _) (fun x hx=>by cases hx) hsz1 (fun j hj=>(HROW.out.lt j hj).2) rfl rfl rfl hown' hgrow hat (by simp)
       have O1:=((HOFR.out.alloc (.cells #[.int .i64 kv,.int .i64 (0)] 133)).alloc (.cells #[.int .i64 kv,.int .i64 (0)] 133)).grown hgrow (fun j hj=>by have:=(HROW.out.lt j hj).1;have:=HGE.out;omega)
      rotate_left
      all_goals
       have K1:=(hgrow.block wc.heap.size (by simp;omega) (fun e=>by have:=(HROW.out.lt _ e.symm).1;omega)).trans ((Below.heap_alloc _ _ _ (by simp;omega)).trans ((Below.heap_alloc _ _ _ hl3).trans HKD.out))
       have hoc2:w1.cell? ⟨g,3,none⟩=some (.slice aa (credCells R k).length acap):=cell_of_row _ _ _ _ _ _ O1.out
       have hof2:w1.frozen? ⟨g,3,none⟩=false:=Joins.unfrozen_of_block O1.out 3
       have R2:=Lib.hid (R1.setCell (a:=⟨g,3,none⟩) (show g<wc.heap.size+1 by omega) (.slice (some ⟨g',0,none⟩) ((credCells R k).length+1) cap))
       have O2:=Lib.hid (O1.store 3 (.slice (some ⟨g',0,none⟩) ((credCells R k).length+1) cap))
       have K2:=Lib.hid ((Below.heap_setCell w1 ⟨g,3,none⟩ (.slice (some ⟨g',0,none⟩) ((credCells R k).length+1) cap) wc.heap.size (by show wc.heap.size≠g;omega)).trans K1)
       clear hown' hgrow hat hlt' R1 O1 K1
       go_wp2_with fail
       go_roundw
       case rel=>exact⟨k+1,_,by omega,by omega,by go_num,O2.out,K2.out,by rw [HSU.out,HKV.out];exact R2.out⟩
       case measure=>simp [intOf];omega
    ·go_wp2_with fail
     go_meet
     exact⟨_,wc.heap.size+1,HOFR.out,⟨by omega,by omega⟩,by rw [show nCred R=k by unfold nCred;omega];exact HROW.out⟩
   ·go_wp2_with fail
    go_meet
    exact⟨_,wc.heap.size+1,HOFR.out,⟨by omega,by omega⟩,by rw [show nCred R=k by unfold nCred;omega];exact HROW.out⟩
 obtain⟨vcr,H1,hof,⟨hgH1,hH1⟩,hrow1⟩:=hcut
 have HROW1:=Lib.hid hrow1.upto
 have HOF1:=Lib.hid hof
 have hgl1:=hof.lt
 clear HOF hgl hof hrow1
 go_step
 exact Of_from1 R w h1 h2 h3 h4 ca sa la ia pa ua ccap scap lcap icap pcap ucap hcl hsl hll hil hpl hul HCC HSC HLC HIC HPC HUC g _ wc vcr H1 hgH1 hH1 HROW1 HOF1 hgl1 _ _ _ _ _ _ _ _ _ _ _ _ _ _ _ _ _ _ _ _ _ _ _ _ _ _ _ _ _ _ _ _ _ _ _ _ _ _ _ _ _ _ _ _ _ _ _ _ _ _ _ _ _ _ _ _ _ _ _ _ _ _ _ _ _ _ _ _ _ _ _ _ _ _ _ _ _ _ _ _ _ _ _ _ _ _ _ _ _ _ _ _ _ _ _ _ _ _ _ _ _ _ _ _ _ _ _ _ _ _ _ _ _ _ _ _ _ _ _ _ _ _ _ _ _ _ _ _ _ _ _ _ _ _ _ _ _ _ _ _ _ _ _ _ _ _ _ _ _ _ _ _ _ _ _ _ _ _ _ _ _ _ _ _ _ _ _ _ _ _ _ _ _ _ _ _ _ _ _ _ _ _ _ _ _ _ _ _ _ _ _ _ _ _ _ _ _ _ _ _ _ _ _ _ _ _ _ _ _ _ _ _ _ _ _ _ _ _ _ _ _ _ _ _ _
theorem of_said:Hid OfSaid:=Lib.hid (by
 intro R cs w hR
 obtain⟨h1,h2,h3,h4,vc,vs,vl,vi,vp,vu,he,hC,hS,hL,hI,hP,hU⟩:=hR
 obtain⟨l⟩:=cs
 simp only at he
 subst he
 exact Of_walk R vc vs vl vi vp vu w h1 h2 h3 h4 hC hS hL hI hP hU)
end Go.Proofs.YtfoefpoaomepbaaGreatDoor
