import Derived.Test.YtfoefpoaomepbaaGreatDoorGGr2
set_option linter.all false
set_option maxHeartbeats 16000000
set_option maxRecDepth 1000000
namespace Go.Proofs.YtfoefpoaomepbaaGreatDoor
open Go.Proofs.Tryz Tryz List
open Go.RowKit
theorem bi.dims{E:Ex}(ok:bi E):∀x∈E.args.map Ex.dim,1<=x:=by
 intro x hx;obtain⟨y,hy,rfl⟩:=mem_map.1 hx;have:=kG (Aw (iC ok.args.1 y hy) (ok.lit y hy));omega
def fdF(e:Ex):Ex:=if bB e=true then aN e else e
theorem JX{S:Nat->Prop}{e:Ex}{v:Value}{w:World}(h:ax S w e v)(ht:Tab w)(hb:e.size<=1000000):Calls prog 13 #[exV e v] w (mI w (fdF e)):=by
 obtain⟨va,vc,rfl⟩:=ax.form h;have HR:=yq h;have HT:=yq ht;have HV:=yq (fun W (hW:ax S W e (.slice va e.args.length vc)) (hT:Tab W)=>mG S e _ W (yq hW) (yq zb) (yq hT));clear h ht
 cases hvb:bB e with
 |false=>
  have HF:fdF e=e:=by unfold fdF;rw [hvb];rfl
  rw [HF];rw [hvb]at HV;have HC:=yq (fun W (hW:ax S W e (.slice va e.args.length vc))=>Fx hW (yq hb));clear HF
  go_enter func13,ntmps13
  go_wp2_with (first|(go_at_call 35;refine gv (HV.out _ (yg) (yu)) ?_;intro bs d)|(go_at_call 36;refine(HC.out _ (yg)).mono ?_;(rintro e' w' ⟨v2,rfl,⟨bs2,d2,rfl⟩,HRP⟩;obtain⟨va2,vc2,rfl⟩:=ax.form HRP;have HRP:=yq HRP)))
  go_returns
  exact⟨_,rfl,growsR,((HRP.out.eqw (w':=((w.alloc ((.cells #[.int .i64 e.op,.int .i64 e.num,.int .i64 e.den,.int .i64 e.dim,.string e.name,.slice va e.args.length vc] 27))).alloc ((.cells #[.int .i64 0,.int .i64 0,.int .i64 0,.int .i64 0,.string ⟨#[]⟩,.slice none 0 0] 27))).grow (bs++bs2) d2) zd).lift0 (A':=(w.alloc ((.cells #[.int .i64 e.op,.int .i64 e.num,.int .i64 e.den,.int .i64 e.dim,.string e.name,.slice va e.args.length vc] 27))).alloc (.cells #[.int .i64 (e).op,.int .i64 (e).num,.int .i64 (e).den,.int .i64 (e).dim,.string (e).name,.slice va2 (e).args.length vc2] 27)) zd zd d2).mono fun b hb=>by simp at hb;omega⟩
 |true=>
  have HF:fdF e=aN e:=by unfold fdF;rw [hvb];rfl
  rw [HF];rw [hvb]at HV;have hfm:=kJ hvb;have HC:=yq (fun W (hW:ax S W e (.slice va e.args.length vc)) (hT:Tab W)=>xR hW hT hb hfm);clear HF hfm;generalize aN e=E at *
  go_enter func13,ntmps13
  go_wp2_with (first|(go_at_call 35;refine gv (HV.out _ (yg) (yu)) ?_;intro bs d)|(go_at_call 37;refine(HC.out _ (yg) (yu)).mono ?_;(rintro e' w' ⟨v2,rfl,⟨bs2,d2,rfl⟩,HRP⟩;obtain⟨va2,vc2,rfl⟩:=ax.form HRP;have HRP:=yq HRP)))
  go_returns
  exact⟨_,rfl,growsR,((HRP.out.eqw (w':=((w.alloc ((.cells #[.int .i64 e.op,.int .i64 e.num,.int .i64 e.den,.int .i64 e.dim,.string e.name,.slice va e.args.length vc] 27))).alloc ((.cells #[.int .i64 0,.int .i64 0,.int .i64 0,.int .i64 0,.string ⟨#[]⟩,.slice none 0 0] 27))).grow (bs++bs2) d2) zd).lift0 (A':=(w.alloc ((.cells #[.int .i64 e.op,.int .i64 e.num,.int .i64 e.den,.int .i64 e.dim,.string e.name,.slice va e.args.length vc] 27))).alloc (.cells #[.int .i64 (E).op,.int .i64 (E).num,.int .i64 (E).den,.int .i64 (E).dim,.string (E).name,.slice va2 (E).args.length vc2] 27)) zd zd d2).mono fun b hb=>by simp at hb;omega⟩
theorem fd0:fdF E0=E1:=by kernel_rfl
theorem tl1:(tx1.toList== [54,32,43,32,97,103,101])=true:=by decide+kernel
theorem Uj:bB E1=true:=by decide+kernel
theorem UA{S:Nat->Prop}(a:Option Addr)(cap:Nat)(w:World)(h:ax S w E1 (.slice a 2 cap)):Calls prog 34 #[.agg #[.int .i64 7,.int .i64 0,.int .i64 0,.int .i64 0,.string ByteArray.empty,.slice a 2 cap]] w fun e w'=>e= .returned (.tuple #[.string tx1,.bool true])/\w.Grows w':=by
 have HV:=yq (fun W (hw:w.Grows W)=>iw S E1 (.slice a 2 cap) W (yq (h.grows hw)) (yq zf));rw [Uj]at HV;have HP:=yq (fun W (hw:w.Grows W)=>Ag 7 0 0 0 0 ByteArray.empty a 2 cap tx1 W zf zf (yq fun W2 hW2=>Nf a cap W2 ((h.grows hw).grows hW2)));clear h
 go_enter func34,ntmps34
 go_wp2_with (first|(go_at_call 31;refine gv (HV.out _ growsR) ?_;intro bs d)|(go_at_call 83;refine gv (HP.out _ growsR) ?_;intro bs d))
 exact uH
theorem awake10(w:World)(ht:Tab w):Calls prog 11 #[] w fun e w'=>e= .returned (.bool true)/\w.Grows w':=by
 have HT:=yq ht;have HP:Hid (∀W,Calls prog 33 #[.string ⟨#[50,32,42,32,51,32,43,32,97,103,101]⟩] W (PxQ E0 W)):=yq Q7;clear ht
 go_enter func11,ntmps11
 go_upto_region 2 with (go_at_call 33;refine(HP.out _).mono ?_;rintro e' w' ⟨v,rfl,⟨bs,d,rfl⟩,HRP⟩;obtain⟨va,vc,rfl⟩:=ax.form HRP;have HRP:=yq HRP)
 have HC:=yq (fun W (hW:ax (fun b=>w.heap.size<=b) W E0 (.slice va E0.args.length vc)) (hT:Tab W)=>fd0 ▸ JX hW hT zf)
 go_wp2_with (first|(go_at_call 13;refine(HC.out _ (HRP.out.alloc _) ((HT.out.grow _ _).alloc _)).mono ?_;rintro e' w' ⟨v2,rfl,⟨bs2,d2,rfl⟩,HR2⟩;obtain⟨va2,vc2,rfl⟩:=ax.form HR2;have HR2:=yq HR2)|(go_at_call 34;refine gv (UA va2 vc2 _ HR2.out) ?_;intro bs3 d3))
 go_returns
 exact⟨congrArg (fun b=>Ending.returned (.bool b)) tl1,growsR⟩
theorem DZ(n:Int)(V:dK):(bu n V).cr.length=V.cr.length/\(bu n V).se.length=V.se.length/\(bu n V).le.length=V.le.length/\(bu n V).gr.length=V.gr.length/\(bu n V).re.length=V.re.length:=by
 unfold bu
 repeat' split
 all_goals simp_all
theorem of_lens(R:bW):(ofP R).cr.length<=1000/\(ofP R).se.length<=1000/\(ofP R).le.length<=10/\(ofP R).gr.length<=1000/\(ofP R).re.length<=1000:=by
 have h:(dZ R).cr.length<=1000/\(dZ R).se.length<=1000/\(dZ R).le.length<=10/\(dZ R).gr.length<=1000/\(dZ R).re.length<=1000:=by
  simp only [dZ,length_map,length_range];unfold gy lX eZ vP BX;omega
 unfold ofP
 split
 ·exact h
 ·split
  ·obtain⟨a,b,c,d,e⟩:=DZ (pick (R.twist.tdiv 8) 7) (dZ R);rw [a,b,c,d,e];exact h
  ·exact h
theorem Ar(R:bW):pY (dZ R):=by
 refine⟨fun t ht=>?_,fun t ht=>?_,fun t ht=>?_⟩
 ·obtain⟨i,_,rfl⟩:=mem_map.1 ht;exact⟨by rw [wZ];omega,mQ _ _ _⟩
 ·obtain⟨i,_,rfl⟩:=mem_map.1 ht;exact⟨mQ _ _ _,mQ _ _ _⟩
 ·obtain⟨i,_,rfl⟩:=mem_map.1 ht;exact mQ _ _ _
theorem KA(n:Int){V:dK}(h:pY V):pY (bu n V):=by
 obtain⟨h1,h2,h3⟩:=h;unfold bu
 split
 ·refine⟨h1,fun t ht=>?_,h3⟩;simp only at ht
  split at ht
  ·rename_i a r he
   rcases mem_cons.1 ht with rfl|ht
   ·have:=h2 a zY;exact⟨this.1,this.1⟩
   ·exact h2 t yy
  ·cases ht
 split
 ·refine⟨h1,fun t ht=>?_,h3⟩;simp only at ht
  split at ht
  ·rename_i a b r he
   rcases mem_cons.1 ht with rfl|ht
   ·exact h2 t zY
   ·rcases mem_cons.1 ht with rfl|ht
    ·exact h2 b (by rw [he];simp)
    ·exact h2 t (by rw [he];simp [ht])
  ·exact h2 t ht
 split
 ·refine⟨fun t ht=>?_,h2,h3⟩;simp only at ht
  split at ht
  ·rename_i a b r he
   rcases mem_cons.1 ht with rfl|ht
   ·exact h1 t zY
   ·rcases mem_cons.1 ht with rfl|ht
    ·exact⟨(h1 a (by rw [he];simp)).1,(h1 b (by rw [he];simp)).2⟩
    ·exact h1 t (by rw [he];simp [ht])
  ·exact h1 t ht
 split
 ·refine⟨fun t ht=>?_,h2,h3⟩;simp only at ht
  split at ht
  ·rename_i a r he
   rcases mem_cons.1 ht with rfl|ht
   ·refine⟨(h1 a zY).1, ?_⟩;show qA.size<=1000000;simp [qA,Ex.size,Ex.sizes]
   ·exact h1 t yy
  ·cases ht
 split
 ·exact⟨h1,h2,h3⟩
 split
 ·exact⟨h1,h2,h3⟩
 ·refine⟨fun t ht=>?_,h2,h3⟩;simp only at ht
  split at ht
  ·rename_i a r he
   rcases mem_cons.1 ht with rfl|ht
   ·refine⟨?_,(h1 a zY).2⟩;show Nn.size<=_;decide
   ·exact h1 t yy
  ·cases ht
theorem of_sm(R:bW):pY (ofP R):=by
 unfold ofP
 split
 ·exact Ar R
 ·split
  ·exact KA _ (Ar R)
  ·exact Ar R
theorem Nv(R:bW)(w:World)(h1:I64 R.frm)(h2:I64 R.mode)(h3:I64 R.unit)(h4:I64 R.twist)(ca:Option Addr)(sa:Option Addr)(la:Option Addr)(ia:Option Addr)(pa:Option Addr)(ua:Option Addr)(ccap:Nat)(scap:Nat)(lcap:Nat)(icap:Nat)(pcap:Nat)(ucap:Nat)(hcl:R.credits.length<=140737488355328)(hsl:R.series.length<=140737488355328)(hll:R.lets.length<=140737488355328)(hil:R.ifs.length<=140737488355328)(hpl:R.pays.length<=140737488355328)(hul:R.cuts.length<=140737488355328)(HCC:Hid (R.credits.length=0\/∃b off,ca=some ⟨b,off,none⟩/\b<w.heap.size/\∀(i:Nat),i<R.credits.length->w.cell? ⟨b,off+i,none⟩=some (.int .i64 (R.credits.getD i 0))))(HSC:Hid (R.series.length=0\/∃b off,sa=some ⟨b,off,none⟩/\b<w.heap.size/\∀(i:Nat),i<R.series.length->w.cell? ⟨b,off+i,none⟩=some (.int .i64 (R.series.getD i 0))))(HLC:Hid (R.lets.length=0\/∃b off,la=some ⟨b,off,none⟩/\b<w.heap.size/\∀(i:Nat),i<R.lets.length->∃u,w.cell? ⟨b,off+i,none⟩=some u/\aD w u (R.lets.getD i [])))(HIC:Hid (R.ifs.length=0\/∃b off,ia=some ⟨b,off,none⟩/\b<w.heap.size/\∀(i:Nat),i<R.ifs.length->∃u,w.cell? ⟨b,off+i,none⟩=some u/\aD w u (R.ifs.getD i [])))(HPC:Hid (R.pays.length=0\/∃b off,pa=some ⟨b,off,none⟩/\b<w.heap.size/\∀(i:Nat),i<R.pays.length->∃u,w.cell? ⟨b,off+i,none⟩=some u/\aD w u (R.pays.getD i [])))(HUC:Hid (R.cuts.length=0\/∃b off,ua=some ⟨b,off,none⟩/\b<w.heap.size/\∀(i:Nat),i<R.cuts.length->∃u,w.cell? ⟨b,off+i,none⟩=some u/\aD w u (R.cuts.getD i [])))(g:Nat)(wk:Nat)(wc:World)(vcr:Value)(H1:Nat)(hgH1:g<H1)(vse:Value)(H2:Nat)(hgH2:g<H2)(hH12:H1<=H2)(vle:Value)(H3:Nat)(ql:List (ByteArray × (Ex × Value)))(hgH3:g<H3)(hH23:H2<=H3)(eva:Option Addr)(evc:Nat)(hH3:H3<=wc.heap.size)(HROW1:Hid (aY 133 2 H1 (· <H2) wc vcr (bf R (gy R)) []))(HROW2:Hid (aY 135 3 H2 (· <H3) wc vse (bH R (lX R)) []))(HROW3:Hid (aY 63 7 H3 (· <wc.heap.size) wc vle (fe ql) (ql.map (·.2))))(HENV:Hid (bI 106 2 H3 wc (.slice eva (ji (eF R (eZ R))).length evc) (ji (eF R (eZ R))) []))(HQL:Hid (qW R (eZ R) ql))(HOF1:Hid (dx w (dS R (.slice ca R.credits.length ccap) (.slice sa R.series.length scap) (.slice la R.lets.length lcap) (.slice ia R.ifs.length icap) (.slice pa R.pays.length pcap) (.slice ua R.cuts.length ucap)) g #[.int .i64 (pick R.frm 73049),.int .i64 (pick R.mode 4+1),.int .i64 (aS (pick R.unit 5)),vcr,vse,vle,.slice none 0 0,.slice none 0 0] wc))(hgl1:g<wc.heap.size)(u5 u6 u7 u8 u9 u11 u12 u17 u18 u19 u20 u21 u22 u23 u24 u25 u26 u27 u28 u29 u30 u31 u32 u33 u34 u35 u36 u37 u38 u39 u40 u41 u42 u43 u44 u45 u46 u47 u48 u49 u50 u51 u52 u53 u54 u55 u56 u57 u58 u59 u60 u61 u62 u63 u64 u65 u66 u67 u68 u69 u70 u71 u72 u73 u74 u75 u76 u77 u78 u79 u80 u81 u82 u83 u84 u85 u86 u87 u88 u89 u90 u91 u92 u93 u94 u95 u96 u97 u98 u99 u100 u101 u102 u103 u104 u105 u106 u107 u108 u109 u110 u111 u112 u113 u114 u115 u116 u117 u118 u119 u120 u121 u122 u123 u124 u125 u126 u127 u128 u129 u130 u131 u132 u133 u134 u135 u136 u137 u138 u139 u140 u141 u142 u143 u144 u145 u146 u147 u148 u149 u150 u151 u152 u153 u154 u155 u156 u157 u158 u159 u160 u161 u162 u163 u164 u165 u166 u167 u168 u169 u170 u171 u172 u173 u174 u175 u176 u177 u178 u179 u180 u181 u182 u183 u184 u185 u186 u187 u188 u189 u190 u191 u192 u193 u194 u195 u196 u197 u198 u199 u200 u201 u202 u203 u204 u205 u206 u207 u208 u209 u210 u211 u212 u213 u214 u215 u216 u217 u218 u219 u220 u221 u222 u223 u224 u225 u226 u227 u228 u229 u230 u231 u232 u233 u234 u235 u236 u237 u238 u239:Value) :
 Code.wp prog (tlC (tlC (tlC (tlC (tlC (tlC (tlC (f26.body.getD .skip)))))))) (bodyPost prog f26 (OfPost R w)) {tmps:=#[(.agg (dS R (.slice ca R.credits.length ccap) (.slice sa R.series.length scap) (.slice la R.lets.length lcap) (.slice ia R.ifs.length icap) (.slice pa R.pays.length pcap) (.slice ua R.cuts.length ucap))),.pointer (some ⟨w.heap.size,0,none⟩),.pointer (some ⟨w.heap.size+1,0,none⟩),.pointer (some ⟨g,0,none⟩),.slice (some ⟨wk,0,none⟩) 6 6,u5,u6,u7,u8,u9,.slice eva (ji (eF R (eZ R))).length evc,u11,u12,undef,undef,undef,undef,u17,u18,u19,u20,u21,u22,u23,u24,u25,u26,u27,u28,u29,u30,u31,u32,u33,u34,u35,u36,u37,u38,u39,u40,u41,u42,u43,u44,u45,u46,u47,u48,u49,u50,u51,u52,u53,u54,u55,u56,u57,u58,u59,u60,u61,u62,u63,u64,u65,u66,u67,u68,u69,u70,u71,u72,u73,u74,u75,u76,u77,u78,u79,u80,u81,u82,u83,u84,u85,u86,u87,u88,u89,u90,u91,u92,u93,u94,u95,u96,u97,u98,u99,u100,u101,u102,u103,u104,u105,u106,u107,u108,u109,u110,u111,u112,u113,u114,u115,u116,u117,u118,u119,u120,u121,u122,u123,u124,u125,u126,u127,u128,u129,u130,u131,u132,u133,u134,u135,u136,u137,u138,u139,u140,u141,u142,u143,u144,u145,u146,u147,u148,u149,u150,u151,u152,u153,u154,u155,u156,u157,u158,u159,u160,u161,u162,u163,u164,u165,u166,u167,u168,u169,u170,u171,u172,u173,u174,u175,u176,u177,u178,u179,u180,u181,u182,u183,u184,u185,u186,u187,u188,u189,u190,u191,u192,u193,u194,u195,u196,u197,u198,u199,u200,u201,u202,u203,u204,u205,u206,u207,u208,u209,u210,u211,u212,u213,u214,u215,u216,u217,u218,u219,u220,u221,u222,u223,u224,u225,u226,u227,u228,u229,u230,u231,u232,u233,u234,u235,u236,u237,u238,u239],defers:=[]} wc:=by
 obtain⟨i0,hi,hz0,hz1,hz2⟩:=info_parts l9;obtain⟨i1,hj,hj0,hj1,hj2⟩:=info_parts pF;obtain⟨i2,hq,hq0,hq1,hq2⟩:=info_parts pE;obtain⟨i3,hr,hr0,hr1,hr2⟩:=info_parts ma;obtain⟨i4,ht,ht0,ht1,ht2⟩:=info_parts ky;obtain⟨i5,hv,hv0,hv1,hv2⟩:=info_parts je
 conv=>arg 2;whnf
 unfold dS
 go_upto_block 6 with fail
 go_cut []from 17 (fun wx=>∃vgr H4 q,dx w (dS R (.slice ca R.credits.length ccap) (.slice sa R.series.length scap) (.slice la R.lets.length lcap) (.slice ia R.ifs.length icap) (.slice pa R.pays.length pcap) (.slice ua R.cuts.length ucap)) g #[.int .i64 (pick R.frm 73049),.int .i64 (pick R.mode 4+1),.int .i64 (aS (pick R.unit 5)),vcr,vse,vle,vgr,.slice none 0 0] wx/\aY 133 2 H1 (· <H2) wx vcr (bf R (gy R)) []/\aY 135 3 H2 (· <H3) wx vse (bH R (lX R)) []/\(aY 63 7 H3 (· <H4) wx vle (fe ql) (ql.map (·.2))/\bI 106 2 H3 wx (.slice eva (ji (eF R (eZ R))).length evc) (ji (eF R (eZ R))) [])/\(g<H4/\H3<=H4/\H4<=wx.heap.size)/\bI 86 13 H4 wx vgr (grL q) (grR q)/\GrQ R (vP R) q)
 case first=>
  go_wp2_with fail
  go_loopw [13] (fun v13 wr=>∃k:Nat,∃vgr:Value,∃q:List GrT,k<=R.pays.length/\k<=3/\v13= .int .i64 k/\dx w (dS R (.slice ca R.credits.length ccap) (.slice sa R.series.length scap) (.slice la R.lets.length lcap) (.slice ia R.ifs.length icap) (.slice pa R.pays.length pcap) (.slice ua R.cuts.length ucap)) g #[.int .i64 (pick R.frm 73049),.int .i64 (pick R.mode 4+1),.int .i64 (aS (pick R.unit 5)),vcr,vse,vle,vgr,.slice none 0 0] wr/\Next g wc wr/\bI 86 13 wc.heap.size wr vgr (grL q) (grR q)/\GrQ R k q) (fun v13 _=>3-(intOf v13).toNat)
  case atStart=>exact⟨0,_,[],by omega,by omega,rfl,HOF1.out,.refl _ _,.nil _ _ _ _,rfl⟩
  case round=>
   obtain⟨k,vgr,q,hk,hk3,rfl,hof,hnx,hrow,hgq⟩:=hrel;have hbx:wr.cell? ⟨w.heap.size,7,none⟩=some (.slice pa R.pays.length pcap):=cell_of_row _ _ _ _ _ _ hof.box;have hbx2:wr.cell? ⟨w.heap.size,6,none⟩=some (.slice ia R.ifs.length icap):=cell_of_row _ _ _ _ _ _ hof.box;have hoc:wr.cell? ⟨g,6,none⟩=some vgr:=cell_of_row _ _ _ _ _ _ hof.out;have hl0:=hof.lt0;have hl1:w.heap.size<wr.heap.size:=by omega
   have hl2:=hof.lt;have hl3:=hnx.size;have HNX:=yq hnx;have HOFR:=yq hof;have HROW:=yq hrow;have HQ:=yq hgq;have HLL:=yq (show(grL q).length=k by unfold grL;rw [length_map];exact hgq.length);obtain⟨aa,acap,rfl⟩:=hrow.form;clear hof hnx hrow hl0 hgq;by_cases hlt:k<R.pays.length
   ·by_cases hlt3:k<3
    ·rcases HPC.out with h0|⟨b,off,rfl,hb,hx⟩
     ·omega
     ·obtain⟨u,hxk,hxi⟩:=hx k hlt;have hkb:b<wr.heap.size:=by omega
      have hyk:wr.cell? ⟨b,off+k,none⟩=some u:=by rw [HOFR.out.bel.cell zU];exact hxk
      have HXI:=yq hxi;obtain⟨za,zcap,rfl⟩:=aD.form hxi;clear hxk hx hxi;have d1:(k:Int)<(R.pays.length:Int):=by omega
      have d2:(k:Int)<3:=by omega
      have HPE:Hid (jW (R.pays.getD k []) (eF R (eZ R)) 4=au R k):=yq rfl;have HIE:Hid (jW (R.ifs.getD k []) (eF R (eZ R)) 1=ifE R k):=yq rfl;generalize hzk:R.pays.getD k []=zk at *;clear hzk;have hzl:zk.length<=140737488355328:=HXI.out.1;have hrowb:=HROW.out.lt;have HRB:=yq hrowb;clear hrowb;by_cases hli:k<R.ifs.length
      ·rcases HIC.out with h0|⟨b2,off2,rfl,hb2,hx2⟩
       ·omega
       ·obtain⟨u2,hxk2,hxi2⟩:=hx2 k hli;have hkb2:b2<wr.heap.size:=by omega
        have hyk2:wr.cell? ⟨b2,off2+k,none⟩=some u2:=by rw [HOFR.out.bel.cell (by exact hb2)];exact hxk2
        have HXI2:=yq hxi2;obtain⟨za2,zcap2,rfl⟩:=aD.form hxi2;clear hxk2 hx2 hxi2;have d3:(k:Int)<(R.ifs.length:Int):=by omega
        generalize hzi:R.ifs.getD k []=zi at *;clear hzi
        go_wp2_with fail
        refine(iV _ _ zk (eF R (eZ R)) 4 (au R k) wr (aF.of_ints HXI.out HOFR.out.bel) (aU.of_row (HENV.out.next HNX.out hgH3) zX (iU R _)) zb zb HPE).mono ?_;rintro e' w' ⟨v1,rfl,⟨bs1,dr1,rfl⟩,hrep⟩;have H1:=yq hrep;obtain⟨v1a,v1c,hv1⟩:=hrep.form;subst hv1;clear hrep
        go_wp2_with fail
        refine(iV _ _ zi (eF R (eZ R)) 1 (ifE R k) ((wr.grow bs1 dr1).alloc ((.cells #[.int .i64 ((k:Int)+1),.int .i64 0,.int .i64 0,.int .i64 0,.int .i64 0,.string ⟨#[]⟩,.slice none 0 0,.int .i64 (au R k).op,.int .i64 (au R k).num,.int .i64 (au R k).den,.int .i64 (au R k).dim,.string (au R k).name,.slice v1a (au R k).args.length v1c] 86))) (aF.of_ints HXI2.out ((HOFR.out.grow bs1 dr1).alloc ((.cells #[.int .i64 ((k:Int)+1),.int .i64 0,.int .i64 0,.int .i64 0,.int .i64 0,.string ⟨#[]⟩,.slice none 0 0,.int .i64 (au R k).op,.int .i64 (au R k).num,.int .i64 (au R k).den,.int .i64 (au R k).dim,.string (au R k).name,.slice v1a (au R k).args.length v1c] 86))).bel) (aU.of_row (((HENV.out.next HNX.out hgH3).grow bs1 dr1).alloc ((.cells #[.int .i64 ((k:Int)+1),.int .i64 0,.int .i64 0,.int .i64 0,.int .i64 0,.string ⟨#[]⟩,.slice none 0 0,.int .i64 (au R k).op,.int .i64 (au R k).num,.int .i64 (au R k).den,.int .i64 (au R k).dim,.string (au R k).name,.slice v1a (au R k).args.length v1c] 86))) zX (iU R _)) zb zb HIE).mono ?_;rintro e' w' ⟨v2,rfl,⟨bs2,dr2,rfl⟩,hrep⟩;have H2:=yq hrep;obtain⟨v2a,v2c,hv2⟩:=hrep.form;subst hv2;clear hrep
        go_wp2_with (at_builtin;refine wpList_append_lies _ rfl _ _ 79 rfl wc.heap.size 86 i4 _ 13 152 underlying79 ht ht0 ht1 ht2 rfl zf _ _ _ rfl ((((HROW.out.grow bs1 dr1).alloc _).grow bs2 dr2).alloc _).own ⟨wr.heap.size+bs1.size+1+bs2.size,0,none⟩ 1 1 [.int .i64 ((k:Int)+1),.int .i64 (ifE R k).op,.int .i64 (ifE R k).num,.int .i64 (ifE R k).den,.int .i64 (ifE R k).dim,.string (ifE R k).name,.slice v2a (ifE R k).args.length v2c,.int .i64 (au R k).op,.int .i64 (au R k).num,.int .i64 (au R k).den,.int .i64 (au R k).dim,.string (au R k).name,.slice v1a (au R k).args.length v1c] rfl rfl ?f1 ?f2 zf ?f3 ?f4 ?f5 (wr.heap.size+bs1.size+1+bs2.size+1) zd ?_)
        case f1=>exact news_cells _ [.int .i64 ((k:Int)+1),.int .i64 (ifE R k).op,.int .i64 (ifE R k).num,.int .i64 (ifE R k).den,.int .i64 (ifE R k).dim,.string (ifE R k).name,.slice v2a (ifE R k).args.length v2c,.int .i64 (au R k).op,.int .i64 (au R k).num,.int .i64 (au R k).den,.int .i64 (au R k).dim,.string (au R k).name,.slice v1a (au R k).args.length v1c] _ _ zd
        case f2=>exact Mx _ _ _ _ _ rfl rfl
        case f3=>have:=HLL.out;unfold maxLen;omega
        case f4=>have:=HLL.out;omega
        case f5=>simp;omega
        intro g' cap w1 hown' hgrow hat hlt';have R1:=bI.push (rs2:=[(ifE R k,.slice v2a (ifE R k).args.length v2c),(au R k,.slice v1a (au R k).args.length v1c)]) (m:=wr.heap.size) ((((HROW.out.grow bs1 dr1).alloc _).grow bs2 dr2).alloc _) (Gb (((H2.out.lift0 (A':=(wr.grow bs1 dr1).alloc _) (Nat.le_refl _) zd dr2).mono (fun b hb=>by simp at hb;omega)).alloc _) (((H1.out.alloc _).grow bs2 dr2).alloc _)) hl3 (fun j hj=>(HRB.out j hj).2) rfl rfl rfl hown' hgrow hat zd;have O1:=((((HOFR.out.grow bs1 dr1).alloc _).grow bs2 dr2).alloc _).grown hgrow (fun j hj=>by have:=(HRB.out j hj).1;have:=HOFR.out.gge;omega);have N1:=((((HNX.out.grow bs1 dr1).alloc _).grow bs2 dr2).alloc _).grown hgrow (fun j hj=>(HRB.out j hj).1);have hoc2:w1.cell? ⟨g,6,none⟩=some (.slice aa (grL q).length acap):=cell_of_row _ _ _ _ _ _ O1.out;have hof2:w1.frozen? ⟨g,6,none⟩=false:=Joins.unfrozen_of_block O1.out 6;have HR2:=yq (R1.setCell (a:=⟨g,6,none⟩) hgl1 (.slice (some ⟨g',0,none⟩) ((grL q).length+1) cap));have HO2:=yq (O1.store 6 (.slice (some ⟨g',0,none⟩) ((grL q).length+1) cap));have HN2:=yq (N1.store 6 (.slice (some ⟨g',0,none⟩) ((grL q).length+1) cap));clear hown' hgrow hat hlt' R1 O1 N1
        go_wp2_with fail
        go_roundw
        case rel=>exact⟨k+1,_,q++[((k:Int)+1,(ifE R k,.slice v2a (ifE R k).args.length v2c),(au R k,.slice v1a (au R k).args.length v1c))],by omega,by omega,by go_num,HO2.out,HN2.out,by rw [CF,CE];exact HR2.out,HQ.out.push _ _⟩
        case measure=>simp [intOf];omega
      ·have d3:¬(k:Int)<(R.ifs.length:Int):=by omega
       have HIE2:Hid (jW [] (eF R (eZ R)) 1=ifE R k):=yq (by rw [<-HIE.out,getD_eq_getElem?_getD,getElem?_eq_none zb];rfl)
       go_wp2_with fail
       refine(iV _ _ zk (eF R (eZ R)) 4 (au R k) wr (aF.of_ints HXI.out HOFR.out.bel) (aU.of_row (HENV.out.next HNX.out hgH3) zX (iU R _)) zb zb HPE).mono ?_;rintro e' w' ⟨v1,rfl,⟨bs1,dr1,rfl⟩,hrep⟩;have H1:=yq hrep;obtain⟨v1a,v1c,hv1⟩:=hrep.form;subst hv1;clear hrep
       go_wp2_with fail
       refine(iV _ _ [] (eF R (eZ R)) 1 (ifE R k) ((wr.grow bs1 dr1).alloc ((.cells #[.int .i64 ((k:Int)+1),.int .i64 0,.int .i64 0,.int .i64 0,.int .i64 0,.string ⟨#[]⟩,.slice none 0 0,.int .i64 (au R k).op,.int .i64 (au R k).num,.int .i64 (au R k).den,.int .i64 (au R k).dim,.string (au R k).name,.slice v1a (au R k).args.length v1c] 86))) (aF.nil _ _) (aU.of_row (((HENV.out.next HNX.out hgH3).grow bs1 dr1).alloc ((.cells #[.int .i64 ((k:Int)+1),.int .i64 0,.int .i64 0,.int .i64 0,.int .i64 0,.string ⟨#[]⟩,.slice none 0 0,.int .i64 (au R k).op,.int .i64 (au R k).num,.int .i64 (au R k).den,.int .i64 (au R k).dim,.string (au R k).name,.slice v1a (au R k).args.length v1c] 86))) zX (iU R _)) zb zb HIE2).mono ?_;rintro e' w' ⟨v2,rfl,⟨bs2,dr2,rfl⟩,hrep⟩;have H2:=yq hrep;obtain⟨v2a,v2c,hv2⟩:=hrep.form;subst hv2;clear hrep
       go_wp2_with (at_builtin;refine wpList_append_lies _ rfl _ _ 79 rfl wc.heap.size 86 i4 _ 13 152 underlying79 ht ht0 ht1 ht2 rfl zf _ _ _ rfl ((((HROW.out.grow bs1 dr1).alloc _).grow bs2 dr2).alloc _).own ⟨wr.heap.size+bs1.size+1+bs2.size,0,none⟩ 1 1 [.int .i64 ((k:Int)+1),.int .i64 (ifE R k).op,.int .i64 (ifE R k).num,.int .i64 (ifE R k).den,.int .i64 (ifE R k).dim,.string (ifE R k).name,.slice v2a (ifE R k).args.length v2c,.int .i64 (au R k).op,.int .i64 (au R k).num,.int .i64 (au R k).den,.int .i64 (au R k).dim,.string (au R k).name,.slice v1a (au R k).args.length v1c] rfl rfl ?f1 ?f2 zf ?f3 ?f4 ?f5 (wr.heap.size+bs1.size+1+bs2.size+1) zd ?_)
       case f1=>exact news_cells _ [.int .i64 ((k:Int)+1),.int .i64 (ifE R k).op,.int .i64 (ifE R k).num,.int .i64 (ifE R k).den,.int .i64 (ifE R k).dim,.string (ifE R k).name,.slice v2a (ifE R k).args.length v2c,.int .i64 (au R k).op,.int .i64 (au R k).num,.int .i64 (au R k).den,.int .i64 (au R k).dim,.string (au R k).name,.slice v1a (au R k).args.length v1c] _ _ zd
       case f2=>exact Mx _ _ _ _ _ rfl rfl
       case f3=>have:=HLL.out;unfold maxLen;omega
       case f4=>have:=HLL.out;omega
       case f5=>simp;omega
       intro g' cap w1 hown' hgrow hat hlt';have R1:=bI.push (rs2:=[(ifE R k,.slice v2a (ifE R k).args.length v2c),(au R k,.slice v1a (au R k).args.length v1c)]) (m:=wr.heap.size) ((((HROW.out.grow bs1 dr1).alloc _).grow bs2 dr2).alloc _) (Gb (((H2.out.lift0 (A':=(wr.grow bs1 dr1).alloc _) (Nat.le_refl _) zd dr2).mono (fun b hb=>by simp at hb;omega)).alloc _) (((H1.out.alloc _).grow bs2 dr2).alloc _)) hl3 (fun j hj=>(HRB.out j hj).2) rfl rfl rfl hown' hgrow hat zd;have O1:=((((HOFR.out.grow bs1 dr1).alloc _).grow bs2 dr2).alloc _).grown hgrow (fun j hj=>by have:=(HRB.out j hj).1;have:=HOFR.out.gge;omega);have N1:=((((HNX.out.grow bs1 dr1).alloc _).grow bs2 dr2).alloc _).grown hgrow (fun j hj=>(HRB.out j hj).1);have hoc2:w1.cell? ⟨g,6,none⟩=some (.slice aa (grL q).length acap):=cell_of_row _ _ _ _ _ _ O1.out;have hof2:w1.frozen? ⟨g,6,none⟩=false:=Joins.unfrozen_of_block O1.out 6;have HR2:=yq (R1.setCell (a:=⟨g,6,none⟩) hgl1 (.slice (some ⟨g',0,none⟩) ((grL q).length+1) cap));have HO2:=yq (O1.store 6 (.slice (some ⟨g',0,none⟩) ((grL q).length+1) cap));have HN2:=yq (N1.store 6 (.slice (some ⟨g',0,none⟩) ((grL q).length+1) cap));clear hown' hgrow hat hlt' R1 O1 N1
       go_wp2_with fail
       go_roundw
       case rel=>exact⟨k+1,_,q++[((k:Int)+1,(ifE R k,.slice v2a (ifE R k).args.length v2c),(au R k,.slice v1a (au R k).args.length v1c))],by omega,by omega,by go_num,HO2.out,HN2.out,by rw [CF,CE];exact HR2.out,HQ.out.push _ _⟩
       case measure=>simp [intOf];omega
    ·go_wp2_with fail
     go_meet
     exact⟨_,wc.heap.size,q,HOFR.out,HROW1.out.next HNX.out hgH1,HROW2.out.next HNX.out hgH2,⟨HROW3.out.next HNX.out hgH3,HENV.out.next HNX.out hgH3⟩,⟨hgl1,hH3,HNX.out.size⟩,by rw [show vP R=k by unfold vP;omega];exact⟨HROW.out,HQ.out⟩⟩
   ·go_wp2_with fail
    go_meet
    exact⟨_,wc.heap.size,q,HOFR.out,HROW1.out.next HNX.out hgH1,HROW2.out.next HNX.out hgH2,⟨HROW3.out.next HNX.out hgH3,HENV.out.next HNX.out hgH3⟩,⟨hgl1,hH3,HNX.out.size⟩,by rw [show vP R=k by unfold vP;omega];exact⟨HROW.out,HQ.out⟩⟩
 obtain⟨vgr,H4,qg,hof,hrow1,hrow2,⟨hrow3,henv⟩,⟨hgH4,hH34,hH4⟩,hrow4,hqg⟩:=hcut;clear HROW1 HROW2 HROW3 HENV HOF1 hgl1 hH3;have HROW1:=yq hrow1;have HROW2:=yq hrow2;have HROW3:=yq hrow3;have HENV:=yq henv;have HROW4:=yq hrow4.upto;have HQG:=yq hqg;have HOF1:=yq hof;have hgl1:=hof.lt;clear hof hrow1 hrow2 hrow3 hrow4 henv hqg
 go_step
 apply Nu R w h1 h2 h3 h4 ca sa la ia pa ua ccap scap lcap icap pcap ucap hcl hsl hll hil hpl hul HCC HSC HLC HIC HPC HUC g _ wc vcr H1 hgH1 vse H2 hgH2 hH12 vle H3 ql hgH3 hH23 eva evc vgr H4 qg hgH4 hH34 hH4 HROW1 HROW2 HROW3 HENV HROW4 HQL HQG HOF1 hgl1
theorem Nw(R:bW)(w:World)(h1:I64 R.frm)(h2:I64 R.mode)(h3:I64 R.unit)(h4:I64 R.twist)(ca:Option Addr)(sa:Option Addr)(la:Option Addr)(ia:Option Addr)(pa:Option Addr)(ua:Option Addr)(ccap:Nat)(scap:Nat)(lcap:Nat)(icap:Nat)(pcap:Nat)(ucap:Nat)(hcl:R.credits.length<=140737488355328)(hsl:R.series.length<=140737488355328)(hll:R.lets.length<=140737488355328)(hil:R.ifs.length<=140737488355328)(hpl:R.pays.length<=140737488355328)(hul:R.cuts.length<=140737488355328)(HCC:Hid (R.credits.length=0\/∃b off,ca=some ⟨b,off,none⟩/\b<w.heap.size/\∀(i:Nat),i<R.credits.length->w.cell? ⟨b,off+i,none⟩=some (.int .i64 (R.credits.getD i 0))))(HSC:Hid (R.series.length=0\/∃b off,sa=some ⟨b,off,none⟩/\b<w.heap.size/\∀(i:Nat),i<R.series.length->w.cell? ⟨b,off+i,none⟩=some (.int .i64 (R.series.getD i 0))))(HLC:Hid (R.lets.length=0\/∃b off,la=some ⟨b,off,none⟩/\b<w.heap.size/\∀(i:Nat),i<R.lets.length->∃u,w.cell? ⟨b,off+i,none⟩=some u/\aD w u (R.lets.getD i [])))(HIC:Hid (R.ifs.length=0\/∃b off,ia=some ⟨b,off,none⟩/\b<w.heap.size/\∀(i:Nat),i<R.ifs.length->∃u,w.cell? ⟨b,off+i,none⟩=some u/\aD w u (R.ifs.getD i [])))(HPC:Hid (R.pays.length=0\/∃b off,pa=some ⟨b,off,none⟩/\b<w.heap.size/\∀(i:Nat),i<R.pays.length->∃u,w.cell? ⟨b,off+i,none⟩=some u/\aD w u (R.pays.getD i [])))(HUC:Hid (R.cuts.length=0\/∃b off,ua=some ⟨b,off,none⟩/\b<w.heap.size/\∀(i:Nat),i<R.cuts.length->∃u,w.cell? ⟨b,off+i,none⟩=some u/\aD w u (R.cuts.getD i [])))(g:Nat)(wk:Nat)(wc:World)(vcr:Value)(H1:Nat)(hgH1:g<H1)(vse:Value)(H2:Nat)(hgH2:g<H2)(hH12:H1<=H2)(hH2:H2<=wc.heap.size)(HROW1:Hid (aY 133 2 H1 (· <H2) wc vcr (bf R (gy R)) []))(HROW2:Hid (aY 135 3 H2 (· <wc.heap.size) wc vse (bH R (lX R)) []))(HOF1:Hid (dx w (dS R (.slice ca R.credits.length ccap) (.slice sa R.series.length scap) (.slice la R.lets.length lcap) (.slice ia R.ifs.length icap) (.slice pa R.pays.length pcap) (.slice ua R.cuts.length ucap)) g #[.int .i64 (pick R.frm 73049),.int .i64 (pick R.mode 4+1),.int .i64 (aS (pick R.unit 5)),vcr,vse,.slice none 0 0,.slice none 0 0,.slice none 0 0] wc))(hgl1:g<wc.heap.size)(u5 u6 u7 u8 u9 u17 u18 u19 u20 u21 u22 u23 u24 u25 u26 u27 u28 u29 u30 u31 u32 u33 u34 u35 u36 u37 u38 u39 u40 u41 u42 u43 u44 u45 u46 u47 u48 u49 u50 u51 u52 u53 u54 u55 u56 u57 u58 u59 u60 u61 u62 u63 u64 u65 u66 u67 u68 u69 u70 u71 u72 u73 u74 u75 u76 u77 u78 u79 u80 u81 u82 u83 u84 u85 u86 u87 u88 u89 u90 u91 u92 u93 u94 u95 u96 u97 u98 u99 u100 u101 u102 u103 u104 u105 u106 u107 u108 u109 u110 u111 u112 u113 u114 u115 u116 u117 u118 u119 u120 u121 u122 u123 u124 u125 u126 u127 u128 u129 u130 u131 u132 u133 u134 u135 u136 u137 u138 u139 u140 u141 u142 u143 u144 u145 u146 u147 u148 u149 u150 u151 u152 u153 u154 u155 u156 u157 u158 u159 u160 u161 u162 u163 u164 u165 u166 u167 u168 u169 u170 u171 u172 u173 u174 u175 u176 u177 u178 u179 u180 u181 u182 u183 u184 u185 u186 u187 u188 u189 u190 u191 u192 u193 u194 u195 u196 u197 u198 u199 u200 u201 u202 u203 u204 u205 u206 u207 u208 u209 u210 u211 u212 u213 u214 u215 u216 u217 u218 u219 u220 u221 u222 u223 u224 u225 u226 u227 u228 u229 u230 u231 u232 u233 u234 u235 u236 u237 u238 u239:Value) :
 Code.wp prog (tlC (tlC (tlC (tlC (tlC (f26.body.getD .skip)))))) (bodyPost prog f26 (OfPost R w)) {tmps:=#[(.agg (dS R (.slice ca R.credits.length ccap) (.slice sa R.series.length scap) (.slice la R.lets.length lcap) (.slice ia R.ifs.length icap) (.slice pa R.pays.length pcap) (.slice ua R.cuts.length ucap))),.pointer (some ⟨w.heap.size,0,none⟩),.pointer (some ⟨w.heap.size+1,0,none⟩),.pointer (some ⟨g,0,none⟩),.slice (some ⟨wk,0,none⟩) 6 6,u5,u6,u7,u8,u9,undef,undef,undef,undef,undef,undef,undef,u17,u18,u19,u20,u21,u22,u23,u24,u25,u26,u27,u28,u29,u30,u31,u32,u33,u34,u35,u36,u37,u38,u39,u40,u41,u42,u43,u44,u45,u46,u47,u48,u49,u50,u51,u52,u53,u54,u55,u56,u57,u58,u59,u60,u61,u62,u63,u64,u65,u66,u67,u68,u69,u70,u71,u72,u73,u74,u75,u76,u77,u78,u79,u80,u81,u82,u83,u84,u85,u86,u87,u88,u89,u90,u91,u92,u93,u94,u95,u96,u97,u98,u99,u100,u101,u102,u103,u104,u105,u106,u107,u108,u109,u110,u111,u112,u113,u114,u115,u116,u117,u118,u119,u120,u121,u122,u123,u124,u125,u126,u127,u128,u129,u130,u131,u132,u133,u134,u135,u136,u137,u138,u139,u140,u141,u142,u143,u144,u145,u146,u147,u148,u149,u150,u151,u152,u153,u154,u155,u156,u157,u158,u159,u160,u161,u162,u163,u164,u165,u166,u167,u168,u169,u170,u171,u172,u173,u174,u175,u176,u177,u178,u179,u180,u181,u182,u183,u184,u185,u186,u187,u188,u189,u190,u191,u192,u193,u194,u195,u196,u197,u198,u199,u200,u201,u202,u203,u204,u205,u206,u207,u208,u209,u210,u211,u212,u213,u214,u215,u216,u217,u218,u219,u220,u221,u222,u223,u224,u225,u226,u227,u228,u229,u230,u231,u232,u233,u234,u235,u236,u237,u238,u239],defers:=[]} wc:=by
 obtain⟨i0,hi,hz0,hz1,hz2⟩:=info_parts l9;obtain⟨i1,hj,hj0,hj1,hj2⟩:=info_parts pF;obtain⟨i2,hq,hq0,hq1,hq2⟩:=info_parts pE;obtain⟨i3,hr,hr0,hr1,hr2⟩:=info_parts ma;obtain⟨i4,ht,ht0,ht1,ht2⟩:=info_parts ky;obtain⟨i5,hv,hv0,hv1,hv2⟩:=info_parts je
 conv=>arg 2;whnf
 unfold dS
 go_upto_block 4 with fail
 go_cut [10]from 17 (fun vev wx=>∃vle H3 q,dx w (dS R (.slice ca R.credits.length ccap) (.slice sa R.series.length scap) (.slice la R.lets.length lcap) (.slice ia R.ifs.length icap) (.slice pa R.pays.length pcap) (.slice ua R.cuts.length ucap)) g #[.int .i64 (pick R.frm 73049),.int .i64 (pick R.mode 4+1),.int .i64 (aS (pick R.unit 5)),vcr,vse,vle,.slice none 0 0,.slice none 0 0] wx/\aY 133 2 H1 (· <H2) wx vcr (bf R (gy R)) []/\aY 135 3 H2 (· <H3) wx vse (bH R (lX R)) []/\(g<H3/\H2<=H3/\H3<=wx.heap.size)/\bI 63 7 H3 wx vle (fe q) (q.map (·.2))/\bI 106 2 H3 wx vev (ji (eF R (eZ R))) []/\qW R (eZ R) q)
 case first=>
  go_wp2_with fail
  go_loopw [10,11] (fun v10 v11 wr=>∃k:Nat,∃vle:Value,∃q:List (ByteArray × (Ex × Value)),k<=R.lets.length/\k<=5/\v11= .int .i64 k/\dx w (dS R (.slice ca R.credits.length ccap) (.slice sa R.series.length scap) (.slice la R.lets.length lcap) (.slice ia R.ifs.length icap) (.slice pa R.pays.length pcap) (.slice ua R.cuts.length ucap)) g #[.int .i64 (pick R.frm 73049),.int .i64 (pick R.mode 4+1),.int .i64 (aS (pick R.unit 5)),vcr,vse,vle,.slice none 0 0,.slice none 0 0] wr/\Next g wc wr/\aY 63 7 wc.heap.size (fun b=>v10.ownBlock≠some b) wr vle (fe q) (q.map (·.2))/\bI 106 2 wc.heap.size wr v10 (ji (eF R k)) []/\qW R k q) (fun _ v11 _=>5-(intOf v11).toNat)
  case atStart=>exact⟨0,_,[],by omega,by omega,rfl,HOF1.out,.refl _ _,.nil _ _ _ _ _,.nil _ _ _ _,.nil R⟩
  case round=>
   obtain⟨k,vle,q,hk,hk5,rfl,hof,hnx,hlr,her,hlq⟩:=hrel;have hbx:wr.cell? ⟨w.heap.size,5,none⟩=some (.slice la R.lets.length lcap):=cell_of_row _ _ _ _ _ _ hof.box;have hoc:wr.cell? ⟨g,5,none⟩=some vle:=cell_of_row _ _ _ _ _ _ hof.out;have hl0:=hof.lt0;have hl1:w.heap.size<wr.heap.size:=by omega
   have hl2:=hof.lt;have hl3:=hnx.size;have HNX:=yq hnx;have HOFR:=yq hof;have HL:=yq hlr;have HE:=yq her;have HQ:=yq hlq;have HLL:=yq (show(fe q).length=k by unfold fe;rw [length_map];exact hlq.length);have HEL:=yq (show(ji (eF R k)).length=k by unfold ji;rw [length_map];exact mh R k);obtain⟨aa,acap,rfl⟩:=hlr.form;obtain⟨ea,ecap,hev⟩:=her.form;subst hev;clear hof hnx hlr her hl0 hlq;by_cases hlt:k<R.lets.length
   ·by_cases hlt5:k<5
    ·rcases HLC.out with h0|⟨b,off,rfl,hb,hx⟩
     ·omega
     ·obtain⟨u,hxk,hxi⟩:=hx k hlt;have hkb:b<wr.heap.size:=by omega
      have hyk:wr.cell? ⟨b,off+k,none⟩=some u:=by rw [HOFR.out.bel.cell zU];exact hxk
      have HXI:=yq hxi;obtain⟨za,zcap,rfl⟩:=aD.form hxi;have HXK:=yq hxk;clear hxk hx hxi;have d1:(k:Int)<(R.lets.length:Int):=by omega
      have d2:(k:Int)<5:=by omega
      have HSD:Hid (Jf R k=1+(((R.lets.getD k []).length % 4:Nat):Int)):=yq rfl;have HSE:Hid (om R k=jW (R.lets.getD k []) (eF R k) (Jf R k)):=yq rfl;have HSF:=yq (JC R k);generalize hzk:R.lets.getD k []=zk at *;clear hzk;have hzl:zk.length<=140737488355328:=HXI.out.1;have hm4:(zk.length:Int) % 4=((zk.length % 4:Nat):Int):=by omega
      have HM4:=yq hm4;clear hm4;have hD:Jf R k=1+(zk.length:Int) % 4:=by rw [HSD.out];have:=HM4.out;omega
      have HD:=yq hD;have HEE:Hid (jW zk (eF R k) (1+(zk.length:Int) % 4)=om R k):=yq (by rw [HSE.out,HD.out]);have hdb1:1<=1+(zk.length:Int) % 4:=by omega
      have hdb4:1+(zk.length:Int) % 4<=4:=by omega
      have hevb:=HE.out.lt;have HEVB:=yq hevb;have hleb:=HL.out.lt;have HLEB:=yq hleb;have HLX:=yq HL.out.ownX;clear hD hevb hleb
      go_upto_region 20 with fail
      refine TG.begin 16 (fun w'=>w'.cell? ⟨g,5,none⟩=some (.slice aa (fe q).length acap)/\w'.cell? ⟨w.heap.size,5,none⟩=some (.slice (some ⟨b,off,none⟩) R.lets.length lcap)/\w'.cell? ⟨b,off+k,none⟩=some (.slice za zk.length zcap)) ze ze ?_ (fun hS=>?_);focus(refine⟨?_, ?_, ?_⟩<;>simp [go_sem,hoc,hbx,hyk,hl1,hl2,hkb])
      refine TG.tkB 0 hS ?_;refine TG.tkB 1 hS ?_;refine TG.tkB 2 hS ?_;refine TG.tkB 4 hS ?_;refine TG.tkB 5 hS ?_;refine TG.tkB 6 hS ?_;refine TG.tkB 7 hS ?_;refine TG.tkB 8 hS ?_;refine TG.tkB 9 hS ?_;refine TG.tkB 10 hS ?_;refine TG.one (i:=3) ze rfl (fun K1 hK1=>?_)
      go_simp
      go_at_call 62
      refine gv (rC k _ hlt5) ?_;intro bs1 dr1
      (try simp only [World.drew_grow])
      refine TG.go hK1 ?_ (fun hS=>?_)
      focus
       (try dsimp only)
       (refine⟨?_, ?_, ?_⟩<;>simp [go_sem,hoc,hbx,hyk,hl1,hl2,hkb])
      clear hK1 K1
      (try simp only [nS])
      refine TG.one (i:=11) ze rfl (fun K1 hK1=>?_)
      go_simp
      go_at_call 9
      refine(iV _ _ zk (eF R k) _ (om R k) (wr.grow bs1 dr1) (aF.of_ints HXI.out (HOFR.out.grow _ _).bel) (aU.of_row (HE.out.grow _ _) (by rw [mh];omega) (iU R k)) hdb1 hdb4 HEE).mono ?_;rintro e' w' ⟨v,rfl,⟨bs2,dr2,rfl⟩,hrep⟩;have H1:=yq ((hrep.eqw (w':=wr.grow (bs1++bs2) dr2) zd).mono (S':=fun b=>wr.heap.size+bs1.size<=b) (fun b hb=>by simpa using hb));have HV:=yq hrep.one;clear hrep
      (try simp only [World.grow_grow])
      refine TG.go hK1 ?_ (fun hS=>?_)
      focus
       (try dsimp only)
       (refine⟨?_, ?_, ?_⟩<;>simp [go_sem,hoc,hbx,hyk,hl1,hl2,hkb])
      clear hK1 K1
      (try simp only [nS])
      refine TG.tkB 12 hS ?_;refine TG.one (i:=13) ze rfl (fun K1 hK1=>?_)
      go_simp
      refine TG.go hK1 ?_ (fun hS=>?_)
      focus
       (try dsimp only)
       (refine⟨?_, ?_, ?_⟩<;>simp [go_sem,hoc,hbx,hyk,hl1,hl2,hkb])
      clear hK1 K1
      (try simp only [nS])
      refine TG.one (i:=14) ze rfl (fun K1 hK1=>?_);refine step_append_lies _ rfl _ _ 50 rfl wc.heap.size 63 i2 _ 7 88 underlying50 hq hq0 hq1 hq2 rfl zf _ _ _ rfl ((HL.out.grow (bs1++bs2) dr2).alloc (.cells (.string (fV k)::aZ (om R k) v).toArray 63)).own ⟨wr.heap.size+(bs1.size+bs2.size),0,none⟩ 1 1 (.string (fV k)::aZ (om R k) v) rfl rfl ?_ ?_ zf ?_ ?_ ?_ (wr.heap.size+(bs1.size+bs2.size)+1) zd ?_;focus exact fun j u hu=>news_cells _ (.string (fV k)::aZ (om R k) v) 63 _ zd j u hu
      focus exact Pb _ _ _ HV.out
      focus(have:=HLL.out;unfold maxLen;omega)
      focus(have:=HLL.out;omega)
      focus(simp;omega)
      intro g' cap w1 hown' hgrow hat hlt';have R1:=aY.push (rs2:=[(om R k,v)]) (m:=wr.heap.size+bs1.size) ((HL.out.grow (bs1++bs2) dr2).alloc (.cells (.string (fV k)::aZ (om R k) v).toArray 63)) (Gc (H1.out.alloc _)) zb (fun j hj e=>by have:=(HEVB.out j e).2;omega) (fun j hj=>by have:=(HLEB.out j hj).2;omega) rfl rfl rfl hown' hgrow hat zd zb;have O1:=((HOFR.out.grow (bs1++bs2) dr2).alloc (.cells (.string (fV k)::aZ (om R k) v).toArray 63)).grown hgrow (fun j hj=>by have:=(HLEB.out j hj).1;have:=HOFR.out.gge;omega);have N1:=((HNX.out.grow (bs1++bs2) dr2).alloc (.cells (.string (fV k)::aZ (om R k) v).toArray 63)).grown hgrow (fun j hj=>(HLEB.out j hj).1);have E1:=((HE.out.toX (X:=fun b=>(Value.slice aa (fe q).length acap).ownBlock≠some b) (fun j hj e=>HLX.out j e hj)).grow (bs1++bs2) dr2|>.alloc (.cells (.string (fV k)::aZ (om R k) v).toArray 63)).grown hgrow (fun j hj e=>hj e.symm);have hoc2:w1.cell? ⟨g,5,none⟩=some (.slice aa (fe q).length acap):=cell_of_row _ _ _ _ _ _ O1.out;have hof2:w1.frozen? ⟨g,5,none⟩=false:=Joins.unfrozen_of_block O1.out 5;have hyk2:=(O1.bel.cell (p:=⟨b,off+k,none⟩) hb).trans HXK.out
      (try simp only [nS])
      refine TG.go hK1 ?_ (fun hS=>?_);focus exact⟨hoc2,cell_of_row _ _ _ _ _ _ O1.box,hyk2⟩
      clear hK1 K1 hyk2;have HR2:=yq (R1.setCell (a:=⟨g,5,none⟩) hgl1 (.slice (some ⟨g',0,none⟩) ((fe q).length+1) cap));have HO2:=yq (O1.store 5 (.slice (some ⟨g',0,none⟩) ((fe q).length+1) cap));have HN2:=yq (N1.store 5 (.slice (some ⟨g',0,none⟩) ((fe q).length+1) cap));have HE2:=yq ((E1.setCell (a:=⟨g,5,none⟩) hgl1 (.slice (some ⟨g',0,none⟩) ((fe q).length+1) cap)).toG);clear hown' hgrow hat hlt' R1 O1 N1 E1
      (try simp only [nS])
      refine TG.tkB 15 hS ?_;refine TG.one (i:=16) ze rfl (fun K1 hK1=>?_)
      go_simp
      refine hK1 _ _ (fun h=>absurd rfl h) (TG.done ze ?_);clear hK1 K1 hS
      (try simp only [nS])
      clear hoc hbx hyk hoc2 hof2;obtain⟨w2,hw2⟩:∃w2,w2=w1.setCell ⟨g,5,none⟩ (.slice (some ⟨g',0,none⟩) ((fe q).length+1) cap):=⟨_,rfl⟩;rw [<-hw2]at HR2 HO2 HN2 HE2 ⊢;clear hw2;have HE2B:=yq HE2.out.lt;have hsz2:=HN2.out.size
      go_wp2_with (first
       |(go_at_call 62;refine gv (rC k _ hlt5) ?_;intro bs3 dr3)
       |(at_builtin;refine wpList_append_lies _ rfl _ _ 52 rfl wc.heap.size 106 i3 _ 2 24 underlying52 hr hr0 hr1 hr2 rfl zf _ _ _ rfl ((HE2.out.grow bs3 dr3).alloc (.cells #[.string (fV k),.int .i64 (1+(zk.length:Int) % 4)] 106)).own ⟨w2.heap.size+bs3.size,0,none⟩ 1 1 [.string (fV k),.int .i64 (1+(zk.length:Int) % 4)] rfl rfl ?e1 ?e2 zf ?e3 ?e4 ?e5 (w2.heap.size+bs3.size+1) zd ?_))
      case e1=>exact news_cells _ [.string (fV k),.int .i64 (1+(zk.length:Int) % 4)] _ _ zd
      case e2=>intro u hu;simp at hu;rcases hu with rfl|rfl<;>rfl
      case e3=>have:=HEL.out;unfold maxLen;omega
      case e4=>have:=HEL.out;omega
      case e5=>simp;omega
      intro g2 cap2 w3 hown2 hgrow2 hat2 hlt2;have E3:=bI.push (rs2:=[]) (m:=w2.heap.size) ((HE2.out.grow bs3 dr3).alloc (.cells #[.string (fV k),.int .i64 (1+(zk.length:Int) % 4)] 106)) (fun x hx=>by cases hx) hsz2 (fun j hj=>(HE2B.out j hj).2) rfl rfl rfl hown2 hgrow2 hat2 zd;have L3:=((((HR2.out.grow bs3 dr3).alloc (.cells #[.string (fV k),.int .i64 (1+(zk.length:Int) % 4)] 106)).mono (X':=fun b=>(Value.slice ea (ji (eF R k)).length ecap).ownBlock≠some b/\b≠g2) (J6 hat2 zd)).grown hgrow2 (fun j hj=>Ne.symm hj.1)).mono (X':=fun b=>(Value.slice (some ⟨g2,0,none⟩) ((ji (eF R k)).length+1) cap2).ownBlock≠some b) (fun j hj _ e=>hj.2 (by simpa [Value.ownBlock]using e.symm));have O3:=((HO2.out.grow bs3 dr3).alloc (.cells #[.string (fV k),.int .i64 (1+(zk.length:Int) % 4)] 106)).grown hgrow2 (fun j hj=>by have:=(HE2B.out j hj).1;have:=HOFR.out.gge;omega);have N3:=((HN2.out.grow bs3 dr3).alloc (.cells #[.string (fV k),.int .i64 (1+(zk.length:Int) % 4)] 106)).grown hgrow2 (fun j hj=>(HE2B.out j hj).1);have HE3:=yq E3;have HL3:=yq L3;have HO3:=yq O3;have HN3:=yq N3;clear hown2 hgrow2 hat2 hlt2 E3 L3 O3 N3
      go_wp2_with fail
      go_roundw
      case rel=>exact⟨k+1,_,q++[(fV k,(om R k,v))],by omega,by omega,by go_num,HO3.out,HN3.out,by rw [Je,map_append];exact HL3.out,by rw [HSF.out,HD.out,JB];exact HE3.out,HQ.out.push v⟩
      case measure=>simp [intOf];omega
    ·go_wp2_with fail
     go_meet
     exact⟨_,wc.heap.size,q,HOFR.out,HROW1.out.next HNX.out hgH1,HROW2.out.next HNX.out hgH2,⟨hgl1,hH2,HNX.out.size⟩,HL.out.toG,by rw [show eZ R=k by unfold eZ;omega];exact⟨HE.out,HQ.out⟩⟩
   ·go_wp2_with fail
    go_meet
    exact⟨_,wc.heap.size,q,HOFR.out,HROW1.out.next HNX.out hgH1,HROW2.out.next HNX.out hgH2,⟨hgl1,hH2,HNX.out.size⟩,HL.out.toG,by rw [show eZ R=k by unfold eZ;omega];exact⟨HE.out,HQ.out⟩⟩
 obtain⟨vle,H3,ql,hof,hrow1,hrow2,⟨hgH3,hH23,hH3⟩,hrow3,henv,hql⟩:=hcut;clear HROW1 HROW2 HOF1 hgl1 hH2;have HROW1:=yq hrow1;have HROW2:=yq hrow2;have HROW3:=yq hrow3.upto;have HENV:=yq henv;have HQL:=yq hql;have HOF1:=yq hof;have hgl1:=hof.lt;obtain⟨eva,evc,hev⟩:=henv.form;subst hev;clear hof hrow1 hrow2 hrow3 henv hql
 go_step
 apply Nv R w h1 h2 h3 h4 ca sa la ia pa ua ccap scap lcap icap pcap ucap hcl hsl hll hil hpl hul HCC HSC HLC HIC HPC HUC g _ wc vcr H1 hgH1 vse H2 hgH2 hH12 vle H3 ql hgH3 hH23 eva evc hH3 HROW1 HROW2 HROW3 HENV HQL HOF1 hgl1
theorem Ny(R:bW)(w:World)(h1:I64 R.frm)(h2:I64 R.mode)(h3:I64 R.unit)(h4:I64 R.twist)(ca:Option Addr)(sa:Option Addr)(la:Option Addr)(ia:Option Addr)(pa:Option Addr)(ua:Option Addr)(ccap:Nat)(scap:Nat)(lcap:Nat)(icap:Nat)(pcap:Nat)(ucap:Nat)(hcl:R.credits.length<=140737488355328)(hsl:R.series.length<=140737488355328)(hll:R.lets.length<=140737488355328)(hil:R.ifs.length<=140737488355328)(hpl:R.pays.length<=140737488355328)(hul:R.cuts.length<=140737488355328)(HCC:Hid (R.credits.length=0\/∃b off,ca=some ⟨b,off,none⟩/\b<w.heap.size/\∀(i:Nat),i<R.credits.length->w.cell? ⟨b,off+i,none⟩=some (.int .i64 (R.credits.getD i 0))))(HSC:Hid (R.series.length=0\/∃b off,sa=some ⟨b,off,none⟩/\b<w.heap.size/\∀(i:Nat),i<R.series.length->w.cell? ⟨b,off+i,none⟩=some (.int .i64 (R.series.getD i 0))))(HLC:Hid (R.lets.length=0\/∃b off,la=some ⟨b,off,none⟩/\b<w.heap.size/\∀(i:Nat),i<R.lets.length->∃u,w.cell? ⟨b,off+i,none⟩=some u/\aD w u (R.lets.getD i [])))(HIC:Hid (R.ifs.length=0\/∃b off,ia=some ⟨b,off,none⟩/\b<w.heap.size/\∀(i:Nat),i<R.ifs.length->∃u,w.cell? ⟨b,off+i,none⟩=some u/\aD w u (R.ifs.getD i [])))(HPC:Hid (R.pays.length=0\/∃b off,pa=some ⟨b,off,none⟩/\b<w.heap.size/\∀(i:Nat),i<R.pays.length->∃u,w.cell? ⟨b,off+i,none⟩=some u/\aD w u (R.pays.getD i [])))(HUC:Hid (R.cuts.length=0\/∃b off,ua=some ⟨b,off,none⟩/\b<w.heap.size/\∀(i:Nat),i<R.cuts.length->∃u,w.cell? ⟨b,off+i,none⟩=some u/\aD w u (R.cuts.getD i [])))(g:Nat)(wk:Nat)(wc:World)(vcr:Value)(H1:Nat)(hgH1:g<H1)(hH1:H1<=wc.heap.size)(HROW1:Hid (aY 133 2 H1 (· <wc.heap.size) wc vcr (bf R (gy R)) []))(HOF1:Hid (dx w (dS R (.slice ca R.credits.length ccap) (.slice sa R.series.length scap) (.slice la R.lets.length lcap) (.slice ia R.ifs.length icap) (.slice pa R.pays.length pcap) (.slice ua R.cuts.length ucap)) g #[.int .i64 (pick R.frm 73049),.int .i64 (pick R.mode 4+1),.int .i64 (aS (pick R.unit 5)),vcr,.slice none 0 0,.slice none 0 0,.slice none 0 0,.slice none 0 0] wc))(hgl1:g<wc.heap.size)(u5 u6 u17 u18 u19 u20 u21 u22 u23 u24 u25 u26 u27 u28 u29 u30 u31 u32 u33 u34 u35 u36 u37 u38 u39 u40 u41 u42 u43 u44 u45 u46 u47 u48 u49 u50 u51 u52 u53 u54 u55 u56 u57 u58 u59 u60 u61 u62 u63 u64 u65 u66 u67 u68 u69 u70 u71 u72 u73 u74 u75 u76 u77 u78 u79 u80 u81 u82 u83 u84 u85 u86 u87 u88 u89 u90 u91 u92 u93 u94 u95 u96 u97 u98 u99 u100 u101 u102 u103 u104 u105 u106 u107 u108 u109 u110 u111 u112 u113 u114 u115 u116 u117 u118 u119 u120 u121 u122 u123 u124 u125 u126 u127 u128 u129 u130 u131 u132 u133 u134 u135 u136 u137 u138 u139 u140 u141 u142 u143 u144 u145 u146 u147 u148 u149 u150 u151 u152 u153 u154 u155 u156 u157 u158 u159 u160 u161 u162 u163 u164 u165 u166 u167 u168 u169 u170 u171 u172 u173 u174 u175 u176 u177 u178 u179 u180 u181 u182 u183 u184 u185 u186 u187 u188 u189 u190 u191 u192 u193 u194 u195 u196 u197 u198 u199 u200 u201 u202 u203 u204 u205 u206 u207 u208 u209 u210 u211 u212 u213 u214 u215 u216 u217 u218 u219 u220 u221 u222 u223 u224 u225 u226 u227 u228 u229 u230 u231 u232 u233 u234 u235 u236 u237 u238 u239:Value) :
 Code.wp prog (tlC (tlC (tlC (tlC (f26.body.getD .skip))))) (bodyPost prog f26 (OfPost R w)) {tmps:=#[(.agg (dS R (.slice ca R.credits.length ccap) (.slice sa R.series.length scap) (.slice la R.lets.length lcap) (.slice ia R.ifs.length icap) (.slice pa R.pays.length pcap) (.slice ua R.cuts.length ucap))),.pointer (some ⟨w.heap.size,0,none⟩),.pointer (some ⟨w.heap.size+1,0,none⟩),.pointer (some ⟨g,0,none⟩),.slice (some ⟨wk,0,none⟩) 6 6,u5,u6,undef,undef,undef,undef,undef,undef,undef,undef,undef,undef,u17,u18,u19,u20,u21,u22,u23,u24,u25,u26,u27,u28,u29,u30,u31,u32,u33,u34,u35,u36,u37,u38,u39,u40,u41,u42,u43,u44,u45,u46,u47,u48,u49,u50,u51,u52,u53,u54,u55,u56,u57,u58,u59,u60,u61,u62,u63,u64,u65,u66,u67,u68,u69,u70,u71,u72,u73,u74,u75,u76,u77,u78,u79,u80,u81,u82,u83,u84,u85,u86,u87,u88,u89,u90,u91,u92,u93,u94,u95,u96,u97,u98,u99,u100,u101,u102,u103,u104,u105,u106,u107,u108,u109,u110,u111,u112,u113,u114,u115,u116,u117,u118,u119,u120,u121,u122,u123,u124,u125,u126,u127,u128,u129,u130,u131,u132,u133,u134,u135,u136,u137,u138,u139,u140,u141,u142,u143,u144,u145,u146,u147,u148,u149,u150,u151,u152,u153,u154,u155,u156,u157,u158,u159,u160,u161,u162,u163,u164,u165,u166,u167,u168,u169,u170,u171,u172,u173,u174,u175,u176,u177,u178,u179,u180,u181,u182,u183,u184,u185,u186,u187,u188,u189,u190,u191,u192,u193,u194,u195,u196,u197,u198,u199,u200,u201,u202,u203,u204,u205,u206,u207,u208,u209,u210,u211,u212,u213,u214,u215,u216,u217,u218,u219,u220,u221,u222,u223,u224,u225,u226,u227,u228,u229,u230,u231,u232,u233,u234,u235,u236,u237,u238,u239],defers:=[]} wc:=by
 obtain⟨i0,hi,hz0,hz1,hz2⟩:=info_parts l9;obtain⟨i1,hj,hj0,hj1,hj2⟩:=info_parts pF;obtain⟨i2,hq,hq0,hq1,hq2⟩:=info_parts pE;obtain⟨i3,hr,hr0,hr1,hr2⟩:=info_parts ma;obtain⟨i4,ht,ht0,ht1,ht2⟩:=info_parts ky;obtain⟨i5,hv,hv0,hv1,hv2⟩:=info_parts je
 conv=>arg 2;whnf
 unfold dS
 go_upto_block 2 with fail
 go_cut []from 17 (fun wx=>∃vse H2,dx w (dS R (.slice ca R.credits.length ccap) (.slice sa R.series.length scap) (.slice la R.lets.length lcap) (.slice ia R.ifs.length icap) (.slice pa R.pays.length pcap) (.slice ua R.cuts.length ucap)) g #[.int .i64 (pick R.frm 73049),.int .i64 (pick R.mode 4+1),.int .i64 (aS (pick R.unit 5)),vcr,vse,.slice none 0 0,.slice none 0 0,.slice none 0 0] wx/\aY 133 2 H1 (· <H2) wx vcr (bf R (gy R)) []/\(g<H2/\H1<=H2/\H2<=wx.heap.size)/\bI 135 3 H2 wx vse (bH R (lX R)) [])
 case first=>
  go_wp2_with fail
  go_loopw [7] (fun v7 wr=>∃k:Nat,∃vse:Value,k<=R.series.length/\k<=6/\v7= .int .i64 k/\dx w (dS R (.slice ca R.credits.length ccap) (.slice sa R.series.length scap) (.slice la R.lets.length lcap) (.slice ia R.ifs.length icap) (.slice pa R.pays.length pcap) (.slice ua R.cuts.length ucap)) g #[.int .i64 (pick R.frm 73049),.int .i64 (pick R.mode 4+1),.int .i64 (aS (pick R.unit 5)),vcr,vse,.slice none 0 0,.slice none 0 0,.slice none 0 0] wr/\Next g wc wr/\bI 135 3 wc.heap.size wr vse (bH R k) []) (fun v7 _=>6-(intOf v7).toNat)
  case atStart=>exact⟨0,_,by omega,by omega,rfl,HOF1.out,.refl _ _,.nil _ _ _ _⟩
  case round=>
   obtain⟨k,vse,hk,hk6,rfl,hof,hnx,hrow⟩:=hrel;have hbx:wr.cell? ⟨w.heap.size,4,none⟩=some (.slice sa R.series.length scap):=cell_of_row _ _ _ _ _ _ hof.box;have hoc:wr.cell? ⟨g,4,none⟩=some vse:=cell_of_row _ _ _ _ _ _ hof.out;have hl0:=hof.lt0;have hl1:w.heap.size<wr.heap.size:=by omega
   have hl2:=hof.lt;have hl3:=hnx.size;have HNX:=yq hnx;have HOFR:=yq hof;have HROW:=yq hrow;have HCL:=yq (rV R k);obtain⟨aa,acap,rfl⟩:=hrow.form;clear hof hnx hrow hl0;by_cases hlt:k<R.series.length
   ·by_cases hlt6:k<6
    ·rcases HSC.out with h0|⟨b,off,rfl,hb,hx⟩
     ·omega
     ·have hxk:=hx k hlt;have hkb:b<wr.heap.size:=by omega
      have hyk:wr.cell? ⟨b,off+k,none⟩=some (.int .i64 (R.series.getD k 0)):=by rw [HOFR.out.bel.cell zU];exact hxk
      have HXK:=yq hxk;clear hxk hx;have d1:(k:Int)<(R.series.length:Int):=by omega
      have d2:(k:Int)<6:=by omega
      have HSU:=yq (vM R k);have HSY:Hid (Ob R k=1930+25*k+pick (R.series.getD k 0) 20):=yq rfl;have HSN:Hid (Oc R k=mkN (pick (R.series.getD k 0) 4000+1) 1000):=yq rfl;have HSD:Hid (Od R k=mkD (pick (R.series.getD k 0) 4000+1) 1000):=yq rfl;generalize hzk:R.series.getD k 0=zk at *;clear hzk;have hp4:=pick_bd zk 4000 zb;have hp2:=pick_bd zk 20 zb
      go_upto_region 14 with (first
       |(go_at_call 10;refine gw (Pick_any _ _ _ zb) ?_)
       |(go_at_call 39;refine gv (il _ _ _ zb zb zb zb) ?_;intro bs d))
      have hm1:IntKind.i64.wrap (25*(k:Int))=25*k:=IntWalk.i64_in _ zb;have hm2:IntKind.i64.wrap (1930+25*(k:Int))=1930+25*k:=IntWalk.i64_in _ zb;have hm3:IntKind.i64.wrap (1930+25*(k:Int)+pick zk 20)=1930+25*k+pick zk 20:=IntWalk.i64_in _ zb;generalize hN:mkN (pick zk 4000+1) 1000=fn at HSN ⊢;generalize hD:mkD (pick zk 4000+1) 1000=fd at HSD ⊢;clear hN hD hp4 hp2;refine TG.begin 17 (fun w'=>w'.cell? ⟨g,4,none⟩=some (.slice aa (bH R k).length acap)/\w'.cell? ⟨w.heap.size,4,none⟩=some (.slice (some ⟨b,off,none⟩) R.series.length scap)/\w'.cell? ⟨b,off+k,none⟩=some (.int .i64 zk)/\w'.cell? ⟨wr.heap.size+bs.size,0,none⟩=some (.int .i64 fn)/\w'.cell? ⟨wr.heap.size+bs.size,1,none⟩=some (.int .i64 fd)) ze ze ?_ (fun hS=>?_)
      focus
       refine⟨?_, ?_, ?_, ?_, ?_⟩<;>simp [go_sem,hoc,hbx,hyk,hl1,hl2,hkb]
      refine TG.tkB 0 hS ?_;refine TG.tkB 1 hS ?_;refine TG.tkB 2 hS ?_;refine TG.tkB 3 hS ?_;refine TG.tkB 4 hS ?_;refine TG.tkB 5 hS ?_;refine TG.tkB 6 hS ?_;refine TG.tkB 7 hS ?_;refine TG.tkB 8 hS ?_;refine TG.tkB 9 hS ?_;refine TG.takeC (i:=10) (v:=(.int .i64 (pick zk 20))) (fn:=10) (args:=#[.int .i64 zk,.int .i64 20]) rfl ze ze ze zf (fun _ _ _ h=>h) rfl hS ?_ ?_ ?_
      focus
       intro wS hSw
       (try dsimp only at hSw)
       go_simp
      focus exact fun wS _=>(Pick_any _ _ _ zb)
      (try simp only [nS])
      refine TG.tkB 11 hS ?_;refine TG.tkB 12 hS ?_;refine TG.tkB 13 hS ?_;refine TG.one (i:=14) ze rfl (fun K1 hK1=>?_)
      go_simp
      refine TG.go hK1 ?_ (fun hS=>?_)
      focus
       (try dsimp only)
       (refine⟨?_, ?_, ?_, ?_, ?_⟩<;>simp [go_sem,hoc,hbx,hyk,hl1,hl2,hkb])
      clear hK1 K1
      (try simp only [nS])
      have HSW:=yq hS;refine TG.one (i:=15) ze rfl (fun K1 hK1=>?_);refine step_append_lies _ rfl _ _ 78 rfl wc.heap.size 135 i1 _ 3 24 underlying78 hj hj0 hj1 hj2 rfl zf _ _ _ rfl (((HROW.out.grow bs d).alloc (.cells #[.int .i64 fn,.int .i64 fd] 24)).alloc (.cells #[.int .i64 (1930+25*k+pick zk 20),.int .i64 fn,.int .i64 fd] 135)).own ⟨wr.heap.size+bs.size+1,0,none⟩ 1 1 [.int .i64 (1930+25*k+pick zk 20),.int .i64 fn,.int .i64 fd] rfl rfl ?_ ?_ zf ?_ ?_ ?_ (wr.heap.size+bs.size+2) zd ?_;focus exact fun j u hu=>news_cells _ [.int .i64 (1930+25*k+pick zk 20),.int .i64 fn,.int .i64 fd] 135 _ zd j u hu
      focus(intro u hu;simp at hu;rcases hu with rfl|rfl|rfl<;>rfl)
      focus(have:=HCL.out;unfold maxLen;omega)
      focus(have:=HCL.out;omega)
      focus(simp;omega)
      intro g' cap w1 hown' hgrow hat hlt';have hrowb:=HROW.out.lt;have R1:=bI.push (rs2:=[]) (m:=wr.heap.size) (((HROW.out.grow bs d).alloc (.cells #[.int .i64 fn,.int .i64 fd] 24)).alloc (.cells #[.int .i64 (1930+25*k+pick zk 20),.int .i64 fn,.int .i64 fd] 135)).drew (fun x hx=>by cases hx) hl3 (fun j hj=>(hrowb j hj).2) rfl rfl rfl hown' hgrow hat zd;have O1:=(((HOFR.out.grow bs d).alloc (.cells #[.int .i64 fn,.int .i64 fd] 24)).alloc (.cells #[.int .i64 (1930+25*k+pick zk 20),.int .i64 fn,.int .i64 fd] 135)).drew.grown hgrow (fun j hj=>by have:=(hrowb j hj).1;have:=HOFR.out.gge;omega);have N1:=(((HNX.out.grow bs d).alloc (.cells #[.int .i64 fn,.int .i64 fd] 24)).alloc (.cells #[.int .i64 (1930+25*k+pick zk 20),.int .i64 fn,.int .i64 fd] 135)).drew.grown hgrow (fun j hj=>(hrowb j hj).1);have hoc2:w1.cell? ⟨g,4,none⟩=some (.slice aa (bH R k).length acap):=cell_of_row _ _ _ _ _ _ O1.out;have hof2:w1.frozen? ⟨g,4,none⟩=false:=Joins.unfrozen_of_block O1.out 4;have hf0:=(hgrow.cell_far ⟨wr.heap.size+bs.size,0,none⟩ zg (fun e=>absurd (hrowb (wr.heap.size+bs.size) e.symm).2 zb)).trans HSW.out.2.2.2.1;have hf1:=(hgrow.cell_far ⟨wr.heap.size+bs.size,1,none⟩ zg (fun e=>absurd (hrowb (wr.heap.size+bs.size) e.symm).2 zb)).trans HSW.out.2.2.2.2;have hyk2:=(O1.bel.cell (p:=⟨b,off+k,none⟩) hb).trans HXK.out
      (try simp only [nS])
      refine TG.go hK1 ?_ (fun hS=>?_);focus exact⟨hoc2,cell_of_row _ _ _ _ _ _ O1.box,hyk2,hf0,hf1⟩
      clear hK1 K1 HSW hf0 hf1 hyk2;have R2:=yq (R1.setCell (a:=⟨g,4,none⟩) hgl1 (.slice (some ⟨g',0,none⟩) ((bH R k).length+1) cap));have O2:=yq (O1.store 4 (.slice (some ⟨g',0,none⟩) ((bH R k).length+1) cap));have N2:=yq (N1.store 4 (.slice (some ⟨g',0,none⟩) ((bH R k).length+1) cap));clear hown' hgrow hat hlt' R1 O1 N1 hrowb
      (try simp only [nS])
      refine TG.tkB 16 hS ?_;refine TG.one (i:=17) ze rfl (fun K1 hK1=>?_)
      go_simp
      refine hK1 _ _ (fun h=>absurd rfl h) (TG.done ze ?_);clear hK1 K1 hS
      (try simp only [nS])
      go_wp2_with fail
      go_roundw
      case rel=>exact⟨k+1,_,by omega,by omega,by go_num,O2.out,N2.out,by rw [HSU.out,HSY.out,HSN.out,HSD.out];exact R2.out⟩
      case measure=>simp [intOf];omega
    ·go_wp2_with fail
     go_meet
     exact⟨_,wc.heap.size,HOFR.out,HROW1.out.next HNX.out hgH1,⟨hgl1,hH1,HNX.out.size⟩,by rw [show lX R=k by unfold lX;omega];exact HROW.out⟩
   ·go_wp2_with fail
    go_meet
    exact⟨_,wc.heap.size,HOFR.out,HROW1.out.next HNX.out hgH1,⟨hgl1,hH1,HNX.out.size⟩,by rw [show lX R=k by unfold lX;omega];exact HROW.out⟩
 obtain⟨vse,H2,hof,hrow1,⟨hgH2,hH12,hH2⟩,hrow2⟩:=hcut;clear HROW1 HOF1 hgl1 hH1;have HROW1:=yq hrow1;have HROW2:=yq hrow2.upto;have HOF1:=yq hof;have hgl1:=hof.lt;clear hof hrow1 hrow2
 go_step
 apply Nw R w h1 h2 h3 h4 ca sa la ia pa ua ccap scap lcap icap pcap ucap hcl hsl hll hil hpl hul HCC HSC HLC HIC HPC HUC g _ wc vcr H1 hgH1 vse H2 hgH2 hH12 hH2 HROW1 HROW2 HOF1 hgl1
theorem QB(R:bW)(vc vs vl vi vp vu:Value)(w:World)(h1:I64 R.frm)(h2:I64 R.mode)(h3:I64 R.unit)(h4:I64 R.twist)
 (hC:aD w vc R.credits) (hS:aD w vs R.series) (hL:dM w vl R.lets) (hI:dM w vi R.ifs) (hP:dM w vp R.pays) (hU:dM w vu R.cuts) :
 Calls prog 26 #[.agg #[.int .i64 R.frm,.int .i64 R.mode,.int .i64 R.unit,vc,vs,vl,vi,vp,vu,.int .i64 R.twist]] w (OfPost R w):=by

 obtain⟨i0,hi,hz0,hz1,hz2⟩:=info_parts l9;obtain⟨i1,hj,hj0,hj1,hj2⟩:=info_parts pF;obtain⟨i2,hq,hq0,hq1,hq2⟩:=info_parts pE;obtain⟨i3,hr,hr0,hr1,hr2⟩:=info_parts ma;obtain⟨i4,ht,ht0,ht1,ht2⟩:=info_parts ky;obtain⟨i5,hv,hv0,hv1,hv2⟩:=info_parts je;obtain⟨hcl,-,ca,ccap,rfl,hcc⟩:=hC;have HCC:=yq hcc;obtain⟨hsl,-,sa,scap,rfl,hsc⟩:=hS;have HSC:=yq hsc;obtain⟨hll,la,lcap,rfl,hlc⟩:=hL;have HLC:=yq hlc;obtain⟨hil,ia,icap,rfl,hic⟩:=hI;have HIC:=yq hic;obtain⟨hpl,pa,pcap,rfl,hpc⟩:=hP;have HPC:=yq hpc;obtain⟨hul,ua,ucap,rfl,huc⟩:=hU;have HUC:=yq huc;clear hcc hsc hlc hic hpc huc
 go_enter func26,ntmps26
 go_upto_region 1 with fail
 go_cut [3]from 17 (fun v3 wx=>∃g,v3= .pointer (some ⟨g,0,none⟩)/\dx w (dS R (.slice ca R.credits.length ccap) (.slice sa R.series.length scap) (.slice la R.lets.length lcap) (.slice ia R.ifs.length icap) (.slice pa R.pays.length pcap) (.slice ua R.cuts.length ucap)) g #[.int .i64 (pick R.frm 73049),.int .i64 (pick R.mode 4+1),.int .i64 (aS (pick R.unit 5)),.slice none 0 0,.slice none 0 0,.slice none 0 0,.slice none 0 0,.slice none 0 0] wx)
 case first=>
  obtain⟨hp0,hp5⟩:=pick_bd R.unit 5 zb;have hpm:=pick_bd R.mode 4 zb;have hM:IntKind.i64.wrap (pick R.mode 4+1)=pick R.mode 4+1:=IntWalk.i64_in _ zb;clear hpm;have hA:=Nj ((w.alloc ((.cells #[.int .i64 R.frm,.int .i64 R.mode,.int .i64 R.unit,(.slice ca R.credits.length ccap),(.slice sa R.series.length scap),(.slice la R.lets.length lcap),(.slice ia R.ifs.length icap),(.slice pa R.pays.length pcap),(.slice ua R.cuts.length ucap),.int .i64 R.twist] 49))).alloc ((.cells #[.int .i64 0,.int .i64 0,.int .i64 0,.slice none 0 0,.slice none 0 0,.slice none 0 0,.slice none 0 0,.slice none 0 0] 82))) (pick R.unit 5) (w.heap.size+1+1) zd hp0 hp5;have hB:=Nj (((w.alloc ((.cells #[.int .i64 R.frm,.int .i64 R.mode,.int .i64 R.unit,(.slice ca R.credits.length ccap),(.slice sa R.series.length scap),(.slice la R.lets.length lcap),(.slice ia R.ifs.length icap),(.slice pa R.pays.length pcap),(.slice ua R.cuts.length ucap),.int .i64 R.twist] 49))).alloc ((.cells #[.int .i64 0,.int .i64 0,.int .i64 0,.slice none 0 0,.slice none 0 0,.slice none 0 0,.slice none 0 0,.slice none 0 0] 82))).alloc ((.cells #[.int .i64 0,.int .i64 0,.int .i64 0,.slice none 0 0,.slice none 0 0,.slice none 0 0,.slice none 0 0,.slice none 0 0] 82))) (pick R.unit 5) (w.heap.size+1+1+1) zd hp0 hp5;refine TG.begin 16 (fun w'=>w'.cell? ⟨w.heap.size,0,none⟩=some (.int .i64 R.frm)/\w'.cell? ⟨w.heap.size,1,none⟩=some (.int .i64 R.mode)/\w'.cell? ⟨w.heap.size,2,none⟩=some (.int .i64 R.unit)) ze ze zD (fun hS=>?_);refine TG.tkB 0 hS ?_;refine TG.tkB 1 hS ?_;refine TG.takeC (i:=2) (v:=(.int .i64 (pick R.frm 73049))) (fn:=10) (args:=#[.int .i64 R.frm,.int .i64 73049]) rfl ze ze ze zf (fun _ _ _ h=>h) rfl hS ?_ ?_ ?_
  focus
   intro wS hSw
   (try dsimp only at hSw)
   go_simp
  focus exact fun wS _=>(Pick_any _ _ _ zb)
  (try simp only [nS])
  refine TG.tkB 3 hS ?_;refine TG.tkB 4 hS ?_;refine TG.takeC (i:=5) (v:=(.int .i64 (pick R.mode 4))) (fn:=10) (args:=#[.int .i64 R.mode,.int .i64 4]) rfl ze ze ze zf (fun _ _ _ h=>h) rfl hS ?_ ?_ ?_
  focus
   intro wS hSw
   (try dsimp only at hSw)
   go_simp
  focus exact fun wS _=>(Pick_any _ _ _ zb)
  (try simp only [nS])
  refine TG.tkB 6 hS ?_;refine TG.tkB 8 hS ?_;refine TG.tkB 9 hS ?_;refine TG.takeC (i:=10) (v:=(.int .i64 (pick R.unit 5))) (fn:=10) (args:=#[.int .i64 R.unit,.int .i64 5]) rfl ze ze ze zf (fun _ _ _ h=>h) rfl hS ?_ ?_ ?_
  focus
   intro wS hSw
   (try dsimp only at hSw)
   go_simp
  focus exact fun wS _=>(Pick_any _ _ _ zb)
  (try simp only [nS])
  refine TG.two (i:=7) (k:=15) ze rfl rfl (fun K1 hK1=>?_) (fun K1 hK1=>?_)
  ·go_simp
   refine TG.go hK1 ?_ (fun hS=>?_)
   focus
    (try dsimp only)
    go_keep
   clear hK1 K1
   (try simp only [nS])
   refine TG.tkB 11 hS ?_;refine TG.two (i:=12) (k:=15) ze rfl rfl (fun K1 hK1=>?_) (fun K1 hK1=>?_)
   focus
    go_simp
    refine TG.go hK1 ?_ (fun hS=>?_)
    focus
     (try dsimp only)
     go_keep
    clear hK1 K1
    (try simp only [nS])
    refine TG.tkB 13 hS ?_;refine TG.tkB 14 hS ?_;refine TG.one (i:=15) ze rfl (fun K1 hK1=>?_)
    go_simp
    refine TG.go hK1 ?_ (fun hS=>?_)
    focus
     (try dsimp only)
     go_keep
    clear hK1 K1
    (try simp only [nS])
   rotate_left
   focus
    go_simp
    refine TG.go hK1 ?_ (fun hS=>?_)
    focus
     (try dsimp only)
     go_keep
    clear hK1 K1
    (try simp only [nS])
    refine TG.one (i:=12) ze rfl (fun K1 hK1=>?_)
    go_simp
    refine TG.go hK1 ?_ (fun hS=>?_)
    focus
     (try dsimp only)
     go_keep
    clear hK1 K1
    (try simp only [nS])
    refine TG.tkB 13 hS ?_;refine TG.tkB 14 hS ?_
   rotate_left
   all_goals
    refine TG.one (i:=16) ze rfl (fun K1 hK1=>?_)
    go_simp
    refine hK1 _ _ (fun h=>absurd rfl h) (TG.done ze ?_);clear hK1 K1 hS
    (try simp only [nS])
    go_wp2_with fail
    go_meet
    exact⟨_,rfl,dx.start_a _ _ _ _⟩
  ·go_simp
   refine TG.go hK1 ?_ (fun hS=>?_)
   focus
    (try dsimp only)
    go_keep
   clear hK1 K1
   (try simp only [nS])
   refine TG.one (i:=7) ze rfl (fun K1 hK1=>?_)
   go_simp
   refine TG.go hK1 ?_ (fun hS=>?_)
   focus
    (try dsimp only)
    go_keep
   clear hK1 K1
   (try simp only [nS])
   refine TG.tkB 11 hS ?_;refine TG.one (i:=12) ze rfl (fun K1 hK1=>?_)
   go_simp
   refine TG.go hK1 ?_ (fun hS=>?_)
   focus
    (try dsimp only)
    go_keep
   clear hK1 K1
   (try simp only [nS])
   refine TG.tkB 13 hS ?_;refine TG.tkB 14 hS ?_;refine TG.one (i:=16) ze rfl (fun K1 hK1=>?_)
   go_simp
   refine hK1 _ _ (fun h=>absurd rfl h) (TG.done ze ?_);clear hK1 K1 hS
   (try simp only [nS])
   go_wp2_with fail
   go_meet
   exact⟨_,rfl,dx.start_b _ _ _ _⟩
 obtain⟨g,rfl,hof⟩:=hcut;have hgl:=hof.lt;have HOF:=yq hof;clear hof
 go_upto_block 0 with fail
 go_cut []from 17 (fun wx=>∃vcr H1,dx w (dS R (.slice ca R.credits.length ccap) (.slice sa R.series.length scap) (.slice la R.lets.length lcap) (.slice ia R.ifs.length icap) (.slice pa R.pays.length pcap) (.slice ua R.cuts.length ucap)) g #[.int .i64 (pick R.frm 73049),.int .i64 (pick R.mode 4+1),.int .i64 (aS (pick R.unit 5)),vcr,.slice none 0 0,.slice none 0 0,.slice none 0 0,.slice none 0 0] wx/\(g<H1/\H1<=wx.heap.size)/\bI 133 2 H1 wx vcr (bf R (gy R)) [])
 case first=>
  go_wp2_with fail
  go_loopw [5] (fun v5 wr=>∃k:Nat,∃vcr:Value,k<=R.credits.length/\k<=4/\v5= .int .i64 k/\dx w (dS R (.slice ca R.credits.length ccap) (.slice sa R.series.length scap) (.slice la R.lets.length lcap) (.slice ia R.ifs.length icap) (.slice pa R.pays.length pcap) (.slice ua R.cuts.length ucap)) g #[.int .i64 (pick R.frm 73049),.int .i64 (pick R.mode 4+1),.int .i64 (aS (pick R.unit 5)),vcr,.slice none 0 0,.slice none 0 0,.slice none 0 0,.slice none 0 0] wr/\wr.heap[wc.heap.size]? =some Rf/\bI 133 2 (wc.heap.size+1) wr vcr (bf R k) []) (fun v5 _=>4-(intOf v5).toNat)
  case atStart=>exact⟨0,_,by omega,by omega,rfl,HOF.out.alloc _,heap_new _ _ _ rfl,.nil _ _ _ _⟩
  case round=>
   obtain⟨k,vcr,hk,hk4,rfl,hof,hkd,hrow⟩:=hrel;have hbx:wr.cell? ⟨w.heap.size,3,none⟩=some (.slice ca R.credits.length ccap):=cell_of_row _ _ _ _ _ _ hof.box;have hoc:wr.cell? ⟨g,3,none⟩=some vcr:=cell_of_row _ _ _ _ _ _ hof.out;have hof1:wr.frozen? ⟨g,3,none⟩=false:=Joins.unfrozen_of_block hof.out 3;have hl0:=hof.lt0;have hl1:w.heap.size<wr.heap.size:=by omega
   have hl2:=hof.lt;have hl3:wc.heap.size<wr.heap.size:=(Array.getElem?_eq_some_iff.1 hkd).1;have HKD:=yq hkd;have HOFR:=yq hof;have HROW:=yq hrow;have HCL:=yq (qQ R k);obtain⟨aa,acap,rfl⟩:=hrow.form;clear hof hkd hrow hl0;by_cases hlt:k<R.credits.length
   ·by_cases hlt4:k<4
    ·rcases HCC.out with h0|⟨b,off,rfl,hb,hx⟩
     ·omega
     ·have hx0:=hx 0 zb;have hxk:=hx k hlt;have hkb:b<wr.heap.size:=by omega
      have hy0:wr.cell? ⟨b,off,none⟩=some (.int .i64 (R.credits.getD 0 0)):=by rw [HOFR.out.bel.cell zU];exact hx0
      have hyk:wr.cell? ⟨b,off+k,none⟩=some (.int .i64 (R.credits.getD k 0)):=by rw [HOFR.out.bel.cell zU];exact hxk
      clear hx0 hxk hx;have d1:(k:Int)<(R.credits.length:Int):=by omega
      have d2:(k:Int)<4:=by omega
      have d3:(0:Int)<(R.credits.length:Int):=by omega
      have hp0:=pick_bd (R.credits.getD 0 0) 6 zb;have HSU:=yq (uW R k)
      have hkk:wr.cell? ⟨wc.heap.size,(((k:Int)+pick (R.credits.getD 0 0) 6) % 6).toNat,none⟩=some (.int .i64 (Dp R k)):=by
       rw [cell_of_row _ _ _ _ _ _ HKD.out];exact Ji _ zb zb
      have hpk:=pick_bd (R.credits.getD k 0) 900 zb;have HKV:Hid (Dn R k=if(R.credits.getD k 0).tmod 3=0 then pick (R.credits.getD k 0) 900+1 else 0):=yq rfl;generalize hz0:R.credits.getD 0 0=z0 at *;generalize hzk:R.credits.getD k 0=zk at *;generalize hpv:pick z0 6=pv at *;have HPV:=yq hpv;generalize hkv:Dp R k=kv at *;generalize hlv:Dn R k=lv at *;clear hz0 hzk hkv hlv hpv;obtain⟨hp1,hp2⟩:=hp0;have HGE:=yq (HOF.out.gge);have hsz1:wc.heap.size+1<=wr.heap.size:=by omega
      by_cases ht:zk.tmod 3=0
      focus
       rw [if_pos ht]at HKV
       go_wp2_with (first
        |(go_at_call 10;refine gw (Pick_any _ _ _ zb) ?_;try simp only [HPV.out])
        |(at_builtin;refine wpList_append_lies _ rfl _ _ 77 rfl (wc.heap.size+1) 133 i0 _ 2 16 underlying77 hi hz0 hz1 hz2 rfl zf _ _ _ rfl ((HROW.out.alloc _).alloc _).own ⟨wr.heap.size+1,0,none⟩ 1 1 [.int .i64 kv,.int .i64 (pick zk 900+1)] rfl rfl ?c1 ?c2 zf ?c3 ?c4 ?c5 (wr.heap.size+2) zd ?_))
       case c1=>exact news_cells _ [.int .i64 kv,.int .i64 (pick zk 900+1)] _ _ zd
       case c2=>intro u hu;simp at hu;rcases hu with rfl|rfl<;>rfl
       case c3=>have:=HCL.out;unfold maxLen;omega
       case c4=>have:=HCL.out;omega
       case c5=>simp;omega
       intro g' cap w1 hown' hgrow hat hlt';have R1:=bI.push (rs2:=[]) (m:=wr.heap.size) ((HROW.out.alloc _).alloc _) (fun x hx=>by cases hx) hsz1 (fun j hj=>(HROW.out.lt j hj).2) rfl rfl rfl hown' hgrow hat zd;have O1:=((HOFR.out.alloc (.cells #[.int .i64 kv,.int .i64 (pick zk 900+1)] 133)).alloc (.cells #[.int .i64 kv,.int .i64 (pick zk 900+1)] 133)).grown hgrow (fun j hj=>by have:=(HROW.out.lt j hj).1;have:=HGE.out;omega)
      rotate_left
      focus
       rw [if_neg ht]at HKV
       go_wp2_with (first
        |(go_at_call 10;refine gw (Pick_any _ _ _ zb) ?_;try simp only [HPV.out])
        |(at_builtin;refine wpList_append_lies _ rfl _ _ 77 rfl (wc.heap.size+1) 133 i0 _ 2 16 underlying77 hi hz0 hz1 hz2 rfl zf _ _ _ rfl ((HROW.out.alloc _).alloc _).own ⟨wr.heap.size+1,0,none⟩ 1 1 [.int .i64 kv,.int .i64 (0)] rfl rfl ?c1 ?c2 zf ?c3 ?c4 ?c5 (wr.heap.size+2) zd ?_))
       case c1=>exact news_cells _ [.int .i64 kv,.int .i64 (0)] _ _ zd
       case c2=>intro u hu;simp at hu;rcases hu with rfl|rfl<;>rfl
       case c3=>have:=HCL.out;unfold maxLen;omega
       case c4=>have:=HCL.out;omega
       case c5=>simp;omega
       intro g' cap w1 hown' hgrow hat hlt';have R1:=bI.push (rs2:=[]) (m:=wr.heap.size) ((HROW.out.alloc _).alloc _) (fun x hx=>by cases hx) hsz1 (fun j hj=>(HROW.out.lt j hj).2) rfl rfl rfl hown' hgrow hat zd;have O1:=((HOFR.out.alloc (.cells #[.int .i64 kv,.int .i64 (0)] 133)).alloc (.cells #[.int .i64 kv,.int .i64 (0)] 133)).grown hgrow (fun j hj=>by have:=(HROW.out.lt j hj).1;have:=HGE.out;omega)
      rotate_left
      all_goals
       have K1:=(hgrow.block wc.heap.size zg (fun e=>by have:=(HROW.out.lt _ e.symm).1;omega)).trans ((Below.heap_alloc _ _ _ zg).trans ((Below.heap_alloc _ _ _ hl3).trans HKD.out));have hoc2:w1.cell? ⟨g,3,none⟩=some (.slice aa (bf R k).length acap):=cell_of_row _ _ _ _ _ _ O1.out;have hof2:w1.frozen? ⟨g,3,none⟩=false:=Joins.unfrozen_of_block O1.out 3;have R2:=yq (R1.setCell (a:=⟨g,3,none⟩) (show g<wc.heap.size+1 by omega) (.slice (some ⟨g',0,none⟩) ((bf R k).length+1) cap));have O2:=yq (O1.store 3 (.slice (some ⟨g',0,none⟩) ((bf R k).length+1) cap));have K2:=yq ((Below.heap_setCell w1 ⟨g,3,none⟩ (.slice (some ⟨g',0,none⟩) ((bf R k).length+1) cap) wc.heap.size (by show wc.heap.size≠g;omega)).trans K1);clear hown' hgrow hat hlt' R1 O1 K1
       go_wp2_with fail
       go_roundw
       case rel=>exact⟨k+1,_,by omega,by omega,by go_num,O2.out,K2.out,by rw [HSU.out,HKV.out];exact R2.out⟩
       case measure=>simp [intOf];omega
    ·go_wp2_with fail
     go_meet
     exact⟨_,wc.heap.size+1,HOFR.out,⟨by omega,by omega⟩,by rw [show gy R=k by unfold gy;omega];exact HROW.out⟩
   ·go_wp2_with fail
    go_meet
    exact⟨_,wc.heap.size+1,HOFR.out,⟨by omega,by omega⟩,by rw [show gy R=k by unfold gy;omega];exact HROW.out⟩
 obtain⟨vcr,H1,hof,⟨hgH1,hH1⟩,hrow1⟩:=hcut;have HROW1:=yq hrow1.upto;have HOF1:=yq hof;have hgl1:=hof.lt;clear HOF hgl hof hrow1
 go_step
 apply Ny R w h1 h2 h3 h4 ca sa la ia pa ua ccap scap lcap icap pcap ucap hcl hsl hll hil hpl hul HCC HSC HLC HIC HPC HUC g _ wc vcr H1 hgH1 hH1 HROW1 HOF1 hgl1
theorem OW:Hid OfSaid:=yq (by
 intro R cs w hR;obtain⟨h1,h2,h3,h4,vc,vs,vl,vi,vp,vu,he,hC,hS,hL,hI,hP,hU⟩:=hR;obtain⟨l⟩:=cs;simp only at he;subst he
 exact QB R vc vs vl vi vp vu w h1 h2 h3 h4 hC hS hL hI hP hU)
open Go.RowKit Go.ChangeShapes Go.WideShapes Go.Deep
section
variable {H : Type} {enc : TypeId × Value -> H} {P : Program} {w : World}
theorem dM.of_trod{t e q:TypeId}{fuel:Nat}{v:Value}{x:DataW H × List MemPlace}(ht:P.underlying t=some (.slice e))(he:P.underlying e=some (.slice q))(hq:P.underlying q=some (.int .i64))(ce:P.cellsOf e=1)(cq:P.cellsOf q=1)(be:P.bytesOf e=24)(bq:P.bytesOf q=8)
 (h:DataW.trod enc P w 0 (fun _=>true) true fuel t [v]=some x) (hf:fits P t x.1):∃zss,dM w v zss:=by
 rcases open_int_rows ht he hq ce cq h with ⟨hcs,_⟩|⟨a,len,cap,A,L,C,Z,hcs,_,hl,hm,hx,hr⟩
 ·simp at hcs;subst hcs;exact⟨[],by simp,none,0,rfl,.inl rfl⟩
 ·simp at hcs;subst hcs
  have h8:len<=140737488355328:=by
   have h9:=hf ((len+(cap-len))*24) (by rw [hx];simp [DataW.weights,ht,be]);omega
  have hrow:∀r,r<len->aD w (.slice (A r) (L r) (C r)) ((Z r).take (L r)):=by
   intro r hrl;obtain⟨h1,h2,h3,h4,h5,h6,h7⟩:=hr r zb;refine aD.of_cells h2 h4 h5 ?_ (fun e=>by have:=h6 e;omega) (fun x' hx' i hi=>(h7 x' hx').2 i hi)
   cases hA:A r with
   |none=>have:=h6 hA;omega
   |some y=>
    have h9:=hf ((L r+(C r-L r))*8) (by
     rw [hx];simp only [DataW.weights,ht,mem_cons,mem_append];right;left
     have key:∀(l:List Nat),r∈l->(L r+(C r-L r))*8∈DataW.weightsAll P e (l.map fun r=>(intRow (H:=H) .i64 (A r) (L r) (Z r))):=by
      intro l
      induction l with
      |nil=>intro h;cases h
      |cons y' l ih=>
       intro h;simp only [map_cons,DataW.weightsAll,mem_append];rcases mem_cons.1 h with rfl|h
       ·left;simp [intRow,hA,DataW.weights,he,lits,bq,h4,Nat.min_eq_left h2]
       ·exact .inr (ih h)
     exact key _ (mem_range.2 hrl))
    omega
  refine⟨(List.range len).map fun r=>(Z r).take (L r),by simpa using h8,some a,cap,by simp, ?_⟩;by_cases h0:len=0
  ·left;simp [h0]
  ·right;obtain⟨b,off,spot⟩:=a;have h1:=(hr 0 zb).1;have hspot:spot=none:=by simpa [Addr.add]using World.cell?_spot h1
   subst hspot
   have h2:∀i,i<cap->w.cell? ⟨b,off+i,none⟩=some (.slice (A i) (L i) (C i)):=fun i hi=>by
    rw [<-GZ];exact(hr i hi).1
   refine⟨b,off,rfl,GU (h2 0 zb),fun i hi=>?_⟩;have hi':i<len:=by simpa using hi
   refine⟨_,h2 i zb, ?_⟩;have:((List.range len).map fun r=>(Z r).take (L r)).getD i []=(Z i).take (L i):=by simp [getD_eq_getElem?_getD,hi']
   rw [this];exact hrow i hi'
end
theorem Qu{α:Type}{cs:Array α}(h:cs.size=10):∃c0 c1 c2 c3 c4 c5 c6 c7 c8 c9,cs=#[c0,c1,c2,c3,c4,c5,c6,c7,c8,c9]:=by
 obtain⟨l⟩:=cs
 match l,h with
 | [c0,c1,c2,c3,c4,c5,c6,c7,c8,c9],_=>exact⟨c0,c1,c2,c3,c4,c5,c6,c7,c8,c9,rfl⟩
theorem c25:(prog).cellsOf 49=10:=by kernel_rfl
theorem c23:(prog).cellsOf 47=1:=by kernel_rfl
theorem qa.of_trod{H:Type}{enc:TypeId × Value->H}{w:World}{r:Reach}{b0:Nat}{v:Value}{d:DataW H}{p:List MemPlace}(hv:Value.okWide prog w r b0 49 v)
 (h:DataW.Trod enc prog w 0 (fun _=>true) true 49 v d p) (hf:fits prog 49 d) :
 ∃R cs,v= .agg cs/\qa w cs.toList R:=by
 have ht:=underlying49;obtain⟨cs,rfl,hsz⟩:=okWide_struct ht hv;obtain⟨c0,c1,c2,c3',c4,c5,c6,c7,c8,c9,rfl⟩:=Qu (hsz.trans c25);obtain⟨fuel,h⟩:=h;obtain⟨xs,n,_,hx,_,hlen,hF⟩:=DataW.trod_struct ht h;simp only [Prod.mk.injEq]at hx;obtain⟨rfl,-⟩:=hx;have k0:=hF 0 _ rfl;have k1:=hF 1 _ rfl;have k2:=hF 2 _ rfl;have k3:=hF 3 _ rfl;have k4:=hF 4 _ rfl;have k5:=hF 5 _ rfl;have k6:=hF 6 _ rfl;have k7:=hF 7 _ rfl;have k8:=hF 8 _ rfl;have k9:=hF 9 _ rfl;simp only [Value.cells,drop_zero,drop_succ_cons,take_succ_cons,take_zero]at k0 k1 k2 k3 k4 k5 k6 k7 k8 k9
 match xs,hlen with
 | [y0,y1,y2,y3,y4,y5,y6,y7,y8,y9],_=>
   obtain⟨n0,rfl,w0⟩:=jE k0;obtain⟨n1,rfl,w1⟩:=jE k1;obtain⟨n2,rfl,w2⟩:=jE k2;obtain⟨n9,rfl,w9⟩:=jE k9;obtain⟨z3,w3⟩:=aD.of_trod underlying22 underlying3 c3 b3 k3 (iT ht hf (i:=3) rfl rfl);obtain⟨z4,w4⟩:=aD.of_trod underlying22 underlying3 c3 b3 k4 (iT ht hf (i:=4) rfl rfl);obtain⟨z5,w5⟩:=dM.of_trod underlying47 underlying22 underlying3 c22 c3 b22 b3 k5 (iT ht hf (i:=5) rfl rfl);obtain⟨z6,w6⟩:=dM.of_trod underlying47 underlying22 underlying3 c22 c3 b22 b3 k6 (iT ht hf (i:=6) rfl rfl);obtain⟨z7,w7⟩:=dM.of_trod underlying47 underlying22 underlying3 c22 c3 b22 b3 k7 (iT ht hf (i:=7) rfl rfl);obtain⟨z8,w8⟩:=dM.of_trod underlying47 underlying22 underlying3 c22 c3 b22 b3 k8 (iT ht hf (i:=8) rfl rfl);exact⟨⟨n0,n1,n2,z3,z4,z5,z6,z7,z8,n9⟩,_,rfl,w0,w1,w2,w9,c3',c4,c5,c6,c7,c8,rfl,w3,w4,w5,w6,w7,w8⟩
end Go.Proofs.YtfoefpoaomepbaaGreatDoor
