import Derived.Test.YteildlpchhlchaaGreatDoorRCodS
import Derived.Test.YteildlpchhlchaaGreatDoorRAw9R
set_option linter.all false
set_option maxHeartbeats 16000000
set_option maxRecDepth 1000000
namespace Go.Proofs.YteildlpchhlchaaGreatDoor
open Tryz List
open Go.RowKit
def Mw(w:World)(n m:Nat)(e:Ending)(w':World):Prop:=
 ∃a c sa sc base l sl,e= .returned (.agg #[.slice a l.length c,.slice sa sl.length sc])/\w.Grows w'/\eH base w' (.slice a l.length c) l/\w'.ownsRow base 9 1 (.slice sa sl.length sc) sl.length (slV sl)/\l.length<=n+3/\sl.length=m/\dD l/\∀s∈sl,s.size<=maxLen
theorem Ov:(prog.info? 9).map (fun i=>(i.zero,i.size,i.bytes))=some (some (.string ⟨#[]⟩),1,16):=by kernel_rfl
def spN(k:Nat):ByteArray:=[(⟨#[120]⟩:ByteArray),⟨#[105,102]⟩,⟨#[81]⟩,⟨#[]⟩].getD k ByteArray.empty
structure jU(w:World)(base g n m i:Nat)(vI vS:Value)(l:List Ins)(sl:List ByteArray)(W:World):Prop where
 c:Spo w base g vI vS vI vS l sl W
 ok:dD l
 nl:l.length<=n+i
 ml:sl.length=m
 sz:∀s∈sl,s.size<=maxLen
theorem jU.grows{w W W':World}{base g n m i:Nat}{vI vS:Value}{l:List Ins}{sl:List ByteArray}(h:jU w base g n m i vI vS l sl W)(hg:W.Grows W'):jU w base g n m i vI vS l sl W':=⟨h.c.grows hg,h.ok,h.nl,h.ml,h.sz⟩
theorem jU.later{w W:World}{base g n m i j:Nat}{vI vS:Value}{l:List Ins}{sl:List ByteArray}(h:jU w base g n m i vI vS l sl W)(hij:i<=j):jU w base g n m j vI vS l sl W:=⟨h.c,h.ok,by have:=h.nl;omega,h.ml,h.sz⟩
theorem Spo.first{w W:World}{g n m:Nat}{cI cS vI vS:Value}{l:List Ins}{sl:List ByteArray}{ty:TypeId}{B1 B2:Nat}(hg:w.Grows W)(h1:w.heap.size<=B1)(h2:w.heap.size<=B2)(hn:l.length=n)(hm:sl.length=m)(hr:W.ownsRow B1 118 4 vI n (aU l))(hs:W.ownsRow B2 9 1 vS m (slV sl))(hwg:w.heap.size<=g)(hb:W.heap[g]? =some (.cells #[cI,cS] ty (0,0)))
 (d1:∀b,vI.ownBlock=some b->vS.ownBlock≠some b) (d2:vI.ownBlock≠some g) (d3:vS.ownBlock≠some g):Spo w w.heap.size g cI cS vI vS l sl W:=by
 subst hn hm;exact⟨hg,hwg,Nat.le_refl _,(Array.getElem?_eq_some_iff.1 hb).1,hg.below.size,⟨ty,hb⟩,sj hr h1,sj hs h2,d1,d2,d3⟩
theorem Spo.fin{w W:World}{o1 o2:Obj}{base g:Nat}{cI cS vI vS:Value}{l:List Ins}{sl:List ByteArray}(h:Spo ((w.alloc o1).alloc o2) base g cI cS vI vS l sl W)(a b:Value):∀W',W'=(W.setCell ⟨w.heap.size+1,0,none⟩ a).setCell ⟨w.heap.size+1,1,none⟩ b->
 w.Grows W'/\eH base W' vI l/\W'.ownsRow base 9 1 vS sl.length (slV sl):=by
 rintro W' rfl;have hwb:w.heap.size+1<base:=by have:=h.wb;simp at this;omega
 have h0:w.Grows W:=gqq af h.gr;have g1:=eB W (w.heap.size+1) 0 a;have g2:=eB (W.setCell ⟨w.heap.size+1,0,none⟩ a) (w.heap.size+1) 1 b
 have hk:∀(v:Value),(∀k,v.ownBlock=some k->base<=k)->∀k,some (w.heap.size+1)=some k->v.ownBlock≠some k:=fun v hv k e e2=>by
  cases e;have:=hv _ e2;omega
 refine⟨.of_below ((h0.below.setCell (Nat.le_succ _) a).setCell (Nat.le_succ _) b), ?_, ?_⟩
 ·exact bD (bD h.row g1 (hk _ fun k e=>(h.row.lt k e).1)) g2 (hk _ fun k e=>(h.row.lt k e).1)
 ·exact bD (bD h.slr g1 (hk _ fun k e=>(h.slr.lt k e).1)) g2 (hk _ fun k e=>(h.slr.lt k e).1)
theorem De(b o j:Nat):(⟨b,o,none⟩:Addr).add j=⟨b,o+j,none⟩:=by unfold Addr.add;split<;>simp_all
theorem Gp{P:Program}{c:Code}{Q:Exit->Act->World->Prop}{a:Act}{w:World}(R:(Exit->Act->World->Prop)->Prop)(h1:R Q)(h2:R Q->c.wp P Q a w):c.wp P Q a w:=h2 h1
def sq1:Code->Code| .seq a _=>a|c=>c
def sq2:Code->Code| .seq _ b=>b|c=>c
def Jf:Code->Code| .block _ b=>b|c=>c
def QJ:Code->Code| .loop b=>b|c=>c
theorem dN(k:Int)(h1:1<=k)(h2:k<=10000)(z:Int)(W:World):Calls prog 10 #[.int .i64 z,.int .i64 k] W fun e w'=>∃r:Int,e= .returned (.int .i64 r)/\(0<=r/\r<k)/\W=w':=(bZ z k W zb).mono fun e w' h=>⟨_,h.1,ed z k h1,h.2⟩
def SpG(w W0:World)(ia sa sa':Option Addr)(ic sc sc' n0 m0 pb po P pc base g gI ci N kk i:Nat)(l:List Ins)(sl:List ByteArray)(qa qk qn:Int)(kd:Int):Prop:=
 ∀(_:Hid (n0<=5000/\m0<=100)) (_:Hid (l.length=N)) (_:Hid (kk<N)) (_:Hid (N<=ci)) (_:Hid (i<P/\i<3)) (_:Hid (N<=5003)) (_:Hid (jU (((w.alloc (.cells #[.slice ia n0 ic,.slice sa m0 sc] 58)).alloc (.cells #[.slice none 0 0,.slice none 0 0] 58))) base g n0 m0 i (.slice (some ⟨gI,0,none⟩) N ci) (.slice sa' sl.length sc') l sl W0))
  (_:Hid (∀W,w.Grows W->pb<W.heap.size/\W.cell? ⟨pb,po+i*3,none⟩=some (.int .i64 qa)/\W.cell? ⟨pb,po+i*3+1,none⟩=some (.int .i64 qk)/\W.cell? ⟨pb,po+i*3+2,none⟩=some (.int .i64 qn)))
  (x8 x9 x10 x11 x12 x13 x14 x15 x16 x17 x18 x19 x20 x21 x22 x23 x24 x25 x26 x27 x28 x29 x30 x31 x32 x33 x34 x35 x36 x37 x38 x39 x40 x41 x42 x43 x44 x45 x46 x48 x49 x50 x51 x52 x53 x54 x55 x56 x57 x58 x59 x60 x61 x62 x63 x64 x65 x66 x67 x68 x69 x70 x71 x72 x73 x74 x75 x76 x77 x78 x79 x80 x81 x82 x83 x84 x85 x86 x87 x88 x89 x90 x91 x92 x93 x94 x95 x96 x97 x98 x99 x100 x101 x102 x103 x104 x105 x106 x107 x108 x109 x110 x111 x112 x113 x114 x115 x116 x117 x118 x119 x120 x121 x122 x123 x124 x125 x126 x127 x128 x129 x130 x131 x132 x133 x134 x135 x136 x137 x138 x139 x140 x141 x142 x143 x144 x145 x146 x147 x148 x149 x150 x151 x152 x153 x154 x155 x156 x157 x158 x159 x160 x161 x162 x163 x164 x165 x166 x167 x168 x169 x170 x171 x172 x173 x174 x175 x176 x177 x178 x179 x180 x181 x182 x183 x184 x185 x186 x187 x188 x189 x190 x191 x192 x193:Value) (Q:Exit->Act->World->Prop) (_:∀(c) (a:Act) (d:Nat) (v:Value) (w:World),Q (.panic c) (a.put (some d) v) w->Q (.panic c) a w) (_:∀(vI vS:Value) (l':List Ins) (sl':List ByteArray) (y7 y8 y9 y17 y18 y19 y20 y21 y22 y23 y24 y25 y26 y27 y28 y29 y30 y31 y32 y33 y34 y35 y36 y37 y38 y39 y40 y41 y42 y43 y44 y45 y46 y47 y48 y49 y50 y51 y52 y53 y54 y55 y56 y57 y58 y59 y60 y61 y62 y63 y64 y65 y66 y67 y68 y69 y70 y71 y72 y73 y74 y75 y76 y77 y78 y79 y80 y81 y82 y83 y84 y85 y86 y87 y88 y89 y90 y91 y92 y93 y94 y95 y96 y97 y98 y99 y100 y101 y102 y103 y104 y105 y106 y107 y108 y109 y110 y111 y112 y113 y114 y115 y116 y117 y118 y119 y120 y121 y122 y123 y124 y125 y126 y127 y128 y129 y130 y131 y132 y133 y134 y135 y136 y137 y138 y139 y140 y141 y142 y143 y144 y145 y146 y147 y148 y149 y150 y151 y152 y153 y154 y155 y156 y157 y158 y159 y160 y161 y162 y163 y164 y165 y166 y167 y168 y169 y170 y171 y172 y173 y174 y175 y176 y177 y178 y179 y180 y181 y182 y183 y184 y185 y186 y187 y188 y189 y190 y191 y192:Value) (W':World),Hid (jU (((w.alloc (.cells #[.slice ia n0 ic,.slice sa m0 sc] 58)).alloc (.cells #[.slice none 0 0,.slice none 0 0] 58))) base g n0 m0 (i+1) vI vS l' sl' W')->Q .normal {tmps:=#[.agg #[.slice ia n0 ic,.slice sa m0 sc],.slice (some ⟨pb,po,none⟩) P pc,.pointer (some ⟨w.heap.size,0,none⟩),undef,.pointer (some ⟨w.heap.size+1,0,none⟩),.pointer (some ⟨g,0,none⟩),.int .i64 i,y7,y8,y9,x10,x11,x12,x13,x14,x15,x16,y17,y18,y19,y20,y21,y22,y23,y24,y25,y26,y27,y28,y29,y30,y31,y32,y33,y34,y35,y36,y37,y38,y39,y40,y41,y42,y43,y44,y45,y46,y47,y48,y49,y50,y51,y52,y53,y54,y55,y56,y57,y58,y59,y60,y61,y62,y63,y64,y65,y66,y67,y68,y69,y70,y71,y72,y73,y74,y75,y76,y77,y78,y79,y80,y81,y82,y83,y84,y85,y86,y87,y88,y89,y90,y91,y92,y93,y94,y95,y96,y97,y98,y99,y100,y101,y102,y103,y104,y105,y106,y107,y108,y109,y110,y111,y112,y113,y114,y115,y116,y117,y118,y119,y120,y121,y122,y123,y124,y125,y126,y127,y128,y129,y130,y131,y132,y133,y134,y135,y136,y137,y138,y139,y140,y141,y142,y143,y144,y145,y146,y147,y148,y149,y150,y151,y152,y153,y154,y155,y156,y157,y158,y159,y160,y161,y162,y163,y164,y165,y166,y167,y168,y169,y170,y171,y172,y173,y174,y175,y176,y177,y178,y179,y180,y181,y182,y183,y184,y185,y186,y187,y188,y189,y190,y191,y192,x193],defers:=[]} W'),
  Code.wp prog (sq2 (sq2 (Jf (sq1 (sq2 (QJ (Jf (sq2 (sq1 (sq2 (sq2 (f26.body.getD .skip))))))))))))  Q {tmps:=#[.agg #[.slice ia n0 ic,.slice sa m0 sc],.slice (some ⟨pb,po,none⟩) P pc,.pointer (some ⟨w.heap.size,0,none⟩),undef,.pointer (some ⟨w.heap.size+1,0,none⟩),.pointer (some ⟨g,0,none⟩),.int .i64 i,.int .i64 kk,x8,x9,x10,x11,x12,x13,x14,x15,x16,x17,x18,x19,x20,x21,x22,x23,x24,x25,x26,x27,x28,x29,x30,x31,x32,x33,x34,x35,x36,x37,x38,x39,x40,x41,x42,x43,x44,x45,x46,.int .i64 kd,x48,x49,x50,x51,x52,x53,x54,x55,x56,x57,x58,x59,x60,x61,x62,x63,x64,x65,x66,x67,x68,x69,x70,x71,x72,x73,x74,x75,x76,x77,x78,x79,x80,x81,x82,x83,x84,x85,x86,x87,x88,x89,x90,x91,x92,x93,x94,x95,x96,x97,x98,x99,x100,x101,x102,x103,x104,x105,x106,x107,x108,x109,x110,x111,x112,x113,x114,x115,x116,x117,x118,x119,x120,x121,x122,x123,x124,x125,x126,x127,x128,x129,x130,x131,x132,x133,x134,x135,x136,x137,x138,x139,x140,x141,x142,x143,x144,x145,x146,x147,x148,x149,x150,x151,x152,x153,x154,x155,x156,x157,x158,x159,x160,x161,x162,x163,x164,x165,x166,x167,x168,x169,x170,x171,x172,x173,x174,x175,x176,x177,x178,x179,x180,x181,x182,x183,x184,x185,x186,x187,x188,x189,x190,x191,x192,x193],defers:=[]} W0
variable {w W0 : World} {ia sa sa' : Option Addr} {ic sc sc' n0 m0 pb po P pc base g gI ci N kk i : Nat} {l : List Ins} {sl : List ByteArray} {qa qk qn : Int}
theorem Kb:SpG w W0 ia sa sa' ic sc sc' n0 m0 pb po P pc base g gI ci N kk i l sl qa qk qn 0:=by
 intro HN HNL HKN HCI HI3 HN5 H0 HPC
 intros
 rename_i Q hpan hQ
 obtain⟨i0,hi,hz1,hz2,hz3⟩:=info_parts fq;have z0:=H0.out.c.c0;have z1:=H0.out.c.c1;have zl:=H0.out.c.gW;obtain⟨hb0,p1,p2,p3⟩:=HPC.out W0 (gqq af H0.out.c.gr);have hgI:=(H0.out.c.row.lt gI rfl).2;have d1:(i:Int)<(P:Int):=by have:=HI3.out;omega
 have d0:(0:Int)<=(i:Int):=by omega
 have d2:(i:Int)<3:=by have:=HI3.out;omega
 have e0:(0:Int)<=(kk:Int):=by omega
 have e1:(kk:Int)<(N:Int):=by have:=HKN.out;omega
 have d3:(0:Int)<(N:Int):=by omega
 have hN6:(N:Int)<=5003:=by have:=HN5.out;omega
 have hw3:IntKind.i64.wrap ((N:Int)+3)=(N:Int)+3:=IntWalk.i64_in _ zb;have HP26:=yq (dN 26 zb zb);have HP9:=yq (dN 9 zb zb);have HP4:=yq (dN 4 zb zb);have HP5:=yq (dN 5 zb zb);have HP6:=yq (dN 6 zb zb);have HPN3:=yq (dN ((N:Int)+3) zb zb)
 conv=>arg 2;whnf
 go_upto_region 8 with fail
 refine TS.begin [11] (World.Grows W0) zd zd aj (fun hS=>?_);refine kq 0 hS ?_;refine kq 1 hS ?_;refine kq 2 hS ?_;refine kq 3 hS ?_;refine kq 4 hS ?_;refine kq 5 hS ?_;refine kq 6 hS ?_;refine kq 7 hS ?_;refine TS.one (i:=8) zd rfl (fun K1 hK1=>?_);have HK1:=yq hK1;clear hK1 hS;dsimp only [getElem_toArray,getElem_cons_succ,getElem_cons_zero]
 go_simp
 go_at_call 10
 refine(HP26.out _ _).mono ?_;rintro e' w' ⟨r,rfl,⟨hr0,hr1⟩,rfl⟩;refine TS.go HK1.out af (fun hS=>?_);clear HK1 K1
 (try simp only [nS])
 refine kq 9 hS ?_;refine kq 10 hS ?_;obtain⟨⟨u0,y0⟩,yf⟩:=H0.out.c.cellI HNL.out.symm (kk*4) zE
 have hmk:∀W,W0.Grows W->jU (((w.alloc (.cells #[.slice ia n0 ic,.slice sa m0 sc] 58)).alloc (.cells #[.slice none 0 0,.slice none 0 0] 58))) base g n0 m0 (i+1) (.slice (some ⟨gI,0,none⟩) N ci) (.slice sa' sl.length sc') (l.set kk {l.getD kk default with op:=r}) sl (W.setCell ⟨gI,kk*4,none⟩ (.int .i64 r)):=fun W hg=>by
  have h:=H0.out.grows hg;exact⟨h.c.poke HNL.out.symm _ _ (Iz l kk r zE) ze,h.ok.set kk (h.ok.at kk),by rw [length_set];have:=h.nl;omega,h.ml,h.sz⟩
 refine TS.weB 11 ?_;exact Ri
theorem Ka:SpG w W0 ia sa sa' ic sc sc' n0 m0 pb po P pc base g gI ci N kk i l sl qa qk qn 1:=by
 intro HN HNL HKN HCI HI3 HN5 H0 HPC
 intros
 rename_i Q hpan hQ
 obtain⟨i0,hi,hz1,hz2,hz3⟩:=info_parts fq;have z0:=H0.out.c.c0;have z1:=H0.out.c.c1;have zl:=H0.out.c.gW;obtain⟨hb0,p1,p2,p3⟩:=HPC.out W0 (gqq af H0.out.c.gr);have hgI:=(H0.out.c.row.lt gI rfl).2;have d1:(i:Int)<(P:Int):=by have:=HI3.out;omega
 have d0:(0:Int)<=(i:Int):=by omega
 have d2:(i:Int)<3:=by have:=HI3.out;omega
 have e0:(0:Int)<=(kk:Int):=by omega
 have e1:(kk:Int)<(N:Int):=by have:=HKN.out;omega
 have d3:(0:Int)<(N:Int):=by omega
 have hN6:(N:Int)<=5003:=by have:=HN5.out;omega
 have hw3:IntKind.i64.wrap ((N:Int)+3)=(N:Int)+3:=IntWalk.i64_in _ zb;have HP26:=yq (dN 26 zb zb);have HP9:=yq (dN 9 zb zb);have HP4:=yq (dN 4 zb zb);have HP5:=yq (dN 5 zb zb);have HP6:=yq (dN 6 zb zb);have HPN3:=yq (dN ((N:Int)+3) zb zb)
 conv=>arg 2;whnf
 go_upto_region 10 with fail
 refine TS.begin [16] (World.Grows W0) zd zd aj (fun hS=>?_);refine kq 0 hS ?_;refine kq 1 hS ?_;refine kq 2 hS ?_;refine kq 3 hS ?_;refine kq 4 hS ?_;refine kq 5 hS ?_;refine kq 6 hS ?_;refine kq 7 hS ?_;refine kq 8 hS ?_;refine kq 9 hS ?_;refine kq 10 hS ?_;refine kq 11 hS ?_;refine TS.one (i:=12) zd rfl (fun K1 hK1=>?_);have HK1:=yq hK1;clear hK1 hS;dsimp only [getElem_toArray,getElem_cons_succ,getElem_cons_zero]
 go_simp
 go_at_call 10
 refine(HPN3.out _ _).mono ?_;rintro e' w' ⟨r,rfl,⟨hr0,hr1⟩,rfl⟩;refine TS.go HK1.out af (fun hS=>?_);clear HK1 K1
 (try simp only [nS])
 have hwr:IntKind.i64.wrap (r-1)=r-1:=IntWalk.i64_in _ zb;refine kq 13 hS ?_;refine kq 14 hS ?_;refine kq 15 hS ?_;obtain⟨⟨u0,y0⟩,yf⟩:=H0.out.c.cellI HNL.out.symm (kk*4+1) zE
 have hmk:∀W,W0.Grows W->jU (((w.alloc (.cells #[.slice ia n0 ic,.slice sa m0 sc] 58)).alloc (.cells #[.slice none 0 0,.slice none 0 0] 58))) base g n0 m0 (i+1) (.slice (some ⟨gI,0,none⟩) N ci) (.slice sa' sl.length sc') (l.set kk {l.getD kk default with a:=r-1}) sl (W.setCell ⟨gI,kk*4+1,none⟩ (.int .i64 (r-1))):=fun W hg=>by
  have h:=H0.out.grows hg;exact⟨h.c.poke HNL.out.symm _ _ (wu l kk (r-1) zE) ze,h.ok.set kk (h.ok.at kk),by rw [length_set];have:=h.nl;omega,h.ml,h.sz⟩
 refine TS.weB 16 ?_;exact Ri
variable {w W0 : World} {ia sa sa' : Option Addr} {ic sc sc' n0 m0 pb po P pc base g gI ci N kk i : Nat} {l : List Ins} {sl : List ByteArray} {qa qk qn : Int}
theorem J9:SpG w W0 ia sa sa' ic sc sc' n0 m0 pb po P pc base g gI ci N kk i l sl qa qk qn 2:=by
 intro HN HNL HKN HCI HI3 HN5 H0 HPC
 intros
 rename_i Q hpan hQ
 obtain⟨i0,hi,hz1,hz2,hz3⟩:=info_parts fq;have z0:=H0.out.c.c0;have z1:=H0.out.c.c1;have zl:=H0.out.c.gW;obtain⟨hb0,p1,p2,p3⟩:=HPC.out W0 (gqq af H0.out.c.gr);have hgI:=(H0.out.c.row.lt gI rfl).2;have d1:(i:Int)<(P:Int):=by have:=HI3.out;omega
 have d0:(0:Int)<=(i:Int):=by omega
 have d2:(i:Int)<3:=by have:=HI3.out;omega
 have e0:(0:Int)<=(kk:Int):=by omega
 have e1:(kk:Int)<(N:Int):=by have:=HKN.out;omega
 have d3:(0:Int)<(N:Int):=by omega
 have hN6:(N:Int)<=5003:=by have:=HN5.out;omega
 have hw3:IntKind.i64.wrap ((N:Int)+3)=(N:Int)+3:=IntWalk.i64_in _ zb;have HP26:=yq (dN 26 zb zb);have HP9:=yq (dN 9 zb zb);have HP4:=yq (dN 4 zb zb);have HP5:=yq (dN 5 zb zb);have HP6:=yq (dN 6 zb zb);have HPN3:=yq (dN ((N:Int)+3) zb zb)
 conv=>arg 2;whnf
 go_upto_region 12 with fail
 refine TS.begin [20] (World.Grows W0) zd zd aj (fun hS=>?_);refine kq 0 hS ?_;refine kq 1 hS ?_;refine kq 2 hS ?_;refine kq 3 hS ?_;refine kq 4 hS ?_;refine kq 5 hS ?_;refine kq 6 hS ?_;refine kq 7 hS ?_;refine kq 10 hS ?_;refine kq 11 hS ?_;refine kq 12 hS ?_;refine kq 13 hS ?_;refine kq 14 hS ?_;refine kq 15 hS ?_;refine TS.one (i:=8) zd rfl (fun K1 hK1=>?_);have HK1:=yq hK1;clear hK1 hS;dsimp only [getElem_toArray,getElem_cons_succ,getElem_cons_zero]
 go_simp
 go_at_call 10
 refine(HP9.out _ _).mono ?_;rintro e' w' ⟨r,rfl,⟨hr0,hr1⟩,rfl⟩;refine TS.go HK1.out af (fun hS=>?_);clear HK1 K1
 (try simp only [nS])
 have hwr:IntKind.i64.wrap (r-3)=r-3:=IntWalk.i64_in _ zb;refine kq 9 hS ?_;refine TS.one (i:=16) zd rfl (fun K1 hK1=>?_);have HK1:=yq hK1;clear hK1 hS;dsimp only [getElem_toArray,getElem_cons_succ,getElem_cons_zero]
 go_simp
 go_at_call 10
 refine(HP4.out _ _).mono ?_;rintro e' w' ⟨q,rfl,⟨hq0,hq1⟩,rfl⟩;refine TS.go HK1.out af (fun hS=>?_);clear HK1 K1
 (try simp only [nS])
 refine kq 17 hS ?_;refine kq 18 hS ?_;refine kq 19 hS ?_;obtain⟨⟨u0,y0⟩,yf⟩:=H0.out.c.cellI HNL.out.symm (kk*4+2) zE;obtain⟨⟨u1,y1⟩,yf1⟩:=H0.out.c.cellI HNL.out.symm (kk*4+3) zE
 have hmk:∃l1,jU (((w.alloc (.cells #[.slice ia n0 ic,.slice sa m0 sc] 58)).alloc (.cells #[.slice none 0 0,.slice none 0 0] 58))) base g n0 m0 (i+1) (.slice (some ⟨gI,0,none⟩) N ci) (.slice sa' sl.length sc') l1 sl ((W0.setCell ⟨gI,kk*4+2,none⟩ (.int .i64 (r-3))).setCell ⟨gI,kk*4+3,none⟩ (.int .i64 q)):=by
  have hlt:kk<l.length:=by have:=HKN.out;have:=HNL.out;omega
  have h1:=H0.out.c.poke HNL.out.symm _ _ (Iy l kk (r-3) hlt) ze;have h2:=h1.poke (by have:=HNL.out;simp;omega) _ _ (Iw (l.set kk {l.getD kk default with n:=r-3}) kk q (by simpa using hlt)) ze;refine⟨_,h2, ?_,by simp;have:=H0.out.nl;omega,H0.out.ml,H0.out.sz⟩;have o1:dD (l.set kk {l.getD kk default with n:=r-3}):=H0.out.ok.set kk ⟨⟨by show -9223372036854775808<=r-3;omega,by show r-3<=9223372036854775807;omega⟩,(H0.out.ok.at kk).2⟩;exact o1.set kk ⟨(o1.at kk).1,⟨by show -9223372036854775808<=q;omega,by show q<=9223372036854775807;omega⟩⟩
 have HMK:=yq hmk;clear hmk;refine TS.weB 20 ?_;clear y0 yf y1 yf1
 go_wp2_with fail
 obtain⟨l1,h⟩:=HMK.out
 (apply hQ;exact yq (h.grows aj))
theorem J6:SpG w W0 ia sa sa' ic sc sc' n0 m0 pb po P pc base g gI ci N kk i l sl qa qk qn 5:=by
 intro HN HNL HKN HCI HI3 HN5 H0 HPC
 intros
 rename_i Q hpan hQ
 obtain⟨i0,hi,hz1,hz2,hz3⟩:=info_parts fq;have z0:=H0.out.c.c0;have z1:=H0.out.c.c1;have zl:=H0.out.c.gW;obtain⟨hb0,p1,p2,p3⟩:=HPC.out W0 (gqq af H0.out.c.gr);have hgI:=(H0.out.c.row.lt gI rfl).2;have d1:(i:Int)<(P:Int):=by have:=HI3.out;omega
 have d0:(0:Int)<=(i:Int):=by omega
 have d2:(i:Int)<3:=by have:=HI3.out;omega
 have e0:(0:Int)<=(kk:Int):=by omega
 have e1:(kk:Int)<(N:Int):=by have:=HKN.out;omega
 have d3:(0:Int)<(N:Int):=by omega
 have hN6:(N:Int)<=5003:=by have:=HN5.out;omega
 have hw3:IntKind.i64.wrap ((N:Int)+3)=(N:Int)+3:=IntWalk.i64_in _ zb;have HP26:=yq (dN 26 zb zb);have HP9:=yq (dN 9 zb zb);have HP4:=yq (dN 4 zb zb);have HP5:=yq (dN 5 zb zb);have HP6:=yq (dN 6 zb zb);have HPN3:=yq (dN ((N:Int)+3) zb zb)
 conv=>arg 2;whnf
 go_upto_region 21 with fail
 refine TS.begin [16] (World.Grows W0) zd zd aj (fun hS=>?_);have ya:=H0.out.c.cellA HNL.out.symm kk zE;obtain⟨za,hza⟩:∃z,(l.getD kk default).a=z:=⟨_,rfl⟩;rw [hza]at ya;refine kq 0 hS ?_;refine kq 1 hS ?_;refine kq 2 hS ?_;refine kq 3 hS ?_;refine kq 4 hS ?_;refine kq 5 hS ?_;refine kq 6 hS ?_;refine kq 7 hS ?_;refine kq 8 hS ?_;refine kq 9 hS ?_;refine kq 10 hS ?_;refine TS.one (i:=11) zd rfl (fun K1 hK1=>?_);have HK1:=yq hK1;clear hK1 hS;dsimp only [getElem_toArray,getElem_cons_succ,getElem_cons_zero]
 go_simp
 go_at_call 10
 refine(HP5.out _ _).mono ?_;rintro e' w' ⟨r,rfl,⟨hr0,hr1⟩,rfl⟩;refine TS.go HK1.out af (fun hS=>?_);clear HK1 K1
 (try simp only [nS])
 refine kq 12 hS ?_;refine kq 13 hS ?_;refine kq 14 hS ?_;refine kq 15 hS ?_;obtain⟨⟨u0,y0⟩,yf⟩:=H0.out.c.cellI HNL.out.symm (kk*4+1) zE
 have hmk:∀z W,W0.Grows W->jU (((w.alloc (.cells #[.slice ia n0 ic,.slice sa m0 sc] 58)).alloc (.cells #[.slice none 0 0,.slice none 0 0] 58))) base g n0 m0 (i+1) (.slice (some ⟨gI,0,none⟩) N ci) (.slice sa' sl.length sc') (l.set kk {l.getD kk default with a:=z}) sl (W.setCell ⟨gI,kk*4+1,none⟩ (.int .i64 z)):=fun z W hg=>by
  have h:=H0.out.grows hg;exact⟨h.c.poke HNL.out.symm _ _ (wu l kk z zE) ze,h.ok.set kk (h.ok.at kk),by rw [length_set];have:=h.nl;omega,h.ml,h.sz⟩
 clear y0;refine TS.weB 16 ?_;clear yf ya
 go_wp2_with fail
 (apply hQ;exact yq ((hmk _ W0 (World.Grows.refl _)).grows aj))
theorem J4:SpG w W0 ia sa sa' ic sc sc' n0 m0 pb po P pc base g gI ci N kk i l sl qa qk qn 7:=by
 intro HN HNL HKN HCI HI3 HN5 H0 HPC
 intros
 rename_i Q hpan hQ
 obtain⟨i0,hi,hz1,hz2,hz3⟩:=info_parts fq;have z0:=H0.out.c.c0;have z1:=H0.out.c.c1;have zl:=H0.out.c.gW;obtain⟨hb0,p1,p2,p3⟩:=HPC.out W0 (gqq af H0.out.c.gr);have hgI:=(H0.out.c.row.lt gI rfl).2;have d1:(i:Int)<(P:Int):=by have:=HI3.out;omega
 have d0:(0:Int)<=(i:Int):=by omega
 have d2:(i:Int)<3:=by have:=HI3.out;omega
 have e0:(0:Int)<=(kk:Int):=by omega
 have e1:(kk:Int)<(N:Int):=by have:=HKN.out;omega
 have d3:(0:Int)<(N:Int):=by omega
 have hN6:(N:Int)<=5003:=by have:=HN5.out;omega
 have hw3:IntKind.i64.wrap ((N:Int)+3)=(N:Int)+3:=IntWalk.i64_in _ zb;have HP26:=yq (dN 26 zb zb);have HP9:=yq (dN 9 zb zb);have HP4:=yq (dN 4 zb zb);have HP5:=yq (dN 5 zb zb);have HP6:=yq (dN 6 zb zb);have HPN3:=yq (dN ((N:Int)+3) zb zb)
 conv=>arg 2;whnf
 have H9:Hid (jU (((w.alloc (.cells #[.slice ia n0 ic,.slice sa m0 sc] 58)).alloc (.cells #[.slice none 0 0,.slice none 0 0] 58))) base g n0 m0 (i+1) (.slice (some ⟨gI,0,none⟩) N ci) (.slice sa' sl.length sc') l sl W0):=yq (H0.out.later zb)
 go_wp2_with fail
 (apply hQ;exact H9)
variable {w W0 : World} {ia sa sa' : Option Addr} {ic sc sc' n0 m0 pb po P pc base g gI ci N kk i : Nat} {l : List Ins} {sl : List ByteArray} {qa qk qn : Int}
theorem J8:SpG w W0 ia sa sa' ic sc sc' n0 m0 pb po P pc base g gI ci N kk i l sl qa qk qn 3:=by
 intro HN HNL HKN HCI HI3 HN5 H0 HPC
 intros
 rename_i Q hpan hQ
 obtain⟨i0,hi,hz1,hz2,hz3⟩:=info_parts fq;have z0:=H0.out.c.c0;have z1:=H0.out.c.c1;have zl:=H0.out.c.gW;obtain⟨hb0,p1,p2,p3⟩:=HPC.out W0 (gqq af H0.out.c.gr);have hgI:=(H0.out.c.row.lt gI rfl).2;have d1:(i:Int)<(P:Int):=by have:=HI3.out;omega
 have d0:(0:Int)<=(i:Int):=by omega
 have d2:(i:Int)<3:=by have:=HI3.out;omega
 have e0:(0:Int)<=(kk:Int):=by omega
 have e1:(kk:Int)<(N:Int):=by have:=HKN.out;omega
 have d3:(0:Int)<(N:Int):=by omega
 have hN6:(N:Int)<=5003:=by have:=HN5.out;omega
 have hw3:IntKind.i64.wrap ((N:Int)+3)=(N:Int)+3:=IntWalk.i64_in _ zb;have HP26:=yq (dN 26 zb zb);have HP9:=yq (dN 9 zb zb);have HP4:=yq (dN 4 zb zb);have HP5:=yq (dN 5 zb zb);have HP6:=yq (dN 6 zb zb);have HPN3:=yq (dN ((N:Int)+3) zb zb)
 conv=>arg 2;whnf
 have s1:(kk:Int)<=(ci:Int):=by have:=HCI.out;have:=HKN.out;omega
 have s2:(kk:Int)+1<=(N:Int):=by have:=HKN.out;omega
 have s2':(kk:Int)<=(N:Int):=by have:=HKN.out;omega
 have s3:(N:Int)<=(ci:Int):=by have:=HCI.out;omega
 have s4:kk<=ci:=by omega
 have s5:kk+1<=N:=by omega
 have s5':kk<=N:=by omega
 have s6:N<=ci:=by omega
 have HCT:Hid (∀j u,(aU (l.take kk))[j]? =some u->W0.cell? ((⟨gI,0,none⟩:Addr).add j)=some u):=yq (fun j u hj=>by
  rw [De,Nat.zero_add];refine H0.out.c.cells HNL.out.symm j u ?_;rw [pU,getElem?_take]at hj
  split at hj
  ·exact hj
  ·cases hj)
 have HLT:Hid ((aU (l.take kk)).length=kk*4):=yq xC
 go_upto_region 15 with (first
  |(go_at_call 10;refine gw (HK8.out _) ?_)
  |(at_builtin;refine wpList_append_own _ rfl _ _ 55 rfl W0.heap.size 118 i0 _ 4 32 underlying55 hi hz1 hz2 hz3 rfl zf (.slice none 0 0) 0 [] rfl (World.ownsRow_nil _ _ _ _) ⟨gI,0,none⟩ kk ci (aU (l.take kk)) rfl HLT.out HCT.out (kC _) ye yi ze ?_;intro v1 w1 hv1 hg1 hv1n;rw [Nat.zero_add,nil_append]at hv1;obtain⟨a1,c1,rfl,-,-⟩:=aZ hv1;have HV1:=yq hv1;have HG1:=yq (World.Grows.grown (World.Grows.refl _) hg1 (fun k e=>by simp [Value.ownBlock]at e):W0.Grows w1);clear hv1 hg1 hv1n))
 have HX:=yq (H0.out.grows HG1.out);clear z0 z1 zl hb0 p1 p2 p3 hgI HLT HCT;have z0:=HX.out.c.c0;have z1:=HX.out.c.c1;have zl:=HX.out.c.gW;obtain⟨hb0,p1,p2,p3⟩:=HPC.out w1 (gqq af HX.out.c.gr);have hgI:=(HX.out.c.row.lt gI rfl).2
 have HCD:Hid (∀j u,(aU (l.drop (kk+1)))[j]? =some u->w1.cell? ((⟨gI,(kk+1)*4,none⟩:Addr).add j)=some u):=yq (fun j u hj=>by
  rw [De];refine HX.out.c.cells HNL.out.symm _ u ?_
  rwa [ww,getElem?_drop]at hj)
 have HLD:Hid ((aU (l.drop (kk+1))).length=(N-(kk+1))*4):=yq (by rw [kD,length_drop,HNL.out])
 obtain⟨AD,hAD,hCE⟩:∃AD,(if ci=kk+1 then some (⟨gI,0,none⟩:Addr)else some ⟨gI,(kk+1)*4,none⟩)=some ⟨gI,AD,none⟩/\∀j u,(aU (l.drop (kk+1)))[j]? =some u->w1.cell? ((⟨gI,AD,none⟩:Addr).add j)=some u:=by
  by_cases hc:ci=kk+1
  ·refine⟨0,by rw [if_pos hc],fun j u hj=>?_⟩;have h0:(aU (l.drop (kk+1))).length=0:=by rw [HLD.out];omega
   rw [length_eq_zero_iff.1 h0]at hj;simp at hj
  ·exact⟨_,by rw [if_neg hc],HCD.out⟩
 have HAD:=yq hAD;have HCE:=yq hCE;clear hAD hCE
 go_wp2_with (at_builtin;refine wpList_append_own _ rfl _ _ 55 rfl W0.heap.size 118 i0 _ 4 32 underlying55 hi hz1 hz2 hz3 rfl zf (.slice a1 kk c1) kk (aU (l.take kk)) rfl HV1.out ⟨gI,AD,none⟩ (N-(kk+1)) (ci-(kk+1)) (aU (l.drop (kk+1))) (by show Value.slice _ _ _=_;rw [HAD.out]) HLD.out HCE.out (kC _) ye yi HG1.out.below.size ?_;intro v2 w2 hv2 hg2 hv2n;obtain⟨a2,c2,rfl,-,-⟩:=aZ hv2;have HV2:=yq hv2;have HG2:=yq (World.Grows.grown HG1.out hg2 (fun k e=>(HV1.out.lt k e).1):W0.Grows w2);have HY:=yq (H0.out.grows HG2.out);have y0:=HY.out.c.c0;have yf:=HY.out.c.f 0;have yl:=HY.out.c.gW;clear hv2 hg2 hv2n)
 all_goals(apply hQ;exact yq (show jU (((w.alloc (.cells #[.slice ia n0 ic,.slice sa m0 sc] 58)).alloc (.cells #[.slice none 0 0,.slice none 0 0] 58))) base g n0 m0 (i+1) (.slice a2 (kk+(N-(kk+1))) c2) (.slice sa' sl.length sc') (l.take kk++l.drop (kk+1)) sl _ from by
  have hlen:(l.take kk++l.drop (kk+1)).length=kk+(N-(kk+1)):=by rw [length_append,length_take,length_drop];have:=HKN.out;have:=HNL.out;omega
  have h:=H0.out.c.newI HG2.out (v1:=.slice a2 (kk+(N-(kk+1))) c2) (l1:=l.take kk++l.drop (kk+1)) (by unfold eH;rw [hlen,lV];exact HV2.out);refine⟨h.setI _,fun x hx=>H0.out.ok x ?_,by rw [hlen];have:=H0.out.nl;have:=HNL.out;have:=HKN.out;omega,H0.out.ml,H0.out.sz⟩;rcases mem_append.1 hx with hx|hx
  ·exact mem_of_mem_take hx
  ·exact mem_of_mem_drop hx))
theorem J7:SpG w W0 ia sa sa' ic sc sc' n0 m0 pb po P pc base g gI ci N kk i l sl qa qk qn 4:=by
 intro HN HNL HKN HCI HI3 HN5 H0 HPC
 intros
 rename_i Q hpan hQ
 obtain⟨i0,hi,hz1,hz2,hz3⟩:=info_parts fq;have z0:=H0.out.c.c0;have z1:=H0.out.c.c1;have zl:=H0.out.c.gW;obtain⟨hb0,p1,p2,p3⟩:=HPC.out W0 (gqq af H0.out.c.gr);have hgI:=(H0.out.c.row.lt gI rfl).2;have d1:(i:Int)<(P:Int):=by have:=HI3.out;omega
 have d0:(0:Int)<=(i:Int):=by omega
 have d2:(i:Int)<3:=by have:=HI3.out;omega
 have e0:(0:Int)<=(kk:Int):=by omega
 have e1:(kk:Int)<(N:Int):=by have:=HKN.out;omega
 have d3:(0:Int)<(N:Int):=by omega
 have hN6:(N:Int)<=5003:=by have:=HN5.out;omega
 have hw3:IntKind.i64.wrap ((N:Int)+3)=(N:Int)+3:=IntWalk.i64_in _ zb;have HP26:=yq (dN 26 zb zb);have HP9:=yq (dN 9 zb zb);have HP4:=yq (dN 4 zb zb);have HP5:=yq (dN 5 zb zb);have HP6:=yq (dN 6 zb zb);have HPN3:=yq (dN ((N:Int)+3) zb zb)
 conv=>arg 2;whnf
 have s1:(kk:Int)<=(ci:Int):=by have:=HCI.out;have:=HKN.out;omega
 have s2:(kk:Int)+1<=(N:Int):=by have:=HKN.out;omega
 have s2':(kk:Int)<=(N:Int):=by have:=HKN.out;omega
 have s3:(N:Int)<=(ci:Int):=by have:=HCI.out;omega
 have s4:kk<=ci:=by omega
 have s5:kk+1<=N:=by omega
 have s5':kk<=N:=by omega
 have s6:N<=ci:=by omega
 have HCT:Hid (∀j u,(aU (l.take kk))[j]? =some u->W0.cell? ((⟨gI,0,none⟩:Addr).add j)=some u):=yq (fun j u hj=>by
  rw [De,Nat.zero_add];refine H0.out.c.cells HNL.out.symm j u ?_;rw [pU,getElem?_take]at hj
  split at hj
  ·exact hj
  ·cases hj)
 have HLT:Hid ((aU (l.take kk)).length=kk*4):=yq xC
 go_upto_region 18 with (first
  |(go_at_call 10;refine gw (HK8.out _) ?_)
  |(at_builtin;refine wpList_append_own _ rfl _ _ 55 rfl W0.heap.size 118 i0 _ 4 32 underlying55 hi hz1 hz2 hz3 rfl zf (.slice none 0 0) 0 [] rfl (World.ownsRow_nil _ _ _ _) ⟨gI,0,none⟩ kk ci (aU (l.take kk)) rfl HLT.out HCT.out (kC _) ye yi ze ?_;intro v1 w1 hv1 hg1 hv1n;rw [Nat.zero_add,nil_append]at hv1;obtain⟨a1,c1,rfl,-,-⟩:=aZ hv1;have HV1:=yq hv1;have HG1:=yq (World.Grows.grown (World.Grows.refl _) hg1 (fun k e=>by simp [Value.ownBlock]at e):W0.Grows w1);clear hv1 hg1 hv1n))
 have HX:=yq (H0.out.grows HG1.out);clear z0 z1 zl hb0 p1 p2 p3 hgI HLT HCT;have z0:=HX.out.c.c0;have z1:=HX.out.c.c1;have zl:=HX.out.c.gW;obtain⟨hb0,p1,p2,p3⟩:=HPC.out w1 (gqq af HX.out.c.gr);have hgI:=(HX.out.c.row.lt gI rfl).2;refine TS.begin [16,17] (World.Grows w1) zd zd aj (fun hS=>?_);refine kq 0 hS ?_;refine kq 1 hS ?_;refine kq 2 hS ?_;refine kq 3 hS ?_;refine kq 4 hS ?_;refine kq 5 hS ?_;refine kq 7 hS ?_;refine kq 8 hS ?_;refine kq 9 hS ?_;refine kq 10 hS ?_;refine kq 11 hS ?_;refine kq 12 hS ?_;refine TS.one (i:=6) zd rfl (fun K1 hK1=>?_);have HK1:=yq hK1;clear hK1 hS;dsimp only [getElem_toArray,getElem_cons_succ,getElem_cons_zero]
 go_simp
 go_at_call 10
 refine(HP26.out _ _).mono ?_;rintro e' w' ⟨r,rfl,⟨hr0,hr1⟩,rfl⟩;refine TS.go HK1.out af (fun hS=>?_);clear HK1 K1
 (try simp only [nS])
 refine TS.one (i:=13) zd rfl (fun K1 hK1=>?_);have HK1:=yq hK1;clear hK1 hS;dsimp only [getElem_toArray,getElem_cons_succ,getElem_cons_zero]
 go_simp
 go_at_call 10
 refine(HP6.out _ _).mono ?_;rintro e' w' ⟨q,rfl,⟨hq0,hq1⟩,rfl⟩;refine TS.go HK1.out af (fun hS=>?_);clear HK1 K1
 (try simp only [nS])
 refine kq 14 hS ?_;refine TS.one (i:=15) zd rfl (fun K1 hK1=>?_);have HK1:=yq hK1;clear hK1 hS;dsimp only [getElem_toArray,getElem_cons_succ,getElem_cons_zero]
 go_simp
 refine TS.go HK1.out af (fun hS=>?_);clear HK1 K1
 (try simp only [nS])
 refine TS.one (i:=16) zd rfl (fun K1 hK1=>?_);refine step_append_lies _ rfl _ _ 55 rfl W0.heap.size 118 i0 _ 4 32 underlying55 hi hz1 hz2 hz3 rfl zf (.slice a1 kk c1) kk (aU (l.take kk)) rfl (bB HV1.out af) ⟨_,0,none⟩ 1 1 [.int .i64 r,.int .i64 q,.int .i64 0,.int .i64 0] rfl rfl (ax _ [.int .i64 r,.int .i64 q,.int .i64 0,.int .i64 0] _ _ ze) zv zf ye yi (by have:=HG1.out.below.size;simp;omega) _ rfl ?_;intro g5 c5 w5 hown hgrow hgg hgl;have HV5:=yq hown;have HG5:=yq (World.Grows.grown (gqq HG1.out af) hgrow (fun k e=>(HV1.out.lt k e).1):W0.Grows w5);have HZ:=yq (H0.out.grows HG5.out);refine hK1 _ _ (fun h=>absurd zf h) ?_;clear hK1 K1 hown hgrow hgg hgl hS z0 z1 zl hb0 p1 p2 p3 hgI
 (try simp only [nS])
 refine TS.weB 17 ?_;have z0:=HZ.out.c.c0;have z1:=HZ.out.c.c1;have zl:=HZ.out.c.gW;obtain⟨hb0,p1,p2,p3⟩:=HPC.out w5 (gqq af HZ.out.c.gr);have hgI:=(HZ.out.c.row.lt gI rfl).2
 have HCD:Hid (∀j u,(aU (l.drop (kk)))[j]? =some u->w5.cell? ((⟨gI,(kk)*4,none⟩:Addr).add j)=some u):=yq (fun j u hj=>by
  rw [De];refine HZ.out.c.cells HNL.out.symm _ u ?_
  rwa [ww,getElem?_drop]at hj)
 have HLD:Hid ((aU (l.drop (kk))).length=(N-(kk))*4):=yq (by rw [kD,length_drop,HNL.out])
 go_wp2_with (at_builtin;refine wpList_append_own _ rfl _ _ 55 rfl W0.heap.size 118 i0 _ 4 32 underlying55 hi hz1 hz2 hz3 rfl zf (.slice (some ⟨g5,0,none⟩) (kk+1) c5) (kk+1) (aU (l.take kk)++[.int .i64 r,.int .i64 q,.int .i64 0,.int .i64 0]) rfl HV5.out ⟨gI,kk*4,none⟩ (N-kk) (ci-kk) (aU (l.drop kk)) rfl HLD.out HCD.out (kC _) ye yi HG5.out.below.size ?_;intro v2 w2 hv2 hg2 hv2n;obtain⟨a2,c2,rfl,-,-⟩:=aZ hv2;have HV2:=yq hv2;have HG2:=yq (World.Grows.grown HG5.out hg2 (fun k e=>(HV5.out.lt k e).1):W0.Grows w2);have HY:=yq (H0.out.grows HG2.out);have y0:=HY.out.c.c0;have yf:=HY.out.c.f 0;have yl:=HY.out.c.gW;clear hv2 hg2 hv2n)
 all_goals(apply hQ;exact yq (show jU (((w.alloc (.cells #[.slice ia n0 ic,.slice sa m0 sc] 58)).alloc (.cells #[.slice none 0 0,.slice none 0 0] 58))) base g n0 m0 (i+1) (.slice a2 (kk+1+(N-kk)) c2) (.slice sa' sl.length sc') ((l.take kk++[⟨r,q,0,0⟩])++l.drop kk) sl _ from by
  have hlen:((l.take kk++[(⟨r,q,0,0⟩:Ins)])++l.drop kk).length=kk+1+(N-kk):=by rw [length_append,length_append,length_take,length_drop];have:=HKN.out;have:=HNL.out;simp;omega
  have h:=H0.out.c.newI HG2.out (v1:=.slice a2 (kk+1+(N-kk)) c2) (l1:=(l.take kk++[⟨r,q,0,0⟩])++l.drop kk) (by unfold eH;rw [hlen,lV,lV];exact HV2.out);refine⟨h.setI _,fun x hx=>?_,by rw [hlen];have:=H0.out.nl;have:=HNL.out;have:=HKN.out;omega,H0.out.ml,H0.out.sz⟩;rcases mem_append.1 hx with hx|hx
  ·rcases mem_append.1 hx with hx|hx
   ·exact H0.out.ok x (mem_of_mem_take hx)
   ·rw [mem_singleton]at hx;subst hx;exact⟨⟨by show(-9223372036854775808:Int)<=0;decide,by show(0:Int)<=9223372036854775807;decide⟩,⟨by show(-9223372036854775808:Int)<=0;decide,by show(0:Int)<=9223372036854775807;decide⟩⟩
  ·exact H0.out.ok x (mem_of_mem_drop hx)))
variable {w W0 : World} {ia sa sa' : Option Addr} {ic sc sc' n0 m0 pb po P pc base g gI ci N kk i : Nat} {l : List Ins} {sl : List ByteArray} {qa qk qn : Int}
theorem J5:SpG w W0 ia sa sa' ic sc sc' n0 m0 pb po P pc base g gI ci N kk i l sl qa qk qn 6:=by
 intro HN HNL HKN HCI HI3 HN5 H0 HPC
 intros
 rename_i Q hpan hQ
 obtain⟨i0,hi,hz1,hz2,hz3⟩:=info_parts fq;have z0:=H0.out.c.c0;have z1:=H0.out.c.c1;have zl:=H0.out.c.gW;obtain⟨hb0,p1,p2,p3⟩:=HPC.out W0 (gqq af H0.out.c.gr);have hgI:=(H0.out.c.row.lt gI rfl).2;have d1:(i:Int)<(P:Int):=by have:=HI3.out;omega
 have d0:(0:Int)<=(i:Int):=by omega
 have d2:(i:Int)<3:=by have:=HI3.out;omega
 have e0:(0:Int)<=(kk:Int):=by omega
 have e1:(kk:Int)<(N:Int):=by have:=HKN.out;omega
 have d3:(0:Int)<(N:Int):=by omega
 have hN6:(N:Int)<=5003:=by have:=HN5.out;omega
 have hw3:IntKind.i64.wrap ((N:Int)+3)=(N:Int)+3:=IntWalk.i64_in _ zb;have HP26:=yq (dN 26 zb zb);have HP9:=yq (dN 9 zb zb);have HP4:=yq (dN 4 zb zb);have HP5:=yq (dN 5 zb zb);have HP6:=yq (dN 6 zb zb);have HPN3:=yq (dN ((N:Int)+3) zb zb)
 conv=>arg 2;whnf
 obtain⟨a,c,hv,-,h0⟩:=aZ H0.out.c.slr;by_cases hm:sl.length=0
 ·have d9:¬(0:Int)<(sl.length:Int):=by omega
  have H9:Hid (jU (((w.alloc (.cells #[.slice ia n0 ic,.slice sa m0 sc] 58)).alloc (.cells #[.slice none 0 0,.slice none 0 0] 58))) base g n0 m0 (i+1) (.slice (some ⟨gI,0,none⟩) N ci) (.slice sa' sl.length sc') l sl W0):=yq (H0.out.later zb);clear hv h0 hm
  go_wp2_with fail
  (apply hQ;exact H9)
 ·obtain⟨gS,rfl,-,-,hgS⟩:=h0.resolve_left hm;cases hv;have hmm:sl.length<=100:=by have:=H0.out.ml;have:=HN.out;omega
  obtain⟨M,hM⟩:∃M,sl.length=M:=⟨_,rfl⟩;rw [hM]at H0 z1 hm hmm;have HM:=yq hM;have d9:(0:Int)<(M:Int):=by omega
  have HPM:Hid (∀(z:Int) (W:World),Calls prog 10 #[.int .i64 z,.int .i64 (M:Int)] W fun e w'=>∃r:Int,e= .returned (.int .i64 r)/\(0<=r/\r<(M:Int))/\W=w'):=yq (fun z W=>(bZ z (M:Int) W zb).mono fun e w' h=>⟨_,h.1,ed z (M:Int) zb,h.2⟩)
  have HMK:Hid (∀(jj:Nat) (s:ByteArray),s.size<=10->∀W,W0.Grows W->jU (((w.alloc (.cells #[.slice ia n0 ic,.slice sa m0 sc] 58)).alloc (.cells #[.slice none 0 0,.slice none 0 0] 58))) base g n0 m0 (i+1) (.slice (some ⟨gI,0,none⟩) N ci) (.slice (some ⟨gS,0,none⟩) M sc') l (sl.set jj s) (W.setCell ⟨gS,jj,none⟩ (.string s))):=yq (fun jj s hs W hg=>by
   have h:=H0.out.grows hg;refine⟨h.c.name HM.out.symm jj s,h.ok,by have:=h.nl;omega,by rw [length_set];exact h.ml,fun x hx=>?_⟩;rcases mem_or_eq_of_mem_set hx with hx|rfl
   ·exact h.sz x hx
   ·unfold maxLen;omega)
  clear hM hm hmm
  go_upto_region 24 with fail
  refine TS.begin [22] (World.Grows W0) zd zd aj (fun hS=>?_);refine kq 0 hS ?_;refine kq 1 hS ?_;refine kq 2 hS ?_;refine kq 3 hS ?_;refine kq 4 hS ?_;refine kq 5 hS ?_;refine kq 6 hS ?_;refine kq 7 hS ?_;refine kq 8 hS ?_;refine kq 9 hS ?_;refine kq 12 hS ?_;refine kq 13 hS ?_;refine kq 14 hS ?_;refine kq 15 hS ?_;refine kq 16 hS ?_;refine kq 17 hS ?_;refine TS.two (i:=10) (k:=11) zd rfl rfl (fun K1 hK1=>?_) (fun K1 hK1=>?_)
  ·have HK1:=yq hK1;clear hK1 hS;dsimp only [getElem_toArray,getElem_cons_succ,getElem_cons_zero]
   go_simp
   go_at_call 10
   refine(HPM.out _ _).mono ?_;rintro e' w' ⟨jz,rfl,⟨hj0,hj1⟩,rfl⟩;refine TS.go HK1.out af (fun hS=>?_);clear HK1 K1
   (try simp only [nS])
   refine TS.two (i:=11) (k:=18) zd rfl rfl (fun K1 hK1=>?_) (fun K1 hK1=>?_)
   focus
    have HK1:=yq hK1;clear hK1 hS;dsimp only [getElem_toArray,getElem_cons_succ,getElem_cons_zero]
    go_simp
    refine TS.go HK1.out af (fun hS=>?_);clear HK1 K1
    (try simp only [nS])
    refine TS.one (i:=18) zd rfl (fun K1 hK1=>?_);have HK1:=yq hK1;clear hK1 hS;dsimp only [getElem_toArray,getElem_cons_succ,getElem_cons_zero]
    go_simp
    go_at_call 10
    refine(HP4.out _ _).mono ?_;rintro e' w' ⟨q,rfl,⟨hq0,hq1⟩,rfl⟩
   rotate_left
   focus
    have HK1:=yq hK1;clear hK1 hS;dsimp only [getElem_toArray,getElem_cons_succ,getElem_cons_zero]
    go_simp
    go_at_call 10
    refine(HP4.out _ _).mono ?_;rintro e' w' ⟨q,rfl,⟨hq0,hq1⟩,rfl⟩;refine TS.go HK1.out af (fun hS=>?_);clear HK1 K1
    (try simp only [nS])
    refine TS.one (i:=11) zd rfl (fun K1 hK1=>?_);have HK1:=yq hK1;clear hK1 hS;dsimp only [getElem_toArray,getElem_cons_succ,getElem_cons_zero]
    go_simp
   rotate_left
   all_goals
    exact R4
  ·have HK1:=yq hK1;clear hK1 hS;dsimp only [getElem_toArray,getElem_cons_succ,getElem_cons_zero]
   go_simp
   refine TS.go HK1.out af (fun hS=>?_);clear HK1 K1
   (try simp only [nS])
   refine TS.one (i:=10) zd rfl (fun K1 hK1=>?_);have HK1:=yq hK1;clear hK1 hS;dsimp only [getElem_toArray,getElem_cons_succ,getElem_cons_zero]
   go_simp
   go_at_call 10
   refine(HPM.out _ _).mono ?_;rintro e' w' ⟨jz,rfl,⟨hj0,hj1⟩,rfl⟩;refine TS.go HK1.out af (fun hS=>?_);clear HK1 K1
   (try simp only [nS])
   refine TS.one (i:=18) zd rfl (fun K1 hK1=>?_);have HK1:=yq hK1;clear hK1 hS;dsimp only [getElem_toArray,getElem_cons_succ,getElem_cons_zero]
   go_simp
   go_at_call 10
   refine(HP4.out _ _).mono ?_;rintro e' w' ⟨q,rfl,⟨hq0,hq1⟩,rfl⟩;exact R4
theorem JE(l0:List Ins)(sl0:List ByteArray)(ia:Option Addr)(ic:Nat)(vS0:Value)(B0:Nat)(ps:List (Int × Int × Int))(vp:Value)(w:World)(hI:eH B0 w (.slice ia l0.length ic) l0)(hS:w.ownsRow B0 9 1 vS0 sl0.length (slV sl0))(hok:dD l0)(hsz:∀s∈sl0,s.size<=maxLen)(hn:l0.length<=5000)(hm:sl0.length<=100)(hp:AU w vp ps) :
 Calls prog 26 #[.agg #[.slice ia l0.length ic,vS0],vp] w (Mw w l0.length sl0.length):=by
 obtain⟨i0,hi,hz1,hz2,hz3⟩:=info_parts fq;obtain⟨i1,hi1,hz11,hz21,hz31⟩:=info_parts Ov;obtain⟨sa,sc,hvs,-,-⟩:=aZ hS;subst hvs;obtain⟨pa,pc,rfl,hcells⟩:=hp;unfold eH at hI;obtain⟨n0,hn0⟩:∃n,l0.length=n:=⟨_,rfl⟩;obtain⟨m0,hm0⟩:∃n,sl0.length=n:=⟨_,rfl⟩;obtain⟨P,hP⟩:∃n,ps.length=n:=⟨_,rfl⟩;rw [hn0]at hI hn ⊢;rw [hm0]at hS hm ⊢;rw [hP]at hcells ⊢;have HI:=yq (fun W (hg:w.Grows W)=>bD hI (kU hg none) (fun _ e=>by cases e));have HS:=yq (fun W (hg:w.Grows W)=>bD hS (kU hg none) (fun _ e=>by cases e));have HOK:=yq hok;have HSZ:=yq hsz;have HP:=yq hcells;have HN:=yq (And.intro hn hm);have HN0:=yq hn0;have HM0:=yq hm0;have HPL:=yq hP;clear hI hS hok hsz hcells hn hm hn0 hm0 hP
 go_enter func26,ntmps26
 go_upto_region 1 with fail
 go_cut [5]from 10 to 16 (fun v5 wx=>∃(base g:Nat) (vI vS:Value),v5= .pointer (some ⟨g,0,none⟩)/\Hid (jU (((w.alloc (.cells #[.slice ia n0 ic,.slice sa m0 sc] 58)).alloc (.cells #[.slice none 0 0,.slice none 0 0] 58))) base g n0 m0 0 vI vS l0 sl0 wx))
 case first=>
  refine TS.begin [8] (World.Grows (((w.alloc (.cells #[.slice ia n0 ic,.slice sa m0 sc] 58)).alloc (.cells #[.slice none 0 0,.slice none 0 0] 58)))) zd zd aj (fun hS=>?_);refine kq 0 hS ?_;refine kq 1 hS ?_;refine kq 3 hS ?_;refine kq 4 hS ?_;refine TS.two (i:=2) (k:=7) zd rfl rfl (fun K1 hK1=>?_) (fun K1 hK1=>?_)
  ·refine fO rfl _ _ 55 rfl (w.heap.size+1+1) B0 118 i0 _ 4 32 underlying55 hi hz1 hz2 hz3 rfl zf (.slice none 0 0) (.slice ia n0 ic) 0 n0 [] (aU l0) rfl rfl (World.ownsRow_nil _ _ _ _) (HI.out _ af) (kC l0) yj yk ze ?_;intro vI1 wI hownI hgrI;rw [Nat.zero_add,nil_append]at hownI;obtain⟨a1,k1,rfl,-,-⟩:=aZ hownI;have HgI:=yq (World.Grows.grown af hgrI (fun k e=>by simp [Value.ownBlock]at e):World.Grows ((((w.alloc (.cells #[.slice ia n0 ic,.slice sa m0 sc] 58)).alloc (.cells #[.slice none 0 0,.slice none 0 0] 58)))) wI);have HoI:=yq hownI;clear hownI hgrI;have hwI:w.Grows wI:=gqq af HgI.out;refine TS.go hK1 HgI.out (fun hS=>?_);clear hK1 K1
   (try simp only [nS])
   refine TS.two (i:=5) (k:=7) zd rfl rfl (fun K1 hK1=>?_) (fun K1 hK1=>?_)
   ·refine fO rfl _ _ 56 rfl (wI.heap.size) B0 9 i1 _ 1 16 underlying56 hi1 hz11 hz21 hz31 rfl zf (.slice none 0 0) (.slice sa m0 sc) 0 m0 [] (slV sl0) rfl rfl (World.ownsRow_nil _ _ _ _) (HS.out _ (gqq (hwI) af)) (xZ sl0) yj yk ze ?_;intro vS1 wS1 hownS hgrS;rw [Nat.zero_add,nil_append]at hownS;obtain⟨a2,k2,rfl,-,-⟩:=aZ hownS;have HgS:=yq (World.Grows.grown af hgrS (fun k e=>by simp [Value.ownBlock]at e):World.Grows (wI) wS1);have HoS:=yq hownS;clear hownS hgrS;refine TS.go hK1 (gqq HgI.out HgS.out) (fun hS=>?_);clear hK1 K1 hwI
    (try simp only [nS])
    refine kq 6 hS ?_;refine TS.one (i:=7) zd rfl (fun K1 hK1=>?_);have HK1:=yq hK1;clear hK1 hS;dsimp only [getElem_toArray,getElem_cons_succ,getElem_cons_zero]
    go_simp
    refine TS.go HK1.out (gqq (gqq HgI.out HgS.out) af) (fun hS=>?_);clear HK1 K1
    (try simp only [nS])
    refine TS.weB 8 ?_
    go_wp2_with fail
    go_meet
    have e1:=HgS.out.below.size;refine⟨_,wS1.heap.size,_,_,rfl,yq ⟨Spo.first (gqq (gqq HgI.out HgS.out) af) (B1:=w.heap.size+1+1) (B2:=wI.heap.size) ze HgI.out.below.size HN0.out HM0.out (bB (bB HoI.out HgS.out) af) (bB HoS.out af) (Nat.le_trans HgI.out.below.size e1) (heap_alloc_new _ _) (fun b e e2=>by have:=(HoI.out.lt b e).2;have:=(HoS.out.lt b e2).1;omega) (fun e=>by have:=(HoI.out.lt _ e).2;omega) (fun e=>by have:=(HoS.out.lt _ e).2;omega),HOK.out,by have:=HN0.out;omega,HM0.out,HSZ.out⟩⟩
   ·have HK1:=yq hK1;clear hK1 hS;dsimp only [getElem_toArray,getElem_cons_succ,getElem_cons_zero]
    go_simp
    refine TS.go HK1.out (gqq HgI.out af) (fun hS=>?_);clear HK1 K1
    (try simp only [nS])
    refine TS.one (i:=5) zd rfl (fun K1 hK1=>?_);refine fO rfl _ _ 56 rfl (wI.heap.size+1) B0 9 i1 _ 1 16 underlying56 hi1 hz11 hz21 hz31 rfl zf (.slice none 0 0) (.slice sa m0 sc) 0 m0 [] (slV sl0) rfl rfl (World.ownsRow_nil _ _ _ _) (HS.out _ (gqq (hwI) af)) (xZ sl0) yj yk ze ?_;intro vS1 wS1 hownS hgrS;rw [Nat.zero_add,nil_append]at hownS;obtain⟨a2,k2,rfl,-,-⟩:=aZ hownS;have HgS:=yq (World.Grows.grown af hgrS (fun k e=>by simp [Value.ownBlock]at e):World.Grows (wI.alloc (.cells #[.slice none 0 0,.slice none 0 0] 58)) wS1);have HoS:=yq hownS;clear hownS hgrS;refine TS.go hK1 (gqq (gqq HgI.out af) HgS.out) (fun hS=>?_);clear hK1 K1 hwI
    (try simp only [nS])
    refine kq 6 hS ?_;have hb:=(HgS.out.below.block wI.heap.size ze).trans (heap_alloc_new _ _);have z0:=cell_of_row wS1 _ 0 _ _ _ hb;have z1:=cell_of_row wS1 _ 1 _ _ _ hb;have zf0:=Go.Joins.unfrozen_of_block hb 0;have zf1:=Go.Joins.unfrozen_of_block hb 1;have zl:=(Array.getElem?_eq_some_iff.1 hb).1;have HB:=yq hb;clear hb;refine TS.weB 8 ?_
    go_wp2_with fail
    go_meet
    have hIS:wI.Grows wS1:=gqq af HgS.out;have h0:=Spo.first (gqq HgI.out hIS) (B1:=w.heap.size+1+1) (B2:=wI.heap.size+1) ze (Nat.le_trans HgI.out.below.size (Nat.le_succ _)) HN0.out HM0.out (bB HoI.out hIS) HoS.out HgI.out.below.size HB.out (fun b e e2=>by have:=(HoI.out.lt b e).2;have:=(HoS.out.lt b e2).1;omega) (fun e=>by have:=(HoI.out.lt _ e).2;omega) (fun e=>by have:=(HoS.out.lt _ e).1;omega);exact⟨_,wI.heap.size,_,_,rfl,yq ⟨(h0.setI _).setc 1 _ rfl,HOK.out,by have:=HN0.out;omega,HM0.out,HSZ.out⟩⟩
  ·have HK1:=yq hK1;clear hK1 hS;dsimp only [getElem_toArray,getElem_cons_succ,getElem_cons_zero]
   go_simp
   refine TS.go HK1.out af (fun hS=>?_);clear HK1 K1
   (try simp only [nS])
   refine TS.one (i:=2) zd rfl (fun K1 hK1=>?_);refine fO rfl _ _ 55 rfl (w.heap.size+1+1+1) B0 118 i0 _ 4 32 underlying55 hi hz1 hz2 hz3 rfl zf (.slice none 0 0) (.slice ia n0 ic) 0 n0 [] (aU l0) rfl rfl (World.ownsRow_nil _ _ _ _) (HI.out _ af) (kC l0) yj yk ze ?_;intro vI1 wI hownI hgrI;rw [Nat.zero_add,nil_append]at hownI;obtain⟨a1,k1,rfl,-,-⟩:=aZ hownI;have HgI:=yq (World.Grows.grown af hgrI (fun k e=>by simp [Value.ownBlock]at e):World.Grows ((((w.alloc (.cells #[.slice ia n0 ic,.slice sa m0 sc] 58)).alloc (.cells #[.slice none 0 0,.slice none 0 0] 58))).alloc (.cells #[.slice none 0 0,.slice none 0 0] 58)) wI);have HoI:=yq hownI;clear hownI hgrI;have hcI:World.Grows (((w.alloc (.cells #[.slice ia n0 ic,.slice sa m0 sc] 58)).alloc (.cells #[.slice none 0 0,.slice none 0 0] 58))) wI:=gqq af HgI.out;have hwI:w.Grows wI:=gqq af hcI;refine TS.go hK1 hcI (fun hS=>?_);clear hK1 K1
   (try simp only [nS])
   refine TS.one (i:=5) zd rfl (fun K1 hK1=>?_);refine fO rfl _ _ 56 rfl (wI.heap.size) B0 9 i1 _ 1 16 underlying56 hi1 hz11 hz21 hz31 rfl zf (.slice none 0 0) (.slice sa m0 sc) 0 m0 [] (slV sl0) rfl rfl (World.ownsRow_nil _ _ _ _) (HS.out _ (gqq (hwI) af)) (xZ sl0) yj yk ze ?_;intro vS1 wS1 hownS hgrS;rw [Nat.zero_add,nil_append]at hownS;obtain⟨a2,k2,rfl,-,-⟩:=aZ hownS;have HgS:=yq (World.Grows.grown af hgrS (fun k e=>by simp [Value.ownBlock]at e):World.Grows (wI) wS1);have HoS:=yq hownS;clear hownS hgrS;refine TS.go hK1 (gqq hcI HgS.out) (fun hS=>?_);clear hK1 K1 hwI
   (try simp only [nS])
   refine kq 6 hS ?_;have hb:=((gqq HgI.out HgS.out).below.block (w.heap.size+1+1) ze).trans (eZ _ _ _ ze);have z0:=cell_of_row wS1 _ 0 _ _ _ hb;have z1:=cell_of_row wS1 _ 1 _ _ _ hb;have zf0:=Go.Joins.unfrozen_of_block hb 0;have zf1:=Go.Joins.unfrozen_of_block hb 1;have zl:=(Array.getElem?_eq_some_iff.1 hb).1;have HB:=yq hb;clear hb;refine TS.weB 8 ?_
   go_wp2_with fail
   go_meet
   have e1:w.heap.size+1+1+1<=wI.heap.size:=by have:=HgI.out.below.size;simpa using this
   have h0:=Spo.first (gqq hcI HgS.out) (B1:=w.heap.size+1+1+1) (B2:=wI.heap.size) ze hcI.below.size HN0.out HM0.out (bB HoI.out HgS.out) HoS.out (g:=w.heap.size+1+1) ze HB.out (fun b e e2=>by have:=(HoI.out.lt b e).2;have:=(HoS.out.lt b e2).1;omega) (fun e=>by have:=(HoI.out.lt _ e).1;omega) (fun e=>by have:=(HoS.out.lt _ e).1;omega);exact⟨_,w.heap.size+1+1,_,_,rfl,yq ⟨(h0.setI _).setc 1 _ rfl,HOK.out,by have:=HN0.out;omega,HM0.out,HSZ.out⟩⟩
 case rest=>
 obtain⟨base,g,vI,vS,rfl,H0⟩:=hcut;clear HI HS HOK HSZ HN0 HM0 hi1 hz11 hz21 hz31
 go_wp2_with fail
 go_loopw [6] (fun v6 wr=>∃(i:Nat) (vI vS:Value) (l:List Ins) (sl:List ByteArray),i<=3/\v6= .int .i64 i/\Hid (jU (((w.alloc (.cells #[.slice ia n0 ic,.slice sa m0 sc] 58)).alloc (.cells #[.slice none 0 0,.slice none 0 0] 58))) base g n0 m0 i vI vS l sl wr)) (fun v6 _=>3-(intOf v6).toNat)
 case atStart=>exact⟨0,_,_,_,_,by omega,rfl,H0⟩
 clear H0;obtain⟨i,vI,vS,l,sl,hi3,rfl,HC⟩:=hrel;have z0:=HC.out.c.c0;have z1:=HC.out.c.c1;have zl:=HC.out.c.gW;by_cases hiP:i<P
 case neg=>
  have d1:¬(i:Int)<(P:Int):=by omega
  obtain⟨ia',ic',hvi,-,-⟩:=aZ HC.out.c.row;obtain⟨sa',sc',hvs',-,-⟩:=aZ HC.out.c.slr;subst hvi;subst hvs';have hgr:=HC.out.c.gr;obtain⟨bs,dd,hwr⟩:=hgr;subst hwr
  go_wp2_with fail
  go_returns
  have hfin:=HC.out.c.fin (.slice ia' l.length ic') (.slice sa' sl.length sc') (((w.alloc (.cells #[.slice ia n0 ic,.slice sa m0 sc] 58)).alloc (.cells #[.slice ia' l.length ic',.slice sa' sl.length sc'] 58)).grow bs dd) zq;obtain⟨q1,q2,q3⟩:=hfin;exact⟨_,_,_,_,_,l,sl,rfl,q1,q2,q3,by have:=HC.out.nl;omega,HC.out.ml,HC.out.ok,HC.out.sz⟩
 have d1:(i:Int)<(P:Int):=by omega
 by_cases hi3':i<3
 case neg=>
  obtain rfl:i=3:=by omega
  have e3:((3:Nat):Int)=3:=rfl;rw [e3]at d1 ⊢;obtain⟨ia',ic',hvi,-,-⟩:=aZ HC.out.c.row;obtain⟨sa',sc',hvs',-,-⟩:=aZ HC.out.c.slr;subst hvi;subst hvs';have hgr:=HC.out.c.gr;obtain⟨bs,dd,hwr⟩:=hgr;subst hwr
  go_wp2_with fail
  go_returns
  have hfin:=HC.out.c.fin (.slice ia' l.length ic') (.slice sa' sl.length sc') (((w.alloc (.cells #[.slice ia n0 ic,.slice sa m0 sc] 58)).alloc (.cells #[.slice ia' l.length ic',.slice sa' sl.length sc'] 58)).grow bs dd) zq;obtain⟨q1,q2,q3⟩:=hfin;exact⟨_,_,_,_,_,l,sl,rfl,q1,q2,q3,by have:=HC.out.nl;omega,HC.out.ml,HC.out.ok,HC.out.sz⟩
 have d2:(i:Int)<3:=by omega
 have d0:(0:Int)<=(i:Int):=by omega
 obtain⟨ii,ci,hvi,hci,hvi2⟩:=aZ HC.out.c.row;by_cases hl0:l.length=0
 case pos=>
  have d3:¬(0:Int)<(l.length:Int):=by omega
  clear hvi hvi2 hl0 hci;obtain⟨ia',ic',hvi,-,-⟩:=aZ HC.out.c.row;obtain⟨sa',sc',hvs',-,-⟩:=aZ HC.out.c.slr;subst hvi;subst hvs';have hgr:=HC.out.c.gr;obtain⟨bs,dd,hwr⟩:=hgr;subst hwr
  go_wp2_with fail
  go_returns
  have hfin:=HC.out.c.fin (.slice ia' l.length ic') (.slice sa' sl.length sc') (((w.alloc (.cells #[.slice ia n0 ic,.slice sa m0 sc] 58)).alloc (.cells #[.slice ia' l.length ic',.slice sa' sl.length sc'] 58)).grow bs dd) zq;obtain⟨q1,q2,q3⟩:=hfin;exact⟨_,_,_,_,_,l,sl,rfl,q1,q2,q3,by have:=HC.out.nl;omega,HC.out.ml,HC.out.ok,HC.out.sz⟩
 obtain⟨gI,rfl,-,-,hgI⟩:=hvi2.resolve_left hl0;subst hvi;obtain⟨sa',sc',hvs',-,-⟩:=aZ HC.out.c.slr;subst hvs';have hnl:=HC.out.nl;obtain⟨N,hN⟩:∃N,l.length=N:=⟨_,rfl⟩;rw [hN]at HC z0 hl0 hnl hci;have HCI:=yq hci;clear hci;have HNL:=yq hN;have d3:(0:Int)<(N:Int):=by omega
 have hN5:N<=5003:=by have:=HN.out;omega
 have HN5:=yq hN5;have HI3:=yq (And.intro hiP hi3');obtain hP0|⟨pb,po,rfl,hpb,hpc⟩:=HP.out
 ·omega
 obtain⟨hp1,hp2,hp3⟩:=hpc i hiP;obtain⟨qa,hqa⟩:∃q,(ps.getD i default).1=q:=⟨_,rfl⟩;obtain⟨qk,hqk⟩:∃q,(ps.getD i default).2.1=q:=⟨_,rfl⟩;obtain⟨qn,hqn⟩:∃q,(ps.getD i default).2.2=q:=⟨_,rfl⟩;rw [hqa]at hp1;rw [hqk]at hp2;rw [hqn]at hp3
 have HPC:Hid (∀W,w.Grows W->pb<W.heap.size/\W.cell? ⟨pb,po+i*3,none⟩=some (.int .i64 qa)/\W.cell? ⟨pb,po+i*3+1,none⟩=some (.int .i64 qk)/\W.cell? ⟨pb,po+i*3+2,none⟩=some (.int .i64 qn)):=yq (fun W hg=>by
  have e:∀o,W.cell? ⟨pb,o,none⟩=w.cell? ⟨pb,o,none⟩:=fun o=>World.cell?_of_block (a:=⟨pb,o,none⟩) (hg.below.block pb hpb)
  exact⟨Nat.lt_of_lt_of_le hpb hg.below.size,(e _).trans hp1,(e _).trans hp2,(e _).trans hp3⟩)
 have hb:=ed qa (N:Int) zb;obtain⟨kk,hkk⟩:∃k:Nat,pick qa (N:Int)=(k:Int):=⟨(pick qa (N:Int)).toNat,by omega⟩;have HA:=yq (fun W=>bZ qa (N:Int) W zb);rw [hkk]at HA hb;have e0:(0:Int)<=(kk:Int):=hb.1;have e1:(kk:Int)<(N:Int):=hb.2;have HKN:Hid (kk<N):=yq zb;have hb8:=ed qk 8 zb;have HK8:=yq (fun W=>bZ qk 8 W zb);obtain⟨kd,hkd⟩:∃k:Int,pick qk 8=k:=⟨_,rfl⟩;rw [hkd]at HK8 hb8;obtain⟨hb0,p1,p2,p3⟩:=HPC.out wr (gqq af HC.out.c.gr);have hN6:(N:Int)<=5003:=by omega
 have hw3:IntKind.i64.wrap ((N:Int)+3)=(N:Int)+3:=IntWalk.i64_in _ zb;clear HP hpb hpc hp1 hp2 hp3 hqa hqk hqn hkk hkd hb hN hnl hl0 hiP hi3' hi3 hN5
 go_upto_region 5 with fail
 refine TS.begin [9] (World.Grows wr) zd zd aj (fun hS=>?_);refine kq 0 hS ?_;refine kq 1 hS ?_;refine kq 2 hS ?_;refine kq 3 hS ?_;refine kq 4 hS ?_;refine kq 5 hS ?_;refine kq 6 hS ?_;refine kq 7 hS ?_;refine TS.one (i:=8) zd rfl (fun K1 hK1=>?_);have HK1:=yq hK1;clear hK1 hS;dsimp only [getElem_toArray,getElem_cons_succ,getElem_cons_zero]
 go_simp
 go_at_call 10
 refine gw (HA.out _) ?_;refine TS.go HK1.out af (fun hS=>?_);clear HK1 K1
 (try simp only [nS])
 refine TS.weB 9 ?_
 go_upto_region 6 with fail
 refine jD (fun W=>jU (((w.alloc (.cells #[.slice ia n0 ic,.slice sa m0 sc] 58)).alloc (.cells #[.slice none 0 0,.slice none 0 0] 58))) base g n0 m0 i (.slice (some ⟨gI,0,none⟩) N ci) (.slice sa' sl.length sc') l sl W) (by first|exact HC.out|exact HC.out.grows aj) ?_;intro W0 hW0;have H0:=yq hW0;clear hW0 z0 z1 zl hb0 p1 p2 p3 HC hgI;have z0:=H0.out.c.c0;have z1:=H0.out.c.c1;have zl:=H0.out.c.gW;obtain⟨hb0,p1,p2,p3⟩:=HPC.out W0 (gqq af H0.out.c.gr)
 go_upto_block 2 with (go_at_call 10;refine gw (HK8.out _) ?_)
 refine Gp (fun Q=>∀(vI vS:Value) (l':List Ins) (sl':List ByteArray) (y7 y8 y9 y17 y18 y19 y20 y21 y22 y23 y24 y25 y26 y27 y28 y29 y30 y31 y32 y33 y34 y35 y36 y37 y38 y39 y40 y41 y42 y43 y44 y45 y46 y47 y48 y49 y50 y51 y52 y53 y54 y55 y56 y57 y58 y59 y60 y61 y62 y63 y64 y65 y66 y67 y68 y69 y70 y71 y72 y73 y74 y75 y76 y77 y78 y79 y80 y81 y82 y83 y84 y85 y86 y87 y88 y89 y90 y91 y92 y93 y94 y95 y96 y97 y98 y99 y100 y101 y102 y103 y104 y105 y106 y107 y108 y109 y110 y111 y112 y113 y114 y115 y116 y117 y118 y119 y120 y121 y122 y123 y124 y125 y126 y127 y128 y129 y130 y131 y132 y133 y134 y135 y136 y137 y138 y139 y140 y141 y142 y143 y144 y145 y146 y147 y148 y149 y150 y151 y152 y153 y154 y155 y156 y157 y158 y159 y160 y161 y162 y163 y164 y165 y166 y167 y168 y169 y170 y171 y172 y173 y174 y175 y176 y177 y178 y179 y180 y181 y182 y183 y184 y185 y186 y187 y188 y189 y190 y191 y192:Value) (W':World),Hid (jU (((w.alloc (.cells #[.slice ia n0 ic,.slice sa m0 sc] 58)).alloc (.cells #[.slice none 0 0,.slice none 0 0] 58))) base g n0 m0 (i+1) vI vS l' sl' W')->Q .normal {tmps:=#[.agg #[.slice ia n0 ic,.slice sa m0 sc],.slice (some ⟨pb,po,none⟩) P pc,.pointer (some ⟨w.heap.size,0,none⟩),undef,.pointer (some ⟨w.heap.size+1,0,none⟩),.pointer (some ⟨g,0,none⟩),.int .i64 i,y7,y8,y9,u10,u11,u12,u13,u14,u15,u16,y17,y18,y19,y20,y21,y22,y23,y24,y25,y26,y27,y28,y29,y30,y31,y32,y33,y34,y35,y36,y37,y38,y39,y40,y41,y42,y43,y44,y45,y46,y47,y48,y49,y50,y51,y52,y53,y54,y55,y56,y57,y58,y59,y60,y61,y62,y63,y64,y65,y66,y67,y68,y69,y70,y71,y72,y73,y74,y75,y76,y77,y78,y79,y80,y81,y82,y83,y84,y85,y86,y87,y88,y89,y90,y91,y92,y93,y94,y95,y96,y97,y98,y99,y100,y101,y102,y103,y104,y105,y106,y107,y108,y109,y110,y111,y112,y113,y114,y115,y116,y117,y118,y119,y120,y121,y122,y123,y124,y125,y126,y127,y128,y129,y130,y131,y132,y133,y134,y135,y136,y137,y138,y139,y140,y141,y142,y143,y144,y145,y146,y147,y148,y149,y150,y151,y152,y153,y154,y155,y156,y157,y158,y159,y160,y161,y162,y163,y164,y165,y166,y167,y168,y169,y170,y171,y172,y173,y174,y175,y176,y177,y178,y179,y180,y181,y182,y183,y184,y185,y186,y187,y188,y189,y190,y191,y192,undef],defers:=[]} W') ?_ (fun hQ=>?_)
 focus
  intro vI vS l' sl' y7 y8 y9 y17 y18 y19 y20 y21 y22 y23 y24 y25 y26 y27 y28 y29 y30 y31 y32 y33 y34 y35 y36 y37 y38 y39 y40 y41 y42 y43 y44 y45 y46 y47 y48 y49 y50 y51 y52 y53 y54 y55 y56 y57 y58 y59 y60 y61 y62 y63 y64 y65 y66 y67 y68 y69 y70 y71 y72 y73 y74 y75 y76 y77 y78 y79 y80 y81 y82 y83 y84 y85 y86 y87 y88 y89 y90 y91 y92 y93 y94 y95 y96 y97 y98 y99 y100 y101 y102 y103 y104 y105 y106 y107 y108 y109 y110 y111 y112 y113 y114 y115 y116 y117 y118 y119 y120 y121 y122 y123 y124 y125 y126 y127 y128 y129 y130 y131 y132 y133 y134 y135 y136 y137 y138 y139 y140 y141 y142 y143 y144 y145 y146 y147 y148 y149 y150 y151 y152 y153 y154 y155 y156 y157 y158 y159 y160 y161 y162 y163 y164 y165 y166 y167 y168 y169 y170 y171 y172 y173 y174 y175 y176 y177 y178 y179 y180 y181 y182 y183 y184 y185 y186 y187 y188 y189 y190 y191 y192 W9 H9
  go_wp2_with fail
  go_roundw
  case rel=>exact⟨i+1,_,_,_,_,by have:=HI3.out;omega,by go_num,H9⟩
  case measure=>simp [intOf];have:=HI3.out;omega
 have hkd:kd=0\/kd=1\/kd=2\/kd=3\/kd=4\/kd=5\/kd=6\/kd=7:=by omega
 clear hb8;rcases hkd with rfl|rfl|rfl|rfl|rfl|rfl|rfl|rfl
 ·(apply Kb HN HNL HKN HCI HI3 HN5 H0 HPC;exact fun _ _ _ _ _ h=>h;exact hQ)
 ·(apply Ka HN HNL HKN HCI HI3 HN5 H0 HPC;exact fun _ _ _ _ _ h=>h;exact hQ)
 ·(apply J9 HN HNL HKN HCI HI3 HN5 H0 HPC;exact fun _ _ _ _ _ h=>h;exact hQ)
 ·(apply J8 HN HNL HKN HCI HI3 HN5 H0 HPC;exact fun _ _ _ _ _ h=>h;exact hQ)
 ·(apply J7 HN HNL HKN HCI HI3 HN5 H0 HPC;exact fun _ _ _ _ _ h=>h;exact hQ)
 ·(apply J6 HN HNL HKN HCI HI3 HN5 H0 HPC;exact fun _ _ _ _ _ h=>h;exact hQ)
 ·(apply J5 HN HNL HKN HCI HI3 HN5 H0 HPC;exact fun _ _ _ _ _ h=>h;exact hQ)
 ·(apply J4 HN HNL HKN HCI HI3 HN5 H0 HPC;exact fun _ _ _ _ _ h=>h;exact hQ)
end Go.Proofs.YteildlpchhlchaaGreatDoor
