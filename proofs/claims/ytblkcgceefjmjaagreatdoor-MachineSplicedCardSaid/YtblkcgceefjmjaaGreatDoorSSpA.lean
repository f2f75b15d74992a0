import Derived.Test.YtblkcgceefjmjaaGreatDoorSVw8
set_option linter.all false
set_option maxHeartbeats 16000000
set_option maxRecDepth 1000000
namespace Go.Proofs.YtblkcgceefjmjaaGreatDoor
open Go.RowKit
def SpoilP(w:World)(n m:Nat)(e:Ending)(w':World):Prop:=
 ∃a c sa sc base l sl,e= .returned (.agg #[.slice a l.length c,.slice sa sl.length sc])∧w.Grows w'∧LRow base w' (.slice a l.length c) l∧w'.ownsRow base 9 1 (.slice sa sl.length sc) sl.length (slV sl)∧l.length≤n+3∧sl.length=m∧InsOk l∧∀s∈sl,s.size≤maxLen
theorem infoStS:(Tryz.prog.info? 9).map (fun i=>(i.zero,i.size,i.bytes))=some (some (.string ⟨#[]⟩),1,16):=by kernel_rfl
def spN(k:Nat):ByteArray:=[(⟨#[120]⟩:ByteArray),⟨#[105,102]⟩,⟨#[81]⟩,⟨#[]⟩].getD k ByteArray.empty
structure SpSt(w:World)(base g n m i:Nat)(vI vS:Value)(l:List Ins)(sl:List ByteArray)(W:World):Prop where
 c:Spo w base g vI vS vI vS l sl W
 ok:InsOk l
 nl:l.length≤n+i
 ml:sl.length=m
 sz:∀s∈sl,s.size≤maxLen
theorem SpSt.grows{w W W':World}{base g n m i:Nat}{vI vS:Value}{l:List Ins}{sl:List ByteArray}(h:SpSt w base g n m i vI vS l sl W)(hg:W.Grows W'):SpSt w base g n m i vI vS l sl W':=⟨h.c.grows hg,h.ok,h.nl,h.ml,h.sz⟩
theorem SpSt.later{w W:World}{base g n m i j:Nat}{vI vS:Value}{l:List Ins}{sl:List ByteArray}(h:SpSt w base g n m i vI vS l sl W)(hij:i≤j):SpSt w base g n m j vI vS l sl W:=⟨h.c,h.ok,by have:=h.nl;omega,h.ml,h.sz⟩
theorem Spo.first{w W:World}{g n m:Nat}{cI cS vI vS:Value}{l:List Ins}{sl:List ByteArray}{ty:TypeId}{B1 B2:Nat}(hg:w.Grows W)(h1:w.heap.size≤B1)(h2:w.heap.size≤B2)(hn:l.length=n)(hm:sl.length=m)(hr:W.ownsRow B1 103 4 vI n (insV l))(hs:W.ownsRow B2 9 1 vS m (slV sl))(hwg:w.heap.size≤g)(hb:W.heap[g]? =some (.cells #[cI,cS] ty (0,0)))
 (d1:∀b,vI.ownBlock=some b→vS.ownBlock≠some b) (d2:vI.ownBlock≠some g) (d3:vS.ownBlock≠some g):Spo w w.heap.size g cI cS vI vS l sl W:=by
 subst hn hm
 exact⟨hg,hwg,Nat.le_refl _,(Array.getElem?_eq_some_iff.1 hb).1,hg.below.size,⟨ty,hb⟩,own_down hr h1,own_down hs h2,d1,d2,d3⟩
theorem Spo.fin{w W:World}{o1 o2:Obj}{base g:Nat}{cI cS vI vS:Value}{l:List Ins}{sl:List ByteArray}(h:Spo ((w.alloc o1).alloc o2) base g cI cS vI vS l sl W)(a b:Value):∀W',W'=(W.setCell ⟨w.heap.size+1,0,none⟩ a).setCell ⟨w.heap.size+1,1,none⟩ b→
 w.Grows W'∧LRow base W' vI l∧W'.ownsRow base 9 1 vS sl.length (slV sl):=by
 rintro W' rfl
 have hwb:w.heap.size+1<base:=by have:=h.wb;simp at this;omega
 have h0:w.Grows W:=World.Grows.trans' growsR h.gr
 have g1:=grownSet W (w.heap.size+1) 0 a
 have g2:=grownSet (W.setCell ⟨w.heap.size+1,0,none⟩ a) (w.heap.size+1) 1 b
 have hk:∀(v:Value),(∀k,v.ownBlock=some k→base≤k)→∀k,some (w.heap.size+1)=some k→v.ownBlock≠some k:=fun v hv k e e2=>by
  cases e;have:=hv _ e2;omega
 refine⟨.of_below ((h0.below.setCell (Nat.le_succ _) a).setCell (Nat.le_succ _) b), ?_, ?_⟩
 ·exact keptNe (keptNe h.row g1 (hk _ fun k e=>(h.row.lt k e).1)) g2 (hk _ fun k e=>(h.row.lt k e).1)
 ·exact keptNe (keptNe h.slr g1 (hk _ fun k e=>(h.slr.lt k e).1)) g2 (hk _ fun k e=>(h.slr.lt k e).1)
theorem addr9(b o j:Nat):(⟨b,o,none⟩:Addr).add j=⟨b,o+j,none⟩:=by unfold Addr.add;split<;>simp_all
theorem wp_split9{P:Program}{c:Code}{Q:Exit→Act→World→Prop}{a:Act}{w:World}(R:(Exit→Act→World→Prop)→Prop)(h1:R Q)(h2:R Q→c.wp P Q a w):c.wp P Q a w:=h2 h1
def sq1:Code→Code| .seq a _=>a|c=>c
def sq2:Code→Code| .seq _ b=>b|c=>c
def blk9:Code→Code| .block _ b=>b|c=>c
def lop9:Code→Code| .loop b=>b|c=>c
theorem hpx9(k:Int)(h1:1≤k)(h2:k≤10000)(z:Int)(W:World):Calls Tryz.prog 17 #[.int .i64 z,.int .i64 k] W fun e w'=>∃r:Int,e= .returned (.int .i64 r)∧(0≤r∧r<k)∧W=w':=(Pick_any z k W (by omega)).mono fun e w' h=>⟨_,h.1,pick_bd z k h1,h.2⟩
def SpG(w W0:World)(ia sa sa':Option Addr)(ic sc sc' n0 m0 pb po P pc base g gI ci N kk i:Nat)(l:List Ins)(sl:List ByteArray)(qa qk qn:Int)(kd:Int):Prop:=
 ∀(_:Hid (n0≤5000∧m0≤100)) (_:Hid (l.length=N)) (_:Hid (kk<N)) (_:Hid (N≤ci)) (_:Hid (i<P∧i<3)) (_:Hid (N≤5003)) (_:Hid (SpSt (((w.alloc (.cells #[.slice ia n0 ic,.slice sa m0 sc] 58)).alloc (.cells #[.slice none 0 0,.slice none 0 0] 58))) base g n0 m0 i (.slice (some ⟨gI,0,none⟩) N ci) (.slice sa' sl.length sc') l sl W0))
  (_:Hid (∀W,w.Grows W→pb<W.heap.size∧W.cell? ⟨pb,po+i*3,none⟩=some (.int .i64 qa)∧W.cell? ⟨pb,po+i*3+1,none⟩=some (.int .i64 qk)∧W.cell? ⟨pb,po+i*3+2,none⟩=some (.int .i64 qn)))
  (x8 x9 x10 x11 x12 x13 x14 x15 x16 x17 x18 x19 x20 x21 x22 x23 x24 x25 x26 x27 x28 x29 x30 x31 x32 x33 x34 x35 x36 x37 x38 x39 x40 x41 x42 x43 x44 x45 x46 x48 x49 x50 x51 x52 x53 x54 x55 x56 x57 x58 x59 x60 x61 x62 x63 x64 x65 x66 x67 x68 x69 x70 x71 x72 x73 x74 x75 x76 x77 x78 x79 x80 x81 x82 x83 x84 x85 x86 x87 x88 x89 x90 x91 x92 x93 x94 x95 x96 x97 x98 x99 x100 x101 x102 x103 x104 x105 x106 x107 x108 x109 x110 x111 x112 x113 x114 x115 x116 x117 x118 x119 x120 x121 x122 x123 x124 x125 x126 x127 x128 x129 x130 x131 x132 x133 x134 x135 x136 x137 x138 x139 x140 x141 x142 x143 x144 x145 x146 x147 x148 x149 x150 x151 x152 x153 x154 x155 x156 x157 x158 x159 x160 x161 x162 x163 x164 x165 x166 x167 x168 x169 x170 x171 x172 x173 x174 x175 x176 x177 x178 x179 x180 x181 x182 x183 x184 x185 x186 x187 x188 x189 x190 x191 x192 x193:Value) (Q:Exit→Act→World→Prop) (_:∀(c) (a:Act) (d:Nat) (v:Value) (w:World),Q (.panic c) (a.put (some d) v) w→Q (.panic c) a w) (_:∀(vI vS:Value) (l':List Ins) (sl':List ByteArray) (y7 y8 y9 y17 y18 y19 y20 y21 y22 y23 y24 y25 y26 y27 y28 y29 y30 y31 y32 y33 y34 y35 y36 y37 y38 y39 y40 y41 y42 y43 y44 y45 y46 y47 y48 y49 y50 y51 y52 y53 y54 y55 y56 y57 y58 y59 y60 y61 y62 y63 y64 y65 y66 y67 y68 y69 y70 y71 y72 y73 y74 y75 y76 y77 y78 y79 y80 y81 y82 y83 y84 y85 y86 y87 y88 y89 y90 y91 y92 y93 y94 y95 y96 y97 y98 y99 y100 y101 y102 y103 y104 y105 y106 y107 y108 y109 y110 y111 y112 y113 y114 y115 y116 y117 y118 y119 y120 y121 y122 y123 y124 y125 y126 y127 y128 y129 y130 y131 y132 y133 y134 y135 y136 y137 y138 y139 y140 y141 y142 y143 y144 y145 y146 y147 y148 y149 y150 y151 y152 y153 y154 y155 y156 y157 y158 y159 y160 y161 y162 y163 y164 y165 y166 y167 y168 y169 y170 y171 y172 y173 y174 y175 y176 y177 y178 y179 y180 y181 y182 y183 y184 y185 y186 y187 y188 y189 y190 y191 y192:Value) (W':World),Hid (SpSt (((w.alloc (.cells #[.slice ia n0 ic,.slice sa m0 sc] 58)).alloc (.cells #[.slice none 0 0,.slice none 0 0] 58))) base g n0 m0 (i+1) vI vS l' sl' W')→Q .normal {tmps:=#[.agg #[.slice ia n0 ic,.slice sa m0 sc],.slice (some ⟨pb,po,none⟩) P pc,.pointer (some ⟨w.heap.size,0,none⟩),undef,.pointer (some ⟨w.heap.size+1,0,none⟩),.pointer (some ⟨g,0,none⟩),.int .i64 i,y7,y8,y9,x10,x11,x12,x13,x14,x15,x16,y17,y18,y19,y20,y21,y22,y23,y24,y25,y26,y27,y28,y29,y30,y31,y32,y33,y34,y35,y36,y37,y38,y39,y40,y41,y42,y43,y44,y45,y46,y47,y48,y49,y50,y51,y52,y53,y54,y55,y56,y57,y58,y59,y60,y61,y62,y63,y64,y65,y66,y67,y68,y69,y70,y71,y72,y73,y74,y75,y76,y77,y78,y79,y80,y81,y82,y83,y84,y85,y86,y87,y88,y89,y90,y91,y92,y93,y94,y95,y96,y97,y98,y99,y100,y101,y102,y103,y104,y105,y106,y107,y108,y109,y110,y111,y112,y113,y114,y115,y116,y117,y118,y119,y120,y121,y122,y123,y124,y125,y126,y127,y128,y129,y130,y131,y132,y133,y134,y135,y136,y137,y138,y139,y140,y141,y142,y143,y144,y145,y146,y147,y148,y149,y150,y151,y152,y153,y154,y155,y156,y157,y158,y159,y160,y161,y162,y163,y164,y165,y166,y167,y168,y169,y170,y171,y172,y173,y174,y175,y176,y177,y178,y179,y180,y181,y182,y183,y184,y185,y186,y187,y188,y189,y190,y191,y192,x193],defers:=[]} W'),
  Code.wp Tryz.prog (sq2 (sq2 (blk9 (sq1 (sq2 (lop9 (blk9 (sq2 (sq1 (sq2 (sq2 (Tryz.f40.body.getD .skip))))))))))))  Q {tmps:=#[.agg #[.slice ia n0 ic,.slice sa m0 sc],.slice (some ⟨pb,po,none⟩) P pc,.pointer (some ⟨w.heap.size,0,none⟩),undef,.pointer (some ⟨w.heap.size+1,0,none⟩),.pointer (some ⟨g,0,none⟩),.int .i64 i,.int .i64 kk,x8,x9,x10,x11,x12,x13,x14,x15,x16,x17,x18,x19,x20,x21,x22,x23,x24,x25,x26,x27,x28,x29,x30,x31,x32,x33,x34,x35,x36,x37,x38,x39,x40,x41,x42,x43,x44,x45,x46,.int .i64 kd,x48,x49,x50,x51,x52,x53,x54,x55,x56,x57,x58,x59,x60,x61,x62,x63,x64,x65,x66,x67,x68,x69,x70,x71,x72,x73,x74,x75,x76,x77,x78,x79,x80,x81,x82,x83,x84,x85,x86,x87,x88,x89,x90,x91,x92,x93,x94,x95,x96,x97,x98,x99,x100,x101,x102,x103,x104,x105,x106,x107,x108,x109,x110,x111,x112,x113,x114,x115,x116,x117,x118,x119,x120,x121,x122,x123,x124,x125,x126,x127,x128,x129,x130,x131,x132,x133,x134,x135,x136,x137,x138,x139,x140,x141,x142,x143,x144,x145,x146,x147,x148,x149,x150,x151,x152,x153,x154,x155,x156,x157,x158,x159,x160,x161,x162,x163,x164,x165,x166,x167,x168,x169,x170,x171,x172,x173,x174,x175,x176,x177,x178,x179,x180,x181,x182,x183,x184,x185,x186,x187,x188,x189,x190,x191,x192,x193],defers:=[]} W0
end Go.Proofs.YtblkcgceefjmjaaGreatDoor
