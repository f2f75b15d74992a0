import Derived.Test.YtblkcgceefjmjaaGreatDoorSArgW
import Derived.Test.YtblkcgceefjmjaaGreatDoorSSpA
import Derived.Test.YtblkcgceefjmjaaGreatDoorSMchM
import Derived.Test.YtblkcgceefjmjaaGreatDoorVK
set_option linter.all false
set_option maxHeartbeats 16000000
set_option maxRecDepth 1000000
namespace Go.Proofs.YtblkcgceefjmjaaGreatDoor
open Go.Proofs.Tryz Tryz List
open Go.RowKit
theorem ag:(prog.info? 41).map (fun i=>(i.zero,i.size,i.bytes))=some (some (.agg #[.int .i64 0,.bool false,.int .i64 0,.int .i64 0]),4,32):=by kernel_rfl
def bK(w W0:World)(base Bl CB VB XB i:Nat)(x:Ins)(sl:List ByteArray)(v:Vw)(vi vs vK vS:Value)(stk slots:List Val)(st:List (ByteArray × Val)):Prop:=
 ∀(_:Hid (RnSt w base Bl stk slots st vK vS W0)) (_:Hid (∃ty,W0.heap[XB]? =some (.cells #[.int .i64 x.op,.int .i64 x.a,.int .i64 x.n,.int .i64 x.d] ty (0,0)))) (_:Hid (CB<Bl/\∃ty,W0.heap[CB]? =some (.cells #[vi,vs] ty (0,0)))) (_:Hid (stk.length<=4000/\st.length<=4000/\i<=4000)) (x0 x1 x4 x5 x6 x7 x13 x14 x15 x16 x17 x18 x19 x20 x21 x22 x23 x24 x25 x26 x27 x28 x29 x30 x31 x32 x33 x34 x35 x36 x37 x38 x39 x40 x41 x42 x43 x44 x45 x46 x48 x49 x50 x51 x52 x53 x54 x55 x56 x57 x58 x59 x60 x61 x62 x63 x64 x65 x66 x67 x68 x69 x70 x71 x72 x73 x74 x75 x76 x77 x78 x79 x80 x81 x82 x83 x84 x85 x86 x87 x88 x89 x90 x91 x92 x93 x94 x95 x96 x97 x98 x99 x100 x101 x102 x103 x104 x105 x106 x107 x108 x109 x110 x111 x112 x113 x114 x115 x116 x117 x118 x119 x120 x121 x122 x123 x124 x125 x126 x127 x128 x129 x130 x131 x132 x133 x134 x135 x136 x137 x138 x139 x140 x141 x142 x143 x144 x145 x146 x147 x148 x149 x150 x151 x152 x153 x154 x155 x156 x157 x158 x159 x160 x161 x162 x163 x164 x165 x166 x167 x168 x169 x170 x171 x172 x173 x174 x175 x176 x177 x178 x179 x180 x181 x182 x183 x184 x185 x186:Value)
  (Q:Exit->Act->World->Prop) (_:∀(c) (a:Act) (d:Nat) (v:Value) (w:World),Q (.panic c) (a.put (some d) v) w->Q (.panic c) a w)
  (_:∀(vK' vS':Value) (at':Int) (t:Nat × List Val × List Val × List (ByteArray × Val)) (y4 y5 y12 y13 y14 y15 y16 y17 y18 y19 y20 y21 y22 y34 y35 y36 y37 y38 y39 y40 y41 y42 y43 y44 y45 y46 y47 y48 y49 y50 y51 y52 y53 y54 y55 y56 y57 y58 y59 y60 y61 y62 y63 y64 y65 y66 y67 y68 y69 y70 y71 y72 y73 y74 y75 y76 y77 y78 y79 y80 y81 y82 y83 y84 y85 y86 y87 y88 y89 y90 y91 y92 y93 y94 y95 y96 y97 y98 y99 y100 y101 y102 y103 y104 y105 y106 y107 y108 y109 y110 y111 y112 y113 y114 y115 y116 y117 y118 y119 y120 y121 y122 y123 y124 y125 y126 y127 y128 y129 y130 y131 y132 y133 y134 y135 y136 y137 y138 y139 y140 y141 y142 y143 y144 y145 y146 y147 y148 y149 y150 y151 y152 y153 y154 y155 y156 y157 y158 y159 y160 y161 y162 y163 y164 y165 y166 y167 y168 y169 y170 y171 y172 y173 y174 y175 y176 y177 y178 y179 y180 y181 y182 y183 y184 y185:Value) (W':World),Hid (stepF sl v x i stk slots st= .inl t)->Hid (RnSt w base Bl t.2.1 t.2.2.1 t.2.2.2 vK' vS' W')->Hid (at'+1=(t.1:Int))->Q .normal {tmps:=#[x0,x1,.pointer (some ⟨CB,0,none⟩),.pointer (some ⟨VB,0,none⟩),y4,y5,x6,x7,vK',.pointer (some ⟨Bl,0,none⟩),vS',.int .i64 (at':Int),y12,y13,y14,y15,y16,y17,y18,y19,y20,y21,y22,x23,x24,x25,x26,x27,x28,x29,x30,x31,x32,x33,y34,y35,y36,y37,y38,y39,y40,y41,y42,y43,y44,y45,y46,y47,y48,y49,y50,y51,y52,y53,y54,y55,y56,y57,y58,y59,y60,y61,y62,y63,y64,y65,y66,y67,y68,y69,y70,y71,y72,y73,y74,y75,y76,y77,y78,y79,y80,y81,y82,y83,y84,y85,y86,y87,y88,y89,y90,y91,y92,y93,y94,y95,y96,y97,y98,y99,y100,y101,y102,y103,y104,y105,y106,y107,y108,y109,y110,y111,y112,y113,y114,y115,y116,y117,y118,y119,y120,y121,y122,y123,y124,y125,y126,y127,y128,y129,y130,y131,y132,y133,y134,y135,y136,y137,y138,y139,y140,y141,y142,y143,y144,y145,y146,y147,y148,y149,y150,y151,y152,y153,y154,y155,y156,y157,y158,y159,y160,y161,y162,y163,y164,y165,y166,y167,y168,y169,y170,y171,y172,y173,y174,y175,y176,y177,y178,y179,y180,y181,y182,y183,y184,y185,x186],defers:=[]} W')
  (_:∀(cd:Int) (y8 y10 y11 y12 y13 y14 y15 y16 y17 y18 y19 y20 y21 y22 y34 y35 y36 y37 y38 y39 y40 y41 y42 y43 y44 y45 y46 y47 y48 y49 y50 y51 y52 y53 y54 y55 y56 y57 y58 y59 y60 y61 y62 y63 y64 y65 y66 y67 y68 y69 y70 y71 y72 y73 y74 y75 y76 y77 y78 y79 y80 y81 y82 y83 y84 y85 y86 y87 y88 y89 y90 y91 y92 y93 y94 y95 y96 y97 y98 y99 y100 y101 y102 y103 y104 y105 y106 y107 y108 y109 y110 y111 y112 y113 y114 y115 y116 y117 y118 y119 y120 y121 y122 y123 y124 y125 y126 y127 y128 y129 y130 y131 y132 y133 y134 y135 y136 y137 y138 y139 y140 y141 y142 y143 y144 y145 y146 y147 y148 y149 y150 y151 y152 y153 y154 y155 y156 y157 y158 y159 y160 y161 y162 y163 y164 y165 y166 y167 y168 y169 y170 y171 y172 y173 y174 y175 y176 y177 y178 y179 y180 y181 y182 y183 y184 y185:Value) (W':World),Hid (stepF sl v x i stk slots st= .inr cd)->Hid (w.Grows W')->Q .ret {tmps:=#[x0,x1,.pointer (some ⟨CB,0,none⟩),.pointer (some ⟨VB,0,none⟩),.slice none 0 0,.int .i64 cd,x6,x7,y8,.pointer (some ⟨Bl,0,none⟩),y10,y11,y12,y13,y14,y15,y16,y17,y18,y19,y20,y21,y22,x23,x24,x25,x26,x27,x28,x29,x30,x31,x32,x33,y34,y35,y36,y37,y38,y39,y40,y41,y42,y43,y44,y45,y46,y47,y48,y49,y50,y51,y52,y53,y54,y55,y56,y57,y58,y59,y60,y61,y62,y63,y64,y65,y66,y67,y68,y69,y70,y71,y72,y73,y74,y75,y76,y77,y78,y79,y80,y81,y82,y83,y84,y85,y86,y87,y88,y89,y90,y91,y92,y93,y94,y95,y96,y97,y98,y99,y100,y101,y102,y103,y104,y105,y106,y107,y108,y109,y110,y111,y112,y113,y114,y115,y116,y117,y118,y119,y120,y121,y122,y123,y124,y125,y126,y127,y128,y129,y130,y131,y132,y133,y134,y135,y136,y137,y138,y139,y140,y141,y142,y143,y144,y145,y146,y147,y148,y149,y150,y151,y152,y153,y154,y155,y156,y157,y158,y159,y160,y161,y162,y163,y164,y165,y166,y167,y168,y169,y170,y171,y172,y173,y174,y175,y176,y177,y178,y179,y180,y181,y182,y183,y184,y185,x186],defers:=[]} W'),
  Code.wp prog (sq2 (sq2 (blk9 (sq1 (sq2 (lop9 (blk9 (sq2 (sq1 (sq2 (sq2 (sq2 (sq2 (sq2 (sq2 (f42.body.getD .skip)))))))))))))))) Q {tmps:=#[x0,x1,.pointer (some ⟨CB,0,none⟩),.pointer (some ⟨VB,0,none⟩),x4,x5,x6,x7,vK,.pointer (some ⟨Bl,0,none⟩),vS,.int .i64 i,.pointer (some ⟨XB,0,none⟩),x13,x14,x15,x16,x17,x18,x19,x20,x21,x22,x23,x24,x25,x26,x27,x28,x29,x30,x31,x32,x33,x34,x35,x36,x37,x38,x39,x40,x41,x42,x43,x44,x45,x46,.int .i64 x.op,x48,x49,x50,x51,x52,x53,x54,x55,x56,x57,x58,x59,x60,x61,x62,x63,x64,x65,x66,x67,x68,x69,x70,x71,x72,x73,x74,x75,x76,x77,x78,x79,x80,x81,x82,x83,x84,x85,x86,x87,x88,x89,x90,x91,x92,x93,x94,x95,x96,x97,x98,x99,x100,x101,x102,x103,x104,x105,x106,x107,x108,x109,x110,x111,x112,x113,x114,x115,x116,x117,x118,x119,x120,x121,x122,x123,x124,x125,x126,x127,x128,x129,x130,x131,x132,x133,x134,x135,x136,x137,x138,x139,x140,x141,x142,x143,x144,x145,x146,x147,x148,x149,x150,x151,x152,x153,x154,x155,x156,x157,x158,x159,x160,x161,x162,x163,x164,x165,x166,x167,x168,x169,x170,x171,x172,x173,x174,x175,x176,x177,x178,x179,x180,x181,x182,x183,x184,x185,x186],defers:=[]} W0
variable {w W0 : World} {base Bl CB VB XB i : Nat} {x : Ins} {sl : List ByteArray} {v : Vw} {vi vs vK vS : Value} {stk slots : List Val} {st : List (ByteArray × Val)}
theorem jo(ho:x.op=1):bK w W0 base Bl CB VB XB i x sl v vi vs vK vS stk slots st:=by
 intro H0 HX HCB HS
 intros
 rename_i Q hpan hQ hR
 have HT:Hid (stepF sl v x i stk slots st= .inl (i+1,stk++[⟨x.a,false,x.n,x.d⟩],slots,st)):=zh (by unfold stepF;rw [if_pos ho]);have q1:(x.op==1)=true:=by simpa using ho
 have q2:(x.op==2)=false:=by simp;omega
 have q3:(x.op==3)=false:=by simp;omega
 have q4:(x.op==4)=false:=by simp;omega
 have q5:(x.op==5)=false:=by simp;omega
 have q23:(x.op==23)=false:=by simp;omega
 have q24:(x.op==24)=false:=by simp;omega
 have q21:(x.op==21)=false:=by simp;omega
 have q22:(x.op==22)=false:=by simp;omega
 clear ho;obtain⟨i1,hi1,hz11,hz21,hz31⟩:=info_parts ag;obtain⟨ty,hxb⟩:=HX.out;have v0:=cell_of_row W0 _ 0 _ _ _ hxb;have v1:=cell_of_row W0 _ 1 _ _ _ hxb;have v2:=cell_of_row W0 _ 2 _ _ _ hxb;have v3:=cell_of_row W0 _ 3 _ _ _ hxb;have hXB:=(Array.getElem?_eq_some_iff.1 hxb).1;have HXB:=zh hXB;clear hxb
 conv=>arg 2;whnf
 go_wp2_with ((at_builtin;refine wpList_append_lies _ rfl _ _ 143 rfl base 41 i1 _ 4 32 underlying143 hi1 hz11 hz21 hz31 rfl ze vK stk.length (vlV stk) rfl (own_grow9 H0.out.stk growsR) ⟨_,0,none⟩ 1 1 [.int .i64 (x.a),.bool (false),.int .i64 (x.n),.int .i64 (x.d)] rfl rfl (news_cells _ [.int .i64 (x.a),.bool (false),.int .i64 (x.n),.int .i64 (x.d)] _ _ zf) zj ze zu zp zn _ rfl ?_;intro g4 c4 w4 hown hgrow hgg hgl;have h4:=H0.out.push ⟨x.a,false,x.n,x.d⟩ (n:=stk.length+1) rfl growsR hgrow hgg zg hown;have H4:=zh h4;clear hown hgrow hgg hgl h4))
 exact vz2
theorem fq(b:Bool)(ho:x.op=23/\b=true\/x.op=24/\b=false):bK w W0 base Bl CB VB XB i x sl v vi vs vK vS stk slots st:=by
 intro H0 HX HCB HS
 intros
 rename_i Q hpan hQ hR
 have HT:Hid (stepF sl v x i stk slots st= .inl (i+1,stk++[⟨1,b,0,0⟩],slots,st)):=zh (by
  unfold stepF
  rcases ho with ⟨h,rfl⟩|⟨h,rfl⟩<;>simp [h,Val.truth])
 rcases ho with ⟨ho,rfl⟩|⟨ho,rfl⟩
 ·have q1:(x.op==1)=false:=by simp;omega
  have q2:(x.op==2)=false:=by simp;omega
  have q3:(x.op==3)=false:=by simp;omega
  have q4:(x.op==4)=false:=by simp;omega
  have q5:(x.op==5)=false:=by simp;omega
  have q23:(x.op==23)=true:=by simpa using ho
  have q24:(x.op==24)=false:=by simp;omega
  have q21:(x.op==21)=false:=by simp;omega
  have q22:(x.op==22)=false:=by simp;omega
  clear ho;obtain⟨i1,hi1,hz11,hz21,hz31⟩:=info_parts ag;obtain⟨ty,hxb⟩:=HX.out;have v0:=cell_of_row W0 _ 0 _ _ _ hxb;have v1:=cell_of_row W0 _ 1 _ _ _ hxb;have v2:=cell_of_row W0 _ 2 _ _ _ hxb;have v3:=cell_of_row W0 _ 3 _ _ _ hxb;have hXB:=(Array.getElem?_eq_some_iff.1 hxb).1;have HXB:=zh hXB;clear hxb
  conv=>arg 2;whnf
  go_wp2_with ((at_builtin;refine wpList_append_lies _ rfl _ _ 143 rfl base 41 i1 _ 4 32 underlying143 hi1 hz11 hz21 hz31 rfl ze vK stk.length (vlV stk) rfl (own_grow9 H0.out.stk growsR) ⟨_,0,none⟩ 1 1 [.int .i64 (1),.bool (true),.int .i64 (0),.int .i64 (0)] rfl rfl (news_cells _ [.int .i64 (1),.bool (true),.int .i64 (0),.int .i64 (0)] _ _ zf) zj ze zu zp zn _ rfl ?_;intro g4 c4 w4 hown hgrow hgg hgl;have h4:=H0.out.push ⟨1,true,0,0⟩ (n:=stk.length+1) rfl growsR hgrow hgg zg hown;have H4:=zh h4;clear hown hgrow hgg hgl h4))
  exact vz2
 ·have q1:(x.op==1)=false:=by simp;omega
  have q2:(x.op==2)=false:=by simp;omega
  have q3:(x.op==3)=false:=by simp;omega
  have q4:(x.op==4)=false:=by simp;omega
  have q5:(x.op==5)=false:=by simp;omega
  have q23:(x.op==23)=false:=by simp;omega
  have q24:(x.op==24)=true:=by simpa using ho
  have q21:(x.op==21)=false:=by simp;omega
  have q22:(x.op==22)=false:=by simp;omega
  clear ho;obtain⟨i1,hi1,hz11,hz21,hz31⟩:=info_parts ag;obtain⟨ty,hxb⟩:=HX.out;have v0:=cell_of_row W0 _ 0 _ _ _ hxb;have v1:=cell_of_row W0 _ 1 _ _ _ hxb;have v2:=cell_of_row W0 _ 2 _ _ _ hxb;have v3:=cell_of_row W0 _ 3 _ _ _ hxb;have hXB:=(Array.getElem?_eq_some_iff.1 hxb).1;have HXB:=zh hXB;clear hxb
  conv=>arg 2;whnf
  go_wp2_with ((at_builtin;refine wpList_append_lies _ rfl _ _ 143 rfl base 41 i1 _ 4 32 underlying143 hi1 hz11 hz21 hz31 rfl ze vK stk.length (vlV stk) rfl (own_grow9 H0.out.stk growsR) ⟨_,0,none⟩ 1 1 [.int .i64 (1),.bool (false),.int .i64 (0),.int .i64 (0)] rfl rfl (news_cells _ [.int .i64 (1),.bool (false),.int .i64 (0),.int .i64 (0)] _ _ zf) zj ze zu zp zn _ rfl ?_;intro g4 c4 w4 hown hgrow hgg hgl;have h4:=H0.out.push ⟨1,false,0,0⟩ (n:=stk.length+1) rfl growsR hgrow hgg zg hown;have H4:=zh h4;clear hown hgrow hgg hgl h4))
  exact vz2
theorem aP{W:World}{B size n:Nat}{e:TypeId}{v:Value}{xs:List Value}(h:W.ownsRow B e size v n xs)(hn:0<n):∃g c,v= .slice (some ⟨g,0,none⟩) n c/\n<=c:=by
 rcases h.2 with ⟨_,h0⟩|⟨g,cap,cur,h',hb,hg,hnc,_⟩
 ·omega
 ·exact⟨g,cap,h',hnc⟩
theorem eB{m:Nat}(h:m<=4000):wrap64 (m:Int)=(m:Int):=by unfold wrap64;omega
theorem gV{l:List Val}{m:Nat}(h:l.length=m+1):l.dropLast=l.take m:=by
 rw [dropLast_eq_take,h];rfl
theorem ja{l:List Val}{m:Nat}(h:l.length=m+1):l.getLastD .zero=l.getD m .zero:=by
 rw [getLastD_eq_getLast?,getLast?_eq_getElem?,h,getD_eq_getElem?_getD];rfl
variable {w W0 : World} {base Bl CB VB XB i : Nat} {x : Ins} {sl : List ByteArray} {v : Vw} {vi vs vK vS : Value} {stk slots : List Val} {st : List (ByteArray × Val)}
theorem jl(ho:x.op=3)(ha:0<=x.a/\x.a<12)(hl:slots.length=12):bK w W0 base Bl CB VB XB i x sl v vi vs vK vS stk slots st:=by
 intro H0 HX HCB HS
 intros
 rename_i Q hpan hQ hR
 obtain⟨y,hy⟩:∃y,slots.getD x.a.toNat .zero=y:=⟨_,rfl⟩;have HT:Hid (stepF sl v x i stk slots st= .inl (i+1,stk++[y],slots,st)):=zh (by unfold stepF;rw [<-hy];simp [ho]);obtain⟨s0,s1,s2,s3⟩:=H0.out.slot x.a.toNat zb;rw [hy]at s0 s1 s2 s3;have e0:0<=x.a:=ha.1;have e1:x.a<12:=ha.2;have hB:=H0.out.lt;have q1:(x.op==1)=false:=by simp;omega
 have q2:(x.op==2)=false:=by simp;omega
 have q3:(x.op==3)=true:=by simpa using ho
 have q4:(x.op==4)=false:=by simp;omega
 have q5:(x.op==5)=false:=by simp;omega
 have q23:(x.op==23)=false:=by simp;omega
 have q24:(x.op==24)=false:=by simp;omega
 have q21:(x.op==21)=false:=by simp;omega
 have q22:(x.op==22)=false:=by simp;omega
 clear ho hy;obtain⟨i1,hi1,hz11,hz21,hz31⟩:=info_parts ag;obtain⟨ty,hxb⟩:=HX.out;have v0:=cell_of_row W0 _ 0 _ _ _ hxb;have v1:=cell_of_row W0 _ 1 _ _ _ hxb;have v2:=cell_of_row W0 _ 2 _ _ _ hxb;have v3:=cell_of_row W0 _ 3 _ _ _ hxb;have hXB:=(Array.getElem?_eq_some_iff.1 hxb).1;have HXB:=zh hXB;clear hxb
 conv=>arg 2;whnf
 go_wp2_with ((at_builtin;refine wpList_append_lies _ rfl _ _ 143 rfl base 41 i1 _ 4 32 underlying143 hi1 hz11 hz21 hz31 rfl ze vK stk.length (vlV stk) rfl (own_grow9 H0.out.stk growsR) ⟨_,0,none⟩ 1 1 [.int .i64 (y.dim),.bool (y.yes),.int .i64 (y.n),.int .i64 (y.d)] rfl rfl (news_cells _ [.int .i64 (y.dim),.bool (y.yes),.int .i64 (y.n),.int .i64 (y.d)] _ _ zf) zj ze zu zp zn _ rfl ?_;intro g4 c4 w4 hown hgrow hgg hgl;have h4:=H0.out.push ⟨y.dim,y.yes,y.n,y.d⟩ (n:=stk.length+1) rfl growsR hgrow hgg zg hown;have H4:=zh h4;clear hown hgrow hgg hgl h4))
 exact vz2
theorem iJ(ho:x.op=21)(ha:0<=x.a/\x.a<=4000):bK w W0 base Bl CB VB XB i x sl v vi vs vK vS stk slots st:=by
 intro H0 HX HCB HS
 intros
 rename_i Q hpan hQ hR
 have HT:Hid (stepF sl v x i stk slots st= .inl (x.a.toNat,stk,slots,st)):=zh (by unfold stepF;simp [ho]);have hw:IntKind.i64.wrap (x.a-1)=x.a-1:=IntWalk.i64_in _ zb;have HA:=zh ha;have q1:(x.op==1)=false:=by simp;omega
 have q2:(x.op==2)=false:=by simp;omega
 have q3:(x.op==3)=false:=by simp;omega
 have q4:(x.op==4)=false:=by simp;omega
 have q5:(x.op==5)=false:=by simp;omega
 have q23:(x.op==23)=false:=by simp;omega
 have q24:(x.op==24)=false:=by simp;omega
 have q21:(x.op==21)=true:=by simpa using ho
 have q22:(x.op==22)=false:=by simp;omega
 clear ho;obtain⟨i1,hi1,hz11,hz21,hz31⟩:=info_parts ag;obtain⟨ty,hxb⟩:=HX.out;have v0:=cell_of_row W0 _ 0 _ _ _ hxb;have v1:=cell_of_row W0 _ 1 _ _ _ hxb;have v2:=cell_of_row W0 _ 2 _ _ _ hxb;have v3:=cell_of_row W0 _ 3 _ _ _ hxb;have hXB:=(Array.getElem?_eq_some_iff.1 hxb).1;have HXB:=zh hXB;clear hxb
 conv=>arg 2;whnf
 go_wp2_with fail
 (apply hQ;exact HT;exact H0;exact zh zI)
variable {w W0 : World} {base Bl CB VB XB i : Nat} {x : Ins} {sl : List ByteArray} {v : Vw} {vi vs vK vS : Value} {stk slots : List Val} {st : List (ByteArray × Val)}
theorem ji(y:Value)(HV:Hid (W0.cell? ⟨VB,12,none⟩=some y/\VB<W0.heap.size))(HB:Hid (∀w',W0.Grows w'->Calls prog 102 #[y,.int .i64 x.a] w' fun e w''=>e= .returned (frV (bestF v.years x.a))/\w'.Grows w''))(ho:x.op=5):bK w W0 base Bl CB VB XB i x sl v vi vs vK vS stk slots st:=by
 intro H0 HX HCB HS
 intros
 rename_i Q hpan hQ hR
 have HF:Hid (stepF sl v x i stk slots st=if(bestF v.years x.a).2.2=0 then .inl (i+1,stk++[.num 4 (bestF v.years x.a).1 (bestF v.years x.a).2.1],slots,st)else .inr (bestF v.years x.a).2.2):=zh (by unfold stepF;simp [ho]);unfold frV at HB;generalize bestF v.years x.a=R at *;obtain⟨rn,rd,rc⟩:=R;dsimp only at HF HB;obtain⟨y12,yV⟩:=HV.out;have q1:(x.op==1)=false:=by simp;omega
 have q2:(x.op==2)=false:=by simp;omega
 have q3:(x.op==3)=false:=by simp;omega
 have q4:(x.op==4)=false:=by simp;omega
 have q5:(x.op==5)=true:=by simpa using ho
 have q23:(x.op==23)=false:=by simp;omega
 have q24:(x.op==24)=false:=by simp;omega
 have q21:(x.op==21)=false:=by simp;omega
 have q22:(x.op==22)=false:=by simp;omega
 clear ho;by_cases hrc:rc=0
 ·subst hrc;have HT:Hid (stepF sl v x i stk slots st= .inl (i+1,stk++[⟨4,false,rn,rd⟩],slots,st)):=zh (by rw [HF.out];rfl);clear HF;obtain⟨i1,hi1,hz11,hz21,hz31⟩:=info_parts ag;obtain⟨ty,hxb⟩:=HX.out;have v0:=cell_of_row W0 _ 0 _ _ _ hxb;have v1:=cell_of_row W0 _ 1 _ _ _ hxb;have v2:=cell_of_row W0 _ 2 _ _ _ hxb;have v3:=cell_of_row W0 _ 3 _ _ _ hxb;have hXB:=(Array.getElem?_eq_some_iff.1 hxb).1;have HXB:=zh hXB;clear hxb
  conv=>arg 2;whnf
  go_wp2_with (first|(go_at_call 102;refine(HB.out _ (.of_below belB)).mono ?_;rintro e' wA ⟨rfl,bA,dA,rfl⟩)|((at_builtin;refine wpList_append_lies _ rfl _ _ 143 rfl base 41 i1 _ 4 32 underlying143 hi1 hz11 hz21 hz31 rfl ze vK stk.length (vlV stk) rfl (own_grow9 H0.out.stk (.of_below belB)) ⟨_,0,none⟩ 1 1 [.int .i64 (4),.bool (false),.int .i64 (rn),.int .i64 (rd)] rfl rfl (news_cells _ [.int .i64 (4),.bool (false),.int .i64 (rn),.int .i64 (rd)] _ _ zf) zj ze zu zp zn _ rfl ?_;intro g4 c4 w4 hown hgrow hgg hgl;have h4:=H0.out.push ⟨4,false,rn,rd⟩ (n:=stk.length+1) rfl (.of_below belB) hgrow hgg zg hown;have H4:=zh h4;clear hown hgrow hgg hgl h4)))
  exact vz2
 ·have HT:Hid (stepF sl v x i stk slots st= .inr rc):=zh (by rw [HF.out,if_neg hrc]);have hrb:(rc !=0)=true:=by simpa using hrc
  clear HF;obtain⟨i1,hi1,hz11,hz21,hz31⟩:=info_parts ag;obtain⟨ty,hxb⟩:=HX.out;have v0:=cell_of_row W0 _ 0 _ _ _ hxb;have v1:=cell_of_row W0 _ 1 _ _ _ hxb;have v2:=cell_of_row W0 _ 2 _ _ _ hxb;have v3:=cell_of_row W0 _ 3 _ _ _ hxb;have hXB:=(Array.getElem?_eq_some_iff.1 hxb).1;have HXB:=zh hXB;clear hxb
  conv=>arg 2;whnf
  go_wp2_with (go_at_call 102;refine(HB.out _ (.of_below belB)).mono ?_;rintro e' wA ⟨rfl,bA,dA,rfl⟩)
  (apply hR;exact HT;exact zh (H0.out.gr.trans' (.of_below belB)))
theorem dK{W W':World}{B o k:Nat}{a b c d:Value}{ob:Obj}(h:W.heap[k]? =some ob)(hne:k≠B)(hg:World.Grows ((((W.setCell ⟨B,o,none⟩ a).setCell ⟨B,o+1,none⟩ b).setCell ⟨B,o+2,none⟩ c).setCell ⟨B,o+3,none⟩ d) W'):W'.heap[k]? =some ob:=by
 have hk:=(Array.getElem?_eq_some_iff.1 h).1;have hn:some k≠some B:=fun e=>hne (Option.some.inj e);have g1:=grownSet W B o a;have g2:=grownSet (W.setCell ⟨B,o,none⟩ a) B (o+1) b;have g3:=grownSet ((W.setCell ⟨B,o,none⟩ a).setCell ⟨B,o+1,none⟩ b) B (o+2) c;have g4:=grownSet (((W.setCell ⟨B,o,none⟩ a).setCell ⟨B,o+1,none⟩ b).setCell ⟨B,o+2,none⟩ c) B (o+3) d;have k1:=Nat.lt_of_lt_of_le hk g1.size;have k2:=Nat.lt_of_lt_of_le k1 g2.size;have k3:=Nat.lt_of_lt_of_le k2 g3.size;have k4:=Nat.lt_of_lt_of_le k3 g4.size;exact(hg.below.block k k4).trans ((g4.block k k3 hn).trans ((g3.block k k2 hn).trans ((g2.block k k1 hn).trans ((g1.block k hk hn).trans h))))
variable {w W0 : World} {base Bl CB VB XB i : Nat} {x : Ins} {sl : List ByteArray} {v : Vw} {vi vs vK vS : Value} {stk slots : List Val} {st : List (ByteArray × Val)}
theorem jk(ho:x.op=4)(ha:0<=x.a/\x.a<12)(hl:slots.length=12)(hk:0<stk.length)(hne:XB≠Bl)(sb so sc:Nat)(hvs:vs= .slice (some ⟨sb,so,none⟩) sl.length sc)(hxs:x.a<sl.length)(HSL:Hid (∀W,w.Grows W->sb<W.heap.size/\W.cell? ⟨sb,so+x.a.toNat,none⟩=some (.string (sl.getD x.a.toNat ByteArray.empty)))):bK w W0 base Bl CB VB XB i x sl v vi vs vK vS stk slots st:=by
 intro H0 HX HCB HS
 intros
 rename_i Q hpan hQ hR
 subst hvs;obtain⟨m,hm⟩:∃m,stk.length=m+1:=⟨stk.length-1,by omega⟩;obtain⟨g,c,rfl,hc⟩:=aP H0.out.stk hk;obtain⟨y,hy⟩:∃y,stk.getD m .zero=y:=⟨_,rfl⟩;obtain⟨s0,s1,s2,s3⟩:=H0.out.val rfl m zb;rw [hy]at s0 s1 s2 s3;have hg:=(H0.out.stk.lt g rfl).2;have HM:=zh hm;rw [hm]at hc ⊢;have hw3:wrap64 (m:Int)=(m:Int):=eB zp;have j0:(0:Int)<=(m:Int):=by omega
 have j1:(m:Int)<((m+1:Nat):Int):=by omega
 have j4:(m:Int)<(m:Int)+1:=by omega
 have j2:m<m+1:=by omega
 have j3:(m:Int)<=(c:Int):=by omega
 have e0:0<=x.a:=ha.1;have e1:x.a<12:=ha.2;have hB:=H0.out.lt;have HT:Hid (stepF sl v x i stk slots st= .inl (i+1,stk.take m,slots.set x.a.toNat y,st++[(sl.getD x.a.toNat ByteArray.empty,y)])):=zh (by unfold stepF;rw [gV hm,ja hm,hy];simp [ho]);have HU:=zh (H0.out.set x.a.toNat zb y);have HY:=zh hy;have q1:(x.op==1)=false:=by simp;omega
 have q2:(x.op==2)=false:=by simp;omega
 have q3:(x.op==3)=false:=by simp;omega
 have q4:(x.op==4)=true:=by simpa using ho
 have q5:(x.op==5)=false:=by simp;omega
 have q23:(x.op==23)=false:=by simp;omega
 have q24:(x.op==24)=false:=by simp;omega
 have q21:(x.op==21)=false:=by simp;omega
 have q22:(x.op==22)=false:=by simp;omega
 clear ho hm hy;obtain⟨i1,hi1,hz11,hz21,hz31⟩:=info_parts ag;obtain⟨ty,hxb⟩:=HX.out;have v0:=cell_of_row W0 _ 0 _ _ _ hxb;have v1:=cell_of_row W0 _ 1 _ _ _ hxb;have v2:=cell_of_row W0 _ 2 _ _ _ hxb;have v3:=cell_of_row W0 _ 3 _ _ _ hxb;have hXB:=(Array.getElem?_eq_some_iff.1 hxb).1;have HXB:=zh hXB;clear hxb
 conv=>arg 2;whnf
 go_upto_region 29 with fail
 refine TS.begin [7] (World.Grows W0) zd zd grows_drew0 (fun hS=>?_);refine TS.wkB 0 hS ?_;refine TS.wkB 1 hS ?_;refine TS.wkB 2 hS ?_;refine TS.wkB 3 hS ?_;refine TS.wkB 4 hS ?_;refine TS.wkB 5 hS ?_;refine TS.wkB 6 hS ?_;obtain⟨t0,t1,t2,t3⟩:=H0.out.slot x.a.toNat zb;have f0:=H0.out.unfr (x.a.toNat*4);have f1:=H0.out.unfr (x.a.toNat*4+1);have f2:=H0.out.unfr (x.a.toNat*4+2);have f3:=H0.out.unfr (x.a.toNat*4+3);refine TS.weB 7 ?_
 go_upto_region 30 with fail
 refine cutW (fun W=>RnSt w base Bl stk (slots.set x.a.toNat y) st (.slice (some ⟨g,0,none⟩) stk.length c) vS W/\(∃ty,W.heap[XB]? =some (.cells #[.int .i64 x.op,.int .i64 x.a,.int .i64 x.n,.int .i64 x.d] ty (0,0)))/\∃ty,W.heap[CB]? =some (.cells #[vi,.slice (some ⟨sb,so,none⟩) sl.length sc] ty (0,0))) ⟨HU.out.grows grows_drew0, ?_, ?_⟩ ?_
 ·obtain⟨ty,h⟩:=HX.out;exact⟨ty,dK h hne grows_drew0⟩
 ·obtain⟨ty,h⟩:=HCB.out.2;exact⟨ty,dK h (by have:=HCB.out.1;omega) grows_drew0⟩
 intro W1 hW1;obtain⟨hR1,⟨tx,hx1⟩,⟨tc,hc1⟩⟩:=hW1;have H1:=zh hR1;clear s0 s1 s2 s3 t0 t1 t2 t3 f0 f1 f2 f3 v0 v1 v2 v3 hg hB hR1;obtain⟨s0,s1,s2,s3⟩:=H1.out.val rfl m (by have:=HM.out;omega);rw [HY.out]at s0 s1 s2 s3;have hg:=(H1.out.stk.lt g rfl).2;have v1:=cell_of_row W1 _ 1 _ _ _ hx1;have c1:=cell_of_row W1 _ 1 _ _ _ hc1;have hXB1:=(Array.getElem?_eq_some_iff.1 hx1).1;have hCB1:=(Array.getElem?_eq_some_iff.1 hc1).1;obtain⟨hsb,r0⟩:=HSL.out W1 H1.out.gr;have e2:x.a<(sl.length:Int):=hxs;obtain⟨i2,hi2,hz12,hz22,hz32⟩:=info_parts infoSp;obtain⟨nm,hnm⟩:∃s,sl.getD x.a.toNat ByteArray.empty=s:=⟨_,rfl⟩;rw [hnm]at r0;have HNM:=zh hnm;clear hx1 hc1 hnm;refine TS.begin [13,14] (World.Grows W1) zd zd grows_drew0 (fun hS=>?_);refine TS.wkB 0 hS ?_;refine TS.wkB 1 hS ?_;refine TS.wkB 2 hS ?_;refine TS.wkB 3 hS ?_;refine TS.wkB 4 hS ?_;refine TS.wkB 5 hS ?_;refine TS.wkB 6 hS ?_;refine TS.wkB 7 hS ?_;refine TS.wkB 8 hS ?_;refine TS.wkB 9 hS ?_;refine TS.wkB 10 hS ?_;refine TS.wkB 11 hS ?_;refine TS.one (i:=12) zd rfl (fun K1 hK1=>?_);have HK1:=zh hK1;clear hK1 hS;dsimp only [getElem_toArray,getElem_cons_succ,getElem_cons_zero]
 go_simp
 refine TS.go HK1.out growsR (fun hS=>?_);clear HK1 K1
 (try simp only [nS])
 refine TS.one (i:=13) zd rfl (fun K1 hK1=>?_);refine step_append_lies _ rfl _ _ 66 rfl base 70 i2 _ 5 48 underlying66 hi2 hz12 hz22 hz32 rfl ze vS st.length (spV st) rfl (own_grow9 H1.out.stp growsR) ⟨_,0,none⟩ 1 1 [.string nm,.int .i64 y.dim,.bool y.yes,.int .i64 y.n,.int .i64 y.d] rfl rfl (news_cells _ [.string nm,.int .i64 y.dim,.bool y.yes,.int .i64 y.n,.int .i64 y.d] _ _ zf) (by intro u hu;simp at hu;rcases hu with rfl|rfl|rfl|rfl|rfl<;>rfl) ze zu zp (by have:=H1.out.bW;simp;omega) _ rfl ?_;intro g6 c6 w6 hown hgrow hgg hgl;have h6:=H1.out.step nm y (n:=st.length+1) rfl growsR hgrow hgg zg hown;have h7:=h6.cut rfl (k:=m) (by have:=HM.out;omega);have H7:=zh h7;refine hK1 _ _ (fun h=>absurd ze h) ?_;clear hK1 K1 hown hgrow hgg hgl h6 h7 hS
 (try simp only [nS])
 refine TS.weB 14 ?_
 go_wp2_with fail
 rw [HNM.out]at HT
 (apply hQ;exact HT;exact H7;exact zh zf)
variable {w W0 : World} {base Bl CB VB XB i : Nat} {x : Ins} {sl : List ByteArray} {v : Vw} {vi vs vK vS : Value} {stk slots : List Val} {st : List (ByteArray × Val)}
theorem iH(g m ar c:Nat)(r:Val × Int)(hvK:vK= .slice (some ⟨g,0,none⟩) stk.length c)(hm:stk.length=m+ar)(har:ar=1\/ar=2)(hc:m+ar<=c)(ho:6<=x.op/\x.op<=20)(hari:ariF (opF x.op)=ar)(HF:Hid (stepF sl v x i stk slots st=if r.2=0 then .inl (i+1,stk.take m++[r.1],slots,st)else .inr r.2))(HC:Hid (∀W',W0.Grows W'->Calls prog 105 #[.int .i64 (opF x.op),.slice (some ⟨g,m*4,none⟩) ar (c-m)] W' (CalP r W'))):bK w W0 base Bl CB VB XB i x sl v vi vs vK vS stk slots st:=by
 intro H0 HX HCB HS
 intros
 rename_i Q hpan hQ hR
 subst hvK;have q1:(x.op==1)=false:=by simp;omega
 have q2:(x.op==2)=false:=by simp;omega
 have q3:(x.op==3)=false:=by simp;omega
 have q4:(x.op==4)=false:=by simp;omega
 have q5:(x.op==5)=false:=by simp;omega
 have q23:(x.op==23)=false:=by simp;omega
 have q24:(x.op==24)=false:=by simp;omega
 have q21:(x.op==21)=false:=by simp;omega
 have q22:(x.op==22)=false:=by simp;omega
 have hg:=(H0.out.stk.lt g rfl).2;have HM:=zh hm;have HA:=zh har
 have hw1:IntKind.i64.wrap ((stk.length:Int)-(ar:Int))=(m:Int):=by
  rw [show(stk.length:Int)-(ar:Int)=(m:Int)by omega];exact IntWalk.i64_in _ zp
 have HO:=zh (fun w=>oper2_any x.op w);have HP:=zh (fun w=>operands_any (opF x.op) w);rw [hari]at HP;generalize opF x.op=fo at *;have hw3:wrap64 (m:Int)=(m:Int):=eB zp;have j0:(0:Int)<=(m:Int):=by omega
 have j1:(m:Int)<=(stk.length:Int):=by omega
 have j5:m<=stk.length:=by omega
 have j3:(m:Int)<=(c:Int):=by omega
 have j7:(stk.length:Int)<=(c:Int):=by omega
 have j6:stk.length-m=ar:=by omega
 have j8:c≠m:=by rcases har with h|h<;>omega
 have HCUT:=zh (H0.out.cut rfl (k:=m) zb);clear ho hm hari har;obtain⟨rv,rc⟩:=r;unfold CalP at HC;dsimp only at HF HC;obtain⟨i1,hi1,hz11,hz21,hz31⟩:=info_parts ag;obtain⟨ty,hxb⟩:=HX.out;have v0:=cell_of_row W0 _ 0 _ _ _ hxb;have v1:=cell_of_row W0 _ 1 _ _ _ hxb;have v2:=cell_of_row W0 _ 2 _ _ _ hxb;have v3:=cell_of_row W0 _ 3 _ _ _ hxb;have hXB:=(Array.getElem?_eq_some_iff.1 hxb).1;have HXB:=zh hXB;clear hxb
 conv=>arg 2;whnf
 go_upto_region 16 with (first
  |(go_at_call 103;refine(HO.out _).mono ?_;rintro e' w' ⟨rfl,rfl⟩)
  |(go_at_call 104;refine(HP.out _).mono ?_;rintro e' w' ⟨rfl,rfl⟩))
 go_upto_region 17 with (go_at_call 105;(try rw [if_neg j8]);refine(HC.out _ (.of_below belB)).mono ?_;rintro e' wA ⟨vm,vn,vd,vb,rfl,hrv,bA,dA,rfl⟩)
 by_cases hrc:rc=0
 ·subst hrc;have HT:Hid (stepF sl v x i stk slots st= .inl (i+1,stk.take m++[⟨vm,vb,vn,vd⟩],slots,st)):=zh (by rw [HF.out,if_pos rfl,hrv rfl]);clear HF hrv
  go_upto_region 19 with fail
  refine cutW (fun W=>W0.Grows W/\∃ty,W.heap[W0.heap.size+bA.size]? =some (.cells #[.int .i64 vm,.bool vb,.int .i64 vn,.int .i64 vd] ty (0,0))) ⟨growsR,_,heap_new _ _ _ zf⟩ ?_;intro W1 hW1;obtain⟨hg1,ty1,hb1⟩:=hW1;have H1:=zh (HCUT.out.grows hg1);have HOW:Hid (W1.ownsRow base 41 4 (.slice (some ⟨g,0,none⟩) m c) m (vlV (stk.take m))):=zh (by have h:=H1.out.stk;rw [length_take,Nat.min_eq_left j5]at h;exact h);have HTL:Hid (m+1=(stk.take m).length+1):=zh (by rw [length_take,Nat.min_eq_left j5]);generalize W0.heap.size+bA.size=NB at *;have n0:=cell_of_row W1 _ 0 _ _ _ hb1;have n1:=cell_of_row W1 _ 1 _ _ _ hb1;have n2:=cell_of_row W1 _ 2 _ _ _ hb1;have n3:=cell_of_row W1 _ 3 _ _ _ hb1;have hNB:=(Array.getElem?_eq_some_iff.1 hb1).1;clear hb1 hg1 v0 v1 v2 v3 hXB hg HC;refine TS.begin [5,6] (World.Grows W1) zd zd grows_drew0 (fun hS=>?_);refine TS.wkB 0 hS ?_;refine TS.wkB 1 hS ?_;refine TS.wkB 2 hS ?_;refine TS.wkB 3 hS ?_;refine TS.one (i:=4) zd rfl (fun K1 hK1=>?_);have HK1:=zh hK1;clear hK1 hS;dsimp only [getElem_toArray,getElem_cons_succ,getElem_cons_zero]
  go_simp
  refine TS.go HK1.out growsR (fun hS=>?_);clear HK1 K1
  (try simp only [nS])
  refine TS.one (i:=5) zd rfl (fun K1 hK1=>?_);refine step_append_lies _ rfl _ _ 143 rfl base 41 i1 _ 4 32 underlying143 hi1 hz11 hz21 hz31 rfl ze (.slice (some ⟨g,0,none⟩) m c) m (vlV (stk.take m)) rfl (own_grow9 HOW.out growsR) ⟨_,0,none⟩ 1 1 [.int .i64 vm,.bool vb,.int .i64 vn,.int .i64 vd] rfl rfl (news_cells _ [.int .i64 vm,.bool vb,.int .i64 vn,.int .i64 vd] _ _ zf) zj ze zu zp (by have:=H1.out.bW;simp;omega) _ rfl ?_;intro g4 c4 w4 hown hgrow hgg hgl;have h4:=H1.out.push ⟨vm,vb,vn,vd⟩ (n:=m+1) HTL.out growsR hgrow hgg zg hown;have H4:=zh h4;refine hK1 _ _ (fun h=>absurd ze h) ?_;clear hK1 K1 hown hgrow hgg hgl h4 hS
  (try simp only [nS])
  refine TS.weB 6 ?_
  go_wp2_with fail
  exact vz2
 ·have HT:Hid (stepF sl v x i stk slots st= .inr rc):=zh (by rw [HF.out,if_neg hrc]);have hrb:(rc !=0)=true:=by simpa using hrc
  clear HF hrv
  go_wp2_with fail
  (apply hR;exact HT;exact zh (H0.out.gr.trans' (.of_below belB)))
def vwR(v:Vw)(y:Value):Array Value:=#[.int .i64 v.age,.int .i64 v.year,.int .i64 v.children,.int .i64 v.insured,.int .i64 v.worked,.int .i64 v.voluntary,.int .i64 v.service,.int .i64 v.equated,.int .i64 v.raising,.int .i64 v.resident,.int .i64 v.bn,.int .i64 v.bd,y]
theorem gP{k:Nat}(h:k<11):inpD (inpNm k).toList≠0:=by
 have key:∀k,k<11->inpD (inpNm k).toList≠0:=by decide+kernel
 exact key k h
variable {w W0 : World} {base Bl CB VB XB i : Nat} {x : Ins} {sl : List ByteArray} {v : Vw} {vi vs vK vS : Value} {stk slots : List Val} {st : List (ByteArray × Val)}
theorem jm{y:Value}(HV:Hid (∃ty,W0.heap[VB]? =some (.cells (vwR v y) ty (0,0))))(HY:Hid (YrAt w y v.years))(hv:v.ok=true)(hr:VwRng v)(ho:x.op=2)(ha:0<=x.a/\x.a<11):bK w W0 base Bl CB VB XB i x sl v vi vs vK vS stk slots st:=by
 intro H0 HX HCB HS
 intros
 rename_i Q hpan hQ hR
 obtain⟨k,hk⟩:∃k:Nat,x.a=(k:Int):=⟨x.a.toNat,by omega⟩;have hk11:k<11:=by omega
 have hkt:x.a.toNat=k:=by omega
 have hne:inpD (inpNm k).toList≠0:=gP hk11
 have hsz:inputV v (inpNm k)=some (inVal v k):=by
  unfold inVal inputV;rw [if_neg (by simp [hne,hv])];rfl
 have HT:Hid (stepF sl v x i stk slots st= .inl (i+1,stk++[inVal v k],slots,st)):=zh (by unfold stepF;rw [hkt];simp [ho])
 have HIN:Hid (∀W,W0.Grows W->Calls prog 100 #[vwV v y,.string (inpNm k)] W fun e w'=>e= .returned (.tuple #[.agg #[.int .i64 (inVal v k).dim,.bool (inVal v k).yes,.int .i64 (inVal v k).n,.int .i64 (inVal v k).d],.bool true])/\W.Grows w'):=zh (fun W hg=>by
  have:=input2_some v y (inpNm k) W hr (HY.out.grows (H0.out.gr.trans' hg)) hne hv;rw [hsz]at this
  exact this)
 have hx:∀w,(Instr.index 173 (.agg inpA) (.int .i64 x.a)).run prog w= .ok (.string (inpNm k)) w:=by rw [hk];exact idx11 k hk11
 obtain⟨tyv,hvb⟩:=HV.out;unfold vwV at HIN;unfold vwR at hvb;have u0:=cell_of_row W0 _ 0 _ _ _ hvb;have u1:=cell_of_row W0 _ 1 _ _ _ hvb;have u2:=cell_of_row W0 _ 2 _ _ _ hvb;have u3:=cell_of_row W0 _ 3 _ _ _ hvb;have u4:=cell_of_row W0 _ 4 _ _ _ hvb;have u5:=cell_of_row W0 _ 5 _ _ _ hvb;have u6:=cell_of_row W0 _ 6 _ _ _ hvb;have u7:=cell_of_row W0 _ 7 _ _ _ hvb;have u8:=cell_of_row W0 _ 8 _ _ _ hvb;have u9:=cell_of_row W0 _ 9 _ _ _ hvb;have u10:=cell_of_row W0 _ 10 _ _ _ hvb;have u11:=cell_of_row W0 _ 11 _ _ _ hvb;have u12:=cell_of_row W0 _ 12 _ _ _ hvb;have hVB:=(Array.getElem?_eq_some_iff.1 hvb).1;clear hvb hne hsz hkt hk hk11 ha hr hv;generalize inVal v k=z at *;generalize inpNm k=nm at *;have q1:(x.op==1)=false:=by simp;omega
 have q2:(x.op==2)=true:=by simpa using ho
 have q3:(x.op==3)=false:=by simp;omega
 have q4:(x.op==4)=false:=by simp;omega
 have q5:(x.op==5)=false:=by simp;omega
 have q23:(x.op==23)=false:=by simp;omega
 have q24:(x.op==24)=false:=by simp;omega
 have q21:(x.op==21)=false:=by simp;omega
 have q22:(x.op==22)=false:=by simp;omega
 clear ho;obtain⟨i1,hi1,hz11,hz21,hz31⟩:=info_parts ag;obtain⟨ty,hxb⟩:=HX.out;have v0:=cell_of_row W0 _ 0 _ _ _ hxb;have v1:=cell_of_row W0 _ 1 _ _ _ hxb;have v2:=cell_of_row W0 _ 2 _ _ _ hxb;have v3:=cell_of_row W0 _ 3 _ _ _ hxb;have hXB:=(Array.getElem?_eq_some_iff.1 hxb).1;have HXB:=zh hXB;clear hxb
 conv=>arg 2;whnf
 go_upto_region 23 with fail
 refine TS.begin [11] (World.Grows W0) zd zd grows_drew0 (fun hS=>?_);refine TS.wkB 0 hS ?_;refine TS.wkB 2 hS ?_;refine TS.wkB 3 hS ?_;refine TS.two (i:=1) (k:=9) zd rfl rfl (fun K1 hK1=>?_) (fun K1 hK1=>?_)
 ·have HK1:=zh hK1;clear hK1 hS;dsimp only [getElem_toArray,getElem_cons_succ,getElem_cons_zero]
  go_simp
  go_at_call 101
  refine(inputs2_any _).mono ?_;rintro e' w' ⟨rfl,b1,d1,rfl⟩;refine TS.go HK1.out growsR (fun hS=>?_);clear HK1 K1
  (try simp only [nS])
  refine TS.wkB 4 hS ?_;refine TS.two (i:=5) (k:=9) zd rfl rfl (fun K1 hK1=>?_) (fun K1 hK1=>?_)
  focus
   have HK1:=zh hK1;clear hK1 hS;dsimp only [getElem_toArray,getElem_cons_succ,getElem_cons_zero]
   go_simp
   go_at_call 100
   refine(HIN.out _ growsR).mono ?_;rintro e' w' ⟨rfl,b2,d2,rfl⟩;refine TS.go HK1.out growsR (fun hS=>?_);clear HK1 K1
   (try simp only [nS])
   refine TS.wkB 6 hS ?_;refine TS.wkB 7 hS ?_;refine TS.wkB 8 hS ?_;refine TS.one (i:=9) zd rfl (fun K1 hK1=>?_);have HK1:=zh hK1;clear hK1 hS;dsimp only [getElem_toArray,getElem_cons_succ,getElem_cons_zero]
   go_simp
   refine TS.go HK1.out growsR (fun hS=>?_);clear HK1 K1
   (try simp only [nS])
  rotate_left
  focus
   have HK1:=zh hK1;clear hK1 hS;dsimp only [getElem_toArray,getElem_cons_succ,getElem_cons_zero]
   go_simp
   refine TS.go HK1.out growsR (fun hS=>?_);clear HK1 K1
   (try simp only [nS])
   refine TS.one (i:=5) zd rfl (fun K1 hK1=>?_);have HK1:=zh hK1;clear hK1 hS;dsimp only [getElem_toArray,getElem_cons_succ,getElem_cons_zero]
   go_simp
   go_at_call 100
   refine(HIN.out _ growsR).mono ?_;rintro e' w' ⟨rfl,b2,d2,rfl⟩;refine TS.go HK1.out growsR (fun hS=>?_);clear HK1 K1
   (try simp only [nS])
   refine TS.wkB 6 hS ?_;refine TS.wkB 7 hS ?_;refine TS.wkB 8 hS ?_
  rotate_left
  all_goals
   exact vz0
 ·have HK1:=zh hK1;clear hK1 hS;dsimp only [getElem_toArray,getElem_cons_succ,getElem_cons_zero]
  go_simp
  refine TS.go HK1.out growsR (fun hS=>?_);clear HK1 K1
  (try simp only [nS])
  refine TS.one (i:=1) zd rfl (fun K1 hK1=>?_);have HK1:=zh hK1;clear hK1 hS;dsimp only [getElem_toArray,getElem_cons_succ,getElem_cons_zero]
  go_simp
  go_at_call 101
  refine(inputs2_any _).mono ?_;rintro e' w' ⟨rfl,b1,d1,rfl⟩;refine TS.go HK1.out growsR (fun hS=>?_);clear HK1 K1
  (try simp only [nS])
  refine TS.wkB 4 hS ?_;refine TS.one (i:=5) zd rfl (fun K1 hK1=>?_);have HK1:=zh hK1;clear hK1 hS;dsimp only [getElem_toArray,getElem_cons_succ,getElem_cons_zero]
  go_simp
  go_at_call 100
  refine(HIN.out _ growsR).mono ?_;rintro e' w' ⟨rfl,b2,d2,rfl⟩;refine TS.go HK1.out growsR (fun hS=>?_);clear HK1 K1
  (try simp only [nS])
  refine TS.wkB 6 hS ?_;refine TS.wkB 7 hS ?_;refine TS.wkB 8 hS ?_;exact vz0
variable {w W0 : World} {base Bl CB VB XB i : Nat} {x : Ins} {sl : List ByteArray} {v : Vw} {vi vs vK vS : Value} {stk slots : List Val} {st : List (ByteArray × Val)}
theorem iI(ho:x.op=22)(ha:0<=x.a/\x.a<=4000)(hk:0<stk.length):bK w W0 base Bl CB VB XB i x sl v vi vs vK vS stk slots st:=by
 intro H0 HX HCB HS
 intros
 rename_i Q hpan hQ hR
 obtain⟨m,hm⟩:∃m,stk.length=m+1:=⟨stk.length-1,by omega⟩;obtain⟨g,c,rfl,hc⟩:=aP H0.out.stk hk;obtain⟨y,hy⟩:∃y,stk.getD m .zero=y:=⟨_,rfl⟩;obtain⟨s0,s1,s2,s3⟩:=H0.out.val rfl m zb;rw [hy]at s0 s1 s2 s3;have HC:=zh (H0.out.cut rfl (k:=m) zb);have hg:=(H0.out.stk.lt g rfl).2;rw [hm]at hc ⊢;have HL:=HS.out;have hw:IntKind.i64.wrap (x.a-1)=x.a-1:=IntWalk.i64_in _ zb
 have hw2:IntKind.i64.wrap (((m+1:Nat):Int)-1)=(m:Int):=by
  rw [show((m+1:Nat):Int)-1=(m:Int)by omega];exact IntWalk.i64_in _ zb
 have hw3:wrap64 (m:Int)=(m:Int):=eB zb;clear HL;have j0:(0:Int)<=(m:Int):=by omega
 have j1:(m:Int)<((m+1:Nat):Int):=by omega
 have j2:m<m+1:=by omega
 have j3:(m:Int)<=(c:Int):=by omega
 have HA:=zh ha;have q1:(x.op==1)=false:=by simp;omega
 have q2:(x.op==2)=false:=by simp;omega
 have q3:(x.op==3)=false:=by simp;omega
 have q4:(x.op==4)=false:=by simp;omega
 have q5:(x.op==5)=false:=by simp;omega
 have q23:(x.op==23)=false:=by simp;omega
 have q24:(x.op==24)=false:=by simp;omega
 have q21:(x.op==21)=false:=by simp;omega
 have q22:(x.op==22)=true:=by simpa using ho
 obtain⟨y1,yb,y2,y3⟩:=y;dsimp only at s0 s1 s2 s3
 cases hyb:yb with
 |true=>
  subst hyb;have hyb:True:=trivial;have HT:Hid (stepF sl v x i stk slots st= .inl (i+1,stk.take m,slots,st)):=zh zW;clear ho hyb hy;obtain⟨i1,hi1,hz11,hz21,hz31⟩:=info_parts ag;obtain⟨ty,hxb⟩:=HX.out;have v0:=cell_of_row W0 _ 0 _ _ _ hxb;have v1:=cell_of_row W0 _ 1 _ _ _ hxb;have v2:=cell_of_row W0 _ 2 _ _ _ hxb;have v3:=cell_of_row W0 _ 3 _ _ _ hxb;have hXB:=(Array.getElem?_eq_some_iff.1 hxb).1;have HXB:=zh hXB;clear hxb
  conv=>arg 2;whnf
  go_wp2_with fail
  (apply hQ;exact HT;exact HC;exact zh zI)
 |false=>
  subst hyb;have hyb:True:=trivial;have HT:Hid (stepF sl v x i stk slots st= .inl (x.a.toNat,stk.take m,slots,st)):=zh zW;clear ho hyb hy;obtain⟨i1,hi1,hz11,hz21,hz31⟩:=info_parts ag;obtain⟨ty,hxb⟩:=HX.out;have v0:=cell_of_row W0 _ 0 _ _ _ hxb;have v1:=cell_of_row W0 _ 1 _ _ _ hxb;have v2:=cell_of_row W0 _ 2 _ _ _ hxb;have v3:=cell_of_row W0 _ 3 _ _ _ hxb;have hXB:=(Array.getElem?_eq_some_iff.1 hxb).1;have HXB:=zh hXB;clear hxb
  conv=>arg 2;whnf
  go_wp2_with fail
  (apply hQ;exact HT;exact HC;exact zh zI)
theorem fA{l:List Val}{m:Nat}(h:l.length=m+1):l.drop m= [l.getD m .zero]:=by
 rw [drop_eq_getElem_cons zb,drop_eq_nil_of_le zb,getD_eq_getElem?_getD,getElem?_eq_getElem zb];rfl
theorem iW{l:List Val}{m:Nat}(h:l.length=m+2):l.drop m= [l.getD m .zero,l.getD (m+1) .zero]:=by
 have e:l.getD m .zero=l[m]' zb:=by rw [getD_eq_getElem?_getD,getElem?_eq_getElem zb];rfl
 rw [drop_eq_getElem_cons zb,fA (m:=m+1) zb,e]
theorem jq{op:Int}(h:opF op≠0):6<=op/\op<=20:=by
 unfold opF at h
 repeat' split at h
 all_goals omega
theorem gq{sl:List ByteArray}{v:Vw}{x:Ins}{i:Nat}{stk slots:List Val}{st:List (ByteArray × Val)}(o:x.op≠1/\x.op≠2/\x.op≠3/\x.op≠4/\x.op≠5/\x.op≠21/\x.op≠22/\x.op≠23/\x.op≠24) :
 stepF sl v x i stk slots st=if(opV (opF x.op) (stk.drop (stk.length-ariF (opF x.op)))).2=0 then .inl (i+1,stk.take (stk.length-ariF (opF x.op))++[(opV (opF x.op) (stk.drop (stk.length-ariF (opF x.op)))).1],slots,st)else .inr (opV (opF x.op) (stk.drop (stk.length-ariF (opF x.op)))).2:=by
 unfold stepF;rw [if_neg o.1,if_neg o.2.1,if_neg o.2.2.1,if_neg o.2.2.2.1,if_neg o.2.2.2.2.1,if_neg zb,if_neg o.2.2.2.2.2.1,if_neg o.2.2.2.2.2.2.1]
theorem At.ok{F:List (Option (List Int × List Bool))}{D:List Int}{i:Nat}{stk slots:List Val}(h:At F D i stk slots):∀y∈stk,y.ok=true:=by
 obtain⟨s,_,hf⟩:=h;exact hf.ok
theorem aX{l:List Val}{m:Nat}(h:m<l.length):l.getD m .zero∈l:=by
 rw [getD_eq_getElem?_getD,getElem?_eq_getElem h];exact getElem_mem h
section
variable {w W0 : World} {base Bl CB VB XB i : Nat} {x : Ins} {sl : List ByteArray} {v : Vw} {vi vs vK vS : Value} {stk slots : List Val} {st : List (ByteArray × Val)} {l : List Ins} {F : List (Option (List Int × List Bool))} {D : List Int} {y : Value}
theorem gZ(C:Cert l sl.length F D)(hi:i<l.length)(hA:At F D i stk slots)(hx:l.getD i default=x)(o:x.op≠1/\x.op≠2/\x.op≠3/\x.op≠4/\x.op≠5/\x.op≠21/\x.op≠22/\x.op≠23/\x.op≠24)(H0:RnSt w base Bl stk slots st vK vS W0){g c m:Nat}(hvK:vK= .slice (some ⟨g,0,none⟩) stk.length c)
 (hm:stk.length=m+ariF (opF x.op)) {W':World} (hg:W0.Grows W'):Calls prog 105 #[.int .i64 (opF x.op),.slice (some ⟨g,m*4,none⟩) (ariF (opF x.op)) (c-m)] W' (CalP (opV (opF x.op) (stk.drop m)) W'):=by
 subst hvK;have ho:=stepO C hi hA (by rw [hx];exact o);rw [hx]at ho;obtain⟨h1,h2,h3,-⟩:=ho;have hop:=(wf_rest (C.wf i hi) (by rw [hx];exact o.1)).2.2.2.2.2;rw [hx]at hop;have hop':=hop o.2.1 o.2.2.1 o.2.2.2.1 o.2.2.2.2.1 o.2.2.2.2.2.1 o.2.2.2.2.2.2.1 o.2.2.2.2.2.2.2.1 o.2.2.2.2.2.2.2.2;have hbd:=opF_bd _ hop';have H:=H0.grows hg;have hgW:=(H.stk.lt g rfl).2;rw [show stk.length-ariF (opF x.op)=m by omega]at h3;generalize opF x.op=op at *;clear hop hop' h2;by_cases h6:op<=6
 ·have ha:ariF op=1:=by unfold ariF;rw [if_pos zb]
  rw [ha]at hm ⊢;rw [fA hm];obtain⟨s0,s1,s2,s3⟩:=H.val rfl m zb;have hy:=hA.ok _ (aX (m:=m) zb);have:=calc1_any op (stk.getD m .zero) g (m*4) (c-m) W' hy hbd.1 h6 hgW s0 s1 s2 s3;unfold opV;rw [if_pos h6];exact this
 ·have ha:ariF op=2:=by unfold ariF;rw [if_neg zb]
  rw [ha]at hm ⊢;rw [iW hm]at h3 ⊢;obtain⟨s0,s1,s2,s3⟩:=H.val rfl m zb;obtain⟨t0,t1,t2,t3⟩:=H.val rfl (m+1) zb;rw [show(m+1)*4=m*4+4 by omega]at t0 t1 t2 t3;have hy:=hA.ok _ (aX (m:=m) zb);have hz:=hA.ok _ (aX (m:=m+1) zb);have:=calc2_any op (stk.getD m .zero) (stk.getD (m+1) .zero) g (m*4) (c-m) W' hy hz zb h3 hgW s0 s1 s2 s3 t0 t1 t2 t3;unfold opV;rw [if_neg h6];exact this
theorem iK(C:Cert l sl.length F D)(hi:i<l.length)(hA:At F D i stk slots)(hx:l.getD i default=x)(hln:l.length<=4000)(hl:slots.length=12)(hv:v.ok=true)(hr:VwRng v)
 (HV:Hid (∃ty,W0.heap[VB]? =some (.cells (vwR v y) ty (0,0)))) (HY:Hid (YrAt w y v.years)) (hne:XB≠Bl) (HSL:Hid (SlAt w vs sl)):bK w W0 base Bl CB VB XB i x sl v vi vs vK vS stk slots st:=by
 intro H0 HX HCB HS;have hwf:=C.wf i hi;have hm12:=C.m12;by_cases o1:x.op=1
 ·exact jo o1 H0 HX HCB HS
 have hw2:=wf_rest hwf (by rw [hx];exact o1);rw [hx]at hw2;obtain⟨-,w2,w34,w5,w21,wo⟩:=hw2;by_cases o2:x.op=2
 ·exact jm HV HY hv hr o2 (w2 o2) H0 HX HCB HS
 by_cases o3:x.op=3
 ·have:=w34 (.inl o3);exact jl o3 zb hl H0 HX HCB HS
 by_cases o4:x.op=4
 ·have h4:=w34 (.inr o4);obtain⟨hne4,-,-⟩:=step4 C hi hA zb (by rw [hx];exact o4);obtain⟨-,-,sa,sc,-,hvs,hsx⟩:=HSL.out;rcases hsx with h0|⟨sb,so,rfl,hb,hc⟩
  ·omega
  exact jk o4 zb hl (length_pos_iff.2 hne4) hne sb so sc hvs zb (zh (fun W hg=>⟨Nat.lt_of_lt_of_le hb hg.below.size,(World.cell?_of_block (hg.below.block sb hb)).trans (hc x.a.toNat zb)⟩)) H0 HX HCB HS
 by_cases o5:x.op=5
 ·obtain⟨ty,hvb⟩:=HV.out;have hyW:=HY.out.grows H0.out.gr;exact ji y (zh ⟨cell_of_row W0 _ 12 _ _ _ hvb,(Array.getElem?_eq_some_iff.1 hvb).1⟩) (zh (fun w' hg=>Best2_any v.years x.a y w' (hyW.grows hg))) o5 H0 HX HCB HS
 by_cases o23:x.op=23
 ·exact fq true (.inl ⟨o23,rfl⟩) H0 HX HCB HS
 by_cases o24:x.op=24
 ·exact fq false (.inr ⟨o24,rfl⟩) H0 HX HCB HS
 by_cases o21:x.op=21
 ·have:=w21 (.inl o21);exact iJ o21 zb H0 HX HCB HS
 by_cases o22:x.op=22
 ·have:=w21 (.inr o22);obtain⟨h1,-,-⟩:=step22 C hi hA (by rw [hx];exact o22);exact iI o22 zb (length_pos_iff.2 h1) H0 HX HCB HS
 have o:x.op≠1/\x.op≠2/\x.op≠3/\x.op≠4/\x.op≠5/\x.op≠21/\x.op≠22/\x.op≠23/\x.op≠24:=⟨o1,o2,o3,o4,o5,o21,o22,o23,o24⟩;have hop:=wo o2 o3 o4 o5 o21 o22 o23 o24;have h1:=(stepO C hi hA (by rw [hx];exact o)).1;rw [hx]at h1;have har:ariF (opF x.op)=1\/ariF (opF x.op)=2:=by unfold ariF;split<;>simp
 obtain⟨m,hm⟩:∃m,stk.length=m+ariF (opF x.op):=⟨stk.length-ariF (opF x.op),by omega⟩;obtain⟨g,c,hvK,hc⟩:=aP H0.out.stk zb;have hF:=gq (sl:=sl) (v:=v) (i:=i) (stk:=stk) (slots:=slots) (st:=st) o;rw [show stk.length-ariF (opF x.op)=m by omega]at hF;exact iH g m (ariF (opF x.op)) c _ hvK hm har zb (jq hop) rfl (zh hF) (zh (fun W' hg=>gZ C hi hA hx o H0.out hvK hm hg)) H0 HX HCB HS
end
end Go.Proofs.YtblkcgceefjmjaaGreatDoor
