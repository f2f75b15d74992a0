import Derived.Test.YteildlpchhlchaaGreatDoorRSpA
import Derived.Test.YteildlpchhlchaaGreatDoorRDc2
import Derived.Lib.ItoaLen
import Derived.Test.YteildlpchhlchaaGreatDoorRows
import Derived.Below
import Derived.Handed
import Derived.LaidLaws
import Derived.LaidSub
import Derived.Lay
import Derived.Stop.LaidErr
import Derived.MakeChecks
import Derived.Lib.LaidTab
set_option linter.all false
set_option maxHeartbeats 16000000
set_option maxRecDepth 1000000
namespace Go.Proofs.YteildlpchhlchaaGreatDoor
open Go.Proofs.Tryz Tryz List
open Go.RowKit
theorem dV:(prog.info? 41).map (fun i=>(i.zero,i.size,i.bytes))=some (some (.agg #[.int .i64 0,.bool false,.int .i64 0,.int .i64 0]),4,32):=by kernel_rfl
def uR(w W0:World)(base Bl CB VB XB i:Nat)(x:Ins)(sl:List ByteArray)(v:Vw)(vi vs vK vS:Value)(stk slots:List Val)(st:List (ByteArray × Val)):Prop:=
 ∀(_:Hid (dW w base Bl stk slots st vK vS W0)) (_:Hid (∃ty,W0.heap[XB]? =some (.cells #[.int .i64 x.op,.int .i64 x.a,.int .i64 x.n,.int .i64 x.d] ty (0,0)))) (_:Hid (CB<Bl/\∃ty,W0.heap[CB]? =some (.cells #[vi,vs] ty (0,0)))) (_:Hid (stk.length<=4000/\st.length<=4000/\i<=4000)) (x0 x1 x4 x5 x6 x7 x13 x14 x15 x16 x17 x18 x19 x20 x21 x22 x23 x24 x25 x26 x27 x28 x29 x30 x31 x32 x33 x34 x35 x36 x37 x38 x39 x40 x41 x42 x43 x44 x45 x46 x48 x49 x50 x51 x52 x53 x54 x55 x56 x57 x58 x59 x60 x61 x62 x63 x64 x65 x66 x67 x68 x69 x70 x71 x72 x73 x74 x75 x76 x77 x78 x79 x80 x81 x82 x83 x84 x85 x86 x87 x88 x89 x90 x91 x92 x93 x94 x95 x96 x97 x98 x99 x100 x101 x102 x103 x104 x105 x106 x107 x108 x109 x110 x111 x112 x113 x114 x115 x116 x117 x118 x119 x120 x121 x122 x123 x124 x125 x126 x127 x128 x129 x130 x131 x132 x133 x134 x135 x136 x137 x138 x139 x140 x141 x142 x143 x144 x145 x146 x147 x148 x149 x150 x151 x152 x153 x154 x155 x156 x157 x158 x159 x160 x161 x162 x163 x164 x165 x166 x167 x168 x169 x170 x171 x172 x173 x174 x175 x176 x177 x178 x179 x180 x181 x182 x183 x184 x185 x186:Value)
  (Q:Exit->Act->World->Prop) (_:∀(c) (a:Act) (d:Nat) (v:Value) (w:World),Q (.panic c) (a.put (some d) v) w->Q (.panic c) a w)
  (_:∀(vK' vS':Value) (at':Int) (t:Nat × List Val × List Val × List (ByteArray × Val)) (y4 y5 y12 y13 y14 y15 y16 y17 y18 y19 y20 y21 y22 y34 y35 y36 y37 y38 y39 y40 y41 y42 y43 y44 y45 y46 y47 y48 y49 y50 y51 y52 y53 y54 y55 y56 y57 y58 y59 y60 y61 y62 y63 y64 y65 y66 y67 y68 y69 y70 y71 y72 y73 y74 y75 y76 y77 y78 y79 y80 y81 y82 y83 y84 y85 y86 y87 y88 y89 y90 y91 y92 y93 y94 y95 y96 y97 y98 y99 y100 y101 y102 y103 y104 y105 y106 y107 y108 y109 y110 y111 y112 y113 y114 y115 y116 y117 y118 y119 y120 y121 y122 y123 y124 y125 y126 y127 y128 y129 y130 y131 y132 y133 y134 y135 y136 y137 y138 y139 y140 y141 y142 y143 y144 y145 y146 y147 y148 y149 y150 y151 y152 y153 y154 y155 y156 y157 y158 y159 y160 y161 y162 y163 y164 y165 y166 y167 y168 y169 y170 y171 y172 y173 y174 y175 y176 y177 y178 y179 y180 y181 y182 y183 y184 y185:Value) (W':World),Hid (aN sl v x i stk slots st= .inl t)->Hid (dW w base Bl t.2.1 t.2.2.1 t.2.2.2 vK' vS' W')->Hid (at'+1=(t.1:Int))->Q .normal {tmps:=#[x0,x1,.pointer (some ⟨CB,0,none⟩),.pointer (some ⟨VB,0,none⟩),y4,y5,x6,x7,vK',.pointer (some ⟨Bl,0,none⟩),vS',.int .i64 (at':Int),y12,y13,y14,y15,y16,y17,y18,y19,y20,y21,y22,x23,x24,x25,x26,x27,x28,x29,x30,x31,x32,x33,y34,y35,y36,y37,y38,y39,y40,y41,y42,y43,y44,y45,y46,y47,y48,y49,y50,y51,y52,y53,y54,y55,y56,y57,y58,y59,y60,y61,y62,y63,y64,y65,y66,y67,y68,y69,y70,y71,y72,y73,y74,y75,y76,y77,y78,y79,y80,y81,y82,y83,y84,y85,y86,y87,y88,y89,y90,y91,y92,y93,y94,y95,y96,y97,y98,y99,y100,y101,y102,y103,y104,y105,y106,y107,y108,y109,y110,y111,y112,y113,y114,y115,y116,y117,y118,y119,y120,y121,y122,y123,y124,y125,y126,y127,y128,y129,y130,y131,y132,y133,y134,y135,y136,y137,y138,y139,y140,y141,y142,y143,y144,y145,y146,y147,y148,y149,y150,y151,y152,y153,y154,y155,y156,y157,y158,y159,y160,y161,y162,y163,y164,y165,y166,y167,y168,y169,y170,y171,y172,y173,y174,y175,y176,y177,y178,y179,y180,y181,y182,y183,y184,y185,x186],defers:=[]} W')
  (_:∀(cd:Int) (y8 y10 y11 y12 y13 y14 y15 y16 y17 y18 y19 y20 y21 y22 y34 y35 y36 y37 y38 y39 y40 y41 y42 y43 y44 y45 y46 y47 y48 y49 y50 y51 y52 y53 y54 y55 y56 y57 y58 y59 y60 y61 y62 y63 y64 y65 y66 y67 y68 y69 y70 y71 y72 y73 y74 y75 y76 y77 y78 y79 y80 y81 y82 y83 y84 y85 y86 y87 y88 y89 y90 y91 y92 y93 y94 y95 y96 y97 y98 y99 y100 y101 y102 y103 y104 y105 y106 y107 y108 y109 y110 y111 y112 y113 y114 y115 y116 y117 y118 y119 y120 y121 y122 y123 y124 y125 y126 y127 y128 y129 y130 y131 y132 y133 y134 y135 y136 y137 y138 y139 y140 y141 y142 y143 y144 y145 y146 y147 y148 y149 y150 y151 y152 y153 y154 y155 y156 y157 y158 y159 y160 y161 y162 y163 y164 y165 y166 y167 y168 y169 y170 y171 y172 y173 y174 y175 y176 y177 y178 y179 y180 y181 y182 y183 y184 y185:Value) (W':World),Hid (aN sl v x i stk slots st= .inr cd)->Hid (w.Grows W')->Q .ret {tmps:=#[x0,x1,.pointer (some ⟨CB,0,none⟩),.pointer (some ⟨VB,0,none⟩),.slice none 0 0,.int .i64 cd,x6,x7,y8,.pointer (some ⟨Bl,0,none⟩),y10,y11,y12,y13,y14,y15,y16,y17,y18,y19,y20,y21,y22,x23,x24,x25,x26,x27,x28,x29,x30,x31,x32,x33,y34,y35,y36,y37,y38,y39,y40,y41,y42,y43,y44,y45,y46,y47,y48,y49,y50,y51,y52,y53,y54,y55,y56,y57,y58,y59,y60,y61,y62,y63,y64,y65,y66,y67,y68,y69,y70,y71,y72,y73,y74,y75,y76,y77,y78,y79,y80,y81,y82,y83,y84,y85,y86,y87,y88,y89,y90,y91,y92,y93,y94,y95,y96,y97,y98,y99,y100,y101,y102,y103,y104,y105,y106,y107,y108,y109,y110,y111,y112,y113,y114,y115,y116,y117,y118,y119,y120,y121,y122,y123,y124,y125,y126,y127,y128,y129,y130,y131,y132,y133,y134,y135,y136,y137,y138,y139,y140,y141,y142,y143,y144,y145,y146,y147,y148,y149,y150,y151,y152,y153,y154,y155,y156,y157,y158,y159,y160,y161,y162,y163,y164,y165,y166,y167,y168,y169,y170,y171,y172,y173,y174,y175,y176,y177,y178,y179,y180,y181,y182,y183,y184,y185,x186],defers:=[]} W'),
  Code.wp prog (sq2 (sq2 (Jf (sq1 (sq2 (QJ (Jf (sq2 (sq1 (sq2 (sq2 (sq2 (sq2 (sq2 (sq2 (f28.body.getD .skip)))))))))))))))) Q {tmps:=#[x0,x1,.pointer (some ⟨CB,0,none⟩),.pointer (some ⟨VB,0,none⟩),x4,x5,x6,x7,vK,.pointer (some ⟨Bl,0,none⟩),vS,.int .i64 i,.pointer (some ⟨XB,0,none⟩),x13,x14,x15,x16,x17,x18,x19,x20,x21,x22,x23,x24,x25,x26,x27,x28,x29,x30,x31,x32,x33,x34,x35,x36,x37,x38,x39,x40,x41,x42,x43,x44,x45,x46,.int .i64 x.op,x48,x49,x50,x51,x52,x53,x54,x55,x56,x57,x58,x59,x60,x61,x62,x63,x64,x65,x66,x67,x68,x69,x70,x71,x72,x73,x74,x75,x76,x77,x78,x79,x80,x81,x82,x83,x84,x85,x86,x87,x88,x89,x90,x91,x92,x93,x94,x95,x96,x97,x98,x99,x100,x101,x102,x103,x104,x105,x106,x107,x108,x109,x110,x111,x112,x113,x114,x115,x116,x117,x118,x119,x120,x121,x122,x123,x124,x125,x126,x127,x128,x129,x130,x131,x132,x133,x134,x135,x136,x137,x138,x139,x140,x141,x142,x143,x144,x145,x146,x147,x148,x149,x150,x151,x152,x153,x154,x155,x156,x157,x158,x159,x160,x161,x162,x163,x164,x165,x166,x167,x168,x169,x170,x171,x172,x173,x174,x175,x176,x177,x178,x179,x180,x181,x182,x183,x184,x185,x186],defers:=[]} W0
variable {w W0 : World} {base Bl CB VB XB i : Nat} {x : Ins} {sl : List ByteArray} {v : Vw} {vi vs vK vS : Value} {stk slots : List Val} {st : List (ByteArray × Val)}
theorem Ql(ho:x.op=1):uR w W0 base Bl CB VB XB i x sl v vi vs vK vS stk slots st:=by
 intro H0 HX HCB HS;exact rz8
theorem Fw(b:Bool)(ho:x.op=23/\b=true\/x.op=24/\b=false):uR w W0 base Bl CB VB XB i x sl v vi vs vK vS stk slots st:=by
 intro H0 HX HCB HS;exact rz2
theorem jh{W:World}{B size n:Nat}{e:TypeId}{v:Value}{xs:List Value}(h:W.ownsRow B e size v n xs)(hn:0<n):∃g c,v= .slice (some ⟨g,0,none⟩) n c/\n<=c:=by
 rcases h.2 with ⟨_,h0⟩|⟨g,cap,cur,h',hb,hg,hnc,_⟩
 ·omega
 ·exact⟨g,cap,h',hnc⟩
theorem rU{m:Nat}(h:m<=4000):wrap64 (m:Int)=(m:Int):=by unfold wrap64;omega
theorem EN{l:List Val}{m:Nat}(h:l.length=m+1):l.dropLast=l.take m:=by
 rw [dropLast_eq_take,h];rfl
theorem LH{l:List Val}{m:Nat}(h:l.length=m+1):l.getLastD .zero=l.getD m .zero:=by
 rw [getLastD_eq_getLast?,getLast?_eq_getElem?,h,getD_eq_getElem?_getD];rfl
variable {w W0 : World} {base Bl CB VB XB i : Nat} {x : Ins} {sl : List ByteArray} {v : Vw} {vi vs vK vS : Value} {stk slots : List Val} {st : List (ByteArray × Val)}
theorem Qj(ho:x.op=3)(ha:0<=x.a/\x.a<12)(hl:slots.length=12):uR w W0 base Bl CB VB XB i x sl v vi vs vK vS stk slots st:=by
 intro H0 HX HCB HS
 intros
 rename_i Q hpan hQ hR
 obtain⟨y,hy⟩:∃y,slots.getD x.a.toNat .zero=y:=⟨_,rfl⟩;have HT:Hid (aN sl v x i stk slots st= .inl (i+1,stk++[y],slots,st)):=yq (by unfold aN;rw [<-hy];simp [ho]);obtain⟨s0,s1,s2,s3⟩:=H0.out.slot x.a.toNat zb;rw [hy]at s0 s1 s2 s3;have e0:0<=x.a:=ha.1;have e1:x.a<12:=ha.2;exact rz9
theorem Ni(ho:x.op=21)(ha:0<=x.a/\x.a<=4000):uR w W0 base Bl CB VB XB i x sl v vi vs vK vS stk slots st:=by
 intro H0 HX HCB HS;exact RZ
variable {w W0 : World} {base Bl CB VB XB i : Nat} {x : Ins} {sl : List ByteArray} {v : Vw} {vi vs vK vS : Value} {stk slots : List Val} {st : List (ByteArray × Val)}
theorem Qh(y:Value)(HV:Hid (W0.cell? ⟨VB,12,none⟩=some y/\VB<W0.heap.size))(HB:Hid (∀w',W0.Grows w'->Calls prog 70 #[y,.int .i64 x.a] w' fun e w''=>e= .returned (frV (dh v.years x.a))/\w'.Grows w''))(ho:x.op=5):uR w W0 base Bl CB VB XB i x sl v vi vs vK vS stk slots st:=by
 intro H0 HX HCB HS
 intros
 rename_i Q hpan hQ hR
 have HF:Hid (aN sl v x i stk slots st=if(dh v.years x.a).2.2=0 then .inl (i+1,stk++[.num 4 (dh v.years x.a).1 (dh v.years x.a).2.1],slots,st)else .inr (dh v.years x.a).2.2):=yq (by unfold aN;simp [ho]);unfold frV at HB;generalize dh v.years x.a=R at *;obtain⟨rn,rd,rc⟩:=R;dsimp only at HF HB;obtain⟨y12,yV⟩:=HV.out;have q1:(x.op==1)=false:=by simp;omega
 have q2:(x.op==2)=false:=by simp;omega
 have q3:(x.op==3)=false:=by simp;omega
 have q4:(x.op==4)=false:=by simp;omega
 have q5:(x.op==5)=true:=by simpa using ho
 have q23:(x.op==23)=false:=by simp;omega
 have q24:(x.op==24)=false:=by simp;omega
 have q21:(x.op==21)=false:=by simp;omega
 have q22:(x.op==22)=false:=by simp;omega
 clear ho;by_cases hrc:rc=0
 ·subst hrc;have HT:Hid (aN sl v x i stk slots st= .inl (i+1,stk++[⟨4,false,rn,rd⟩],slots,st)):=yq yo;clear HF;obtain⟨i1,hi1,hz11,hz21,hz31⟩:=info_parts dV;obtain⟨ty,hxb⟩:=HX.out;have v0:=cell_of_row W0 _ 0 _ _ _ hxb;have v1:=cell_of_row W0 _ 1 _ _ _ hxb;have v2:=cell_of_row W0 _ 2 _ _ _ hxb;have v3:=cell_of_row W0 _ 3 _ _ _ hxb;have hXB:=(Array.getElem?_eq_some_iff.1 hxb).1;have HXB:=yq hXB;clear hxb
  conv=>arg 2;whnf
  go_wp2_with (first|(go_at_call 70;refine gvq (HB.out _ (.of_below au)) ?_;intro bA dA)|((at_builtin;refine wpList_append_lies _ rfl _ _ 124 rfl base 41 i1 _ 4 32 underlying124 hi1 hz11 hz21 hz31 rfl zf vK stk.length (vlV stk) rfl (bB H0.out.stk (.of_below au)) ⟨_,0,none⟩ 1 1 [.int .i64 (4),.bool (false),.int .i64 (rn),.int .i64 (rd)] rfl rfl (ax _ [.int .i64 (4),.bool (false),.int .i64 (rn),.int .i64 (rd)] _ _ ze) zv zf zQ zz (by have:=H0.out.bW;simp;omega) _ rfl ?_;intro g4 c4 w4 hown hgrow hgg hgl;have h4:=H0.out.push ⟨4,false,rn,rd⟩ (n:=stk.length+1) rfl (.of_below au) hgrow hgg zx hown;have H4:=yq h4;clear hown hgrow hgg hgl h4)))
  exact Nb
 ·have HT:Hid (aN sl v x i stk slots st= .inr rc):=yq (by rw [HF.out,if_neg hrc]);have hrb:(rc !=0)=true:=by simpa using hrc
  clear HF;obtain⟨i1,hi1,hz11,hz21,hz31⟩:=info_parts dV;obtain⟨ty,hxb⟩:=HX.out;have v0:=cell_of_row W0 _ 0 _ _ _ hxb;have v1:=cell_of_row W0 _ 1 _ _ _ hxb;have v2:=cell_of_row W0 _ 2 _ _ _ hxb;have v3:=cell_of_row W0 _ 3 _ _ _ hxb;have hXB:=(Array.getElem?_eq_some_iff.1 hxb).1;have HXB:=yq hXB;clear hxb
  conv=>arg 2;whnf
  go_wp2_with (go_at_call 70;refine gvq (HB.out _ (.of_below au)) ?_;intro bA dA)
  (apply hR;exact HT;exact yq (H0.out.gr.trans' (.of_below au)))
theorem ow{W W':World}{B o k:Nat}{a b c d:Value}{ob:Obj}(h:W.heap[k]? =some ob)(hne:k≠B)(hg:World.Grows ((((W.setCell ⟨B,o,none⟩ a).setCell ⟨B,o+1,none⟩ b).setCell ⟨B,o+2,none⟩ c).setCell ⟨B,o+3,none⟩ d) W'):W'.heap[k]? =some ob:=by
 have hk:=(Array.getElem?_eq_some_iff.1 h).1;have hn:some k≠some B:=fun e=>hne (Option.some.inj e);have g1:=eB W B o a;have g2:=eB (W.setCell ⟨B,o,none⟩ a) B (o+1) b;have g3:=eB ((W.setCell ⟨B,o,none⟩ a).setCell ⟨B,o+1,none⟩ b) B (o+2) c;have g4:=eB (((W.setCell ⟨B,o,none⟩ a).setCell ⟨B,o+1,none⟩ b).setCell ⟨B,o+2,none⟩ c) B (o+3) d;have k1:=Nat.lt_of_lt_of_le hk g1.size;have k2:=Nat.lt_of_lt_of_le k1 g2.size;have k3:=Nat.lt_of_lt_of_le k2 g3.size;have k4:=Nat.lt_of_lt_of_le k3 g4.size;exact(hg.below.block k k4).trans ((g4.block k k3 hn).trans ((g3.block k k2 hn).trans ((g2.block k k1 hn).trans ((g1.block k hk hn).trans h))))
variable {w W0 : World} {base Bl CB VB XB i : Nat} {x : Ins} {sl : List ByteArray} {v : Vw} {vi vs vK vS : Value} {stk slots : List Val} {st : List (ByteArray × Val)}
theorem Qi(ho:x.op=4)(ha:0<=x.a/\x.a<12)(hl:slots.length=12)(hk:0<stk.length)(hne:XB≠Bl)(sb so sc:Nat)(hvs:vs= .slice (some ⟨sb,so,none⟩) sl.length sc)(hxs:x.a<sl.length)(HSL:Hid (∀W,w.Grows W->sb<W.heap.size/\W.cell? ⟨sb,so+x.a.toNat,none⟩=some (.string (sl.getD x.a.toNat ByteArray.empty)))):uR w W0 base Bl CB VB XB i x sl v vi vs vK vS stk slots st:=by
 intro H0 HX HCB HS
 intros
 rename_i Q hpan hQ hR
 subst hvs;obtain⟨m,hm⟩:∃m,stk.length=m+1:=⟨stk.length-1,by omega⟩;obtain⟨g,c,rfl,hc⟩:=jh H0.out.stk hk;obtain⟨y,hy⟩:∃y,stk.getD m .zero=y:=⟨_,rfl⟩;obtain⟨s0,s1,s2,s3⟩:=H0.out.val rfl m zb;rw [hy]at s0 s1 s2 s3;have hg:=(H0.out.stk.lt g rfl).2;have HM:=yq hm;rw [hm]at hc ⊢;have hw3:wrap64 (m:Int)=(m:Int):=rU zz;have j0:(0:Int)<=(m:Int):=by omega
 have j1:(m:Int)<((m+1:Nat):Int):=by omega
 have j4:(m:Int)<(m:Int)+1:=by omega
 have j2:m<m+1:=by omega
 have j3:(m:Int)<=(c:Int):=by omega
 have e0:0<=x.a:=ha.1;have e1:x.a<12:=ha.2;have hB:=H0.out.lt;have HT:Hid (aN sl v x i stk slots st= .inl (i+1,stk.take m,slots.set x.a.toNat y,st++[(sl.getD x.a.toNat ByteArray.empty,y)])):=yq xJ;have HU:=yq (H0.out.set x.a.toNat zb y);have HY:=yq hy;have q1:(x.op==1)=false:=by simp;omega
 have q2:(x.op==2)=false:=by simp;omega
 have q3:(x.op==3)=false:=by simp;omega
 have q4:(x.op==4)=true:=by simpa using ho
 have q5:(x.op==5)=false:=by simp;omega
 have q23:(x.op==23)=false:=by simp;omega
 have q24:(x.op==24)=false:=by simp;omega
 have q21:(x.op==21)=false:=by simp;omega
 have q22:(x.op==22)=false:=by simp;omega
 clear ho hm hy;obtain⟨i1,hi1,hz11,hz21,hz31⟩:=info_parts dV;obtain⟨ty,hxb⟩:=HX.out;have v0:=cell_of_row W0 _ 0 _ _ _ hxb;have v1:=cell_of_row W0 _ 1 _ _ _ hxb;have v2:=cell_of_row W0 _ 2 _ _ _ hxb;have v3:=cell_of_row W0 _ 3 _ _ _ hxb;have hXB:=(Array.getElem?_eq_some_iff.1 hxb).1;have HXB:=yq hXB;clear hxb
 conv=>arg 2;whnf
 go_upto_region 29 with fail
 refine TS.begin [7] (World.Grows W0) zd zd aj (fun hS=>?_);refine kq 0 hS ?_;refine kq 1 hS ?_;refine kq 2 hS ?_;refine kq 3 hS ?_;refine kq 4 hS ?_;refine kq 5 hS ?_;refine kq 6 hS ?_;obtain⟨t0,t1,t2,t3⟩:=H0.out.slot x.a.toNat zb;have f0:=H0.out.unfr (x.a.toNat*4);have f1:=H0.out.unfr (x.a.toNat*4+1);have f2:=H0.out.unfr (x.a.toNat*4+2);have f3:=H0.out.unfr (x.a.toNat*4+3);refine TS.weB 7 ?_
 go_upto_region 30 with fail
 refine jD (fun W=>dW w base Bl stk (slots.set x.a.toNat y) st (.slice (some ⟨g,0,none⟩) stk.length c) vS W/\(∃ty,W.heap[XB]? =some (.cells #[.int .i64 x.op,.int .i64 x.a,.int .i64 x.n,.int .i64 x.d] ty (0,0)))/\∃ty,W.heap[CB]? =some (.cells #[vi,.slice (some ⟨sb,so,none⟩) sl.length sc] ty (0,0))) ⟨HU.out.grows aj, ?_, ?_⟩ ?_
 ·obtain⟨ty,h⟩:=HX.out;exact⟨ty,ow h hne aj⟩
 ·obtain⟨ty,h⟩:=HCB.out.2;exact⟨ty,ow h (by have:=HCB.out.1;omega) aj⟩
 intro W1 hW1;obtain⟨hR1,⟨tx,hx1⟩,⟨tc,hc1⟩⟩:=hW1;have H1:=yq hR1;clear s0 s1 s2 s3 t0 t1 t2 t3 f0 f1 f2 f3 v0 v1 v2 v3 hg hB hR1;obtain⟨s0,s1,s2,s3⟩:=H1.out.val rfl m yH;rw [HY.out]at s0 s1 s2 s3;have hg:=(H1.out.stk.lt g rfl).2;have v1:=cell_of_row W1 _ 1 _ _ _ hx1;have c1:=cell_of_row W1 _ 1 _ _ _ hc1;have hXB1:=(Array.getElem?_eq_some_iff.1 hx1).1;have hCB1:=(Array.getElem?_eq_some_iff.1 hc1).1;obtain⟨hsb,r0⟩:=HSL.out W1 H1.out.gr;have e2:x.a<(sl.length:Int):=hxs;obtain⟨i2,hi2,hz12,hz22,hz32⟩:=info_parts Lr;obtain⟨nm,hnm⟩:∃s,sl.getD x.a.toNat ByteArray.empty=s:=⟨_,rfl⟩;rw [hnm]at r0;have HNM:=yq hnm;clear hx1 hc1 hnm;refine TS.begin [13,14] (World.Grows W1) zd zd aj (fun hS=>?_);refine kq 0 hS ?_;refine kq 1 hS ?_;refine kq 2 hS ?_;refine kq 3 hS ?_;refine kq 4 hS ?_;refine kq 5 hS ?_;refine kq 6 hS ?_;refine kq 7 hS ?_;refine kq 8 hS ?_;refine kq 9 hS ?_;refine kq 10 hS ?_;refine kq 11 hS ?_;refine TS.one (i:=12) zd rfl (fun K1 hK1=>?_);have HK1:=yq hK1;clear hK1 hS;dsimp only [getElem_toArray,getElem_cons_succ,getElem_cons_zero]
 go_simp
 refine TS.go HK1.out af (fun hS=>?_);clear HK1 K1
 (try simp only [nS])
 refine TS.one (i:=13) zd rfl (fun K1 hK1=>?_);refine step_append_lies _ rfl _ _ 66 rfl base 70 i2 _ 5 48 underlying66 hi2 hz12 hz22 hz32 rfl zf vS st.length (spV st) rfl (bB H1.out.stp af) ⟨_,0,none⟩ 1 1 [.string nm,.int .i64 y.dim,.bool y.yes,.int .i64 y.n,.int .i64 y.d] rfl rfl (ax _ [.string nm,.int .i64 y.dim,.bool y.yes,.int .i64 y.n,.int .i64 y.d] _ _ ze) xD zf zQ zz yU _ rfl ?_;intro g6 c6 w6 hown hgrow hgg hgl;have h6:=H1.out.step nm y (n:=st.length+1) rfl af hgrow hgg zx hown;have h7:=h6.cut rfl (k:=m) yH;have H7:=yq h7;refine hK1 _ _ (fun h=>absurd zf h) ?_;clear hK1 K1 hown hgrow hgg hgl h6 h7 hS
 (try simp only [nS])
 refine TS.weB 14 ?_
 go_wp2_with fail
 rw [HNM.out]at HT
 (apply hQ;exact HT;exact H7;exact yq ze)
variable {w W0 : World} {base Bl CB VB XB i : Nat} {x : Ins} {sl : List ByteArray} {v : Vw} {vi vs vK vS : Value} {stk slots : List Val} {st : List (ByteArray × Val)}
theorem Ng(g m ar c:Nat)(r:Val × Int)(hvK:vK= .slice (some ⟨g,0,none⟩) stk.length c)(hm:stk.length=m+ar)(har:ar=1\/ar=2)(hc:m+ar<=c)(ho:6<=x.op/\x.op<=20)(hari:aB (opF x.op)=ar)(HF:Hid (aN sl v x i stk slots st=if r.2=0 then .inl (i+1,stk.take m++[r.1],slots,st)else .inr r.2))(HC:Hid (∀W',W0.Grows W'->Calls prog 73 #[.int .i64 (opF x.op),.slice (some ⟨g,m*4,none⟩) ar (c-m)] W' (lG r W'))):uR w W0 base Bl CB VB XB i x sl v vi vs vK vS stk slots st:=by
 intro H0 HX HCB HS
 intros
 rename_i Q hpan hQ hR
 subst hvK;have q1:(x.op==1)=false:=by simp;omega
 have q2:(x.op==2)=false:=by simp;omega
 have q3:(x.op==3)=false:=by simp;omega
 have q4:(x.op==4)=false:=by simp;omega
 have q5:(x.op==5)=false:=by simp;omega
 have q23:(x.op==23)=false:=by simp;omega
 have q24:(x.op==24)=false:=by simp;omega
 have q21:(x.op==21)=false:=by simp;omega
 have q22:(x.op==22)=false:=by simp;omega
 have hg:=(H0.out.stk.lt g rfl).2;have HM:=yq hm;have HA:=yq har
 have hw1:IntKind.i64.wrap ((stk.length:Int)-(ar:Int))=(m:Int):=by
  exact Rf
 have HO:=yq (fun w=>dM x.op w);have HP:=yq (fun w=>kR (opF x.op) w);rw [hari]at HP;generalize opF x.op=fo at *;have hw3:wrap64 (m:Int)=(m:Int):=rU zz;have j0:(0:Int)<=(m:Int):=by omega
 have j1:(m:Int)<=(stk.length:Int):=by omega
 have j5:m<=stk.length:=by omega
 have j3:(m:Int)<=(c:Int):=by omega
 have j7:(stk.length:Int)<=(c:Int):=by omega
 have j6:stk.length-m=ar:=by omega
 have j8:c≠m:=by rcases har with h|h<;>omega
 have HCUT:=yq (H0.out.cut rfl (k:=m) zb);clear ho hm hari har;obtain⟨rv,rc⟩:=r;unfold lG at HC;dsimp only at HF HC;obtain⟨i1,hi1,hz11,hz21,hz31⟩:=info_parts dV;obtain⟨ty,hxb⟩:=HX.out;have v0:=cell_of_row W0 _ 0 _ _ _ hxb;have v1:=cell_of_row W0 _ 1 _ _ _ hxb;have v2:=cell_of_row W0 _ 2 _ _ _ hxb;have v3:=cell_of_row W0 _ 3 _ _ _ hxb;have hXB:=(Array.getElem?_eq_some_iff.1 hxb).1;have HXB:=yq hXB;clear hxb
 conv=>arg 2;whnf
 go_upto_region 16 with (first
  |(go_at_call 71;refine gw (HO.out _) ?_)
  |(go_at_call 72;refine gw (HP.out _) ?_))
 go_upto_region 17 with (go_at_call 73;(try rw [if_neg j8]);refine(HC.out _ (.of_below au)).mono ?_;rintro e' wA ⟨vm,vn,vd,vb,rfl,hrv,bA,dA,rfl⟩)
 by_cases hrc:rc=0
 ·subst hrc;have HT:Hid (aN sl v x i stk slots st= .inl (i+1,stk.take m++[⟨vm,vb,vn,vd⟩],slots,st)):=yq (by rw [HF.out,if_pos rfl,hrv rfl]);clear HF hrv
  go_upto_region 19 with fail
  refine jD (fun W=>W0.Grows W/\∃ty,W.heap[W0.heap.size+bA.size]? =some (.cells #[.int .i64 vm,.bool vb,.int .i64 vn,.int .i64 vd] ty (0,0))) ⟨af,_,eZ _ _ _ ze⟩ ?_;intro W1 hW1;obtain⟨hg1,ty1,hb1⟩:=hW1;have H1:=yq (HCUT.out.grows hg1);have HOW:Hid (W1.ownsRow base 41 4 (.slice (some ⟨g,0,none⟩) m c) m (vlV (stk.take m))):=yq (by have h:=H1.out.stk;rw [length_take,Nat.min_eq_left j5]at h;exact h);have HTL:Hid (m+1=(stk.take m).length+1):=yq (by rw [length_take,Nat.min_eq_left j5]);generalize W0.heap.size+bA.size=NB at *;have n0:=cell_of_row W1 _ 0 _ _ _ hb1;have n1:=cell_of_row W1 _ 1 _ _ _ hb1;have n2:=cell_of_row W1 _ 2 _ _ _ hb1;have n3:=cell_of_row W1 _ 3 _ _ _ hb1;have hNB:=(Array.getElem?_eq_some_iff.1 hb1).1;clear hb1 hg1 v0 v1 v2 v3 hXB hg HC;refine TS.begin [5,6] (World.Grows W1) zd zd aj (fun hS=>?_);refine kq 0 hS ?_;refine kq 1 hS ?_;refine kq 2 hS ?_;refine kq 3 hS ?_;refine TS.one (i:=4) zd rfl (fun K1 hK1=>?_);have HK1:=yq hK1;clear hK1 hS;dsimp only [getElem_toArray,getElem_cons_succ,getElem_cons_zero]
  go_simp
  refine TS.go HK1.out af (fun hS=>?_);clear HK1 K1
  (try simp only [nS])
  refine TS.one (i:=5) zd rfl (fun K1 hK1=>?_);refine step_append_lies _ rfl _ _ 124 rfl base 41 i1 _ 4 32 underlying124 hi1 hz11 hz21 hz31 rfl zf (.slice (some ⟨g,0,none⟩) m c) m (vlV (stk.take m)) rfl (bB HOW.out af) ⟨_,0,none⟩ 1 1 [.int .i64 vm,.bool vb,.int .i64 vn,.int .i64 vd] rfl rfl (ax _ [.int .i64 vm,.bool vb,.int .i64 vn,.int .i64 vd] _ _ ze) zv zf zQ zz yU _ rfl ?_;intro g4 c4 w4 hown hgrow hgg hgl;have h4:=H1.out.push ⟨vm,vb,vn,vd⟩ (n:=m+1) HTL.out af hgrow hgg zx hown;have H4:=yq h4;refine hK1 _ _ (fun h=>absurd zf h) ?_;clear hK1 K1 hown hgrow hgg hgl h4 hS
  (try simp only [nS])
  refine TS.weB 6 ?_
  go_wp2_with fail
  exact Nb
 ·exact RO
variable {w W0 : World} {base Bl CB VB XB i : Nat} {x : Ins} {sl : List ByteArray} {v : Vw} {vi vs vK vS : Value} {stk slots : List Val} {st : List (ByteArray × Val)}
theorem Nh(ho:x.op=22)(ha:0<=x.a/\x.a<=4000)(hk:0<stk.length):uR w W0 base Bl CB VB XB i x sl v vi vs vK vS stk slots st:=by
 intro H0 HX HCB HS;exact rz3
def AX(n d m:Int)(w:World)(e:Ending)(w':World):Prop:=∃s,e= .returned (.tuple #[.string s,.bool (fB n d m)])/\(fB n d m=true->s.data.toList=PL n d m)/\w.Grows w'
theorem AX.no{n d m:Int}{w w':World}(h:fB n d m=false)(hw:w.Grows w'):AX n d m w (.returned (.tuple #[.string ⟨#[]⟩,.bool false])) w':=
 ⟨⟨#[]⟩,by rw [h],fun k=>(by rw [h]at k;cases k),hw⟩
theorem AX.yes{n d m:Int}{w w':World}{s:ByteArray}(h:fB n d m=true)(hs:s.data.toList=PL n d m)(hw:w.Grows w'):AX n d m w (.returned (.tuple #[.string s,.bool true])) w':=
 ⟨s,by rw [h],fun _=>hs,hw⟩
def Dp(n d:Int)(k:Nat)(l:List Int)(r:Int)(s:ByteArray):Prop:=
 p9 d 4 (n % d)=(p9 d (4-k) r).map (l++ ·)/\l.length=k/\s.data.toList=Lib.decDigits (n / d).toNat++CP l
theorem IY{l:List Int}(h:l≠[])(x:Int):CP (l++[x])=CP l++[dgB x]:=by
 unfold CP;rw [if_neg h,if_neg ze];simp
theorem LW(x:Int):CP [x]= [46,dgB x]:=by unfold CP;rw [if_neg ze];rfl
theorem L8{x:Int}(h0:0<=x)(h1:x<=9):Lib.decDigits x.toNat= [dgB x]:=by
 rw [Lib.decDigits,dif_pos zb];rfl
theorem uq(a b:ByteArray):(a++b).data.toList=a.data.toList++b.data.toList:=by
 rw [ByteArray.data_append,Array.toList_append]
theorem wQ{d:Int}{f:Nat}{r:Int}(h:0<r):p9 d (f+1) r=(p9 d f (r*10 % d)).map fun l=>r*10 / d::l:=by
 rw [p9,if_neg zb]
theorem Dp.first{n d r:Int}{s:ByteArray}(h:Dp n d 0 [] r s)(hr:0<r)(h0:0<=r*10 / d)(h1:r*10 / d<=9):Dp n d 1 [r*10 / d] (r*10 % d) (s++⟨#[46]⟩++⟨(Lib.decDigits (r*10 / d).toNat).toArray⟩):=by
 obtain⟨a,-,c⟩:=h;refine⟨?_,rfl, ?_⟩
 ·rw [a,show 4-0=3+1 by rfl,wQ hr];cases p9 d 3 (r*10 % d)<;>rfl
 ·rw [uq,uq,c,L8 h0 h1,LW];simp [CP]
theorem Dp.more{n d r:Int}{s:ByteArray}{k:Nat}{l:List Int}(h:Dp n d k l r s)(hk:0<k)(hk4:k<4)(hr:0<r)(h0:0<=r*10 / d)(h1:r*10 / d<=9) :
 Dp n d (k+1) (l++[r*10 / d]) (r*10 % d) (s++⟨(Lib.decDigits (r*10 / d).toNat).toArray⟩):=by
 obtain⟨a,b,c⟩:=h;refine⟨?_,by simp [b], ?_⟩
 ·rw [a,show 4-k=(4-(k+1))+1 by omega,wQ hr];cases p9 d (4-(k+1)) (r*10 % d)<;>simp
 ·rw [uq,c,L8 h0 h1,IY (by intro e;rw [e]at b;simp at b;omega),append_assoc]
theorem Dp.some{n d r:Int}{s:ByteArray}{k:Nat}{l:List Int}(h:Dp n d k l r s)(hr:r<=0):p9 d 4 (n % d)=some l:=by
 rw [h.1]
 have:p9 d (4-k) r=Option.some []:=by
  cases 4-k with
  |zero=>rw [p9,if_pos hr]
  |succ f=>rw [p9,if_pos hr]
 rw [this];simp
open Go.ChangeShapes Go.WideShapes Go.ChangeAt Go.RowKit
abbrev iW:List (String × DataW Unit):=[("math/bits.deBruijn32tab",Rows.laid_math_bits_deBruijn32tab),("math/bits.deBruijn64tab",Rows.laid_math_bits_deBruijn64tab),("internal/strconv.uint64pow10",Rows.laid_internal_strconv_uint64pow10)]
theorem D7:(Rows.laid_internal_strconv_uint64pow10:DataW Unit)=Lib.tabData .u64 Lib.pow10Tab:=by kernel_rfl
theorem Cb{W:World}(h:laidMetH prog iW W):laidMet prog iW W:=by
 rwa [MakeChecks.laidMetH_plain _ _ _ zd]at h
theorem ny{H:Type}{enc:TypeId × Value->H}{P:Program}{W W':World}(hl:laidOutB P=true)(hb:Below W.heap.size W W'):∀(ts:List TypeId) (vs:List Value) (ds:List (DataW H)) (ps:List MemPlace),(∀t∈ts,P.readableRec t=true/\t<P.types.size)->
 DataW.TrodAll enc P W 0 (fun _=>true) true ts vs ds ps->(∀x∈ps,x.block<W.heap.size)->DataW.TrodAll enc P W' 0 (fun b=>decide (b<W.heap.size)) true ts vs ds ps
 | [],[],[],_,_,h,_=>h
 |t::ts,v::vs,d::ds,ps,hr,h,hlt=>by
  obtain⟨p,q,h1,h2,rfl⟩:=h
  exact⟨p,q,Below.trod hl (hr t mem_cons_self).1 (hr t mem_cons_self).2 h1 hb fun x hx=>hlt x (mem_append_left _ hx),
   ny hl hb ts vs ds q (fun t ht=>hr t (mem_cons_of_mem _ ht)) h2 fun x hx=>hlt x (mem_append_right _ hx),rfl⟩
 | [],_::_,_,_,_,h,_=>h.elim
 | [],[],_::_,_,_,h,_=>h.elim
 |_::_,[],_,_,_,h,_=>h.elim
 |_::_,_::_,[],_,_,h,_=>h.elim
def Gj{H:Type}(enc:TypeId × Value->H)(P:Program)(f:FuncId)(ts:List TypeId):Prop:=
 ∀(W:World) (base:Nat) (args:Array Value) (ds:List (DataW H)) (p:List MemPlace),laidMetH P iW W->(∀(j:Nat) t v,ts[j]? =some t->args[j]? =some v->Value.okWide P W .any base t v)->
  DataW.TrodAll enc P W 0 (fun _=>true) true ts args.toList ds p->(∀(j:Nat) t d,ts[j]? =some t->ds[j]? =some d->fits P t d)->
  Calls P f args W fun e W'=>e= .returned (.bool true)/\Below W.heap.size W W'
theorem K9{H:Type}{enc:TypeId × Value->H}{P:Program}{fn:Func}{s:ChangeSpec}{W W':World}{args:Array Value}{ds gs:List (DataW H)}{before:List MemPlace}(hl:laidOutB P=true)
 (hr:fn.params.toList.all (fun t=>P.readableRec t&&decide (t<P.types.size))=true) (hres:fn.resultTypes=#[4]) (hu:P.underlying 4=some .bool) (hvars:s.vars= [])
 (hspec:∀ds:List (DataW H),ds.length=fn.params.size->s.fn H (ds++[])= {results:=[.lit (.bool true)],args:=ds})
 (hW:DataW.Whole enc P fn.params.toList s.vars false W args.toList ds gs before) (hb:Below W.heap.size W W'):s.post enc P fn false true false false W args (.bool true) W':=by
 have hW':=hW;obtain⟨p,q,hA,hV,rfl,hfz,hnd⟩:=hW;rw [hvars]at hV;obtain⟨rfl,rfl⟩:=trodVars_none hV
 have hlen:∀(ts:List TypeId) (vs:List Value) (ds:List (DataW H)) (ps:List MemPlace),DataW.TrodAll enc P W 0 (fun _=>true) true ts vs ds ps->ds.length=ts.length:=by
  intro ts
  induction ts with
  |nil=>intro vs ds ps h;cases vs<;>cases ds<;>simp_all [DataW.TrodAll]
  |cons t ts ih=>
   intro vs ds ps h
   cases vs with
   |nil=>exact h.elim
   |cons v vs=>
    cases ds with
    |nil=>exact h.elim
    |cons d ds=>
     obtain⟨_,_,_,h2,_⟩:=h;simp [ih _ _ _ h2]
 have hds:ds.length=fn.params.size:=by rw [hlen _ _ _ _ hA];simp
 have hs:=hspec ds hds;have hlt:∀x∈p,x.block<W.heap.size:=fun x hx=>by have:=hW'.lt x (by simpa using hx);simpa using this
 refine⟨ds,[],p++[],[],p,[],hW', ?_, ?_, ?_,hb.frame _,fun h=>by cases h⟩
 ·rw [hs,hres];exact trodAll_mk1 (shut_bool hu _)
 ·rw [hs];refine ny hl hb _ _ _ _ (fun t ht=>?_) hA hlt;have:=all_eq_true.1 hr t ht;simpa using this
 ·rw [hs,hvars];rfl
theorem Lc{H:Type}{enc:TypeId × Value->H}{C:Checked}{os:Os}{f:FuncId}{fn:Func}{s:ChangeSpec}{conds:List PathCond}(own:ownKnob C.prog.godebug=none)(started:os.Started)(noInit:C.prog.inits.idxOf? f=none)(hfn:C.prog.funcs[f]? =some fn)
 (witness:∃(w:World) (tape:Tape) (i:Input),w.os=os/\(w.forCall tape i).Shaped C.prog/\i.vars= []/\Input.okWide C.prog (w.forCall tape i) .any w.heap.size f i/\
  ((s.pre enc C.prog fn conds false (w.forCall tape i).memory i.args/\laidMetH C.prog iW (w.forCall tape i).memory)/\sizedMet enc C.prog fn (OpenSpec.ofChange s) false (w.forCall tape i).memory i.args)/\({}:Assume).holds C.prog (lone (Frame.enter C.prog f i.args .normal) [] (w.forCall tape i)))
 (hl:laidOutB C.prog=true) (hr:fn.params.toList.all (fun t=>C.prog.readableRec t&&decide (t<C.prog.types.size))=true) (hres:fn.resultTypes=#[4]) (hu:C.prog.underlying 4=some .bool) (hvars:s.vars= [])
 (hspec:∀ds:List (DataW H),ds.length=fn.params.size->s.fn H (ds++[])= {results:=[.lit (.bool true)],args:=ds}) (walk:Gj enc C.prog f fn.params.toList) :
 ReturnsInHanded {} C os f .any (fun w args=>(s.pre enc C.prog fn conds false w args/\laidMetH C.prog iW w)/\sizedMet enc C.prog fn (OpenSpec.ofChange s) false w args) (s.post enc C.prog fn false true false false):=by
 refine returnsInHanded_of_change_and (C:=C) (X:=fun w _=>laidMetH C.prog iW w) (fun _ _ _ hh h=>h.of_heap hh) own started noInit hfn witness ?_;intro W base args ds gs before hval hW _ hsz hL _;have hW':=hW;obtain⟨p,q,hA,hV,rfl,hfz,hnd⟩:=hW;have e:s.vars= []:=hvars;rw [e]at hV;obtain⟨rfl,rfl⟩:=trodVars_none hV;refine(walk W base args ds p hL (fun j t v ht ha=>hval j t v (by simpa using ht) ha) hA (fun j t d ht hd n hn=>?_)).mono fun e W' ⟨he,hb⟩=>⟨_,he,K9 hl hr hres hu hvars hspec hW' hb⟩;have:=all_eq_true.1 hsz n (DataW.weights_mem_each (j:=j) (by rw [getElem?_append_left (List.getElem?_eq_some_iff.1 ht).1];exact ht) (by rw [append_nil];exact hd) n hn);exact of_decide_eq_true this
theorem own:ownKnob prog.godebug=none:=by kernel_rfl
theorem laidOut:laidOutB prog=true:=by kernel_rfl
theorem Lg(os:Os)(args:Array Value):laidMetH prog iW ((World.laidAll prog os iW).forCall (fun _ _=>0) ⟨#[],args,[]⟩).memory:=by
 rw [MakeChecks.laidMetH_plain _ _ _ zd];exact laidMet_laidAll args zd zd
theorem A7{W:World}(h:laidMetH prog iW W):Tab W:=by
 have h2:=(Cb h).tail.tail;rw [D7]at h2;exact Lib.tabIs_of_head (P:=prog) (g:=2) (t:=291) (n:=20) (e:=155) zd zd zd zd zd zd h2
end Go.Proofs.YteildlpchhlchaaGreatDoor
