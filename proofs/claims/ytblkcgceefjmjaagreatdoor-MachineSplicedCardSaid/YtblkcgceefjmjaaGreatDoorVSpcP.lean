import Derived.Test.YtblkcgceefjmjaaGreatDoorVMpX
import Derived.Test.YtblkcgceefjmjaaGreatDoorVCode
import Derived.Test.YtblkcgceefjmjaaGreatDoorVVwOf
set_option linter.all false
set_option maxHeartbeats 16000000
set_option maxRecDepth 1000000
namespace Go.Proofs.YtblkcgceefjmjaaGreatDoor
open Go.Proofs.Tryz Tryz List
def ay(s:ByteArray):ByteArray:=s++⟨#[120]⟩
theorem fH:∀a,a<6->∀b,b<6->((namesM b).map ay).all isWord=true/\(namesM a++(namesM b).map ay).Nodup:=by decide+kernel
theorem fG(n:Nat):∀s∈namesM n,s.size<=4:=by
 intro s hs;obtain⟨j,-,rfl⟩:=mem_map.1 hs;rw [letN_size];decide
theorem fF:∀b,b<6->∀s∈(namesM b).map ay,s.size<=4:=by decide+kernel
theorem je{l1 l2:List Ins}(h1:InsOk l1)(h2:InsOk l2)(m n:Nat):InsOk (l1++l2.map (shI m n)):=h1.app9 (fun x hx=>by
 obtain⟨y,hy,rfl⟩:=mem_map.1 hx;have:=gD m n y
 rw [this.1,this.2];exact h2 y hy)
theorem bL{α β:Type}(f:α->β)(a:List β)(l:List α)(i:Nat)(h:i<l.length)(d:α):(a++(l.take i).map f)++[f (l.getD i d)]=a++(l.take (i+1)).map f:=by
 rw [take_succ_eq_append_getElem h,map_append,getD_eq_getElem?_getD,getElem?_eq_getElem h,append_assoc];rfl
theorem iC(l m:List (List Int))(g:List Int):∃d,verA (aG (namesM (min l.length 5)).length (madeC l []) (madeC m g)) (namesM (min l.length 5)++(namesM (min m.length 5)).map ay)=(d,0):=by
 obtain⟨d1,h1⟩:=av l [];obtain⟨d2,h2⟩:=av m g;have k1:=aJ l [];have k2:=aJ m g;obtain⟨n1,n2⟩:=fH (min l.length 5) zb (min m.length 5) zb;exact ed h1 h2 zb (by rw [length_map]) (by rw [length_map,names_len,names_len];omega) n1 n2
theorem iD(l m:List (List Int))(g:List Int){v:Vw}(hv:v.ok=true) :
 runC (aG (namesM (min l.length 5)).length (madeC l []) (madeC m g)) (namesM (min l.length 5)++(namesM (min m.length 5)).map ay) v=if(runC (madeC l []) (namesM (min l.length 5)) v).2≠0 then([],(runC (madeC l []) (namesM (min l.length 5)) v).2)else if(runC (madeC m g) (namesM (min m.length 5)) v).2≠0 then([],(runC (madeC m g) (namesM (min m.length 5)) v).2)else((runC (madeC l []) (namesM (min l.length 5)) v).1++(runC (madeC m g) (namesM (min m.length 5)) v).1.map fun p=>(ay p.1,p.2),0):=by
 obtain⟨d1,h1⟩:=av l [];obtain⟨d2,h2⟩:=av m g;exact eu ay h1 h2 hv (by rw [names_len,names_len];omega)
open Go.RowKit
theorem aI.grows{w w':World}{v:Value}{st:List (ByteArray × Val)}(h:aI w v st)(hg:w.Grows w'):aI w' v st:=by
 obtain⟨a,c,hv,hl,hs⟩:=h;refine⟨a,c,hv,hl,hs.imp id ?_⟩;rintro⟨g,e,hlt,hc⟩;have q:=fun o=>World.cell?_of_block (a:=⟨g,o,none⟩) (hg.below.block g hlt);refine⟨g,e,Nat.lt_of_lt_of_le hlt hg.below.size,fun i hi=>?_⟩;obtain⟨e0,e1,e2,e3,e4⟩:=hc i hi;exact⟨(q _).trans e0,(q _).trans e1,(q _).trans e2,(q _).trans e3,(q _).trans e4⟩
def gN(p:ByteArray × Val):ByteArray × Val:=(ay p.1,p.2)
theorem jd{a b:List (ByteArray × Val)}{i:Nat}(h:i<a.length):au (a++b) i=au a i:=by
 unfold au;rw [getD_eq_getElem?_getD,getD_eq_getElem?_getD,getElem?_append_left h]
theorem jb{a b:List (ByteArray × Val)}{i:Nat}(h:a.length<=i)(h2:i<a.length+b.length):au (a++b.map gN) i=gN (au b (i-a.length)):=by
 unfold au;rw [getD_eq_getElem?_getD,getD_eq_getElem?_getD,getElem?_append_right h,getElem?_map,getElem?_eq_getElem zb];rfl
theorem bJ.sts{r:List (ByteArray × Val) × Int}{w w':World}{e:Ending}(h:bJ r w e w'):∃a c,e= .returned (.tuple #[.slice a r.1.length c,.int .i64 r.2])/\w.Grows w'/\aI w' (.slice a r.1.length c) r.1:=by
 obtain⟨sv,rfl,hg,ho⟩:=h;have hs:=aI.of_own ho;obtain⟨a,c,rfl,-⟩:=id hs;exact⟨a,c,rfl,hg,hs⟩
theorem iE(R:VwR)(V:Vw)(rA rB rC:List (ByteArray × Val) × Int)(w wc:World)(VX gA gB gC n0 m0 n2 m2 mS cS ic sc jc tc:Nat)(ia sa ib sb aS:Option Addr)(vI vd vy:Value)(HG:Hid (w.Grows wc))
 (HVX:Hid (wc.heap[VX]? =some (.cells #[.int .i64 R.age,.int .i64 R.year,.int .i64 R.children,.int .i64 R.base,.int .i64 R.den,vd,vy] 36 (0,0)))) (HA:Hid (wc.heap[gA]? =some (.cells #[.slice ia n0 ic,.slice sa m0 sc] 58 (0,0)))) (HB:Hid (wc.heap[gB]? =some (.cells #[.slice ib n2 jc,.slice sb m2 tc] 58 (0,0)))) (HC:Hid (∃ty,wc.heap[gC]? =some (.cells #[vI,.slice aS mS cS] ty (0,0)))) (HM:Hid (mS<=10))
 (HVO:Hid (∀W,wc.Grows W->Calls prog 22 #[.agg #[.int .i64 R.age,.int .i64 R.year,.int .i64 R.children,.int .i64 R.base,.int .i64 R.den,vd,vy]] W fun e w'=>∃yv,e= .returned (vwV V yv)/\W.Grows w'/\YrAt w' yv V.years)) (HW:Hid (∀W,wc.Grows W->Calls prog 43 #[] W fun e w'=>e= .returned (.bool true)/\W.Grows w'))
 (HRA:Hid (∀W,wc.Grows W->∀yv,YrAt W yv V.years->Calls prog 42 #[.agg #[.slice ia n0 ic,.slice sa m0 sc],vwV V yv] W (bJ rA W))) (HRB:Hid (∀W,wc.Grows W->∀yv,YrAt W yv V.years->Calls prog 42 #[.agg #[.slice ib n2 jc,.slice sb m2 tc],vwV V yv] W (bJ rB W))) (HRC:Hid (∀W,wc.Grows W->∀yv,YrAt W yv V.years->Calls prog 42 #[.agg #[vI,.slice aS mS cS],vwV V yv] W (bJ rC W)))
 (HSZ:Hid (∀p∈rB.1,p.1.size<=100)) (HEQ:Hid (rC=if rA.2≠0 then([],rA.2)else if rB.2≠0 then([],rB.2)else(rA.1++rB.1.map gN,0))) (x0 x1 x2 x3 x4 x5 x6 x8 x12 x13 x14 x15 x16 x17 x18 x19 x20 x21 x22 x23 x24 x25 x26 x27 x28 x29 x30 x31 x32 x33 x34 x35 x36 x37 x38 x39 x40 x41 x42 x43 x44 x45 x46 x47 x48 x49 x50 x51 x52 x53 x54 x55 x56 x57 x58 x59 x60 x61 x62 x63 x64 x65 x66 x67 x68 x69 x70 x71 x72 x73 x74 x75 x76 x77 x78 x79 x80 x81 x82 x83 x84 x85 x86 x87 x88 x89 x90 x91 x92 x93 x94 x95 x96 x97 x98 x99 x100 x101 x102 x103 x104 x105 x106 x107 x108 x109 x110 x111 x112 x113 x114 x115 x116 x117 x118 x119 x120 x121 x122 x123 x124 x125 x126 x127 x128 x129 x130 x131 x132 x133 x134 x135 x136 x137 x138 x139 x140 x141 x142 x143 x144 x145 x146 x147 x148 x149 x150 x151 x152 x153 x154 x155 x156 x157 x158 x159 x160 x161 x162 x163 x164 x165 x166 x167 x168 x169 x170 x171 x172 x173 x174 x175 x176 x177 x178 x179 x180 x181 x182 x183 x184 x185 x186 x187 x188 x189 x190 x191 x192 x193 x194 x195 x196 x197 x198 x199 x200 x201 x202 x203 x204 x205 x206 x207 x208 x209 x210 x211 x212 x213 x214 x215 x216 x217:Value) :
 Code.wp prog (sq2 (sq2 (sq2 (sq2 (sq2 (sq2 (f11.body.getD .skip))))))) (bodyPost prog f11 (fun e w'=>e= .returned (.bool true)/\w.Grows w')) {tmps:=#[x0,x1,x2,x3,x4,x5,x6,.pointer (some ⟨VX,0,none⟩),x8,.pointer (some ⟨gA,0,none⟩),.pointer (some ⟨gB,0,none⟩),.pointer (some ⟨gC,0,none⟩),x12,x13,x14,x15,x16,x17,x18,x19,x20,x21,x22,x23,x24,x25,x26,x27,x28,x29,x30,x31,x32,x33,x34,x35,x36,x37,x38,x39,x40,x41,x42,x43,x44,x45,x46,x47,x48,x49,x50,x51,x52,x53,x54,x55,x56,x57,x58,x59,x60,x61,x62,x63,x64,x65,x66,x67,x68,x69,x70,x71,x72,x73,x74,x75,x76,x77,x78,x79,x80,x81,x82,x83,x84,x85,x86,x87,x88,x89,x90,x91,x92,x93,x94,x95,x96,x97,x98,x99,x100,x101,x102,x103,x104,x105,x106,x107,x108,x109,x110,x111,x112,x113,x114,x115,x116,x117,x118,x119,x120,x121,x122,x123,x124,x125,x126,x127,x128,x129,x130,x131,x132,x133,x134,x135,x136,x137,x138,x139,x140,x141,x142,x143,x144,x145,x146,x147,x148,x149,x150,x151,x152,x153,x154,x155,x156,x157,x158,x159,x160,x161,x162,x163,x164,x165,x166,x167,x168,x169,x170,x171,x172,x173,x174,x175,x176,x177,x178,x179,x180,x181,x182,x183,x184,x185,x186,x187,x188,x189,x190,x191,x192,x193,x194,x195,x196,x197,x198,x199,x200,x201,x202,x203,x204,x205,x206,x207,x208,x209,x210,x211,x212,x213,x214,x215,x216,x217],defers:=[]} wc:=by
 have HA2:=zh (fun W (h:wc.Grows W) yv hy=>(HRA.out W h yv hy).mono fun e w' h=>h.sts);have HB2:=zh (fun W (h:wc.Grows W) yv hy=>(HRB.out W h yv hy).mono fun e w' h=>h.sts);have HC2:=zh (fun W (h:wc.Grows W) yv hy=>(HRC.out W h yv hy).mono fun e w' h=>h.sts);clear HRA HRB HRC;unfold vwV at HA2 HB2 HC2;obtain⟨stA,cdA⟩:=rA;obtain⟨stB,cdB⟩:=rB;obtain⟨stC,cdC⟩:=rC;dsimp only at HA2 HB2 HC2;have b0:=cell_of_row wc _ 0 _ _ _ HVX.out;have b1:=cell_of_row wc _ 1 _ _ _ HVX.out;have b2:=cell_of_row wc _ 2 _ _ _ HVX.out;have b3:=cell_of_row wc _ 3 _ _ _ HVX.out;have b4:=cell_of_row wc _ 4 _ _ _ HVX.out;have b5:=cell_of_row wc _ 5 _ _ _ HVX.out;have b6:=cell_of_row wc _ 6 _ _ _ HVX.out;have hVX:=(Array.getElem?_eq_some_iff.1 HVX.out).1
 conv=>arg 2;whnf
 go_upto_region 22 with (go_at_call 22;refine(HVO.out _ growsR).mono ?_;rintro e' w' ⟨yv,rfl,hgv,hyv⟩;obtain⟨-,ya,yc,rfl,-⟩:=id hyv;have HYV:=zh hyv;have HGV:=zh hgv;unfold vwV;clear hgv hyv)
 refine cutW (fun W=>w'.Grows W/\∃ty,W.heap[w'.heap.size]? =some (.cells #[.int .i64 V.age,.int .i64 V.year,.int .i64 V.children,.int .i64 V.insured,.int .i64 V.worked,.int .i64 V.voluntary,.int .i64 V.service,.int .i64 V.equated,.int .i64 V.raising,.int .i64 V.resident,.int .i64 V.bn,.int .i64 V.bd,.slice ya V.years.length yc] ty (0,0))) ⟨growsR,_,heap_alloc_new _ _⟩ ?_;intro W5 hW5;obtain⟨hg5,ty5,hv5⟩:=hW5;have hgc:wc.Grows W5:=World.Grows.trans' HGV.out hg5;have HGC:=zh hgc;have HY5:=zh (HYV.out.grows hg5);have hA:=(hgc.below.block _ (Array.getElem?_eq_some_iff.1 HA.out).1).trans HA.out;have hB:=(hgc.below.block _ (Array.getElem?_eq_some_iff.1 HB.out).1).trans HB.out;obtain⟨tyc,hC0⟩:=HC.out;have hC:=(hgc.below.block _ (Array.getElem?_eq_some_iff.1 hC0).1).trans hC0;have a0:=cell_of_row W5 _ 0 _ _ _ hA;have a1:=cell_of_row W5 _ 1 _ _ _ hA;have e0:=cell_of_row W5 _ 0 _ _ _ hB;have e1:=cell_of_row W5 _ 1 _ _ _ hB;have c0:=cell_of_row W5 _ 0 _ _ _ hC;have c1:=cell_of_row W5 _ 1 _ _ _ hC;have v0:=cell_of_row W5 _ 0 _ _ _ hv5;have v1:=cell_of_row W5 _ 1 _ _ _ hv5;have v2:=cell_of_row W5 _ 2 _ _ _ hv5;have v3:=cell_of_row W5 _ 3 _ _ _ hv5;have v4:=cell_of_row W5 _ 4 _ _ _ hv5;have v5:=cell_of_row W5 _ 5 _ _ _ hv5;have v6:=cell_of_row W5 _ 6 _ _ _ hv5;have v7:=cell_of_row W5 _ 7 _ _ _ hv5;have v8:=cell_of_row W5 _ 8 _ _ _ hv5;have v9:=cell_of_row W5 _ 9 _ _ _ hv5;have v10:=cell_of_row W5 _ 10 _ _ _ hv5;have v11:=cell_of_row W5 _ 11 _ _ _ hv5;have v12:=cell_of_row W5 _ 12 _ _ _ hv5;have hAl:=(Array.getElem?_eq_some_iff.1 hA).1;have hBl:=(Array.getElem?_eq_some_iff.1 hB).1;have hCl:=(Array.getElem?_eq_some_iff.1 hC).1;have hvl:=(Array.getElem?_eq_some_iff.1 hv5).1;generalize w'.heap.size=NV at *;clear b0 b1 b2 b3 b4 b5 b6 hVX hA hB hC hC0 hv5 hg5 hgc
 go_upto_region 25 with (first
  |(go_at_call 42;refine(HA2.out _ (World.Grows.trans' HGC.out growsR) _ (HY5.out.grows growsR)).mono ?_;rintro e' w6 ⟨aA,cA,rfl,⟨bA,dA,rfl⟩,hsA⟩;have HSA:=zh hsA;clear hsA HA2)
  |(go_at_call 42;refine(HB2.out _ (World.Grows.trans' HGC.out growsR) _ (HY5.out.grows growsR)).mono ?_;rintro e' w6 ⟨aB,cB,rfl,⟨bB,dB,rfl⟩,hsB⟩;have HSB:=zh hsB;clear hsB HB2)
  |(go_at_call 42;refine(HC2.out _ (World.Grows.trans' HGC.out growsR) _ (HY5.out.grows growsR)).mono ?_;rintro e' w6 ⟨aC,cC,rfl,⟨bC,dC,rfl⟩,hsC⟩;have HSC:=zh hsC;clear hsC HC2))
 refine cutW (fun W=>wc.Grows W/\aI W (.slice aA stA.length cA) stA/\aI W (.slice aB stB.length cB) stB/\aI W (.slice aC stC.length cC) stC) ⟨World.Grows.trans' HGC.out growsR,HSA.out.grows growsR,HSB.out.grows growsR,HSC.out.grows growsR⟩ ?_;intro W6 hW6;obtain⟨hg6,hsA,hsB,hsC⟩:=hW6;clear HSA HSB HSC a0 a1 e0 e1 c0 c1 hAl hBl hCl hvl v0 v1 v2 v3 v4 v5 v6 v7 v8 v9 v10 v11 v12 HVX HY5 HGC HYV HGV HVO;have HG6:=zh hg6;have HGW6:Hid (w.Grows W6):=zh (World.Grows.trans' HG.out hg6);obtain⟨tyc,hC0⟩:=HC.out;have hC:=(hg6.below.block _ (Array.getElem?_eq_some_iff.1 hC0).1).trans hC0;have c1:=cell_of_row W6 _ 1 _ _ _ hC;have hCl:=(Array.getElem?_eq_some_iff.1 hC).1;have hm10:(mS:Int)<=10:=by have:=HM.out;omega
 have hm12:¬(12:Int)<(mS:Int):=by omega
 have HSA:=zh hsA;have HSB:=zh hsB;have HSC:=zh hsC;have heq:=HEQ.out;clear hsA hsB hsC hC hC0 hg6 HEQ HA HB HC;by_cases hA0:cdA=0
 case neg=>
  rw [if_pos hA0]at heq;obtain⟨rfl,rfl⟩:=Prod.mk.inj heq;have q1:(cdC !=0)=true:=by simpa using hA0
  have q2:(cdC==0)=false:=by simpa using hA0
  have e00:(([]:List (ByteArray × Val)).length)=0:=rfl;rw [e00];clear heq hA0 HSA HSB HSC
  go_wp2_with (go_at_call 43;refine(HW.out _ (World.Grows.trans' HG6.out growsR)).mono ?_;rintro e' w' ⟨rfl,b8,d8,rfl⟩)
  go_returns
  exact⟨rfl,World.Grows.trans' HGW6.out growsR⟩
 subst hA0;rw [if_neg zf]at heq;by_cases hB0:cdB=0
 case neg=>
  rw [if_pos hB0]at heq;obtain⟨rfl,rfl⟩:=Prod.mk.inj heq;have q1:(cdC !=0)=true:=by simpa using hB0
  have q2:(cdC==0)=false:=by simpa using hB0
  have e00:(([]:List (ByteArray × Val)).length)=0:=rfl;rw [e00];clear heq hB0 HSA HSB HSC
  go_wp2_with (go_at_call 43;refine(HW.out _ (World.Grows.trans' HG6.out growsR)).mono ?_;rintro e' w' ⟨rfl,b8,d8,rfl⟩)
  go_returns
  exact⟨rfl,World.Grows.trans' HGW6.out growsR⟩
 subst hB0;rw [if_neg zf]at heq;obtain⟨hstC,rfl⟩:=Prod.mk.inj heq;have HST:=zh hstC;obtain⟨N,hN⟩:∃N,stC.length=N:=⟨_,rfl⟩;obtain⟨N1,hN1⟩:∃N,stA.length=N:=⟨_,rfl⟩;obtain⟨N2,hN2⟩:∃N,stB.length=N:=⟨_,rfl⟩;have hsum:N=N1+N2:=by rw [<-hN,<-hN1,<-hN2,hstC,length_append,length_map]
 have HNN:=zh (And.intro hN (And.intro hN1 hN2));have hNb:=HSC.out.choose_spec.choose_spec.2.1;unfold aI at HSA HSB HSC;rw [hN]at HSC hNb ⊢;rw [hN1]at HSA ⊢;rw [hN2]at HSB ⊢;have hws:IntKind.i64.wrap ((N1:Int)+(N2:Int))=(N:Int):=by rw [show(N1:Int)+(N2:Int)=(N:Int)by omega];exact IntWalk.i64_in _ zb
 have HSUM:=zh hsum;clear heq hN hN1 hN2 hstC hsum
 go_upto_block 5 with (go_at_call 43;refine(HW.out _ (World.Grows.trans' HG6.out growsR)).mono ?_;rintro e' w' ⟨rfl,b8,d8,rfl⟩)
 refine cutW (fun W=>W6.Grows W) growsR ?_;intro W7 hg7;have HG7:=zh hg7;clear hg7 c1 hCl
 go_wp2_with fail
 go_loopw [22] (fun v22 wr=>∃i:Nat,i<=N/\v22= .int .i64 i/\W7.Grows wr) (fun v22 _=>N-(intOf v22).toNat)
 case atStart=>exact⟨0,by omega,rfl,growsR⟩
 obtain⟨i,hi9,rfl,hgr⟩:=hrel;have HGR:=zh hgr;have HG8:Hid (W6.Grows wr):=zh (World.Grows.trans' HG7.out hgr);by_cases hlt:i<N
 case neg=>
  obtain rfl:i=N:=by omega
  clear hlt hi9 hgr
  go_wp2_with fail
  go_returns
  exact⟨rfl,World.Grows.trans' HGW6.out (World.Grows.trans' HG8.out growsR)⟩
 have d1:(i:Int)<(N:Int):=by omega
 have HLT:=zh hlt;obtain⟨aC',cC',hvC,-,hsC⟩:=HSC.out;injection hvC with eC1 eC2 eC3;rcases hsC with h0|⟨gc,hgc,hgl,hgcells⟩
 ·have:=HNN.out;omega
 subst eC1;subst hgc;have u:=hgcells i zw;have qu:=fun o=>World.cell?_of_block (a:=⟨gc,o,none⟩) (HG8.out.below.block gc hgl);have u0:=(qu _).trans u.1;have u1:=(qu _).trans u.2.1;have u2:=(qu _).trans u.2.2.1;have u3:=(qu _).trans u.2.2.2.1;have u4:=(qu _).trans u.2.2.2.2;have hul:=Nat.lt_of_lt_of_le hgl HG8.out.below.size;have hNb2:(N:Int)<=9223372036854775807:=hNb;clear hgcells hgl u qu eC2 eC3 hgr hlt;by_cases h1:i<N1
 focus
  have d2:(i:Int)<(N1:Int):=by omega
  obtain⟨aA',cA',hvA,-,hsA⟩:=HSA.out;injection hvA with eA1 eA2 eA3;rcases hsA with h0|⟨gs,hgs,hsl,hscells⟩
  ·have:=HNN.out;omega
  subst eA1;subst hgs;have t:=hscells i zw;have qt:=fun o=>World.cell?_of_block (a:=⟨gs,o,none⟩) (HG8.out.below.block gs hsl);have t0:=(qt _).trans t.1;have t1:=(qt _).trans t.2.1;have t2:=(qt _).trans t.2.2.1;have t3:=(qt _).trans t.2.2.2.1;have t4:=(qt _).trans t.2.2.2.2;have htl:=Nat.lt_of_lt_of_le hsl HG8.out.below.size;have hEE:au stC i=au stA i:=by rw [HST.out];exact jd zw
  rw [hEE]at u0 u1 u2 u3 u4;generalize au stA i=p at *;obtain⟨pn,px⟩:=p;obtain⟨pd,pb,pnn,pdd⟩:=px;dsimp only at u0 u1 u2 u3 u4 t0 t1 t2 t3 t4;clear t qt hsl hscells eA2 eA3 hEE h1 hi9
 rotate_left
 focus
  have d2:¬(i:Int)<(N1:Int):=by omega
  obtain⟨aB',cB',hvB,-,hsB⟩:=HSB.out;injection hvB with eB1 eB2 eB3;obtain⟨k,hk⟩:∃k,i=N1+k:=⟨i-N1,by omega⟩;have hk2:k<N2:=by have:=HSUM.out;omega
  rcases hsB with h0|⟨gs,hgs,hsl,hscells⟩
  ·have:=HNN.out;omega
  subst eB1;subst hgs;have t:=hscells k zw;have qt:=fun o=>World.cell?_of_block (a:=⟨gs,o,none⟩) (HG8.out.below.block gs hsl);have t0:=(qt _).trans t.1;have t1:=(qt _).trans t.2.1;have t2:=(qt _).trans t.2.2.1;have t3:=(qt _).trans t.2.2.2.1;have t4:=(qt _).trans t.2.2.2.2;have htl:=Nat.lt_of_lt_of_le hsl HG8.out.below.size
  have hEE:au stC i=gN (au stB k):=by
   rw [HST.out,jb zw zw];rw [show i-stA.length=k by have:=HNN.out;omega]
  have hz:=HSZ.out (au stB k) (dF zw);have hw:IntKind.i64.wrap ((i:Int)-(N1:Int))=(k:Int):=by rw [show(i:Int)-(N1:Int)=(k:Int)by omega];exact IntWalk.i64_in _ zb
  have d3:(k:Int)<(N2:Int):=by omega
  have d4:(0:Int)<=(k:Int):=by omega
  rw [hEE]at u0 u1 u2 u3 u4;unfold gN ay at u0 u1 u2 u3 u4;generalize au stB k=p at *;obtain⟨pn,px⟩:=p;obtain⟨pd,pb,pnn,pdd⟩:=px;dsimp only at u0 u1 u2 u3 u4 t0 t1 t2 t3 t4 hz;have hcs:(9223372036854775807<pn.size+1)=False:=eq_false zb;clear t qt hsl hscells eB2 eB3 hEE h1 hi9 hk hk2 hz
  go_upto_region 37 with fail
  refine TS.begin [18] (World.Grows _) zd zd grows_drew0 (fun hS=>?_);refine TS.wkB 0 hS ?_;refine TS.wkB 1 hS ?_;refine TS.wkB 2 hS ?_;refine TS.wkB 3 hS ?_;refine TS.wkB 4 hS ?_;refine TS.wkB 5 hS ?_;refine TS.wkB 6 hS ?_;refine TS.wkB 7 hS ?_;refine TS.wkB 8 hS ?_;refine TS.wkB 9 hS ?_;refine TS.wkB 10 hS ?_;refine TS.wkB 11 hS ?_;refine TS.wkB 12 hS ?_;refine TS.wkB 13 hS ?_;refine TS.wkB 14 hS ?_;refine TS.wkB 15 hS ?_;refine TS.wkB 16 hS ?_;refine TS.wkB 17 hS ?_;refine TS.weB 18 ?_
 rotate_left
 all_goals
  go_wp2_with fail
  first|go_region|go_quiet (fail)
  go_wp2_with fail
  go_roundw
  case rel=>exact⟨i+1,HLT.out,by go_num,World.Grows.trans' HGR.out growsR⟩
  case measure=>simp [intOf];have:=HLT.out;omega
theorem iP(W:World):IntsAt W (.slice none 0 0) []:=⟨by simp,fun z h=>(by cases h),none,0,rfl,.inl rfl⟩
theorem bD{l:List Ins}{sl:List ByteArray}{v:Vw}{d:Int}(h:verA l sl=(d,0))(hv:v.ok=true):bE l sl v=runC l sl v:=by unfold bE;rw [if_neg (by rw [h];simp),if_pos hv]
theorem gH{l:List Ins}{sl:List ByteArray}{r:List (ByteArray × Val) × Int}(hs:∀s∈sl,s.size<=4)(h:RunEnd l sl r):∀p∈r.1,p.1.size<=100:=by
 intro p hp;rcases h with ⟨-,n,h⟩|⟨h,-⟩
 ·obtain⟨j,-,-,e⟩:=h.nm p hp;rw [e,getD_eq_getElem?_getD]
  cases hk:sl[(l.getD j default).a.toNat]? with
  |none=>decide
  |some s=>have:=hs s (List.mem_of_getElem? hk);show s.size<=100;omega
 ·rw [h]at hp;cases hp
structure iY(w:World)(B1 gA gB n0 m0 n2 m2:Nat)(ia sa ib sb:Option Addr)(ic sc jc tc:Nat)(l1 l2:List Ins)(s1 s2:List ByteArray)(W:World):Prop where
 gr:w.Grows W
 bA:W.heap[gA]? =some (.cells #[.slice ia n0 ic,.slice sa m0 sc] 58 (0,0))
 bB:W.heap[gB]? =some (.cells #[.slice ib n2 jc,.slice sb m2 tc] 58 (0,0))
 rA:W.ownsRow B1 103 4 (.slice ia n0 ic) n0 (insV l1)
 rS:W.ownsRow B1 9 1 (.slice sa m0 sc) m0 (slV s1)
 iB:InsAt W (.slice ib n2 jc) l2
 tB:SlAt W (.slice sb m2 tc) s2
theorem iY.grows{w W W':World}{B1 gA gB n0 m0 n2 m2:Nat}{ia sa ib sb:Option Addr}{ic sc jc tc:Nat}{l1 l2:List Ins}{s1 s2:List ByteArray}(h:iY w B1 gA gB n0 m0 n2 m2 ia sa ib sb ic sc jc tc l1 l2 s1 s2 W)(hg:W.Grows W'):iY w B1 gA gB n0 m0 n2 m2 ia sa ib sb ic sc jc tc l1 l2 s1 s2 W':=
 ⟨World.Grows.trans' h.gr hg,(hg.below.block gA (Array.getElem?_eq_some_iff.1 h.bA).1).trans h.bA,(hg.below.block gB (Array.getElem?_eq_some_iff.1 h.bB).1).trans h.bB,keptNe h.rA (grownOf hg none) (fun _ e=>by cases e),keptNe h.rS (grownOf hg none) (fun _ e=>by cases e),h.iB.grows hg,h.tB.grows hg⟩
theorem jh(hInf:Hid InfSaid)(la lb:List (List Int))(gd:List Int)(R:VwR)(vl vm vg vd vy:Value)(w:World)(hl:RowsAt w vl la)(hm:RowsAt w vm lb)(hg:IntsAt w vg gd)(hd:IntsAt w vd R.days)(hy:IntsAt w vy R.years)(ht:Tab w) :
 Calls prog 11 #[vl,vm,vg,.agg #[.int .i64 R.age,.int .i64 R.year,.int .i64 R.children,.int .i64 R.base,.int .i64 R.den,vd,vy]] w fun e w'=>e= .returned (.bool true)/\w.Grows w':=by
 have HLL:=zh hl;have HMM:=zh hm;have HGG:=zh hg;have HD:=zh hd;have HYY:=zh hy;obtain⟨-,-,ga,gc,rfl,-⟩:=id hg;obtain⟨-,la',lc,rfl,-⟩:=id hl;obtain⟨-,ma',mc,rfl,-⟩:=id hm;obtain⟨-,-,da,dc,rfl,-⟩:=id hd;obtain⟨-,-,ya,yc,rfl,-⟩:=id hy;by_cases h1:5<la.length
 ·have h2:(5:Int)<(la.length:Int):=by omega
  clear hl hm hg hInf ht HLL HMM HGG hd hy HD HYY
  go_enter func11,ntmps11
  go_wp2_with fail
  go_returns
  exact⟨rfl,growsR⟩
 have h2:¬(5:Int)<(la.length:Int):=by omega
 by_cases h1':5<lb.length
 ·have h2':(5:Int)<(lb.length:Int):=by omega
  clear hl hm hg hInf ht HLL HMM HGG hd hy HD HYY
  go_enter func11,ntmps11
  go_wp2_with fail
  go_returns
  exact⟨rfl,growsR⟩
 have h2':¬(5:Int)<(lb.length:Int):=by omega
 by_cases h3:100<gd.length
 ·have h4:(100:Int)<(gd.length:Int):=by omega
  clear hl hm hg hInf ht HLL HMM HGG hd hy HD HYY
  go_enter func11,ntmps11
  go_wp2_with fail
  go_returns
  exact⟨rfl,growsR⟩
 have h4:¬(100:Int)<(gd.length:Int):=by omega
 obtain⟨i0,hi,hz1,hz2,hz3⟩:=info_parts infoIn;obtain⟨i1,hi1,hz11,hz21,hz31⟩:=info_parts infoStS;have HC1:=zh (fun W (h:w.Grows W)=>dW la [] _ (.slice none 0 0) W (RowsAt.growsM HLL.out h) (iP W) zb zf);have HC2:=zh (fun W (h:w.Grows W)=>dW lb gd _ _ W (RowsAt.growsM HMM.out h) (IntsAt.growsM HGG.out h) zb zb);have HW:=zh (fun W (h:w.Grows W)=>eX hInf W (ht.grows h));have HVO:=zh (fun W (h:w.Grows W)=>dZ R _ _ W (IntsAt.growsM HD.out h) (IntsAt.growsM HYY.out h));have HRU:=zh (fun W (h:w.Grows W) (l:List Ins) (sl:List ByteArray) (vi vs yv:Value) (h1:InsAt W vi l) (h2:SlAt W vs sl) (h3:YrAt W yv (viewP R).years)=>il hInf l sl (viewP R) vi vs yv W h1 h2 (dY R) h3 (ht.grows h));have HIO1:=zh (bQ la []);have HIO2:=zh (bQ lb gd);have HML1:=zh (aJ la []);have HML2:=zh (aJ lb gd);have HNS1:=zh (names_size (min la.length 5));have HNS2:=zh (names_size (min lb.length 5));have HNL1:Hid ((namesM (min la.length 5)).length<=5):=zh (by rw [names_len];omega);have HNL2:Hid ((namesM (min lb.length 5)).length<=5):=zh (by rw [names_len];omega);have HSX:Hid (∀s∈(namesM (min lb.length 5)).map ay,s.size<=4):=zh (fF _ zb);have HS42:Hid (∀s∈namesM (min lb.length 5),s.size<=4):=zh (fG _);have HRC:=zh (iD la lb gd (viewP_ok R));have HVC:=zh (iC la lb gd);have HV1:Hid (∃d,verA (madeC la []) (namesM (min la.length 5))=(d,0)):=zh (av la []);have HV2:Hid (∃d,verA (madeC lb gd) (namesM (min lb.length 5))=(d,0)):=zh (av lb gd);unfold CodeP at HC1 HC2;unfold VoP at HVO;have HVK:=zh (viewP_ok R);generalize viewP R=V at *;generalize namesM (min la.length 5)=s1 at *;generalize madeC la []=l1 at *;generalize namesM (min lb.length 5)=s2 at *;generalize madeC lb gd=l2 at *;clear hl hm hg hd hy ht hInf HLL HMM HGG HD HYY h1 h1' h3;obtain⟨n0,hn0⟩:∃n,l1.length=n:=⟨_,rfl⟩;obtain⟨m0,hm0⟩:∃n,s1.length=n:=⟨_,rfl⟩;obtain⟨n2,hn2⟩:∃n,l2.length=n:=⟨_,rfl⟩;obtain⟨m2,hm2⟩:∃n,s2.length=n:=⟨_,rfl⟩;have HN0:=zh hn0;have HM0:=zh hm0;have HN2:=zh hn2;have HM2:=zh hm2;have HN:Hid (n0<=2000/\m0<=5/\n2<=2000/\m2<=5):=zh ⟨by have:=HML1.out;omega,by have:=HNL1.out;omega,by have:=HML2.out;omega,by have:=HNL2.out;omega⟩;rw [hn0]at HC1;rw [hn2]at HC2;unfold LRow at HC1 HC2;rw [hn0,hm0]at HC1;rw [hn2,hm2]at HC2;clear hn0 hm0 hn2 hm2
 go_enter func11,ntmps11
 go_upto_region 4 with (go_at_call 41;first
  |(refine(HC1.out _ growsR).mono ?_;rintro e' w1 ⟨ia,ic,vS,base1,rfl,hgr,hb1,hb2,hrow,hsl,hdj⟩;obtain⟨sa,sc,rfl,-,-⟩:=rowForm3 hsl;have HGR:=zh hgr;have HROW:=zh hrow;have HSL:=zh hsl;clear hgr hb1 hb2 hrow hsl hdj HC1)
  |(refine(HC2.out _ (World.Grows.trans' growsR HGR.out)).mono ?_;rintro e' w2 ⟨ib,jc,vS2,base2,rfl,hgr,hb1,hb2,hrow,hsl,hdj⟩;obtain⟨sb,tc,rfl,-,-⟩:=rowForm3 hsl;have HGR2:=zh hgr;have HROW2:=zh hrow;have HSL2:=zh hsl;clear hgr hb1 hb2 hrow hsl hdj))
 have HG2:Hid (World.Grows (w.alloc (.cells #[.int .i64 R.age,.int .i64 R.year,.int .i64 R.children,.int .i64 R.base,.int .i64 R.den,.slice da R.days.length dc,.slice ya R.years.length yc] 36)) w2):=zh (World.Grows.trans' HGR.out HGR2.out);refine cutW (fun W=>World.Grows (w.alloc (.cells #[.int .i64 R.age,.int .i64 R.year,.int .i64 R.children,.int .i64 R.base,.int .i64 R.den,.slice da R.days.length dc,.slice ya R.years.length yc] 36)) W/\iY w base1 w2.heap.size (w2.heap.size+1) n0 m0 n2 m2 ia sa ib sb ic sc jc tc l1 l2 s1 s2 W) ⟨World.Grows.trans' HG2.out growsR,World.Grows.trans' growsR (World.Grows.trans' HG2.out growsR), ?_,heap_new _ _ _ zf, ?_, ?_, ?_, ?_⟩ ?_
 ·exact(Below.heap_alloc _ _ _ zf).trans (heap_alloc_new _ _)
 ·exact own_grow9 (own_grow9 HROW.out HGR2.out) growsR
 ·exact own_grow9 (own_grow9 HSL.out HGR2.out) growsR
 ·exact InsAt.grows (by rw [<-HN2.out];exact LRow.insAt (base:=base2) (by unfold LRow;rw [HN2.out];exact HROW2.out) (by have:=HML2.out;omega) HIO2.out) growsR
 ·exact SlAt.grows (by rw [<-HM2.out];exact aW (base:=base2) (by rw [HM2.out];exact HSL2.out) (by have:=HNL2.out;omega) HNS2.out) growsR
 intro W3 hW3;obtain⟨hgv,hsw⟩:=hW3;have HGV:=zh hgv;have HSW:=zh hsw;have hA:=hsw.bA;have hB:=hsw.bB;have cA0:=cell_of_row W3 _ 0 _ _ _ hA;have cA1:=cell_of_row W3 _ 1 _ _ _ hA;have hgA:=(Array.getElem?_eq_some_iff.1 hA).1;have HI:=zh (fun W (hg:W3.Grows W)=>keptNe HSW.out.rA (grownOf hg none) (fun _ e=>by cases e));have HS:=zh (fun W (hg:W3.Grows W)=>keptNe HSW.out.rS (grownOf hg none) (fun _ e=>by cases e));generalize w2.heap.size=gA at *;clear hgv hsw hA hB HC2
 go_cut [11]from 42 to 49 (fun v11 wx=>∃(base g:Nat) (vI vS:Value),v11= .pointer (some ⟨g,0,none⟩)/\Hid (Spo W3 base g vI vS vI vS l1 s1 wx))
 case first=>
  refine TS.begin [8] (World.Grows W3) zd zd grows_drew0 (fun hS=>?_);refine TS.wkB 0 hS ?_;refine TS.wkB 1 hS ?_;refine TS.wkB 3 hS ?_;refine TS.wkB 4 hS ?_;refine TS.two (i:=2) (k:=7) zd rfl rfl (fun K1 hK1=>?_) (fun K1 hK1=>?_)
  ·refine step_app_rows rfl _ _ 55 rfl (W3.heap.size) base1 103 i0 _ 4 32 underlying55 hi hz1 hz2 hz3 rfl ze (.slice none 0 0) (.slice ia n0 ic) 0 n0 [] (insV l1) rfl rfl (World.ownsRow_nil _ _ _ _) (HI.out _ growsR) (insV_one l1) zm zo zf ?_;intro vI1 wI hownI hgrI;rw [Nat.zero_add,nil_append]at hownI;obtain⟨a1,k1,rfl,-,-⟩:=rowForm3 hownI;have HgI:=zh (World.Grows.grown growsR hgrI (fun k e=>by simp [Value.ownBlock]at e):World.Grows (W3) wI);have HoI:=zh hownI;clear hownI hgrI;have hwI:W3.Grows wI:=HgI.out;refine TS.go hK1 HgI.out (fun hS=>?_);clear hK1 K1
   (try simp only [nS])
   refine TS.two (i:=5) (k:=7) zd rfl rfl (fun K1 hK1=>?_) (fun K1 hK1=>?_)
   ·refine step_app_rows rfl _ _ 56 rfl (wI.heap.size) base1 9 i1 _ 1 16 underlying56 hi1 hz11 hz21 hz31 rfl ze (.slice none 0 0) (.slice sa m0 sc) 0 m0 [] (slV s1) rfl rfl (World.ownsRow_nil _ _ _ _) (HS.out _ (World.Grows.trans' (hwI) growsR)) (slV_one s1) zm zo zf ?_;intro vS1 wS1 hownS hgrS;rw [Nat.zero_add,nil_append]at hownS;obtain⟨a2,k2,rfl,-,-⟩:=rowForm3 hownS;have HgS:=zh (World.Grows.grown growsR hgrS (fun k e=>by simp [Value.ownBlock]at e):World.Grows (wI) wS1);have HoS:=zh hownS;clear hownS hgrS;refine TS.go hK1 (World.Grows.trans' HgI.out HgS.out) (fun hS=>?_);clear hK1 K1 hwI
    (try simp only [nS])
    refine TS.wkB 6 hS ?_;refine TS.one (i:=7) zd rfl (fun K1 hK1=>?_);have HK1:=zh hK1;clear hK1 hS;dsimp only [getElem_toArray,getElem_cons_succ,getElem_cons_zero]
    go_simp
    refine TS.go HK1.out (World.Grows.trans' (World.Grows.trans' HgI.out HgS.out) growsR) (fun hS=>?_);clear HK1 K1
    (try simp only [nS])
    refine TS.weB 8 ?_
    go_wp2_with fail
    go_meet
    have e1:=HgS.out.below.size;refine⟨_,wS1.heap.size,_,_,rfl,zh (Spo.first (World.Grows.trans' (World.Grows.trans' HgI.out HgS.out) growsR) (B1:=W3.heap.size) (B2:=wI.heap.size) (Nat.le_refl _) HgI.out.below.size HN0.out HM0.out (own_grow9 (own_grow9 HoI.out HgS.out) growsR) (own_grow9 HoS.out growsR) (Nat.le_trans HgI.out.below.size e1) (heap_alloc_new _ _) (fun b e e2=>by have:=(HoI.out.lt b e).2;have:=(HoS.out.lt b e2).1;omega) (fun e=>by have:=(HoI.out.lt _ e).2;omega) (fun e=>by have:=(HoS.out.lt _ e).2;omega))⟩
   ·have HK1:=zh hK1;clear hK1 hS;dsimp only [getElem_toArray,getElem_cons_succ,getElem_cons_zero]
    go_simp
    refine TS.go HK1.out (World.Grows.trans' HgI.out growsR) (fun hS=>?_);clear HK1 K1
    (try simp only [nS])
    refine TS.one (i:=5) zd rfl (fun K1 hK1=>?_);refine step_app_rows rfl _ _ 56 rfl (wI.heap.size+1) base1 9 i1 _ 1 16 underlying56 hi1 hz11 hz21 hz31 rfl ze (.slice none 0 0) (.slice sa m0 sc) 0 m0 [] (slV s1) rfl rfl (World.ownsRow_nil _ _ _ _) (HS.out _ (World.Grows.trans' (hwI) growsR)) (slV_one s1) zm zo zf ?_;intro vS1 wS1 hownS hgrS;rw [Nat.zero_add,nil_append]at hownS;obtain⟨a2,k2,rfl,-,-⟩:=rowForm3 hownS;have HgS:=zh (World.Grows.grown growsR hgrS (fun k e=>by simp [Value.ownBlock]at e):World.Grows (wI.alloc (.cells #[.slice none 0 0,.slice none 0 0] 58)) wS1);have HoS:=zh hownS;clear hownS hgrS;refine TS.go hK1 (World.Grows.trans' (World.Grows.trans' HgI.out growsR) HgS.out) (fun hS=>?_);clear hK1 K1 hwI
    (try simp only [nS])
    refine TS.wkB 6 hS ?_;have hb:=(HgS.out.below.block wI.heap.size zf).trans (heap_alloc_new _ _);have z0:=cell_of_row wS1 _ 0 _ _ _ hb;have z1:=cell_of_row wS1 _ 1 _ _ _ hb;have zf0:=Go.Joins.unfrozen_of_block hb 0;have zf1:=Go.Joins.unfrozen_of_block hb 1;have zl:=(Array.getElem?_eq_some_iff.1 hb).1;have HB:=zh hb;clear hb;refine TS.weB 8 ?_
    go_wp2_with fail
    go_meet
    have hIS:wI.Grows wS1:=World.Grows.trans' growsR HgS.out;have h0:=Spo.first (World.Grows.trans' HgI.out hIS) (B1:=W3.heap.size) (B2:=wI.heap.size+1) (Nat.le_refl _) (Nat.le_trans HgI.out.below.size (Nat.le_succ _)) HN0.out HM0.out (own_grow9 HoI.out hIS) HoS.out HgI.out.below.size HB.out (fun b e e2=>by have:=(HoI.out.lt b e).2;have:=(HoS.out.lt b e2).1;omega) (fun e=>by have:=(HoI.out.lt _ e).2;omega) (fun e=>by have:=(HoS.out.lt _ e).1;omega);exact⟨_,wI.heap.size,_,_,rfl,zh ((h0.setI _).setc 1 _ rfl)⟩
  ·have HK1:=zh hK1;clear hK1 hS;dsimp only [getElem_toArray,getElem_cons_succ,getElem_cons_zero]
   go_simp
   refine TS.go HK1.out growsR (fun hS=>?_);clear HK1 K1
   (try simp only [nS])
   refine TS.one (i:=2) zd rfl (fun K1 hK1=>?_);refine step_app_rows rfl _ _ 55 rfl (W3.heap.size+1) base1 103 i0 _ 4 32 underlying55 hi hz1 hz2 hz3 rfl ze (.slice none 0 0) (.slice ia n0 ic) 0 n0 [] (insV l1) rfl rfl (World.ownsRow_nil _ _ _ _) (HI.out _ growsR) (insV_one l1) zm zo zf ?_;intro vI1 wI hownI hgrI;rw [Nat.zero_add,nil_append]at hownI;obtain⟨a1,k1,rfl,-,-⟩:=rowForm3 hownI;have HgI:=zh (World.Grows.grown growsR hgrI (fun k e=>by simp [Value.ownBlock]at e):World.Grows (W3.alloc (.cells #[.slice none 0 0,.slice none 0 0] 58)) wI);have HoI:=zh hownI;clear hownI hgrI;have hcI:W3.Grows wI:=World.Grows.trans' growsR HgI.out;have hwI:W3.Grows wI:=hcI;refine TS.go hK1 hcI (fun hS=>?_);clear hK1 K1
   (try simp only [nS])
   refine TS.one (i:=5) zd rfl (fun K1 hK1=>?_);refine step_app_rows rfl _ _ 56 rfl (wI.heap.size) base1 9 i1 _ 1 16 underlying56 hi1 hz11 hz21 hz31 rfl ze (.slice none 0 0) (.slice sa m0 sc) 0 m0 [] (slV s1) rfl rfl (World.ownsRow_nil _ _ _ _) (HS.out _ (World.Grows.trans' (hwI) growsR)) (slV_one s1) zm zo zf ?_;intro vS1 wS1 hownS hgrS;rw [Nat.zero_add,nil_append]at hownS;obtain⟨a2,k2,rfl,-,-⟩:=rowForm3 hownS;have HgS:=zh (World.Grows.grown growsR hgrS (fun k e=>by simp [Value.ownBlock]at e):World.Grows (wI) wS1);have HoS:=zh hownS;clear hownS hgrS;refine TS.go hK1 (World.Grows.trans' hcI HgS.out) (fun hS=>?_);clear hK1 K1 hwI
   (try simp only [nS])
   refine TS.wkB 6 hS ?_;have hb:=((World.Grows.trans' HgI.out HgS.out).below.block W3.heap.size zf).trans (heap_new _ _ _ zf);have z0:=cell_of_row wS1 _ 0 _ _ _ hb;have z1:=cell_of_row wS1 _ 1 _ _ _ hb;have zf0:=Go.Joins.unfrozen_of_block hb 0;have zf1:=Go.Joins.unfrozen_of_block hb 1;have zl:=(Array.getElem?_eq_some_iff.1 hb).1;have HB:=zh hb;clear hb;refine TS.weB 8 ?_
   go_wp2_with fail
   go_meet
   have e1:W3.heap.size+1<=wI.heap.size:=by have:=HgI.out.below.size;simpa using this
   have h0:=Spo.first (World.Grows.trans' hcI HgS.out) (B1:=W3.heap.size+1) (B2:=wI.heap.size) zf hcI.below.size HN0.out HM0.out (own_grow9 HoI.out HgS.out) HoS.out (g:=W3.heap.size) zf HB.out (fun b e e2=>by have:=(HoI.out.lt b e).2;have:=(HoS.out.lt b e2).1;omega) (fun e=>by have:=(HoI.out.lt _ e).1;omega) (fun e=>by have:=(HoS.out.lt _ e).1;omega);exact⟨_,W3.heap.size,_,_,rfl,zh ((h0.setI _).setc 1 _ rfl)⟩
 case rest=>
 obtain⟨base,g,vI,vS,rfl,H0⟩:=hcut;clear HI HS hi1 hz11 hz21 hz31 cA0 cA1 hgA
 go_upto_block 0 with fail
 go_cut []from 12 (fun wx=>∃vI:Value,Hid (Spo W3 base g vI vS vI vS (l1++l2.map (shI m0 n0)) s1 wx))
 case first=>
  go_wp2_with fail
  go_loopw [12] (fun v12 wr=>∃(i:Nat) (vI:Value),i<=n2/\v12= .int .i64 i/\Hid (Spo W3 base g vI vS vI vS (l1++(l2.take i).map (shI m0 n0)) s1 wr)) (fun v12 _=>n2-(intOf v12).toNat)
  case atStart=>exact⟨0,vI,by omega,rfl,zh zU⟩
  clear H0;obtain⟨i,vI,hi9,rfl,H0⟩:=hrel;have z0:=H0.out.c0;have zl:=H0.out.gW;have hsw:=HSW.out.grows H0.out.gr;have hA:=hsw.bA;have hB:=hsw.bB;have a0:=cell_of_row wr _ 0 _ _ _ hA;have a1:=cell_of_row wr _ 1 _ _ _ hA;have y0:=cell_of_row wr _ 0 _ _ _ hB;have y1:=cell_of_row wr _ 1 _ _ _ hB;have hAl:=(Array.getElem?_eq_some_iff.1 hA).1;have hBl:=(Array.getElem?_eq_some_iff.1 hB).1;by_cases hlt:i<n2
  case neg=>
   obtain rfl:i=n2:=by omega
   clear hsw hA hB hlt hi9
   go_wp2_with fail
   go_meet
   exact⟨vI,zh (by have:=H0.out;rw [take_of_length_le (by rw [HN2.out];exact Nat.le_refl _)]at this;exact this)⟩
  have d1:(i:Int)<(n2:Int):=by omega
  have d0:(n2:Int)<=2000:=by have:=HN.out;omega
  obtain⟨-,ib9,jc9,hvb,hix⟩:=hsw.iB;rcases hix with h0|⟨b,off,hab,hb,hc⟩
  ·have:=HN2.out;omega
  have hvb':=hvb;injection hvb' with e1 e2 e3;subst e1;subst hab;obtain⟨-,k0,k1,k2,k3⟩:=hc i zO;have HLT:=zh hlt;have HXT:Hid (∀x,l2.getD i default=x->(l1++(l2.take i).map (shI m0 n0))++[shI m0 n0 x]=l1++(l2.take (i+1)).map (shI m0 n0)):=zh (fun x hx=>by rw [<-hx];exact bL _ _ _ _ zO _)
  have HWF:Hid (wfF m2 n2 i (l2.getD i default)=true):=zh (by
   obtain⟨d,hd⟩:=HV2.out;have:=(form_all (ver_form hd).1).2.1 i zO
   rw [HN2.out,HM2.out]at this;exact this)
  obtain⟨x,hx⟩:∃x,l2.getD i default=x:=⟨_,rfl⟩;rw [hx]at k0 k1 k2 k3 HWF;have HX:=zh (HXT.out x hx);have HLC:Hid ((l1++(l2.take i).map (shI m0 n0)).length=n0+i):=zh (by rw [length_append,length_map,length_take,HN0.out,HN2.out];omega);clear hx hc hvb e2 e3 hlt hA hB hsw HXT;obtain⟨L,hL⟩:∃L,l1++(l2.take i).map (shI m0 n0)=L:=⟨_,rfl⟩;rw [hL]at H0 HX HLC;clear hL;have HROWI:Hid (wr.ownsRow base 103 4 vI (n0+i) (insV L)):=zh (by have:=H0.out.row;unfold LRow at this;rw [HLC.out]at this;exact this)
  go_upto_block 2 with fail
  have hor:(x.op=3\/x.op=4)\/(x.op=21\/x.op=22)\/(x.op≠3/\x.op≠4/\x.op≠21/\x.op≠22):=by omega
  rcases hor with (ho|ho)|(ho|ho)|ho
  focus
   have HSH:Hid (shI m0 n0 x=⟨x.op,x.a+m0,x.n,x.d⟩):=zh (by unfold shI;rw [if_pos zb]);have hwa:IntKind.i64.wrap (x.a+(m0:Int))=x.a+(m0:Int):=IntWalk.i64_in _ zT;have q3:(x.op==3)=true:=by simpa using ho
   have q4:(x.op==4)=false:=by simp;omega
   have q21:(x.op==21)=false:=by simp;omega
   have q22:(x.op==22)=false:=by simp;omega
   clear ho
   go_wp2_with ((at_builtin;refine wpList_append_lies _ rfl _ _ 55 rfl base 103 i0 _ 4 32 underlying55 hi hz1 hz2 hz3 rfl ze vI (n0+i) (insV L) rfl (own_grow9 HROWI.out growsR) ⟨_,0,none⟩ 1 1 [.int .i64 x.op,.int .i64 (x.a+m0),.int .i64 x.n,.int .i64 x.d] rfl rfl (news_cells _ [.int .i64 x.op,.int .i64 (x.a+m0),.int .i64 x.n,.int .i64 x.d] _ _ zf) zj ze zm zo zn _ rfl ?_;intro g4 c4 w4 hown hgrow hgg hgl;have h4:=H0.out.ins9 ⟨x.op,x.a+m0,x.n,x.d⟩ (n:=n0+i+1) zz growsR hgrow hgg zg hown;have H4:=zh h4;have f4:=h4.f 0;have l4:=h4.gW;have q4:=h4.c0;clear hown hgrow hgg hgl h4))
  rotate_left
  focus
   have HSH:Hid (shI m0 n0 x=⟨x.op,x.a+m0,x.n,x.d⟩):=zh (by unfold shI;rw [if_pos zb]);have hwa:IntKind.i64.wrap (x.a+(m0:Int))=x.a+(m0:Int):=IntWalk.i64_in _ zT;have q3:(x.op==3)=false:=by simp;omega
   have q4:(x.op==4)=true:=by simpa using ho
   have q21:(x.op==21)=false:=by simp;omega
   have q22:(x.op==22)=false:=by simp;omega
   clear ho
   go_wp2_with ((at_builtin;refine wpList_append_lies _ rfl _ _ 55 rfl base 103 i0 _ 4 32 underlying55 hi hz1 hz2 hz3 rfl ze vI (n0+i) (insV L) rfl (own_grow9 HROWI.out growsR) ⟨_,0,none⟩ 1 1 [.int .i64 x.op,.int .i64 (x.a+m0),.int .i64 x.n,.int .i64 x.d] rfl rfl (news_cells _ [.int .i64 x.op,.int .i64 (x.a+m0),.int .i64 x.n,.int .i64 x.d] _ _ zf) zj ze zm zo zn _ rfl ?_;intro g4 c4 w4 hown hgrow hgg hgl;have h4:=H0.out.ins9 ⟨x.op,x.a+m0,x.n,x.d⟩ (n:=n0+i+1) zz growsR hgrow hgg zg hown;have H4:=zh h4;have f4:=h4.f 0;have l4:=h4.gW;have q4:=h4.c0;clear hown hgrow hgg hgl h4))
  rotate_left
  focus
   have HSH:Hid (shI m0 n0 x=⟨x.op,x.a+n0,x.n,x.d⟩):=zh zX;have hwa:IntKind.i64.wrap (x.a+(n0:Int))=x.a+(n0:Int):=IntWalk.i64_in _ zS;have q3:(x.op==3)=false:=by simp;omega
   have q4:(x.op==4)=false:=by simp;omega
   have q21:(x.op==21)=true:=by simpa using ho
   have q22:(x.op==22)=false:=by simp;omega
   clear ho
   go_wp2_with ((at_builtin;refine wpList_append_lies _ rfl _ _ 55 rfl base 103 i0 _ 4 32 underlying55 hi hz1 hz2 hz3 rfl ze vI (n0+i) (insV L) rfl (own_grow9 HROWI.out growsR) ⟨_,0,none⟩ 1 1 [.int .i64 x.op,.int .i64 (x.a+n0),.int .i64 x.n,.int .i64 x.d] rfl rfl (news_cells _ [.int .i64 x.op,.int .i64 (x.a+n0),.int .i64 x.n,.int .i64 x.d] _ _ zf) zj ze zm zo zn _ rfl ?_;intro g4 c4 w4 hown hgrow hgg hgl;have h4:=H0.out.ins9 ⟨x.op,x.a+n0,x.n,x.d⟩ (n:=n0+i+1) zz growsR hgrow hgg zg hown;have H4:=zh h4;have f4:=h4.f 0;have l4:=h4.gW;have q4:=h4.c0;clear hown hgrow hgg hgl h4))
  rotate_left
  focus
   have HSH:Hid (shI m0 n0 x=⟨x.op,x.a+n0,x.n,x.d⟩):=zh zX;have hwa:IntKind.i64.wrap (x.a+(n0:Int))=x.a+(n0:Int):=IntWalk.i64_in _ zS;have q3:(x.op==3)=false:=by simp;omega
   have q4:(x.op==4)=false:=by simp;omega
   have q21:(x.op==21)=false:=by simp;omega
   have q22:(x.op==22)=true:=by simpa using ho
   clear ho
   go_wp2_with ((at_builtin;refine wpList_append_lies _ rfl _ _ 55 rfl base 103 i0 _ 4 32 underlying55 hi hz1 hz2 hz3 rfl ze vI (n0+i) (insV L) rfl (own_grow9 HROWI.out growsR) ⟨_,0,none⟩ 1 1 [.int .i64 x.op,.int .i64 (x.a+n0),.int .i64 x.n,.int .i64 x.d] rfl rfl (news_cells _ [.int .i64 x.op,.int .i64 (x.a+n0),.int .i64 x.n,.int .i64 x.d] _ _ zf) zj ze zm zo zn _ rfl ?_;intro g4 c4 w4 hown hgrow hgg hgl;have h4:=H0.out.ins9 ⟨x.op,x.a+n0,x.n,x.d⟩ (n:=n0+i+1) zz growsR hgrow hgg zg hown;have H4:=zh h4;have f4:=h4.f 0;have l4:=h4.gW;have q4:=h4.c0;clear hown hgrow hgg hgl h4))
  rotate_left
  focus
   have HSH:Hid (shI m0 n0 x=⟨x.op,x.a,x.n,x.d⟩):=zh (by unfold shI;rw [if_neg zb,if_neg zb]);have q3:(x.op==3)=false:=by simp;omega
   have q4:(x.op==4)=false:=by simp;omega
   have q21:(x.op==21)=false:=by simp;omega
   have q22:(x.op==22)=false:=by simp;omega
   clear ho
   go_wp2_with ((at_builtin;refine wpList_append_lies _ rfl _ _ 55 rfl base 103 i0 _ 4 32 underlying55 hi hz1 hz2 hz3 rfl ze vI (n0+i) (insV L) rfl (own_grow9 HROWI.out growsR) ⟨_,0,none⟩ 1 1 [.int .i64 x.op,.int .i64 (x.a),.int .i64 x.n,.int .i64 x.d] rfl rfl (news_cells _ [.int .i64 x.op,.int .i64 (x.a),.int .i64 x.n,.int .i64 x.d] _ _ zf) zj ze zm zo zn _ rfl ?_;intro g4 c4 w4 hown hgrow hgg hgl;have h4:=H0.out.ins9 ⟨x.op,x.a,x.n,x.d⟩ (n:=n0+i+1) zz growsR hgrow hgg zg hown;have H4:=zh h4;have f4:=h4.f 0;have l4:=h4.gW;have q4:=h4.c0;clear hown hgrow hgg hgl h4))
  rotate_left
  all_goals
   go_roundw
   case rel=>exact⟨i+1,_,HLT.out,by go_num,zh (by have:=H4.out.setI (.slice (some ⟨g4,0,none⟩) (n0+i+1) c4);rw [<-HSH.out,HX.out]at this;exact this)⟩
   case measure=>simp [intOf];have:=HLT.out;omega
 case rest=>
 obtain⟨vI,H0⟩:=hcut
 go_upto_block 3 with fail
 go_cut []from 12 (fun wx=>∃vS:Value,Hid (Spo W3 base g vI vS vI vS (l1++l2.map (shI m0 n0)) (s1++s2.map ay) wx))
 case first=>
  go_wp2_with fail
  go_loopw [14] (fun v14 wr=>∃(i:Nat) (vS:Value),i<=m2/\v14= .int .i64 i/\Hid (Spo W3 base g vI vS vI vS (l1++l2.map (shI m0 n0)) (s1++(s2.take i).map ay) wr)) (fun v14 _=>m2-(intOf v14).toNat)
  case atStart=>exact⟨0,vS,by omega,rfl,zh zU⟩
  clear H0;obtain⟨i,vS,hi9,rfl,H0⟩:=hrel;have z1:=H0.out.c1;have zl:=H0.out.gW;have hsw:=HSW.out.grows H0.out.gr;have hB:=hsw.bB;have y1:=cell_of_row wr _ 1 _ _ _ hB;have hBl:=(Array.getElem?_eq_some_iff.1 hB).1;by_cases hlt:i<m2
  case neg=>
   obtain rfl:i=m2:=by omega
   clear hsw hB hlt hi9
   go_wp2_with fail
   go_meet
   exact⟨vS,zh (by have:=H0.out;rw [take_of_length_le (by rw [HM2.out];exact Nat.le_refl _)]at this;exact this)⟩
  have d1:(i:Int)<(m2:Int):=by omega
  have d0:(m2:Int)<=5:=by have:=HN.out;omega
  obtain⟨-,-,sb9,tc9,-,hvb,hix⟩:=hsw.tB;rcases hix with h0|⟨b,off,hab,hb,hc⟩
  ·have:=HM2.out;omega
  injection hvb with e1 e2 e3;subst e1;subst hab;have k0:=hc i zN;have HLT:=zh hlt;have HX:Hid ((s1++(s2.take i).map ay)++[ay (s2.getD i ByteArray.empty)]=s1++(s2.take (i+1)).map ay):=zh (bL _ _ _ _ zN _);have hsz:(s2.getD i ByteArray.empty).size<=4:=HS42.out _ (by rw [getD_eq_getElem?_getD,getElem?_eq_getElem zN];exact getElem_mem _);have HLC:Hid ((s1++(s2.take i).map ay).length=m0+i):=zh (by rw [length_append,length_map,length_take,HM0.out,HM2.out];omega);generalize s2.getD i ByteArray.empty=nm at *;have hcs:(9223372036854775807<nm.size+1)=False:=eq_false zb;clear hc e2 e3 hlt hB hsw;obtain⟨L,hL⟩:∃L,s1++(s2.take i).map ay=L:=⟨_,rfl⟩;rw [hL]at H0 HX HLC;clear hL;have HROWS:Hid (wr.ownsRow base 9 1 vS (m0+i) (slV L)):=zh (by have:=H0.out.slr;rw [HLC.out]at this;exact this);obtain⟨i1,hi1,hz11,hz21,hz31⟩:=info_parts infoStS
  go_upto_region 20 with fail
  refine TS.begin [9,10,11] (World.Grows wr) zd zd grows_drew0 (fun hS=>?_);refine TS.wkB 0 hS ?_;refine TS.wkB 1 hS ?_;refine TS.wkB 2 hS ?_;refine TS.wkB 3 hS ?_;refine TS.wkB 4 hS ?_;refine TS.wkB 5 hS ?_;refine TS.wkB 6 hS ?_;refine TS.wkB 7 hS ?_;refine TS.one (i:=8) zd rfl (fun K1 hK1=>?_);have HK1:=zh hK1;clear hK1 hS;dsimp only [getElem_toArray,getElem_cons_succ,getElem_cons_zero]
  go_simp
  refine TS.go HK1.out growsR (fun hS=>?_);clear HK1 K1
  (try simp only [nS])
  refine TS.one (i:=9) zd rfl (fun K1 hK1=>?_);refine step_append_lies _ rfl _ _ 56 rfl base 9 i1 _ 1 16 underlying56 hi1 hz11 hz21 hz31 rfl ze vS (m0+i) (slV L) rfl (own_grow9 HROWS.out growsR) ⟨_,0,none⟩ 1 1 [.string (ay nm)] rfl rfl (news_cells _ [.string (ay nm)] _ _ zf) zB ze zm zo zn _ rfl ?_;intro g4 c4 w4 hown hgrow hgg hgl;have h4:=H0.out.nm9 (ay nm) (n:=m0+i+1) zz growsR hgrow hgg zg hown;have H4:=zh h4;have f4:=h4.f 1;have l4:=h4.gW;have q4:=h4.c1;refine hK1 _ _ (fun h=>absurd ze h) ?_;clear hK1 K1 hown hgrow hgg hgl h4 hS
  (try simp only [nS])
  refine TS.wtB 10 ?_;refine TS.weB 11 ?_
  go_wp2_with fail
  go_roundw
  case rel=>exact⟨i+1,_,HLT.out,by go_num,zh (by have:=H4.out.setS9 (.slice (some ⟨g4,0,none⟩) (m0+i+1) c4);rw [HX.out]at this;exact this)⟩
  case measure=>simp [intOf];have:=HLT.out;omega
 case rest=>
 obtain⟨vS,H0⟩:=hcut;obtain⟨aS,cS,hvS,-,-⟩:=rowForm3 H0.out.slr;subst hvS;obtain⟨d1,hv1⟩:=HV1.out;obtain⟨d2,hv2⟩:=HV2.out;obtain⟨d3,hv3⟩:=HVC.out;have hsc:(s1++s2.map ay).length<=10:=by rw [length_append,length_map,HM0.out,HM2.out];have:=HN.out;omega
 have hgr:w.Grows wc:=World.Grows.trans' HSW.out.gr H0.out.gr;have hsw:=HSW.out.grows H0.out.gr;have hvx:=((World.Grows.trans' HGV.out H0.out.gr).below.block w.heap.size zf).trans (heap_alloc_new _ _);have hiA:InsAt wc (.slice ia n0 ic) l1:=by rw [<-HN0.out];exact LRow.insAt (base:=base1) (by unfold LRow;rw [HN0.out];exact hsw.rA) (by have:=HML1.out;omega) HIO1.out
 have htA:SlAt wc (.slice sa m0 sc) s1:=by rw [<-HM0.out];exact aW (base:=base1) (by rw [HM0.out];exact hsw.rS) (by have:=HNL1.out;omega) HNS1.out
 have hSP:l1++l2.map (shI m0 n0)=aG s1.length l1 l2:=by unfold aG;rw [HM0.out,HN0.out]
 have hiC:InsAt wc vI (l1++l2.map (shI m0 n0)):=LRow.insAt H0.out.row (by rw [length_append,length_map];have:=HML1.out;have:=HML2.out;omega) (je HIO1.out HIO2.out _ _)
 have htC:SlAt wc (.slice aS (s1++s2.map ay).length cS) (s1++s2.map ay):=aW H0.out.slr zb (fun s hs=>by
  rcases mem_append.1 hs with h|h
  ·exact HNS1.out s h
  ·have:=HSX.out s h;unfold maxLen;omega)
 have m1:=bD hv1 HVK.out;have m2':=bD hv2 HVK.out;have m3:=bD hv3 HVK.out;have hsafe:=ver_safe hv2 HVK.out (n:=12) (iA hv2) l2.length;have hbl:∃ty,wc.heap[g]? =some (.cells #[vI,.slice aS (s1++s2.map ay).length cS] ty (0,0)):=H0.out.blk;rw [hSP]at hiC
 go_step
 apply iE R V (runC l1 s1 V) (runC l2 s2 V) (runC (aG s1.length l1 l2) (s1++s2.map ay) V) w wc w.heap.size gA (gA+1) g n0 m0 n2 m2 (s1++s2.map ay).length cS ic sc jc tc ia sa ib sb aS vI _ _ (zh hgr) (zh hvx) (zh hsw.bA) (zh hsw.bB) (zh hbl) (zh hsc) (zh (fun W h=>HVO.out W (World.Grows.trans' hgr h))) (zh (fun W h=>HW.out W (World.Grows.trans' hgr h)))
  (zh (fun W h yv hy=>by have:=HRU.out W (World.Grows.trans' hgr h) l1 s1 _ _ yv (hiA.grows h) (htA.grows h) hy;rw [m1]at this;exact this))
  (zh (fun W h yv hy=>by have:=HRU.out W (World.Grows.trans' hgr h) l2 s2 _ _ yv (hsw.iB.grows h) (hsw.tB.grows h) hy;rw [m2']at this;exact this))
  (zh (fun W h yv hy=>by have:=HRU.out W (World.Grows.trans' hgr h) _ _ _ _ yv (hiC.grows h) (htC.grows h) hy;rw [m3]at this;exact this))
  (zh (gH HS42.out hsafe)) (zh (HRC.out))
end Go.Proofs.YtblkcgceefjmjaaGreatDoor
