import Derived.Test.YteildlpchhlchaaGreatDoorRRunA
import Derived.Test.YteildlpchhlchaaGreatDoorRLawBo
set_option linter.all false
set_option maxHeartbeats 16000000
set_option maxRecDepth 1000000
namespace Go.Proofs.YteildlpchhlchaaGreatDoor
open Go.Proofs.Tryz Tryz List
open Go.RowKit
theorem R6:nA l9 [qU] v9w=([(qU,.num 2 5 1)],0):=by kernel_rfl
theorem Qg(hInf:Hid gU)(bI bS:Nat)(w:World)(hc:qx w bI bS)(ht:Tab w):Calls prog 28 #[.agg #[.slice (some ⟨bI,0,none⟩) 4 4,.slice (some ⟨bS,0,none⟩) 1 1],vw9] w (PM w):=by
 have h:=Dj hInf l9 [qU] v9w _ _ (.slice none 0 0) w hc.insAt hc.slAt ⟨⟨by decide,by decide⟩,⟨by decide,by decide⟩⟩ ⟨by decide,none,0,rfl,.inl rfl⟩ ht;rw [R6]at h;exact h
theorem Ph(hInf:Hid gU)(w:World)(ht:Tab w):Calls prog 29 #[] w fun e w'=>e= .returned (.bool true)/\w.Grows w':=by
 have HT:=yq ht;clear ht
 go_enter func29,ntmps29
 have HCC:Hid (∀W,World.Grows ((w.alloc (.cells #[.string qU] 9)).alloc (.cells #[.int .i64 1,.int .i64 2,.int .i64 2,.int .i64 1,.int .i64 1,.int .i64 2,.int .i64 3,.int .i64 1,.int .i64 9,.int .i64 0,.int .i64 0,.int .i64 0,.int .i64 4,.int .i64 0,.int .i64 0,.int .i64 0] 118)) W->qx W (w.heap.size+1) w.heap.size):=yq (fun W hg=>qx.of ((hg.below.block _ ze).trans (eZ _ _ _ ze)) ((hg.below.block _ zg).trans ((Below.heap_alloc _ _ _ ze).trans (heap_alloc_new _ _))));have HV:=yq (fun W hc ht=>MV hInf (w.heap.size+1) w.heap.size W hc ht);have HR:=yq (fun W hc ht=>Qg hInf (w.heap.size+1) w.heap.size W hc ht);unfold PM vw9 at HR;unfold qU at HCC;clear hInf
 go_upto_region 4 with (first
  |(go_at_call 66;refine gvq (HV.out _ (HCC.out _ af) (HT.out.grows af)) ?_;intro bs d)
  |(go_at_call 28;refine(HR.out _ (HCC.out _ af) (HT.out.grows af)).mono ?_;rintro e' w' ⟨sv,rfl,⟨bs2,d2,rfl⟩,hown⟩;obtain⟨g,cap,rfl,-,-⟩:=hown.form zf;have HOW:=yq hown;clear hown))
 refine jD (fun W=>w.Grows W/\∃b,W.ownsRow b 70 5 (.slice (some ⟨g,0,none⟩) 1 cap) 1 [.string qU,.int .i64 2,.bool false,.int .i64 5,.int .i64 1]) ⟨af,_,by first|exact HOW.out|(have h:=HOW.out;rw [World.grow_grow]at h;exact h)|simpa only [World.grow_grow]using HOW.out⟩ ?_;intro W hW;obtain⟨hg,b,ho⟩:=hW;have c0:W.cell? ⟨g,0,none⟩=some (.string ⟨#[98,121]⟩):=ho.cellAt 0 zf;have c3:W.cell? ⟨g,3,none⟩=some (.int .i64 5):=ho.cellAt 3 zf;have c4:W.cell? ⟨g,4,none⟩=some (.int .i64 1):=ho.cellAt 4 zf;have hgl:=World.block_lt_of_cell? _ _ c0;have HG:=yq hg;clear hg ho HOW HV HR HCC
 go_wp2_with fail
 go_returns
 exact⟨rfl,HG.out.trans' af⟩
def JD(n NS m:Nat)(W0:World)(T:List (Option (List Int × List Int)))(x:Ins)(i:Nat)(e:Ending)(w':World):Prop:=
 ∃b,e= .returned (.bool b)/\Below NS W0 w'/\((b=false/\nC T x i=none)\/(b=true/\∃T' Rs' Rl',nC T x i=some T'/\mf n NS m W0 T' Rs' Rl' w'))
def Di(n NS m:Nat)(W0:World)(T:List (Option (List Int × List Int)))(t:List Int × List Int)(x:Ins)(v8 v9 v11:Value)(w:World):Prop:=
 ∃(zs ls:List Int) (p:Int) (T1:List (Option (List Int × List Int))) (Rs1 Rl1:Nat->Value) (B:Nat),v11= .int .i64 p/\0<=p/\x.op≠21/\w.ownsRow B 3 1 v8 zs.length (zs.map (Value.int .i64))/\w.ownsRow B 3 1 v9 ls.length (ls.map (Value.int .i64))/\B<=w.heap.size/\NS<B/\
  gJ x t=some (if p=0 then zs else zs++[p],ls)/\((x.op≠22/\T1=T)\/(x.op=22/\p=0/\gH T x.a.toNat (zs,ls)=some T1))/\mf n NS m W0 T1 Rs1 Rl1 w/\(∀b,v8.ownBlock=some b->AR T1 Rl1 b)/\(∀b,v9.ownBlock=some b->AR T1 Rl1 b)/\(∀b,v8.ownBlock=some b->v9.ownBlock≠some b)/\
  zs.length<=24/\ls.length=m/\(∀z∈zs,1<=z)/\(∀z∈ls,0<=z)/\(∀b,v8.ownBlock=some b->B<=b)/\(∀b,v9.ownBlock=some b->B<=b)/\(p≠0->∀b j u,v8.ownBlock=some b->T1.getD j none=some u->(Rs1 j).ownBlock≠some b/\(Rl1 j).ownBlock≠some b)
theorem Q0{x:Ins}{s:List Int × List Int}(h:x.op=1):gJ x s=some (s.1++[x.a],s.2):=by unfold gJ;rw [if_pos h]
theorem QZ{x:Ins}{s:List Int × List Int}(h:x.op=2):gJ x s=some (s.1++[jC.getD x.a.toNat 0],s.2):=by unfold gJ;rw [if_neg zb,if_pos h]
theorem QX{x:Ins}{s:List Int × List Int}(h:x.op=5):gJ x s=some (s.1++[4],s.2):=by unfold gJ;rw [if_neg zb,if_neg zb,if_pos h]
theorem Pn{x:Ins}{s:List Int × List Int}(h:x.op=23\/x.op=24):gJ x s=some (s.1++[1],s.2):=by unfold gJ;rw [if_neg zb,if_neg zb,if_neg zb,if_pos h]
theorem QY{x:Ins}{s:List Int × List Int}(h:x.op=3):gJ x s=if s.2.getD x.a.toNat 0=0 then none else some (s.1++[s.2.getD x.a.toNat 0],s.2):=by unfold gJ;rw [if_neg zb,if_neg zb,if_neg zb,if_neg zb,if_pos h]
theorem Mq{x:Ins}{s:List Int × List Int}(h:x.op=4):gJ x s=if s.1= []then none else some (s.1.dropLast,s.2.set x.a.toNat (s.1.getLastD 0)):=by unfold gJ;rw [if_neg zb,if_neg zb,if_neg zb,if_neg zb,if_neg zb,if_pos h]
theorem Gf{x:Ins}{s:List Int × List Int}(h:x.op=22):gJ x s=if s.1= []\/s.1.getLastD 0≠1 then none else some (s.1.dropLast,s.2):=by unfold gJ;rw [if_neg zb,if_neg zb,if_neg zb,if_neg zb,if_neg zb,if_neg zb,if_pos h]
theorem Po{x:Ins}{s:List Int × List Int}(h:x.op=21):gJ x s=some s:=by unfold gJ;rw [if_neg zb,if_neg zb,if_neg zb,if_neg zb,if_neg zb,if_neg zb,if_neg zb,if_pos h]
theorem QW{x:Ins}{s:List Int × List Int}(h:x.op≠1/\x.op≠2/\x.op≠3/\x.op≠4/\x.op≠5/\x.op≠21/\x.op≠22/\x.op≠23/\x.op≠24) :
 gJ x s=if s.1.length<aB (opF x.op)then none else if ag (opF x.op) (s.1.drop (s.1.length-aB (opF x.op)))=0 then none
  else some (s.1.take (s.1.length-aB (opF x.op))++[ag (opF x.op) (s.1.drop (s.1.length-aB (opF x.op)))],s.2):=by
 unfold gJ;rw [if_neg zb,if_neg zb,if_neg zb,if_neg zb,if_neg zb,if_neg zb,if_neg zb,if_neg zb]
theorem Nn{T:List (Option (List Int × List Int))}{t:List Int × List Int}{x:Ins}{i:Nat}(hT:T.getD i none=some t)(h:gJ x t=none):nC T x i=none:=by unfold nC;rw [hT];simp only [h]
theorem Np{T:List (Option (List Int × List Int))}{t:List Int × List Int}{x:Ins}{i:Nat}(hT:T.getD i none=some t)(h:x.op=21):nC T x i=gH T x.a.toNat t:=by unfold nC;rw [hT];simp only [Po h,if_pos h]
theorem GI{T:List (Option (List Int × List Int))}{t s:List Int × List Int}{x:Ins}{i:Nat}(hT:T.getD i none=some t)(ha:gJ x t=some s)(h:x.op=22)(hp:gH T x.a.toNat s=none):nC T x i=none:=by unfold nC;rw [hT];simp only [ha,if_neg (show ¬x.op=21 by omega),if_pos h,hp]
theorem Br{T T1:List (Option (List Int × List Int))}{t s:List Int × List Int}{x:Ins}{i:Nat}(hT:T.getD i none=some t)(ha:gJ x t=some s)(h21:x.op≠21)(h:(x.op≠22/\T1=T)\/(x.op=22/\gH T x.a.toNat s=some T1)):nC T x i=if 24<s.1.length then none else gH T1 (i+1) s:=by
 unfold nC;rw [hT];rcases h with ⟨h,rfl⟩|⟨h,hp⟩
 ·simp only [ha,if_neg h21,if_neg h]
 ·simp only [ha,if_neg h21,if_pos h,hp]
theorem mf.mods{n NS m:Nat}{W0 w w':World}{T:List (Option (List Int × List Int))}{Rs Rl:Nat->Value}{v:Value}(h:mf n NS m W0 T Rs Rl w)(hm:aV (fun b=>v.ownBlock=some b) w w')(hNS:∀b,v.ownBlock=some b->NS<b)(hs:∀b j u,v.ownBlock=some b->T.getD j none=some u->(Rs j).ownBlock≠some b/\(Rl j).ownBlock≠some b):mf n NS m W0 T Rs Rl w':=by
 have hs0:=h.sz;have hz:=hm.size;have e1:w'.heap[NS]? =w.heap[NS]?:=hm.block NS h.sz (fun e=>by have:=hNS NS e;omega);have c:∀o,w'.cell? ⟨NS,o,none⟩=w.cell? ⟨NS,o,none⟩:=fun o=>World.cell?_of_block (a:=⟨NS,o,none⟩) e1;refine⟨by omega,h.lo.trans ⟨hm.os,hm.tape,hm.output,hm.size,fun b hb=>hm.block b zb (fun e=>by have:=hNS b e;omega)⟩,h.len,fun j hj=>?_,fun o=>(World.frozen?_of_block (a:=⟨NS,o,none⟩) e1).trans (h.sf o),fun j t ht=>?_,h.dl,h.ds⟩
 ·exact RH
 ·obtain⟨a,b,r⟩:=h.row j t ht;exact⟨hm.row a fun g hg e=>(hs g j t e ht).1 hg,hm.row b fun g hg e=>(hs g j t e ht).2 hg,r⟩
theorem vN{w w':World}{B size n:Nat}{e:TypeId}{v:Value}{xs:List Value}(h:w.ownsRow B e size v n xs)(he:∀b,v.ownBlock=some b->w'.heap[b]? =w.heap[b]?):w'.ownsRow B e size v n xs:=by
 refine⟨h.1, ?_⟩;rcases h.2 with hh|⟨g,cap,cur,rfl,hb,hgg,rest⟩
 ·exact .inl hh
 ·exact .inr ⟨g,cap,cur,rfl,hb,by rw [he g rfl];exact hgg,rest⟩
theorem CZ{op:Int}(h:4<=op/\op<=20):aY op=(aB op:Int):=by
 unfold aY aB
 split
 ·omega
 split
 ·rw [if_pos zb];rfl
 split
 ·rw [if_neg zb];rfl
 ·omega
theorem Km(op:Int)(d:List Int)(g off cap:Nat)(w:World)(h4:4<=op)(h21:op<=20)(hl:(d.length:Int)=aY op)(hx:∀x∈d,1<=x)(hc:∀k,k<d.length->w.cell? ⟨g,off+k,none⟩=some (.int .i64 (d.getD k 0))) :
 Calls prog 90 #[.int .i64 op,.slice (some ⟨g,off,none⟩) d.length cap] w (fe (ag op d) w):=by
 rcases(show op=4\/op=5\/op=6\/op=7\/op=8\/op=9\/op=10\/op=11\/op=12\/op=13\/op=14\/op=15\/op=16\/op=17\/op=18\/op=19\/op=20 by omega)with rfl|rfl|rfl|rfl|rfl|rfl|rfl|rfl|rfl|rfl|rfl|rfl|rfl|rfl|rfl|rfl|rfl
 ·obtain⟨x,rfl⟩:=Ak (d:=d) zk;exact Ku x g off cap w (hc 0 ze) (hx _ ze)
 ·obtain⟨x,rfl⟩:=Ak (d:=d) zk;exact Kt x g off cap w (hc 0 ze) (hx _ ze)
 ·obtain⟨x,rfl⟩:=Ak (d:=d) zk;exact Kr x g off cap w (hc 0 ze) (hx _ ze)
 ·obtain⟨x,y,rfl⟩:=eG (d:=d) zk;exact Kq x y g off cap w (hc 0 ze) (hc 1 ze) ⟨hx _ ze,hx _ ze⟩
 ·obtain⟨x,y,rfl⟩:=eG (d:=d) zk;exact Ko x y g off cap w (hc 0 ze) (hc 1 ze) ⟨hx _ ze,hx _ ze⟩
 ·obtain⟨x,y,rfl⟩:=eG (d:=d) zk;exact Kn x y g off cap w (hc 0 ze) (hc 1 ze) ⟨hx _ ze,hx _ ze⟩
 ·obtain⟨x,y,rfl⟩:=eG (d:=d) zk;exact FP x y g off cap w (hc 0 ze) (hc 1 ze) ⟨hx _ ze,hx _ ze⟩
 ·obtain⟨x,y,rfl⟩:=eG (d:=d) zk;exact FO x y g off cap w (hc 0 ze) (hc 1 ze) ⟨hx _ ze,hx _ ze⟩
 ·obtain⟨x,y,rfl⟩:=eG (d:=d) zk;exact FN x y g off cap w (hc 0 ze) (hc 1 ze) ⟨hx _ ze,hx _ ze⟩
 ·obtain⟨x,y,rfl⟩:=eG (d:=d) zk;exact FM x y g off cap w (hc 0 ze) (hc 1 ze) ⟨hx _ ze,hx _ ze⟩
 ·obtain⟨x,y,rfl⟩:=eG (d:=d) zk;exact FL x y g off cap w (hc 0 ze) (hc 1 ze) ⟨hx _ ze,hx _ ze⟩
 ·obtain⟨x,y,rfl⟩:=eG (d:=d) zk;exact FK x y g off cap w (hc 0 ze) (hc 1 ze) ⟨hx _ ze,hx _ ze⟩
 ·obtain⟨x,y,rfl⟩:=eG (d:=d) zk;exact FJ x y g off cap w (hc 0 ze) (hc 1 ze) ⟨hx _ ze,hx _ ze⟩
 ·obtain⟨x,y,rfl⟩:=eG (d:=d) zk;exact FI x y g off cap w (hc 0 ze) (hc 1 ze) ⟨hx _ ze,hx _ ze⟩
 ·obtain⟨x,y,rfl⟩:=eG (d:=d) zk;exact FH x y g off cap w (hc 0 ze) (hc 1 ze) ⟨hx _ ze,hx _ ze⟩
 ·obtain⟨x,y,rfl⟩:=eG (d:=d) zk;exact FE x y g off cap w (hc 0 ze) (hc 1 ze) ⟨hx _ ze,hx _ ze⟩
 ·obtain⟨x,y,rfl⟩:=eG (d:=d) zk;exact FD x y g off cap w (hc 0 ze) (hc 1 ze) ⟨hx _ ze,hx _ ze⟩
theorem JZ(l:List Ins)(sl:List ByteArray)(vi vs:Value)(i NS:Nat)(W0:World)(T:List (Option (List Int × List Int)))(Rs Rl:Nat->Value)(t:List Int × List Int)(w:World)(hI:ig w vi l)(hi:i<l.length)(hw:mf l.length NS sl.length W0 T Rs Rl w)(hx:wfF sl.length l.length i (l.getD i default)=true)(hm:sl.length<=12)(hT:T.getD i none=some t)(hvs:∃a c,vs= .slice a sl.length c) :
 Calls prog 56 #[.agg #[vi,vs],.int .i64 i,.slice (some ⟨NS,0,none⟩) (l.length+1) (l.length+1)] w (JD l.length NS sl.length W0 T (l.getD i default) i):=by
 obtain⟨hl6,ai,ci,rfl,hix⟩:=hI;obtain⟨as',cs',rfl⟩:=hvs;rcases hix with h0|⟨b,off,rfl,hb,hix⟩
 ·omega
 obtain⟨-,x0,x1,x2,x3⟩:=hix i hi;have HW:=yq hw;obtain⟨r1,r2,r3,r4,r5,r6⟩:=hw.row i t hT;have HR1:=yq r1;have HR2:=yq r2;obtain⟨sa,sc,hsa⟩:=dP r1;obtain⟨la,lc,hla⟩:=dP r2;have hst:=hw.st i zb;rw [hT]at hst;have s1:=hst 1 _ rfl;have s2:=hst 2 _ rfl;rw [hsa]at s1;rw [hla]at s2;have hNS:=hw.sz;have d1:(i:Int)<(l.length:Int):=by omega
 have d2:(i:Int)<(l.length:Int)+1:=by omega
 obtain⟨x,hxe⟩:∃x,l.getD i default=x:=⟨_,rfl⟩;rw [hxe]at x0 x1 x2 x3 hx ⊢;have HZ:Hid (∀W,w.Grows W->W.ownsRow (NS+1) 3 1 (.slice sa t.1.length sc) t.1.length (t.1.map (Value.int .i64))):=yq (fun W hg=>by rw [<-hsa];exact aV.row (P:=fun _=>False) (.grows hg) r1 fun _ _ e=>e);have HL:Hid (∀W,w.Grows W->W.ownsRow (NS+1) 3 1 (.slice la t.2.length lc) t.2.length (t.2.map (Value.int .i64))):=yq (fun W hg=>by rw [<-hla];exact aV.row (P:=fun _=>False) (.grows hg) r2 fun _ _ e=>e);have h1k:t.1.length<=1000:=by omega
 have h2k:t.2.length<=1000:=by omega
 have H56:=yq (And.intro r5 (And.intro r6 (And.intro r3 r4)));clear hix hst hxe hw r1 r2 r3 r4 r5 r6
 go_enter func56,ntmps56
 go_wp2_with (at_builtin;refine eU rfl _ _ rfl (A:=[]) (base:=w.heap.size+2) rfl rfl (World.ownsRow_nil _ _ _ _) (HZ.out _ af) ⟨by simp,h1k⟩ ze ?_)
 intro v8 w1 hv8 hg8;obtain⟨a8,k8,rfl⟩:=dP hv8;have hL1:=World.Grows.of_below ⟨hg8.os,hg8.tape,hg8.output,hg8.size,fun k hk=>hg8.block k hk zA⟩;have hG1:w.Grows w1:=gqq af hL1;have hz1:w.heap.size+2<=w1.heap.size:=by have:=hg8.size;simpa using this
 have xx0:w1.cell? ⟨w.heap.size+1,0,none⟩=some (.int .i64 x.op):=by rw [World.cell?_of_block (hL1.below.block _ ze)];simp [go_sem]
 have xx1:w1.cell? ⟨w.heap.size+1,1,none⟩=some (.int .i64 x.a):=by rw [World.cell?_of_block (hL1.below.block _ ze)];simp [go_sem]
 have t2:w1.cell? ⟨NS,i*3+2,none⟩=some (.slice la t.2.length lc):=(World.cell?_of_block (a:=⟨NS,i*3+2,none⟩) (hG1.below.block NS hNS)).trans s2;have hNS1:NS<w1.heap.size:=by omega
 have HV8:=yq hv8;have HG1:=yq hG1;clear hv8 hg8 hL1 x0 x1 x2 x3 s1 s2
 go_wp2_with (at_builtin;refine eU rfl _ _ rfl (A:=[]) (base:=w1.heap.size) rfl rfl (World.ownsRow_nil _ _ _ _) (HL.out _ HG1.out) ⟨by simp,h2k⟩ ze ?_)
 intro v9 w2 hv9 hg9;obtain⟨a9,k9,rfl⟩:=dP hv9;have hL2:w1.Grows w2:=World.Grows.of_below ⟨hg9.os,hg9.tape,hg9.output,hg9.size,fun k hk=>hg9.block k hk zA⟩;have hG2:w.Grows w2:=gqq HG1.out hL2;have hz2:w1.heap.size<=w2.heap.size:=hg9.size;replace xx0:=(World.cell?_of_block (a:=⟨w.heap.size+1,0,none⟩) (hL2.below.block _ (by show w.heap.size+1<w1.heap.size;omega))).trans xx0;replace xx1:=(World.cell?_of_block (a:=⟨w.heap.size+1,1,none⟩) (hL2.below.block _ (by show w.heap.size+1<w1.heap.size;omega))).trans xx1;have hX2:w.heap.size+1<w2.heap.size:=by omega
 have hNS2:NS<w2.heap.size:=by omega
 have r8:w2.ownsRow (w.heap.size+2) 3 1 (.slice a8 t.1.length k8) t.1.length (t.1.map (Value.int .i64)):=aV.row (P:=fun _=>False) (.grows hL2) HV8.out fun _ _ e=>e;have r9:w2.ownsRow (w.heap.size+2) 3 1 (.slice a9 t.2.length k9) t.2.length (t.2.map (Value.int .i64)):=je hv9 hz1;have hb8:∀b,(Value.slice a8 t.1.length k8).ownBlock=some b->w.heap.size+2<=b/\b<w1.heap.size:=fun b e=>HV8.out.lt b e;have hb9:∀b,(Value.slice a9 t.2.length k9).ownBlock=some b->w1.heap.size<=b:=fun b e=>(hv9.lt b e).1;have HR8:=yq r8;have HR9:=yq r9;have HB8:=yq hb8;have HB9:=yq hb9
 have HSEP:Hid (∀b,w.heap.size<=b->AR T Rl b):=yq (fun b hb k u hu e=>by
  have:=((HW.out.row k u hu).2.1.lt b e).2
  omega)
 have HG2:=yq hG2;have HTT:=yq hT;have HX:=yq hx
 have HMID:Hid (∀p W,w2.Grows W->0<=p->x.op≠21->x.op≠22->gJ x t=some (if p=0 then t.1 else t.1++[p],t.2)->Di l.length NS sl.length W0 T t x (.slice a8 t.1.length k8) (.slice a9 t.2.length k9) (.int .i64 p) W):=yq (fun p W hg hp h21 h22 ha=>
  ⟨t.1,t.2,p,T,Rs,Rl,w.heap.size+2,rfl,hp,h21,aV.row (P:=fun _=>False) (.grows hg) HR8.out fun _ _ e=>e,aV.row (P:=fun _=>False) (.grows hg) HR9.out fun _ _ e=>e,by have:=hg.below.size;omega,by omega,ha,.inl ⟨h22,rfl⟩,HW.out.grows (gqq HG2.out hg),fun b e=>HSEP.out b (by have:=(HB8.out b e).1;omega),fun b e=>HSEP.out b zM,fun b e q=>by
   have q1:=(HB8.out b e).2;have q2:=HB9.out b q
   omega,H56.out.2.2.1,H56.out.2.2.2,H56.out.1,H56.out.2.1,fun b e=>(HB8.out b e).1,fun b e=>by have:=HB9.out b e;omega,fun _ b j u e hu=>⟨fun e2=>by have:=((HW.out.row j u hu).1.lt b e2).2;have:=(HB8.out b e).1;omega,fun e2=>by have:=((HW.out.row j u hu).2.1.lt b e2).2;have:=(HB8.out b e).1;omega⟩⟩)
 have HNO:Hid (∀W,w2.Grows W->gJ x t=none->JD l.length NS sl.length W0 T x i (.returned (.bool false)) W):=yq (fun W hg ha=>⟨false,rfl,HW.out.lo.trans ((gqq HG2.out hg).below.mono zb),.inl ⟨rfl,Nn HTT.out ha⟩⟩);clear r8 r9 hb8 hb9 hv9 hg9 hL2 hG2 hG1 hT hx t2
 go_upto_block 0 with fail
 go_cut [8,9,11,12,13]from 14 (fun v8 v9 v11 _ _ wx=>Di l.length NS sl.length W0 T t x v8 v9 v11 wx)
 case first=>
  by_cases o1:x.op=1
  ·have q1:(x.op==1)=true:=by simp [o1]
   have q2:(x.op==2)=false:=by simp [o1]
   have q3:(x.op==3)=false:=by simp [o1]
   have q5:(x.op==5)=false:=by simp [o1]
   have q23:(x.op==23)=false:=by simp [o1]
   have q24:(x.op==24)=false:=by simp [o1]
   have q4:(x.op==4)=false:=by simp [o1]
   have q21:(x.op==21)=false:=by simp [o1]
   have q22:(x.op==22)=false:=by simp [o1]
   have hf:=JP HX.out o1;have HF:=yq hf;have HO:=yq o1;clear o1 hf
   go_wp2_with fail
   go_meet
   exact HMID.out x.a _ af (by have:=HF.out;omega) zB zB (by rw [Q0 HO.out,if_neg (by have:=HF.out;omega)])
  have hrest:=dH HX.out o1;by_cases o2:x.op=2
  ·have q1:(x.op==1)=false:=by simp [o2]
   have q2:(x.op==2)=true:=by simp [o2]
   have q3:(x.op==3)=false:=by simp [o2]
   have q5:(x.op==5)=false:=by simp [o2]
   have q23:(x.op==23)=false:=by simp [o2]
   have q24:(x.op==24)=false:=by simp [o2]
   have q4:(x.op==4)=false:=by simp [o2]
   have q21:(x.op==21)=false:=by simp [o2]
   have q22:(x.op==22)=false:=by simp [o2]
   have ha:=hrest.2.1 o2;have HI:=yq (fun w=>oL x.a w);unfold LC at HI;rw [decide_eq_true ha,show II x.a=jC.getD x.a.toNat 0 from by unfold II;rw [if_pos ha]]at HI;have HD:=yq (tC (k:=x.a.toNat) zb);have HO:=yq o2;have HAB:=yq (QZ (s:=t) o2);obtain⟨p,hp⟩:∃p,jC.getD x.a.toNat 0=p:=⟨_,rfl⟩;rw [hp]at HI HD HAB;clear o1 o2 hrest ha hp
   go_wp2_with (go_at_call 113;refine gvq (HI.out _) ?_;intro bs d)
   go_meet
   exact HMID.out p _ af (by have:=HD.out;omega) zB zB (by rw [HAB.out,if_neg (by have:=HD.out;omega)])
  by_cases o3:x.op=3
  ·have q1:(x.op==1)=false:=by simp [o3]
   have q2:(x.op==2)=false:=by simp [o3]
   have q3:(x.op==3)=true:=by simp [o3]
   have q5:(x.op==5)=false:=by simp [o3]
   have q23:(x.op==23)=false:=by simp [o3]
   have q24:(x.op==24)=false:=by simp [o3]
   have q4:(x.op==4)=false:=by simp [o3]
   have q21:(x.op==21)=false:=by simp [o3]
   have q22:(x.op==22)=false:=by simp [o3]
   have ha:=hrest.2.2.1 (.inl o3);obtain⟨k,hk⟩:∃k:Nat,x.a=(k:Int):=⟨x.a.toNat,by omega⟩;have hk2:k<t.2.length:=by have:=H56.out.2.2.2;omega
   obtain⟨a9',k9',h9,hg9⟩:=fF HR9.out;obtain⟨rfl,rfl⟩:a9=a9'/\k9=k9':=by simpa using h9
   rcases hg9 with h0|⟨g9,rfl,hg9,c9⟩
   ·omega
   have ck:=c9 k hk2;have dk:(k:Int)<(t.2.length:Int):=by omega
   have dk0:(0:Int)<=(k:Int):=by omega
   rw [hk]at xx1;have HAB:=QY (s:=t) o3;rw [show x.a.toNat=k by omega]at HAB;have HP0:Hid (0<=t.2.getD k 0):=yq (H56.out.2.1 _ (by rw [getD_eq_getElem?_getD,getElem?_eq_getElem hk2];exact getElem_mem _));have HO:=yq o3;obtain⟨p,hp⟩:∃p,t.2.getD k 0=p:=⟨_,rfl⟩;rw [hp]at HAB HP0 ck;clear o1 o2 o3 hrest ha hp h9 hk c9 hk2;by_cases hp0:p=0
   ·have HN:=yq (show gJ x t=none by rw [HAB,if_pos hp0]);subst hp0;clear HAB
    go_wp2_with fail
    go_returns
    exact HNO.out _ af HN.out
   ·have hpe:(p==0)=false:=by simpa using hp0
    rw [if_neg hp0]at HAB;have HAC:=yq HAB;have HPN:=yq hp0;clear HAB hp0
    go_wp2_with fail
    go_meet
    exact HMID.out p _ af HP0.out zB zB (by rw [HAC.out,if_neg HPN.out])
  by_cases o5:x.op=5
  ·have q1:(x.op==1)=false:=by simp [o5]
   have q2:(x.op==2)=false:=by simp [o5]
   have q3:(x.op==3)=false:=by simp [o5]
   have q5:(x.op==5)=true:=by simp [o5]
   have q23:(x.op==23)=false:=by simp [o5]
   have q24:(x.op==24)=false:=by simp [o5]
   have q4:(x.op==4)=false:=by simp [o5]
   have q21:(x.op==21)=false:=by simp [o5]
   have q22:(x.op==22)=false:=by simp [o5]
   have HO:=yq o5;clear o1 o2 o3 o5 hrest
   go_wp2_with fail
   go_meet
   exact HMID.out 4 _ af zb zB zB (by rw [QX HO.out,if_neg zb])
  by_cases o23:x.op=23\/x.op=24
  ·have HO:=yq o23;clear o1 o2 o3 o5 hrest;rcases o23 with o23|o23
   focus
    have q1:(x.op==1)=false:=by simp [o23]
    have q2:(x.op==2)=false:=by simp [o23]
    have q3:(x.op==3)=false:=by simp [o23]
    have q5:(x.op==5)=false:=by simp [o23]
    have q23:(x.op==23)=true:=by simp [o23]
    have q24:(x.op==24)=false:=by simp [o23]
   rotate_left
   focus
    have q1:(x.op==1)=false:=by simp [o23]
    have q2:(x.op==2)=false:=by simp [o23]
    have q3:(x.op==3)=false:=by simp [o23]
    have q5:(x.op==5)=false:=by simp [o23]
    have q23:(x.op==23)=false:=by simp [o23]
    have q24:(x.op==24)=true:=by simp [o23]
   rotate_left
   all_goals
    have q4:(x.op==4)=false:=by simp [o23]
    have q21:(x.op==21)=false:=by simp [o23]
    have q22:(x.op==22)=false:=by simp [o23]
    clear o23
    go_wp2_with fail
    go_meet
    exact HMID.out 1 _ af zb zB zB (by rw [Pn HO.out,if_neg zb])
  by_cases he:t.1= []/\(x.op=4\/x.op=22)
  ·have hl0:((t.1.length:Nat):Int)<1:=by rw [he.1];simp
   have HN:Hid (gJ x t=none):=yq (by
    rcases he.2 with o|o
    ·rw [Mq o,if_pos he.1]
    ·rw [Gf o,if_pos (.inl he.1)])
   rcases he.2 with o|o
   ·have q1:(x.op==1)=false:=by simp [o]
    have q2:(x.op==2)=false:=by simp [o]
    have q3:(x.op==3)=false:=by simp [o]
    have q5:(x.op==5)=false:=by simp [o]
    have q23:(x.op==23)=false:=by simp [o]
    have q24:(x.op==24)=false:=by simp [o]
    have q4:(x.op==4)=true:=by simp [o]
    have q21:(x.op==21)=false:=by simp [o]
    have q22:(x.op==22)=false:=by simp [o]
    clear he o o1 o2 o3 o5 o23 hrest
    go_wp2_with fail
    go_returns
    exact HNO.out _ af HN.out
   ·have q1:(x.op==1)=false:=by simp [o]
    have q2:(x.op==2)=false:=by simp [o]
    have q3:(x.op==3)=false:=by simp [o]
    have q5:(x.op==5)=false:=by simp [o]
    have q23:(x.op==23)=false:=by simp [o]
    have q24:(x.op==24)=false:=by simp [o]
    have q4:(x.op==4)=false:=by simp [o]
    have q21:(x.op==21)=false:=by simp [o]
    have q22:(x.op==22)=true:=by simp [o]
    clear he o o1 o2 o3 o5 o23 hrest
    go_wp2_with fail
    go_returns
    exact HNO.out _ af HN.out
  by_cases o4:x.op=4
  ·have hne:t.1≠[]:=fun e=>he ⟨e,.inl o4⟩;have q1:(x.op==1)=false:=by simp [o4]
   have q2:(x.op==2)=false:=by simp [o4]
   have q3:(x.op==3)=false:=by simp [o4]
   have q5:(x.op==5)=false:=by simp [o4]
   have q23:(x.op==23)=false:=by simp [o4]
   have q24:(x.op==24)=false:=by simp [o4]
   have q4:(x.op==4)=true:=by simp [o4]
   have q21:(x.op==21)=false:=by simp [o4]
   have q22:(x.op==22)=false:=by simp [o4]
   have ha:=hrest.2.2.1 (.inr o4);have HAB:=yq (Mq (s:=t) o4);rw [if_neg hne]at HAB;obtain⟨k,hk⟩:∃k:Nat,x.a=(k:Int):=⟨x.a.toNat,by omega⟩;rw [show x.a.toNat=k by omega]at HAB;have HO:=yq o4;have hk2:k<t.2.length:=by have:=H56.out.2.2.2;omega
   obtain⟨q,hq⟩:∃q,t.1.length=q+1:=⟨t.1.length-1,by have:t.1.length≠0:=fun e=>hne (eq_nil_of_length_eq_zero e);omega⟩;have hqi:((t.1.length:Nat):Int)-1=(q:Int):=by omega
   have hqq:IntKind.i64.wrap (q:Int)=(q:Int):=IntWalk.i64_in _ zb;have hq3:(q:Int)<(q:Int)+1:=by omega
   have hqw:IntKind.i64.wrap (((t.1.length:Nat):Int)-1)=(q:Int):=by rw [hqi];exact IntWalk.i64_in _ zb
   have hq1:¬((t.1.length:Nat):Int)<1:=by omega
   have hq2:(q:Int)<((t.1.length:Nat):Int):=by omega
   have hq0:(0:Int)<=(q:Int):=by omega
   obtain⟨a8',k8',h8,hg8⟩:=fF HR8.out;obtain⟨rfl,rfl⟩:a8=a8'/\k8=k8':=by simpa using h8
   rcases hg8 with h0|⟨g8,rfl,hg8,c8⟩
   ·omega
   have c8q:=c8 q zb
   have hlast:t.1.getD q 0=t.1.getLastD 0:=by
    have e:t.1.length-1=q:=by omega
    rw [getLastD_eq_getLast?,getLast?_eq_getElem?,e,getD_eq_getElem?_getD]
   rw [hlast]at c8q
   have hcap8:q<=k8:=by
    rcases fU HR8.out with ⟨e,-⟩|⟨g,cap,e,-,-,hc⟩
    ·simp at e
    ·obtain⟨-,rfl⟩:_/\k8=cap:=by simpa using e
     omega
   have hdl:t.1.take q=t.1.dropLast:=by rw [dropLast_eq_take,hq,Nat.add_sub_cancel]
   clear h8 c8 hlast hq hqi;obtain⟨a9',k9',h9,hg9⟩:=fF HR9.out;obtain⟨rfl,rfl⟩:a9=a9'/\k9=k9':=by simpa using h9
   rcases hg9 with h0|⟨g9,rfl,hg9,c9⟩
   ·omega
   have ck:=c9 k hk2;have f9:w2.frozen? ⟨g9,k,none⟩=false:=HR9.out.frozenAt k;have dk:(k:Int)<(t.2.length:Int):=by omega
   have dk0:(0:Int)<=(k:Int):=by omega
   rw [hk]at xx1;have hgg:w1.heap.size<=g9:=HB9.out g9 rfl;have hg8b:=HB8.out g8 rfl
   have HSET:Hid (∀W',(w2.setCell ⟨g9,k,none⟩ (.int .i64 (t.1.getLastD 0))).Grows W'->Di l.length NS sl.length W0 T t x (.slice (some ⟨g8,0,none⟩) q k8) (.slice (some ⟨g9,0,none⟩) t.2.length k9) (.int .i64 0) W'):=yq (fun W' hg=>by
    have hm:aV (fun b=>b=g9) w2 (w2.setCell ⟨g9,k,none⟩ (.int .i64 (t.1.getLastD 0))):=aV.setCell _ _ _ _ rfl;have hwg:w.Grows W':=gqq (.of_below (HG2.out.below.setCell (p:=⟨g9,k,none⟩) (by show w.heap.size<=g9;omega) _)) hg
    have r8:W'.ownsRow (w.heap.size+2) 3 1 (.slice (some ⟨g8,0,none⟩) q k8) t.1.dropLast.length (t.1.dropLast.map (Value.int .i64)):=by
     have h0:=qZ (m:=q) HR8.out zb;rw [hdl]at h0
     exact aV.row (P:=fun _=>False) (.grows hg) (hm.row h0 fun b hb e=>by
      have:g8=b:=by simpa [Value.ownBlock]using hb
      omega) fun _ _ e=>e
    have r9:W'.ownsRow (w.heap.size+2) 3 1 (.slice (some ⟨g9,0,none⟩) t.2.length k9) (t.2.set k (t.1.getLastD 0)).length ((t.2.set k (t.1.getLastD 0)).map (Value.int .i64)):=by
     rw [length_set,map_set];exact aV.row (P:=fun _=>False) (.grows hg) (HR9.out.stored k (.int .i64 (t.1.getLastD 0))).1 fun _ _ e=>e
    refine⟨t.1.dropLast,t.2.set k (t.1.getLastD 0),0,T,Rs,Rl,w.heap.size+2,rfl,by omega,by have:=HO.out;omega,r8,r9,by have:=hg.below.size;simp [World.setCell]at this;omega,by omega,by rw [HAB.out,if_pos rfl],.inl ⟨by have:=HO.out;omega,rfl⟩,HW.out.grows hwg,fun b e=>HSEP.out b ?_,fun b e=>HSEP.out b ?_,fun b e e2=>?_,by rw [length_dropLast];have:=H56.out.2.2.1;omega,by rw [length_set];exact H56.out.2.2.2,fun z hz=>H56.out.1 z (dropLast_subset _ hz),fun z hz=>?_,fun b e=>?_,fun b e=>?_,fun h=>absurd rfl h⟩
    ·have:g8=b:=by simpa [Value.ownBlock]using e
     omega
    ·have:g9=b:=by simpa [Value.ownBlock]using e
     omega
    ·have h1:g8=b:=by simpa [Value.ownBlock]using e
     have h2:g9=b:=by simpa [Value.ownBlock]using e2
     omega
    ·rcases mem_or_eq_of_mem_set hz with hz|rfl
     ·exact H56.out.2.1 z hz
     ·have:=H56.out.1 _ (sW hne);omega
    ·have:g8=b:=by simpa [Value.ownBlock]using e
     omega
    ·have:g9=b:=by simpa [Value.ownBlock]using e
     omega)
   generalize t.1.getLastD 0=z at *;generalize t.2.getD k 0=z9 at *;clear he hne ha hk hk2 h9 c9 o4 o1 o2 o3 o5 o23 hrest hgg hg8b hdl
   go_wp2_with fail
   refine TS.begin [9] (World.Grows w2) zd zd aj (fun hS=>?_);refine kq 0 hS ?_;refine kq 1 hS ?_;refine kq 2 hS ?_;refine kq 3 hS ?_;refine kq 4 hS ?_;refine kq 5 hS ?_;refine kq 6 hS ?_;refine kq 7 hS ?_;refine kq 8 hS ?_;refine TS.weB 9 ?_;clear hS
   go_wp2_with fail
   go_meet
   exact HSET.out _ af
  by_cases o21:x.op=21
  ·have q1:(x.op==1)=false:=by simp [o21]
   have q2:(x.op==2)=false:=by simp [o21]
   have q3:(x.op==3)=false:=by simp [o21]
   have q5:(x.op==5)=false:=by simp [o21]
   have q23:(x.op==23)=false:=by simp [o21]
   have q24:(x.op==24)=false:=by simp [o21]
   have q4:(x.op==4)=false:=by simp [o21]
   have q21:(x.op==21)=true:=by simp [o21]
   have q22:(x.op==22)=false:=by simp [o21]
   have ha:=hrest.2.2.2.2.1 (.inl o21);have hj0:0<=x.a:=by omega
   have hj1:x.a<(l.length:Int)+1:=by omega
   have HMT:=yq (fun W (hg:w2.Grows W)=>(HW.out.grows (gqq HG2.out hg)).meet (k:=x.a.toNat) (s:=t) (vz:=.slice a8 t.1.length k8) (vl:=.slice a9 t.2.length k9) zb (aV.row (P:=fun _=>False) (.grows hg) HR8.out fun _ _ e=>e) (aV.row (P:=fun _=>False) (.grows hg) HR9.out fun _ _ e=>e) H56.out.2.2.1 H56.out.2.2.2 hm H56.out.1 H56.out.2.1 (fun e=>by have:=(HB8.out NS e).1;omega) (fun e=>by have:=HB9.out NS e;omega) (fun b e=>HSEP.out b (by have:=(HB8.out b e).1;omega)) (fun b e=>HSEP.out b zM));have HRN:=yq (Np HTT.out o21);clear he o4 o1 o2 o3 o5 o23 hrest ha o21
   go_wp2_with (go_at_call 55;refine(HMT.out _ af).mono ?_;rintro e' w3 ⟨bb,rfl,hbl,hsz,-,hcc⟩)
   go_returns
   refine⟨bb,rfl,hbl, ?_⟩;rcases hcc with ⟨rfl,hp⟩|⟨rfl,T',Rs',Rl',hp,hv,-⟩
   ·exact .inl ⟨rfl,HRN.out.trans hp⟩
   ·exact .inr ⟨rfl,T',Rs',Rl',HRN.out.trans hp,hv⟩
  by_cases o22:x.op=22
  ·have hne:t.1≠[]:=fun e=>he ⟨e,.inr o22⟩;have q1:(x.op==1)=false:=by simp [o22]
   have q2:(x.op==2)=false:=by simp [o22]
   have q3:(x.op==3)=false:=by simp [o22]
   have q5:(x.op==5)=false:=by simp [o22]
   have q23:(x.op==23)=false:=by simp [o22]
   have q24:(x.op==24)=false:=by simp [o22]
   have q4:(x.op==4)=false:=by simp [o22]
   have q21:(x.op==21)=false:=by simp [o22]
   have q22:(x.op==22)=true:=by simp [o22]
   obtain⟨q,hq⟩:∃q,t.1.length=q+1:=⟨t.1.length-1,by have:t.1.length≠0:=fun e=>hne (eq_nil_of_length_eq_zero e);omega⟩;have hqi:((t.1.length:Nat):Int)-1=(q:Int):=by omega
   have hqq:IntKind.i64.wrap (q:Int)=(q:Int):=IntWalk.i64_in _ zb;have hq3:(q:Int)<(q:Int)+1:=by omega
   have hqw:IntKind.i64.wrap (((t.1.length:Nat):Int)-1)=(q:Int):=by rw [hqi];exact IntWalk.i64_in _ zb
   have hq1:¬((t.1.length:Nat):Int)<1:=by omega
   have hq2:(q:Int)<((t.1.length:Nat):Int):=by omega
   have hq0:(0:Int)<=(q:Int):=by omega
   obtain⟨a8',k8',h8,hg8⟩:=fF HR8.out;obtain⟨rfl,rfl⟩:a8=a8'/\k8=k8':=by simpa using h8
   rcases hg8 with h0|⟨g8,rfl,hg8,c8⟩
   ·omega
   have c8q:=c8 q zb
   have hlast:t.1.getD q 0=t.1.getLastD 0:=by
    have e:t.1.length-1=q:=by omega
    rw [getLastD_eq_getLast?,getLast?_eq_getElem?,e,getD_eq_getElem?_getD]
   rw [hlast]at c8q
   have hcap8:q<=k8:=by
    rcases fU HR8.out with ⟨e,-⟩|⟨g,cap,e,-,-,hc⟩
    ·simp at e
    ·obtain⟨-,rfl⟩:_/\k8=cap:=by simpa using e
     omega
   have hdl:t.1.take q=t.1.dropLast:=by rw [dropLast_eq_take,hq,Nat.add_sub_cancel]
   clear h8 c8 hlast hq hqi;have HO:=yq o22;have HAB:=yq (Gf (s:=t) o22);by_cases hl1:t.1.getLastD 0=1
   ·rw [if_neg (fun c=>c.elim hne (fun c=>c hl1))]at HAB;rw [hl1]at c8q;have ha:=hrest.2.2.2.2.1 (.inr o22);have hj0:0<=x.a:=by omega
    have hj1:x.a<(l.length:Int)+1:=by omega
    have r8:=qZ (m:=q) HR8.out zb;rw [hdl]at r8;have hg8b:=HB8.out g8 rfl;have hs8:∀b,(Value.slice (some ⟨g8,0,none⟩) q k8).ownBlock=some b->g8=b:=fun b e=>by simpa [Value.ownBlock]using e
    have HS8:=yq hs8;have HMT:=yq (fun W (hg:w2.Grows W)=>(HW.out.grows (gqq HG2.out hg)).meet (k:=x.a.toNat) (s:=(t.1.dropLast,t.2)) (vz:=.slice (some ⟨g8,0,none⟩) q k8) (vl:=.slice a9 t.2.length k9) zb (aV.row (P:=fun _=>False) (.grows hg) r8 fun _ _ e=>e) (aV.row (P:=fun _=>False) (.grows hg) HR9.out fun _ _ e=>e) (by rw [length_dropLast];have:=H56.out.2.2.1;omega) H56.out.2.2.2 hm (fun z hz=>H56.out.1 z (dropLast_subset _ hz)) H56.out.2.1 (fun e=>by have:=hs8 NS e;omega) (fun e=>by have:=HB9.out NS e;omega) (fun b e=>HSEP.out b (by have:=hs8 b e;omega)) (fun b e=>HSEP.out b zM));have HR8':=yq r8;have HG8B:=yq hg8b;clear he hne o4 o1 o2 o3 o5 o23 o21 hrest ha o22 hl1 r8 hg8b hs8 hdl;have hw8:g8<w2.heap.size:=(HR8'.out.lt g8 rfl).2
    go_wp2_with fail
    go_at_call 55
    refine(HMT.out _ af).mono ?_;rintro e' w3 ⟨bb,rfl,hbl,hsz,hbk,⟨rfl,hp⟩|⟨rfl,T',Rs',Rl',hp,hv,hsp⟩⟩
    ·have HEN:Hid (∀W,w3.Grows W->JD l.length NS sl.length W0 T x i (.returned (.bool false)) W):=yq (fun W hg=>⟨false,rfl,hbl.trans (hg.below.mono zb),.inl ⟨rfl,GI HTT.out HAB.out HO.out hp⟩⟩);clear hbl hbk hp
     go_wp2_with fail
     go_returns
     exact HEN.out _ af
    ·have HEN:Hid (∀W,w3.Grows W->Di l.length NS sl.length W0 T t x (.slice (some ⟨g8,0,none⟩) q k8) (.slice a9 t.2.length k9) (.int .i64 0) W):=yq (fun W hg=>by
      have hn8:∀b,(Value.slice (some ⟨g8,0,none⟩) q k8).ownBlock=some b->g8=b:=HS8.out;have rr8:=vN HR8'.out (w':=w3) (fun b e=>hbk b (by have:=hn8 b e;omega) (by have:=hn8 b e;have:=HG8B.out;omega) (HSEP.out b (by have:=hn8 b e;have:=HG8B.out;omega)));have rr9:=vN HR9.out (w':=w3) (fun b e=>hbk b (HR9.out.lt b e).2 zM (HSEP.out b zM));refine⟨t.1.dropLast,t.2,0,T',Rs',Rl',w.heap.size+2,rfl,by omega,by have:=HO.out;omega,aV.row (P:=fun _=>False) (.grows hg) rr8 fun _ _ e=>e,aV.row (P:=fun _=>False) (.grows hg) rr9 fun _ _ e=>e,by have:=hg.below.size;omega,by omega,by rw [HAB.out,if_pos rfl],.inr ⟨HO.out,rfl,hp⟩,hv.grows hg,fun b e=>hsp b ?_ (HSEP.out b ?_),fun b e=>hsp b (HR9.out.lt b e).2 (HSEP.out b zM),fun b e e2=>?_,by rw [length_dropLast];have:=H56.out.2.2.1;omega,H56.out.2.2.2,fun z hz=>H56.out.1 z (dropLast_subset _ hz),H56.out.2.1,fun b e=>?_,fun b e=>by have:=HB9.out b e;omega,fun h=>absurd rfl h⟩
      ·have:=hn8 b e;omega
      ·have:=hn8 b e;have:=HG8B.out;omega
      ·have q1:=hn8 b e;have q2:=HB9.out b e2;have:=HG8B.out;omega
      ·have:=hn8 b e;have:=HG8B.out;omega)
     clear hbl hbk hp hv hsp
     go_wp2_with fail
     go_meet
     exact HEN.out _ af
   ·rw [if_pos (.inr hl1)]at HAB;have hz1:(t.1.getLastD 0 !=1)=true:=by simpa using hl1
    generalize t.1.getLastD 0=z at *;clear he hne o4 o1 o2 o3 o5 o23 o21 hrest o22 hl1 hdl
    go_wp2_with fail
    go_returns
    exact HNO.out _ af HAB.out
  have ho:=hrest.2.2.2.2.2 o2 o3 o4 o5 o21 o22 (fun e=>o23 (.inl e)) (fun e=>o23 (.inr e));have HAB:=QW (s:=t) (x:=x) ⟨o1,o2,o3,o4,o5,o21,o22,fun e=>o23 (.inl e),fun e=>o23 (.inr e)⟩;have q1:(x.op==1)=false:=by simp;omega
  have q2:(x.op==2)=false:=by simp;omega
  have q3:(x.op==3)=false:=by simp;omega
  have q5:(x.op==5)=false:=by simp;omega
  have q23:(x.op==23)=false:=by simp;omega
  have q24:(x.op==24)=false:=by simp;omega
  have q4:(x.op==4)=false:=by simp;omega
  have q21:(x.op==21)=false:=by simp;omega
  have q22:(x.op==22)=false:=by simp;omega
  have hop:=FV ho;have HOP:=yq (fun w=>pK x.op w);have HAR:=yq (fun w=>jB (opF x.op) w);rw [CZ hop]at HAR;have HO:=yq (And.intro o21 o22);obtain⟨ar,har⟩:∃ar,aB (opF x.op)=ar:=⟨_,rfl⟩;have har2:ar=1\/ar=2:=by rw [<-har];unfold aB;split<;>omega
  have harg:aY (opF x.op)=(ar:Int):=by rw [CZ hop,har]
  rw [har]at HAR HAB;obtain⟨op,hope⟩:∃q,opF x.op=q:=⟨_,rfl⟩;rw [hope]at HOP HAR HAB hop harg;clear he o4 o1 o2 o3 o5 o23 o21 o22 hrest ho har hope;by_cases hlt:t.1.length<ar
  ·have d9:((t.1.length:Nat):Int)<(ar:Int):=by omega
   rw [if_pos hlt]at HAB;have HAC:=yq HAB;clear HAB hlt
   go_wp2_with (first
    |(go_at_call 60;refine gw (HOP.out _) ?_)
    |(go_at_call 61;refine gw (HAR.out _) ?_))
   go_returns
   exact HNO.out _ af HAC.out
  rw [if_neg hlt]at HAB;obtain⟨m',hm'⟩:∃m',t.1.length-ar=m':=⟨_,rfl⟩;rw [hm']at HAB;have hmi:((t.1.length:Nat):Int)-(ar:Int)=(m':Int):=by omega
  have hmw:IntKind.i64.wrap (((t.1.length:Nat):Int)-(ar:Int))=(m':Int):=by rw [hmi];exact IntWalk.i64_in _ zb
  have hmm:IntKind.i64.wrap (m':Int)=(m':Int):=IntWalk.i64_in _ zb;have d9:¬((t.1.length:Nat):Int)<(ar:Int):=by omega
  have hle:m'<=t.1.length:=by omega
  have hlei:(m':Int)<=((t.1.length:Nat):Int):=by omega
  have hL:t.1.length-m'=ar:=by omega
  obtain⟨a8',k8',h8,hg8⟩:=fF HR8.out;obtain⟨rfl,rfl⟩:a8=a8'/\k8=k8':=by simpa using h8
  rcases hg8 with h0|⟨g8,rfl,hg8,c8⟩
  ·omega
  have hcap8:t.1.length<=k8:=by
   rcases fU HR8.out with ⟨e,-⟩|⟨g,cap,e,-,-,hc⟩
   ·simp at e
   ·obtain⟨-,rfl⟩:_/\k8=cap:=by simpa using e
    exact hc
  have hdlen:(t.1.drop m').length=ar:=by rw [length_drop];omega
  have HRS:Hid (∀W,w2.Grows W->∀cap,Calls prog 90 #[.int .i64 op,.slice (some ⟨g8,m',none⟩) ar cap] W (fe (ag op (t.1.drop m')) W)):=yq (fun W hg cap=>by
   rw [<-hdlen];refine Km op (t.1.drop m') g8 m' cap W hop.1 hop.2 (by rw [hdlen,harg]) (fun z hz=>H56.out.1 z (mem_of_mem_drop hz)) (fun k hk=>?_);rw [World.cell?_of_block (a:=⟨g8,m'+k,none⟩) (hg.below.block g8 hg8),c8 _ (by rw [length_drop]at hk;omega)]
   simp only [getD_eq_getElem?_getD,getElem?_drop])
  unfold fe at HRS;have HPP:=yq (fun(h:ag op (t.1.drop m')≠0)=>rW (fun z hz=>H56.out.1 z (mem_of_mem_drop hz)) h);have r8:=qZ (m:=m') HR8.out hle;have HR8':=yq r8;have htl:(t.1.take m').length=m':=by rw [length_take];omega
  have HTL:=yq htl;have hg8b:=HB8.out g8 rfl;have HG8B:=yq hg8b;obtain⟨p,hp⟩:∃p,ag op (t.1.drop m')=p:=⟨_,rfl⟩;rw [hp]at HRS HPP HAB;clear h8 c8 hm' hmi hdlen r8 hlt hop harg hp htl hg8b;by_cases hp0:p=0
  ·rw [if_pos hp0]at HAB;have HAC:=yq HAB;subst hp0;clear HAB
   go_wp2_with (first
    |(go_at_call 60;refine gw (HOP.out _) ?_)
    |(go_at_call 61;refine gw (HAR.out _) ?_)
    |(go_at_call 90;refine gvq (HRS.out _ af _) ?_;intro bs d))
   go_returns
   exact HNO.out _ af HAC.out
  ·rw [if_neg hp0]at HAB;have HAC:=yq HAB;have hpe:(p==0)=false:=by simpa using hp0
   have HP0:=yq hp0;have HS8:Hid (∀b,(Value.slice (some ⟨g8,0,none⟩) m' k8).ownBlock=some b->g8=b):=yq (fun b e=>by simpa [Value.ownBlock]using e)
   have HEN:Hid (∀W,w2.Grows W->Di l.length NS sl.length W0 T t x (.slice (some ⟨g8,0,none⟩) m' k8) (.slice a9 t.2.length k9) (.int .i64 p) W):=yq (fun W hg=>by
    refine⟨t.1.take m',t.2,p,T,Rs,Rl,w.heap.size+2,rfl,by have:=HPP.out HP0.out;omega,HO.out.1,aV.row (P:=fun _=>False) (.grows hg) HR8'.out fun _ _ e=>e,aV.row (P:=fun _=>False) (.grows hg) HR9.out fun _ _ e=>e,by have:=hg.below.size;omega,by omega,by rw [HAC.out,if_neg HP0.out],.inl ⟨HO.out.2,rfl⟩,HW.out.grows (gqq HG2.out hg),fun b e=>HSEP.out b ?_,fun b e=>HSEP.out b zM,fun b e e2=>?_,by rw [HTL.out];have:=H56.out.2.2.1;omega,H56.out.2.2.2,fun z hz=>H56.out.1 z (mem_of_mem_take hz),H56.out.2.1,fun b e=>?_,fun b e=>by have:=HB9.out b e;omega,fun _ b j u e hu=>⟨fun e2=>?_,fun e2=>?_⟩⟩
    ·have:=HS8.out b e;have:=HG8B.out;omega
    ·have q1:=HS8.out b e;have q2:=HB9.out b e2;have:=HG8B.out;omega
    ·have:=HS8.out b e;have:=HG8B.out;omega
    ·have q1:=HS8.out b e;have:=((HW.out.row j u hu).1.lt b e2).2;have:=HG8B.out;omega
    ·have q1:=HS8.out b e;have:=((HW.out.row j u hu).2.1.lt b e2).2;have:=HG8B.out
     omega)
   clear HAB hp0
   go_wp2_with (first
    |(go_at_call 60;refine gw (HOP.out _) ?_)
    |(go_at_call 61;refine gw (HAR.out _) ?_)
    |(go_at_call 90;refine gvq (HRS.out _ af _) ?_;intro bs d))
   go_meet
   exact HEN.out _ af
 obtain⟨zs,ls,p,T1,Rs1,Rl1,B,rfl,hp0,h21,r8,r9,hB,hNB,hap,hT1,hv,s8,s9,d89,l24,lm,pz,pl,b8,b9,sA⟩:=hcut;obtain⟨va8,vk8,rfl⟩:=dP r8;obtain⟨va9,vk9,rfl⟩:=dP r9;have HIN:Hid (i+1<=l.length):=yq zb;obtain⟨q,hq⟩:∃q,i+1=q:=⟨_,rfl⟩;have hqw:IntKind.i64.wrap ((i:Int)+1)=(q:Int):=by rw [<-hq,IntWalk.i64_in _ zb];rfl
 have hqi:(i:Int)+1=(q:Int):=by omega
 have hqq:IntKind.i64.wrap (q:Int)=(q:Int):=IntWalk.i64_in _ zb;have hq0:(0:Int)<=(q:Int):=by omega
 have hq1:(q:Int)<(l.length:Int)+1:=by omega
 have HQ:=yq hq;by_cases hpz:p=0
 ·rw [if_pos hpz]at hap;have d24:¬(24:Int)<(zs.length:Int):=by omega
  have HRN:Hid (nC T x i=gH T1 q (zs,ls)):=yq (by rw [Br HTT.out hap h21 (hT1.imp id fun h=>⟨h.1,h.2.2⟩),if_neg (by show ¬24<zs.length;omega),hq]);have HMT:=yq (fun W (hg:wc.Grows W)=>(hv.grows hg).meet (k:=q) (s:=(zs,ls)) (vz:=.slice va8 zs.length vk8) (vl:=.slice va9 ls.length vk9) zb (aV.row (P:=fun _=>False) (.grows hg) r8 fun _ _ e=>e) (aV.row (P:=fun _=>False) (.grows hg) r9 fun _ _ e=>e) l24 lm hm pz pl (fun e=>by have:=b8 NS e;omega) (fun e=>by have:=b9 NS e;omega) s8 s9);subst hpz;clear hap hT1 hv s8 s9 d89 l24 lm pz pl b8 b9 sA r8 r9 hq h21
  go_wp2_with (go_at_call 55;refine(HMT.out _ af).mono ?_;rintro e' w3 ⟨bb,rfl,hbl,hsz,-,hcc⟩)
  go_returns
  refine⟨bb,rfl,hbl, ?_⟩;rcases hcc with ⟨rfl,hp⟩|⟨rfl,T',Rs',Rl',hp,hv,-⟩
  ·exact .inl ⟨rfl,HRN.out.trans hp⟩
  ·exact .inr ⟨rfl,T',Rs',Rl',HRN.out.trans hp,hv⟩
 ·rw [if_neg hpz]at hap;have hpe:(p==0)=false:=by simpa using hpz
  have hpn:(p !=0)=true:=by simpa using hpz
  obtain⟨i0,hi0,hz0,hz1,hz2⟩:=info_parts Ap;have HR8a:=yq r8
  have HFIN:Hid (∀g cp w3,w3.ownsRow B 3 1 (.slice (some ⟨g,0,none⟩) (zs.length+1) cp) (zs.length+1) (zs.map (Value.int .i64)++[.int .i64 p])->wc.grownBy w3 (Value.slice va8 zs.length vk8).ownBlock->((Value.slice va8 zs.length vk8).ownBlock=some g\/wc.heap.size<=g)->
   (24<zs.length+1->∀W,w3.Grows W->JD l.length NS sl.length W0 T x i (.returned (.bool false)) W)/\(¬24<zs.length+1->∀W,w3.Grows W->Calls prog 55 #[.pointer (some ⟨NS,q*3,none⟩),.slice (some ⟨g,0,none⟩) (zs.length+1) cp,.slice va9 ls.length vk9] W (JD l.length NS sl.length W0 T x i))):=yq (fun g cp w3 hown hgr hgg=>by
   have hmd:aV (fun b=>(Value.slice va8 zs.length vk8).ownBlock=some b) wc w3:=aV.grown hgr fun _ e=>e;have hv3:mf l.length NS sl.length W0 T1 Rs1 Rl1 w3:=hv.mods hmd (fun b e=>by have:=b8 b e;omega) (sA hpz);have hlen:(zs++[p]).length=zs.length+1:=by simp
   have hrow:w3.ownsRow B 3 1 (.slice (some ⟨g,0,none⟩) (zs.length+1) cp) (zs++[p]).length ((zs++[p]).map (Value.int .i64)):=by rw [hlen,map_append];exact hown
   have r9':=hmd.row r9 (fun b e e2=>d89 b e2 e)
   have hgS:AR T1 Rl1 g:=by
    rcases hgg with e|e
    ·exact s8 g e
    ·intro k u hu e2;have:=((hv.row k u hu).2.1.lt g e2).2;omega
   have hgN:NS<g:=by
    rcases hgg with e|e
    ·have:=b8 g e;omega
    ·have:=hv.sz;omega
   have hend:=Br HTT.out hap h21 (hT1.imp id fun h=>absurd h.2.1 hpz);refine⟨fun h24 W hg=>⟨false,rfl,hv3.lo.trans (hg.below.mono (by have:=hv3.sz;omega)),.inl ⟨rfl,by rw [hend,if_pos (by show 24<(zs++[p]).length;omega)]⟩⟩,fun h24 W hg=>?_⟩;rw [if_neg (by show ¬24<(zs++[p]).length;omega),hq]at hend;refine((hv3.grows hg).meet (k:=q) (s:=(zs++[p],ls)) (vz:=.slice (some ⟨g,0,none⟩) (zs.length+1) cp) (vl:=.slice va9 ls.length vk9) zb (aV.row (P:=fun _=>False) (.grows hg) hrow fun _ _ e=>e) (aV.row (P:=fun _=>False) (.grows hg) r9' fun _ _ e=>e) (by show(zs++[p]).length<=24;omega) lm hm (fun z hz=>?_) pl (fun e=>?_) (fun e=>by have:=b9 NS e;omega) (fun b e=>?_) s9).mono ?_
   ·rcases mem_append.1 hz with hz|hz
    ·exact pz z hz
    ·obtain rfl:=mem_singleton.1 hz;omega
   ·have:g=NS:=by simpa [Value.ownBlock]using e
    omega
   ·have:g=b:=by simpa [Value.ownBlock]using e
    subst this;exact hgS
   ·rintro e w' ⟨bb,rfl,hbl,hsz,-,hcc⟩;refine⟨bb,rfl,hbl, ?_⟩;rcases hcc with ⟨rfl,hp⟩|⟨rfl,T',Rs',Rl',hp,hv',-⟩
    ·exact .inl ⟨rfl,hend.trans hp⟩
    ·exact .inr ⟨rfl,T',Rs',Rl',hend.trans hp,hv'⟩)
  have HB:=yq hB;have hzl:zs.length<=24:=l24;clear hap hT1 hv s8 s9 d89 l24 lm pz pl b8 b9 sA r8 r9 hq h21 hpz
  go_wp2_with (at_builtin;refine wpList_append_lies _ rfl _ _ 22 rfl B 3 i0 _ 1 8 underlying22 hi0 hz0 hz1 hz2 rfl zf _ _ _ rfl (HR8a.out.alloc _) ⟨wc.heap.size,0,none⟩ 1 1 [.int .i64 p] rfl rfl ?c1 ?c2 zf ?c3 ?c4 ?c5 (wc.heap.size+1) ze ?_)
  case c1=>(refine ax _ [_] _ _ ?_);simp
  case c2=>intro u hu;simp at hu;subst hu;rfl
  case c3=>unfold maxLen;omega
  case c4=>omega
  case c5=>have:=HB.out;simp;omega
  intro g cp w3 hown hgrow hgg hgl;have hg2:wc.grownBy w3 (Value.slice va8 zs.length vk8).ownBlock:=⟨hgrow.os,hgrow.tape,hgrow.output,by have:=hgrow.size;simp at this;omega,fun k hk hne=>(hgrow.block k zg hne).trans (Below.heap_alloc wc _ k hk)⟩;obtain⟨hA,hC⟩:=HFIN.out g cp w3 hown hg2 (hgg.imp id fun e=>by omega);by_cases h24:24<zs.length+1
  ·have HA:=yq (hA h24);have d25:(24:Int)<(zs.length:Int)+1:=by omega
   clear hA hC hown hgrow hgg hg2 h24
   go_wp2_with fail
   go_returns
   exact HA.out _ af
  ·have HC:=yq (hC h24);have d25:¬(24:Int)<(zs.length:Int)+1:=by omega
   clear hA hC hown hgrow hgg hg2 h24;unfold JD at HC
   go_wp2_with (go_at_call 55;refine(HC.out _ af).mono ?_;rintro e' w4 ⟨bb,rfl,hrest⟩)
   go_returns
   exact⟨bb,rfl,hrest⟩
def rsZ:Array Value:=#[.bool false,.slice none 0 0,.slice none 0 0]
theorem QO:(prog.info? 121).map (fun i=>(i.zero,i.size,i.bytes))=some (some (.agg rsZ),3,56):=by kernel_rfl
theorem Ah(n:Nat)(h:n<=4000)(w:World):(Instr.makeSlice 119 (.int .i64 ((n:Int)+1)) (.int .i64 ((n:Int)+1))).run prog w= .ok (.slice (some ⟨w.heap.size,0,none⟩) (n+1) (n+1)) (w.alloc (.cells (madeCells rsZ ((n+1)*3)) 121)):=
 mZ 119 121 (.agg rsZ) 3 56 underlying119 QO n zb zb w
theorem mf.start(n m:Nat)(W0 W1:World)(h1:W1=W0.alloc (.cells (madeCells rsZ ((n+1)*3)) 121)) :
 mf n W0.heap.size m W0 (List.replicate (n+1) none) (fun _=>.slice none 0 0) (fun _=>.slice none 0 0) W1:=by
 have hn:∀j,(List.replicate (n+1) (none:Option (List Int × List Int))).getD j none=none:=fun j=>by
  rw [getD_eq_getElem?_getD,getElem?_replicate];split<;>rfl
 refine⟨by rw [h1];simp,by rw [h1];exact(Below.refl _ _).alloc (Nat.le_refl _) _,by simp,fun j hj=>?_,fun o=>by rw [h1];exact World.frozen?_alloc_at _ _ _ _ rfl,fun j t ht=>xa,fun j k t u g _ ht=>xa,fun j k t u g ht=>xa⟩;rw [hn,h1];exact nH (z:=rsZ) rfl zf zb
theorem Dh(l:List Ins)(sl:List ByteArray)(vi vs:Value)(w:World)(hI:ig w vi l)(hS:kJ w vs sl) :
 Calls prog 22 #[.agg #[vi,vs]] w (JC (nZ l sl) w):=by
 have hno:∀{l:List Ins} {sl:List ByteArray},fA l sl=false->nZ l sl=(0,8):=fun h=>by unfold nZ;rw [h,if_neg ze]
 have HNO:=yq (fun(h:fA l sl=false)=>hno h);clear hno;have HI:=yq hI;have HS:=yq hS;obtain⟨hl6,ai,ci,rfl,hix⟩:=hI;have HIX:=yq hix;obtain⟨hs6,hmx,as',cs',hcp,rfl,hsx⟩:=hS;have HSX:=yq hsx;have HMX:=yq hmx;clear hix hsx hmx hcp;by_cases h4:4000<l.length
 ·have h4':(4000:Int)<(l.length:Int):=by omega
  have HV:=yq (HNO.out (tJ h4));clear h4
  go_enter func22,ntmps22
  go_wp2_with fail
  go_returns
  rw [HV.out];exact⟨rfl,af⟩
 have h4':¬(4000:Int)<(l.length:Int):=by omega
 by_cases h12:12<sl.length
 ·have h12':(12:Int)<(sl.length:Int):=by omega
  have HV:=yq (HNO.out (l6 yO));clear h4 h12
  go_enter func22,ntmps22
  go_wp2_with fail
  go_returns
  rw [HV.out];exact⟨rfl,af⟩
 have h12':¬(12:Int)<(sl.length:Int):=by omega
 have H4:=yq h4;have H12:=yq h12;clear h4 h12
 go_enter func22,ntmps22
 go_upto_block 0 with fail
 go_cut [2,3,4,5]from 11 (fun v2 v3 _ _ wx=>v2= .int .i64 0/\v3= .int .i64 0/\o9 sl sl.length/\World.Grows ((w.alloc (.cells #[.slice ai l.length ci,.slice as' sl.length cs'] 58))) wx)
 case first=>
  go_wp2_with fail
  go_loopw [2,3,4] (fun v2 v3 v4 wr=>∃i:Nat,i<=sl.length/\v4= .int .i64 i/\v2= .int .i64 0/\v3= .int .i64 0/\Hid (o9 sl i)/\World.Grows ((w.alloc (.cells #[.slice ai l.length ci,.slice as' sl.length cs'] 58))) wr) (fun _ _ v4 _=>sl.length-(intOf v4).toNat)
  case atStart=>exact⟨0,by omega,rfl,rfl,rfl,yq (o9.zero sl),af⟩
  case round=>
   obtain⟨i,hi,rfl,rfl,rfl,HK,hg0⟩:=hrel;have HG0:=yq hg0;have hg:w.Grows wr:=gqq af hg0;have HG:=yq hg
   have cb1:wr.cell? ⟨w.heap.size,1,none⟩=some (.slice as' sl.length cs'):=by
    rw [World.cell?_of_block (hg0.below.block _ ze),World.cell?_alloc_at _ _ _ _ rfl];rfl
   have hwr:w.heap.size<wr.heap.size:=by have:=hg0.below.size;simp at this;omega
   by_cases hlt:i<sl.length
   ·rcases HSX.out with h0|⟨b,off,rfl,hb,hx⟩
    ·omega
    have d1:(i:Int)<(sl.length:Int):=by omega
    have ci':wr.cell? ⟨b,off+i,none⟩=some (.string (sl.getD i ByteArray.empty)):=(World.cell?_of_block (hg.below.block b hb)).trans (hx i hlt);have HX:Hid (∀wq,wr.Grows wq->∀j,j<sl.length->wq.cell? ⟨b,off+j,none⟩=some (.string (sl.getD j ByteArray.empty))):=yq (fun wq hq j hj=>(World.cell?_of_block ((gqq hg hq).below.block b hb)).trans (hx j hj));have HIW:=yq (fun w=>uy (sl.getD i ByteArray.empty) w (HMX.out _ xv));have hbr:b<wr.heap.size:=by have:=hg.below.size;omega
    have HLT:=yq hlt;clear hx hg hg0 hlt;obtain⟨wo,rfl⟩:∃wo,wo=wr:=⟨_,rfl⟩
    go_wp2_with fail
    go_loopw [2,3,5] (fun v2 v3 v5 wr=>∃k:Nat,k<=i/\v5= .int .i64 k/\v2= .int .i64 0/\v3= .int .i64 0/\wo.Grows wr/\Hid (∀j,j<k->sl.getD j ByteArray.empty≠sl.getD i ByteArray.empty)) (fun _ _ v5 _=>i-(intOf v5).toNat)
    case atStart=>exact⟨0,by omega,rfl,rfl,rfl,af,yq (fun j hj=>by omega)⟩
    case round=>
     obtain⟨k,hk,rfl,rfl,rfl,hgq,HD⟩:=hrel;have HGQ:=yq hgq;have cq1:wr.cell? ⟨w.heap.size,1,none⟩=some (.slice (some ⟨b,off,none⟩) sl.length cs'):=(World.cell?_of_block (hgq.below.block _ hwr)).trans cb1;have hwr:w.heap.size<wr.heap.size:=by have:=hgq.below.size;omega
     have hbq:b<wr.heap.size:=by have:=hgq.below.size;omega
     by_cases hki:k<i
     ·have e1:=HX.out wr hgq k (by have:=HLT.out;omega);have e2:=HX.out wr hgq i HLT.out;have d2:(k:Int)<(i:Int):=by omega
      have d3:(k:Int)<(sl.length:Int):=by omega
      have HKI:=yq hki;obtain⟨sk,hsk⟩:∃s,sl.getD k ByteArray.empty=s:=⟨_,rfl⟩;obtain⟨si,hsi⟩:∃s,sl.getD i ByteArray.empty=s:=⟨_,rfl⟩;rw [hsk]at e1;rw [hsi]at e2 HIW;have HSS:=yq (And.intro hsk hsi);clear hgq hki hsk hsi;by_cases hss:sk=si
      ·have hcmp:(sk.toList==si.toList)=true:=by rw [hss];simp
       have HV:=yq (HNO.out (l6 (by
        rw [rF HLT.out (by
         rw [HSS.out.2,<-hss,<-HSS.out.1];have:=HKI.out;rw [mem_iff_getElem?];refine⟨k, ?_⟩
         rw [getElem?_take,if_pos this,getD_eq_getElem?_getD,getElem?_eq_getElem (by have:=HLT.out;omega)];rfl)];rfl)))
       clear hss
       go_wp2_with fail
       go_region
       go_wp2_with fail
       go_returns
       rw [HV.out];exact⟨rfl,gqq HG.out (gqq HGQ.out af)⟩
      ·have hcmp:(sk.toList==si.toList)=false:=by
        rw [Bool.eq_false_iff];intro hc;have hc':sk.toList=si.toList:=by simpa using hc
        rw [ByteArray.toList_eq,ByteArray.toList_eq]at hc';exact hss (ByteArray.ext (Array.toList_inj.1 hc'))
       have HN:Hid (∀j,j<k+1->sl.getD j ByteArray.empty≠sl.getD i ByteArray.empty):=yq (fun j hj=>by
        by_cases e:j=k
        ·subst e;rw [HSS.out.1,HSS.out.2];exact hss
        ·exact HD.out j zb)
       clear hss
       go_wp2_with fail
       go_region
       go_wp2_with fail
       go_roundw
       case rel=>exact⟨k+1,HKI.out,by go_num,rfl,rfl,gqq HGQ.out af,HN⟩
       case measure=>simp [intOf];have:=HKI.out;omega
     ·obtain rfl:k=i:=by omega
      have e2:=HX.out wr hgq k HLT.out
      have HNM:Hid (sl.getD k ByteArray.empty∉sl.take k):=yq (fun h=>by
       rw [mem_iff_getElem?]at h;obtain⟨j,hj⟩:=h;rw [getElem?_take]at hj;by_cases hjk:j<k
       ·rw [if_pos hjk]at hj;refine HD.out j hjk ?_;rw [getD_eq_getElem?_getD,hj];rfl
       ·rw [if_neg hjk]at hj;cases hj)
      cases hw:isWord (sl.getD k ByteArray.empty)with
      |false=>
       rw [hw]at HIW;have HV:=yq (HNO.out (l6 (by rw [rG HLT.out hw];rfl)));generalize sl.getD k ByteArray.empty=s at *;clear hw hgq hki hk
       go_wp2_with (go_at_call 53;refine gw (HIW.out _) ?_)
       go_returns
       rw [HV.out];exact⟨rfl,gqq HG.out (gqq HGQ.out af)⟩
      |true=>
       rw [hw]at HIW;have HN:=yq (HK.out.next HLT.out hw HNM.out);generalize sl.getD k ByteArray.empty=s at *;clear hw hgq hki hk
       go_wp2_with (go_at_call 53;refine gw (HIW.out _) ?_)
       go_roundw
       case rel=>exact⟨k+1,HLT.out,by go_num,rfl,rfl,HN,gqq HG0.out (gqq HGQ.out af)⟩
       case measure=>simp [intOf];have:=HLT.out;omega
   ·obtain rfl:i=sl.length:=by omega
    clear hg hg0 hlt hi
    go_wp2_with fail
    go_meet
    exact⟨rfl,rfl,HK.out,HG0.out⟩
 obtain⟨rfl,rfl,hwk,hg0⟩:=hcut;have HWK:=yq hwk;have hg:w.Grows wc:=gqq af hg0;have HG:=yq hg
 have cb0:wc.cell? ⟨w.heap.size,0,none⟩=some (.slice ai l.length ci):=by
  exact Kg
 have cb1:wc.cell? ⟨w.heap.size,1,none⟩=some (.slice as' sl.length cs'):=by
  exact Kg
 have hwc:w.heap.size<wc.heap.size:=by have:=hg0.below.size;simp at this;omega
 have HOPD:Hid (∀w' k,w.Grows w'->k<l.length->Calls prog 54 #[.agg #[.slice ai l.length ci,.slice as' sl.length cs'],.int .i64 k] w' fun e w''=>e= .returned (.bool (wfF sl.length l.length k (l.getD k default)))/\w'.Grows w''):=yq (fun w' k hg hk=>BK l sl _ _ k w' (HI.out.grows hg) (HS.out.grows hg) hk);clear hwk hg hg0;obtain⟨wd,rfl⟩:∃wd,wd=wc:=⟨_,rfl⟩
 go_upto_block 4 with fail
 go_cut [2,3,4,5,7]from 11 (fun v2 v3 _ _ _ wx=>v2= .int .i64 0/\v3= .int .i64 0/\fA l sl=true/\wd.Grows wx)
 case first=>
  go_wp2_with fail
  go_loopw [2,3,7] (fun v2 v3 v7 wr=>∃k:Nat,k<=l.length/\v7= .int .i64 k/\v2= .int .i64 0/\v3= .int .i64 0/\Hid (∀j,j<k->wfF sl.length l.length j (l.getD j default)=true)/\wd.Grows wr/\wd.heap.size<wr.heap.size/\(∀a,wr.frozen? ⟨wd.heap.size,a,none⟩=false)/\∀a,a<12->wr.cell? ⟨wd.heap.size,a,none⟩=some (.bool (decide (0<jE l k a)))/\jE l k a<=1) (fun _ _ v7 _=>l.length-(intOf v7).toNat)
  case atStart=>exact⟨0,by omega,rfl,rfl,rfl,yq (fun j hj=>by omega),af,by simp,fun a=>World.frozen?_alloc_at _ _ _ _ rfl,fun a ha=>⟨by
   rw [World.cell?_alloc_at _ _ _ _ rfl,mO]
   rcases(by omega:a=0\/a=1\/a=2\/a=3\/a=4\/a=5\/a=6\/a=7\/a=8\/a=9\/a=10\/a=11)with rfl|rfl|rfl|rfl|rfl|rfl|rfl|rfl|rfl|rfl|rfl|rfl<;>rfl,by rw [mO];omega⟩⟩
  case round=>
   obtain⟨k,hk,rfl,rfl,rfl,HK,hg1,hwr1,hfz,hcs⟩:=hrel;have HFZ:=yq hfz;have HG1:=yq hg1;have HC:=yq hcs;have HWG:Hid (w.Grows wr):=yq (gqq HG.out hg1);have cr0:wr.cell? ⟨w.heap.size,0,none⟩=some (.slice ai l.length ci):=(World.cell?_of_block (hg1.below.block _ hwc)).trans cb0;have cr1:wr.cell? ⟨w.heap.size,1,none⟩=some (.slice as' sl.length cs'):=(World.cell?_of_block (hg1.below.block _ hwc)).trans cb1;have hww:w.heap.size<wr.heap.size:=by omega
   clear hfz hcs;by_cases hlt:k<l.length
   ·rcases HIX.out with h0|⟨b,off,rfl,hb,hx⟩
    ·omega
    have d1:(k:Int)<(l.length:Int):=by omega
    obtain⟨-,x0,x1,-,-⟩:=hx k hlt;have e:∀o,wr.cell? ⟨b,o,none⟩=w.cell? ⟨b,o,none⟩:=fun o=>World.cell?_of_block (HWG.out.below.block b hb);have y0:=(e _).trans x0;have y1:=(e _).trans x1;have hbr:b<wr.heap.size:=by have:=HWG.out.below.size;omega
    have HOC:=yq (fun w' (hg':wr.Grows w')=>HOPD.out w' k (gqq HWG.out hg') hlt);have HLT:=yq hlt;have HSet:=yq (fun h=>CV hlt h);have HSkip:=yq (fun h=>wY hlt h);clear e x0 x1 hx hg1 hlt
    cases hw:wfF sl.length l.length k (l.getD k default)with
    |false=>
     rw [hw]at HOC;have HV:=yq (HNO.out (CF HLT.out hw));clear hw
     go_wp2_with (go_at_call 54;refine gvq (HOC.out _ af) ?_;intro bs d)
     go_returns
     rw [HV.out];exact⟨rfl,gqq HWG.out af⟩
    |true=>
     rw [hw]at HOC
     have HN:Hid (∀j,j<k+1->wfF sl.length l.length j (l.getD j default)=true):=yq (fun j hj=>by
      by_cases e:j=k
      ·subst e;exact hw
      ·exact HK.out j zb)
     have HRE:=yq (fun o4=>(dH hw (by rw [o4];omega)).2.2.1 (.inr o4));clear hw;by_cases h4:(l.getD k default).op=4
     ·obtain⟨n,hn⟩:∃n:Nat,(l.getD k default).a=(n:Int):=⟨(l.getD k default).a.toNat,by have:=(HRE.out h4).1;omega⟩;have hn12:n<12:=by have:=(HRE.out h4).2;have:=H12.out;omega
      have HST:=yq (HSet.out h4);rw [hn]at y1;have hnt:(l.getD k default).a.toNat=n:=by omega
      rw [hnt]at HST;obtain⟨cS,hS1⟩:=HC.out n hn12;have d2:(0:Int)<=(n:Int):=by omega
      have d3:(n:Int)<12:=by omega
      clear HSet HSkip HRE hnt hn;obtain⟨c,hc⟩:∃c:Nat,jE l k n=c:=⟨_,rfl⟩;rw [hc]at cS hS1;rw [h4]at y0;have hfn:=HFZ.out n;have HCC:=yq hc;have HW1:=yq hwr1;clear hc h4;by_cases hc1:0<c
      ·have HV:=yq (HNO.out (l6 (l:=l) (sl:=sl) (by rw [decide_eq_false (ku (l:=l) (k:=k+1) (a:=n) (by rw [HST.out n,if_pos rfl,HCC.out];omega))];simp)));rw [decide_eq_true hc1]at cS;clear hc1
       go_wp2_with (go_at_call 54;refine gvq (HOC.out _ af) ?_;intro bs d)
       go_returns
       rw [HV.out];exact⟨rfl,gqq HWG.out af⟩
      ·have HC0:=yq hc1;rw [decide_eq_false hc1]at cS;clear hc1
       go_wp2_with (go_at_call 54;refine gvq (HOC.out _ af) ?_;intro bs d)
       go_roundw
       case rel=>
        have hs1:(wr.setCell ⟨wd.heap.size,n,none⟩ (.bool true)).heap.size=wr.heap.size:=by simp [World.setCell]
        refine⟨k+1,HLT.out,by go_num,rfl,rfl,HN,.of_below ((HG1.out.below.setCell (Nat.le_refl _) _).grow (by rw [hs1];omega) _ _),by simp [World.setCell];omega,fun a=>?_,fun a ha=>?_⟩
        ·rw [World.frozen?_grow _ _ _ (by rw [hs1];exact hwr1),World.frozen?_setCell];exact HFZ.out a
        ·rw [World.cell?_grow _ _ _ (by rw [hs1];exact hwr1),HST.out a];by_cases han:n=a
         ·subst han;rw [World.cell?_setCell_same _ _ _ cS,if_pos rfl,HCC.out];exact⟨by simp,by have:=HC0.out;omega⟩
         ·rw [World.cell?_setCell_other _ _ _ _ (by simpa using han),if_neg han];exact HC.out a ha
       case measure=>simp [intOf];have:=HLT.out;omega
     ·have h4':((l.getD k default).op==4)=false:=by simpa using h4
      have HN4:=yq h4;obtain⟨x,hx⟩:∃x,l.getD k default=x:=⟨_,rfl⟩;rw [hx]at y0 y1 h4';clear h4 hx
      go_wp2_with (go_at_call 54;refine gvq (HOC.out _ af) ?_;intro bs d)
      go_roundw
      case rel=>exact⟨k+1,HLT.out,by go_num,rfl,rfl,HN,gqq HG1.out af,by simp;omega,fun a=>(World.frozen?_of_block (World.Grows.below (af:wr.Grows _)|>.block _ hwr1)).trans (HFZ.out a),fun a ha=>by
       rw [HSkip.out HN4.out]
       exact⟨by rw [World.cell?_of_block (World.Grows.below (af:wr.Grows _)|>.block _ hwr1)];exact(HC.out a ha).1,(HC.out a ha).2⟩⟩
      case measure=>simp [intOf];have:=HLT.out;omega
   ·obtain rfl:k=l.length:=by omega
    have HFY:Hid (fA l sl=true):=yq (wP (by have:=H4.out;omega) HK.out (by
     rw [rE HWK.out h12',decide_eq_true (oI fun a=>by
      rcases Nat.lt_or_ge a 12 with h|h
      ·exact(HC.out a h).2
      ·rw [CW (fun i hi ho=>by
        have h1:=(dH (HK.out i hi) (by rw [ho];omega)).2.2.1 (.inr ho);have:=H12.out
        omega) h];omega)];rfl))
    clear hlt hk hg1
    go_wp2_with fail
    go_meet
    exact⟨rfl,rfl,HFY.out,HG1.out⟩
 obtain⟨rfl,rfl,hform,hg1⟩:=hcut;have HVB:Hid (nZ l sl=goB l 0 (some ([],List.replicate sl.length 0)::List.replicate l.length none) 0):=yq (by unfold nZ;rw [if_pos hform]);have HG1:Hid (w.Grows wc):=yq (gqq HG.out hg1);have cc0:wc.cell? ⟨w.heap.size,0,none⟩=some (.slice ai l.length ci):=(World.cell?_of_block (hg1.below.block _ hwc)).trans cb0;have cc1:wc.cell? ⟨w.heap.size,1,none⟩=some (.slice as' sl.length cs'):=(World.cell?_of_block (hg1.below.block _ hwc)).trans cb1;have hwx:w.heap.size<wc.heap.size:=by have:=hg1.below.size;omega
 have hmk:=Ah l.length (by have:=H4.out;omega);have HFM:=yq hform;clear hg1 hform cb0 cb1
 go_upto_region 24 with fail
 obtain⟨W1,hW1⟩:∃W1,wc.alloc (.cells (madeCells rsZ ((l.length+1)*3)) 121)=W1:=⟨_,rfl⟩;rw [hW1];have HV1:=yq (mf.start l.length sl.length wc W1 hW1.symm);have hg1:wc.Grows W1:=by rw [<-hW1];exact af
 have hz1:W1.heap.size=wc.heap.size+1:=by rw [<-hW1];simp
 have c10:W1.cell? ⟨w.heap.size,0,none⟩=some (.slice ai l.length ci):=(World.cell?_of_block (hg1.below.block _ hwx)).trans cc0;have c11:W1.cell? ⟨w.heap.size,1,none⟩=some (.slice as' sl.length cs'):=(World.cell?_of_block (hg1.below.block _ hwx)).trans cc1;have hw1:w.heap.size<W1.heap.size:=by omega
 have hmi:=run_make_row' (P:=prog) 22 3 (.int .i64 0) 8 underlying22 Ap rfl .i64 .i64 sl.length zb zb
 have HMT:Hid (∀W',(W1.alloc (.cells (madeCells #[.int .i64 0] sl.length) 3)).Grows W'->Calls prog 55 #[.pointer (some ⟨wc.heap.size,0,none⟩),.slice none 0 0,.slice (some ⟨W1.heap.size,0,none⟩) sl.length sl.length] W' (MtP l.length wc.heap.size sl.length wc (List.replicate (l.length+1) none) (fun _=>.slice none 0 0) 0 ([],List.replicate sl.length 0) W')):=yq (fun W' hgr=>by
  refine(HV1.out.grows (gqq af hgr)).meet (k:=0) (B1:=0) (B2:=0) (s:=([],List.replicate sl.length 0)) (vz:=.slice none 0 0) (vl:=.slice (some ⟨W1.heap.size,0,none⟩) sl.length sl.length) zb (World.ownsRow_nil _ _ _ _) ?_ ze ze (by have:=H12.out;omega) ze (fun z hz=>?_) zA (fun e=>?_) (fun b e=>by cases e) (fun b e k t ht=>?_)
  ·have h0:=World.ownsRow_lit (base:=0) (e:=3) (size:=1) W1 (madeCells #[.int .i64 0] sl.length) sl.length zb zu (by rw [size_madeCells];omega);rw [toList_madeCells_one]at h0;rw [map_replicate,length_replicate];exact aV.row (P:=fun _=>False) (.grows hgr) h0 fun _ _ e=>e
  ·have:=eq_of_mem_replicate hz;omega
  ·have:W1.heap.size=wc.heap.size:=by simpa [Value.ownBlock]using e
   omega
  ·rw [getD_eq_getElem?_getD,getElem?_replicate]at ht
   split at ht<;>cases ht)
 rw [hz1]at HMT
 have HP0:Hid (gH (List.replicate (l.length+1) none) 0 (([]:List Int),List.replicate sl.length 0)=some (some ([],List.replicate sl.length 0)::List.replicate l.length none)):=yq (by
  unfold gH
  rw [replicate_succ];rfl)
 clear hmk hW1 hg1
 go_wp2_with fail
 refine TS.begin [6] (World.Grows W1) zd zd aj (fun hS=>?_);refine kq 0 hS ?_;refine kq 1 hS ?_;refine kq 2 hS ?_;refine kq 3 hS ?_;refine kq 4 hS ?_;refine TS.one (i:=5) zd rfl (fun K1 hK1=>?_);have HK1:=yq hK1;clear hK1 hS;dsimp only [getElem_toArray,getElem_cons_succ,getElem_cons_zero]
 go_simp
 refine TS.go HK1.out af (fun hS=>?_);clear HK1 K1
 (try simp only [nS])
 refine TS.one (i:=6) zd rfl (fun K1 hK1=>?_);have HK1:=yq hK1;clear hK1 hS;dsimp only [getElem_toArray,getElem_cons_succ,getElem_cons_zero]
 go_simp
 go_at_call 55
 refine(HMT.out _ af).mono ?_;rintro e' w2 ⟨bb,rfl,hbl,hsz2,-,⟨rfl,hp⟩|⟨rfl,T',Rs',Rl',hp,hv,-⟩⟩
 ·rw [HP0.out]at hp;cases hp
 rw [HP0.out]at hp;obtain rfl:=Option.some.inj hp;have HV2:=yq hv;have c20:w2.cell? ⟨w.heap.size,0,none⟩=some (.slice ai l.length ci):=(World.cell?_of_block (a:=⟨w.heap.size,0,none⟩) (hbl.block _ hwx)).trans cc0;have c21:w2.cell? ⟨w.heap.size,1,none⟩=some (.slice as' sl.length cs'):=(World.cell?_of_block (a:=⟨w.heap.size,1,none⟩) (hbl.block _ hwx)).trans cc1;have hw2:w.heap.size<w2.heap.size:=by have:=hv.sz;omega
 refine HK1.out _ _ (fun h=>absurd zf h) (TS.done zd ?_);clear HK1 K1 hp hbl hv c10 c11 hmi
 go_wp2_with fail
 go_loopw [2,3,9,10] (fun v2 v3 v9 v10 wr=>∃(i:Nat) (T:List (Option (List Int × List Int))) (Rs Rl:Nat->Value) (dep:Nat),i<=l.length/\v10= .int .i64 i/\v9= .int .i64 dep/\v2= .int .i64 0/\v3= .int .i64 0/\mf l.length wc.heap.size sl.length wc T Rs Rl wr/\Hid (goB (l.drop i) i T dep=nZ l sl)/\dep<=24) (fun _ _ _ v10 _=>l.length-(intOf v10).toNat)
 case atStart=>exact⟨0,_,_,_,0,by omega,rfl,rfl,rfl,rfl,HV2.out,yq (by rw [drop_zero,HVB.out]),by omega⟩
 case round=>
  obtain⟨i,T,Rs,Rl,dep,hi,rfl,rfl,rfl,rfl,hv,HGO,hd24⟩:=hrel;have HVR:=yq hv;have HLW:Hid (w.Grows wr):=yq (gqq HG1.out (.of_below hv.lo));have cr0:wr.cell? ⟨w.heap.size,0,none⟩=some (.slice ai l.length ci):=(World.cell?_of_block (a:=⟨w.heap.size,0,none⟩) (hv.lo.block _ hwx)).trans cc0;have cr1:wr.cell? ⟨w.heap.size,1,none⟩=some (.slice as' sl.length cs'):=(World.cell?_of_block (a:=⟨w.heap.size,1,none⟩) (hv.lo.block _ hwx)).trans cc1;have hNSr:=hv.sz;have hwr:w.heap.size<wr.heap.size:=by omega
  by_cases hlt:i<l.length
  ·have d1:(i:Int)<(l.length:Int):=by omega
   have d2:(i:Int)<(l.length:Int)+1:=by omega
   have HLT:=yq hlt;have HDR:Hid (l.drop i=l.getD i default::l.drop (i+1)):=yq xq;rw [HDR.out]at HGO;have hst:=hv.st i zb
   cases hT:T.getD i none with
   |none=>
    rw [hT]at hst;have z0:=hst 0 _ rfl;rw [Nat.add_zero]at z0;have HR:Hid (nZ l sl=(0,8)):=yq (by rw [<-HGO.out,goB,hT]);clear hT hst hv hlt hi
    go_wp2_with fail
    go_returns
    rw [HR.out];exact⟨rfl,gqq HLW.out af⟩
   |some t=>
    rw [hT]at hst;obtain⟨r1,r2,r3,r4,-⟩:=hv.row i t hT;obtain⟨sa,sc,hsa⟩:=dP r1;have z0:=hst 0 _ rfl;have z1:=hst 1 _ rfl;rw [Nat.add_zero]at z0;rw [hsa]at z1
    have HST:=yq (fun W (hg:wr.Grows W)=>JZ l sl (.slice ai l.length ci) (.slice as' sl.length cs') i wc.heap.size wc T Rs Rl t W (HI.out.grows (gqq HLW.out hg)) HLT.out (HVR.out.grows hg) (by
     have h1:=HFM.out;unfold fA at h1;simp only [Bool.and_eq_true,all_eq_true,mem_range]at h1
     exact h1.1.2 i HLT.out) (by have:=H12.out;omega) hT ⟨_,_,rfl⟩)
    have HTT:=yq hT;have HL24:=yq r3;clear hT hst hv hlt hi r1 r2 r3 r4 hsa
    go_wp2_with fail
    go_at_call 56
    refine(HST.out _ af).mono ?_;rintro e' w3 ⟨bb,rfl,hbl,⟨rfl,hr⟩|⟨rfl,T',Rs',Rl',hr,hv'⟩⟩
    ·have HR:Hid (nZ l sl=(0,8)):=yq xO;have HG3:Hid (w.Grows w3):=yq (gqq HG1.out (.of_below hbl));clear hbl hr
     go_wp2_with fail
     go_returns
     rw [HR.out];exact⟨rfl,gqq HG3.out af⟩
    ·have HGN:Hid (goB (l.drop (i+1)) (i+1) T' (max dep t.1.length)=nZ l sl):=yq xO;have HV3:=yq hv';clear hbl hr hv'
     go_wp2_with fail
     go_roundw
     case rel=>exact⟨i+1,T',Rs',Rl',max dep t.1.length,HLT.out,by go_num,by first|(simp;done)|(simp;omega),rfl,rfl,HV3.out.grows af,HGN,by have:=HL24.out;omega⟩
     case measure=>simp [intOf];have:=HLT.out;omega
  ·obtain rfl:i=l.length:=by omega
   have hst:=hv.st l.length (Nat.le_refl _);rw [drop_length,goB]at HGO
   cases hT:T.getD l.length none with
   |none=>
    rw [hT]at hst HGO;have z0:=hst 0 _ rfl;have z1:=hst 1 _ rfl;rw [Nat.add_zero]at z0;have HR:Hid (nZ l sl=(0,8)):=yq HGO.out.symm;clear hT hst hv hlt hi
    go_wp2_with fail
    go_returns
    rw [HR.out];exact⟨rfl,gqq HLW.out af⟩
   |some t=>
    rw [hT]at hst HGO;obtain⟨r1,-⟩:=hv.row l.length t hT;obtain⟨sa,sc,hsa⟩:=dP r1;have z0:=hst 0 _ rfl;have z1:=hst 1 _ rfl;rw [Nat.add_zero]at z0;rw [hsa]at z1;by_cases he:t.1= []
    ·have HR:Hid (nZ l sl=((dep:Int),0)):=yq (by rw [<-HGO.out];simp only [if_pos he]);have hl0:t.1.length=0:=by rw [he];rfl
     rw [hl0]at z1;clear hT hst hv hlt hi r1 hsa he hl0
     go_wp2_with fail
     go_returns
     rw [HR.out];exact⟨rfl,gqq HLW.out af⟩
    ·have HR:Hid (nZ l sl=(0,8)):=yq (by rw [<-HGO.out];simp only [if_neg he])
     have hl0:(0:Int)<(t.1.length:Int):=by
      have:t.1.length≠0:=fun e=>he (eq_nil_of_length_eq_zero e);omega
     have hl1:0<t.1.length:=by omega
     have hl2:(decide ((0:Int)<(t.1.length:Int)))=true:=decide_eq_true hl0;clear hT hst hv hlt hi r1 hsa he
     go_wp2_with fail
     go_returns
     rw [HR.out];exact⟨rfl,gqq HLW.out af⟩
theorem Lj(v:Vw)(y:Value)(s:ByteArray)(w:World)(hr:fP v)(hy:bR w y v.years):Calls prog 57 #[vwV v y,.string s] w fun r w'=>r= .returned (inV (dJ v s))/\w.Grows w':=by
 by_cases h:bE s.toList=0\/v.ok=false
 ·exact Ck v y s w hr hy h
 ·have h1:bE s.toList≠0:=fun e=>h (.inl e)
  have h2:v.ok=true:=by cases hv:v.ok with
   |true=>rfl
   |false=>exact absurd (.inr hv) h
  by_cases hb:s.toList= [98,97,115,101]
  ·exact Cm v y s w hr hy h1 h2 hb
  ·exact EA v y s w hr hy h1 h2 hb
theorem QV(x:Int)(h:6<=x/\x<=20):aY (opF x)=(aB (opF x):Nat):=by
 rcases(show x=6\/x=7\/x=8\/x=9\/x=10\/x=11\/x=12\/x=13\/x=14\/x=15\/x=16\/x=17\/x=18\/x=19\/x=20 by omega)with rfl|rfl|rfl|rfl|rfl|rfl|rfl|rfl|rfl|rfl|rfl|rfl|rfl|rfl|rfl<;>decide
theorem R7:Gi:=
 ⟨fun op x b o cp w h1 h2 h3 h4 h5 c0 c1 c2 c3=>E9 op x b o cp w h1 h2 h3 h4 h5 c0 c1 c2 c3,
  fun op x y b o cp w h1 h2 h3 h4 h5 c0 c1 c2 c3 e0 e1 e2 e3=>E8 op x y b o cp w h1 h2 h3 h4 h5 c0 c1 c2 c3 e0 e1 e2 e3,
  fun x _ w=>pK x w,
  fun x h w=>by have:=jB (opF x) w;rw [QV x h]at this;exact this,
  fun l n v w h=>JH l n v w h,
  fun v y s w h1 h2=>Lj v y s w h1 h2⟩
theorem Sd:PR:=⟨fun l sl vi vs w h1 h2=>by rw [JS];exact Dh l sl vi vs w h1 h2,fun v y w h1 h2=>gT v y w h1 h2⟩
theorem xR(l:List Ins)(sl:List ByteArray)(v:Vw)(vi vs y:Value)(w:World)(hI:ig w vi l)(hS:kJ w vs sl)(hr:fP v)(hy:bR w y v.years) :
 Calls prog 23 #[.agg #[vi,vs],vwV v y] w (qo (nA l sl v) w):=by
 have h:=MB R7 Sd l sl v vi vs y w hI hS hr hy;rw [DW]at h;exact h
theorem lu.grows{w w':World}{v:Value}{st:List (ByteArray × Val)}(h:lu w v st)(hg:w.Grows w'):lu w' v st:=by
 obtain⟨a,c,rfl,hn,hs⟩:=h;refine⟨a,c,rfl,hn,hs.imp id ?_⟩;rintro⟨g,rfl,hlt,hc⟩;have q:∀o,w'.cell? ⟨g,o,none⟩=_:=fun o=>World.cell?_of_block (hg.below.block g hlt);refine⟨g,rfl,Nat.lt_of_lt_of_le hlt hg.below.size,fun i hi=>?_⟩;obtain⟨e0,e1,e2,e3,e4⟩:=hc i hi;exact⟨(q _).trans e0,(q _).trans e1,(q _).trans e2,(q _).trans e3,(q _).trans e4⟩
theorem vv{w:World}{a:Option Addr}{n c:Nat}{st:List (ByteArray × Val)}(h:lu w (.slice a n c) st){i:Nat}(hi:i<st.length):∃g,a=some ⟨g,0,none⟩/\g<w.heap.size/\w.cell? ⟨g,i*5,none⟩=some (.string (jb st i).1)/\w.cell? ⟨g,i*5+1,none⟩=some (.int .i64 (jb st i).2.dim)/\w.cell? ⟨g,i*5+2,none⟩=some (.bool (jb st i).2.yes)/\w.cell? ⟨g,i*5+3,none⟩=some (.int .i64 (jb st i).2.n)/\w.cell? ⟨g,i*5+4,none⟩=some (.int .i64 (jb st i).2.d):=by
 obtain⟨a',c',hv,-,h0|⟨g,hga,hg,hc⟩⟩:=h
 ·omega
 ·simp only [Value.slice.injEq]at hv;obtain⟨rfl,-,-⟩:=hv;obtain⟨e0,e1,e2,e3,e4⟩:=hc i hi;exact⟨g,hga,hg,e0,e1,e2,e3,e4⟩
theorem Bp(st:List (ByteArray × Val))(va vb:Value)(w:World)(ha:lu w va st)(hb:lu w vb st):Calls prog 24 #[va,vb] w fun e w'=>e= .returned (.bool true)/\w.Grows w':=by
 have HA:=yq ha;have HB:=yq hb;obtain⟨a,c,rfl,hn,-⟩:=ha;obtain⟨b,d,rfl,-,-⟩:=hb
 go_enter func24,ntmps24
 go_wp2_with fail
 go_loopw [5] (fun v3 wr=>∃k:Nat,k<=st.length/\v3= .int .i64 k/\w.Grows wr) (fun v3 _=>st.length-(intOf v3).toNat)
 case atStart=>exact⟨0,by omega,rfl,.refl _⟩
 case round=>
  obtain⟨k,hk,rfl,hg⟩:=hrel;have HG:=yq hg;by_cases hlt:k<st.length
  ·obtain⟨ga,rfl,hba,p0,p1,p2,p3,p4⟩:=vv (HA.out.grows hg) hlt;obtain⟨gb,rfl,hbb,q0,q1,q2,q3,q4⟩:=vv (HB.out.grows hg) hlt;have d1:(k:Int)<(st.length:Int):=by omega
   have HL:=yq hlt;generalize(jb st k).1=nm at *;generalize(jb st k).2=x at *;clear hg hlt hk
   go_wp2_with fail
   go_region
   go_wp2_with fail
   go_roundw
   case rel=>exact⟨k+1,HL.out,by go_num,gqq HG.out af⟩
   case measure=>simp [intOf];have:=HL.out;omega
  ·obtain rfl:k=st.length:=by omega
   clear hg hlt hk
   go_wp2_with fail
   go_returns
   exact⟨rfl,HG.out⟩
theorem QF(hInf:Hid gU)(ls:List (List Int))(gd:List Int)(ps:List (Int × Int × Int))(R:VwR)(vl vg vp vd vy:Value)(sp:Int)(w:World)(hl:fu w vl ls)(hg:bH w vg gd)(hp:AU w vp ps)(hd:bH w vd R.days)(hy:bH w vy R.years)(ht:Tab w) :
 Calls prog 7 #[vl,vg,vp,.agg #[.int .i64 R.age,.int .i64 R.year,.int .i64 R.children,.int .i64 R.base,.int .i64 R.den,vd,vy],.int .i64 sp] w fun e w'=>e= .returned (.bool true)/\w.Grows w':=by
 have HLL:=yq hl;have HGG:=yq hg;have HPP:=yq hp;have HD:=yq hd;have HYY:=yq hy;obtain⟨-,-,ga,gc,rfl,-⟩:=id hg;obtain⟨-,la,lc,rfl,-⟩:=id hl;obtain⟨pa,pc,rfl,-⟩:=id hp;obtain⟨-,-,da,dc,rfl,-⟩:=id hd;obtain⟨-,-,ya,yc,rfl,-⟩:=id hy;by_cases h1:8<ls.length
 ·have h2:(8:Int)<(ls.length:Int):=by omega
  clear hl hg hp hInf ht HLL HGG HPP hd hy HD HYY
  go_enter func7,ntmps7
  go_wp2_with fail
  go_returns
  exact⟨rfl,af⟩
 have h2:¬(8:Int)<(ls.length:Int):=by omega
 by_cases h3:100<gd.length
 ·have h4:(100:Int)<(gd.length:Int):=by omega
  clear hl hg hp hInf ht HLL HGG HPP hd hy HD HYY
  go_enter func7,ntmps7
  go_wp2_with fail
  go_returns
  exact⟨rfl,af⟩
 have h4:¬(100:Int)<(gd.length:Int):=by omega
 have HC:=yq (fun W (h:w.Grows W)=>MP ls gd _ _ W (fu.growsM HLL.out h) (bH.growsM HGG.out h) zb zb);have HW:=yq (fun W (h:w.Grows W)=>Ph hInf W (ht.grows h));have HVO:=yq (fun W (h:w.Grows W)=>Dz R _ _ W (bH.growsM HD.out h) (bH.growsM HYY.out h));have HRU:=yq (fun W (h:w.Grows W) (l:List Ins) (sl:List ByteArray) (v:Vw) (vi vs yv:Value) (h1:ig W vi l) (h2:kJ W vs sl) (hv:fP v) (h3:bR W yv v.years)=>Dj hInf l sl v vi vs yv W h1 h2 hv h3 (ht.grows h));have HSP:=yq (fun W (h:w.Grows W) (l:List Ins) (sl:List ByteArray) (a:Option Addr) (c:Nat) (vs:Value) (B:Nat) (hI:eH B W (.slice a l.length c) l) (hS:W.ownsRow B 9 1 vs sl.length (slV sl)) (ho:dD l) (hz:∀s∈sl,s.size<=maxLen) (hn:l.length<=5000) (hm:sl.length<=100)=>JE l sl a c vs B ps _ W hI hS ho hz hn hm (HPP.out.grows h));have HIO:=yq (Ik ls gd);have HML:=yq (Ij ls gd);have HNS:=yq (sG (min ls.length 5));have HNL:Hid ((aD (min ls.length 5)).length<=5):=yq (by rw [iB];omega);unfold PS at HC;unfold Mw at HSP;unfold VoP vwV at HVO;have HVG:=yq (Dy R);generalize mY R=V at *;generalize aD (min ls.length 5)=sl at *;generalize vR ls gd=l at *;clear hl hg hp ht HLL HGG HPP h1 h3 hd hy HD HYY
 go_enter func7,ntmps7
 go_upto_region 4 with (first
  |(go_at_call 27;refine(HC.out _ af).mono ?_;rintro e' w1 ⟨a,c,vS,base,rfl,hgr,hb1,hb2,hrow,hsl,hdj⟩;obtain⟨sa,sc,rfl,-,-⟩:=aZ hsl;have HGR:=yq hgr;have HROW:=yq hrow;have HSL:=yq hsl;clear hgr hb1 hb2 hrow hsl hdj)
  |(go_at_call 26;refine(HSP.out _ (gqq af HGR.out) l sl a c _ base HROW.out HSL.out HIO.out HNS.out (by have:=HML.out;omega) (by have:=HNL.out;omega)).mono ?_;rintro e' w2 ⟨a2,c2,sa2,sc2,base2,l2,sl2,rfl,hgr2,hrow2,hsl2,hnl2,hml2,hio2,hsz2⟩;have HG0:=yq (gqq HGR.out hgr2);have HI2:=yq (hrow2.insAt (by have:=HML.out;omega) hio2);have HS2:=yq (Gx hsl2 (by have:=HNL.out;omega) hsz2);clear hgr2 hrow2 hsl2 hnl2 hml2 hio2 hsz2))
 have HG2:Hid (w.Grows w2):=yq (gqq af HG0.out);have hbx:=(HG0.out.below.block w.heap.size ze).trans (heap_alloc_new _ _);have hwl:w.heap.size<w2.heap.size:=(Array.getElem?_eq_some_iff.1 hbx).1;have b0:=cell_of_row w2 _ 0 _ _ _ hbx;have b1:=cell_of_row w2 _ 1 _ _ _ hbx;have b2:=cell_of_row w2 _ 2 _ _ _ hbx;have b3:=cell_of_row w2 _ 3 _ _ _ hbx;have b4:=cell_of_row w2 _ 4 _ _ _ hbx;have b5:=cell_of_row w2 _ 5 _ _ _ hbx;have b6:=cell_of_row w2 _ 6 _ _ _ hbx;clear hbx HC HSP;by_cases hs:sp.tmod 9=0
 focus
  have hs2:(sp.tmod 9==0)=true:=by simpa using hs
  have hvrng:fP ⟨V.age,sp,V.children,V.insured,V.worked,V.voluntary,V.service,V.equated,V.raising,V.resident,V.bn,V.bd,V.years⟩:=⟨HVG.out.base⟩;clear hs;have HVW1:=yq hvrng;have HR2:=yq (fun W (hg:w2.Grows W) (ya:Option Addr) (yc:Nat) (hyr:bR W (.slice ya V.years.length yc) V.years)=>HRU.out W (gqq HG2.out hg) l2 sl2 ⟨V.age,sp,V.children,V.insured,V.worked,V.voluntary,V.service,V.equated,V.raising,V.resident,V.bn,V.bd,V.years⟩ _ _ (.slice ya V.years.length yc) (HI2.out.grows hg) (HS2.out.grows hg) HVW1.out hyr);have HR8:=yq (fun W (hg:w2.Grows W) (ya:Option Addr) (yc:Nat) (hyr:bR W (.slice ya V.years.length yc) V.years)=>xR l2 sl2 ⟨V.age,sp,V.children,V.insured,V.worked,V.voluntary,V.service,V.equated,V.raising,V.resident,V.bn,V.bd,V.years⟩ _ _ (.slice ya V.years.length yc) W (HI2.out.grows hg) (HS2.out.grows hg) HVW1.out hyr);unfold qo vwV at HR2 HR8;generalize nA l2 sl2 ⟨V.age,sp,V.children,V.insured,V.worked,V.voluntary,V.service,V.equated,V.raising,V.resident,V.bn,V.bd,V.years⟩=r at *
 rotate_left
 focus
  have hs2:(sp.tmod 9==0)=false:=by simpa using hs
  have hvrng:fP V:=HVG.out;clear hs;have HVW1:=yq hvrng;have HR2:=yq (fun W (hg:w2.Grows W) (ya:Option Addr) (yc:Nat) (hyr:bR W (.slice ya V.years.length yc) V.years)=>HRU.out W (gqq HG2.out hg) l2 sl2 V _ _ (.slice ya V.years.length yc) (HI2.out.grows hg) (HS2.out.grows hg) HVW1.out hyr);have HR8:=yq (fun W (hg:w2.Grows W) (ya:Option Addr) (yc:Nat) (hyr:bR W (.slice ya V.years.length yc) V.years)=>xR l2 sl2 V _ _ (.slice ya V.years.length yc) W (HI2.out.grows hg) (HS2.out.grows hg) HVW1.out hyr);unfold qo vwV at HR2 HR8;generalize nA l2 sl2 V=r at *
 rotate_left
 all_goals
  obtain⟨st,cd⟩:=r;dsimp only at HR2 HR8;have HSM:=yq (fun W va vb (h1:lu W va st) (h2:lu W vb st)=>Bp st va vb W h1 h2);clear HRU HVW1 hvrng
  go_wp2_with (first
   |(go_at_call 15;refine(HVO.out _ (gqq HG2.out af)).mono ?_;rintro e' w' ⟨yv,rfl,⟨bv,dv,rfl⟩,hyv⟩;have HYV:=yq hyv;obtain⟨-,ya1,yc1,rfl,-⟩:=hyv)
   |(go_at_call 28;refine(HR2.out _ af _ _ (HYV.out.grows af)).mono ?_;rintro e' w' ⟨sv,rfl,⟨b7,d7,rfl⟩,hown⟩;have hST:=lu.of_own hown;have HST:=yq hST;obtain⟨ga,gc,rfl,-⟩:=hST;clear hown)
   |(go_at_call 23;refine(HR8.out _ af _ _ (HYV.out.grows af)).mono ?_;rintro e' w' ⟨sv8,rfl,⟨b8,d8,rfl⟩,hown8⟩;have hST8:=lu.of_own hown8;have HST8:=yq hST8;obtain⟨ga8,gc8,rfl,-⟩:=hST8;clear hown8)
   |(go_at_call 29;refine gvq (HW.out _ (gqq HG2.out af)) ?_;intro bs3 d3)
   |(go_at_call 24;refine gvq (HSM.out _ _ _ (HST.out.grows af) (HST8.out.grows af)) ?_;intro bs4 d4))
  go_returns
  exact⟨rfl,gqq HG2.out af⟩
end Go.Proofs.YteildlpchhlchaaGreatDoor
