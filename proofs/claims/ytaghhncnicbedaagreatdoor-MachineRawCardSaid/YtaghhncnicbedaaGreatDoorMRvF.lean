import Derived.Test.YtaghhncnicbedaaGreatDoorMMchV1
import Derived.Test.YtaghhncnicbedaaGreatDoorMRvA
import Derived.Test.YtaghhncnicbedaaGreatDoorMK
set_option linter.all false
set_option maxHeartbeats 16000000
set_option maxRecDepth 1000000
namespace Go.Proofs.YtaghhncnicbedaaGreatDoor
open Go.RowKit
def StpP(n NS m:Nat)(W0:World)(T:List (Option (List Int × List Int)))(x:Ins)(i:Nat)(e:Ending)(w':World):Prop:=
 ∃b,e= .returned (.bool b)∧Below NS W0 w'∧((b=false∧rndB T x i=none)∨(b=true∧∃T' Rs' Rl',rndB T x i=some T'∧WInv n NS m W0 T' Rs' Rl' w'))
def StMid(n NS m:Nat)(W0:World)(T:List (Option (List Int × List Int)))(t:List Int × List Int)(x:Ins)(v8 v9 v11:Value)(w:World):Prop:=
 ∃(zs ls:List Int) (p:Int) (T1:List (Option (List Int × List Int))) (Rs1 Rl1:Nat→Value) (B:Nat),v11= .int .i64 p∧0≤p∧x.op≠21∧w.ownsRow B 3 1 v8 zs.length (zs.map (Value.int .i64))∧w.ownsRow B 3 1 v9 ls.length (ls.map (Value.int .i64))∧B≤w.heap.size∧NS<B∧
  appB x t=some (if p=0 then zs else zs++[p],ls)∧((x.op≠22∧T1=T)∨(x.op=22∧p=0∧putB T x.a.toNat (zs,ls)=some T1))∧WInv n NS m W0 T1 Rs1 Rl1 w∧(∀b,v8.ownBlock=some b→SepB T1 Rl1 b)∧(∀b,v9.ownBlock=some b→SepB T1 Rl1 b)∧(∀b,v8.ownBlock=some b→v9.ownBlock≠some b)∧
  zs.length≤24∧ls.length=m∧(∀z∈zs,1≤z)∧(∀z∈ls,0≤z)∧(∀b,v8.ownBlock=some b→B≤b)∧(∀b,v9.ownBlock=some b→B≤b)∧(p≠0→∀b j u,v8.ownBlock=some b→T1.getD j none=some u→(Rs1 j).ownBlock≠some b∧(Rl1 j).ownBlock≠some b)
theorem appB_1{x:Ins}{s:List Int × List Int}(h:x.op=1):appB x s=some (s.1++[x.a],s.2):=by unfold appB;rw [if_pos h]
theorem appB_2{x:Ins}{s:List Int × List Int}(h:x.op=2):appB x s=some (s.1++[inDs.getD x.a.toNat 0],s.2):=by unfold appB;rw [if_neg (by omega),if_pos h]
theorem appB_5{x:Ins}{s:List Int × List Int}(h:x.op=5):appB x s=some (s.1++[4],s.2):=by unfold appB;rw [if_neg (by omega),if_neg (by omega),if_pos h]
theorem appB_23{x:Ins}{s:List Int × List Int}(h:x.op=23∨x.op=24):appB x s=some (s.1++[1],s.2):=by unfold appB;rw [if_neg (by omega),if_neg (by omega),if_neg (by omega),if_pos h]
theorem appB_3{x:Ins}{s:List Int × List Int}(h:x.op=3):appB x s=if s.2.getD x.a.toNat 0=0 then none else some (s.1++[s.2.getD x.a.toNat 0],s.2):=by unfold appB;rw [if_neg (by omega),if_neg (by omega),if_neg (by omega),if_neg (by omega),if_pos h]
theorem appB_4{x:Ins}{s:List Int × List Int}(h:x.op=4):appB x s=if s.1= []then none else some (s.1.dropLast,s.2.set x.a.toNat (s.1.getLastD 0)):=by unfold appB;rw [if_neg (by omega),if_neg (by omega),if_neg (by omega),if_neg (by omega),if_neg (by omega),if_pos h]
theorem appB_22{x:Ins}{s:List Int × List Int}(h:x.op=22):appB x s=if s.1= []∨s.1.getLastD 0≠1 then none else some (s.1.dropLast,s.2):=by unfold appB;rw [if_neg (by omega),if_neg (by omega),if_neg (by omega),if_neg (by omega),if_neg (by omega),if_neg (by omega),if_pos h]
theorem appB_21{x:Ins}{s:List Int × List Int}(h:x.op=21):appB x s=some s:=by unfold appB;rw [if_neg (by omega),if_neg (by omega),if_neg (by omega),if_neg (by omega),if_neg (by omega),if_neg (by omega),if_neg (by omega),if_pos h]
theorem appB_o{x:Ins}{s:List Int × List Int}(h:x.op≠1∧x.op≠2∧x.op≠3∧x.op≠4∧x.op≠5∧x.op≠21∧x.op≠22∧x.op≠23∧x.op≠24) :
 appB x s=if s.1.length<ariF (opF x.op)then none else if resD (opF x.op) (s.1.drop (s.1.length-ariF (opF x.op)))=0 then none
  else some (s.1.take (s.1.length-ariF (opF x.op))++[resD (opF x.op) (s.1.drop (s.1.length-ariF (opF x.op)))],s.2):=by
 unfold appB
 rw [if_neg (by omega),if_neg (by omega),if_neg (by omega),if_neg (by omega),if_neg (by omega),if_neg (by omega),if_neg (by omega),if_neg (by omega)]
theorem rndB_no{T:List (Option (List Int × List Int))}{t:List Int × List Int}{x:Ins}{i:Nat}(hT:T.getD i none=some t)(h:appB x t=none):rndB T x i=none:=by unfold rndB;rw [hT];simp only [h]
theorem rndB_21{T:List (Option (List Int × List Int))}{t:List Int × List Int}{x:Ins}{i:Nat}(hT:T.getD i none=some t)(h:x.op=21):rndB T x i=putB T x.a.toNat t:=by unfold rndB;rw [hT];simp only [appB_21 h,if_pos h]
theorem rndB_22no{T:List (Option (List Int × List Int))}{t s:List Int × List Int}{x:Ins}{i:Nat}(hT:T.getD i none=some t)(ha:appB x t=some s)(h:x.op=22)(hp:putB T x.a.toNat s=none):rndB T x i=none:=by unfold rndB;rw [hT];simp only [ha,if_neg (show ¬x.op=21 by omega),if_pos h,hp]
theorem rndB_end{T T1:List (Option (List Int × List Int))}{t s:List Int × List Int}{x:Ins}{i:Nat}(hT:T.getD i none=some t)(ha:appB x t=some s)(h21:x.op≠21)(h:(x.op≠22∧T1=T)∨(x.op=22∧putB T x.a.toNat s=some T1)):rndB T x i=if 24<s.1.length then none else putB T1 (i+1) s:=by
 unfold rndB;rw [hT]
 rcases h with ⟨h,rfl⟩|⟨h,hp⟩
 ·simp only [ha,if_neg h21,if_neg h]
 ·simp only [ha,if_neg h21,if_pos h,hp]
theorem WInv.mods{n NS m:Nat}{W0 w w':World}{T:List (Option (List Int × List Int))}{Rs Rl:Nat→Value}{v:Value}(h:WInv n NS m W0 T Rs Rl w)(hm:Mods (fun b=>v.ownBlock=some b) w w')(hNS:∀b,v.ownBlock=some b→NS<b)(hs:∀b j u,v.ownBlock=some b→T.getD j none=some u→(Rs j).ownBlock≠some b∧(Rl j).ownBlock≠some b):WInv n NS m W0 T Rs Rl w':=by
 have hs0:=h.sz
 have hz:=hm.size
 have e1:w'.heap[NS]? =w.heap[NS]?:=hm.block NS h.sz (fun e=>by have:=hNS NS e;omega)
 have c:∀o,w'.cell? ⟨NS,o,none⟩=w.cell? ⟨NS,o,none⟩:=fun o=>World.cell?_of_block (a:=⟨NS,o,none⟩) e1
 refine⟨by omega,h.lo.trans ⟨hm.os,hm.tape,hm.output,hm.size,fun b hb=>hm.block b (by omega) (fun e=>by have:=hNS b e;omega)⟩,h.len,fun j hj=>?_,fun o=>(World.frozen?_of_block (a:=⟨NS,o,none⟩) e1).trans (h.sf o),fun j t ht=>?_,h.dl,h.ds⟩
 ·exact mz8
 ·obtain⟨a,b,r⟩:=h.row j t ht
  exact⟨hm.row a fun g hg e=>(hs g j t e ht).1 hg,hm.row b fun g hg e=>(hs g j t e ht).2 hg,r⟩
theorem own_block{w w':World}{B size n:Nat}{e:TypeId}{v:Value}{xs:List Value}(h:w.ownsRow B e size v n xs)(he:∀b,v.ownBlock=some b→w'.heap[b]? =w.heap[b]?):w'.ownsRow B e size v n xs:=by
 refine⟨h.1, ?_⟩
 rcases h.2 with hh|⟨g,cap,cur,rfl,hb,hgg,rest⟩
 ·exact .inl hh
 ·exact .inr ⟨g,cap,cur,rfl,hb,by rw [he g rfl];exact hgg,rest⟩
theorem args_ari{op:Int}(h:4≤op∧op≤20):argsN op=(ariF op:Int):=by
 unfold argsN ariF
 split
 ·omega
 split
 ·rw [if_pos (by omega)];rfl
 split
 ·rw [if_neg (by omega)];rfl
 ·omega
theorem res5_off(op:Int)(d:List Int)(g off cap:Nat)(w:World)(h4:4≤op)(h21:op≤20)(hl:(d.length:Int)=argsN op)(hx:∀x∈d,1≤x)(hc:∀k,k<d.length→w.cell? ⟨g,off+k,none⟩=some (.int .i64 (d.getD k 0))) :
 Calls Tryz.prog 98 #[.int .i64 op,.slice (some ⟨g,off,none⟩) d.length cap] w (Res5P (resD op d) w):=by
 rcases(show op=4∨op=5∨op=6∨op=7∨op=8∨op=9∨op=10∨op=11∨op=12∨op=13∨op=14∨op=15∨op=16∨op=17∨op=18∨op=19∨op=20 by omega)with rfl|rfl|rfl|rfl|rfl|rfl|rfl|rfl|rfl|rfl|rfl|rfl|rfl|rfl|rfl|rfl|rfl
 ·obtain⟨x,rfl⟩:=len1 (d:=d) (by rw [hl];rfl)
  exact res5_4 x g off cap w (hc 0 (by simp)) (hx _ (by simp))
 ·obtain⟨x,rfl⟩:=len1 (d:=d) (by rw [hl];rfl)
  exact res5_5 x g off cap w (hc 0 (by simp)) (hx _ (by simp))
 ·obtain⟨x,rfl⟩:=len1 (d:=d) (by rw [hl];rfl)
  exact res5_6 x g off cap w (hc 0 (by simp)) (hx _ (by simp))
 ·obtain⟨x,y,rfl⟩:=len2 (d:=d) (by rw [hl];rfl)
  exact res5_7 x y g off cap w (hc 0 (by simp)) (hc 1 (by simp)) ⟨hx _ (by simp),hx _ (by simp)⟩
 ·obtain⟨x,y,rfl⟩:=len2 (d:=d) (by rw [hl];rfl)
  exact res5_8 x y g off cap w (hc 0 (by simp)) (hc 1 (by simp)) ⟨hx _ (by simp),hx _ (by simp)⟩
 ·obtain⟨x,y,rfl⟩:=len2 (d:=d) (by rw [hl];rfl)
  exact res5_9 x y g off cap w (hc 0 (by simp)) (hc 1 (by simp)) ⟨hx _ (by simp),hx _ (by simp)⟩
 ·obtain⟨x,y,rfl⟩:=len2 (d:=d) (by rw [hl];rfl)
  exact res5_10 x y g off cap w (hc 0 (by simp)) (hc 1 (by simp)) ⟨hx _ (by simp),hx _ (by simp)⟩
 ·obtain⟨x,y,rfl⟩:=len2 (d:=d) (by rw [hl];rfl)
  exact res5_11 x y g off cap w (hc 0 (by simp)) (hc 1 (by simp)) ⟨hx _ (by simp),hx _ (by simp)⟩
 ·obtain⟨x,y,rfl⟩:=len2 (d:=d) (by rw [hl];rfl)
  exact res5_12 x y g off cap w (hc 0 (by simp)) (hc 1 (by simp)) ⟨hx _ (by simp),hx _ (by simp)⟩
 ·obtain⟨x,y,rfl⟩:=len2 (d:=d) (by rw [hl];rfl)
  exact res5_13 x y g off cap w (hc 0 (by simp)) (hc 1 (by simp)) ⟨hx _ (by simp),hx _ (by simp)⟩
 ·obtain⟨x,y,rfl⟩:=len2 (d:=d) (by rw [hl];rfl)
  exact res5_14 x y g off cap w (hc 0 (by simp)) (hc 1 (by simp)) ⟨hx _ (by simp),hx _ (by simp)⟩
 ·obtain⟨x,y,rfl⟩:=len2 (d:=d) (by rw [hl];rfl)
  exact res5_15 x y g off cap w (hc 0 (by simp)) (hc 1 (by simp)) ⟨hx _ (by simp),hx _ (by simp)⟩
 ·obtain⟨x,y,rfl⟩:=len2 (d:=d) (by rw [hl];rfl)
  exact res5_16 x y g off cap w (hc 0 (by simp)) (hc 1 (by simp)) ⟨hx _ (by simp),hx _ (by simp)⟩
 ·obtain⟨x,y,rfl⟩:=len2 (d:=d) (by rw [hl];rfl)
  exact res5_17 x y g off cap w (hc 0 (by simp)) (hc 1 (by simp)) ⟨hx _ (by simp),hx _ (by simp)⟩
 ·obtain⟨x,y,rfl⟩:=len2 (d:=d) (by rw [hl];rfl)
  exact res5_18 x y g off cap w (hc 0 (by simp)) (hc 1 (by simp)) ⟨hx _ (by simp),hx _ (by simp)⟩
 ·obtain⟨x,y,rfl⟩:=len2 (d:=d) (by rw [hl];rfl)
  exact res5_19 x y g off cap w (hc 0 (by simp)) (hc 1 (by simp)) ⟨hx _ (by simp),hx _ (by simp)⟩
 ·obtain⟨x,y,rfl⟩:=len2 (d:=d) (by rw [hl];rfl)
  exact res5_20 x y g off cap w (hc 0 (by simp)) (hc 1 (by simp)) ⟨hx _ (by simp),hx _ (by simp)⟩
theorem step_any(l:List Ins)(sl:List ByteArray)(vi vs:Value)(i NS:Nat)(W0:World)(T:List (Option (List Int × List Int)))(Rs Rl:Nat→Value)(t:List Int × List Int)(w:World)(hI:InsAt w vi l)(hi:i<l.length)(hw:WInv l.length NS sl.length W0 T Rs Rl w)(hx:wfF sl.length l.length i (l.getD i default)=true)(hm:sl.length≤12)(hT:T.getD i none=some t)(hvs:∃a c,vs= .slice a sl.length c) :
 Calls Tryz.prog 47 #[.agg #[vi,vs],.int .i64 i,.slice (some ⟨NS,0,none⟩) (l.length+1) (l.length+1)] w (StpP l.length NS sl.length W0 T (l.getD i default) i):=by
 obtain⟨hl6,ai,ci,rfl,hix⟩:=hI
 obtain⟨as',cs',rfl⟩:=hvs
 rcases hix with h0|⟨b,off,rfl,hb,hix⟩
 ·omega
 obtain⟨-,x0,x1,x2,x3⟩:=hix i hi
 have HW:=Lib.hid hw
 obtain⟨r1,r2,r3,r4,r5,r6⟩:=hw.row i t hT
 have HR1:=Lib.hid r1
 have HR2:=Lib.hid r2
 obtain⟨sa,sc,hsa⟩:=row_form'' r1
 obtain⟨la,lc,hla⟩:=row_form'' r2
 have hst:=hw.st i (by omega)
 rw [hT]at hst
 have s1:=hst 1 _ rfl
 have s2:=hst 2 _ rfl
 rw [hsa]at s1
 rw [hla]at s2
 have hNS:=hw.sz
 have d1:(i:Int)<(l.length:Int):=by omega
 have d2:(i:Int)<(l.length:Int)+1:=by omega
 obtain⟨x,hxe⟩:∃x,l.getD i default=x:=⟨_,rfl⟩
 rw [hxe]at x0 x1 x2 x3 hx ⊢
 have HZ:Hid (∀W,w.Grows W→W.ownsRow (NS+1) 3 1 (.slice sa t.1.length sc) t.1.length (t.1.map (Value.int .i64))):=Lib.hid (fun W hg=>by rw [←hsa];exact Mods.row (P:=fun _=>False) (.grows hg) r1 fun _ _ e=>e)
 have HL:Hid (∀W,w.Grows W→W.ownsRow (NS+1) 3 1 (.slice la t.2.length lc) t.2.length (t.2.map (Value.int .i64))):=Lib.hid (fun W hg=>by rw [←hla];exact Mods.row (P:=fun _=>False) (.grows hg) r2 fun _ _ e=>e)
 have h1k:t.1.length≤1000:=by omega
 have h2k:t.2.length≤1000:=by omega
 have H56:=Lib.hid (And.intro r5 (And.intro r6 (And.intro r3 r4)))
 clear hix hst hxe hw r1 r2 r3 r4 r5 r6
 go_enter Tryz.func47,Tryz.ntmps47
 go_wp2_with (at_builtin;refine wpList_append_ints rfl _ _ rfl (A:=[]) (base:=w.heap.size+2) rfl rfl (World.ownsRow_nil _ _ _ _) (HZ.out _ growsR) ⟨by simp,h1k⟩ (by simp) ?_)
 intro v8 w1 hv8 hg8
 obtain⟨a8,k8,rfl⟩:=row_form'' hv8
 have hL1:=World.Grows.of_below ⟨hg8.os,hg8.tape,hg8.output,hg8.size,fun k hk=>hg8.block k hk (by simp [Value.ownBlock])⟩
 have hG1:w.Grows w1:=World.Grows.trans' growsR hL1
 have hz1:w.heap.size+2≤w1.heap.size:=by have:=hg8.size;simpa using this
 have xx0:w1.cell? ⟨w.heap.size+1,0,none⟩=some (.int .i64 x.op):=by rw [World.cell?_of_block (hL1.below.block _ (by simp))];simp [go_sem]
 have xx1:w1.cell? ⟨w.heap.size+1,1,none⟩=some (.int .i64 x.a):=by rw [World.cell?_of_block (hL1.below.block _ (by simp))];simp [go_sem]
 have t2:w1.cell? ⟨NS,i*3+2,none⟩=some (.slice la t.2.length lc):=(World.cell?_of_block (a:=⟨NS,i*3+2,none⟩) (hG1.below.block NS hNS)).trans s2
 have hNS1:NS<w1.heap.size:=by omega
 have HV8:=Lib.hid hv8
 have HG1:=Lib.hid hG1
 clear hv8 hg8 hL1 x0 x1 x2 x3 s1 s2
 go_wp2_with (at_builtin;refine wpList_append_ints rfl _ _ rfl (A:=[]) (base:=w1.heap.size) rfl rfl (World.ownsRow_nil _ _ _ _) (HL.out _ HG1.out) ⟨by simp,h2k⟩ (by simp) ?_)
 intro v9 w2 hv9 hg9
 obtain⟨a9,k9,rfl⟩:=row_form'' hv9
 have hL2:w1.Grows w2:=World.Grows.of_below ⟨hg9.os,hg9.tape,hg9.output,hg9.size,fun k hk=>hg9.block k hk (by simp [Value.ownBlock])⟩
 have hG2:w.Grows w2:=World.Grows.trans' HG1.out hL2
 have hz2:w1.heap.size≤w2.heap.size:=hg9.size
 replace xx0:=(World.cell?_of_block (a:=⟨w.heap.size+1,0,none⟩) (hL2.below.block _ (by show w.heap.size+1<w1.heap.size;omega))).trans xx0
 replace xx1:=(World.cell?_of_block (a:=⟨w.heap.size+1,1,none⟩) (hL2.below.block _ (by show w.heap.size+1<w1.heap.size;omega))).trans xx1
 have hX2:w.heap.size+1<w2.heap.size:=by omega
 have hNS2:NS<w2.heap.size:=by omega
 have r8:w2.ownsRow (w.heap.size+2) 3 1 (.slice a8 t.1.length k8) t.1.length (t.1.map (Value.int .i64)):=Mods.row (P:=fun _=>False) (.grows hL2) HV8.out fun _ _ e=>e
 have r9:w2.ownsRow (w.heap.size+2) 3 1 (.slice a9 t.2.length k9) t.2.length (t.2.map (Value.int .i64)):=own_lower hv9 hz1
 have hb8:∀b,(Value.slice a8 t.1.length k8).ownBlock=some b→w.heap.size+2≤b∧b<w1.heap.size:=fun b e=>HV8.out.lt b e
 have hb9:∀b,(Value.slice a9 t.2.length k9).ownBlock=some b→w1.heap.size≤b:=fun b e=>(hv9.lt b e).1
 have HR8:=Lib.hid r8
 have HR9:=Lib.hid r9
 have HB8:=Lib.hid hb8
 have HB9:=Lib.hid hb9
 have HSEP:Hid (∀b,w.heap.size≤b→SepB T Rl b):=Lib.hid (fun b hb k u hu e=>by
  have:=((HW.out.row k u hu).2.1.lt b e).2
  omega)
 have HG2:=Lib.hid hG2
 have HTT:=Lib.hid hT
 have HX:=Lib.hid hx
 have HMID:Hid (∀p W,w2.Grows W→0≤p→x.op≠21→x.op≠22→appB x t=some (if p=0 then t.1 else t.1++[p],t.2)→StMid l.length NS sl.length W0 T t x (.slice a8 t.1.length k8) (.slice a9 t.2.length k9) (.int .i64 p) W):=Lib.hid (fun p W hg hp h21 h22 ha=>
  ⟨t.1,t.2,p,T,Rs,Rl,w.heap.size+2,rfl,hp,h21,Mods.row (P:=fun _=>False) (.grows hg) HR8.out fun _ _ e=>e,Mods.row (P:=fun _=>False) (.grows hg) HR9.out fun _ _ e=>e,by have:=hg.below.size;omega,by omega,ha,.inl ⟨h22,rfl⟩,HW.out.grows (World.Grows.trans' HG2.out hg),fun b e=>HSEP.out b (by have:=(HB8.out b e).1;omega),fun b e=>HSEP.out b (by have:=HB9.out b e;omega),fun b e q=>by
   have q1:=(HB8.out b e).2
   have q2:=HB9.out b q
   omega,H56.out.2.2.1,H56.out.2.2.2,H56.out.1,H56.out.2.1,fun b e=>(HB8.out b e).1,fun b e=>by have:=HB9.out b e;omega,fun _ b j u e hu=>⟨fun e2=>by have:=((HW.out.row j u hu).1.lt b e2).2;have:=(HB8.out b e).1;omega,fun e2=>by have:=((HW.out.row j u hu).2.1.lt b e2).2;have:=(HB8.out b e).1;omega⟩⟩)
 have HNO:Hid (∀W,w2.Grows W→appB x t=none→StpP l.length NS sl.length W0 T x i (.returned (.bool false)) W):=Lib.hid (fun W hg ha=>⟨false,rfl,HW.out.lo.trans ((World.Grows.trans' HG2.out hg).below.mono (by omega)),.inl ⟨rfl,rndB_no HTT.out ha⟩⟩)
 clear r8 r9 hb8 hb9 hv9 hg9 hL2 hG2 hG1 hT hx t2
 go_upto_block 0 with fail
 go_cut [8,9,11,12,13]from 14 (fun v8 v9 v11 _ _ wx=>StMid l.length NS sl.length W0 T t x v8 v9 v11 wx)
 case first=>
  by_cases o1:x.op=1
  ·have q1:(x.op==1)=true:=by simp [o1]
   have q2:(x.op==2)=false:=by simp [o1]
   have q3:(x.op==3)=false:=by simp [o1]
   have q5:(x.op==5)=false:=by simp [o1]
   have q23:(x.op==23)=false:=by simp [o1]
   have q24:(x.op==24)=false:=by simp [o1]
   have q4:(x.op==4)=false:=by simp [o1]
   have q21:(x.op==21)=false:=by simp [o1]
   have q22:(x.op==22)=false:=by simp [o1]
   have hf:=wf_lit HX.out o1
   have HF:=Lib.hid hf
   have HO:=Lib.hid o1
   clear o1 hf
   go_wp2_with fail
   go_meet
   exact HMID.out x.a _ growsR (by have:=HF.out;omega) (by have:=HO.out;omega) (by have:=HO.out;omega) (by rw [appB_1 HO.out,if_neg (by have:=HF.out;omega)])
  have hrest:=wf_rest HX.out o1
  by_cases o2:x.op=2
  ·have q1:(x.op==1)=false:=by simp [o2]
   have q2:(x.op==2)=true:=by simp [o2]
   have q3:(x.op==3)=false:=by simp [o2]
   have q5:(x.op==5)=false:=by simp [o2]
   have q23:(x.op==23)=false:=by simp [o2]
   have q24:(x.op==24)=false:=by simp [o2]
   have q4:(x.op==4)=false:=by simp [o2]
   have q21:(x.op==21)=false:=by simp [o2]
   have q22:(x.op==22)=false:=by simp [o2]
   have ha:=hrest.2.1 o2
   have HI:=Lib.hid (fun w=>inputDim_any x.a w)
   unfold idmP at HI
   rw [decide_eq_true ha,show idmF x.a=inDs.getD x.a.toNat 0 from by unfold idmF;rw [if_pos ha]]at HI
   have HD:=Lib.hid (inDs_rng (k:=x.a.toNat) (by omega))
   have HO:=Lib.hid o2
   have HAB:=Lib.hid (appB_2 (s:=t) o2)
   obtain⟨p,hp⟩:∃p,inDs.getD x.a.toNat 0=p:=⟨_,rfl⟩
   rw [hp]at HI HD HAB
   clear o1 o2 hrest ha hp
   go_wp2_with (go_at_call 96;refine(HI.out _).mono ?_;rintro e' w' ⟨rfl,bs,d,rfl⟩)
   go_meet
   exact HMID.out p _ growsR (by have:=HD.out;omega) (by have:=HO.out;omega) (by have:=HO.out;omega) (by rw [HAB.out,if_neg (by have:=HD.out;omega)])
  by_cases o3:x.op=3
  ·have q1:(x.op==1)=false:=by simp [o3]
   have q2:(x.op==2)=false:=by simp [o3]
   have q3:(x.op==3)=true:=by simp [o3]
   have q5:(x.op==5)=false:=by simp [o3]
   have q23:(x.op==23)=false:=by simp [o3]
   have q24:(x.op==24)=false:=by simp [o3]
   have q4:(x.op==4)=false:=by simp [o3]
   have q21:(x.op==21)=false:=by simp [o3]
   have q22:(x.op==22)=false:=by simp [o3]
   have ha:=hrest.2.2.1 (.inl o3)
   obtain⟨k,hk⟩:∃k:Nat,x.a=(k:Int):=⟨x.a.toNat,by omega⟩
   have hk2:k<t.2.length:=by have:=H56.out.2.2.2;omega
   obtain⟨a9',k9',h9,hg9⟩:=row_slice HR9.out
   obtain⟨rfl,rfl⟩:a9=a9'∧k9=k9':=by simpa using h9
   rcases hg9 with h0|⟨g9,rfl,hg9,c9⟩
   ·omega
   have ck:=c9 k hk2
   have dk:(k:Int)<(t.2.length:Int):=by omega
   have dk0:(0:Int)≤(k:Int):=by omega
   rw [hk]at xx1
   have HAB:=appB_3 (s:=t) o3
   rw [show x.a.toNat=k by omega]at HAB
   have HP0:Hid (0≤t.2.getD k 0):=Lib.hid (H56.out.2.1 _ (by rw [List.getD_eq_getElem?_getD,List.getElem?_eq_getElem hk2];exact List.getElem_mem _))
   have HO:=Lib.hid o3
   obtain⟨p,hp⟩:∃p,t.2.getD k 0=p:=⟨_,rfl⟩
   rw [hp]at HAB HP0 ck
   clear o1 o2 o3 hrest ha hp h9 hk c9 hk2
   by_cases hp0:p=0
   ·have HN:=Lib.hid (show appB x t=none by rw [HAB,if_pos hp0])
    subst hp0
    clear HAB
    go_wp2_with fail
    go_returns
    exact HNO.out _ growsR HN.out
   ·have hpe:(p==0)=false:=by simpa using hp0
    rw [if_neg hp0]at HAB
    have HAC:=Lib.hid HAB
    have HPN:=Lib.hid hp0
    clear HAB hp0
    go_wp2_with fail
    go_meet
    exact HMID.out p _ growsR HP0.out (by have:=HO.out;omega) (by have:=HO.out;omega) (by rw [HAC.out,if_neg HPN.out])
  by_cases o5:x.op=5
  ·have q1:(x.op==1)=false:=by simp [o5]
   have q2:(x.op==2)=false:=by simp [o5]
   have q3:(x.op==3)=false:=by simp [o5]
   have q5:(x.op==5)=true:=by simp [o5]
   have q23:(x.op==23)=false:=by simp [o5]
   have q24:(x.op==24)=false:=by simp [o5]
   have q4:(x.op==4)=false:=by simp [o5]
   have q21:(x.op==21)=false:=by simp [o5]
   have q22:(x.op==22)=false:=by simp [o5]
   have HO:=Lib.hid o5
   clear o1 o2 o3 o5 hrest
   go_wp2_with fail
   go_meet
   exact HMID.out 4 _ growsR (by omega) (by have:=HO.out;omega) (by have:=HO.out;omega) (by rw [appB_5 HO.out,if_neg (by omega)])
  by_cases o23:x.op=23∨x.op=24
  ·have HO:=Lib.hid o23
   clear o1 o2 o3 o5 hrest
   rcases o23 with o23|o23
   focus
    have q1:(x.op==1)=false:=by simp [o23]
    have q2:(x.op==2)=false:=by simp [o23]
    have q3:(x.op==3)=false:=by simp [o23]
    have q5:(x.op==5)=false:=by simp [o23]
    have q23:(x.op==23)=true:=by simp [o23]
    have q24:(x.op==24)=false:=by simp [o23]
   rotate_left
   focus
    have q1:(x.op==1)=false:=by simp [o23]
    have q2:(x.op==2)=false:=by simp [o23]
    have q3:(x.op==3)=false:=by simp [o23]
    have q5:(x.op==5)=false:=by simp [o23]
    have q23:(x.op==23)=false:=by simp [o23]
    have q24:(x.op==24)=true:=by simp [o23]
   rotate_left
   all_goals
    have q4:(x.op==4)=false:=by simp [o23]
    have q21:(x.op==21)=false:=by simp [o23]
    have q22:(x.op==22)=false:=by simp [o23]
    clear o23
    go_wp2_with fail
    go_meet
    exact HMID.out 1 _ growsR (by omega) (by have:=HO.out;omega) (by have:=HO.out;omega) (by rw [appB_23 HO.out,if_neg (by omega)])
  by_cases he:t.1= []∧(x.op=4∨x.op=22)
  ·have hl0:((t.1.length:Nat):Int)<1:=by rw [he.1];simp
   have HN:Hid (appB x t=none):=Lib.hid (by
    rcases he.2 with o|o
    ·rw [appB_4 o,if_pos he.1]
    ·rw [appB_22 o,if_pos (.inl he.1)])
   rcases he.2 with o|o
   ·have q1:(x.op==1)=false:=by simp [o]
    have q2:(x.op==2)=false:=by simp [o]
    have q3:(x.op==3)=false:=by simp [o]
    have q5:(x.op==5)=false:=by simp [o]
    have q23:(x.op==23)=false:=by simp [o]
    have q24:(x.op==24)=false:=by simp [o]
    have q4:(x.op==4)=true:=by simp [o]
    have q21:(x.op==21)=false:=by simp [o]
    have q22:(x.op==22)=false:=by simp [o]
    clear he o o1 o2 o3 o5 o23 hrest
    go_wp2_with fail
    go_returns
    exact HNO.out _ growsR HN.out
   ·have q1:(x.op==1)=false:=by simp [o]
    have q2:(x.op==2)=false:=by simp [o]
    have q3:(x.op==3)=false:=by simp [o]
    have q5:(x.op==5)=false:=by simp [o]
    have q23:(x.op==23)=false:=by simp [o]
    have q24:(x.op==24)=false:=by simp [o]
    have q4:(x.op==4)=false:=by simp [o]
    have q21:(x.op==21)=false:=by simp [o]
    have q22:(x.op==22)=true:=by simp [o]
    clear he o o1 o2 o3 o5 o23 hrest
    go_wp2_with fail
    go_returns
    exact HNO.out _ growsR HN.out
  by_cases o4:x.op=4
  ·have hne:t.1≠[]:=fun e=>he ⟨e,.inl o4⟩
   have q1:(x.op==1)=false:=by simp [o4]
   have q2:(x.op==2)=false:=by simp [o4]
   have q3:(x.op==3)=false:=by simp [o4]
   have q5:(x.op==5)=false:=by simp [o4]
   have q23:(x.op==23)=false:=by simp [o4]
   have q24:(x.op==24)=false:=by simp [o4]
   have q4:(x.op==4)=true:=by simp [o4]
   have q21:(x.op==21)=false:=by simp [o4]
   have q22:(x.op==22)=false:=by simp [o4]
   have ha:=hrest.2.2.1 (.inr o4)
   have HAB:=Lib.hid (appB_4 (s:=t) o4)
   rw [if_neg hne]at HAB
   obtain⟨k,hk⟩:∃k:Nat,x.a=(k:Int):=⟨x.a.toNat,by omega⟩
   rw [show x.a.toNat=k by omega]at HAB
   have HO:=Lib.hid o4
   have hk2:k<t.2.length:=by have:=H56.out.2.2.2;omega
   obtain⟨q,hq⟩:∃q,t.1.length=q+1:=⟨t.1.length-1,by have:t.1.length≠0:=fun e=>hne (List.eq_nil_of_length_eq_zero e);omega⟩
   have hqi:((t.1.length:Nat):Int)-1=(q:Int):=by omega
   have hqq:IntKind.i64.wrap (q:Int)=(q:Int):=IntWalk.i64_in _ (by omega)
   have hq3:(q:Int)<(q:Int)+1:=by omega
   have hqw:IntKind.i64.wrap (((t.1.length:Nat):Int)-1)=(q:Int):=by rw [hqi];exact IntWalk.i64_in _ (by omega)
   have hq1:¬((t.1.length:Nat):Int)<1:=by omega
   have hq2:(q:Int)<((t.1.length:Nat):Int):=by omega
   have hq0:(0:Int)≤(q:Int):=by omega
   obtain⟨a8',k8',h8,hg8⟩:=row_slice HR8.out
   obtain⟨rfl,rfl⟩:a8=a8'∧k8=k8':=by simpa using h8
   rcases hg8 with h0|⟨g8,rfl,hg8,c8⟩
   ·omega
   have c8q:=c8 q (by omega)
   have hlast:t.1.getD q 0=t.1.getLastD 0:=by
    have e:t.1.length-1=q:=by omega
    rw [List.getLastD_eq_getLast?,List.getLast?_eq_getElem?,e,List.getD_eq_getElem?_getD]
   rw [hlast]at c8q
   have hcap8:q≤k8:=by
    rcases row_frm HR8.out with ⟨e,-⟩|⟨g,cap,e,-,-,hc⟩
    ·simp at e
    ·obtain⟨-,rfl⟩:_∧k8=cap:=by simpa using e
     omega
   have hdl:t.1.take q=t.1.dropLast:=by rw [List.dropLast_eq_take,hq,Nat.add_sub_cancel]
   clear h8 c8 hlast hq hqi
   obtain⟨a9',k9',h9,hg9⟩:=row_slice HR9.out
   obtain⟨rfl,rfl⟩:a9=a9'∧k9=k9':=by simpa using h9
   rcases hg9 with h0|⟨g9,rfl,hg9,c9⟩
   ·omega
   have ck:=c9 k hk2
   have f9:w2.frozen? ⟨g9,k,none⟩=false:=HR9.out.frozenAt k
   have dk:(k:Int)<(t.2.length:Int):=by omega
   have dk0:(0:Int)≤(k:Int):=by omega
   rw [hk]at xx1
   have hgg:w1.heap.size≤g9:=HB9.out g9 rfl
   have hg8b:=HB8.out g8 rfl
   have HSET:Hid (∀W',(w2.setCell ⟨g9,k,none⟩ (.int .i64 (t.1.getLastD 0))).Grows W'→StMid l.length NS sl.length W0 T t x (.slice (some ⟨g8,0,none⟩) q k8) (.slice (some ⟨g9,0,none⟩) t.2.length k9) (.int .i64 0) W'):=Lib.hid (fun W' hg=>by
    have hm:Mods (fun b=>b=g9) w2 (w2.setCell ⟨g9,k,none⟩ (.int .i64 (t.1.getLastD 0))):=Mods.setCell _ _ _ _ rfl
    have hwg:w.Grows W':=World.Grows.trans' (.of_below (HG2.out.below.setCell (p:=⟨g9,k,none⟩) (by show w.heap.size≤g9;omega) _)) hg
    have r8:W'.ownsRow (w.heap.size+2) 3 1 (.slice (some ⟨g8,0,none⟩) q k8) t.1.dropLast.length (t.1.dropLast.map (Value.int .i64)):=by
     have h0:=own_cut (m:=q) HR8.out (by omega)
     rw [hdl]at h0
     exact Mods.row (P:=fun _=>False) (.grows hg) (hm.row h0 fun b hb e=>by
      have:g8=b:=by simpa [Value.ownBlock]using hb
      omega) fun _ _ e=>e
    have r9:W'.ownsRow (w.heap.size+2) 3 1 (.slice (some ⟨g9,0,none⟩) t.2.length k9) (t.2.set k (t.1.getLastD 0)).length ((t.2.set k (t.1.getLastD 0)).map (Value.int .i64)):=by
     rw [List.length_set,List.map_set]
     exact Mods.row (P:=fun _=>False) (.grows hg) (HR9.out.stored k (.int .i64 (t.1.getLastD 0))).1 fun _ _ e=>e
    refine⟨t.1.dropLast,t.2.set k (t.1.getLastD 0),0,T,Rs,Rl,w.heap.size+2,rfl,by omega,by have:=HO.out;omega,r8,r9,by have:=hg.below.size;simp [World.setCell]at this;omega,by omega,by rw [HAB.out,if_pos rfl],.inl ⟨by have:=HO.out;omega,rfl⟩,HW.out.grows hwg,fun b e=>HSEP.out b ?_,fun b e=>HSEP.out b ?_,fun b e e2=>?_,by rw [List.length_dropLast];have:=H56.out.2.2.1;omega,by rw [List.length_set];exact H56.out.2.2.2,fun z hz=>H56.out.1 z (List.dropLast_subset _ hz),fun z hz=>?_,fun b e=>?_,fun b e=>?_,fun h=>absurd rfl h⟩
    ·have:g8=b:=by simpa [Value.ownBlock]using e
     omega
    ·have:g9=b:=by simpa [Value.ownBlock]using e
     omega
    ·have h1:g8=b:=by simpa [Value.ownBlock]using e
     have h2:g9=b:=by simpa [Value.ownBlock]using e2
     omega
    ·rcases List.mem_or_eq_of_mem_set hz with hz|rfl
     ·exact H56.out.2.1 z hz
     ·have:=H56.out.1 _ (last_mem hne);omega
    ·have:g8=b:=by simpa [Value.ownBlock]using e
     omega
    ·have:g9=b:=by simpa [Value.ownBlock]using e
     omega)
   generalize t.1.getLastD 0=z at *
   generalize t.2.getD k 0=z9 at *
   clear he hne ha hk hk2 h9 c9 o4 o1 o2 o3 o5 o23 hrest hgg hg8b hdl
   go_wp2_with fail
   refine TS.begin [9] (World.Grows w2) (by kernel_rfl) (by kernel_rfl) grows_drew0 (fun hS=>?_)
   refine TS.wkB 0 hS ?_
   refine TS.wkB 1 hS ?_
   refine TS.wkB 2 hS ?_
   refine TS.wkB 3 hS ?_
   refine TS.wkB 4 hS ?_
   refine TS.wkB 5 hS ?_
   refine TS.wkB 6 hS ?_
   refine TS.wkB 7 hS ?_
   refine TS.wkB 8 hS ?_
   refine TS.weB 9 ?_
   clear hS
   go_wp2_with fail
   go_meet
   exact HSET.out _ growsR
  by_cases o21:x.op=21
  ·have q1:(x.op==1)=false:=by simp [o21]
   have q2:(x.op==2)=false:=by simp [o21]
   have q3:(x.op==3)=false:=by simp [o21]
   have q5:(x.op==5)=false:=by simp [o21]
   have q23:(x.op==23)=false:=by simp [o21]
   have q24:(x.op==24)=false:=by simp [o21]
   have q4:(x.op==4)=false:=by simp [o21]
   have q21:(x.op==21)=true:=by simp [o21]
   have q22:(x.op==22)=false:=by simp [o21]
   have ha:=hrest.2.2.2.2.1 (.inl o21)
   have hj0:0≤x.a:=by omega
   have hj1:x.a<(l.length:Int)+1:=by omega
   have HMT:=Lib.hid (fun W (hg:w2.Grows W)=>(HW.out.grows (World.Grows.trans' HG2.out hg)).meet (k:=x.a.toNat) (s:=t) (vz:=.slice a8 t.1.length k8) (vl:=.slice a9 t.2.length k9) (by omega) (Mods.row (P:=fun _=>False) (.grows hg) HR8.out fun _ _ e=>e) (Mods.row (P:=fun _=>False) (.grows hg) HR9.out fun _ _ e=>e) H56.out.2.2.1 H56.out.2.2.2 hm H56.out.1 H56.out.2.1 (fun e=>by have:=(HB8.out NS e).1;omega) (fun e=>by have:=HB9.out NS e;omega) (fun b e=>HSEP.out b (by have:=(HB8.out b e).1;omega)) (fun b e=>HSEP.out b (by have:=HB9.out b e;omega)))
   have HRN:=Lib.hid (rndB_21 HTT.out o21)
   clear he o4 o1 o2 o3 o5 o23 hrest ha o21
   go_wp2_with (go_at_call 46;refine(HMT.out _ growsR).mono ?_;rintro e' w3 ⟨bb,rfl,hbl,hsz,-,hcc⟩)
   go_returns
   refine⟨bb,rfl,hbl, ?_⟩
   rcases hcc with ⟨rfl,hp⟩|⟨rfl,T',Rs',Rl',hp,hv,-⟩
   ·exact .inl ⟨rfl,HRN.out.trans hp⟩
   ·exact .inr ⟨rfl,T',Rs',Rl',HRN.out.trans hp,hv⟩
  by_cases o22:x.op=22
  ·have hne:t.1≠[]:=fun e=>he ⟨e,.inr o22⟩
   have q1:(x.op==1)=false:=by simp [o22]
   have q2:(x.op==2)=false:=by simp [o22]
   have q3:(x.op==3)=false:=by simp [o22]
   have q5:(x.op==5)=false:=by simp [o22]
   have q23:(x.op==23)=false:=by simp [o22]
   have q24:(x.op==24)=false:=by simp [o22]
   have q4:(x.op==4)=false:=by simp [o22]
   have q21:(x.op==21)=false:=by simp [o22]
   have q22:(x.op==22)=true:=by simp [o22]
   obtain⟨q,hq⟩:∃q,t.1.length=q+1:=⟨t.1.length-1,by have:t.1.length≠0:=fun e=>hne (List.eq_nil_of_length_eq_zero e);omega⟩
   have hqi:((t.1.length:Nat):Int)-1=(q:Int):=by omega
   have hqq:IntKind.i64.wrap (q:Int)=(q:Int):=IntWalk.i64_in _ (by omega)
   have hq3:(q:Int)<(q:Int)+1:=by omega
   have hqw:IntKind.i64.wrap (((t.1.length:Nat):Int)-1)=(q:Int):=by rw [hqi];exact IntWalk.i64_in _ (by omega)
   have hq1:¬((t.1.length:Nat):Int)<1:=by omega
   have hq2:(q:Int)<((t.1.length:Nat):Int):=by omega
   have hq0:(0:Int)≤(q:Int):=by omega
   obtain⟨a8',k8',h8,hg8⟩:=row_slice HR8.out
   obtain⟨rfl,rfl⟩:a8=a8'∧k8=k8':=by simpa using h8
   rcases hg8 with h0|⟨g8,rfl,hg8,c8⟩
   ·omega
   have c8q:=c8 q (by omega)
   have hlast:t.1.getD q 0=t.1.getLastD 0:=by
    have e:t.1.length-1=q:=by omega
    rw [List.getLastD_eq_getLast?,List.getLast?_eq_getElem?,e,List.getD_eq_getElem?_getD]
   rw [hlast]at c8q
   have hcap8:q≤k8:=by
    rcases row_frm HR8.out with ⟨e,-⟩|⟨g,cap,e,-,-,hc⟩
    ·simp at e
    ·obtain⟨-,rfl⟩:_∧k8=cap:=by simpa using e
     omega
   have hdl:t.1.take q=t.1.dropLast:=by rw [List.dropLast_eq_take,hq,Nat.add_sub_cancel]
   clear h8 c8 hlast hq hqi
   have HO:=Lib.hid o22
   have HAB:=Lib.hid (appB_22 (s:=t) o22)
   by_cases hl1:t.1.getLastD 0=1
   ·rw [if_neg (fun c=>c.elim hne (fun c=>c hl1))]at HAB
    rw [hl1]at c8q
    have ha:=hrest.2.2.2.2.1 (.inr o22)
    have hj0:0≤x.a:=by omega
    have hj1:x.a<(l.length:Int)+1:=by omega
    have r8:=own_cut (m:=q) HR8.out (by omega)
    rw [hdl]at r8
    have hg8b:=HB8.out g8 rfl
    have hs8:∀b,(Value.slice (some ⟨g8,0,none⟩) q k8).ownBlock=some b→g8=b:=fun b e=>by simpa [Value.ownBlock]using e
    have HS8:=Lib.hid hs8
    have HMT:=Lib.hid (fun W (hg:w2.Grows W)=>(HW.out.grows (World.Grows.trans' HG2.out hg)).meet (k:=x.a.toNat) (s:=(t.1.dropLast,t.2)) (vz:=.slice (some ⟨g8,0,none⟩) q k8) (vl:=.slice a9 t.2.length k9) (by omega) (Mods.row (P:=fun _=>False) (.grows hg) r8 fun _ _ e=>e) (Mods.row (P:=fun _=>False) (.grows hg) HR9.out fun _ _ e=>e) (by rw [List.length_dropLast];have:=H56.out.2.2.1;omega) H56.out.2.2.2 hm (fun z hz=>H56.out.1 z (List.dropLast_subset _ hz)) H56.out.2.1 (fun e=>by have:=hs8 NS e;omega) (fun e=>by have:=HB9.out NS e;omega) (fun b e=>HSEP.out b (by have:=hs8 b e;omega)) (fun b e=>HSEP.out b (by have:=HB9.out b e;omega)))
    have HR8':=Lib.hid r8
    have HG8B:=Lib.hid hg8b
    clear he hne o4 o1 o2 o3 o5 o23 o21 hrest ha o22 hl1 r8 hg8b hs8 hdl
    have hw8:g8<w2.heap.size:=(HR8'.out.lt g8 rfl).2
    go_wp2_with fail
    go_at_call 46
    refine(HMT.out _ growsR).mono ?_
    rintro e' w3 ⟨bb,rfl,hbl,hsz,hbk,⟨rfl,hp⟩|⟨rfl,T',Rs',Rl',hp,hv,hsp⟩⟩
    ·have HEN:Hid (∀W,w3.Grows W→StpP l.length NS sl.length W0 T x i (.returned (.bool false)) W):=Lib.hid (fun W hg=>⟨false,rfl,hbl.trans (hg.below.mono (by omega)),.inl ⟨rfl,rndB_22no HTT.out HAB.out HO.out hp⟩⟩)
     clear hbl hbk hp
     go_wp2_with fail
     go_returns
     exact HEN.out _ growsR
    ·have HEN:Hid (∀W,w3.Grows W→StMid l.length NS sl.length W0 T t x (.slice (some ⟨g8,0,none⟩) q k8) (.slice a9 t.2.length k9) (.int .i64 0) W):=Lib.hid (fun W hg=>by
      have hn8:∀b,(Value.slice (some ⟨g8,0,none⟩) q k8).ownBlock=some b→g8=b:=HS8.out
      have rr8:=own_block HR8'.out (w':=w3) (fun b e=>hbk b (by have:=hn8 b e;omega) (by have:=hn8 b e;have:=HG8B.out;omega) (HSEP.out b (by have:=hn8 b e;have:=HG8B.out;omega)))
      have rr9:=own_block HR9.out (w':=w3) (fun b e=>hbk b (HR9.out.lt b e).2 (by have:=HB9.out b e;omega) (HSEP.out b (by have:=HB9.out b e;omega)))
      refine⟨t.1.dropLast,t.2,0,T',Rs',Rl',w.heap.size+2,rfl,by omega,by have:=HO.out;omega,Mods.row (P:=fun _=>False) (.grows hg) rr8 fun _ _ e=>e,Mods.row (P:=fun _=>False) (.grows hg) rr9 fun _ _ e=>e,by have:=hg.below.size;omega,by omega,by rw [HAB.out,if_pos rfl],.inr ⟨HO.out,rfl,hp⟩,hv.grows hg,fun b e=>hsp b ?_ (HSEP.out b ?_),fun b e=>hsp b (HR9.out.lt b e).2 (HSEP.out b (by have:=HB9.out b e;omega)),fun b e e2=>?_,by rw [List.length_dropLast];have:=H56.out.2.2.1;omega,H56.out.2.2.2,fun z hz=>H56.out.1 z (List.dropLast_subset _ hz),H56.out.2.1,fun b e=>?_,fun b e=>by have:=HB9.out b e;omega,fun h=>absurd rfl h⟩
      ·have:=hn8 b e;omega
      ·have:=hn8 b e;have:=HG8B.out;omega
      ·have q1:=hn8 b e
       have q2:=HB9.out b e2
       have:=HG8B.out
       omega
      ·have:=hn8 b e;have:=HG8B.out;omega)
     clear hbl hbk hp hv hsp
     go_wp2_with fail
     go_meet
     exact HEN.out _ growsR
   ·rw [if_pos (.inr hl1)]at HAB
    have hz1:(t.1.getLastD 0 !=1)=true:=by simpa using hl1
    generalize t.1.getLastD 0=z at *
    clear he hne o4 o1 o2 o3 o5 o23 o21 hrest o22 hl1 hdl
    go_wp2_with fail
    go_returns
    exact HNO.out _ growsR HAB.out
  have ho:=hrest.2.2.2.2.2 o2 o3 o4 o5 o21 o22 (fun e=>o23 (.inl e)) (fun e=>o23 (.inr e))
  have HAB:=appB_o (s:=t) (x:=x) ⟨o1,o2,o3,o4,o5,o21,o22,fun e=>o23 (.inl e),fun e=>o23 (.inr e)⟩
  have q1:(x.op==1)=false:=by simp;omega
  have q2:(x.op==2)=false:=by simp;omega
  have q3:(x.op==3)=false:=by simp;omega
  have q5:(x.op==5)=false:=by simp;omega
  have q23:(x.op==23)=false:=by simp;omega
  have q24:(x.op==24)=false:=by simp;omega
  have q4:(x.op==4)=false:=by simp;omega
  have q21:(x.op==21)=false:=by simp;omega
  have q22:(x.op==22)=false:=by simp;omega
  have hop:=opF_rng ho
  have HOP:=Lib.hid (fun w=>oper8_any x.op w)
  have HAR:=Lib.hid (fun w=>Args_any (opF x.op) w)
  rw [args_ari hop]at HAR
  have HO:=Lib.hid (And.intro o21 o22)
  obtain⟨ar,har⟩:∃ar,ariF (opF x.op)=ar:=⟨_,rfl⟩
  have har2:ar=1∨ar=2:=by rw [←har];unfold ariF;split<;>omega
  have harg:argsN (opF x.op)=(ar:Int):=by rw [args_ari hop,har]
  rw [har]at HAR HAB
  obtain⟨op,hope⟩:∃q,opF x.op=q:=⟨_,rfl⟩
  rw [hope]at HOP HAR HAB hop harg
  clear he o4 o1 o2 o3 o5 o23 o21 o22 hrest ho har hope
  by_cases hlt:t.1.length<ar
  ·have d9:((t.1.length:Nat):Int)<(ar:Int):=by omega
   rw [if_pos hlt]at HAB
   have HAC:=Lib.hid HAB
   clear HAB hlt
   go_wp2_with (first
    |(go_at_call 57;refine(HOP.out _).mono ?_;rintro e' w' ⟨rfl,rfl⟩)
    |(go_at_call 58;refine(HAR.out _).mono ?_;rintro e' w' ⟨rfl,rfl⟩))
   go_returns
   exact HNO.out _ growsR HAC.out
  rw [if_neg hlt]at HAB
  obtain⟨m',hm'⟩:∃m',t.1.length-ar=m':=⟨_,rfl⟩
  rw [hm']at HAB
  have hmi:((t.1.length:Nat):Int)-(ar:Int)=(m':Int):=by omega
  have hmw:IntKind.i64.wrap (((t.1.length:Nat):Int)-(ar:Int))=(m':Int):=by rw [hmi];exact IntWalk.i64_in _ (by omega)
  have hmm:IntKind.i64.wrap (m':Int)=(m':Int):=IntWalk.i64_in _ (by omega)
  have d9:¬((t.1.length:Nat):Int)<(ar:Int):=by omega
  have hle:m'≤t.1.length:=by omega
  have hlei:(m':Int)≤((t.1.length:Nat):Int):=by omega
  have hL:t.1.length-m'=ar:=by omega
  obtain⟨a8',k8',h8,hg8⟩:=row_slice HR8.out
  obtain⟨rfl,rfl⟩:a8=a8'∧k8=k8':=by simpa using h8
  rcases hg8 with h0|⟨g8,rfl,hg8,c8⟩
  ·omega
  have hcap8:t.1.length≤k8:=by
   rcases row_frm HR8.out with ⟨e,-⟩|⟨g,cap,e,-,-,hc⟩
   ·simp at e
   ·obtain⟨-,rfl⟩:_∧k8=cap:=by simpa using e
    exact hc
  have hdlen:(t.1.drop m').length=ar:=by rw [List.length_drop];omega
  have HRS:Hid (∀W,w2.Grows W→∀cap,Calls Tryz.prog 98 #[.int .i64 op,.slice (some ⟨g8,m',none⟩) ar cap] W (Res5P (resD op (t.1.drop m')) W)):=Lib.hid (fun W hg cap=>by
   rw [←hdlen]
   refine res5_off op (t.1.drop m') g8 m' cap W hop.1 hop.2 (by rw [hdlen,harg]) (fun z hz=>H56.out.1 z (List.mem_of_mem_drop hz)) (fun k hk=>?_)
   rw [World.cell?_of_block (a:=⟨g8,m'+k,none⟩) (hg.below.block g8 hg8),c8 _ (by rw [List.length_drop]at hk;omega)]
   simp only [List.getD_eq_getElem?_getD,List.getElem?_drop])
  unfold Res5P at HRS
  have HPP:=Lib.hid (fun(h:resD op (t.1.drop m')≠0)=>resD_pos (fun z hz=>H56.out.1 z (List.mem_of_mem_drop hz)) h)
  have r8:=own_cut (m:=m') HR8.out hle
  have HR8':=Lib.hid r8
  have htl:(t.1.take m').length=m':=by rw [List.length_take];omega
  have HTL:=Lib.hid htl
  have hg8b:=HB8.out g8 rfl
  have HG8B:=Lib.hid hg8b
  obtain⟨p,hp⟩:∃p,resD op (t.1.drop m')=p:=⟨_,rfl⟩
  rw [hp]at HRS HPP HAB
  clear h8 c8 hm' hmi hdlen r8 hlt hop harg hp htl hg8b
  by_cases hp0:p=0
  ·rw [if_pos hp0]at HAB
   have HAC:=Lib.hid HAB
   subst hp0
   clear HAB
   go_wp2_with (first
    |(go_at_call 57;refine(HOP.out _).mono ?_;rintro e' w' ⟨rfl,rfl⟩)
    |(go_at_call 58;refine(HAR.out _).mono ?_;rintro e' w' ⟨rfl,rfl⟩)
    |(go_at_call 98;refine(HRS.out _ growsR _).mono ?_;rintro e' w' ⟨rfl,bs,d,rfl⟩))
   go_returns
   exact HNO.out _ growsR HAC.out
  ·rw [if_neg hp0]at HAB
   have HAC:=Lib.hid HAB
   have hpe:(p==0)=false:=by simpa using hp0
   have HP0:=Lib.hid hp0
   have HS8:Hid (∀b,(Value.slice (some ⟨g8,0,none⟩) m' k8).ownBlock=some b→g8=b):=Lib.hid (fun b e=>by simpa [Value.ownBlock]using e)
   have HEN:Hid (∀W,w2.Grows W→StMid l.length NS sl.length W0 T t x (.slice (some ⟨g8,0,none⟩) m' k8) (.slice a9 t.2.length k9) (.int .i64 p) W):=Lib.hid (fun W hg=>by
    refine⟨t.1.take m',t.2,p,T,Rs,Rl,w.heap.size+2,rfl,by have:=HPP.out HP0.out;omega,HO.out.1,Mods.row (P:=fun _=>False) (.grows hg) HR8'.out fun _ _ e=>e,Mods.row (P:=fun _=>False) (.grows hg) HR9.out fun _ _ e=>e,by have:=hg.below.size;omega,by omega,by rw [HAC.out,if_neg HP0.out],.inl ⟨HO.out.2,rfl⟩,HW.out.grows (World.Grows.trans' HG2.out hg),fun b e=>HSEP.out b ?_,fun b e=>HSEP.out b (by have:=HB9.out b e;omega),fun b e e2=>?_,by rw [HTL.out];have:=H56.out.2.2.1;omega,H56.out.2.2.2,fun z hz=>H56.out.1 z (List.mem_of_mem_take hz),H56.out.2.1,fun b e=>?_,fun b e=>by have:=HB9.out b e;omega,fun _ b j u e hu=>⟨fun e2=>?_,fun e2=>?_⟩⟩
    ·have:=HS8.out b e;have:=HG8B.out;omega
    ·have q1:=HS8.out b e
     have q2:=HB9.out b e2
     have:=HG8B.out
     omega
    ·have:=HS8.out b e;have:=HG8B.out;omega
    ·have q1:=HS8.out b e
     have:=((HW.out.row j u hu).1.lt b e2).2
     have:=HG8B.out
     omega
    ·have q1:=HS8.out b e
     have:=((HW.out.row j u hu).2.1.lt b e2).2
     have:=HG8B.out
     omega)
   clear HAB hp0
   go_wp2_with (first
    |(go_at_call 57;refine(HOP.out _).mono ?_;rintro e' w' ⟨rfl,rfl⟩)
    |(go_at_call 58;refine(HAR.out _).mono ?_;rintro e' w' ⟨rfl,rfl⟩)
    |(go_at_call 98;refine(HRS.out _ growsR _).mono ?_;rintro e' w' ⟨rfl,bs,d,rfl⟩))
   go_meet
   exact HEN.out _ growsR
 obtain⟨zs,ls,p,T1,Rs1,Rl1,B,rfl,hp0,h21,r8,r9,hB,hNB,hap,hT1,hv,s8,s9,d89,l24,lm,pz,pl,b8,b9,sA⟩:=hcut
 obtain⟨va8,vk8,rfl⟩:=row_form'' r8
 obtain⟨va9,vk9,rfl⟩:=row_form'' r9
 have HIN:Hid (i+1≤l.length):=Lib.hid (by omega)
 obtain⟨q,hq⟩:∃q,i+1=q:=⟨_,rfl⟩
 have hqw:IntKind.i64.wrap ((i:Int)+1)=(q:Int):=by rw [←hq,IntWalk.i64_in _ (by omega)];rfl
 have hqi:(i:Int)+1=(q:Int):=by omega
 have hqq:IntKind.i64.wrap (q:Int)=(q:Int):=IntWalk.i64_in _ (by omega)
 have hq0:(0:Int)≤(q:Int):=by omega
 have hq1:(q:Int)<(l.length:Int)+1:=by omega
 have HQ:=Lib.hid hq
 by_cases hpz:p=0
 ·rw [if_pos hpz]at hap
  have d24:¬(24:Int)<(zs.length:Int):=by omega
  have HRN:Hid (rndB T x i=putB T1 q (zs,ls)):=Lib.hid (by rw [rndB_end HTT.out hap h21 (hT1.imp id fun h=>⟨h.1,h.2.2⟩),if_neg (by show ¬24<zs.length;omega),hq])
  have HMT:=Lib.hid (fun W (hg:wc.Grows W)=>(hv.grows hg).meet (k:=q) (s:=(zs,ls)) (vz:=.slice va8 zs.length vk8) (vl:=.slice va9 ls.length vk9) (by omega) (Mods.row (P:=fun _=>False) (.grows hg) r8 fun _ _ e=>e) (Mods.row (P:=fun _=>False) (.grows hg) r9 fun _ _ e=>e) l24 lm hm pz pl (fun e=>by have:=b8 NS e;omega) (fun e=>by have:=b9 NS e;omega) s8 s9)
  subst hpz
  clear hap hT1 hv s8 s9 d89 l24 lm pz pl b8 b9 sA r8 r9 hq h21
  go_wp2_with (go_at_call 46;refine(HMT.out _ growsR).mono ?_;rintro e' w3 ⟨bb,rfl,hbl,hsz,-,hcc⟩)
  go_returns
  refine⟨bb,rfl,hbl, ?_⟩
  rcases hcc with ⟨rfl,hp⟩|⟨rfl,T',Rs',Rl',hp,hv,-⟩
  ·exact .inl ⟨rfl,HRN.out.trans hp⟩
  ·exact .inr ⟨rfl,T',Rs',Rl',HRN.out.trans hp,hv⟩
 ·rw [if_neg hpz]at hap
  have hpe:(p==0)=false:=by simpa using hpz
  have hpn:(p !=0)=true:=by simpa using hpz
  obtain⟨i0,hi0,hz0,hz1,hz2⟩:=info_parts infoIM
  have HR8a:=Lib.hid r8
  have HFIN:Hid (∀g cp w3,w3.ownsRow B 3 1 (.slice (some ⟨g,0,none⟩) (zs.length+1) cp) (zs.length+1) (zs.map (Value.int .i64)++[.int .i64 p])→wc.grownBy w3 (Value.slice va8 zs.length vk8).ownBlock→((Value.slice va8 zs.length vk8).ownBlock=some g∨wc.heap.size≤g)→
   (24<zs.length+1→∀W,w3.Grows W→StpP l.length NS sl.length W0 T x i (.returned (.bool false)) W)∧(¬24<zs.length+1→∀W,w3.Grows W→Calls Tryz.prog 46 #[.pointer (some ⟨NS,q*3,none⟩),.slice (some ⟨g,0,none⟩) (zs.length+1) cp,.slice va9 ls.length vk9] W (StpP l.length NS sl.length W0 T x i))):=Lib.hid (fun g cp w3 hown hgr hgg=>by
   have hmd:Mods (fun b=>(Value.slice va8 zs.length vk8).ownBlock=some b) wc w3:=Mods.grown hgr fun _ e=>e
   have hv3:WInv l.length NS sl.length W0 T1 Rs1 Rl1 w3:=hv.mods hmd (fun b e=>by have:=b8 b e;omega) (sA hpz)
   have hlen:(zs++[p]).length=zs.length+1:=by simp
   have hrow:w3.ownsRow B 3 1 (.slice (some ⟨g,0,none⟩) (zs.length+1) cp) (zs++[p]).length ((zs++[p]).map (Value.int .i64)):=by rw [hlen,List.map_append];exact hown
   have r9':=hmd.row r9 (fun b e e2=>d89 b e2 e)
   have hgS:SepB T1 Rl1 g:=by
    rcases hgg with e|e
    ·exact s8 g e
    ·intro k u hu e2
     have:=((hv.row k u hu).2.1.lt g e2).2
     omega
   have hgN:NS<g:=by
    rcases hgg with e|e
    ·have:=b8 g e;omega
    ·have:=hv.sz;omega
   have hend:=rndB_end HTT.out hap h21 (hT1.imp id fun h=>absurd h.2.1 hpz)
   refine⟨fun h24 W hg=>⟨false,rfl,hv3.lo.trans (hg.below.mono (by have:=hv3.sz;omega)),.inl ⟨rfl,by rw [hend,if_pos (by show 24<(zs++[p]).length;omega)]⟩⟩,fun h24 W hg=>?_⟩
   rw [if_neg (by show ¬24<(zs++[p]).length;omega),hq]at hend
   refine((hv3.grows hg).meet (k:=q) (s:=(zs++[p],ls)) (vz:=.slice (some ⟨g,0,none⟩) (zs.length+1) cp) (vl:=.slice va9 ls.length vk9) (by omega) (Mods.row (P:=fun _=>False) (.grows hg) hrow fun _ _ e=>e) (Mods.row (P:=fun _=>False) (.grows hg) r9' fun _ _ e=>e) (by show(zs++[p]).length≤24;omega) lm hm (fun z hz=>?_) pl (fun e=>?_) (fun e=>by have:=b9 NS e;omega) (fun b e=>?_) s9).mono ?_
   ·rcases List.mem_append.1 hz with hz|hz
    ·exact pz z hz
    ·obtain rfl:=List.mem_singleton.1 hz;omega
   ·have:g=NS:=by simpa [Value.ownBlock]using e
    omega
   ·have:g=b:=by simpa [Value.ownBlock]using e
    subst this;exact hgS
   ·rintro e w' ⟨bb,rfl,hbl,hsz,-,hcc⟩
    refine⟨bb,rfl,hbl, ?_⟩
    rcases hcc with ⟨rfl,hp⟩|⟨rfl,T',Rs',Rl',hp,hv',-⟩
    ·exact .inl ⟨rfl,hend.trans hp⟩
    ·exact .inr ⟨rfl,T',Rs',Rl',hend.trans hp,hv'⟩)
  have HB:=Lib.hid hB
  have hzl:zs.length≤24:=l24
  clear hap hT1 hv s8 s9 d89 l24 lm pz pl b8 b9 sA r8 r9 hq h21 hpz
  go_wp2_with (at_builtin;refine wpList_append_lies _ rfl _ _ 22 rfl B 3 i0 _ 1 8 Tryz.underlying22 hi0 hz0 hz1 hz2 rfl (by decide) _ _ _ rfl (HR8a.out.alloc _) ⟨wc.heap.size,0,none⟩ 1 1 [.int .i64 p] rfl rfl ?c1 ?c2 (by decide) ?c3 ?c4 ?c5 (wc.heap.size+1) (by simp) ?_)
  case c1=>(refine news_cells _ [_] _ _ ?_);simp
  case c2=>intro u hu;simp at hu;subst hu;rfl
  case c3=>unfold maxLen;omega
  case c4=>omega
  case c5=>have:=HB.out;simp;omega
  intro g cp w3 hown hgrow hgg hgl
  have hg2:wc.grownBy w3 (Value.slice va8 zs.length vk8).ownBlock:=⟨hgrow.os,hgrow.tape,hgrow.output,by have:=hgrow.size;simp at this;omega,fun k hk hne=>(hgrow.block k (by simp;omega) hne).trans (Below.heap_alloc wc _ k hk)⟩
  obtain⟨hA,hC⟩:=HFIN.out g cp w3 hown hg2 (hgg.imp id fun e=>by omega)
  by_cases h24:24<zs.length+1
  ·have HA:=Lib.hid (hA h24)
   have d25:(24:Int)<(zs.length:Int)+1:=by omega
   clear hA hC hown hgrow hgg hg2 h24
   go_wp2_with fail
   go_returns
   exact HA.out _ growsR
  ·have HC:=Lib.hid (hC h24)
   have d25:¬(24:Int)<(zs.length:Int)+1:=by omega
   clear hA hC hown hgrow hgg hg2 h24
   unfold StpP at HC
   go_wp2_with (go_at_call 46;refine(HC.out _ growsR).mono ?_;rintro e' w4 ⟨bb,rfl,hrest⟩)
   go_returns
   exact⟨bb,rfl,hrest⟩
end Go.Proofs.YtaghhncnicbedaaGreatDoor
