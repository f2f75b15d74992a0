import Derived.Test.YtblkcgceefjmjaaGreatDoorSTyS
import Derived.Test.YtblkcgceefjmjaaGreatDoorSShelf3
import Derived.Test.YtblkcgceefjmjaaGreatDoorSShelf4
import Derived.Test.YtblkcgceefjmjaaGreatDoorSK
import Derived.Shelf.Spec.BitsCarry
import Derived.Sort.OwnSortedInts
import Derived.RangeFuncNested
import Derived.RangeFuncBound
import Derived.RangeFuncCalls
import Derived.RangeFuncLeaves
import Derived.RangeFuncBox
import Derived.Shelf.Abstract
import Derived.Shelf.RegionOpen
import Derived.WalkKit
import Derived.OwnWalkIn
import Derived.TacticsInMore
import Derived.LoopNIn
import Derived.LoopIn
import Derived.Maps.AppendAt
set_option linter.all false
set_option maxHeartbeats 16000000
set_option maxRecDepth 1000000
namespace Go.Proofs.YtblkcgceefjmjaaGreatDoor
open Go.RowKit
theorem resD_bd{op:Int}{d:List Int}(h:∀x∈d,1≤x∧x≤4)(hr:resD op d≠0):1≤resD op d∧resD op d≤4:=by
 have g:∀k,d.getD k 0=0∨(1≤d.getD k 0∧d.getD k 0≤4):=fun k=>by
  by_cases hk:k<d.length
  ·rw [List.getD_eq_getElem?_getD,List.getElem?_eq_getElem hk];exact .inr (h _ (List.getElem_mem hk))
  ·rw [List.getD_eq_getElem?_getD,List.getElem?_eq_none (by omega)];exact .inl rfl
 have g0:=g 0
 have g1:=g 1
 unfold resD at hr ⊢
 dsimp only at hr ⊢
 generalize d.getD 0 0=a at *
 generalize d.getD 1 0=b at *
 generalize d.getD 2 0=c at *
 clear h g
 (repeat' split)<;>(repeat' split at hr)<;>omega
theorem dimsOk_mem{env:List (ByteArray × Int)}(h:dimsOk env=true){p:ByteArray × Int}(hp:p∈env):1≤p.2∧p.2≤4:=by
 have:=List.all_eq_true.1 h p hp
 simpa using this
theorem lastN_in{α:Type}{env:List (ByteArray × α)}{s:ByteArray}{x:α}(h:lastN env s=some x):∃p∈env,p.2=x:=by
 unfold lastN at h
 obtain⟨p,hp,rfl⟩:=Option.map_eq_some_iff.1 h
 exact⟨p,List.mem_reverse.1 (List.mem_of_find?_eq_some hp),rfl⟩
mutual
theorem infer_dim{env:List (ByteArray × Int)}(hE:dimsOk env=true):∀e:Ex,formedB e=true→(inferF env e).2=0→1≤(inferF env e).1∧(inferF env e).1≤4
 | .mk op n d m s l=>by
   intro hf hi
   rw [formedB,Bool.and_eq_true,decide_eq_true_eq]at hf
   rw [inferF]at hi ⊢
   obtain⟨ha,hf⟩:=hf
   unfold infNode at hi ⊢
   by_cases c1:op=1
   ·subst c1
    rw [if_pos rfl]at hf
    simp only [Bool.and_eq_true]at hf
    have:=decOk_bd hf.1
    exact⟨by show 1≤m;omega,by show m≤4;omega⟩
   rw [if_neg c1]at hi hf ⊢
   by_cases c3:op=3
   ·rw [if_pos c3];exact⟨by show(1:Int)≤4;omega,by show(4:Int)≤4;omega⟩
   rw [if_neg c3]at hi ⊢
   by_cases c2:op=2
   ·rw [if_pos c2]at hi ⊢
    unfold inferN at hi ⊢
    by_cases cd:inpD s.toList≠0
    ·rw [if_pos cd]
     have:=inpD_bd s.toList
     exact⟨by show 1≤inpD s.toList;omega,by show inpD s.toList≤4;omega⟩
    ·rw [if_neg cd]at hi ⊢
     cases hl:lastN env s with
     |none=>rw [hl]at hi;simp at hi
     |some x=>
      obtain⟨p,hp,rfl⟩:=lastN_in hl
      exact dimsOk_mem hE hp
   rw [if_neg c2,if_neg c3]at hf
   rw [if_neg c2]at hi ⊢
   simp only [Bool.and_eq_true]at hf
   split at hi<;>rename_i c4
   ·exact absurd hi c4
   rw [if_neg c4]
   split at hi<;>rename_i c5
   ·simp at hi
   rw [if_neg c5]
   exact resD_bd (infers_dim hE l hf.1 (by omega)) c5
theorem infers_dim{env:List (ByteArray × Int)}(hE:dimsOk env=true):∀l:List Ex,formedsB l=true→(infersF env l).2=0→∀x∈(infersF env l).1,1≤x∧x≤4
 | []=>by intro _ _ x hx;simp [infersF]at hx
 |e::r=>by
  intro hf h x hx
  rw [formedsB,Bool.and_eq_true]at hf
  rw [infersF]at h hx
  split at h<;>rename_i c1
  ·exact absurd h c1
  split at h<;>rename_i c2
  ·exact absurd h c2
  rw [if_neg c1,if_neg c2]at hx
  rcases List.mem_cons.1 hx with rfl|hx
  ·exact infer_dim hE e hf.1 (by omega)
  ·exact infers_dim hE r hf.2 (by omega) x hx
end
theorem infers_bad(env:List (ByteArray × Int)):∀(l:List Ex) (k:Nat),k<l.length→(∀j,j<k→(inferF env (l.getD j default)).2=0)→(inferF env (l.getD k default)).2≠0→
 (infersF env l).2=(inferF env (l.getD k default)).2
 | [],k,hk,_,_=>by simp at hk
 |e::r,0,_,_,h=>by
  rw [infersF,if_pos (by simpa using h)];rfl
 |e::r,k+1,hk,hj,h=>by
  have h0:(inferF env e).2=0:=hj 0 (by omega)
  have hr:=infers_bad env r k (by simpa using hk) (fun j hjk=>hj (j+1) (by omega)) h
  have hne:(infersF env r).2≠0:=by rw [hr];exact h
  rw [infersF,if_neg (by omega),if_pos hne]
  exact hr
theorem infers_ok(env:List (ByteArray × Int)):∀l:List Ex,(∀j,j<l.length→(inferF env (l.getD j default)).2=0)→infersF env l=(l.map fun e=>(inferF env e).1,0)
 | [],_=>by rw [infersF];rfl
 |e::r,h=>by
  have h0:(inferF env e).2=0:=h 0 (by simp)
  have hr:=infers_ok env r (fun j hj=>h (j+1) (by simpa using hj))
  rw [infersF,if_neg (by omega),hr,if_neg (by simp)]
  rfl
theorem len1{d:List Int}(h:(d.length:Int)=1):∃x,d= [x]:=List.length_eq_one_iff.1 (by omega)
theorem len2{d:List Int}(h:(d.length:Int)=2):∃x y,d= [x,y]:=by
 match d,(show d.length=2 by omega)with
 | [a,b],_=>exact⟨a,b,rfl⟩
theorem len3{d:List Int}(h:(d.length:Int)=3):∃x y z,d= [x,y,z]:=by
 match d,(show d.length=3 by omega)with
 | [a,b,c],_=>exact⟨a,b,c,rfl⟩
theorem own_cell{w:World}{base g cap:Nat}{d:List Int}(h:w.ownsRow base 3 1 (.slice (some ⟨g,0,none⟩) d.length cap) d.length (d.map (Value.int .i64)))(k:Nat)(hk:k<d.length):w.cell? ⟨g,0+k,none⟩=some (.int .i64 (d.getD k 0)):=by
 have:=World.ownsRow.cells (g:=g) h rfl k (.int .i64 (d.getD k 0)) (by rw [List.getElem?_map,List.getD_eq_getElem?_getD,List.getElem?_eq_getElem hk];rfl)
 rw [addr_add]at this
 rw [Nat.zero_add];exact this
theorem res2_all(op:Int)(d:List Int)(base g cap:Nat)(w:World)(h4:4≤op)(h21:op≤21)(hl:(d.length:Int)=argsN op)(hx:∀x∈d,1≤x)(h:w.ownsRow base 3 1 (.slice (some ⟨g,0,none⟩) d.length cap) d.length (d.map (Value.int .i64))) :
 Calls Tryz.prog 216 #[.int .i64 op,.slice (some ⟨g,0,none⟩) d.length cap] w (Res2P (resD op d) w):=by
 have hc:=own_cell h
 clear h
 rcases(show op=4∨op=5∨op=6∨op=7∨op=8∨op=9∨op=10∨op=11∨op=12∨op=13∨op=14∨op=15∨op=16∨op=17∨op=18∨op=19∨op=20∨op=21 by omega)with rfl|rfl|rfl|rfl|rfl|rfl|rfl|rfl|rfl|rfl|rfl|rfl|rfl|rfl|rfl|rfl|rfl|rfl
 ·obtain⟨x,rfl⟩:=len1 (d:=d) (by rw [hl];rfl)
  exact res2_4 x g 0 cap w (hc 0 (by simp)) (hx _ (by simp))
 ·obtain⟨x,rfl⟩:=len1 (d:=d) (by rw [hl];rfl)
  exact res2_5 x g 0 cap w (hc 0 (by simp)) (hx _ (by simp))
 ·obtain⟨x,rfl⟩:=len1 (d:=d) (by rw [hl];rfl)
  exact res2_6 x g 0 cap w (hc 0 (by simp)) (hx _ (by simp))
 ·obtain⟨x,y,rfl⟩:=len2 (d:=d) (by rw [hl];rfl)
  exact res2_7 x y g 0 cap w (hc 0 (by simp)) (hc 1 (by simp)) ⟨hx _ (by simp),hx _ (by simp)⟩
 ·obtain⟨x,y,rfl⟩:=len2 (d:=d) (by rw [hl];rfl)
  exact res2_8 x y g 0 cap w (hc 0 (by simp)) (hc 1 (by simp)) ⟨hx _ (by simp),hx _ (by simp)⟩
 ·obtain⟨x,y,rfl⟩:=len2 (d:=d) (by rw [hl];rfl)
  exact res2_9 x y g 0 cap w (hc 0 (by simp)) (hc 1 (by simp)) ⟨hx _ (by simp),hx _ (by simp)⟩
 ·obtain⟨x,y,rfl⟩:=len2 (d:=d) (by rw [hl];rfl)
  exact res2_10 x y g 0 cap w (hc 0 (by simp)) (hc 1 (by simp)) ⟨hx _ (by simp),hx _ (by simp)⟩
 ·obtain⟨x,y,rfl⟩:=len2 (d:=d) (by rw [hl];rfl)
  exact res2_11 x y g 0 cap w (hc 0 (by simp)) (hc 1 (by simp)) ⟨hx _ (by simp),hx _ (by simp)⟩
 ·obtain⟨x,y,rfl⟩:=len2 (d:=d) (by rw [hl];rfl)
  exact res2_12 x y g 0 cap w (hc 0 (by simp)) (hc 1 (by simp)) ⟨hx _ (by simp),hx _ (by simp)⟩
 ·obtain⟨x,y,rfl⟩:=len2 (d:=d) (by rw [hl];rfl)
  exact res2_13 x y g 0 cap w (hc 0 (by simp)) (hc 1 (by simp)) ⟨hx _ (by simp),hx _ (by simp)⟩
 ·obtain⟨x,y,rfl⟩:=len2 (d:=d) (by rw [hl];rfl)
  exact res2_14 x y g 0 cap w (hc 0 (by simp)) (hc 1 (by simp)) ⟨hx _ (by simp),hx _ (by simp)⟩
 ·obtain⟨x,y,rfl⟩:=len2 (d:=d) (by rw [hl];rfl)
  exact res2_15 x y g 0 cap w (hc 0 (by simp)) (hc 1 (by simp)) ⟨hx _ (by simp),hx _ (by simp)⟩
 ·obtain⟨x,y,rfl⟩:=len2 (d:=d) (by rw [hl];rfl)
  exact res2_16 x y g 0 cap w (hc 0 (by simp)) (hc 1 (by simp)) ⟨hx _ (by simp),hx _ (by simp)⟩
 ·obtain⟨x,y,rfl⟩:=len2 (d:=d) (by rw [hl];rfl)
  exact res2_17 x y g 0 cap w (hc 0 (by simp)) (hc 1 (by simp)) ⟨hx _ (by simp),hx _ (by simp)⟩
 ·obtain⟨x,y,rfl⟩:=len2 (d:=d) (by rw [hl];rfl)
  exact res2_18 x y g 0 cap w (hc 0 (by simp)) (hc 1 (by simp)) ⟨hx _ (by simp),hx _ (by simp)⟩
 ·obtain⟨x,y,rfl⟩:=len2 (d:=d) (by rw [hl];rfl)
  exact res2_19 x y g 0 cap w (hc 0 (by simp)) (hc 1 (by simp)) ⟨hx _ (by simp),hx _ (by simp)⟩
 ·obtain⟨x,y,rfl⟩:=len2 (d:=d) (by rw [hl];rfl)
  exact res2_20 x y g 0 cap w (hc 0 (by simp)) (hc 1 (by simp)) ⟨hx _ (by simp),hx _ (by simp)⟩
 ·obtain⟨x,y,z,rfl⟩:=len3 (d:=d) (by rw [hl];rfl)
  exact res2_21 x y z g 0 cap w (hc 0 (by simp)) (hc 1 (by simp)) (hc 2 (by simp)) ⟨hx _ (by simp),hx _ (by simp),hx _ (by simp)⟩
def Tab(w:World):Prop:=Lib.TabIs Tryz.prog w "internal/strconv.uint64pow10" .u64 Lib.pow10Tab
theorem Tab.below{w w':World}(h:Tab w)(hb:Below w.heap.size w w'):Tab w':=by
 unfold Tab Lib.TabIs World.var? at *
 cases hg:Program.globalNamed Tryz.prog "internal/strconv.uint64pow10" with
 |none=>simp [hg]at h
 |some g=>
  simp only [hg,Option.bind_some]at h ⊢
  have hlt:g<w.heap.size:=by
   rcases Nat.lt_or_ge g w.heap.size with h'|h'
   ·exact h'
   ·rw [Array.getElem?_eq_none h']at h;simp at h
  rw [hb.block g hlt]
  exact h
theorem Tab.grow{w:World}(h:Tab w)(bs:Array Obj)(d:Nat):Tab (w.grow bs d):=h.below ((Below.refl _ _).grow (Nat.le_refl _) _ _)
theorem Tab.alloc{w:World}(h:Tab w)(o:Obj):Tab (w.alloc o):=h.below ((Below.refl _ _).alloc (Nat.le_refl _) _)
theorem Tab.drewN{w:World}(h:Tab w)(n:Nat):Tab (w.drewN n):=h.below ⟨rfl,rfl,rfl,Nat.le_refl _,fun _ _=>rfl⟩
theorem Tab.grows{w w':World}(h:Tab w)(hg:w.Grows w'):Tab w':=h.below hg.below
theorem Itoa_any(n:Int)(h0:-9223372036854775808≤n)(h1:n≤9223372036854775807)(w:World)(ht:Tab w):Calls Tryz.prog 257 #[.int .i64 n] w fun e w'=>e= .returned (.string ⟨(Lib.itoa n).toArray⟩)∧w.Grows w':=
 (Tryz.strconv_Itoa n h0 h1 w ht).mono fun e w' ⟨he,k,os,hw⟩=>⟨he,by
  subst hw
  refine .of_below ⟨rfl,rfl,rfl,by simp [Sort.grow,World.drewN],fun j hj=>?_⟩
  simp only [Sort.grow,World.drewN]
  rw [Array.getElem?_append_left hj]⟩
theorem Itoa_digit(x:Int)(h0:0≤x)(h1:x≤9)(w:World):Calls Tryz.prog 257 #[.int .i64 x] w fun e w'=>e= .returned (.string ⟨(Lib.decDigits x.toNat).toArray⟩)∧w=w':=by
 obtain⟨i,rfl⟩:=Int.eq_ofNat_of_zero_le h0
 exact(Tryz.strconv_Itoa_small i (by omega) w).mono fun e w' ⟨he,hw⟩=>⟨he,hw.symm⟩

theorem times2_any(a b:Nat)(w:World)(h1:a<18446744073709551616)(h2:b<18446744073709551616) :
 Calls Tryz.prog 236 #[.int .u64 a,.int .u64 b] w fun e w'=>e= .returned (.agg #[.int .u64 (hiW (a*b)),.int .u64 (loW (a*b))])∧w.Grows w':=by
 have H:Hid (∀w,Calls Tryz.prog 168 #[.int .u64 a,.int .u64 b] w fun e w'=>e= .returned (.tuple #[.int .u64 (hiW (a*b)),.int .u64 (loW (a*b))])∧w'=w):=Tryz.bits_Mul64 a b h1 h2
 generalize a*b=n at *
 go_enter Tryz.func236,Tryz.ntmps236
 go_wp2_with fail
 refine(H.out _).mono ?_
 rintro e w' ⟨rfl,rfl⟩
 clear H
 go_wp2_with fail
 go_returns
 exact⟨rfl,.of_below belB⟩
theorem add64_nat(x y c:Nat)(hc:c≤1)(w:World):(callFunc 261 #[.int .u64 x,.int .u64 y,.int .u64 c]).run Tryz.prog w=
 .ok (.value (.tuple #[.int .u64 (((x+y+c) % 18446744073709551616:Nat):Int),.int .u64 (((x+y+c) / 18446744073709551616:Nat):Int)])) w:=by
 rw [run_callFunc_extern Tryz.func261 (by kernel_rfl) (by kernel_rfl) (by kernel_rfl) (e:=add64Entry) (by kernel_rfl),run_add64 x y c (by omega) (by omega) (by omega) (by omega)]
 simp only [Result.andThen]
 congr 5<;>omega
theorem sub64_nat(x y b:Nat)(hb:b≤1)(w:World):(callFunc 262 #[.int .u64 x,.int .u64 y,.int .u64 b]).run Tryz.prog w=
 .ok (.value (.tuple #[.int .u64 (((x+18446744073709551616-y-b) % 18446744073709551616:Nat):Int),.int .u64 ((if x<y+b then 1 else 0:Nat):Int)])) w:=by
 rw [run_callFunc_extern Tryz.func262 (by kernel_rfl) (by kernel_rfl) (by kernel_rfl) (e:=sub64Entry) (by kernel_rfl),run_sub64 x y b hb]
 rfl
def hiN(n:Nat):Nat:=n / 18446744073709551616
def loN(n:Nat):Nat:=n % 18446744073709551616
theorem add_words(a b:Nat)(h:a+b<340282366920938463463374607431768211456) :
 (loN a+loN b+0) % 18446744073709551616=loN (a+b)∧(loN a+loN b+0) / 18446744073709551616≤1∧(hiN a+hiN b+(loN a+loN b+0) / 18446744073709551616) % 18446744073709551616=hiN (a+b):=by
 unfold loN hiN;omega
theorem sub_words(a b:Nat)(h:b≤a)(ha:a<340282366920938463463374607431768211456) :
 (loN a+18446744073709551616-loN b-0) % 18446744073709551616=loN (a-b)∧(if loN a<loN b+0 then 1 else 0)≤1∧(hiN a+18446744073709551616-hiN b-(if loN a<loN b+0 then 1 else 0)) % 18446744073709551616=hiN (a-b):=by
 unfold loN hiN;split<;>omega
theorem plus2_any(a b:Nat)(w:World)(h:a+b<340282366920938463463374607431768211456) :
 Calls Tryz.prog 237 #[.agg #[.int .u64 (hiW a),.int .u64 (loW a)],.agg #[.int .u64 (hiW b),.int .u64 (loW b)]] w fun e w'=>e= .returned (.agg #[.int .u64 (hiW (a+b)),.int .u64 (loW (a+b))])∧w.Grows w':=by
 obtain⟨e1,e2,e3⟩:=add_words a b h
 obtain⟨c,hc⟩:∃c,(loN a+loN b+0) / 18446744073709551616=c:=⟨_,rfl⟩
 have ha:∀w,(callFunc 261 #[.int .u64 (loW a),.int .u64 (loW b),.int .u64 0]).run Tryz.prog w= .ok (.value (.tuple #[.int .u64 (loW (a+b)),.int .u64 (c:Int)])) w:=by
  intro w;have:=add64_nat (loN a) (loN b) 0 (by omega) w;rw [e1,hc]at this;exact this
 have hb:∀w,(callFunc 261 #[.int .u64 (hiW a),.int .u64 (hiW b),.int .u64 (c:Int)]).run Tryz.prog w= .ok (.value (.tuple #[.int .u64 (hiW (a+b)),.int .u64 ((hiN a+hiN b+c) / 18446744073709551616:Nat)])) w:=by
  intro w;have:=add64_nat (hiN a) (hiN b) c (by omega) w;rw [←hc,e3,hc]at this;exact this
 generalize(((hiN a+hiN b+c) / 18446744073709551616:Nat):Int)=z at *
 generalize(c:Int)=c' at *
 clear e1 e2 e3 hc h
 generalize hiW a=A at *
 generalize hiW b=B at *
 generalize loW a=La at *
 generalize loW b=Lb at *
 generalize hiW (a+b)=S at *
 generalize loW (a+b)=T at *
 go_enter Tryz.func237,Tryz.ntmps237
 go_wp2_with fail
 go_returns
 exact⟨rfl,.of_below belB⟩
theorem minus2_any(a b:Nat)(w:World)(h:b≤a)(h2:a<340282366920938463463374607431768211456) :
 Calls Tryz.prog 239 #[.agg #[.int .u64 (hiW a),.int .u64 (loW a)],.agg #[.int .u64 (hiW b),.int .u64 (loW b)]] w fun e w'=>e= .returned (.agg #[.int .u64 (hiW (a-b)),.int .u64 (loW (a-b))])∧w.Grows w':=by
 obtain⟨e1,e2,e3⟩:=sub_words a b h h2
 obtain⟨c,hc⟩:∃c,(if loN a<loN b+0 then 1 else 0)=c:=⟨_,rfl⟩
 have ha:∀w,(callFunc 262 #[.int .u64 (loW a),.int .u64 (loW b),.int .u64 0]).run Tryz.prog w= .ok (.value (.tuple #[.int .u64 (loW (a-b)),.int .u64 (c:Int)])) w:=by
  intro w;have:=sub64_nat (loN a) (loN b) 0 (by omega) w;rw [e1,hc]at this;exact this
 have hb:∀w,(callFunc 262 #[.int .u64 (hiW a),.int .u64 (hiW b),.int .u64 (c:Int)]).run Tryz.prog w= .ok (.value (.tuple #[.int .u64 (hiW (a-b)),.int .u64 ((if hiN a<hiN b+c then 1 else 0:Nat):Int)])) w:=by
  intro w;have:=sub64_nat (hiN a) (hiN b) c (by omega) w;rw [←hc,e3,hc]at this;exact this
 generalize((if hiN a<hiN b+c then 1 else 0:Nat):Int)=z at *
 generalize(c:Int)=c' at *
 clear e1 e2 e3 hc h h2
 generalize hiW a=A at *
 generalize hiW b=B at *
 generalize loW a=La at *
 generalize loW b=Lb at *
 generalize hiW (a-b)=S at *
 generalize loW (a-b)=T at *
 go_enter Tryz.func239,Tryz.ntmps239
 go_wp2_with fail
 go_returns
 exact⟨rfl,.of_below belB⟩
def wless(ah al bh bl:Int):Bool:=decide (ah<bh) || ((ah==bh)&&decide (al<bl))
theorem wless_nat(a b:Nat):wless (hiW a) (loW a) (hiW b) (loW b)=decide (a<b):=by
 unfold wless
 rw [Bool.eq_iff_iff]
 simp only [Bool.or_eq_true,Bool.and_eq_true,decide_eq_true_eq,beq_iff_eq]
 unfold hiW loW
 omega
theorem less2_any(ah al bh bl:Int)(w:World) :
 Calls Tryz.prog 238 #[.agg #[.int .u64 ah,.int .u64 al],.agg #[.int .u64 bh,.int .u64 bl]] w fun e w'=>e= .returned (.bool (wless ah al bh bl))∧w.Grows w':=by
 by_cases c1:ah<bh
 ·go_enter Tryz.func238,Tryz.ntmps238
  go_wp2_with fail
  go_returns
  exact⟨ret_bool (by simp [wless,c1]),.of_below belB⟩
 ·by_cases c2:ah=bh
  ·subst c2
   go_enter Tryz.func238,Tryz.ntmps238
   go_wp2_with fail
   go_returns
   exact⟨ret_bool (by simp [wless]),.of_below belB⟩
  ·have c3:(ah==bh)=false:=by simpa using c2
   go_enter Tryz.func238,Tryz.ntmps238
   go_wp2_with fail
   go_returns
   exact⟨ret_bool (by simp [wless,c1,c3]),.of_below belB⟩
theorem over2_core(H L d q r Q:Int)(w:World)(a1:(d==0)=false)(a2:1≤d)(h0:0≤H)
 (a3:IntKind.u64.wrap (H.tdiv d)=Q)
 (HD:Hid (∀w,Calls Tryz.prog 169 #[.int .u64 (H % d),.int .u64 L,.int .u64 d] w fun e w'=>e= .returned (.tuple #[.int .u64 q,.int .u64 r])∧w.Grows w')) :
 Calls Tryz.prog 241 #[.agg #[.int .u64 H,.int .u64 L],.int .u64 d] w fun e w'=>e= .returned (.agg #[.int .u64 Q,.int .u64 q])∧w.Grows w':=by
 go_enter Tryz.func241,Tryz.ntmps241
 go_wp2_with fail
 go_region
 go_wp2_with fail
 refine(HD.out _).mono ?_
 rintro e w' ⟨rfl,bs,dr,rfl⟩
 clear HD
 go_wp2_with fail
 go_returns
 exact⟨rfl,.of_below belB⟩
theorem over2_any(n d:Nat)(w:World)(h1:n<340282366920938463463374607431768211456)(h2:d<18446744073709551616)(h0:0<d) :
 Calls Tryz.prog 241 #[.agg #[.int .u64 (hiW n),.int .u64 (loW n)],.int .u64 d] w fun e w'=>e= .returned (.agg #[.int .u64 (hiW (n / d)),.int .u64 (loW (n / d))])∧w.Grows w':=by
 obtain⟨e1,e2,e3⟩:=over_nat n d h0 h2
 have hh:=hiW_bd n h1
 refine over2_core _ _ _ _ (remI n d) _ w (by simp;omega) (by omega) hh.1 ?_ ?_
 ·have:(hiW n).tdiv d=((n / 18446744073709551616 / d:Nat):Int):=by
   rw [Int.tdiv_eq_ediv_of_nonneg hh.1];unfold hiW;simp
  rw [this,←e1]
  have h3:n / d≤n:=Nat.div_le_self _ _
  unfold hiW
  generalize n / d=m at *
  exact IntWalk.u64_in _ (by omega)
 ·intro w
  have:=Div64_any (n / 18446744073709551616 % d) (n % 18446744073709551616) d w (Nat.mod_lt _ h0) (Nat.mod_lt _ (by omega)) h2
  rw [←e2,←e3]at this
  simpa [hiW,loW,remI]using this
theorem rem_core(H L d q r:Int)(w:World)(a1:(d==0)=false)(a2:1≤d)(h0:0≤H)
 (HD:Hid (∀w,Calls Tryz.prog 169 #[.int .u64 (H % d),.int .u64 L,.int .u64 d] w fun e w'=>e= .returned (.tuple #[.int .u64 q,.int .u64 r])∧w.Grows w')) :
 Calls Tryz.prog 240 #[.int .u64 H,.int .u64 L,.int .u64 d] w fun e w'=>e= .returned (.int .u64 r)∧w.Grows w':=by
 go_enter Tryz.func240,Tryz.ntmps240
 go_wp2_with fail
 refine(HD.out _).mono ?_
 rintro e w' ⟨rfl,bs,dr,rfl⟩
 clear HD
 go_wp2_with fail
 go_returns
 exact⟨rfl,.of_below belB⟩
theorem Rem64_any(n d:Nat)(w:World)(h1:n<340282366920938463463374607431768211456)(h2:d<18446744073709551616)(h0:0<d) :
 Calls Tryz.prog 240 #[.int .u64 (hiW n),.int .u64 (loW n),.int .u64 d] w fun e w'=>e= .returned (.int .u64 (remI n d))∧w.Grows w':=by
 obtain⟨e1,e2,e3⟩:=over_nat n d h0 h2
 have hh:=hiW_bd n h1
 refine rem_core _ _ _ (loW (n / d)) _ w (by simp;omega) (by omega) hh.1 ?_
 intro w
 have:=Div64_any (n / 18446744073709551616 % d) (n % 18446744073709551616) d w (Nat.mod_lt _ h0) (Nat.mod_lt _ (by omega)) h2
 rw [←e2,←e3]at this
 simpa [hiW,loW,remI]using this
def witV(neg:Bool)(h l k d:Int):Value:=if(h !=0)=true∨1000000000000000<l∨(k !=0)=true∨1000000000<d then .tuple #[.agg #[.int .i64 0,.int .i64 0],.int .i64 2]else .tuple #[.agg #[.int .i64 (if neg then -l else l),.int .i64 d],.int .i64 0]
theorem within2_any(neg:Bool)(h l k d:Int)(w:World)(hl0:0≤l)(hd0:0≤d) :
 Calls Tryz.prog 235 #[.bool neg,.agg #[.int .u64 h,.int .u64 l],.agg #[.int .u64 k,.int .u64 d]] w fun e w'=>e= .returned (witV neg h l k d)∧w.Grows w':=by
 by_cases c1:(h !=0)=true
 ·go_enter Tryz.func235,Tryz.ntmps235
  go_wp2_with fail
  go_returns
  exact⟨by rw [witV,if_pos (.inl c1)],.of_below belB⟩
 ·have c1':(h !=0)=false:=by simpa using c1
  by_cases c2:(1000000000000000:Int)<l
  ·clear c1
   go_enter Tryz.func235,Tryz.ntmps235
   go_wp2_with fail
   go_returns
   exact⟨by rw [witV,if_pos (.inr (.inl c2))],.of_below belB⟩
  ·have c2':decide ((1000000000000000:Int)<l)=false:=by simpa using c2
   by_cases c3:(k !=0)=true
   ·clear c1
    go_enter Tryz.func235,Tryz.ntmps235
    go_wp2_with fail
    go_returns
    exact⟨by rw [witV,if_pos (.inr (.inr (.inl c3)))],.of_below belB⟩
   ·have c3':(k !=0)=false:=by simpa using c3
    by_cases c4:(1000000000:Int)<d
    ·clear c1 c3
     go_enter Tryz.func235,Tryz.ntmps235
     go_wp2_with fail
     go_returns
     exact⟨by rw [witV,if_pos (.inr (.inr (.inr c4)))],.of_below belB⟩
    ·have c4':decide ((1000000000:Int)<d)=false:=by simpa using c4
     have Hn:=Lib.hid (show ¬((h !=0)=true∨1000000000000000<l∨(k !=0)=true∨1000000000<d)by
      rintro(x|x|x|x)
      ·exact c1 x
      ·exact c2 x
      ·exact c3 x
      ·exact c4 x)
     clear c1 c3
     cases neg
     ·go_enter Tryz.func235,Tryz.ntmps235
      go_wp2_with fail
      go_returns
      exact⟨by rw [witV,if_neg Hn.out];rfl,.of_below belB⟩
     ·go_enter Tryz.func235,Tryz.ntmps235
      go_wp2_with fail
      go_returns
      exact⟨by rw [witV,if_neg Hn.out];rfl,.of_below belB⟩
def frV(r:Int × Int × Int):Value:=.tuple #[.agg #[.int .i64 r.1,.int .i64 r.2.1],.int .i64 r.2.2]
theorem Neg2_any(n d:Int)(w:World)(h1:-9223372036854775808≤n)(h2:n≤9223372036854775807)(h3:-9223372036854775808≤d)(h4:d≤9223372036854775807) :
 Calls Tryz.prog 182 #[.agg #[.int .i64 n,.int .i64 d]] w fun e w'=>e= .returned (frV (negF n d))∧w.Grows w':=by
 have hv:=Lib.hid (fun w=>Valid2_any n d w h1 h2 h3 h4)
 generalize hx:vfrac n d=b at *
 cases b
 focus
  have HR:=Lib.hid (show negF n d=(0,0,1)by unfold negF;rw [hx];rfl)
 rotate_left
 focus
  have HR:=Lib.hid (show negF n d=(-n,d,0)by unfold negF;rw [hx];rfl)
  obtain⟨k1,k2,k3,k4⟩:=vfrac_bd hx
 rotate_left
 all_goals
  clear hx
  go_enter Tryz.func182,Tryz.ntmps182
  go_wp2_with fail
  refine(hv.out _).mono ?_
  rintro e w' ⟨rfl,bs,dr,rfl⟩
  clear hv
  go_wp2_with fail
  go_returns
  exact⟨by rw [HR.out];rfl,.of_below belB⟩
theorem gcdI_nat(a b:Nat):gcdI a b=(Nat.gcd a b:Nat):=by unfold gcdI;simp
theorem frV_wit(b:Bool)(p q:Nat):witV b (hiW p) (loW p) (hiW q) (loW q)=frV (if 1000000000000000<p∨1000000000<q then(0,0,2)else(if b then -(p:Int)else p,q,0)):=by
 unfold witV hiW loW
 by_cases c:1000000000000000<p∨1000000000<q
 ·rw [if_pos c,if_pos (by
   by_cases ha:p / 18446744073709551616=0
   ·by_cases hb:q / 18446744073709551616=0
    ·omega
    ·right;right;left;simp;omega
   ·left;simp;omega)]
  rfl
 ·have ha:p / 18446744073709551616=0:=by omega
  have hb:q / 18446744073709551616=0:=by omega
  have hc:p % 18446744073709551616=p:=by omega
  have hd:q % 18446744073709551616=q:=by omega
  rw [if_neg c,if_neg (by rw [ha,hb,hc,hd];simp;omega),hc,hd]
  rfl
theorem quo_u64{a g:Int}(h0:0≤a)(h1:a<18446744073709551616)(hg:1≤g):IntKind.u64.wrap (a.tdiv g)=a / g:=by
 rw [Int.tdiv_eq_ediv_of_nonneg h0]
 have h2:=Int.ediv_nonneg h0 (show 0≤g by omega)
 have h3:a / g≤a:=Int.ediv_le_self g h0
 exact IntWalk.u64_in _ (by omega)
theorem quotient2_core(neg:Bool)(a b c d g h H L K M n1 n2 n3:Int)(w:World)(g0:(g==0)=false)(h0:(h==0)=false)(g1:1≤g)(hh1:1≤h)
 (a0:0≤a) (b0:0≤b) (c0:0≤c) (d0:0≤d) (a1:a<18446744073709551616) (b1:b<18446744073709551616) (c1:c<18446744073709551616) (d1:d<18446744073709551616)
 (G1:Hid (∀w,Calls Tryz.prog 230 #[.int .u64 a,.int .u64 d] w fun e w'=>e= .returned (.int .u64 g)∧w.Grows w'))
 (G2:Hid (∀w,Calls Tryz.prog 230 #[.int .u64 c,.int .u64 b] w fun e w'=>e= .returned (.int .u64 h)∧w.Grows w'))
 (T1:Hid (∀w,Calls Tryz.prog 236 #[.int .u64 (a / g),.int .u64 (c / h)] w fun e w'=>e= .returned (.agg #[.int .u64 H,.int .u64 L])∧w.Grows w'))
 (T2:Hid (∀w,Calls Tryz.prog 236 #[.int .u64 (b / h),.int .u64 (d / g)] w fun e w'=>e= .returned (.agg #[.int .u64 K,.int .u64 M])∧w.Grows w'))
 (W:Hid (∀w,Calls Tryz.prog 235 #[.bool neg,.agg #[.int .u64 H,.int .u64 L],.agg #[.int .u64 K,.int .u64 M]] w fun e w'=>e= .returned (.tuple #[.agg #[.int .i64 n1,.int .i64 n2],.int .i64 n3])∧w.Grows w')) :
 Calls Tryz.prog 242 #[.bool neg,.int .u64 a,.int .u64 b,.int .u64 c,.int .u64 d] w fun e w'=>e= .returned (.tuple #[.agg #[.int .i64 n1,.int .i64 n2],.int .i64 n3])∧w.Grows w':=by
 go_enter Tryz.func242,Tryz.ntmps242
 go_wp2_with (first|(go_at_call 230;(with_reducible refine(G1.out _).mono ?_);rintro e w' ⟨rfl,bs,dr,rfl⟩;clear G1)|(go_at_call 230;(with_reducible refine(G2.out _).mono ?_);rintro e w' ⟨rfl,bs2,dr2,rfl⟩;clear G2))
 have gz:¬g=0:=by omega
 have hz:¬h=0:=by omega
 refine TG.begin 19 (fun _=>True) (by kernel_rfl) (by kernel_rfl) trivial (fun hS=>?_)
 refine TG.tkB 0 hS ?_
 refine TG.tkB 1 hS ?_
 refine TG.tkB 2 hS ?_
 refine TG.takeV (i:=3) (v:=.int .u64 (a / g)) rfl (by kernel_rfl) (by kernel_rfl) (by kernel_rfl) (by decide) (fun _ _ _ h=>h) rfl hS ?_ ?_
 focus
  intro wS hSw
  go_simp
  exact quo_u64 a0 a1 g1
 (try simp only [nS])
 refine TG.tkB 4 hS ?_
 refine TG.tkB 5 hS ?_
 refine TG.takeV (i:=6) (v:=.int .u64 (c / h)) rfl (by kernel_rfl) (by kernel_rfl) (by kernel_rfl) (by decide) (fun _ _ _ h=>h) rfl hS ?_ ?_
 focus
  intro wS hSw
  go_simp
  exact quo_u64 c0 c1 hh1
 (try simp only [nS])
 refine TG.tkB 8 hS ?_
 refine TG.tkB 9 hS ?_
 refine TG.takeV (i:=10) (v:=.int .u64 (b / h)) rfl (by kernel_rfl) (by kernel_rfl) (by kernel_rfl) (by decide) (fun _ _ _ h=>h) rfl hS ?_ ?_
 focus
  intro wS hSw
  go_simp
  exact quo_u64 b0 b1 hh1
 (try simp only [nS])
 refine TG.tkB 11 hS ?_
 refine TG.tkB 12 hS ?_
 refine TG.takeV (i:=13) (v:=.int .u64 (d / g)) rfl (by kernel_rfl) (by kernel_rfl) (by kernel_rfl) (by decide) (fun _ _ _ h=>h) rfl hS ?_ ?_
 focus
  intro wS hSw
  go_simp
  exact quo_u64 d0 d1 g1
 (try simp only [nS])
 refine TG.one (i:=7) (by kernel_rfl) rfl (fun K1 hK1=>?_)
 go_simp
 go_at_call 236
 refine(T1.out _).mono ?_
 rintro e' wA ⟨rfl,b7,d7,rfl⟩
 refine TG.go hK1 trivial (fun hS=>?_)
 clear hK1 K1 T1
 (try simp only [nS])
 refine TG.one (i:=14) (by kernel_rfl) rfl (fun K1 hK1=>?_)
 go_simp
 go_at_call 236
 refine(T2.out _).mono ?_
 rintro e' wA ⟨rfl,b8,d8,rfl⟩
 refine TG.go hK1 trivial (fun hS=>?_)
 clear hK1 K1 T2
 (try simp only [nS])
 refine TG.one (i:=15) (by kernel_rfl) rfl (fun K1 hK1=>?_)
 go_simp
 go_at_call 235
 refine(W.out _).mono ?_
 rintro e' wA ⟨rfl,b9,d9,rfl⟩
 refine TG.go hK1 trivial (fun hS=>?_)
 clear hK1 K1 W
 (try simp only [nS])
 refine TG.tkB 16 hS ?_
 refine TG.tkB 17 hS ?_
 refine TG.one (i:=18) (by kernel_rfl) rfl (fun K1 hK1=>?_)
 go_simp
 refine TG.go hK1 trivial (fun hS=>?_)
 clear hK1 K1
 (try simp only [nS])
 refine TG.one (i:=19) (by kernel_rfl) rfl (fun K1 hK1=>?_)
 go_simp
 refine hK1 _ _ (fun h=>absurd rfl h) (TG.done (by kernel_rfl) ?_)
 clear hK1 K1 hS
 (try simp only [nS])
 go_wp2_with fail
 go_returns
 exact⟨rfl,.of_below belB⟩
theorem prdX_comm(d m k n:Nat):d / Nat.gcd m d*(k / Nat.gcd n k)=prdX d m k n:=by
 unfold prdX;rw [Nat.gcd_comm m d,Nat.gcd_comm n k]
theorem ediv_nat(a b:Nat):(a:Int) / (b:Int)=((a / b:Nat):Int):=by simp
theorem quotient2_any(neg:Bool)(n d m k:Nat)(w:World)(h1:n<18446744073709551616)(h2:d<18446744073709551616)(h3:m<18446744073709551616)(h4:k<18446744073709551616)(hd:0<d)(hk:0<k) :
 Calls Tryz.prog 242 #[.bool neg,.int .u64 n,.int .u64 d,.int .u64 m,.int .u64 k] w fun e w'=>e= .returned (frV (prdF neg n d m k))∧w.Grows w':=by
 have g1:0<Nat.gcd n k:=Nat.gcd_pos_of_pos_right _ hk
 have g2:0<Nat.gcd m d:=Nat.gcd_pos_of_pos_right _ hd
 have b1:n / Nat.gcd n k≤n:=Nat.div_le_self _ _
 have b2:m / Nat.gcd m d≤m:=Nat.div_le_self _ _
 have b3:d / Nat.gcd m d≤d:=Nat.div_le_self _ _
 have b4:k / Nat.gcd n k≤k:=Nat.div_le_self _ _
 refine quotient2_core neg n d m k (Nat.gcd n k:Nat) (Nat.gcd m d:Nat) (hiW (prdX n k m d)) (loW (prdX n k m d)) (hiW (prdX d m k n)) (loW (prdX d m k n)) _ _ _ w
  (by simp;omega) (by simp;omega) (by omega) (by omega) (by omega) (by omega) (by omega) (by omega) (by omega) (by omega) (by omega) (by omega)
  (fun w=>?_) (fun w=>?_) (fun w=>?_) (fun w=>?_) (fun w=>?_)
 ·have:=gcd2_any n k w (by omega) (by omega) (by omega) (by omega)
  rw [gcdI_nat]at this
  exact Calls.quietD this
 ·have:=gcd2_any m d w (by omega) (by omega) (by omega) (by omega)
  rw [gcdI_nat]at this
  exact Calls.quietD this
 ·rw [ediv_nat,ediv_nat]
  exact times2_any _ _ w (by omega) (by omega)
 ·rw [ediv_nat,ediv_nat,←prdX_comm]
  exact times2_any _ _ w (by omega) (by omega)
 ·have:=within2_any neg (hiW (prdX n k m d)) (loW (prdX n k m d)) (hiW (prdX d m k n)) (loW (prdX d m k n)) w (loW_bd _).1 (loW_bd _).1
  rw [frV_wit]at this
  exact this
def frI(r:Int × Int):Value:=.tuple #[.int .i64 r.1,.int .i64 r.2]
theorem floor_tdiv{n d:Int}(h:1≤d):n / d=n.tdiv d∨n / d=n.tdiv d-1:=by
 rw [←floor_mod h];split<;>simp
theorem Floor2_any(n d:Int)(w:World)(h1:-9223372036854775808≤n)(h2:n≤9223372036854775807)(h3:-9223372036854775808≤d)(h4:d≤9223372036854775807) :
 Calls Tryz.prog 183 #[.agg #[.int .i64 n,.int .i64 d]] w fun e w'=>e= .returned (frI (floorF n d))∧w.Grows w':=by
 have hv:=Lib.hid (fun w=>Valid2_any n d w h1 h2 h3 h4)
 generalize hx:vfrac n d=b at *
 cases b
 ·have HR:=Lib.hid (show floorF n d=(0,1)by unfold floorF;rw [hx];rfl)
  clear hx
  go_enter Tryz.func183,Tryz.ntmps183
  go_wp2_with fail
  refine(hv.out _).mono ?_
  rintro e w' ⟨rfl,bs,dr,rfl⟩
  clear hv
  go_wp2_with fail
  go_returns
  exact⟨by rw [HR.out];rfl,.of_below belB⟩
 ·have HR:=Lib.hid (show floorF n d=(n / d,0)by unfold floorF;rw [hx];rfl)
  obtain⟨k1,k2,k3,k4⟩:=vfrac_bd hx
  have hf:=floor_bd hx
  have HF:=Lib.hid (floor_mod (n:=n) k1)
  have hft:=floor_tdiv (n:=n) k1
  have hq1:-1000000000000001≤n.tdiv d:=by omega
  have hq2:n.tdiv d≤1000000000000001:=by omega
  have d0:(d==0)=false:=by simp;omega
  clear hx hf hft
  have e1:IntKind.i64.wrap (n.tdiv d)=n.tdiv d:=IntWalk.i64_in _ (by omega)
  generalize n / d=z at *
  by_cases c:n.tmod d<0
  focus
   have HZ:=Lib.hid (show z=n.tdiv d-1 by rw [←HF.out,if_pos c])
  rotate_left
  focus
   have HZ:=Lib.hid (show z=n.tdiv d by rw [←HF.out,if_neg c])
  rotate_left
  all_goals
   clear HF
   go_enter Tryz.func183,Tryz.ntmps183
   go_wp2_with fail
   refine(hv.out _).mono ?_
   rintro e w' ⟨rfl,bs,dr,rfl⟩
   clear hv
   go_wp2_with fail
   go_returns
   exact⟨by rw [HR.out,HZ.out];rfl,.of_below belB⟩
def cmpR(s p q:Bool):Int:=if s then(if q then -1 else if p then 1 else 0)else(if p then -1 else if q then 1 else 0)
theorem cmp2_core(an ad bn bd xh xl yh yl:Int)(s p q:Bool)(w:World)(hs1:decide (an<0)=s)(hs2:decide (bn<0)=s)
 (V1:Hid (∀w,Calls Tryz.prog 177 #[.agg #[.int .i64 an,.int .i64 ad]] w fun e w'=>e= .returned (.bool true)∧w.Grows w')) (V2:Hid (∀w,Calls Tryz.prog 177 #[.agg #[.int .i64 bn,.int .i64 bd]] w fun e w'=>e= .returned (.bool true)∧w.Grows w'))
 (Z:Hid (∀n,I64 n→∀w,Calls Tryz.prog 231 #[.int .i64 n] w fun e w'=>e= .returned (.int .u64 (absI n))∧w=w')) (I1:I64 an) (I2:I64 ad) (I3:I64 bn) (I4:I64 bd)
 (T1:Hid (∀w,Calls Tryz.prog 236 #[.int .u64 (absI an),.int .u64 (absI bd)] w fun e w'=>e= .returned (.agg #[.int .u64 xh,.int .u64 xl])∧w.Grows w')) (T2:Hid (∀w,Calls Tryz.prog 236 #[.int .u64 (absI bn),.int .u64 (absI ad)] w fun e w'=>e= .returned (.agg #[.int .u64 yh,.int .u64 yl])∧w.Grows w'))
 (L1:Hid (∀w,Calls Tryz.prog 238 #[.agg #[.int .u64 xh,.int .u64 xl],.agg #[.int .u64 yh,.int .u64 yl]] w fun e w'=>e= .returned (.bool p)∧w.Grows w')) (L2:Hid (∀w,Calls Tryz.prog 238 #[.agg #[.int .u64 yh,.int .u64 yl],.agg #[.int .u64 xh,.int .u64 xl]] w fun e w'=>e= .returned (.bool q)∧w.Grows w'))
 :Calls Tryz.prog 188 #[.agg #[.int .i64 an,.int .i64 ad],.agg #[.int .i64 bn,.int .i64 bd]] w fun e w'=>e= .returned (frI (cmpR s p q,0))∧w.Grows w':=by
 cases s<;>
 ·go_enter Tryz.func188,Tryz.ntmps188
  go_wp2_with (first|(go_at_call 177;(with_reducible refine(V1.out _).mono ?_);rintro e w' ⟨rfl,bs,dr,rfl⟩)|(go_at_call 177;(with_reducible refine(V2.out _).mono ?_);rintro e w' ⟨rfl,bs2,dr2,rfl⟩))
  clear V1 V2
  obtain⟨W,hW⟩:∃W,(((w.alloc (.cells #[.int .i64 an,.int .i64 ad] 24)).alloc (.cells #[.int .i64 bn,.int .i64 bd] 24)).grow (bs++bs2) dr2)=W:=⟨_,rfl⟩
  have x0:W.cell? ⟨w.heap.size,0,none⟩=some (.int .i64 an):=by rw [←hW];simp [go_sem]
  have x1:W.cell? ⟨w.heap.size,1,none⟩=some (.int .i64 ad):=by rw [←hW];simp [go_sem]
  have x2:W.cell? ⟨w.heap.size+1,0,none⟩=some (.int .i64 bn):=by rw [←hW];simp [go_sem]
  have x3:W.cell? ⟨w.heap.size+1,1,none⟩=some (.int .i64 bd):=by rw [←hW];simp [go_sem]
  have hbw:Below w.heap.size w W:=by rw [←hW];(exact belB)
  have hz0:w.heap.size<W.heap.size:=by rw [←hW];simp;omega
  have hz1:w.heap.size+1<W.heap.size:=by rw [←hW];simp;omega
  rw [hW]
  clear hW
  apply wp_region_made2 16 (14,6,.cells #[.int .u64 0,.int .u64 0] 281) (15,7,.cells #[.int .u64 0,.int .u64 0] 281) (by kernel_rfl) (by kernel_rfl)
  case hrx=>
   intro o ho ρ w
   obtain rfl:=Option.some.inj ho
   simp [go_sem]
  case hry=>
   intro o ho ρ w
   obtain rfl:=Option.some.inj ho
   simp [go_sem]
  case h1=>
   intro bs d
   simp only [List.take_succ_cons,List.take_zero,List.map_cons,List.map_nil,Oper.mask]
   repeat(go_big_quiet_step ((first|(go_at_call 231;(with_reducible exact Calls.quietMS (Z.out _ (by assumption) _)))|(go_at_call 236;first|(with_reducible exact Calls.quietM (T1.out _))|(with_reducible exact Calls.quietM (T2.out _))))))
   exact wpQuiet_nil rfl
  all_goals
   intro gb1 gd1 gb2 gd2 gb gd
   simp only [List.drop_succ_cons,List.drop_zero,Act.put,List.setIfInBounds_toArray,List.set_cons_zero,List.set_cons_succ]
  all_goals
   clear T1 T2 Z
   cases p<;>cases q
  all_goals
   go_wp2_with (first|(go_at_call 238;(with_reducible refine(L1.out _).mono ?_);rintro e w' ⟨rfl,bs3,dr3,rfl⟩)|(go_at_call 238;(with_reducible refine(L2.out _).mono ?_);rintro e w' ⟨rfl,bs4,dr4,rfl⟩))
   go_returns
   exact⟨rfl,.of_below belB⟩
theorem cmp2_no(an ad bn bd:Int)(p q:Bool)(w:World)(hpq:(p&&q)=false)
 (V1:Hid (∀w,Calls Tryz.prog 177 #[.agg #[.int .i64 an,.int .i64 ad]] w fun e w'=>e= .returned (.bool p)∧w.Grows w')) (V2:Hid (∀w,Calls Tryz.prog 177 #[.agg #[.int .i64 bn,.int .i64 bd]] w fun e w'=>e= .returned (.bool q)∧w.Grows w'))
 :Calls Tryz.prog 188 #[.agg #[.int .i64 an,.int .i64 ad],.agg #[.int .i64 bn,.int .i64 bd]] w fun e w'=>e= .returned (frI (0,1))∧w.Grows w':=by
 cases p<;>cases q
 all_goals first
  |(exfalso;simp at hpq;done)
  |(clear hpq
    go_enter Tryz.func188,Tryz.ntmps188
    go_wp2_with (first|(go_at_call 177;(with_reducible refine(V1.out _).mono ?_);rintro e w' ⟨rfl,bs,dr,rfl⟩)|(go_at_call 177;(with_reducible refine(V2.out _).mono ?_);rintro e w' ⟨rfl,bs2,dr2,rfl⟩))
    go_returns
    exact⟨rfl,.of_below belB⟩)
theorem cmp2_diff(an ad bn bd r:Int)(w:World)(hd:decide (an<0)≠decide (bn<0))(hr:Hid (r=if an<0 then -1 else 1))
 (V1:Hid (∀w,Calls Tryz.prog 177 #[.agg #[.int .i64 an,.int .i64 ad]] w fun e w'=>e= .returned (.bool true)∧w.Grows w')) (V2:Hid (∀w,Calls Tryz.prog 177 #[.agg #[.int .i64 bn,.int .i64 bd]] w fun e w'=>e= .returned (.bool true)∧w.Grows w'))
 :Calls Tryz.prog 188 #[.agg #[.int .i64 an,.int .i64 ad],.agg #[.int .i64 bn,.int .i64 bd]] w fun e w'=>e= .returned (frI (r,0))∧w.Grows w':=by
 by_cases c:an<0
 focus
  have d1:decide (an<0)=true:=by simpa using c
  have d2:decide (bn<0)=false:=by simp [c]at hd;simpa using hd
  have HR:=Lib.hid (show r= -1 by rw [hr.out,if_pos c])
 rotate_left
 focus
  have d1:decide (an<0)=false:=by simpa using c
  have d2:decide (bn<0)=true:=by simp [c]at hd;simpa using hd
  have HR:=Lib.hid (show r=1 by rw [hr.out,if_neg c])
 rotate_left
 all_goals
  clear hd c hr
  go_enter Tryz.func188,Tryz.ntmps188
  go_wp2_with (first|(go_at_call 177;(with_reducible refine(V1.out _).mono ?_);rintro e w' ⟨rfl,bs,dr,rfl⟩)|(go_at_call 177;(with_reducible refine(V2.out _).mono ?_);rintro e w' ⟨rfl,bs2,dr2,rfl⟩))
  go_returns
  exact⟨by rw [HR.out];rfl,.of_below belB⟩
theorem cmpR_same{an ad bn bd:Int}(h1:1≤ad)(h2:1≤bd)(h:decide (an<0)=decide (bn<0)) :
 cmpI an ad bn bd=cmpR (decide (an<0)) (decide (an.natAbs*bd.natAbs<bn.natAbs*ad.natAbs)) (decide (bn.natAbs*ad.natAbs<an.natAbs*bd.natAbs)):=by
 rw [cmp_same h1 h2 h]
 unfold cmpR
 by_cases c:an<0<;>simp [c]
theorem times_abs{F:FuncId}(T:∀(a b:Nat) (w:World),a<18446744073709551616→b<18446744073709551616→Calls Tryz.prog F #[.int .u64 a,.int .u64 b] w fun e w'=>e= .returned (.agg #[.int .u64 (hiW (a*b)),.int .u64 (loW (a*b))])∧w.Grows w')
 {a b:Int} (ha:I64 a) (hb:I64 b) (w:World):Calls Tryz.prog F #[.int .u64 (absI a),.int .u64 (absI b)] w fun e w'=>e= .returned (.agg #[.int .u64 (hiW (a.natAbs*b.natAbs)),.int .u64 (loW (a.natAbs*b.natAbs))])∧w.Grows w':=by
 unfold I64 at ha hb
 exact T a.natAbs b.natAbs w (by omega) (by omega)
def I64x4(a b c d:Int):Prop:=I64 a∧I64 b∧I64 c∧I64 d
theorem Compare2_any(an ad bn bd:Int)(w:World)(hi:I64x4 an ad bn bd) :
 Calls Tryz.prog 188 #[.agg #[.int .i64 an,.int .i64 ad],.agg #[.int .i64 bn,.int .i64 bd]] w fun e w'=>e= .returned (frI (cmpF an ad bn bd))∧w.Grows w':=by
 obtain⟨i1,i2,i3,i4⟩:=hi
 have V1:=Lib.hid (fun w=>Valid2_any an ad w i1.1 i1.2 i2.1 i2.2)
 have V2:=Lib.hid (fun w=>Valid2_any bn bd w i3.1 i3.2 i4.1 i4.2)
 by_cases hv:(vfrac an ad&&vfrac bn bd)=true
 ·have hva:=(Bool.and_eq_true_iff.1 hv).1
  have hvb:=(Bool.and_eq_true_iff.1 hv).2
  rw [show cmpF an ad bn bd=(cmpI an ad bn bd,0)by unfold cmpF;rw [if_pos hv]]
  rw [hva]at V1
  rw [hvb]at V2
  have b1:=vfrac_bd hva
  have b2:=vfrac_bd hvb
  by_cases hs:decide (an<0)=decide (bn<0)
  ·rw [cmpR_same b1.1 b2.1 hs]
   refine cmp2_core an ad bn bd _ _ _ _ _ _ _ w rfl hs.symm V1 V2 (fun n h w=>size2_any n w h.1 h.2) i1 i2 i3 i4 (times_abs times2_any i1 i4) (times_abs times2_any i3 i2) ?_ ?_
   ·intro w;have:=less2_any (hiW (an.natAbs*bd.natAbs)) (loW (an.natAbs*bd.natAbs)) (hiW (bn.natAbs*ad.natAbs)) (loW (bn.natAbs*ad.natAbs)) w;rwa [wless_nat]at this
   ·intro w;have:=less2_any (hiW (bn.natAbs*ad.natAbs)) (loW (bn.natAbs*ad.natAbs)) (hiW (an.natAbs*bd.natAbs)) (loW (an.natAbs*bd.natAbs)) w;rwa [wless_nat]at this
  ·rw [cmp_diff b1.1 b2.1 hs]
   exact cmp2_diff an ad bn bd _ w hs (Lib.hid rfl) V1 V2
 ·rw [show cmpF an ad bn bd=(0,1)by unfold cmpF;rw [if_neg hv]]
  exact cmp2_no an ad bn bd _ _ w (Bool.eq_false_iff.2 hv) V1 V2
end Go.Proofs.YtblkcgceefjmjaaGreatDoor
namespace Go.Proofs.YtblkcgceefjmjaaGreatDoor
def Desc(l:List Int):Prop:=l.Pairwise fun a b=>b≤a
theorem insD_perm(x:Int)(l:List Int):(insD x l).Perm (x::l):=by
 induction l with
 |nil=>exact List.Perm.refl _
 |cons y r ih=>
  unfold insD
  split
  ·exact(ih.cons y).trans (List.Perm.swap x y r)
  ·exact List.Perm.refl _
theorem insD_desc{x:Int}{l:List Int}(h:Desc l):Desc (insD x l):=by
 induction l with
 |nil=>simp [insD,Desc]
 |cons y r ih=>
  obtain⟨h1,h2⟩:=List.pairwise_cons.1 h
  unfold insD
  split<;>rename_i hc
  ·refine List.pairwise_cons.2 ⟨fun z hz=>?_,ih h2⟩
   rcases List.mem_cons.1 ((insD_perm x r).mem_iff.1 hz)with rfl|hz
   ·exact hc
   ·exact h1 z hz
  ·refine List.pairwise_cons.2 ⟨fun z hz=>?_,h⟩
   rcases List.mem_cons.1 hz with rfl|hz
   ·omega
   ·have:=h1 z hz;omega
theorem foldD(l:List Int):∀a:List Int,Desc a→Desc (l.foldl (fun a x=>insD x a) a)∧(l.foldl (fun a x=>insD x a) a).Perm (a++l):=by
 induction l with
 |nil=>intro a h;exact⟨h,by simp⟩
 |cons x r ih=>
  intro a h
  obtain⟨h1,h2⟩:=ih _ (insD_desc (x:=x) h)
  refine⟨h1,h2.trans ?_⟩
  exact((insD_perm x a).append_right r).trans List.perm_middle.symm
theorem sortD_desc(l:List Int):Desc (sortD l):=(foldD l [] List.Pairwise.nil).1
theorem sortD_perm(l:List Int):(sortD l).Perm l:=(foldD l [] List.Pairwise.nil).2
theorem desc_uniq{a b:List Int}(ha:Desc a)(hb:Desc b)(h:a.Perm b):a=b:=
 List.Perm.eq_of_pairwise (le:=fun x y:Int=>y≤x) (fun x y _ _ h1 h2=>by omega) ha hb h
theorem sum_app(a b:List Int):(a++b).sum=a.sum+b.sum:=by
 induction a with
 |nil=>simp
 |cons x r ih=>simp only [List.cons_append,List.sum_cons,ih];omega
theorem sum_rev(a:List Int):a.reverse.sum=a.sum:=by
 induction a with
 |nil=>rfl
 |cons x r ih=>simp only [List.reverse_cons,sum_app,ih,List.sum_cons,List.sum_nil];omega
theorem best_last{ss l:List Int}(hp:ss.Perm l)(hs:ss.Pairwise (·≤·))(n:Nat):(ss.drop (ss.length-n)).sum=((sortD l).take n).sum:=by
 have e:ss.reverse=sortD l:=desc_uniq (List.pairwise_reverse.2 hs) (sortD_desc l) ((List.reverse_perm ss).trans (hp.trans (sortD_perm l).symm))
 rw [←e,List.take_reverse,sum_rev]
theorem mk_value{n d:Int}(h1:0≤n)(h2:1≤d)(he:mkE n d=0):mkN n d*d=n*mkD n d:=by
 have hg:0<Nat.gcd n.natAbs d.natAbs:=Nat.gcd_pos_of_pos_right _ (by omega)
 unfold mkE at he
 unfold mkN mkD
 rw [if_neg (by omega)]at he ⊢
 rw [if_neg (by omega)]
 unfold lowE at he
 unfold lowN lowD
 split at he<;>rename_i hc
 ·simp at he
 rw [if_neg hc,if_neg hc,decide_eq_false (by omega),decide_eq_false (by omega)]
 simp only [bne_self_eq_false,Bool.false_eq_true,if_false]
 obtain⟨a,rfl⟩:=Int.eq_ofNat_of_zero_le h1
 obtain⟨b,rfl⟩:=Int.eq_ofNat_of_zero_le (show 0≤d by omega)
 simp only [Int.natAbs_natCast]at hg ⊢
 rw [←Int.natCast_mul,←Int.natCast_mul]
 congr 1
 obtain⟨p,hp⟩:=Nat.gcd_dvd_left a b
 obtain⟨q,hq⟩:=Nat.gcd_dvd_right a b
 generalize Nat.gcd a b=g at *
 subst hp hq
 rw [Nat.mul_div_cancel_left _ hg,Nat.mul_div_cancel_left _ hg,Nat.mul_left_comm,Nat.mul_comm g p,Nat.mul_assoc,Nat.mul_comm p]
 rw [Nat.mul_comm q p,Nat.mul_left_comm]
theorem mk_vfrac{n d:Int}(h:d≠0)(he:mkE n d=0):vfrac (mkN n d) (mkD n d)=true:=by
 rcases mk_ok h (n:=n)with ⟨_,h2⟩|⟨_,_,h3⟩
 ·exact h2
 ·simp only [he]at h3;omega
abbrev sumK(l:List Int)(j:Nat):Int:=(l.take j).sum
theorem sumK_succ(l:List Int)(j:Nat)(hj:j<l.length):sumK l (j+1)=sumK l j+l.getD j 0:=by
 unfold sumK
 rw [List.take_succ_eq_append_getElem hj,sum_app,List.getD_eq_getElem?_getD,List.getElem?_eq_getElem hj]
 simp
theorem years_mem{l:List Int}(h:yearsOk l=true):l.length≤200∧∀x∈l,0≤x∧x≤1000000000000:=by
 unfold yearsOk at h
 simp only [Bool.and_eq_true,decide_eq_true_eq,List.all_eq_true]at h
 exact h
theorem sum_bd{l:List Int}(h:∀x∈l,0≤x∧x≤1000000000000):0≤l.sum∧l.sum≤1000000000000*l.length:=by
 induction l with
 |nil=>simp
 |cons x r ih=>
  have h1:=h x (by simp)
  have h2:=ih (fun y hy=>h y (by simp [hy]))
  rw [List.sum_cons,List.length_cons]
  push_cast
  omega
theorem sumK_bd{l s:List Int}(h:yearsOk l=true)(hp:s.Perm l)(j:Nat):0≤sumK s j∧sumK s j≤200000000000000:=by
 have hm:=years_mem h
 have:=sum_bd (l:=s.take j) (fun x hx=>hm.2 x (hp.mem_iff.1 (List.mem_of_mem_take hx)))
 have hl:(s.take j).length≤200:=by
  have:=hp.length_eq
  rw [List.length_take];omega
 unfold sumK
 omega
theorem getD_bd{l s:List Int}(h:yearsOk l=true)(hp:s.Perm l)(j:Nat):0≤s.getD j 0∧s.getD j 0≤1000000000000:=by
 rw [List.getD_eq_getElem?_getD]
 cases hx:s[j]? with
 |none=>simp
 |some y=>exact(years_mem h).2 y (hp.mem_iff.1 (List.mem_of_getElem? hx))
theorem mkE_small{n d:Int}(h1:0≤n)(h2:n≤1000000000000000)(h3:1≤d)(h4:d≤1000000000):mkE n d=0:=by
 unfold mkE lowE
 rw [if_neg (by omega),if_neg]
 have a:=Nat.div_le_self n.natAbs (Nat.gcd n.natAbs d.natAbs)
 have b:=Nat.div_le_self d.natAbs (Nat.gcd n.natAbs d.natAbs)
 omega
def WfC(m n i:Nat)(c:List Ins):Prop:=∀k,k<c.length→wfF m n (i+k) (c.getD k default)=true
theorem WfC.nil{m n i:Nat}:WfC m n i []:=fun k hk=>by simp at hk
theorem WfC.app{m n i:Nat}{a b:List Ins}(ha:WfC m n i a)(hb:WfC m n (i+a.length) b):WfC m n i (a++b):=fun k hk=>by
 by_cases h:k<a.length
 ·have e:(a++b).getD k default=a.getD k default:=by simp [List.getD_eq_getElem?_getD,List.getElem?_append_left h]
  rw [e];exact ha k h
 ·have e:(a++b).getD k default=b.getD (k-a.length) default:=by simp [List.getD_eq_getElem?_getD,List.getElem?_append_right (Nat.le_of_not_lt h)]
  rw [List.length_append]at hk
  have:=hb (k-a.length) (by omega)
  rw [show i+a.length+(k-a.length)=i+k by omega]at this
  rw [e];exact this
theorem WfC.one{m n i:Nat}{x:Ins}(h:wfF m n i x=true):WfC m n i [x]:=fun k hk=>by
 obtain rfl:k=0:=by simp at hk;omega
 exact h
theorem WfC.cons{m n i:Nat}{x:Ins}{b:List Ins}(h:wfF m n i x=true)(hb:WfC m n (i+1) b):WfC m n i (x::b):=WfC.app (a:=[x]) (.one h) hb
structure Dfn where
 κ:ByteArray→Nat
 e:Ex
 k:Nat
 m:Int
 env:List (ByteArray × Int)
 ρ:List (ByteArray × Val)→List (ByteArray × Val):=id
def Dfn.code(d:Dfn)(i:Nat):List Ins:=codeF d.κ d.e i++[⟨4,(d.k:Int),0,0⟩]
def defsC:List Dfn→Nat→List Ins
 | [],_=>[]
 |d::r,i=>d.code i++defsC r (i+(d.code i).length)
def guardC(g:Nat→List Ins)(ds:List Dfn)(i:Nat):List Ins:=g i++⟨22,((i+(g i).length+1+(defsC ds (i+(g i).length+1)).length:Nat):Int),0,0⟩::defsC ds (i+(g i).length+1)
end Go.Proofs.YtblkcgceefjmjaaGreatDoor
namespace Go.Proofs.YtblkcgceefjmjaaGreatDoor
open Go.RowKit Go.Shelf Go.Sort Go.Lib
attribute [local go_sem] Oper.semAt_some
def YrLies(n₀:Nat)(W:World)(v:Value)(l:List Int):Prop:=
 l.length≤1000∧∃a cap,v= .slice a l.length cap∧(l.length=0∨∃b off,a=some ⟨b,off,none⟩∧b<n₀∧∀i,i<l.length→W.cell? ⟨b,off+i,none⟩=some (.int .i64 (l.getD i 0)))
theorem YrLies.below{n₀:Nat}{W W':World}{v:Value}{l:List Int}(h:YrLies n₀ W v l)(hb:Below n₀ W W'):YrLies n₀ W' v l:=by
 obtain⟨h0,a,cap,hv,h1⟩:=h
 refine⟨h0,a,cap,hv,h1.imp id ?_⟩
 rintro⟨b,off,ha,hlt,hc⟩
 exact⟨b,off,ha,hlt,fun i hi=>(hb.cell (p:=⟨b,off+i,none⟩) hlt).trans (hc i hi)⟩
theorem YrAt.lies{w:World}{v:Value}{l:List Int}(h:YrAt w v l):YrLies w.heap.size w v l:=h
theorem take_snocI(l:List Int)(k:Nat)(hk:k<l.length):l.take (k+1)=l.take k++[l.getD k 0]:=by
 exact sz23
theorem valI1_in(F:Fence)(n:Nat)(hf:F.fn 234)(hro:F.round=none)(hn:1≤n)(l Bs n₀:Nat)(x:List Int)(v:Value)(J Jx:List Int→World→Prop)
 (hY:∀pre (i:Int) W,J pre W→pre.length<x.length→YieldAt F (n-1) Tryz.prog l #[.int .i64 i] W fun e W'=>
  (e= .returned (.bool true)∧J (pre++[i]) W'∧Below n₀ W W')∨(e= .returned (.bool false)∧Jx (pre++[i]) W'))
 (W:World) (hBs:W.cell? ⟨Bs,0,none⟩=some v) (hBl:Bs<n₀) (hL:YrLies n₀ W v x) (h0:J [] W) :
 CallsIn F n Tryz.prog 234 #[.func (.yield l) #[] #[],.pointer (some ⟨Bs,0,none⟩)] W fun e W'=>(∃v,e= .returned v)∧
  ((∃ys,ys=x∧J ys W')∨(∃pre,(∃k,k<x.length∧pre=x.take (k+1))∧Jx pre W')):=by
 have HL:=Lib.hid hL
 obtain⟨h1000,a,cap,rfl,-⟩:=hL
 refine callsIn_of_wp Tryz.func234 rfl hf ?_ hro
 simp only [Tryz.ntmps234,List.size_toArray,List.length_cons,List.length_nil,Nat.reduceAdd,Nat.reduceSub,Array.replicate_succ,Array.replicate_zero,List.push_toArray,List.append_toArray,List.nil_append,List.cons_append]
 gi_wp2
 gi_loopw [7] (fun vi wr=>∃k:Nat,k≤x.length∧vi= .int .i64 k∧J (x.take k) wr∧Below n₀ W wr) (fun vi _=>x.length-(intOf vi).toNat)
 case atStart=>exact⟨0,Nat.zero_le _,rfl,h0,Below.refl _ _⟩
 case round=>
  obtain⟨k,hk,rfl,hJs,hnx⟩:=hrel
  by_cases hlt:k<x.length
  ·have hLr:=HL.out.below hnx
   obtain⟨-,a',cap',hv,hx⟩:=hLr
   simp only [Value.slice.injEq,true_and]at hv
   obtain⟨rfl,rfl⟩:=hv
   rcases hx with hx|⟨b,off,rfl,hb,hx⟩
   ·omega
   have q0:=hx k hlt
   obtain⟨fn,tmps,assign,body,hy,hR⟩:=hY _ (x.getD k 0) wr hJs (by rw [List.length_take];omega)
   have HS:=Lib.hid (take_snocI x k hlt)
   generalize x.getD k 0=z0 at *
   have d1:(k:Int)<(x.length:Int):=by omega
   have hlen1:(x.length:Int)≤1000:=by omega
   clear hx hBs h0
   gi_wp2
   refine hR.mono ?_
   rintro e W3 (⟨rfl,hJ3,hk3⟩|⟨rfl,hJx3⟩)
   ·gi_wp2
    go_roundw
    case rel=>exact⟨k+1,by omega,by go_num,by rw [HS.out];exact hJ3,hnx.trans hk3⟩
    case measure=>simp [intOf];omega
   ·gi_wp2
    refine bodyPost_ret (results_none rfl _ _ _) rfl ?_
    exact⟨⟨_,rfl⟩,.inr ⟨_,⟨k,hlt,HS.out.symm⟩,hJx3⟩⟩
  ·obtain rfl:k=x.length:=by omega
   gi_wp2
   go_end0
   exact⟨⟨_,rfl⟩,.inl ⟨_,List.take_length,hJs⟩⟩
theorem valI_in(F:Fence)(n:Nat)(hf:F.fn 180)(hro:F.round=none)(a:Option Addr)(len cap:Nat)(w:World) :
 CallsIn F n Tryz.prog 180 #[.slice a len cap] w fun e w'=>e= .returned (.func (.func 234) #[] #[.pointer (some ⟨w.heap.size,0,none⟩)])∧w'=w.alloc (.cells #[.slice a len cap] 22):=by
 refine callsIn_of_wp Tryz.func180 rfl hf ?_ hro
 simp only [Tryz.ntmps180,List.size_toArray,List.length_cons,List.length_nil,Nat.reduceAdd,Nat.reduceSub,Array.replicate_succ,Array.replicate_zero,List.push_toArray,List.append_toArray,List.nil_append,List.cons_append]
 gi_wp2
 go_ret
 exact⟨rfl,rfl⟩
theorem valI_stops(F:Fence)(n:Nat)(hf:F.fn 234)(hro:F.round=none)(hn:1≤n)(Bs n₀:Nat)(v:Value)(x:List Int)(w:World)(hBs:Bs<n₀)(hn₀:n₀≤w.heap.size)
 (hc:w.cell? ⟨Bs,0,none⟩=some v) (hL:YrLies n₀ w v x) :
 SeqStopsK F n Tryz.prog 234 #[.pointer (some ⟨Bs,0,none⟩)] (fun i:Int=>#[Value.int .i64 i]) (Below n₀) (fun ys=>ys=x) (fun pre=>∃k,k<x.length∧pre=x.take (k+1)) x.length w:=fun l J Jx W hW _ _ hY h0=>
 valI1_in F n hf hro hn l Bs n₀ x v J Jx hY W ((hW.cell (p:=⟨Bs,0,none⟩) (by show Bs<w.heap.size;omega)).trans hc) hBs (hL.below (hW.mono hn₀)) h0
theorem infoY:(Tryz.prog.info? 3).map (fun i=>(i.zero,i.size,i.bytes))=some (some (.int .i64 0),1,8):=by kernel_rfl
theorem appI_in(x:List Int)(v:Value)(Bs:Nat)(w:World)(hb:Bs<w.heap.size)(hc0:w.cell? ⟨Bs,0,none⟩=some v)(hL:YrAt w v x) :
 CallsIn Fence.wide 5 Tryz.prog 271 #[.slice none 0 0,.func (.func 234) #[] #[.pointer (some ⟨Bs,0,none⟩)]] w fun e W'=>
  ∃v',e= .returned v'∧W'.ownsRow w.heap.size 3 1 v' x.length (x.map (Value.int .i64))∧Below w.heap.size w W':=by
 obtain⟨i0,hi,hz0,hz1,hz2⟩:=info_parts infoY
 have h1000:=hL.1
 refine callsIn_of_wp_marks Tryz.func271 rfl trivial ?_ rfl
 simp only [Tryz.ntmps271,List.size_toArray,List.length_cons,List.length_nil,Nat.reduceAdd,Nat.reduceSub,Array.replicate_succ,Array.replicate_zero,List.push_toArray,List.append_toArray,List.nil_append,List.cons_append]
 gi_wp2
 have bO:=Boxed.new w 22 (.slice none 0 0)
 have hB0:Below w.heap.size w (w.alloc (.cells #[.slice none 0 0] 22)):=(Below.refl _ w).alloc (Nat.le_refl _) _
 refine wpIn_rangeFunc_ownG (F:=Fence.wide) rfl (by omega) (gf:=234) (lb:=#[.pointer (some ⟨Bs,0,none⟩)]) rfl trivial (enters_of Tryz.func234 (by kernel_rfl) rfl)
  (valI_stops Fence.wide 4 trivial rfl (by omega) Bs w.heap.size v x _ hb (by simp) ((hB0.cell (p:=⟨Bs,0,none⟩) hb).trans hc0) (hL.lies.below hB0)) belowK_t (belowK_b (by simp)) (Below.refl _ _) (fun _=>rfl)
  (fun pre W=>(∃v,Boxed W w.heap.size 22 v∧W.ownsRow w.heap.size 3 1 v pre.length (pre.map (Value.int .i64))∧True)∧Below w.heap.size w W)
  (fun _ _ _=>False)
  (OwnFrom.and (Own.from (holdsRow_own w.heap.size w.heap.size 22 3 1 (fun pre:List Int=>pre.length) (fun pre=>pre.map (Value.int .i64)) (fun _ _=>True)) _) (ownFrom_below (Nat.le_refl _) (by simp)))
  (fun _ _ _ _ _ hs _ _=>hs)
  ⟨⟨_,bO,World.ownsRow_nil _ _ _ _,trivial⟩,hB0⟩
  (fun z=>{tmps:=#[.slice none 0 0,.func (.func 234) #[] #[.pointer (some ⟨Bs,0,none⟩)],.pointer (some ⟨w.heap.size,0,none⟩),undef,.slice none 0 0,.int .i64 z,.func (.func 234) #[] #[.pointer (some ⟨Bs,0,none⟩)],.int .i64 z,undef,undef,undef,undef,undef],defers:=[]}) ?assign ?body ?done ?stop
 case assign=>
  intro l z W K hK
  gi_wp2
  exact hK
 case body=>
  rintro l pre z W ⟨⟨v2,hv,hrow,-⟩,hB⟩ hlt
  have hc:=hv.cell
  gi_wp2_with (gi_at_builtin;refine wpListIn_append_own _ rfl _ _ 22 rfl w.heap.size 3 i0 (.int .i64 0) 1 8 Tryz.underlying22 hi hz0 hz1 hz2 rfl (by decide) _ _ _ rfl (hrow.alloc _) ⟨W.heap.size,0,none⟩ 1 1 [.int .i64 z] rfl rfl (cell_one_new _ _ _) (by simp [Value.oneCell']) (by unfold maxLen;omega) (by omega) (by have:=hB.size;simp;omega) ?_;intro v' w1 hown' hgrow _;obtain⟨g',cap',rfl⟩:=ownsRow_succ hown';obtain⟨hv1,hv2,hr2,hk2,hb2⟩:=hv.appended (by decide) hrow hB.size (Nat.le_refl _) hown' hgrow;have hc1:=hv1.cell;have hf1:=hv1.frozen)
  exact⟨hk2.from _,hb2,⟨_,hv2,by simpa using hr2,trivial⟩,hB.trans hb2⟩
 case done=>
  rintro D ys W hD rfl ⟨⟨v2,hv,hrow,-⟩,hB⟩ hK
  have hc:=hv.cell
  gi_wp2
  refine⟨by simp,.inl ⟨_,_,rfl,run_takeDeferred hK, ?_⟩⟩
  exact⟨_,results_tmp rfl _ _ _,v2,rfl,ownsRow_putObj hrow _ hK rfl,hB.trans (belowK_b (w:=w) (Nat.le_refl _) W D _ _ (by simp at hD;omega) hK rfl rfl)⟩
 case stop=>
  rintro D c pre W _ _ h _
  exact h.elim
theorem ownsRow_unpackY{w:World}{base g n cap:Nat}{e:TypeId}{zs:List Int}(h:w.ownsRow base e 1 (.slice (some ⟨g,0,none⟩) n cap) n (zs.map (Value.int .i64))) :
 ∃cur,zs.length=n∧base≤g∧w.heap[g]? =some (.cells cur e (0,0))∧n≤cap∧cap≤maxLen∧cur.size=cap*1∧cur.toList.take n=zs.map (Value.int .i64):=by
 obtain⟨h0,h1|⟨g',cap',cur,hv,hb,hg,h2,h3,h4,h5⟩⟩:=h
 ·cases h1.1
 ·simp only [Value.slice.injEq,Option.some.injEq,Addr.mk.injEq,and_true,true_and]at hv
  obtain⟨rfl,rfl⟩:=hv
  exact⟨cur,by simpa using h0,hb,hg,h2,h3,h4,by simpa using h5⟩
theorem sort_rowY{base g cap:Nat}{zs:List Int}{w:World}(h:w.ownsRow base 3 1 (.slice (some ⟨g,0,none⟩) zs.length cap) zs.length (zs.map (Value.int .i64)))(hl:zs.length≤1000) :
 Calls Tryz.prog 233 #[.slice (some ⟨g,0,none⟩) zs.length cap] w fun e w'=>e= .returned (.tuple #[])∧w.grownBy w' (some g)∧
  w'.ownsRow base 3 1 (.slice (some ⟨g,0,none⟩) zs.length cap) zs.length ((zs.mergeSort fun x y=>decide (x≤y)).map (Value.int .i64)):=by
 obtain⟨cur,-,hb,hg,h2,h3,h4,h5⟩:=ownsRow_unpackY h
 refine(Tryz.slices_Sort_int g 0 cap zs w (holds_of_blockI hg h5) (Array.getElem?_eq_some_iff.1 hg).1 (by omega)).mono ?_
 rintro e w' ⟨rfl,n,os,rfl⟩
 exact⟨rfl,grownBy_sortedI _,ownsRow_sortedI (by simp) hb hg h2 h3 h4⟩
end Go.Proofs.YtblkcgceefjmjaaGreatDoor
