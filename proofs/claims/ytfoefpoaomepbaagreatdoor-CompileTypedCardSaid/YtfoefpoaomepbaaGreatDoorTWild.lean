import Derived.Test.YtfoefpoaomepbaaGreatDoorTGrG
set_option linter.all false
set_option maxHeartbeats 16000000
set_option maxRecDepth 1000000
namespace Go.Proofs.YtfoefpoaomepbaaGreatDoor
open Go.RowKit
def costW:Nat→Nat
 |0=>9
 |n+1=>4*costW n+5
theorem costW_9(n:Nat):9≤costW n:=by
 induction n with
 |zero=>exact Nat.le_refl _
 |succ n ih=>rw [costW];omega
def WildP(s:Nat)(lv:Value)(X:World)(p:Nat)(left:Int)(n:Nat)(e:Ending)(w':World):Prop:=
 ∃(E:Ex) (v:Value) (bs:Array Obj) (d p':Nat) (l':Int),e= .returned (exV E v)∧w'=(X.src s lv p' l').grow bs d∧RepE (fun b=>X.heap.size≤b) w' E v∧E.size≤costW n∧p≤p'∧p'≤p+costW n∧left-costW n≤l'∧l'≤left
def WildOK(s:Nat)(lv:Value)(zs:List Int)(n:Nat):Prop:=
 ∀(p:Nat) (P left deep:Int) (X:World),P=p→deep=9-n→s<X.heap.size→X.src s lv P left=X→Hid (ListAt X s lv zs)→p+costW n≤900000→-900000≤left-costW n→left≤900000→
  Calls Tryz.prog 29 #[.pointer (some ⟨s,0,none⟩),.int .i64 deep] X (WildP s lv X p left n)
def env4:List (ByteArray × Int):=[(⟨#[97]⟩,2),(⟨#[98]⟩,3),(⟨#[99]⟩,4),(⟨#[100]⟩,1)]
theorem env4_at{w:World}{s b:Nat}{t:TypeId}(hb:w.heap[b]? =some (.cells #[.string ⟨#[97]⟩,.int .i64 2,.string ⟨#[98]⟩,.int .i64 3,.string ⟨#[99]⟩,.int .i64 4,.string ⟨#[100]⟩,.int .i64 1] t (0,0)))(hs:b≠s):EnvAt w s (.slice (some ⟨b,0,none⟩) 4 4) env4:=by
 refine⟨by decide,by decide+kernel,_,4,rfl,.inr ⟨b,0,rfl,(Array.getElem?_eq_some_iff.1 hb).1,hs,fun i hi=>?_⟩⟩
 have hi4:i<4:=hi
 rcases(show i=0∨i=1∨i=2∨i=3 by omega)with rfl|rfl|rfl|rfl
 all_goals exact⟨by rw [cell_of_row w b _ _ _ _ hb];rfl,by rw [cell_of_row w b _ _ _ _ hb];rfl⟩
theorem leafN_noargs(zs:List Int)(env:List (ByteArray × Int))(p:Nat)(dim:Int):(leafN zs env p dim).1.args= []:=by
 unfold leafN
 split
 ·rfl
 ·split<;>rfl
theorem leaf_re{S:Nat→Prop}{w:World}{o n d m:Int}{nm:ByteArray}{l:List Ex}{a:Option Addr}{c:Nat}(hl:l= [])(hr:ExRng (.mk o n d m nm l)):RepE S w (.mk o n d m nm l) (.slice a l.length c):=by
 subst hl
 exact RepE.mk (.mk o n d m nm []) a c (fun _=>.slice none 0 0) hr (.inl rfl) (fun i hi=>by simp [Ex.args]at hi)
theorem WildP.of{s:Nat}{lv:Value}{X:World}{p:Nat}{left:Int}{n:Nat}{e:Ending}{w':World}{E:Ex}{v:Value}{p':Nat}{P' l':Int}(hP:(p':Int)=P')(he:e= .returned (exV E v))(hg:(X.src s lv P' l').Grows w')(hr:RepE (fun b=>X.heap.size≤b) w' E v)
 (h1:E.size≤costW n) (h2:p≤p') (h3:p'≤p+costW n) (h4:left-costW n≤l') (h5:l'≤left):WildP s lv X p left n e w':=by
 subst hP
 obtain⟨bs,d,rfl⟩:=hg
 exact⟨E,v,bs,d,p',l',he,rfl,hr,h1,h2,h3,h4,h5⟩
theorem wild_leaf(s:Nat)(lv:Value)(zs:List Int)(n:Nat)(hn:n≤8)(p:Nat)(left deep:Int)(X:World)(hdeep:Hid (deep=9-n))(hs:s<X.heap.size)(hl:Hid (ListAt X s lv zs))(hp:p+9≤900000)(hleft:-900000≤left-9)(hleft2:left≤900000)
 (kk:Int) (hk:Hid (nextV zs p 10=kk)) (hkk:0≤kk∧kk<10) (hc:¬kk<6∨¬deep<9∨¬0<left-1) :
 Calls Tryz.prog 29 #[.pointer (some ⟨s,0,none⟩),.int .i64 deep] (X.src s lv p left) (WildP s lv X p left n):=by
 have hcase:(kk<6∧deep<9∧¬0<left-1)∨(kk<6∧¬deep<9)∨¬kk<6:=by omega
 clear hc
 have ha:=nextV_bd zs (p+1) 3 (by omega)
 generalize hA:nextV zs (p+1) 3=aa at ha
 have HA:=Lib.hid hA
 obtain⟨LE,p3,hL⟩:∃LE p3,leafN zs env4 (p+2) (2+aa)=(LE,p3):=⟨_,_,rfl⟩
 have hb3:=leafN_bd zs env4 (p+2) (2+aa)
 have hsz:=leafN_size zs env4 (p+2) (2+aa)
 have harg:=leafN_noargs zs env4 (p+2) (2+aa)
 rw [hL]at hb3 hsz harg
 dsimp only at hb3 hsz harg
 have HLL:=Lib.hid hL
 have hT:=nextV_bd zs p3 40 (by omega)
 generalize hT2:nextV zs p3 40=tt at hT
 have HT:=Lib.hid hT2
 have hq:=nextV_bd zs (p3+1) 24 (by omega)
 have hq1:=nextV_bd zs (p3+1) 5 (by omega)
 have hq2:=nextV_bd zs (p3+1) 6 (by omega)
 have hq3:=nextV_bd zs (p3+1) 50 (by omega)
 have hq4:=nextV_bd zs (p3+1+1) 30 (by omega)
 clear hA hL hT2
 rcases hcase with ⟨c1,c2,c3⟩|⟨c1,c2⟩|c1
 all_goals
  go_enter Tryz.func29,Tryz.ntmps29
  go_wp2_with fail
  refine(next_any s lv zs p p (left-1) _ _ rfl (by simp;omega) (by simp [go_sem,hs]) (by(repeat' (first|(with_reducible exact hl.out)|(with_reducible refine ListAt.alloc ?_ _)|(with_reducible refine ListAt.grow ?_ _ _)|(with_reducible refine ListAt.drewN ?_ _)|(with_reducible refine ListAt.src ?_ _ _ _)))) (by omega) (by omega)).mono ?_
  rintro e w' ⟨rfl,n1,rfl⟩
  rw [hk.out]
  go_wp2_with fail
  refine(next_any s lv zs (p+1) (p+1) (left-1) _ _ (by simp) (by simp;omega) (by simp [go_sem,hs]) (by(repeat' (first|(with_reducible exact hl.out)|(with_reducible refine ListAt.alloc ?_ _)|(with_reducible refine ListAt.grow ?_ _ _)|(with_reducible refine ListAt.drewN ?_ _)|(with_reducible refine ListAt.src ?_ _ _ _)))) (by omega) (by omega)).mono ?_
  rintro e w' ⟨rfl,n2,rfl⟩
  rw [HA.out]
  go_wp2_with fail
  refine(leaf_any2 s lv zs (p+2) ((p:Int)+1+1) (left-1) (2+aa) _ env4 (LE,p3) _ (by omega) (by omega) (by omega) (by simp;omega) (by simp [go_sem,hs]) (Lib.hid (by(repeat' (first|(with_reducible exact hl.out)|(with_reducible refine ListAt.alloc ?_ _)|(with_reducible refine ListAt.grow ?_ _ _)|(with_reducible refine ListAt.drewN ?_ _)|(with_reducible refine ListAt.src ?_ _ _ _))))) (Lib.hid (env4_at (heap_new _ _ _ (by simp)) (by simp;omega))) (by omega) (by omega) (by omega) HLL).mono ?_
  rintro e w' ⟨v,bs,d,rfl,rfl,hrep⟩
  have HRG:=Lib.hid hrep.rng
  obtain⟨va,vc,hv⟩:=hrep.form
  subst hv
  clear hrep
  dsimp only
  go_wp2_with fail
  refine(next_any s lv zs p3 p3 (left-1-1) _ _ rfl (by simp;omega) (by simp [go_sem,hs]) (by(repeat' (first|(with_reducible exact hl.out)|(with_reducible refine ListAt.alloc ?_ _)|(with_reducible refine ListAt.grow ?_ _ _)|(with_reducible refine ListAt.drewN ?_ _)|(with_reducible refine ListAt.src ?_ _ _ _)))) (by omega) (by omega)).mono ?_
  rintro e w' ⟨rfl,n3,rfl⟩
  rw [HT.out]
  rcases(show tt=0∨tt=1∨tt=2∨tt=3∨4≤tt by omega)with rfl|rfl|rfl|rfl|h4
  ·go_wp2_with fail
   refine(next_any s lv zs (p3+1) (p3+1) (left-1-1) _ _ (by simp) (by simp;omega) (by simp [go_sem,hs]) (by(repeat' (first|(with_reducible exact hl.out)|(with_reducible refine ListAt.alloc ?_ _)|(with_reducible refine ListAt.grow ?_ _ _)|(with_reducible refine ListAt.drewN ?_ _)|(with_reducible refine ListAt.src ?_ _ _ _)))) (by omega) (by omega)).mono ?_
   rintro e w' ⟨rfl,n4,rfl⟩
   generalize nextV zs (p3+1) 24=tv at *
   go_wp2_with fail
   go_returns
   exact WildP.of (p':=p3+1+1) (P':=(p3:Int)+1+1) (E:=.mk tv LE.num LE.den LE.dim LE.name []) (by simp) rfl (.of_below (by(repeat' (first|(with_reducible exact Below.refl _ _)|(with_reducible assumption)|(with_reducible refine Below.grow ?_ ?_ _ _)|(with_reducible refine Below.alloc ?_ ?_ _)|(with_reducible refine Below.drewN ?_ _)|(with_reducible refine Below.drew ?_)|(with_reducible refine Below.src ?_ ?_ _ _ _)|(with_reducible refine Below.setCell ?_ ?_ _)|go_size)))) (leaf_re rfl ⟨⟨by show _≤tv;omega,by show tv≤_;omega⟩,HRG.out.num,HRG.out.den,HRG.out.dim,(by show(0:Nat)≤_;omega),HRG.out.name⟩) (by simp [Ex.size,Ex.sizes];have:=costW_9 n;omega) (by omega) (by have:=costW_9 n;omega) (by have:=costW_9 n;omega) (by omega)
  ·go_wp2_with fail
   refine(next_any s lv zs (p3+1) (p3+1) (left-1-1) _ _ (by simp) (by simp;omega) (by simp [go_sem,hs]) (by(repeat' (first|(with_reducible exact hl.out)|(with_reducible refine ListAt.alloc ?_ _)|(with_reducible refine ListAt.grow ?_ _ _)|(with_reducible refine ListAt.drewN ?_ _)|(with_reducible refine ListAt.src ?_ _ _ _)))) (by omega) (by omega)).mono ?_
   rintro e w' ⟨rfl,n4,rfl⟩
   generalize nextV zs (p3+1) 5=tv at *
   rcases(show tv=0∨tv=1∨tv=2∨tv=3∨tv=4 by omega)with rfl|rfl|rfl|rfl|rfl
   all_goals
    go_wp2_with fail
    go_returns
    exact WildP.of (p':=p3+1+1) (P':=(p3:Int)+1+1) (E:=.mk LE.op LE.num LE.den LE.dim _ []) (by simp) rfl (.of_below (by(repeat' (first|(with_reducible exact Below.refl _ _)|(with_reducible assumption)|(with_reducible refine Below.grow ?_ ?_ _ _)|(with_reducible refine Below.alloc ?_ ?_ _)|(with_reducible refine Below.drewN ?_ _)|(with_reducible refine Below.drew ?_)|(with_reducible refine Below.src ?_ ?_ _ _ _)|(with_reducible refine Below.setCell ?_ ?_ _)|go_size)))) (leaf_re rfl ⟨HRG.out.op,HRG.out.num,HRG.out.den,HRG.out.dim,(by show(0:Nat)≤_;omega),(Nat.le_of_ble_eq_true rfl)⟩) (by simp [Ex.size,Ex.sizes];have:=costW_9 n;omega) (by omega) (by have:=costW_9 n;omega) (by have:=costW_9 n;omega) (by omega)
  ·go_wp2_with fail
   refine(next_any s lv zs (p3+1) (p3+1) (left-1-1) _ _ (by simp) (by simp;omega) (by simp [go_sem,hs]) (by(repeat' (first|(with_reducible exact hl.out)|(with_reducible refine ListAt.alloc ?_ _)|(with_reducible refine ListAt.grow ?_ _ _)|(with_reducible refine ListAt.drewN ?_ _)|(with_reducible refine ListAt.src ?_ _ _ _)))) (by omega) (by omega)).mono ?_
   rintro e w' ⟨rfl,n4,rfl⟩
   generalize nextV zs (p3+1) 6=tv at *
   go_wp2_with fail
   go_returns
   exact WildP.of (p':=p3+1+1) (P':=(p3:Int)+1+1) (E:=.mk LE.op LE.num LE.den tv LE.name []) (by simp) rfl (.of_below (by(repeat' (first|(with_reducible exact Below.refl _ _)|(with_reducible assumption)|(with_reducible refine Below.grow ?_ ?_ _ _)|(with_reducible refine Below.alloc ?_ ?_ _)|(with_reducible refine Below.drewN ?_ _)|(with_reducible refine Below.drew ?_)|(with_reducible refine Below.src ?_ ?_ _ _ _)|(with_reducible refine Below.setCell ?_ ?_ _)|go_size)))) (leaf_re rfl ⟨HRG.out.op,HRG.out.num,HRG.out.den,⟨by show _≤tv;omega,by show tv≤_;omega⟩,(by show(0:Nat)≤_;omega),HRG.out.name⟩) (by simp [Ex.size,Ex.sizes];have:=costW_9 n;omega) (by omega) (by have:=costW_9 n;omega) (by have:=costW_9 n;omega) (by omega)
  ·go_wp2_with fail
   refine(next_any s lv zs (p3+1) (p3+1) (left-1-1) _ _ (by simp) (by simp;omega) (by simp [go_sem,hs]) (by(repeat' (first|(with_reducible exact hl.out)|(with_reducible refine ListAt.alloc ?_ _)|(with_reducible refine ListAt.grow ?_ _ _)|(with_reducible refine ListAt.drewN ?_ _)|(with_reducible refine ListAt.src ?_ _ _ _)))) (by omega) (by omega)).mono ?_
   rintro e w' ⟨rfl,n4,rfl⟩
   generalize nextV zs (p3+1) 50=tv at *
   go_wp2_with fail
   refine(next_any s lv zs (p3+1+1) (p3+1+1) (left-1-1) _ _ (by simp) (by simp;omega) (by simp [go_sem,hs]) (by(repeat' (first|(with_reducible exact hl.out)|(with_reducible refine ListAt.alloc ?_ _)|(with_reducible refine ListAt.grow ?_ _ _)|(with_reducible refine ListAt.drewN ?_ _)|(with_reducible refine ListAt.src ?_ _ _ _)))) (by omega) (by omega)).mono ?_
   rintro e w' ⟨rfl,n5,rfl⟩
   generalize nextV zs (p3+1+1) 30=tw at *
   go_wp2_with fail
   go_returns
   exact WildP.of (p':=p3+1+1+1) (P':=(p3:Int)+1+1+1) (E:=.mk LE.op (tv-20) tw LE.dim LE.name []) (by simp) rfl (.of_below (by(repeat' (first|(with_reducible exact Below.refl _ _)|(with_reducible assumption)|(with_reducible refine Below.grow ?_ ?_ _ _)|(with_reducible refine Below.alloc ?_ ?_ _)|(with_reducible refine Below.drewN ?_ _)|(with_reducible refine Below.drew ?_)|(with_reducible refine Below.src ?_ ?_ _ _ _)|(with_reducible refine Below.setCell ?_ ?_ _)|go_size)))) (leaf_re rfl ⟨HRG.out.op,⟨by show _≤tv-20;omega,by show tv-20≤_;omega⟩,⟨by show _≤tw;omega,by show tw≤_;omega⟩,HRG.out.dim,(by show(0:Nat)≤_;omega),HRG.out.name⟩) (by simp [Ex.size,Ex.sizes];have:=costW_9 n;omega) (by omega) (by have:=costW_9 n;omega) (by have:=costW_9 n;omega) (by omega)
  ·go_wp2_with fail
   go_returns
   exact WildP.of (p':=p3+1) (P':=(p3:Int)+1) (E:=.mk LE.op LE.num LE.den LE.dim LE.name []) (by simp) rfl (.of_below (by(repeat' (first|(with_reducible exact Below.refl _ _)|(with_reducible assumption)|(with_reducible refine Below.grow ?_ ?_ _ _)|(with_reducible refine Below.alloc ?_ ?_ _)|(with_reducible refine Below.drewN ?_ _)|(with_reducible refine Below.drew ?_)|(with_reducible refine Below.src ?_ ?_ _ _ _)|(with_reducible refine Below.setCell ?_ ?_ _)|go_size)))) (leaf_re rfl ⟨HRG.out.op,HRG.out.num,HRG.out.den,HRG.out.dim,(by show(0:Nat)≤_;omega),HRG.out.name⟩) (by simp [Ex.size,Ex.sizes];have:=costW_9 n;omega) (by omega) (by have:=costW_9 n;omega) (by have:=costW_9 n;omega) (by omega)
theorem wild_start(B:World)(k:Nat)(o:Obj)(c:Nat):∃d,((B.drewN k).alloc o).drewN c=(B.alloc o).grow #[] d:=
 ⟨(((B.drewN k).alloc o).drewN c).drawn,World.grow_self (((B.drewN k).alloc o).drewN c)⟩
theorem rng_op{op:Int}(h:0≤op∧op≤100)(l:List Ex)(hl:l.length≤100):ExRng (.mk op 0 0 0 ByteArray.empty l):=.lit _ _ _ (by omega) (by omega) (by omega) _ h _ (Nat.zero_le _) _ (by omega)
theorem wild_node(s:Nat)(lv:Value)(zs:List Int)(n:Nat)(IH:Hid (WildOK s lv zs n))(hn:n+1≤8)(p:Nat)(left deep:Int)(X:World)(hdeep:Hid (deep=9-((n+1:Nat):Int)))(hs:s<X.heap.size)(hl:Hid (ListAt X s lv zs))(hp:p+costW (n+1)≤900000)(hleft:-900000≤left-costW (n+1))(hleft2:left≤900000)
 (kk:Int) (hk:Hid (nextV zs p 10=kk)) (h6:kk<6) (h0:0<left-1) :
 Calls Tryz.prog 29 #[.pointer (some ⟨s,0,none⟩),.int .i64 deep] (X.src s lv p left) (WildP s lv X p left (n+1)):=by
 obtain⟨i0,hi,hz0,hz1,hz2⟩:=info_parts infoExpr
 have hcW:costW (n+1)=4*costW n+5:=rfl
 have hc9:=costW_9 n
 rw [hcW]at hp hleft
 have hd9:deep<9:=by have:=hdeep.out;omega
 have hd1:1≤deep:=by have:=hdeep.out;omega
 have ho:=nextV_bd zs (p+1) 18 (by omega)
 generalize hO:nextV zs (p+1) 18=o at ho
 have HO:=Lib.hid hO
 obtain⟨op,hop⟩:∃op,4+o=op:=⟨_,rfl⟩
 have hopb:4≤op∧op≤21:=by omega
 have HAR:Hid (1≤argsN op∧argsN op≤3):=Lib.hid (by
  unfold argsN
  (repeat' split)<;>omega)
 have HCW:=Lib.hid hcW
 clear hO hcW
 obtain⟨ar,har⟩:∃ar,argsN op=ar:=⟨_,rfl⟩
 have harb:1≤ar∧ar≤3:=by rw [←har];exact HAR.out
 have HARE:=Lib.hid har
 clear har HAR
 generalize hT2:nextV zs (p+1+1) 30=tt
 have HT:=Lib.hid hT2
 clear hT2
 have HDP:Hid (deep+1=9-(n:Int)):=Lib.hid (by have:=hdeep.out;omega)
 obtain⟨c,hcs⟩:∃c:Nat,((tt==29)=true∧ar+1=(c:Int))∨((tt==29)=false∧ar=(c:Int)):=by
  by_cases ht:tt=29
  ·exact⟨(ar+1).toNat,.inl ⟨by simp [ht],by omega⟩⟩
  ·exact⟨ar.toNat,.inr ⟨by simpa using ht,by omega⟩⟩
 have hc4:c≤4:=by rcases hcs with h|h<;>omega
 rcases hcs with ⟨hq,hcc⟩|⟨hq,hcc⟩
 all_goals
  (try subst hcc)
  go_enter Tryz.func29,Tryz.ntmps29
  go_wp2_with fail
  refine(next_any s lv zs p p (left-1) _ _ rfl (by simp;omega) (by simp [go_sem,hs]) (by(repeat' (first|(with_reducible exact hl.out)|(with_reducible refine ListAt.alloc ?_ _)|(with_reducible refine ListAt.grow ?_ _ _)|(with_reducible refine ListAt.drewN ?_ _)|(with_reducible refine ListAt.src ?_ _ _ _)))) (by omega) (by omega)).mono ?_
  rintro e w' ⟨rfl,n1,rfl⟩
  rw [hk.out]
  go_wp2_with fail
  refine(next_any s lv zs (p+1) (p+1) (left-1) _ _ (by simp) (by simp;omega) (by simp [go_sem,hs]) (by(repeat' (first|(with_reducible exact hl.out)|(with_reducible refine ListAt.alloc ?_ _)|(with_reducible refine ListAt.grow ?_ _ _)|(with_reducible refine ListAt.drewN ?_ _)|(with_reducible refine ListAt.src ?_ _ _ _)))) (by omega) (by omega)).mono ?_
  rintro e w' ⟨rfl,n2,rfl⟩
  rw [HO.out]
  go_wp2_with (go_at_call 59;refine(Args_any _ _).mono ?_;rintro e w' ⟨rfl,rfl⟩;rw [HARE.out])
  refine(next_any s lv zs (p+1+1) (p+1+1) (left-1) _ _ (by simp) (by simp;omega) (by simp [go_sem,hs]) (by(repeat' (first|(with_reducible exact hl.out)|(with_reducible refine ListAt.alloc ?_ _)|(with_reducible refine ListAt.grow ?_ _ _)|(with_reducible refine ListAt.drewN ?_ _)|(with_reducible refine ListAt.src ?_ _ _ _)))) (by omega) (by omega)).mono ?_
  rintro e w' ⟨rfl,n3,rfl⟩
  rw [HT.out]
  go_wp2_with fail
  go_loopw [9,10] (fun v9 _ wr=>∃(k:Nat) (l:List (Ex × Value)) (pk:Nat) (lk:Int) (va:Value) (bs:Array Obj) (d:Nat),k≤c∧v9= .int .i64 k∧Hid (l.length=k)∧Hid (Ex.sizes (l.map (·.1))≤k*costW n)∧(p+3≤pk∧pk≤p+3+k*costW n∧left-1-(k*costW n:Nat)≤lk∧lk≤left-1)∧
   wr=(((X.src s lv pk lk).alloc ((.cells #[.int .i64 0,.int .i64 0,.int .i64 0,.int .i64 0,.string ⟨#[]⟩,.slice none 0 0] 27))).alloc ((.cells #[.int .i64 op,.int .i64 0,.int .i64 0,.int .i64 0,.string ⟨#[]⟩,va] 27))).grow bs d∧RowE (X.heap.size+2) wr va l) (fun v9 _ _=>c-(intOf v9).toNat)
  case atStart=>
   obtain⟨d0,hd0⟩:=wild_start ((X.src s lv ((p:Int)+1+1+1) (left-1)).alloc ((.cells #[.int .i64 0,.int .i64 0,.int .i64 0,.int .i64 0,.string ⟨#[]⟩,.slice none 0 0] 27))) (n1+n2) (.cells #[.int .i64 op,.int .i64 0,.int .i64 0,.int .i64 0,.string ⟨#[]⟩,.slice none 0 0] 27) n3
   rw [hd0]
   exact⟨0,[],p+1+1+1,left-1,.slice none 0 0,#[],d0,by omega,rfl,Lib.hid rfl,Lib.hid (by simp [Ex.sizes]),⟨by omega,by omega,by omega,by omega⟩,by rw [show((p+1+1+1:Nat):Int)=(p:Int)+1+1+1 by simp],.nil _ _⟩
  case round=>
   obtain⟨k,l,pk,lk,va,bs,d,hk',rfl,HLL,HSZ,⟨b1,b2,b3,b4⟩,rfl,hrow⟩:=hrel
   have HROW:=Lib.hid hrow
   have HVB:=Lib.hid hrow.lt
   have hkm:k*costW n≤4*costW n:=Nat.mul_le_mul_right _ (by omega)
   by_cases hlt:k<c
   ·have hkw:(k+1)*costW n=k*costW n+costW n:=by rw [Nat.add_mul,Nat.one_mul]
    have hkm2:(k+1)*costW n≤4*costW n:=Nat.mul_le_mul_right _ (by omega)
    have hlt1:(k:Int)<(c:Int):=by omega
    have q1:pk+costW n≤900000:=by omega
    have q2:-900000≤lk-costW n:=by omega
    have q3:lk≤900000:=by omega
    have HB:=Lib.hid (show p+3≤pk∧pk≤p+3+k*costW n∧left-1-(k*costW n:Nat)≤lk∧lk≤left-1∧(k+1)*costW n=k*costW n+costW n from⟨b1,b2,b3,b4,hkw⟩)
    clear hrow hkw hkm hkm2 b1 b2 b3 b4
    go_wp2_with fail
    refine(IH.out pk pk lk _ _ rfl HDP.out (by simp;omega) (by simp [go_sem,hs]) (Lib.hid (by(repeat' (first|(with_reducible exact hl.out)|(with_reducible refine ListAt.alloc ?_ _)|(with_reducible refine ListAt.grow ?_ _ _)|(with_reducible refine ListAt.drewN ?_ _)|(with_reducible refine ListAt.src ?_ _ _ _))))) q1 q2 q3).mono ?_
    rintro e' w' ⟨E,ve,bs2,d2,p',l',rfl,rfl,hrep,hsz,g1,g2,g3,g4⟩
    have H1:=Lib.hid (hrep.eqw (w':=(((X.src s lv (p':Int) l').alloc ((.cells #[.int .i64 0,.int .i64 0,.int .i64 0,.int .i64 0,.string ⟨#[]⟩,.slice none 0 0] 27))).alloc ((.cells #[.int .i64 op,.int .i64 0,.int .i64 0,.int .i64 0,.string ⟨#[]⟩,va] 27))).grow (bs++bs2) d2) (by simp [go_sem,hs]))
    have HV1:=Lib.hid (hrep.one)
    obtain⟨ea,ec,rfl⟩:=hrep.form0
    have HG:=Lib.hid (show E.size≤costW n∧pk≤p'∧p'≤pk+costW n∧lk-costW n≤l'∧l'≤lk from⟨hsz,g1,g2,g3,g4⟩)
    clear hrep hsz g1 g2 g3 g4 q1 q2 q3
    have HROW1:=Lib.hid (HROW.out.lift (A':=((X.src s lv (p':Int) l').alloc ((.cells #[.int .i64 0,.int .i64 0,.int .i64 0,.int .i64 0,.string ⟨#[]⟩,.slice none 0 0] 27))).alloc ((.cells #[.int .i64 op,.int .i64 0,.int .i64 0,.int .i64 0,.string ⟨#[]⟩,va] 27))) (by simp) (by simp) bs2 d2)
    clear HROW
    go_wp2_with (at_builtin;refine wpList_append_lies _ rfl _ _ 25 rfl (X.heap.size+2) 27 i0 _ 6 72 Tryz.underlying25 hi hz0 hz1 hz2 rfl (by decide) _ _ _ rfl (HROW1.out.alloc _).own ⟨X.heap.size+2+(bs.size+bs2.size),0,none⟩ 1 1 (cells1 E (.slice ea E.args.length ec)) rfl rfl ?c1 ?c2 (by decide) ?c3 ?c4 ?c5 (X.heap.size+2+(bs.size+bs2.size)+1) (by simp) ?_)
    case c1=>exact news_cells _ (cells1 E (.slice ea E.args.length ec)) _ _ (by simp)
    case c2=>exact cells1_one _ _ rfl
    case c3=>have:=HLL.out;unfold maxLen;omega
    case c4=>have:=HLL.out;omega
    case c5=>simp;omega
    intro g cap w1 hown' hgrow hat hlt'
    have R1:=RowE.push (HROW1.out.alloc _) (((H1.out.mono (S':=fun b=>X.heap.size+2+bs.size≤b) (fun b hb=>by simpa [Nat.add_assoc]using hb)).alloc _)) (by omega) (fun j hj=>by have:=(HVB.out j hj).2;simpa using this) (by rw [HLL.out]) rfl hown' hgrow hat (by simp)
    have G1:=World.Grows.of_below (w:=((X.src s lv (p':Int) l').alloc ((.cells #[.int .i64 0,.int .i64 0,.int .i64 0,.int .i64 0,.string ⟨#[]⟩,.slice none 0 0] 27))).alloc ((.cells #[.int .i64 op,.int .i64 0,.int .i64 0,.int .i64 0,.string ⟨#[]⟩,va] 27))) ((((Below.refl _ _).grow (Nat.le_refl _) _ _).alloc (by simp) _).grown hgrow (by simp;omega) (fun j hj=>by have:=(HROW1.out.lt j hj).1;simpa using this))
    clear hown' hgrow hat hlt' HVB HROW1 H1 HV1
    obtain⟨bs3,d3,rfl⟩:=G1
    have R2:=Lib.hid R1
    clear R1
    go_wp2_with fail
    go_roundw
    case rel=>exact⟨k+1,l++[(E,.slice ea E.args.length ec)],p',l',_,bs3,d3,by omega,by go_num,Lib.hid (by have:=HLL.out;simp;omega),Lib.hid (by
     have h1:=HSZ.out
     have h2:=HG.out.1
     have h3:=HB.out.2.2.2.2
     rw [List.map_append,Ex.sizes_append]
     simp only [List.map_cons,List.map_nil,Ex.sizes]
     omega),⟨by have:=HG.out;have:=HB.out;omega,by have:=HG.out;have:=HB.out;omega,by have:=HG.out;have:=HB.out;omega,by have:=HG.out;have:=HB.out;omega⟩,rfl,R2.out.lift0 (by simp) (by simp) d3⟩
    case measure=>simp [intOf];omega
   ·obtain rfl:k=c:=by omega
    obtain⟨aa,acap,rfl⟩:∃a c',va= .slice a l.length c':=hrow.form
    have HB:=Lib.hid (show p+3≤pk∧pk≤p+3+k*costW n∧left-1-(k*costW n:Nat)≤lk∧lk≤left-1∧k*costW n≤4*costW n from⟨b1,b2,b3,b4,hkm⟩)
    clear hrow hkm b1 b2 b3 b4
    go_wp2_with fail
    go_returns
    have R3:=(HROW.out.lift0 (A':=((X.src s lv (pk:Int) lk).alloc (.cells #[.int .i64 op,.int .i64 0,.int .i64 0,.int .i64 0,.string ⟨#[]⟩,.slice aa l.length acap] 27)).alloc (.cells #[.int .i64 op,.int .i64 0,.int .i64 0,.int .i64 0,.string ⟨#[]⟩,.slice aa l.length acap] 27)) (by simp) (by simp) d).repE (e:=.mk op 0 0 0 ByteArray.empty (l.map (·.1))) (rng_op (by omega) _ (by rw [List.length_map];have:=HLL.out;omega)) rfl
    exact WildP.of (p':=pk) (P':=(pk:Int)) (l':=lk) rfl rfl (.of_below (by(repeat' (first|(with_reducible exact Below.refl _ _)|(with_reducible assumption)|(with_reducible refine Below.grow ?_ ?_ _ _)|(with_reducible refine Below.alloc ?_ ?_ _)|(with_reducible refine Below.drewN ?_ _)|(with_reducible refine Below.drew ?_)|(with_reducible refine Below.src ?_ ?_ _ _ _)|(with_reducible refine Below.setCell ?_ ?_ _)|go_size)))) (R3.mono fun b hb=>by show X.heap.size≤b;omega) (by
     show Ex.size _≤_
     simp only [Ex.size]
     have h1:=HSZ.out
     have h2:=HB.out.2.2.2.2
     rw [HCW.out];omega) (by have:=HB.out;omega) (by have:=HB.out;rw [HCW.out];omega) (by have:=HB.out;rw [HCW.out];omega) (by have:=HB.out;omega)
theorem wild_ok(s:Nat)(lv:Value)(zs:List Int)(n:Nat)(hn:n≤8):WildOK s lv zs n:=by
 induction n with
 |zero=>
  intro p P left deep X hP hd hs hX hl b1 b2 b3
  subst hP
  have hb:=nextV_bd zs p 10 (by omega)
  have hc:costW 0=9:=rfl
  rw [hc]at b1 b2
  have:=wild_leaf s lv zs 0 (by omega) p left deep X (Lib.hid hd) hs hl b1 b2 b3 _ (Lib.hid rfl) hb (.inr (.inl (by omega)))
  rwa [hX]at this
 |succ n ih=>
  intro p P left deep X hP hd hs hX hl b1 b2 b3
  subst hP
  have hb:=nextV_bd zs p 10 (by omega)
  have hc:=costW_9 (n+1)
  by_cases h:nextV zs p 10<6∧0<left-1
  ·have:=wild_node s lv zs n (Lib.hid (ih (by omega))) (by omega) p left deep X (Lib.hid hd) hs hl b1 b2 b3 _ (Lib.hid rfl) h.1 h.2
   rwa [hX]at this
  ·have:=wild_leaf s lv zs (n+1) (by omega) p left deep X (Lib.hid hd) hs hl (by omega) (by omega) b3 _ (Lib.hid rfl) hb (by omega)
   rwa [hX]at this
def WildR(w:World)(e:Ending)(w':World):Prop:=∃(E:Ex) (v:Value),e= .returned (exV E v)∧w.Grows w'∧RepE (fun b=>w.heap.size≤b) w' E v∧E.size≤1000000
theorem Wild_any(lv:Value)(zs:List Int)(w:World)(hl0:ListAt w w.heap.size lv zs):Calls Tryz.prog 8 #[lv] w (WildR w):=by
 have hl:=Lib.hid (hl0.other (s':=w.heap.size+1) (by omega))
 have hlf:=hl0
 obtain⟨-,la,lc,hlv,-⟩:=hlf
 subst hlv
 clear hl0
 have hc8:costW 8=699049:=by decide+kernel
 have HC8:=Lib.hid hc8
 clear hc8
 go_enter Tryz.func8,Tryz.ntmps8
 go_wp2_with fail
 refine(wild_ok (w.heap.size+1) _ zs 8 (by omega) 0 0 30 1 _ rfl rfl (by simp) (src_new' _ _ _ _ _ (by simp)) (Lib.hid (by(repeat' (first|(with_reducible exact hl.out)|(with_reducible refine ListAt.alloc ?_ _)|(with_reducible refine ListAt.grow ?_ _ _)|(with_reducible refine ListAt.drewN ?_ _)|(with_reducible refine ListAt.src ?_ _ _ _))))) (by rw [HC8.out];omega) (by rw [HC8.out];omega) (by omega)).mono ?_
 rintro e' w' ⟨E,v,bs,d,p',l',rfl,rfl,hrep,hsz,-,-,-,-⟩
 obtain⟨va,vc,hv⟩:=hrep.form
 subst hv
 have H1:Hid (RepE (fun b=>w.heap.size+2≤b) _ E (.slice va E.args.length vc)):=Lib.hid (hrep.mono fun b hb=>by simpa using hb)
 have HSZ:=Lib.hid hsz
 clear hrep hsz
 go_wp2_with fail
 go_returns
 refine⟨E,_,rfl,.of_below (by(repeat' (first|(with_reducible exact Below.refl _ _)|(with_reducible assumption)|(with_reducible refine Below.grow ?_ ?_ _ _)|(with_reducible refine Below.alloc ?_ ?_ _)|(with_reducible refine Below.drewN ?_ _)|(with_reducible refine Below.drew ?_)|(with_reducible refine Below.src ?_ ?_ _ _ _)|(with_reducible refine Below.setCell ?_ ?_ _)|go_size))), ?_,by have:=HSZ.out;have:=HC8.out;omega⟩
 refine(H1.out.lift0 ?_ ?_ d).mono ?_
 all_goals first
  |(intro b hb;simp at hb;omega)
  |(intro b hb;omega)
  |(simp;done)
  |(simp;omega)
end Go.Proofs.YtfoefpoaomepbaaGreatDoor
