import Derived.Test.YtlheailebbngiaaGreatDoorLLawBo
import Derived.Test.YtlheailebbngiaaGreatDoorLVwP
import Derived.Test.YtlheailebbngiaaGreatDoorLK
set_option linter.all false
set_option maxHeartbeats 16000000
set_option maxRecDepth 1000000
namespace Go.Proofs.YtlheailebbngiaaGreatDoor
open Go.RowKit
def costW:Nat→Nat
 |0=>9
 |n+1=>4*costW n+5
theorem costW_9(n:Nat):9≤costW n:=by
 induction n with
 |zero=>exact Nat.le_refl _
 |succ n ih=>rw [costW];omega
def WildP(s:Nat)(lv:Value)(X:World)(p:Nat)(left:Int)(n:Nat)(e:Ending)(w':World):Prop:=
 ∃(E:Ex) (v:Value) (bs:Array Obj) (d p':Nat) (l':Int),e= .returned (exV E v)∧w'=(X.src s lv p' l').grow bs d∧RepE (fun b=>X.heap.size≤b) w' E v∧E.size≤costW n∧p≤p'∧p'≤p+costW n∧left-costW n≤l'∧l'≤left
def WildOK(s:Nat)(lv:Value)(zs:List Int)(n:Nat):Prop:=
 ∀(p:Nat) (P left deep:Int) (X:World),P=p→deep=9-n→s<X.heap.size→X.src s lv P left=X→Hid (ListAt X s lv zs)→p+costW n≤900000→-900000≤left-costW n→left≤900000→
  Calls Tryz.prog 63 #[.pointer (some ⟨s,0,none⟩),.int .i64 deep] X (WildP s lv X p left n)
def env4:List (ByteArray × Int):=[(⟨#[97]⟩,2),(⟨#[98]⟩,3),(⟨#[99]⟩,4),(⟨#[100]⟩,1)]
theorem env4_at{w:World}{s b:Nat}{t:TypeId}(hb:w.heap[b]? =some (.cells #[.string ⟨#[97]⟩,.int .i64 2,.string ⟨#[98]⟩,.int .i64 3,.string ⟨#[99]⟩,.int .i64 4,.string ⟨#[100]⟩,.int .i64 1] t (0,0)))(hs:b≠s):EnvAt w s (.slice (some ⟨b,0,none⟩) 4 4) env4:=by
 refine⟨by decide,by decide+kernel,_,4,rfl,.inr ⟨b,0,rfl,(Array.getElem?_eq_some_iff.1 hb).1,hs,fun i hi=>?_⟩⟩
 have hi4:i<4:=hi
 rcases(show i=0∨i=1∨i=2∨i=3 by omega)with rfl|rfl|rfl|rfl
 all_goals exact⟨by rw [cell_of_row w b _ _ _ _ hb];rfl,by rw [cell_of_row w b _ _ _ _ hb];rfl⟩
theorem leafN_noargs(zs:List Int)(env:List (ByteArray × Int))(p:Nat)(dim:Int):(leafN zs env p dim).1.args= []:=by
 unfold leafN
 split
 ·rfl
 ·split<;>rfl
theorem leaf_re{S:Nat→Prop}{w:World}{o n d m:Int}{nm:ByteArray}{l:List Ex}{a:Option Addr}{c:Nat}(hl:l= [])(hr:ExRng (.mk o n d m nm l)):RepE S w (.mk o n d m nm l) (.slice a l.length c):=by
 subst hl
 exact RepE.mk (.mk o n d m nm []) a c (fun _=>.slice none 0 0) hr (.inl rfl) (fun i hi=>by simp [Ex.args]at hi)
theorem WildP.of{s:Nat}{lv:Value}{X:World}{p:Nat}{left:Int}{n:Nat}{e:Ending}{w':World}{E:Ex}{v:Value}{p':Nat}{P' l':Int}(hP:(p':Int)=P')(he:e= .returned (exV E v))(hg:(X.src s lv P' l').Grows w')(hr:RepE (fun b=>X.heap.size≤b) w' E v)
 (h1:E.size≤costW n) (h2:p≤p') (h3:p'≤p+costW n) (h4:left-costW n≤l') (h5:l'≤left):WildP s lv X p left n e w':=by
 subst hP
 obtain⟨bs,d,rfl⟩:=hg
 exact⟨E,v,bs,d,p',l',he,rfl,hr,h1,h2,h3,h4,h5⟩
theorem wild_leaf(s:Nat)(lv:Value)(zs:List Int)(n:Nat)(hn:n≤8)(p:Nat)(left deep:Int)(X:World)(hdeep:Hid (deep=9-n))(hs:s<X.heap.size)(hl:Hid (ListAt X s lv zs))(hp:p+9≤900000)(hleft:-900000≤left-9)(hleft2:left≤900000)
 (kk:Int) (hk:Hid (nextV zs p 10=kk)) (hkk:0≤kk∧kk<10) (hc:¬kk<6∨¬deep<9∨¬0<left-1) :
 Calls Tryz.prog 63 #[.pointer (some ⟨s,0,none⟩),.int .i64 deep] (X.src s lv p left) (WildP s lv X p left n):=by
 have hcase:(kk<6∧deep<9∧¬0<left-1)∨(kk<6∧¬deep<9)∨¬kk<6:=by omega
 clear hc
 have ha:=nextV_bd zs (p+1) 3 (by omega)
 generalize hA:nextV zs (p+1) 3=aa at ha
 have HA:=Lib.hid hA
 obtain⟨LE,p3,hL⟩:∃LE p3,leafN zs env4 (p+2) (2+aa)=(LE,p3):=⟨_,_,rfl⟩
 have hb3:=leafN_bd zs env4 (p+2) (2+aa)
 have hsz:=leafN_size zs env4 (p+2) (2+aa)
 have harg:=leafN_noargs zs env4 (p+2) (2+aa)
 rw [hL]at hb3 hsz harg
 dsimp only at hb3 hsz harg
 have HLL:=Lib.hid hL
 have hT:=nextV_bd zs p3 40 (by omega)
 generalize hT2:nextV zs p3 40=tt at hT
 have HT:=Lib.hid hT2
 have hq:=nextV_bd zs (p3+1) 24 (by omega)
 have hq1:=nextV_bd zs (p3+1) 5 (by omega)
 have hq2:=nextV_bd zs (p3+1) 6 (by omega)
 have hq3:=nextV_bd zs (p3+1) 50 (by omega)
 have hq4:=nextV_bd zs (p3+1+1) 30 (by omega)
 clear hA hL hT2
 rcases hcase with ⟨c1,c2,c3⟩|⟨c1,c2⟩|c1
 all_goals
  go_enter Tryz.func63,Tryz.ntmps63
  go_wp2_with fail
  refine(next_any s lv zs p p (left-1) _ _ rfl (by simp;omega) (by simp [go_sem,hs]) (by(repeat' (first|(with_reducible exact hl.out)|(with_reducible refine ListAt.alloc ?_ _)|(with_reducible refine ListAt.grow ?_ _ _)|(with_reducible refine ListAt.drewN ?_ _)|(with_reducible refine ListAt.src ?_ _ _ _)))) (by omega) (by omega)).mono ?_
  rintro e w' ⟨rfl,n1,rfl⟩
  rw [hk.out]
  go_wp2_with fail
  refine(next_any s lv zs (p+1) (p+1) (left-1) _ _ (by simp) (by simp;omega) (by simp [go_sem,hs]) (by(repeat' (first|(with_reducible exact hl.out)|(with_reducible refine ListAt.alloc ?_ _)|(with_reducible refine ListAt.grow ?_ _ _)|(with_reducible refine ListAt.drewN ?_ _)|(with_reducible refine ListAt.src ?_ _ _ _)))) (by omega) (by omega)).mono ?_
  rintro e w' ⟨rfl,n2,rfl⟩
  rw [HA.out]
  go_wp2_with fail
  refine(leaf_any2 s lv zs (p+2) ((p:Int)+1+1) (left-1) (2+aa) _ env4 (LE,p3) _ (by omega) (by omega) (by omega) (by simp;omega) (by simp [go_sem,hs]) (Lib.hid (by(repeat' (first|(with_reducible exact hl.out)|(with_reducible refine ListAt.alloc ?_ _)|(with_reducible refine ListAt.grow ?_ _ _)|(with_reducible refine ListAt.drewN ?_ _)|(with_reducible refine ListAt.src ?_ _ _ _))))) (Lib.hid (env4_at (heap_new _ _ _ (by simp)) (by simp;omega))) (by omega) (by omega) (by omega) HLL).mono ?_
  rintro e w' ⟨v,bs,d,rfl,rfl,hrep⟩
  have HRG:=Lib.hid hrep.rng
  obtain⟨va,vc,hv⟩:=hrep.form
  subst hv
  clear hrep
  dsimp only
  go_wp2_with fail
  refine(next_any s lv zs p3 p3 (left-1-1) _ _ rfl (by simp;omega) (by simp [go_sem,hs]) (by(repeat' (first|(with_reducible exact hl.out)|(with_reducible refine ListAt.alloc ?_ _)|(with_reducible refine ListAt.grow ?_ _ _)|(with_reducible refine ListAt.drewN ?_ _)|(with_reducible refine ListAt.src ?_ _ _ _)))) (by omega) (by omega)).mono ?_
  rintro e w' ⟨rfl,n3,rfl⟩
  rw [HT.out]
  rcases(show tt=0∨tt=1∨tt=2∨tt=3∨4≤tt by omega)with rfl|rfl|rfl|rfl|h4
  ·go_wp2_with fail
   refine(next_any s lv zs (p3+1) (p3+1) (left-1-1) _ _ (by simp) (by simp;omega) (by simp [go_sem,hs]) (by(repeat' (first|(with_reducible exact hl.out)|(with_reducible refine ListAt.alloc ?_ _)|(with_reducible refine ListAt.grow ?_ _ _)|(with_reducible refine ListAt.drewN ?_ _)|(with_reducible refine ListAt.src ?_ _ _ _)))) (by omega) (by omega)).mono ?_
   rintro e w' ⟨rfl,n4,rfl⟩
   generalize nextV zs (p3+1) 24=tv at *
   go_wp2_with fail
   go_returns
   exact WildP.of (p':=p3+1+1) (P':=(p3:Int)+1+1) (E:=.mk tv LE.num LE.den LE.dim LE.name []) (by simp) rfl (.of_below (by(repeat' (first|(with_reducible exact Below.refl _ _)|(with_reducible assumption)|(with_reducible refine Below.grow ?_ ?_ _ _)|(with_reducible refine Below.alloc ?_ ?_ _)|(with_reducible refine Below.drewN ?_ _)|(with_reducible refine Below.drew ?_)|(with_reducible refine Below.src ?_ ?_ _ _ _)|(with_reducible refine Below.setCell ?_ ?_ _)|go_size)))) (leaf_re rfl ⟨⟨by show _≤tv;omega,by show tv≤_;omega⟩,HRG.out.num,HRG.out.den,HRG.out.dim,(by show(0:Nat)≤_;omega),HRG.out.name⟩) (by simp [Ex.size,Ex.sizes];have:=costW_9 n;omega) (by omega) (by have:=costW_9 n;omega) (by have:=costW_9 n;omega) (by omega)
  ·go_wp2_with fail
   refine(next_any s lv zs (p3+1) (p3+1) (left-1-1) _ _ (by simp) (by simp;omega) (by simp [go_sem,hs]) (by(repeat' (first|(with_reducible exact hl.out)|(with_reducible refine ListAt.alloc ?_ _)|(with_reducible refine ListAt.grow ?_ _ _)|(with_reducible refine ListAt.drewN ?_ _)|(with_reducible refine ListAt.src ?_ _ _ _)))) (by omega) (by omega)).mono ?_
   rintro e w' ⟨rfl,n4,rfl⟩
   generalize nextV zs (p3+1) 5=tv at *
   rcases(show tv=0∨tv=1∨tv=2∨tv=3∨tv=4 by omega)with rfl|rfl|rfl|rfl|rfl
   all_goals
    go_wp2_with fail
    go_returns
    exact WildP.of (p':=p3+1+1) (P':=(p3:Int)+1+1) (E:=.mk LE.op LE.num LE.den LE.dim _ []) (by simp) rfl (.of_below (by(repeat' (first|(with_reducible exact Below.refl _ _)|(with_reducible assumption)|(with_reducible refine Below.grow ?_ ?_ _ _)|(with_reducible refine Below.alloc ?_ ?_ _)|(with_reducible refine Below.drewN ?_ _)|(with_reducible refine Below.drew ?_)|(with_reducible refine Below.src ?_ ?_ _ _ _)|(with_reducible refine Below.setCell ?_ ?_ _)|go_size)))) (leaf_re rfl ⟨HRG.out.op,HRG.out.num,HRG.out.den,HRG.out.dim,(by show(0:Nat)≤_;omega),(Nat.le_of_ble_eq_true rfl)⟩) (by simp [Ex.size,Ex.sizes];have:=costW_9 n;omega) (by omega) (by have:=costW_9 n;omega) (by have:=costW_9 n;omega) (by omega)
  ·go_wp2_with fail
   refine(next_any s lv zs (p3+1) (p3+1) (left-1-1) _ _ (by simp) (by simp;omega) (by simp [go_sem,hs]) (by(repeat' (first|(with_reducible exact hl.out)|(with_reducible refine ListAt.alloc ?_ _)|(with_reducible refine ListAt.grow ?_ _ _)|(with_reducible refine ListAt.drewN ?_ _)|(with_reducible refine ListAt.src ?_ _ _ _)))) (by omega) (by omega)).mono ?_
   rintro e w' ⟨rfl,n4,rfl⟩
   generalize nextV zs (p3+1) 6=tv at *
   go_wp2_with fail
   go_returns
   exact WildP.of (p':=p3+1+1) (P':=(p3:Int)+1+1) (E:=.mk LE.op LE.num LE.den tv LE.name []) (by simp) rfl (.of_below (by(repeat' (first|(with_reducible exact Below.refl _ _)|(with_reducible assumption)|(with_reducible refine Below.grow ?_ ?_ _ _)|(with_reducible refine Below.alloc ?_ ?_ _)|(with_reducible refine Below.drewN ?_ _)|(with_reducible refine Below.drew ?_)|(with_reducible refine Below.src ?_ ?_ _ _ _)|(with_reducible refine Below.setCell ?_ ?_ _)|go_size)))) (leaf_re rfl ⟨HRG.out.op,HRG.out.num,HRG.out.den,⟨by show _≤tv;omega,by show tv≤_;omega⟩,(by show(0:Nat)≤_;omega),HRG.out.name⟩) (by simp [Ex.size,Ex.sizes];have:=costW_9 n;omega) (by omega) (by have:=costW_9 n;omega) (by have:=costW_9 n;omega) (by omega)
  ·go_wp2_with fail
   refine(next_any s lv zs (p3+1) (p3+1) (left-1-1) _ _ (by simp) (by simp;omega) (by simp [go_sem,hs]) (by(repeat' (first|(with_reducible exact hl.out)|(with_reducible refine ListAt.alloc ?_ _)|(with_reducible refine ListAt.grow ?_ _ _)|(with_reducible refine ListAt.drewN ?_ _)|(with_reducible refine ListAt.src ?_ _ _ _)))) (by omega) (by omega)).mono ?_
   rintro e w' ⟨rfl,n4,rfl⟩
   generalize nextV zs (p3+1) 50=tv at *
   go_wp2_with fail
   refine(next_any s lv zs (p3+1+1) (p3+1+1) (left-1-1) _ _ (by simp) (by simp;omega) (by simp [go_sem,hs]) (by(repeat' (first|(with_reducible exact hl.out)|(with_reducible refine ListAt.alloc ?_ _)|(with_reducible refine ListAt.grow ?_ _ _)|(with_reducible refine ListAt.drewN ?_ _)|(with_reducible refine ListAt.src ?_ _ _ _)))) (by omega) (by omega)).mono ?_
   rintro e w' ⟨rfl,n5,rfl⟩
   generalize nextV zs (p3+1+1) 30=tw at *
   go_wp2_with fail
   go_returns
   exact WildP.of (p':=p3+1+1+1) (P':=(p3:Int)+1+1+1) (E:=.mk LE.op (tv-20) tw LE.dim LE.name []) (by simp) rfl (.of_below (by(repeat' (first|(with_reducible exact Below.refl _ _)|(with_reducible assumption)|(with_reducible refine Below.grow ?_ ?_ _ _)|(with_reducible refine Below.alloc ?_ ?_ _)|(with_reducible refine Below.drewN ?_ _)|(with_reducible refine Below.drew ?_)|(with_reducible refine Below.src ?_ ?_ _ _ _)|(with_reducible refine Below.setCell ?_ ?_ _)|go_size)))) (leaf_re rfl ⟨HRG.out.op,⟨by show _≤tv-20;omega,by show tv-20≤_;omega⟩,⟨by show _≤tw;omega,by show tw≤_;omega⟩,HRG.out.dim,(by show(0:Nat)≤_;omega),HRG.out.name⟩) (by simp [Ex.size,Ex.sizes];have:=costW_9 n;omega) (by omega) (by have:=costW_9 n;omega) (by have:=costW_9 n;omega) (by omega)
  ·go_wp2_with fail
   go_returns
   exact WildP.of (p':=p3+1) (P':=(p3:Int)+1) (E:=.mk LE.op LE.num LE.den LE.dim LE.name []) (by simp) rfl (.of_below (by(repeat' (first|(with_reducible exact Below.refl _ _)|(with_reducible assumption)|(with_reducible refine Below.grow ?_ ?_ _ _)|(with_reducible refine Below.alloc ?_ ?_ _)|(with_reducible refine Below.drewN ?_ _)|(with_reducible refine Below.drew ?_)|(with_reducible refine Below.src ?_ ?_ _ _ _)|(with_reducible refine Below.setCell ?_ ?_ _)|go_size)))) (leaf_re rfl ⟨HRG.out.op,HRG.out.num,HRG.out.den,HRG.out.dim,(by show(0:Nat)≤_;omega),HRG.out.name⟩) (by simp [Ex.size,Ex.sizes];have:=costW_9 n;omega) (by omega) (by have:=costW_9 n;omega) (by have:=costW_9 n;omega) (by omega)
theorem wild_start(B:World)(k:Nat)(o:Obj)(c:Nat):∃d,((B.drewN k).alloc o).drewN c=(B.alloc o).grow #[] d:=
 ⟨(((B.drewN k).alloc o).drewN c).drawn,World.grow_self (((B.drewN k).alloc o).drewN c)⟩
theorem rng_op{op:Int}(h:0≤op∧op≤100)(l:List Ex)(hl:l.length≤100):ExRng (.mk op 0 0 0 ByteArray.empty l):=.lit _ _ _ (by omega) (by omega) (by omega) _ h _ (Nat.zero_le _) _ (by omega)
theorem wild_node(s:Nat)(lv:Value)(zs:List Int)(n:Nat)(IH:Hid (WildOK s lv zs n))(hn:n+1≤8)(p:Nat)(left deep:Int)(X:World)(hdeep:Hid (deep=9-((n+1:Nat):Int)))(hs:s<X.heap.size)(hl:Hid (ListAt X s lv zs))(hp:p+costW (n+1)≤900000)(hleft:-900000≤left-costW (n+1))(hleft2:left≤900000)
 (kk:Int) (hk:Hid (nextV zs p 10=kk)) (h6:kk<6) (h0:0<left-1) :
 Calls Tryz.prog 63 #[.pointer (some ⟨s,0,none⟩),.int .i64 deep] (X.src s lv p left) (WildP s lv X p left (n+1)):=by
 obtain⟨i0,hi,hz0,hz1,hz2⟩:=info_parts infoExpr
 have hcW:costW (n+1)=4*costW n+5:=rfl
 have hc9:=costW_9 n
 rw [hcW]at hp hleft
 have hd9:deep<9:=by have:=hdeep.out;omega
 have hd1:1≤deep:=by have:=hdeep.out;omega
 have ho:=nextV_bd zs (p+1) 18 (by omega)
 generalize hO:nextV zs (p+1) 18=o at ho
 have HO:=Lib.hid hO
 obtain⟨op,hop⟩:∃op,4+o=op:=⟨_,rfl⟩
 have hopb:4≤op∧op≤21:=by omega
 have HAR:Hid (1≤argsN op∧argsN op≤3):=Lib.hid (by
  unfold argsN
  (repeat' split)<;>omega)
 have HCW:=Lib.hid hcW
 clear hO hcW
 obtain⟨ar,har⟩:∃ar,argsN op=ar:=⟨_,rfl⟩
 have harb:1≤ar∧ar≤3:=by rw [←har];exact HAR.out
 have HARE:=Lib.hid har
 clear har HAR
 generalize hT2:nextV zs (p+1+1) 30=tt
 have HT:=Lib.hid hT2
 clear hT2
 have HDP:Hid (deep+1=9-(n:Int)):=Lib.hid (by have:=hdeep.out;omega)
 obtain⟨c,hcs⟩:∃c:Nat,((tt==29)=true∧ar+1=(c:Int))∨((tt==29)=false∧ar=(c:Int)):=by
  by_cases ht:tt=29
  ·exact⟨(ar+1).toNat,.inl ⟨by simp [ht],by omega⟩⟩
  ·exact⟨ar.toNat,.inr ⟨by simpa using ht,by omega⟩⟩
 have hc4:c≤4:=by rcases hcs with h|h<;>omega
 rcases hcs with ⟨hq,hcc⟩|⟨hq,hcc⟩
 all_goals
  (try subst hcc)
  go_enter Tryz.func63,Tryz.ntmps63
  go_wp2_with fail
  refine(next_any s lv zs p p (left-1) _ _ rfl (by simp;omega) (by simp [go_sem,hs]) (by(repeat' (first|(with_reducible exact hl.out)|(with_reducible refine ListAt.alloc ?_ _)|(with_reducible refine ListAt.grow ?_ _ _)|(with_reducible refine ListAt.drewN ?_ _)|(with_reducible refine ListAt.src ?_ _ _ _)))) (by omega) (by omega)).mono ?_
  rintro e w' ⟨rfl,n1,rfl⟩
  rw [hk.out]
  go_wp2_with fail
  refine(next_any s lv zs (p+1) (p+1) (left-1) _ _ (by simp) (by simp;omega) (by simp [go_sem,hs]) (by(repeat' (first|(with_reducible exact hl.out)|(with_reducible refine ListAt.alloc ?_ _)|(with_reducible refine ListAt.grow ?_ _ _)|(with_reducible refine ListAt.drewN ?_ _)|(with_reducible refine ListAt.src ?_ _ _ _)))) (by omega) (by omega)).mono ?_
  rintro e w' ⟨rfl,n2,rfl⟩
  rw [HO.out]
  go_wp2_with (go_at_call 104;refine(Args_any _ _).mono ?_;rintro e w' ⟨rfl,rfl⟩;rw [HARE.out])
  refine(next_any s lv zs (p+1+1) (p+1+1) (left-1) _ _ (by simp) (by simp;omega) (by simp [go_sem,hs]) (by(repeat' (first|(with_reducible exact hl.out)|(with_reducible refine ListAt.alloc ?_ _)|(with_reducible refine ListAt.grow ?_ _ _)|(with_reducible refine ListAt.drewN ?_ _)|(with_reducible refine ListAt.src ?_ _ _ _)))) (by omega) (by omega)).mono ?_
  rintro e w' ⟨rfl,n3,rfl⟩
  rw [HT.out]
  go_wp2_with fail
  go_loopw [9,10] (fun v9 _ wr=>∃(k:Nat) (l:List (Ex × Value)) (pk:Nat) (lk:Int) (va:Value) (bs:Array Obj) (d:Nat),k≤c∧v9= .int .i64 k∧Hid (l.length=k)∧Hid (Ex.sizes (l.map (·.1))≤k*costW n)∧(p+3≤pk∧pk≤p+3+k*costW n∧left-1-(k*costW n:Nat)≤lk∧lk≤left-1)∧
   wr=(((X.src s lv pk lk).alloc ((.cells #[.int .i64 0,.int .i64 0,.int .i64 0,.int .i64 0,.string ⟨#[]⟩,.slice none 0 0] 51))).alloc ((.cells #[.int .i64 op,.int .i64 0,.int .i64 0,.int .i64 0,.string ⟨#[]⟩,va] 51))).grow bs d∧RowE (X.heap.size+2) wr va l) (fun v9 _ _=>c-(intOf v9).toNat)
  case atStart=>
   obtain⟨d0,hd0⟩:=wild_start ((X.src s lv ((p:Int)+1+1+1) (left-1)).alloc ((.cells #[.int .i64 0,.int .i64 0,.int .i64 0,.int .i64 0,.string ⟨#[]⟩,.slice none 0 0] 51))) (n1+n2) (.cells #[.int .i64 op,.int .i64 0,.int .i64 0,.int .i64 0,.string ⟨#[]⟩,.slice none 0 0] 51) n3
   rw [hd0]
   exact⟨0,[],p+1+1+1,left-1,.slice none 0 0,#[],d0,by omega,rfl,Lib.hid rfl,Lib.hid (by simp [Ex.sizes]),⟨by omega,by omega,by omega,by omega⟩,by rw [show((p+1+1+1:Nat):Int)=(p:Int)+1+1+1 by simp],.nil _ _⟩
  case round=>
   obtain⟨k,l,pk,lk,va,bs,d,hk',rfl,HLL,HSZ,⟨b1,b2,b3,b4⟩,rfl,hrow⟩:=hrel
   have HROW:=Lib.hid hrow
   have HVB:=Lib.hid hrow.lt
   have hkm:k*costW n≤4*costW n:=Nat.mul_le_mul_right _ (by omega)
   by_cases hlt:k<c
   ·have hkw:(k+1)*costW n=k*costW n+costW n:=by rw [Nat.add_mul,Nat.one_mul]
    have hkm2:(k+1)*costW n≤4*costW n:=Nat.mul_le_mul_right _ (by omega)
    have hlt1:(k:Int)<(c:Int):=by omega
    have q1:pk+costW n≤900000:=by omega
    have q2:-900000≤lk-costW n:=by omega
    have q3:lk≤900000:=by omega
    have HB:=Lib.hid (show p+3≤pk∧pk≤p+3+k*costW n∧left-1-(k*costW n:Nat)≤lk∧lk≤left-1∧(k+1)*costW n=k*costW n+costW n from⟨b1,b2,b3,b4,hkw⟩)
    clear hrow hkw hkm hkm2 b1 b2 b3 b4
    go_wp2_with fail
    refine(IH.out pk pk lk _ _ rfl HDP.out (by simp;omega) (by simp [go_sem,hs]) (Lib.hid (by(repeat' (first|(with_reducible exact hl.out)|(with_reducible refine ListAt.alloc ?_ _)|(with_reducible refine ListAt.grow ?_ _ _)|(with_reducible refine ListAt.drewN ?_ _)|(with_reducible refine ListAt.src ?_ _ _ _))))) q1 q2 q3).mono ?_
    rintro e' w' ⟨E,ve,bs2,d2,p',l',rfl,rfl,hrep,hsz,g1,g2,g3,g4⟩
    have H1:=Lib.hid (hrep.eqw (w':=(((X.src s lv (p':Int) l').alloc ((.cells #[.int .i64 0,.int .i64 0,.int .i64 0,.int .i64 0,.string ⟨#[]⟩,.slice none 0 0] 51))).alloc ((.cells #[.int .i64 op,.int .i64 0,.int .i64 0,.int .i64 0,.string ⟨#[]⟩,va] 51))).grow (bs++bs2) d2) (by simp [go_sem,hs]))
    have HV1:=Lib.hid (hrep.one)
    obtain⟨ea,ec,rfl⟩:=hrep.form0
    have HG:=Lib.hid (show E.size≤costW n∧pk≤p'∧p'≤pk+costW n∧lk-costW n≤l'∧l'≤lk from⟨hsz,g1,g2,g3,g4⟩)
    clear hrep hsz g1 g2 g3 g4 q1 q2 q3
    have HROW1:=Lib.hid (HROW.out.lift (A':=((X.src s lv (p':Int) l').alloc ((.cells #[.int .i64 0,.int .i64 0,.int .i64 0,.int .i64 0,.string ⟨#[]⟩,.slice none 0 0] 51))).alloc ((.cells #[.int .i64 op,.int .i64 0,.int .i64 0,.int .i64 0,.string ⟨#[]⟩,va] 51))) (by simp) (by simp) bs2 d2)
    clear HROW
    go_wp2_with (at_builtin;refine wpList_append_lies _ rfl _ _ 49 rfl (X.heap.size+2) 51 i0 _ 6 72 Tryz.underlying49 hi hz0 hz1 hz2 rfl (by decide) _ _ _ rfl (HROW1.out.alloc _).own ⟨X.heap.size+2+(bs.size+bs2.size),0,none⟩ 1 1 (cells1 E (.slice ea E.args.length ec)) rfl rfl ?c1 ?c2 (by decide) ?c3 ?c4 ?c5 (X.heap.size+2+(bs.size+bs2.size)+1) (by simp) ?_)
    case c1=>exact news_cells _ (cells1 E (.slice ea E.args.length ec)) _ _ (by simp)
    case c2=>exact cells1_one _ _ rfl
    case c3=>have:=HLL.out;unfold maxLen;omega
    case c4=>have:=HLL.out;omega
    case c5=>simp;omega
    intro g cap w1 hown' hgrow hat hlt'
    have R1:=RowE.push (HROW1.out.alloc _) (((H1.out.mono (S':=fun b=>X.heap.size+2+bs.size≤b) (fun b hb=>by simpa [Nat.add_assoc]using hb)).alloc _)) (by omega) (fun j hj=>by have:=(HVB.out j hj).2;simpa using this) (by rw [HLL.out]) rfl hown' hgrow hat (by simp)
    have G1:=World.Grows.of_below (w:=((X.src s lv (p':Int) l').alloc ((.cells #[.int .i64 0,.int .i64 0,.int .i64 0,.int .i64 0,.string ⟨#[]⟩,.slice none 0 0] 51))).alloc ((.cells #[.int .i64 op,.int .i64 0,.int .i64 0,.int .i64 0,.string ⟨#[]⟩,va] 51))) ((((Below.refl _ _).grow (Nat.le_refl _) _ _).alloc (by simp) _).grown hgrow (by simp;omega) (fun j hj=>by have:=(HROW1.out.lt j hj).1;simpa using this))
    clear hown' hgrow hat hlt' HVB HROW1 H1 HV1
    obtain⟨bs3,d3,rfl⟩:=G1
    have R2:=Lib.hid R1
    clear R1
    go_wp2_with fail
    go_roundw
    case rel=>exact⟨k+1,l++[(E,.slice ea E.args.length ec)],p',l',_,bs3,d3,by omega,by go_num,Lib.hid (by have:=HLL.out;simp;omega),Lib.hid (by
     have h1:=HSZ.out
     have h2:=HG.out.1
     have h3:=HB.out.2.2.2.2
     rw [List.map_append,Ex.sizes_append]
     simp only [List.map_cons,List.map_nil,Ex.sizes]
     omega),⟨by have:=HG.out;have:=HB.out;omega,by have:=HG.out;have:=HB.out;omega,by have:=HG.out;have:=HB.out;omega,by have:=HG.out;have:=HB.out;omega⟩,rfl,R2.out.lift0 (by simp) (by simp) d3⟩
    case measure=>simp [intOf];omega
   ·obtain rfl:k=c:=by omega
    obtain⟨aa,acap,rfl⟩:∃a c',va= .slice a l.length c':=hrow.form
    have HB:=Lib.hid (show p+3≤pk∧pk≤p+3+k*costW n∧left-1-(k*costW n:Nat)≤lk∧lk≤left-1∧k*costW n≤4*costW n from⟨b1,b2,b3,b4,hkm⟩)
    clear hrow hkm b1 b2 b3 b4
    go_wp2_with fail
    go_returns
    have R3:=(HROW.out.lift0 (A':=((X.src s lv (pk:Int) lk).alloc (.cells #[.int .i64 op,.int .i64 0,.int .i64 0,.int .i64 0,.string ⟨#[]⟩,.slice aa l.length acap] 51)).alloc (.cells #[.int .i64 op,.int .i64 0,.int .i64 0,.int .i64 0,.string ⟨#[]⟩,.slice aa l.length acap] 51)) (by simp) (by simp) d).repE (e:=.mk op 0 0 0 ByteArray.empty (l.map (·.1))) (rng_op (by omega) _ (by rw [List.length_map];have:=HLL.out;omega)) rfl
    exact WildP.of (p':=pk) (P':=(pk:Int)) (l':=lk) rfl rfl (.of_below (by(repeat' (first|(with_reducible exact Below.refl _ _)|(with_reducible assumption)|(with_reducible refine Below.grow ?_ ?_ _ _)|(with_reducible refine Below.alloc ?_ ?_ _)|(with_reducible refine Below.drewN ?_ _)|(with_reducible refine Below.drew ?_)|(with_reducible refine Below.src ?_ ?_ _ _ _)|(with_reducible refine Below.setCell ?_ ?_ _)|go_size)))) (R3.mono fun b hb=>by show X.heap.size≤b;omega) (by
     show Ex.size _≤_
     simp only [Ex.size]
     have h1:=HSZ.out
     have h2:=HB.out.2.2.2.2
     rw [HCW.out];omega) (by have:=HB.out;omega) (by have:=HB.out;rw [HCW.out];omega) (by have:=HB.out;rw [HCW.out];omega) (by have:=HB.out;omega)
theorem wild_ok(s:Nat)(lv:Value)(zs:List Int)(n:Nat)(hn:n≤8):WildOK s lv zs n:=by
 induction n with
 |zero=>
  intro p P left deep X hP hd hs hX hl b1 b2 b3
  subst hP
  have hb:=nextV_bd zs p 10 (by omega)
  have hc:costW 0=9:=rfl
  rw [hc]at b1 b2
  have:=wild_leaf s lv zs 0 (by omega) p left deep X (Lib.hid hd) hs hl b1 b2 b3 _ (Lib.hid rfl) hb (.inr (.inl (by omega)))
  rwa [hX]at this
 |succ n ih=>
  intro p P left deep X hP hd hs hX hl b1 b2 b3
  subst hP
  have hb:=nextV_bd zs p 10 (by omega)
  have hc:=costW_9 (n+1)
  by_cases h:nextV zs p 10<6∧0<left-1
  ·have:=wild_node s lv zs n (Lib.hid (ih (by omega))) (by omega) p left deep X (Lib.hid hd) hs hl b1 b2 b3 _ (Lib.hid rfl) h.1 h.2
   rwa [hX]at this
  ·have:=wild_leaf s lv zs (n+1) (by omega) p left deep X (Lib.hid hd) hs hl (by omega) (by omega) b3 _ (Lib.hid rfl) hb (by omega)
   rwa [hX]at this
def WildR(w:World)(e:Ending)(w':World):Prop:=∃(E:Ex) (v:Value),e= .returned (exV E v)∧w.Grows w'∧RepE (fun b=>w.heap.size≤b) w' E v∧E.size≤1000000
theorem Wild_any(lv:Value)(zs:List Int)(w:World)(hl0:ListAt w w.heap.size lv zs):Calls Tryz.prog 26 #[lv] w (WildR w):=by
 have hl:=Lib.hid (hl0.other (s':=w.heap.size+1) (by omega))
 have hlf:=hl0
 obtain⟨-,la,lc,hlv,-⟩:=hlf
 subst hlv
 clear hl0
 have hc8:costW 8=699049:=by decide+kernel
 have HC8:=Lib.hid hc8
 clear hc8
 go_enter Tryz.func26,Tryz.ntmps26
 go_wp2_with fail
 refine(wild_ok (w.heap.size+1) _ zs 8 (by omega) 0 0 30 1 _ rfl rfl (by simp) (src_new' _ _ _ _ _ (by simp)) (Lib.hid (by(repeat' (first|(with_reducible exact hl.out)|(with_reducible refine ListAt.alloc ?_ _)|(with_reducible refine ListAt.grow ?_ _ _)|(with_reducible refine ListAt.drewN ?_ _)|(with_reducible refine ListAt.src ?_ _ _ _))))) (by rw [HC8.out];omega) (by rw [HC8.out];omega) (by omega)).mono ?_
 rintro e' w' ⟨E,v,bs,d,p',l',rfl,rfl,hrep,hsz,-,-,-,-⟩
 obtain⟨va,vc,hv⟩:=hrep.form
 subst hv
 have H1:Hid (RepE (fun b=>w.heap.size+2≤b) _ E (.slice va E.args.length vc)):=Lib.hid (hrep.mono fun b hb=>by simpa using hb)
 have HSZ:=Lib.hid hsz
 clear hrep hsz
 go_wp2_with fail
 go_returns
 refine⟨E,_,rfl,.of_below (by(repeat' (first|(with_reducible exact Below.refl _ _)|(with_reducible assumption)|(with_reducible refine Below.grow ?_ ?_ _ _)|(with_reducible refine Below.alloc ?_ ?_ _)|(with_reducible refine Below.drewN ?_ _)|(with_reducible refine Below.drew ?_)|(with_reducible refine Below.src ?_ ?_ _ _ _)|(with_reducible refine Below.setCell ?_ ?_ _)|go_size))), ?_,by have:=HSZ.out;have:=HC8.out;omega⟩
 refine(H1.out.lift0 ?_ ?_ d).mono ?_
 all_goals first
  |(intro b hb;simp at hb;omega)
  |(intro b hb;omega)
  |(simp;done)
  |(simp;omega)
end Go.Proofs.YtlheailebbngiaaGreatDoor
namespace Go.Proofs.YtlheailebbngiaaGreatDoor
def EnvG(env:List (ByteArray × Int)):Prop:=∀p∈env,inpD p.1.toList=0∧nameB p.1=true∧1≤p.2∧p.2≤4∧lastN env p.1=some p.2
theorem EnvG.nil:EnvG []:=fun p hp=>by cases hp
theorem mkD_dvd{n d:Int}(h2:1≤d)(he:mkE n d=0):mkD n d ∣ d:=by
 unfold mkE lowE at he
 unfold mkD lowD
 rw [if_neg (by omega)]at he ⊢
 split at he<;>rename_i hc
 ·simp at he
 rw [if_neg hc]
 obtain⟨b,rfl⟩:=Int.eq_ofNat_of_zero_le (show 0≤d by omega)
 rw [Int.natAbs_natCast]
 exact Int.natCast_dvd_natCast.2 (Nat.div_dvd_of_dvd (Nat.gcd_dvd_right _ _))
theorem mkN_le{n d:Int}(h1:0≤n)(h2:1≤d):mkN n d≤n:=by
 unfold mkN lowN
 rw [if_neg (by omega),decide_eq_false (by omega),decide_eq_false (by omega)]
 split
 ·omega
 ·have:=Nat.div_le_self n.natAbs (Nat.gcd n.natAbs d.natAbs)
  simp only [bne_self_eq_false,Bool.false_eq_true,if_false]
  omega
theorem lit_ok{n d m:Int}(h1:0≤n)(h2:n≤1000000)(h3:1≤d)(h4:d ∣ 10000)(h5:2≤m∧m≤4):decOk (mkN n d) (mkD n d) m=true:=by
 have hd:d≤10000:=Int.le_of_dvd (by omega) h4
 have he:=mkE_small h1 (by omega) h3 (by omega)
 have hv:=mk_vfrac (show d≠0 by omega) he
 have hb:=vfrac_bd hv
 have hn:=mkN_nonneg h1 h3
 have hl:=mkN_le h1 h3
 have hdv:mkD n d ∣ 10000:=Int.dvd_trans (mkD_dvd h3 he) h4
 have hq:mkN n d / mkD n d≤mkN n d:=Int.ediv_le_self _ hn
 unfold decOk
 rw [hv,decide_eq_true hn,decide_eq_true (Int.emod_eq_zero_of_dvd hdv),decide_eq_true h5.1,decide_eq_true h5.2,decide_eq_true (by omega)]
 rfl
theorem num_ok(zs:List Int)(p:Nat){m:Int}(h5:2≤m∧m≤4):decOk (numN zs p) (numD zs p) m=true:=by
 have h1:=nextV_bd zs p 4000 (by omega)
 have h2:=nextV_bd zs (p+1) 7 (by omega)
 unfold numN numD
 refine lit_ok h1.1 (by omega) ?_ ?_ h5
 all_goals
  generalize nextV zs (p+1) 7=i at *
  rcases(show i=0∨i=1∨i=2∨i=3∨i=4∨i=5∨i=6 by omega)with rfl|rfl|rfl|rfl|rfl|rfl|rfl<;>decide
def TypedE(env:List (ByteArray × Int))(dim:Int)(e:Ex):Prop:=formedB e=true∧inferF env e=(dim,0)
def TypedL(env:List (ByteArray × Int))(ds:List Int)(l:List Ex):Prop:=formedsB l=true∧infersF env l=(ds,0)∧l.length=ds.length
theorem TypedL.nil(env:List (ByteArray × Int)):TypedL env [] []:=⟨rfl,rfl,rfl⟩
theorem TypedL.cons{env:List (ByteArray × Int)}{d:Int}{ds:List Int}{e:Ex}{l:List Ex}(h:TypedE env d e)(g:TypedL env ds l):TypedL env (d::ds) (e::l):=by
 refine⟨by rw [formedsB,h.1,g.1];rfl, ?_,by simp [g.2.2]⟩
 rw [infersF,h.2,g.2.1];simp
def valP(n dim:Int):Val:=if dim=1 then⟨1,decide (n.tmod 2=0),0,0⟩else⟨dim,false,mkN (n.tmod 100000) (1+pick (n.tdiv 7) 12),mkD (n.tmod 100000) (1+pick (n.tdiv 7) 12)⟩
def stepD(z:Int):Int:=1+pick (z.tdiv 2) 4
def nmS(i:Nat):ByteArray:=if i=0 then⟨#[97]⟩else if i=1 then⟨#[98]⟩else if i=2 then⟨#[99]⟩else⟨#[100]⟩
def stepP(zs:List Int)(i:Nat):ByteArray × Val:=(nmS i,valP (zs.getD i 0) (stepD (zs.getD i 0)))
def stepsP(zs:List Int):List (ByteArray × Val):=(List.range (min zs.length 4)).map (stepP zs)
theorem mkE_any{n d:Int}(h1:-1000000000000000≤n)(h2:n≤1000000000000000)(h3:1≤d)(h4:d≤1000000000):mkE n d=0:=by
 exact lz47
theorem stepD_bd(z:Int):1≤stepD z∧stepD z≤4:=by
 have:=pick_bd (z.tdiv 2) 4 (by omega)
 unfold stepD;omega
theorem tmodH_bd(n:Int):-100000<n.tmod 100000∧n.tmod 100000<100000:=by
 have h:=Int.tmod_lt_of_pos n (show(0:Int)<100000 by omega)
 have h2:=Int.tmod_lt_of_pos (-n) (show(0:Int)<100000 by omega)
 rw [Int.neg_tmod]at h2
 omega
theorem valP_ok(n:Int){dim:Int}(h:1≤dim∧dim≤4):(valP n dim).ok=true:=by
 unfold valP
 split<;>rename_i hd
 ·rfl
 ·have b:=tmodH_bd n
  have p:=pick_bd (n.tdiv 7) 12 (by omega)
  exact Val.num_ok (by omega) (mk_vfrac (by omega) (mkE_any (by omega) (by omega) (by omega) (by omega)))
theorem stepsP_ok(zs:List Int):∀p∈stepsP zs,p.2.ok=true:=by
 intro p hp
 obtain⟨i,-,rfl⟩:=List.mem_map.1 hp
 exact valP_ok _ (stepD_bd _)
theorem stepsP_len(zs:List Int):(stepsP zs).length=min zs.length 4:=by
 unfold stepsP;rw [List.length_map,List.length_range]
theorem valP_dim(n:Int){dim:Int}:(valP n dim).dim=dim:=by
 unfold valP
 split
 ·rename_i h;exact h.symm
 ·rfl
theorem stepsP_dims(zs:List Int):dimsOf (stepsP zs)=(List.range (min zs.length 4)).map fun i=>(nmS i,stepD (zs.getD i 0)):=by
 unfold dimsOf stepsP
 rw [List.map_map]
 refine List.map_congr_left fun i _=>?_
 show((stepP zs i).1,(stepP zs i).2.dim)=_
 unfold stepP
 rw [valP_dim]
end Go.Proofs.YtlheailebbngiaaGreatDoor
namespace Go.Proofs.YtlheailebbngiaaGreatDoor
open Go.RowKit
theorem tdiv_i64{n k:Int}(hn:I64 n)(hk:2≤k):-9223372036854775808≤n.tdiv k∧n.tdiv k≤9223372036854775807:=by
 obtain⟨h1,h2⟩:=hn
 by_cases h:0≤n
 ·rw [Int.tdiv_eq_ediv_of_nonneg h]
  have:=Int.ediv_le_self k h
  have:=Int.ediv_nonneg h (show 0≤k by omega)
  omega
 ·have e:n.tdiv k= -((-n) / k):=by
   rw [←Int.tdiv_eq_ediv_of_nonneg (show 0≤-n by omega),Int.neg_tdiv,Int.neg_neg]
  have h3:(-n) / k*k≤-n:=Int.ediv_mul_le _ (by omega)
  have h4:0≤(-n) / k:=Int.ediv_nonneg (by omega) (by omega)
  have h5:(-n) / k*2≤(-n) / k*k:=Int.mul_le_mul_of_nonneg_left hk h4
  omega
def valA(n dim:Int):Value:=.agg #[.int .i64 dim,.bool (valP n dim).yes,.int .i64 (valP n dim).n,.int .i64 (valP n dim).d]
theorem value_any(n dim:Int)(w:World)(hn:I64 n):Calls Tryz.prog 62 #[.int .i64 n,.int .i64 dim] w fun e w'=>e= .returned (valA n dim)∧w.Grows w':=by
 obtain⟨hn1,hn2⟩:=hn
 by_cases hd:dim=1
 ·subst hd
  by_cases hm:n.tmod 2=0
  ·have HV:Hid (valA n 1= .agg #[.int .i64 1,.bool true,.int .i64 0,.int .i64 0]):=Lib.hid (by unfold valA valP;simp [hm])
   rw [HV.out]
   have hb:(n.tmod 2==0)=true:=by simpa using hm
   go_enter Tryz.func62,Tryz.ntmps62
   exact lz28
  ·have HV:Hid (valA n 1= .agg #[.int .i64 1,.bool false,.int .i64 0,.int .i64 0]):=Lib.hid (by unfold valA valP;simp [hm])
   rw [HV.out]
   have hb:(n.tmod 2==0)=false:=by simpa using hm
   go_enter Tryz.func62,Tryz.ntmps62
   exact lz28
 ·have hb:(dim==1)=false:=by simpa using hd
  have HV:Hid (valA n dim= .agg #[.int .i64 dim,.bool false,.int .i64 (mkN (n.tmod 100000) (1+pick (n.tdiv 7) 12)),.int .i64 (mkD (n.tmod 100000) (1+pick (n.tdiv 7) 12))]):=Lib.hid (by unfold valA valP;simp [hd])
  rw [HV.out]
  have hp:=pick_bd (n.tdiv 7) 12 (by omega)
  have ht:=tmodH_bd n
  have h7:=tdiv_i64 (n:=n) ⟨hn1,hn2⟩ (show(2:Int)≤7 by omega)
  have hw:IntKind.i64.wrap (n.tdiv 7)=n.tdiv 7:=IntWalk.i64_in _ (by omega)
  clear h7
  clear hd
  go_enter Tryz.func62,Tryz.ntmps62
  go_wp2_with (first
   |(go_at_call 15;refine(Pick_any _ _ _ (by omega)).mono ?_;rintro e' w' ⟨rfl,rfl⟩)
   |(go_at_call 46;refine(MakeFraction_any _ _ _ (by omega) (by omega) (by omega) (by omega)).mono ?_;rintro e' w' ⟨rfl,bs,d,rfl⟩))
  exact lz10
def stpL(l:List (ByteArray × Val)):List Value:=l.flatMap fun p=>[.string p.1,.int .i64 p.2.dim,.bool p.2.yes,.int .i64 p.2.n,.int .i64 p.2.d]
theorem stpL_len(l:List (ByteArray × Val)):(stpL l).length=l.length*5:=by
 induction l with
 |nil=>rfl
 |cons p r ih=>unfold stpL at *;rw [List.flatMap_cons,List.length_append,ih];simp;omega
theorem stpL_get(l:List (ByteArray × Val)):∀i,i<l.length→(stpL l)[i*5]? =some (.string (stN l i))∧(stpL l)[i*5+1]? =some (.int .i64 (stV l i).dim)∧(stpL l)[i*5+2]? =some (.bool (stV l i).yes)∧(stpL l)[i*5+3]? =some (.int .i64 (stV l i).n)∧(stpL l)[i*5+4]? =some (.int .i64 (stV l i).d):=by
 induction l with
 |nil=>intro i hi;simp at hi
 |cons p r ih=>
  intro i hi
  cases i with
  |zero=>exact⟨rfl,rfl,rfl,rfl,rfl⟩
  |succ i=>
   have h:=ih i (by simpa using hi)
   have e:∀j,(stpL (p::r))[(i+1)*5+j]? =(stpL r)[i*5+j]?:=fun j=>by
    rw [show(i+1)*5+j=i*5+j+5 by omega]
    rfl
   have e0:=e 0
   rw [Nat.add_zero,Nat.add_zero]at e0
   rw [e0,e 1,e 2,e 3,e 4]
   exact h
theorem stpL_snoc(l:List (ByteArray × Val))(p:ByteArray × Val):stpL (l++[p])=stpL l++[.string p.1,.int .i64 p.2.dim,.bool p.2.yes,.int .i64 p.2.n,.int .i64 p.2.d]:=by
 unfold stpL;simp
theorem StpAt.of_own{w:World}{base:Nat}{v:Value}{l:List (ByteArray × Val)}(h:w.ownsRow base 68 5 v l.length (stpL l))(hl:l.length≤1000):StpAt w v l:=by
 obtain⟨-,⟨rfl,h0⟩|⟨g,cap,cur,rfl,hb,hg,h2,h3,h4,h5⟩⟩:=id h
 ·exact⟨by omega,none,0,by rw [h0],.inl h0⟩
 ·refine⟨by omega,_,cap,rfl,.inr ⟨g,0,rfl,(Array.getElem?_eq_some_iff.1 hg).1,fun i hi=>?_⟩⟩
  obtain⟨g0,g1,g2,g3,g4⟩:=stpL_get l i hi
  have hL:=stpL_len l
  rw [Nat.zero_add]
  exact⟨(h.cellAt (i*5) (by omega)).trans g0,(h.cellAt (i*5+1) (by omega)).trans g1,(h.cellAt (i*5+2) (by omega)).trans g2,(h.cellAt (i*5+3) (by omega)).trans g3,(h.cellAt (i*5+4) (by omega)).trans g4⟩
theorem stepsP_take(zs:List Int)(k:Nat)(h1:k<zs.length)(h4:k<4):(stepsP zs).take (k+1)=(stepsP zs).take k++[(nmS k,valP (zs.getD k 0) (stepD (zs.getD k 0)))]:=by
 have hk:k<(stepsP zs).length:=by rw [stepsP_len];omega
 have e:(stepsP zs)[k]=stepP zs k:=by simp [stepsP]
 rw [List.take_succ_eq_append_getElem hk,e];rfl
theorem infoS:(Tryz.prog.info? 68).map (fun i=>(i.zero,i.size,i.bytes))=some (some (.agg #[.string ⟨#[]⟩,.int .i64 0,.bool false,.int .i64 0,.int .i64 0]),5,48):=by kernel_rfl
theorem arr_cell(w:World)(k:Nat)(hk:k<4):(w.alloc ((.cells #[.string ⟨#[97]⟩,.string ⟨#[98]⟩,.string ⟨#[99]⟩,.string ⟨#[100]⟩] 9))).drew.cell? ⟨w.heap.size,k,none⟩=some (.string (nmS k)):=by
 show(w.alloc _).cell? _=_
 rw [World.cell?_alloc_at _ _ _ _ rfl]
 rcases(show k=0∨k=1∨k=2∨k=3 by omega)with rfl|rfl|rfl|rfl<;>rfl
def StpP(l:List (ByteArray × Val))(w:World)(e:Ending)(w':World):Prop:=∃v,e= .returned v∧w.Grows w'∧StpAt w' v l
def BndP(l:List (ByteArray × Int))(w:World)(e:Ending)(w':World):Prop:=∃v,e= .returned v∧w.Grows w'∧BindAt w' v l
theorem steps8_any(zs:List Int)(v:Value)(w:World)(h:IntsAt w v zs):Calls Tryz.prog 25 #[v] w (StpP (stepsP zs) w):=by
 obtain⟨i0,hi,hz0,hz1,hz2⟩:=info_parts infoS
 obtain⟨hlen,h64,a,cap,rfl,hcs⟩:=h
 have HCS:=Lib.hid hcs
 have H64:=Lib.hid h64
 clear hcs h64
 go_enter Tryz.func25,Tryz.ntmps25
 go_wp2_with fail
 go_loopw [3,4] (fun v3 v4 wr=>∃(k:Nat) (vb:Value),vb=v3∧k≤zs.length∧k≤4∧v4= .int .i64 k∧Below w.heap.size w wr∧wr.ownsRow w.heap.size 68 5 vb k (stpL ((stepsP zs).take k))) (fun _ v4 _=>4-(intOf v4).toNat)
 case atStart=>exact⟨0,_,rfl,by omega,by omega,rfl,.refl _ _,World.ownsRow_nil _ _ _ _⟩
 case round=>
  obtain⟨k,vb,rfl,hk,hk4,rfl,hB,hown⟩:=hrel
  have HB:=Lib.hid hB
  have HO:=Lib.hid hown
  have hsW:=hB.size
  by_cases hlt:k<zs.length∧k<4
  ·rcases HCS.out with h0|⟨b,off,rfl,hbw,hx⟩
   ·omega
   have x0:wr.cell? ⟨b,off+k,none⟩=some (.int .i64 (zs.getD k 0)):=(hB.cell (p:=⟨b,off+k,none⟩) hbw).trans (hx k hlt.1)
   have hbr:b<wr.heap.size:=by omega
   have d1:(k:Int)<(zs.length:Int):=by omega
   have d4:(k:Int)<4:=by omega
   have HNX:=Lib.hid (stepsP_take zs k hlt.1 hlt.2)
   have HKL:=Lib.hid hlt
   have hz64:I64 (zs.getD k 0):=H64.out _ (by
    rw [List.getD_eq_getElem?_getD,List.getElem?_eq_getElem hlt.1];exact List.getElem_mem _)
   clear hx hB hown
   generalize zs.getD k 0=z at *
   have HVA:=Lib.hid (fun wS=>value_any z (stepD z) wS hz64)
   unfold valA at HVA
   have HVP:Hid (stpL [(nmS k,valP z (stepD z))]= [.string (nmS k),.int .i64 (stepD z),.bool (valP z (stepD z)).yes,.int .i64 (valP z (stepD z)).n,.int .i64 (valP z (stepD z)).d]):=Lib.hid (by unfold stpL;simp [valP_dim])
   have hs:1+pick (z.tdiv 2) 4=stepD z:=rfl
   have hsb:=stepD_bd z
   have hw1:IntKind.i64.wrap (z.tdiv 2)=z.tdiv 2:=IntWalk.i64_in _ (by have:=tdiv_i64 hz64 (show(2:Int)≤2 by omega);omega)
   have hw2:IntKind.i64.wrap (1+pick (z.tdiv 2) 4)=1+pick (z.tdiv 2) 4:=IntWalk.i64_in _ (by rw [hs];omega)
   have hw3:IntKind.i64.wrap (stepD z)=stepD z:=IntWalk.i64_in _ (by omega)
   clear hz64
   go_wp2_with fail
   refine TS.begin [19,20] (World.Grows _) (by kernel_rfl) (by kernel_rfl) grows_drew0 (fun hS=>?_)
   refine TS.wkB 0 hS ?_
   refine TS.wkB 2 hS ?_
   refine TS.wkB 5 hS ?_
   refine TS.wkB 6 hS ?_
   refine TS.wkB 7 hS ?_
   refine TS.wkB 8 hS ?_
   refine TS.wkB 9 hS ?_
   refine TS.wkB 10 hS ?_
   refine TS.wkB 11 hS ?_
   refine TS.wkB 12 hS ?_
   refine TS.wkB 13 hS ?_
   (try simp only [hw1])
   refine TS.takeC (i:=14) (v:=(.int .i64 (pick (z.tdiv 2) 4))) (fn:=15) (args:=#[.int .i64 (z.tdiv 2),.int .i64 4]) rfl (by kernel_rfl) (by kernel_rfl) (by kernel_rfl) (by decide) (fun _ _ _ h=>h) rfl hS ?_ ?_ ?_
   focus
    rintro wS ⟨gbS,gdS,rfl⟩
    go_simp
   focus exact fun wS _=>(Pick_any _ _ wS (by omega))
   (try simp only [nS])
   refine TS.wkB 15 hS ?_
   (try simp only [hw2])
   (try simp only [hs])
   (try simp only [hw3])
   refine TS.two (i:=1) (k:=16) (by decide+kernel) rfl rfl (fun K1 hK1=>?_) (fun K1 hK1=>?_)
   focus
    have HK1:=Lib.hid hK1
    clear hK1 hS
    dsimp only [List.getElem_toArray,List.getElem_cons_succ,List.getElem_cons_zero]
    go_simp
    refine TS.go HK1.out (by first|exact grows_drew|exact .of_below belB) (fun hS=>?_)
    clear HK1 K1
    (try simp only [nS])
    have hA:=arr_cell wr k hlt.2
    have HGX:Hid (wr.Grows (wr.alloc ((.cells #[.string ⟨#[97]⟩,.string ⟨#[98]⟩,.string ⟨#[99]⟩,.string ⟨#[100]⟩] 9))).drew):=Lib.hid growsA
    have hX1:wr.heap.size<(wr.alloc ((.cells #[.string ⟨#[97]⟩,.string ⟨#[98]⟩,.string ⟨#[99]⟩,.string ⟨#[100]⟩] 9))).drew.heap.size:=by simp
    have hX2:b<(wr.alloc ((.cells #[.string ⟨#[97]⟩,.string ⟨#[98]⟩,.string ⟨#[99]⟩,.string ⟨#[100]⟩] 9))).drew.heap.size:=by simp;omega
    generalize(wr.alloc ((.cells #[.string ⟨#[97]⟩,.string ⟨#[98]⟩,.string ⟨#[99]⟩,.string ⟨#[100]⟩] 9))).drew=X at *
    refine TS.narrow (S':=World.Grows X) (fun w h=>World.Grows.trans' HGX.out h) (World.Grows.refl _) (fun hS=>?_)
    refine TS.wkB 3 hS ?_
    refine TS.wkB 4 hS ?_
    refine TS.one (i:=16) (by decide+kernel) rfl (fun K1 hK1=>?_)
    have HK1:=Lib.hid hK1
    clear hK1 hS
    dsimp only [List.getElem_toArray,List.getElem_cons_succ,List.getElem_cons_zero]
    go_simp
    go_at_call 62
    refine(HVA.out _).mono ?_
    rintro e' wA ⟨rfl,bA,dA,rfl⟩
    refine TS.go HK1.out growsA (fun hS=>?_)
    clear HK1 K1
    (try simp only [nS])
    have HGY:Hid (wr.Grows (X.grow bA dA)):=Lib.hid (World.Grows.trans' HGX.out ⟨_,_,rfl⟩)
    have HGZ:Hid (X.Grows (X.grow bA dA)):=Lib.hid ⟨_,_,rfl⟩
    generalize X.grow bA dA=Y at *
    refine TS.narrow (S':=World.Grows Y) (fun w h=>World.Grows.trans' HGZ.out h) (World.Grows.refl _) (fun hS=>?_)
   rotate_left
   focus
    have HK1:=Lib.hid hK1
    clear hK1 hS
    dsimp only [List.getElem_toArray,List.getElem_cons_succ,List.getElem_cons_zero]
    go_simp
    go_at_call 62
    refine(HVA.out _).mono ?_
    rintro e' wA ⟨rfl,bA,dA,rfl⟩
    refine TS.go HK1.out growsA (fun hS=>?_)
    clear HK1 K1
    (try simp only [nS])
    refine TS.one (i:=1) (by decide+kernel) rfl (fun K1 hK1=>?_)
    have HK1:=Lib.hid hK1
    clear hK1 hS
    dsimp only [List.getElem_toArray,List.getElem_cons_succ,List.getElem_cons_zero]
    go_simp
    refine TS.go HK1.out (by first|exact grows_drew|exact .of_below belB) (fun hS=>?_)
    clear HK1 K1
    (try simp only [nS])
    have hA:=arr_cell (wr.grow bA dA) k hlt.2
    rw [World.size_grow]at hA
    replace hA:((wr.grow bA dA).alloc ((.cells #[.string ⟨#[97]⟩,.string ⟨#[98]⟩,.string ⟨#[99]⟩,.string ⟨#[100]⟩] 9))).cell? ⟨wr.heap.size+bA.size,k,none⟩=some (.string (nmS k)):=hA
    have HGY:Hid (wr.Grows ((wr.grow bA dA).alloc ((.cells #[.string ⟨#[97]⟩,.string ⟨#[98]⟩,.string ⟨#[99]⟩,.string ⟨#[100]⟩] 9)))):=Lib.hid growsA
    have hX1:wr.heap.size+bA.size<((wr.grow bA dA).alloc ((.cells #[.string ⟨#[97]⟩,.string ⟨#[98]⟩,.string ⟨#[99]⟩,.string ⟨#[100]⟩] 9))).heap.size:=by simp
    generalize((wr.grow bA dA).alloc ((.cells #[.string ⟨#[97]⟩,.string ⟨#[98]⟩,.string ⟨#[99]⟩,.string ⟨#[100]⟩] 9)))=Y at *
    refine TS.narrow (S':=World.Grows Y) (fun w h=>World.Grows.trans' HGY.out h) (World.Grows.refl _) (fun hS=>?_)
    refine TS.wkB 3 hS ?_
    refine TS.wkB 4 hS ?_
    refine TS.narrow (S':=World.Grows Y) (fun w h=>h) (World.Grows.refl _) (fun hS=>?_)
   rotate_left
   all_goals
    refine TS.wkB 17 hS ?_
    refine TS.one (i:=18) (by decide+kernel) rfl (fun K1 hK1=>?_)
    have HK1:=Lib.hid hK1
    clear hK1 hS
    dsimp only [List.getElem_toArray,List.getElem_cons_succ,List.getElem_cons_zero]
    go_simp
    refine TS.go HK1.out (by first|exact grows_drew|exact .of_below belB) (fun hS=>?_)
    clear HK1 K1
    (try simp only [nS])
    refine TS.one (i:=19) (by decide+kernel) rfl (fun K1 hK1=>?_)
    refine step_append_ownY rfl _ _ 47 rfl w.heap.size 68 i0 _ 5 48 Tryz.underlying47 hi hz0 hz1 hz2 rfl (by decide) vb k _ rfl (own_grow HO.out (World.Grows.trans' HGY.out growsA)) ⟨Y.heap.size,0,none⟩ 1 1 [.string (nmS k),.int .i64 (stepD z),.bool (valP z (stepD z)).yes,.int .i64 (valP z (stepD z)).n,.int .i64 (valP z (stepD z)).d] rfl rfl (news_cells _ [.string (nmS k),.int .i64 (stepD z),.bool (valP z (stepD z)).yes,.int .i64 (valP z (stepD z)).n,.int .i64 (valP z (stepD z)).d] _ _ (by simp)) (by intro u hu;simp at hu;rcases hu with rfl|rfl|rfl|rfl|rfl<;>rfl) (by unfold maxLen;omega) (by omega) (by have:=HGY.out.below.size;simp;omega) ?_
    intro v2 w2 hown2 hgrow2
    have hB2:Below w.heap.size wr w2:=Below.grown (((HGY.out.below).mono hsW).trans (show Below w.heap.size Y _ from by have:=HGY.out.below.size;(exact belB))) hgrow2 (by have:=HGY.out.below.size;simp;omega) (fun k hk=>(HO.out.lt k hk).1)
    have HB2:=Lib.hid hB2
    have HO2:=Lib.hid hown2
    refine hK1 _ _ (fun h=>absurd (by decide) h) ?_
    clear hK1 K1 hown2 hgrow2 hB2
    (try simp only [nS])
    refine TS.weB 20 ?_
    clear hS
    go_wp2_with fail
    go_roundw
    case rel=>exact⟨k+1,_,rfl,HKL.out.1,HKL.out.2,by go_num,HB.out.trans HB2.out,by rw [HNX.out,stpL_snoc,valP_dim];exact HO2.out⟩
    case measure=>simp [intOf];have:=HKL.out;omega
  ·have hend:(stepsP zs).take k=stepsP zs∧k=(stepsP zs).length:=by
    have:=stepsP_len zs
    have e:k=(stepsP zs).length:=by omega
    exact⟨by rw [e,List.take_length],e⟩
   have HE:=Lib.hid hend
   by_cases d1:(k:Int)<(zs.length:Int)
   all_goals
    have d4:¬((k:Int)<(zs.length:Int)∧(k:Int)<4):=by omega
    have HKL:=Lib.hid hlt
    clear hend hlt
    first
     |(have d5:¬(k:Int)<4:=by omega
       clear d4
       go_wp2_with fail
       go_returns
       exact⟨vb,rfl,.of_below HB.out,.of_own (by have:=HO.out;rwa [HE.out.1,HE.out.2]at this) (by rw [←HE.out.2];omega)⟩)
     |(clear d4
       go_wp2_with fail
       go_returns
       exact⟨vb,rfl,.of_below HB.out,.of_own (by have:=HO.out;rwa [HE.out.1,HE.out.2]at this) (by rw [←HE.out.2];omega)⟩)
theorem bindings8_any(l:List (ByteArray × Val))(v:Value)(w:World)(h:StpAt w v l):Calls Tryz.prog 28 #[v] w (BndP (dimsOf l) w):=by
 obtain⟨i0,hi,hz0,hz1,hz2⟩:=info_parts infoB
 obtain⟨h1000,a,cap,rfl,hcs⟩:=h
 have HCS:=Lib.hid hcs
 clear hcs
 go_enter Tryz.func28,Tryz.ntmps28
 go_wp2_with fail
 go_loopw [3,4] (fun v3 v4 wr=>∃(k:Nat) (vb:Value),vb=v3∧k≤l.length∧v4= .int .i64 k∧Below w.heap.size w wr∧wr.ownsRow w.heap.size 64 2 vb k (bindL (dimsOf (l.take k)))) (fun _ v4 _=>l.length-(intOf v4).toNat)
 case atStart=>exact⟨0,_,rfl,by omega,rfl,.refl _ _,World.ownsRow_nil _ _ _ _⟩
 case round=>
  obtain⟨k,vb,rfl,hk,rfl,hB,hown⟩:=hrel
  have HB:=Lib.hid hB
  have HO:=Lib.hid hown
  have hsW:=hB.size
  by_cases hlt:k<l.length
  ·rcases HCS.out with h0|⟨b,off,rfl,hbw,hx⟩
   ·omega
   obtain⟨s0,s1,-,-,-⟩:=hx k hlt
   have x0:wr.cell? ⟨b,off+k*5,none⟩=some (.string (stN l k)):=(hB.cell (p:=⟨b,off+k*5,none⟩) hbw).trans s0
   have x1:wr.cell? ⟨b,off+k*5+1,none⟩=some (.int .i64 (stV l k).dim):=(hB.cell (p:=⟨b,off+k*5+1,none⟩) hbw).trans s1
   have hbr:b<wr.heap.size:=by omega
   have d1:(k:Int)<(l.length:Int):=by omega
   have HNX:=Lib.hid (dims_take l k hlt)
   have HKL:=Lib.hid hlt
   clear hx s0 s1 hB hown hlt
   generalize stN l k=nk at *
   generalize(stV l k).dim=mk at *
   go_wp2_with fail
   refine TS.begin [14,15] (World.Grows _) (by kernel_rfl) (by kernel_rfl) grows_drew0 (fun hS=>?_)
   refine TS.wkB 0 hS ?_
   refine TS.wkB 1 hS ?_
   refine TS.wkB 2 hS ?_
   refine TS.wkB 3 hS ?_
   refine TS.wkB 4 hS ?_
   refine TS.wkB 5 hS ?_
   refine TS.wkB 6 hS ?_
   refine TS.wkB 7 hS ?_
   refine TS.wkB 8 hS ?_
   refine TS.wkB 9 hS ?_
   refine TS.wkB 10 hS ?_
   refine TS.wkB 11 hS ?_
   refine TS.wkB 12 hS ?_
   refine TS.one (i:=13) (by decide+kernel) rfl (fun K1 hK1=>?_)
   have HK1:=Lib.hid hK1
   clear hK1 hS
   dsimp only [List.getElem_toArray,List.getElem_cons_succ,List.getElem_cons_zero]
   go_simp
   refine TS.go HK1.out (by first|exact grows_drew|exact .of_below belB) (fun hS=>?_)
   clear HK1 K1
   (try simp only [nS])
   refine TS.one (i:=14) (by decide+kernel) rfl (fun K1 hK1=>?_)
   refine step_append_ownY rfl _ _ 54 rfl w.heap.size 64 i0 _ 2 24 Tryz.underlying54 hi hz0 hz1 hz2 rfl (by decide) vb k _ rfl (own_grow HO.out growsA) ⟨wr.heap.size,0,none⟩ 1 1 [.string nk,.int .i64 mk] rfl rfl (news_cells _ [.string nk,.int .i64 mk] _ _ (by simp)) (by intro u hu;simp at hu;rcases hu with rfl|rfl<;>rfl) (by unfold maxLen;omega) (by omega) (by simp;omega) ?_
   intro v2 w2 hown2 hgrow2
   have hB2:Below w.heap.size wr w2:=Below.grown (show Below w.heap.size wr _ from by(exact belB)) hgrow2 (by simp;omega) (fun k hk=>(HO.out.lt k hk).1)
   have HB2:=Lib.hid hB2
   have HO2:=Lib.hid hown2
   refine hK1 _ _ (fun h=>absurd (by decide) h) ?_
   clear hK1 K1 hown2 hgrow2 hB2
   (try simp only [nS])
   refine TS.weB 15 ?_
   clear hS
   go_wp2_with fail
   go_roundw
   case rel=>exact⟨k+1,_,rfl,HKL.out,by go_num,HB.out.trans HB2.out,by rw [HNX.out,bindL_snoc];exact HO2.out⟩
   case measure=>simp [intOf];have:=HKL.out;omega
  ·obtain rfl:k=l.length:=by omega
   have hlen:(dimsOf l).length=l.length:=by unfold dimsOf;simp
   clear hB hown
   go_wp2_with fail
   go_returns
   exact⟨vb,rfl,.of_below HB.out,.of_own (by have:=HO.out;rw [List.take_length]at this;rw [hlen];exact this) (by rw [hlen];exact h1000)⟩
end Go.Proofs.YtlheailebbngiaaGreatDoor
