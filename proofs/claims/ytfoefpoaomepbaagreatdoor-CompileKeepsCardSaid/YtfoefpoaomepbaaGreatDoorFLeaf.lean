import Derived.Test.YtfoefpoaomepbaaGreatDoorFWide
import Derived.Test.YtfoefpoaomepbaaGreatDoorFK
set_option linter.all false
set_option maxHeartbeats 16000000
set_option maxRecDepth 1000000
namespace Go.Proofs.YtfoefpoaomepbaaGreatDoor
open Go.RowKit

def noBind:ByteArray × Int:=(ByteArray.empty,0)
def EnvAt(w:World)(s:Nat)(v:Value)(env:List (ByteArray × Int)):Prop:=
 env.length≤1000∧(∀x∈env,x.1.size≤140737488355328)∧
 ∃a cap,v= .slice a env.length cap∧(env.length=0∨∃b off,a=some ⟨b,off,none⟩∧b<w.heap.size∧b≠s∧∀i,i<env.length→w.cell? ⟨b,off+i*2,none⟩=some (.string (env.getD i noBind).1)∧w.cell? ⟨b,off+i*2+1,none⟩=some (.int .i64 (env.getD i noBind).2))
theorem EnvAt.of_cells{w w':World}{s:Nat}{v:Value}{env:List (ByteArray × Int)}(h:EnvAt w s v env)(hsz:w.heap.size≤w'.heap.size)(hc:∀b o,b<w.heap.size→b≠s→w'.cell? ⟨b,o,none⟩=w.cell? ⟨b,o,none⟩):EnvAt w' s v env:=by
 obtain⟨h0,hn,a,cap,hv,h1⟩:=h
 refine⟨h0,hn,a,cap,hv,h1.imp id ?_⟩
 rintro⟨b,off,ha,hb,hbs,hcc⟩
 exact⟨b,off,ha,by omega,hbs,fun i hi=>by rw [hc b _ hb hbs,hc b _ hb hbs];exact hcc i hi⟩
theorem EnvAt.grow{w:World}{s:Nat}{v:Value}{env:List (ByteArray × Int)}(h:EnvAt w s v env)(bs:Array Obj)(d:Nat):EnvAt (w.grow bs d) s v env:=h.of_cells (by simp) fun b o hb _=>World.cell?_grow _ _ _ hb
theorem EnvAt.alloc{w:World}{s:Nat}{v:Value}{env:List (ByteArray × Int)}(h:EnvAt w s v env)(o:Obj):EnvAt (w.alloc o) s v env:=h.of_cells (by simp) fun b i hb _=>World.cell?_alloc_lt w o ⟨b,i,none⟩ hb
theorem EnvAt.drewN{w:World}{s:Nat}{v:Value}{env:List (ByteArray × Int)}(h:EnvAt w s v env)(n:Nat):EnvAt (w.drewN n) s v env:=h.of_cells (Nat.le_refl _) fun _ _ _ _=>rfl
theorem EnvAt.src{w:World}{s:Nat}{v:Value}{env:List (ByteArray × Int)}(h:EnvAt w s v env)(lv':Value)(p left:Int):EnvAt (w.src s lv' p left) s v env:=h.of_cells (by simp) fun _ _ _ hbs=>World.cell?_src_other hbs

def ExPost(s:Nat)(lv:Value)(X:World)(r:Ex × Nat × Int)(e:Ending)(w':World):Prop:=
 ∃v bs d,e= .returned (exV r.1 v)∧w'=(X.src s lv r.2.1 r.2.2).grow bs d∧RepE (fun b=>X.heap.size≤b) w' r.1 v
theorem ExPost.of_grows{s:Nat}{lv:Value}{X:World}{r:Ex × Nat × Int}{e:Ending}{w':World}{v:Value}(he:e= .returned (exV r.1 v))(hg:(X.src s lv r.2.1 r.2.2).Grows w')(hr:RepE (fun b=>X.heap.size≤b) w' r.1 v):ExPost s lv X r e w':=by
 obtain⟨bs,d,rfl⟩:=hg
 exact⟨v,bs,d,he,rfl,hr⟩

theorem ExPost.of_eq{s:Nat}{lv:Value}{X:World}{r:Ex × Nat × Int}{e:Ending}{w':World}{v:Value}{E:Ex}{p':Nat}{P' l':Int}(hr:r=(E,p',l'))(hP:(p':Int)=P')(he:e= .returned (exV E v))(hg:(X.src s lv P' l').Grows w')(hrep:RepE (fun b=>X.heap.size≤b) w' E v):ExPost s lv X r e w':=by
 subst hr hP
 exact .of_grows he hg hrep
theorem lowN_bd(neg:Bool)(n d:Nat):-1000000000000000≤lowN neg n d∧lowN neg n d≤1000000000000000:=by
 unfold lowN
 split
 ·omega
 ·rename_i h
  have h1:((n / Nat.gcd n d:Nat):Int)≤1000000000000000:=by omega
  have h2:(0:Int)≤((n / Nat.gcd n d:Nat):Int):=Int.natCast_nonneg _
  generalize((n / Nat.gcd n d:Nat):Int)=q at *
  split<;>omega
theorem lowD_bd(n d:Nat):0≤lowD n d∧lowD n d≤1000000000:=by
 unfold lowD
 split
 ·omega
 ·rename_i h
  have h1:((d / Nat.gcd n d:Nat):Int)≤1000000000:=by omega
  have h2:(0:Int)≤((d / Nat.gcd n d:Nat):Int):=Int.natCast_nonneg _
  generalize((d / Nat.gcd n d:Nat):Int)=q at *
  omega
theorem mkN_bd(n d:Int):-1000000000000000≤mkN n d∧mkN n d≤1000000000000000:=by
 unfold mkN
 split
 ·omega
 ·exact lowN_bd _ _ _
theorem mkD_bd(n d:Int):0≤mkD n d∧mkD n d≤1000000000:=by
 unfold mkD
 split
 ·omega
 ·exact lowD_bd _ _
theorem ExRng.lit(n d m:Int)(hn:-1000000000000000≤n∧n≤1000000000000000)(hd:0≤d∧d≤1000000000)(hm:0≤m∧m≤100)(op:Int)(ho:0≤op∧op≤100)(s:ByteArray)(hs:s.size≤140737488355328)(l:List Ex)(hl:l.length≤140737488355328):ExRng (.mk op n d m s l):=
 ⟨⟨by show _≤op;omega,by show op≤_;omega⟩,⟨by show _≤n;omega,by show n≤_;omega⟩,⟨by show _≤d;omega,by show d≤_;omega⟩,⟨by show _≤m;omega,by show m≤_;omega⟩,hl,hs⟩
theorem namesOf_mem{l:List (ByteArray × Int)}{dim:Int}{n:ByteArray}(h:n∈namesOf l dim):∃x∈l,x.1=n:=by
 unfold namesOf at h
 rw [List.mem_map]at h
 obtain⟨x,hx,rfl⟩:=h
 exact⟨x,(List.mem_filter.1 hx).1,rfl⟩
theorem inpN_sizes:∀x∈inpN,x.1.size≤100:=by decide+kernel
theorem allNames_size{env:List (ByteArray × Int)}(hes:∀x∈env,x.1.size≤140737488355328)(dim:Int)(k:Nat):((allNames env dim).getD k ByteArray.empty).size≤140737488355328:=by
 by_cases h:k<(allNames env dim).length
 ·have hm:(allNames env dim).getD k ByteArray.empty∈allNames env dim:=by
   rw [List.getD_eq_getElem?_getD,List.getElem?_eq_getElem h];exact List.getElem_mem h
  generalize(allNames env dim).getD k ByteArray.empty=n at hm
  unfold allNames at hm
  rw [List.mem_append]at hm
  rcases hm with hm|hm
  ·obtain⟨x,hx,rfl⟩:=namesOf_mem hm
   have:=inpN_sizes x hx
   omega
  ·obtain⟨x,hx,rfl⟩:=namesOf_mem hm
   exact hes x hx
 ·rw [List.getD_eq_getElem?_getD,List.getElem?_eq_none (by omega)];exact Nat.zero_le _
theorem StrRow.form{base:Nat}{w:World}{v:Value}{l:List ByteArray}(h:StrRow base w v l):∃a cap,v= .slice a l.length cap∧(l.length=0∨∃g,a=some ⟨g,0,none⟩∧base≤g∧g<w.heap.size∧∀k,k<l.length→w.cell? ⟨g,k,none⟩=some (.string (l.getD k ByteArray.empty))):=by
 rcases h.2 with ⟨rfl,h0⟩|⟨g,cap,cur,rfl,hb,hg,_⟩
 ·exact⟨none,0,by rw [h0],.inl h0⟩
 ·refine⟨_,cap,rfl,.inr ⟨g,rfl,hb,(Array.getElem?_eq_some_iff.1 hg).1,fun k hk=>?_⟩⟩
  have:=World.ownsRow.cells (g:=g) h rfl k (.string (l.getD k ByteArray.empty)) (by rw [List.getElem?_map,List.getD_eq_getElem?_getD,List.getElem?_eq_getElem hk];rfl)
  rw [addr_add]at this;exact this
theorem allNames_step(env:List (ByteArray × Int))(dim:Int)(k:Nat)(h:k<env.length) :
 namesOf inpN dim++namesOf (env.take (k+1)) dim=(namesOf inpN dim++namesOf (env.take k) dim)++if(env.getD k noBind).2=dim then [(env.getD k noBind).1]else []:=by
 have:=namesOf_take env k dim h
 unfold noBind
 rw [this,List.append_assoc]
theorem allNames_take_le(env:List (ByteArray × Int))(dim:Int)(k:Nat)(h:env.length≤1000):(namesOf inpN dim++namesOf (env.take k) dim).length≤1011:=by
 have:=allNames_le (env.take k) dim
 unfold allNames at this
 have:=List.length_take_le' k env
 omega
theorem leafF_name{zs:List Int}{env:List (ByteArray × Int)}{dim:Int}{p:Nat}{left:Int}(hd:¬dim=1)(h:nextV zs p ((allNames env dim).length+3)<(allNames env dim).length) :
 leafF zs env dim p left=(.mk 2 0 0 0 ((allNames env dim).getD (nextV zs p ((allNames env dim).length+3)).toNat ByteArray.empty) [],p+1,left-1):=by
 unfold leafF leafN;rw [if_neg hd,if_pos h]
theorem leafF_best{zs:List Int}{env:List (ByteArray × Int)}{dim:Int}{p:Nat}{left:Int}(hd:dim=4)(h:nextV zs p ((allNames env dim).length+3)=(allNames env dim).length) :
 leafF zs env dim p left=(.mk 3 (1+nextV zs (p+1) 5) 1 0 ByteArray.empty [],p+2,left-1):=by
 unfold leafF leafN;rw [if_neg (by omega),if_neg (by omega),if_pos ⟨hd,h⟩]
theorem leafF_lit{zs:List Int}{env:List (ByteArray × Int)}{dim:Int}{p:Nat}{left:Int}(hd:¬dim=1)(h:¬nextV zs p ((allNames env dim).length+3)<(allNames env dim).length)(h4:¬(dim=4∧nextV zs p ((allNames env dim).length+3)=(allNames env dim).length)) :
 leafF zs env dim p left=(.mk 1 (numN zs (p+1)) (numD zs (p+1)) dim ByteArray.empty [],p+3,left-1):=by
 unfold leafF leafN;rw [if_neg hd,if_neg h,if_neg h4]

theorem news_at(w:World)(u:Value)(H:Nat)(hH:w.heap.size=H):∀(j:Nat) (v:Value),[u][j]? =some v→(w.alloc (.cells #[u] 9)).cell? ((⟨H,0,none⟩:Addr).add j)=some v:=by
 subst hH;exact news_one w u
theorem leaf_plain(s:Nat)(lv:Value)(zs:List Int)(p:Nat)(P left dim:Int)(ev:Value)(env:List (ByteArray × Int))(X:World)(hP:P=p)(hd0:2≤dim)(hd1:dim≤4)(hs:s<X.heap.size)(hX:X.src s lv P left=X)
 (hl:Hid (ListAt X s lv zs)) (he:Hid (EnvAt X s ev env)) (hp:p≤1000000) (hleft:-1000000≤left) (hleft2:left≤1000000) :
 Calls Tryz.prog 32 #[.pointer (some ⟨s,0,none⟩),.int .i64 dim,ev] X (ExPost s lv X (leafF zs env dim p left)):=by
 subst hP
 obtain⟨i0,hi,hz0,hz1,hz2⟩:=info_parts infoStr
 obtain⟨hen,hes,ea,ecap,rfl,hec⟩:=he.out
 have Hec:=Lib.hid hec
 have Hes:=Lib.hid hes
 clear hec hes he
 have hne:(dim==1)=false:=by simp;omega
 suffices h:Calls Tryz.prog 32 #[.pointer (some ⟨s,0,none⟩),.int .i64 dim,.slice ea env.length ecap] (X.src s lv p left) (ExPost s lv X (leafF zs env dim p left))by rw [hX]at h;exact h
 clear hX
 go_enter Tryz.func32,Tryz.ntmps32
 go_wp2_with (first
  |(go_at_call 78;refine(inputs_any _ _).mono ?_;rintro e w' ⟨nv,rfl,hrow,bs,d,rfl⟩;have HROW:=Lib.hid hrow;clear hrow))
 go_loopw [8,9] (fun v8 v9 wr=>∃k:Nat,k≤env.length∧v9= .int .i64 k∧StrRow (X.heap.size+1) wr v8 (namesOf inpN dim++namesOf (env.take k) dim)∧World.Grows ((X.src s lv p (left-1)).alloc (.cells #[.int .i64 0,.int .i64 0,.int .i64 0,.int .i64 0,.string ⟨#[]⟩,.slice none 0 0] 27)) wr) (fun _ v9 _=>env.length-(intOf v9).toNat)
 case atStart=>exact⟨0,by omega,rfl,by have:=HROW.out;simpa [namesOf]using this,⟨bs,d,rfl⟩⟩
 case round=>
  clear HROW
  obtain⟨k,hk,rfl,hown,bs,d,rfl⟩:=hrel
  have Hown:=Lib.hid hown
  clear hown
  have HL:=Lib.hid (allNames_take_le env dim k hen)
  by_cases hlt:k<env.length
  ·rcases Hec.out with h0|⟨b,off,rfl,hb,hbs,hx⟩
   ·omega
   ·obtain⟨hx0,hx1⟩:=hx k hlt
    clear hx
    have hlt1:(k:Int)<(env.length:Int):=by omega
    have HT:=Lib.hid (allNames_step env dim k hlt)
    generalize hn:(env.getD k noBind).1=nm at *
    generalize hm:(env.getD k noBind).2=dm at *
    clear hn hm
    by_cases hd:dm=dim
    ·have HD:=Lib.hid hd
     go_wp2_with (at_builtin;refine wpList_append_own _ rfl _ _ 56 rfl (X.heap.size+1) 9 i0 (.string ⟨#[]⟩) 1 16 Tryz.underlying56 hi hz0 hz1 hz2 rfl (by decide) _ _ _ rfl (World.ownsRow.alloc Hown.out _) ⟨X.heap.size+1+bs.size,0,none⟩ 1 1 [.string nm] rfl rfl ?c1 ?c2 ?c3 ?c4 ?c5 ?_)
     case c1=>exact news_at _ _ _ (by simp)
     case c2=>intro u hu;simp at hu;subst hu;rfl
     case c3=>have:=HL.out;unfold maxLen;omega
     case c4=>have:=HL.out;omega
     case c5=>simp;omega
     intro v' w1 hown' hgrow _
     have G1:=World.Grows.of_below ((((Below.refl _ _).grow (Nat.le_refl _) _ _).alloc (by simp) _).grown hgrow (by simp;omega) (fun k hk=>by have:=(Hown.out.lt k hk).1;simpa using this))
     have G2:=Lib.hid G1
     have H1:=Lib.hid (StrRow.push (s:=nm) (l:=namesOf inpN dim++namesOf (env.take k) dim) hown' (by simp) (by simp))
     clear hown' hgrow G1
     go_wp2
     go_roundw
     case rel=>exact⟨k+1,by omega,by go_num,by rw [HT.out,if_pos HD.out];exact H1.out,G2.out⟩
     case measure=>simp [intOf];omega
    ·have HD:=Lib.hid hd
     have hd1:(dm==dim)=false:=by simpa using hd
     go_wp2
     go_roundw
     case rel=>exact⟨k+1,by omega,by go_num,by rw [HT.out,if_neg HD.out,List.append_nil];exact Hown.out,⟨bs,d,rfl⟩⟩
     case measure=>simp [intOf];omega
  ·obtain rfl:k=env.length:=by omega
   have HOWN:=Hown.out
   rw [List.take_length]at HOWN
   clear HL Hown
   obtain⟨na,ncap,rfl,hcell⟩:=StrRow.form (l:=allNames env dim) HOWN
   have Hcell:=Lib.hid hcell
   have HOWN2:=Lib.hid HOWN
   clear hcell HOWN
   have hNL:=allNames_le env dim
   generalize hN:(allNames env dim).length=nl at hNL ⊢
   have HN:=Lib.hid hN
   clear hN
   have hkb:=nextV_bd zs p ((nl:Int)+3) (by omega)
   generalize hK:nextV zs p ((nl:Int)+3)=kk at hkb
   have HK:=Lib.hid hK
   clear hK
   go_wp2_with fail
   refine(next_any s lv zs p p (left-1) _ _ rfl (by simp;omega) (by simp [go_sem,hs]) (by(repeat' (first|(with_reducible exact hl.out)|(with_reducible refine ListAt.alloc ?_ _)|(with_reducible refine ListAt.grow ?_ _ _)|(with_reducible refine ListAt.drewN ?_ _)|(with_reducible refine ListAt.src ?_ _ _ _)))) (by omega) (by omega)).mono ?_
   rintro e w' ⟨rfl,n1,rfl⟩
   rw [HK.out]
   by_cases c1:kk<nl
   ·rcases Hcell.out with h0|⟨g,rfl,hg0,hg1,hc⟩
    ·exfalso;rw [HN.out]at h0;omega
    ·have hcc:=hc kk.toNat (by rw [HN.out];omega)
     clear hc
     have hc2:(((X.src s lv ((p:Int)+1) (left-1)).alloc (.cells #[.int .i64 0,.int .i64 0,.int .i64 0,.int .i64 0,.string ⟨#[]⟩,.slice none 0 0] 27)).grow bs (d+n1)).cell? ⟨g,kk.toNat,none⟩=some (.string ((allNames env dim).getD kk.toNat ByteArray.empty)):=by
      have:=World.cell?_src_other (w:=(((X.src s lv (p:Int) (left-1)).alloc (.cells #[.int .i64 0,.int .i64 0,.int .i64 0,.int .i64 0,.string ⟨#[]⟩,.slice none 0 0] 27)).grow bs d)) (s:=s) (lv:=lv) (p:=(p:Int)+1) (left:=left-1) (b:=g) (i:=kk.toNat) (by omega)
      rw [hcc]at this
      have h3:(((X.src s lv ((p:Int)+1) (left-1)).alloc (.cells #[.int .i64 0,.int .i64 0,.int .i64 0,.int .i64 0,.string ⟨#[]⟩,.slice none 0 0] 27)).grow bs d).cell? ⟨g,kk.toNat,none⟩=some (.string ((allNames env dim).getD kk.toNat ByteArray.empty)):=by
       simpa [go_sem,hs]using this
      exact h3
     have HZ:=Lib.hid (allNames_size Hes.out dim kk.toNat)
     have HF:=Lib.hid (leafF_name (zs:=zs) (env:=env) (dim:=dim) (p:=p) (left:=left) (by omega) (by rw [HN.out,HK.out];exact c1))
     rw [HN.out,HK.out]at HF
     clear hcc hNL
     go_wp2_with fail
     go_returns
     exact ExPost.of_eq (v:=.slice none 0 0) (P':=(p:Int)+1) HF.out (by omega) rfl (.of_below belB) (.nil (.lit _ _ _ (by omega) (by omega) (by omega) _ (by omega) _ HZ.out _ (by simp)) rfl)
   ·have c1b:¬kk<(nl:Int):=c1
    by_cases c2:dim=4∧kk=nl
    ·obtain⟨rfl,rfl⟩:=c2
     have HF:=Lib.hid (leafF_best (zs:=zs) (env:=env) (dim:=4) (p:=p) (left:=left) rfl (by rw [HN.out,HK.out]))
     have hb5:=nextV_bd zs (p+1) 5 (by omega)
     generalize hV:nextV zs (p+1) 5=v5 at hb5 HF
     have HV:=Lib.hid hV
     clear hV hNL
     go_wp2_with fail
     refine(next_any s lv zs (p+1) (p+1) (left-1) _ _ (by simp) (by simp;omega) (by simp [go_sem,hs]) (by(repeat' (first|(with_reducible exact hl.out)|(with_reducible refine ListAt.alloc ?_ _)|(with_reducible refine ListAt.grow ?_ _ _)|(with_reducible refine ListAt.drewN ?_ _)|(with_reducible refine ListAt.src ?_ _ _ _)))) (by omega) (by omega)).mono ?_
     rintro e w' ⟨rfl,n2,rfl⟩
     rw [HV.out]
     go_wp2_with fail
     go_returns
     exact ExPost.of_eq (v:=.slice none 0 0) (P':=(p:Int)+1+1) HF.out (by omega) rfl (.of_below belB) (.nil (.lit _ _ _ (by omega) (by omega) (by omega) _ (by omega) _ (Nat.zero_le _) _ (by simp)) rfl)
    ·have HF:=Lib.hid (leafF_lit (zs:=zs) (env:=env) (dim:=dim) (p:=p) (left:=left) (by omega) (by rw [HN.out,HK.out];exact c1) (by rw [HN.out,HK.out];exact c2))
     have c4:(dim==4)=false∨dim=4∧(kk==nl)=false:=by
      by_cases h:dim=4
      ·exact .inr ⟨h,by simpa using fun e=>c2 ⟨h,e⟩⟩
      ·exact .inl (by simpa using h)
     clear hNL c2
     rcases c4 with c4|⟨rfl,c4⟩
     all_goals
      go_wp2_with fail
      refine(number_any s lv zs (p+1) (p+1) (left-1) _ (by simp) (by simp;omega) (by simp [go_sem,hs]) (Lib.hid (by(repeat' (first|(with_reducible exact hl.out)|(with_reducible refine ListAt.alloc ?_ _)|(with_reducible refine ListAt.grow ?_ _ _)|(with_reducible refine ListAt.drewN ?_ _)|(with_reducible refine ListAt.src ?_ _ _ _))))) (by omega)).mono ?_
      rintro e w' ⟨rfl,bs2,d2,rfl⟩
      go_wp2_with fail
      go_returns
      exact ExPost.of_eq (v:=.slice none 0 0) (P':=(p:Int)+1+2) HF.out (by omega) rfl (.of_below belB) (.nil (.lit _ _ _ (mkN_bd _ _) (mkD_bd _ _) (by omega) _ (by omega) _ (Nat.zero_le _) _ (by simp)) rfl)

theorem RepE.eqw{S:Nat→Prop}{w w':World}{e:Ex}{v:Value}(h:RepE S w e v)(hw:w=w'):RepE S w' e v:=hw ▸ h
theorem RepE.src{S:Nat→Prop}{w:World}{e:Ex}{v:Value}{s:Nat}(h:RepE S w e v)(hS:∀b,S b→b≠s)(lv:Value)(p left:Int):RepE S (w.src s lv p left) e v:=
 h.keep (by simp) fun _ _ hb _=>World.cell?_src_other (hS _ hb)
theorem RepE.drewN{S:Nat→Prop}{w:World}{e:Ex}{v:Value}(h:RepE S w e v)(n:Nat):RepE S (w.drewN n) e v:=h.keep (Nat.le_refl _) fun _ _ _ _=>rfl
theorem leafF_plain(zs:List Int)(env:List (ByteArray × Int))(dim:Int)(p:Nat)(left:Int)(h:¬dim=1):leafF zs env dim p left=((leafN zs env p dim).1,(leafN zs env p dim).2,left-1):=by
 unfold leafF;rw [if_neg h]
theorem leaf_any2(s:Nat)(lv:Value)(zs:List Int)(p:Nat)(P left dim:Int)(ev:Value)(env:List (ByteArray × Int))(r:Ex × Nat)(X:World)(hP:P=p)(hd0:2≤dim)(hd1:dim≤4)(hs:s<X.heap.size)(hX:X.src s lv P left=X)
 (hl:Hid (ListAt X s lv zs)) (he:Hid (EnvAt X s ev env)) (hp:p≤1000000) (hleft:-1000000≤left) (hleft2:left≤1000000) (hr:Hid (leafN zs env p dim=r)) :
 Calls Tryz.prog 32 #[.pointer (some ⟨s,0,none⟩),.int .i64 dim,ev] X (ExPost s lv X (r.1,r.2,left-1)):=by
 have:=leaf_plain s lv zs p P left dim ev env X hP hd0 hd1 hs hX hl he hp hleft hleft2
 rw [leafF_plain _ _ _ _ _ (by omega),hr.out]at this
 exact this
theorem leafF_bool(zs:List Int)(env:List (ByteArray × Int))(p:Nat)(left:Int){r1 r2:Ex × Nat}{a c:Int}(ha:nextV zs p 3=a)(hc:nextV zs (p+1) 6=c)(h1:leafN zs env (p+2) (2+a)=r1)(h2:leafN zs env r1.2 (2+a)=r2) :
 leafF zs env 1 p left=(.mk (11+c) 0 0 0 ByteArray.empty [r1.1,r2.1],r2.2,left-3):=by
 unfold leafF;rw [if_pos rfl,ha,hc,h1,h2]
theorem RepE.pair{S:Nat→Prop}{w:World}{o1 o2:Ex}{v1 v2:Value}{b:Nat}(op:Int)(ho:0≤op∧op≤100)(hS:S b)(hb:w.heap[b]? =some (.cells (cells1 o1 v1++cells1 o2 v2).toArray 27 (0,0)))(h1:RepE S w o1 v1)(h2:RepE S w o2 v2) :
 RepE S w (.mk op 0 0 0 ByteArray.empty [o1,o2]) (.slice (some ⟨b,0,none⟩) 2 2):=by
 have hlt:b<w.heap.size:=(Array.getElem?_eq_some_iff.1 hb).1
 have hc:∀j u,(cells1 o1 v1++cells1 o2 v2)[j]? =some u→w.cell? ⟨b,j,none⟩=some u:=fun j u hu=>by
  rw [cell_of_row w b j _ _ _ hb];simpa using hu
 refine .mk (.mk op 0 0 0 ByteArray.empty [o1,o2]) (some ⟨b,0,none⟩) 2 (fun i=>if i=0 then v1 else v2) (.lit _ _ _ (by omega) (by omega) (by omega) _ ho _ (Nat.zero_le _) _ (by simp)) (.inr ⟨b,0,rfl,hS,hlt, ?_⟩) ?_
 ·intro i hi
  obtain rfl|rfl:i=0∨i=1:=by have:i<2:=hi;omega
  ·exact⟨hc 0 _ rfl,hc 1 _ rfl,hc 2 _ rfl,hc 3 _ rfl,hc 4 _ rfl,hc 5 _ rfl⟩
  ·exact⟨hc 6 _ rfl,hc 7 _ rfl,hc 8 _ rfl,hc 9 _ rfl,hc 10 _ rfl,hc 11 _ rfl⟩
 ·intro i hi
  obtain rfl|rfl:i=0∨i=1:=by have:i<2:=hi;omega
  ·exact h1
  ·exact h2

theorem heap_lift{A A':World}(hsz:A'.heap.size=A.heap.size)(bs bs2:Array Obj)(d d2:Nat){b:Nat}(h1:A.heap.size≤b)(h2:b<A.heap.size+bs.size):(A'.grow (bs++bs2) d2).heap[b]? =(A.grow bs d).heap[b]?:=by
 simp only [World.grow]
 rw [Array.getElem?_append_right (by omega),Array.getElem?_append_left (by omega),Array.getElem?_append_right (by omega),hsz]
theorem RepE.lift{m:Nat}{A A':World}{bs:Array Obj}{d:Nat}{e:Ex}{v:Value}(h:RepE (fun b=>m≤b) (A.grow bs d) e v)(hm:A.heap.size≤m)(hsz:A'.heap.size=A.heap.size)(bs2:Array Obj)(d2:Nat):RepE (fun b=>m≤b) (A'.grow (bs++bs2) d2) e v:=
 h.keep (by simp;omega) fun b o hb hlt=>World.cell?_of_block (heap_lift hsz bs bs2 d d2 (Nat.le_trans hm hb) (by simpa using hlt))
theorem RepE.lift0{m:Nat}{A A':World}{bs:Array Obj}{d:Nat}{e:Ex}{v:Value}(h:RepE (fun b=>m≤b) (A.grow bs d) e v)(hm:A.heap.size≤m)(hsz:A'.heap.size=A.heap.size)(d2:Nat):RepE (fun b=>m≤b) (A'.grow bs d2) e v:=by
 have:=h.lift (A':=A') hm hsz #[] d2
 simpa using this

theorem leaf_bool(s:Nat)(lv:Value)(zs:List Int)(p:Nat)(P left:Int)(ev:Value)(env:List (ByteArray × Int))(X:World)(hP:P=p)(hs:s<X.heap.size)(hX:X.src s lv P left=X)
 (hl:Hid (ListAt X s lv zs)) (he:Hid (EnvAt X s ev env)) (hp:p≤900000) (hleft:-900000≤left) (hleft2:left≤900000) :
 Calls Tryz.prog 32 #[.pointer (some ⟨s,0,none⟩),.int .i64 1,ev] X (ExPost s lv X (leafF zs env 1 p left)):=by
 subst hP
 suffices h:Calls Tryz.prog 32 #[.pointer (some ⟨s,0,none⟩),.int .i64 1,ev] (X.src s lv p left) (ExPost s lv X (leafF zs env 1 p left))by rw [hX]at h;exact h
 clear hX
 have hb1:=nextV_bd zs p 3 (by omega)
 have hb2:=nextV_bd zs (p+1) 6 (by omega)
 generalize hA:nextV zs p 3=a at hb1
 have HA:=Lib.hid hA
 generalize hC:nextV zs (p+1) 6=c at hb2
 have HC:=Lib.hid hC
 clear hA hC
 have hr1:=leafN_bd zs env (p+2) (2+a)
 generalize hR1:leafN zs env (p+2) (2+a)=r1 at hr1
 have HR1:=Lib.hid hR1
 clear hR1
 have hr2:=leafN_bd zs env r1.2 (2+a)
 generalize hR2:leafN zs env r1.2 (2+a)=r2 at hr2
 have HR2:=Lib.hid hR2
 clear hR2
 obtain⟨o1,p1⟩:=r1
 obtain⟨o2,p2⟩:=r2
 have HF:=Lib.hid (leafF_bool zs env p left HA.out HC.out HR1.out HR2.out)
 simp only at hr1 hr2 HF HR2
 obtain⟨hr1a,hr1b⟩:=hr1
 obtain⟨hr2a,hr2b⟩:=hr2
 go_enter Tryz.func32,Tryz.ntmps32
 go_wp2_with fail
 refine(next_any s lv zs p p (left-1) _ _ rfl (by simp;omega) (by simp [go_sem,hs]) (by(repeat' (first|(with_reducible exact hl.out)|(with_reducible refine ListAt.alloc ?_ _)|(with_reducible refine ListAt.grow ?_ _ _)|(with_reducible refine ListAt.drewN ?_ _)|(with_reducible refine ListAt.src ?_ _ _ _)))) (by omega) (by omega)).mono ?_
 rintro e w' ⟨rfl,n1,rfl⟩
 rw [HA.out]
 go_wp2_with fail
 refine(next_any s lv zs (p+1) (p+1) (left-1) _ _ (by simp) (by simp;omega) (by simp [go_sem,hs]) (by(repeat' (first|(with_reducible exact hl.out)|(with_reducible refine ListAt.alloc ?_ _)|(with_reducible refine ListAt.grow ?_ _ _)|(with_reducible refine ListAt.drewN ?_ _)|(with_reducible refine ListAt.src ?_ _ _ _)))) (by omega) (by omega)).mono ?_
 rintro e w' ⟨rfl,n2,rfl⟩
 rw [HC.out]
 go_wp2_with fail
 refine(leaf_any2 s lv zs (p+2) (p+1+1) (left-1) _ _ env _ _ (by omega) (by omega) (by omega) (by simp;omega) (by simp [go_sem,hs]) (Lib.hid (by(repeat' (first|(with_reducible exact hl.out)|(with_reducible refine ListAt.alloc ?_ _)|(with_reducible refine ListAt.grow ?_ _ _)|(with_reducible refine ListAt.drewN ?_ _)|(with_reducible refine ListAt.src ?_ _ _ _))))) (Lib.hid (by(repeat' (first|(with_reducible exact he.out)|(with_reducible refine EnvAt.alloc ?_ _)|(with_reducible refine EnvAt.grow ?_ _ _)|(with_reducible refine EnvAt.drewN ?_ _)|(with_reducible refine EnvAt.src ?_ _ _ _))))) (by omega) (by omega) (by omega) HR1).mono ?_
 rintro e w' ⟨va,bs1,d1,rfl,rfl,hrep1⟩
 have H1:=Lib.hid (hrep1.eqw (w':=((X.src s lv (p1:Int) (left-1-1)).alloc (.cells #[.int .i64 0,.int .i64 0,.int .i64 0,.int .i64 0,.string ⟨#[]⟩,.slice none 0 0] 27)).grow bs1 d1) (by simp [go_sem,hs]))
 clear hrep1
 go_wp2_with fail
 refine(leaf_any2 s lv zs p1 p1 (left-1-1) _ _ env _ _ (by omega) (by omega) (by omega) (by simp;omega) (by simp [go_sem,hs]) (Lib.hid (by(repeat' (first|(with_reducible exact hl.out)|(with_reducible refine ListAt.alloc ?_ _)|(with_reducible refine ListAt.grow ?_ _ _)|(with_reducible refine ListAt.drewN ?_ _)|(with_reducible refine ListAt.src ?_ _ _ _))))) (Lib.hid (by(repeat' (first|(with_reducible exact he.out)|(with_reducible refine EnvAt.alloc ?_ _)|(with_reducible refine EnvAt.grow ?_ _ _)|(with_reducible refine EnvAt.drewN ?_ _)|(with_reducible refine EnvAt.src ?_ _ _ _))))) (by omega) (by omega) (by omega) HR2).mono ?_
 rintro e w' ⟨vb,bs2,d2,rfl,rfl,hrep2⟩
 have H2:=Lib.hid (hrep2.eqw (w':=((X.src s lv (p2:Int) (left-1-1-1)).alloc (.cells #[.int .i64 0,.int .i64 0,.int .i64 0,.int .i64 0,.string ⟨#[]⟩,.slice none 0 0] 27)).grow (bs1++bs2) d2) (by simp [go_sem,hs]))
 clear hrep2
 go_wp2_with fail
 go_returns
 refine ExPost.of_eq (v:=.slice (some ⟨X.heap.size+1+(bs1.size+bs2.size),0,none⟩) 2 2) (P':=(p2:Int)) (l':=left-1-1-1) (HF.out.trans (by rw [show left-1-1-1=left-3 by omega])) rfl rfl (.of_below belB) (.pair (v1:=va) (v2:=vb) (11+c) (by omega) (by omega) (heap_new _ _ _ (by simp)) (((H1.out.lift ?_ ?_ bs2 d2).mono ?_).alloc _) (((H2.out.lift0 ?_ ?_ d2).mono ?_).alloc _))
 all_goals first
  |(intro b hb;simp at hb;omega)
  |(simp;done)
  |(simp;omega)
theorem leaf_any(s:Nat)(lv:Value)(zs:List Int)(p:Nat)(P left dim:Int)(ev:Value)(env:List (ByteArray × Int))(X:World)(hP:P=p)(hd0:1≤dim)(hd1:dim≤4)(hs:s<X.heap.size)(hX:X.src s lv P left=X)
 (hl:Hid (ListAt X s lv zs)) (he:Hid (EnvAt X s ev env)) (hp:p≤900000) (hleft:-900000≤left) (hleft2:left≤900000) :
 Calls Tryz.prog 32 #[.pointer (some ⟨s,0,none⟩),.int .i64 dim,ev] X (ExPost s lv X (leafF zs env dim p left)):=by
 by_cases h:dim=1
 ·subst h;exact leaf_bool s lv zs p P left ev env X hP hs hX hl he hp hleft hleft2
 ·exact leaf_plain s lv zs p P left dim ev env X hP (by omega) hd1 hs hX hl he (by omega) (by omega) (by omega)

def ExprOK(s:Nat)(lv ev:Value)(zs:List Int)(env:List (ByteArray × Int))(n:Nat):Prop:=
 ∀(dim:Int) (p:Nat) (P left deep:Int) (r:Ex × Nat × Int) (X:World),Hid (exprF zs env n dim p left=r)→P=p→deep=6-n→1≤dim→dim≤4→s<X.heap.size→X.src s lv P left=X→Hid (ListAt X s lv zs)→Hid (EnvAt X s ev env)→p+costN n≤900000→-900000≤left-costN n→left≤900000→
  Calls Tryz.prog 30 #[.pointer (some ⟨s,0,none⟩),.int .i64 dim,.int .i64 deep,ev] X (ExPost s lv X r)
theorem ExprOK.call{s:Nat}{lv ev:Value}{zs:List Int}{env:List (ByteArray × Int)}{n:Nat}(h:ExprOK s lv ev zs env n)(dim:Int)(p:Nat)(P left deep:Int)(r:Ex × Nat × Int)(X:World)(hr:Hid (exprF zs env n dim p left=r))(hP:P=p)(hd:deep=6-n)(h1:1≤dim)(h4:dim≤4)(hs:s<X.heap.size)(hX:X.src s lv P left=X)
 (hl:Hid (ListAt X s lv zs)) (he:Hid (EnvAt X s ev env)) (b1:p+costN n≤900000) (b2:-900000≤left-costN n) (b3:left≤900000) :
 Calls Tryz.prog 30 #[.pointer (some ⟨s,0,none⟩),.int .i64 dim,.int .i64 deep,ev] X (ExPost s lv X r):=h dim p P left deep r X hr hP hd h1 h4 hs hX hl he b1 b2 b3
theorem infoExpr:(Tryz.prog.info? 27).map (fun i=>(i.zero,i.size,i.bytes))=some (some (.agg #[.int .i64 0,.int .i64 0,.int .i64 0,.int .i64 0,.string ⟨#[]⟩,.slice none 0 0]),6,72):=by kernel_rfl
theorem cells1_one(e:Ex)(v:Value)(hv:v.oneCell'=true):∀u∈cells1 e v,u.oneCell'=true:=by
 intro u hu
 simp only [cells1,List.mem_cons,List.not_mem_nil,or_false]at hu
 rcases hu with rfl|rfl|rfl|rfl|rfl|rfl
 all_goals first|rfl|exact hv
theorem RepE.one{S:Nat→Prop}{w:World}{e:Ex}{v:Value}(h:RepE S w e v):v.oneCell'=true:=by cases h;rfl

theorem World.grow_self(w:World):w=w.grow #[] w.drawn:=by simp [World.grow]
theorem RowE.lift{m:Nat}{A A':World}{bs:Array Obj}{d:Nat}{v:Value}{l:List (Ex × Value)}(h:RowE m (A.grow bs d) v l)(hm:A.heap.size≤m)(hsz:A'.heap.size=A.heap.size)(bs2:Array Obj)(d2:Nat):RowE m (A'.grow (bs++bs2) d2) v l:=
 h.keep (by simp;omega) fun k hk hlt=>heap_lift hsz bs bs2 d d2 (Nat.le_trans hm hk) (by simpa using hlt)
theorem RowE.lift0{m:Nat}{A A':World}{bs:Array Obj}{d:Nat}{v:Value}{l:List (Ex × Value)}(h:RowE m (A.grow bs d) v l)(hm:A.heap.size≤m)(hsz:A'.heap.size=A.heap.size)(d2:Nat):RowE m (A'.grow bs d2) v l:=by
 have:=h.lift (A':=A') hm hsz #[] d2
 simpa using this
theorem RowE.alloc{m:Nat}{w:World}{v:Value}{l:List (Ex × Value)}(h:RowE m w v l)(o:Obj):RowE m (w.alloc o) v l:=
 h.keep (by simp) fun k _ hlt=>Below.heap_alloc w o k hlt
theorem RowE.form{m:Nat}{w:World}{v:Value}{l:List (Ex × Value)}(h:RowE m w v l):∃a cap,v= .slice a l.length cap:=by
 exact fz71
theorem nodeF_take(E:Int→Nat→Int→Ex × Nat × Int)(ds:List Int)(k:Nat)(h:k<ds.length)(p:Nat)(left:Int){l:List Ex}{pk:Nat}{lk:Int}{e:Ex}{pk':Nat}{lk':Int}(hn:nodeF E (ds.take k) p left=(l,pk,lk))(he:E (ds.getD k 0) pk lk=(e,pk',lk')) :
 nodeF E (ds.take (k+1)) p left=(l++[e],pk',lk'):=by
 have hg:ds[k]=ds.getD k 0:=by rw [List.getD_eq_getElem?_getD,List.getElem?_eq_getElem h];rfl
 rw [List.take_succ_eq_append_getElem h,nodeF_snoc,hn,hg]
 simp only [he]
theorem nodeF_take_bd(zs:List Int)(env:List (ByteArray × Int))(n:Nat)(ds:List Int)(k:Nat)(hk:k≤3)(p:Nat)(left:Int){l:List Ex}{pk:Nat}{lk:Int}(hn:nodeF (exprF zs env n) (ds.take k) p left=(l,pk,lk)) :
 pk≤p+k*costN n∧left-(k*costN n:Nat)≤lk∧lk≤left:=by
 have:=nodeF_bd (exprF zs env n) (costN n) (exprF_bd zs env n) (ds.take k) p left
 rw [hn]at this
 have h2:(ds.take k).length*costN n≤k*costN n:=Nat.mul_le_mul_right _ (List.length_take_le k ds)
 simp only at this
 omega

theorem node_any(s:Nat)(lv ev:Value)(zs:List Int)(env:List (ByteArray × Int))(n:Nat)(IH:Hid (ExprOK s lv ev zs env n))(op deep:Int)(ds:List Int)(db:Nat)(p:Nat)(P left:Int)(X:World)(hP:P=p)(hn:n≤5)(hdeep:deep+1=6-n)(hop:0≤op∧op≤100)
 (hs:s<X.heap.size) (hX:X.src s lv P left=X) (hl:Hid (ListAt X s lv zs)) (he:Hid (EnvAt X s ev env)) (hp:p+3*costN n≤900000) (hleft:-900000≤left-3*costN n) (hleft2:left≤900000)
 (hdl:ds.length≤3) (hdb:db<X.heap.size) (hdbs:db≠s) (hdr:Hid (∀i,i<ds.length→1≤ds.getD i 0∧ds.getD i 0≤4)) (hdc:Hid (∀i,i<ds.length→X.cell? ⟨db,i,none⟩=some (.int .i64 (ds.getD i 0)))) :
 Calls Tryz.prog 75 #[.pointer (some ⟨s,0,none⟩),.int .i64 op,.int .i64 deep,ev,.slice (some ⟨db,0,none⟩) ds.length ds.length] X
  (ExPost s lv X (.mk op 0 0 0 ByteArray.empty (nodeF (exprF zs env n) ds p left).1,(nodeF (exprF zs env n) ds p left).2)):=by
 subst hP
 obtain⟨i0,hi,hz0,hz1,hz2⟩:=info_parts infoExpr
 suffices h:Calls Tryz.prog 75 #[.pointer (some ⟨s,0,none⟩),.int .i64 op,.int .i64 deep,ev,.slice (some ⟨db,0,none⟩) ds.length ds.length] (X.src s lv p left) (ExPost s lv X (.mk op 0 0 0 ByteArray.empty (nodeF (exprF zs env n) ds p left).1,(nodeF (exprF zs env n) ds p left).2))by rw [hX]at h;exact h
 clear hX
 go_enter Tryz.func75,Tryz.ntmps75
 go_wp2_with fail
 go_loopw [12] (fun v12 wr=>∃k:Nat,∃l:List (Ex × Value),∃pk:Nat,∃lk:Int,∃va:Value,∃bs d,k≤ds.length∧v12= .int .i64 k∧Hid (nodeF (exprF zs env n) (ds.take k) p left=(l.map (·.1),pk,lk))∧l.length=k∧
  wr=(((X.src s lv pk lk).alloc ((.cells #[.int .i64 0,.int .i64 0,.int .i64 0,.int .i64 0,.string ⟨#[]⟩,.slice none 0 0] 27))).alloc ((.cells #[.int .i64 op,.int .i64 0,.int .i64 0,.int .i64 0,.string ⟨#[]⟩,va] 27))).grow bs d∧RowE (X.heap.size+2) wr va l) (fun v12 _=>ds.length-(intOf v12).toNat)
 case atStart=>exact⟨0,[],p,left,.slice none 0 0,#[],_,by omega,rfl,Lib.hid rfl,rfl,World.grow_self _,.nil _ _⟩
 case round=>
  obtain⟨k,l,pk,lk,va,bs,d,hk,rfl,HN,hll,rfl,hrow⟩:=hrel
  have hb:=nodeF_take_bd zs env n ds k (by omega) p left HN.out
  have hk3:k*costN n≤3*costN n:=Nat.mul_le_mul_right _ (by omega)
  have hc8:=costN_8 n
  by_cases hlt:k<ds.length
  ·have hk2:k*costN n+costN n≤3*costN n:=by have:=Nat.mul_le_mul_right (costN n) (show k+1≤3 by omega);rw [Nat.add_mul,Nat.one_mul]at this;exact this
   have hd:=hdr.out k hlt
   have hcell:=hdc.out k hlt
   have hlt1:(k:Int)<(ds.length:Int):=by omega
   generalize hdk:ds.getD k 0=dk at hd hcell
   have HDK:=Lib.hid hdk
   clear hdk
   have hrb:=exprF_bd zs env n dk pk lk
   generalize hR:exprF zs env n dk pk lk=r at hrb
   have HR:=Lib.hid hR
   clear hR
   obtain⟨e,pk',lk'⟩:=r
   have HN2:=Lib.hid (nodeF_take (exprF zs env n) ds k hlt p left HN.out (by rw [HDK.out,HR.out]))
   have b1:pk+costN n≤900000:=by omega
   have b2:-900000≤lk-costN n:=by omega
   have b3:lk≤900000:=by omega
   clear hb hk3 hc8 hk2 hrb
   have HROW:=Lib.hid hrow
   have hvb:=hrow.lt
   have HVB:=Lib.hid hvb
   clear hrow hvb
   go_wp2_with fail
   refine(ExprOK.call IH.out dk pk pk lk (6-(n:Int)) _ _ HR rfl rfl hd.1 hd.2 (by simp;omega) (by simp [go_sem,hs]) (Lib.hid (by(repeat' (first|(with_reducible exact hl.out)|(with_reducible refine ListAt.alloc ?_ _)|(with_reducible refine ListAt.grow ?_ _ _)|(with_reducible refine ListAt.drewN ?_ _)|(with_reducible refine ListAt.src ?_ _ _ _))))) (Lib.hid (by(repeat' (first|(with_reducible exact he.out)|(with_reducible refine EnvAt.alloc ?_ _)|(with_reducible refine EnvAt.grow ?_ _ _)|(with_reducible refine EnvAt.drewN ?_ _)|(with_reducible refine EnvAt.src ?_ _ _ _))))) b1 b2 b3).mono ?_
   rintro e' w' ⟨ve,bs2,d2,rfl,rfl,hrep⟩
   have H1:=Lib.hid (hrep.eqw (w':=(((X.src s lv (pk':Int) lk').alloc ((.cells #[.int .i64 0,.int .i64 0,.int .i64 0,.int .i64 0,.string ⟨#[]⟩,.slice none 0 0] 27))).alloc ((.cells #[.int .i64 op,.int .i64 0,.int .i64 0,.int .i64 0,.string ⟨#[]⟩,va] 27))).grow (bs++bs2) d2) (by simp [go_sem,hs]))
   have HO:=Lib.hid (hrep.one)
   clear hrep
   have HROW1:=Lib.hid (HROW.out.lift (A':=((X.src s lv (pk':Int) lk').alloc ((.cells #[.int .i64 0,.int .i64 0,.int .i64 0,.int .i64 0,.string ⟨#[]⟩,.slice none 0 0] 27))).alloc ((.cells #[.int .i64 op,.int .i64 0,.int .i64 0,.int .i64 0,.string ⟨#[]⟩,va] 27))) (by simp) (by simp) bs2 d2)
   clear HROW
   go_wp2_with (at_builtin;refine wpList_append_lies _ rfl _ _ 25 rfl (X.heap.size+2) 27 i0 _ 6 72 Tryz.underlying25 hi hz0 hz1 hz2 rfl (by decide) _ _ _ rfl (HROW1.out.alloc _).own ⟨X.heap.size+2+(bs.size+bs2.size),0,none⟩ 1 1 (cells1 e ve) rfl rfl ?c1 ?c2 (by decide) ?c3 ?c4 ?c5 (X.heap.size+2+(bs.size+bs2.size)+1) (by simp) ?_)
   case c1=>exact news_cells _ (cells1 e ve) _ _ (by simp)
   case c2=>exact cells1_one _ _ HO.out
   case c3=>unfold maxLen;omega
   case c4=>omega
   case c5=>simp;omega
   intro g cap w1 hown' hgrow hat hlt'
   have R1:=RowE.push (HROW1.out.alloc _) (((H1.out.mono (S':=fun b=>X.heap.size+2+bs.size≤b) (fun b hb=>by simpa [Nat.add_assoc]using hb)).alloc _)) (by omega) (fun j hj=>by have:=(HVB.out j hj).2;simpa using this) (by omega) rfl hown' hgrow hat (by simp)
   have G1:=World.Grows.of_below (w:=((X.src s lv (pk':Int) lk').alloc ((.cells #[.int .i64 0,.int .i64 0,.int .i64 0,.int .i64 0,.string ⟨#[]⟩,.slice none 0 0] 27))).alloc ((.cells #[.int .i64 op,.int .i64 0,.int .i64 0,.int .i64 0,.string ⟨#[]⟩,va] 27))) ((((Below.refl _ _).grow (Nat.le_refl _) _ _).alloc (by simp) _).grown hgrow (by simp;omega) (fun j hj=>by have:=(HROW1.out.lt j hj).1;simpa using this))
   clear hown' hgrow hat hlt' HVB HROW1 H1 HO
   obtain⟨bs3,d3,rfl⟩:=G1
   have R2:=Lib.hid R1
   clear R1
   go_wp2_with fail
   go_roundw
   case rel=>exact⟨k+1,l++[(e,ve)],pk',lk',_,bs3,d3,by omega,by go_num,Lib.hid (by rw [HN2.out,List.map_append];rfl),by simp;omega,rfl,R2.out.lift0 (by simp) (by simp) d3⟩
   case measure=>simp [intOf];omega
  ·obtain rfl:k=ds.length:=by omega
   have HN2:=HN.out
   rw [List.take_length]at HN2
   have HROW:=Lib.hid hrow
   have HN3:=Lib.hid HN2
   obtain⟨aa,acap,rfl⟩:=hrow.form
   clear hrow HN2 HN hb hk3 hc8
   go_wp2_with fail
   go_returns
   refine ExPost.of_eq (P':=(pk:Int)) (by rw [HN3.out]) rfl rfl (.of_below belB) ?_
   have R3:=(HROW.out.lift0 (A':=((X.src s lv (pk:Int) lk).alloc (.cells #[.int .i64 op,.int .i64 0,.int .i64 0,.int .i64 0,.string ⟨#[]⟩,.slice aa l.length acap] 27)).alloc (.cells #[.int .i64 op,.int .i64 0,.int .i64 0,.int .i64 0,.string ⟨#[]⟩,.slice aa l.length acap] 27)) (by simp) (by simp) d).repE (e:=.mk op 0 0 0 ByteArray.empty (l.map (·.1))) (.lit _ _ _ (by omega) (by omega) (by omega) _ hop _ (Nat.zero_le _) _ (by rw [List.length_map];omega)) rfl
   rw [hll]at R3
   exact R3.mono fun b hb=>by show X.heap.size≤b;omega

theorem node_any2(s:Nat)(lv ev:Value)(zs:List Int)(env:List (ByteArray × Int))(n:Nat)(IH:Hid (ExprOK s lv ev zs env n))(op deep:Int)(ds:List Int)(db:Nat)(p:Nat)(P left:Int)(l:List Ex)(p':Nat)(l':Int)(X:World)(hr:Hid (nodeF (exprF zs env n) ds p left=(l,p',l')))(hP:P=p)(hn:n≤5)(hdeep:deep+1=6-n)(hop:0≤op∧op≤100)
 (hs:s<X.heap.size) (hX:X.src s lv P left=X) (hl:Hid (ListAt X s lv zs)) (he:Hid (EnvAt X s ev env)) (hp:p+3*costN n≤900000) (hleft:-900000≤left-3*costN n) (hleft2:left≤900000)
 (hdl:ds.length≤3) (hdb:db<X.heap.size) (hdbs:db≠s) (hdr:∀d∈ds,1≤d∧d≤4) (hdc:∀i,i<ds.length→X.cell? ⟨db,i,none⟩=some (.int .i64 (ds.getD i 0))) :
 Calls Tryz.prog 75 #[.pointer (some ⟨s,0,none⟩),.int .i64 op,.int .i64 deep,ev,.slice (some ⟨db,0,none⟩) ds.length ds.length] X
  (ExPost s lv X (.mk op 0 0 0 ByteArray.empty l,p',l')):=by
 have:=node_any s lv ev zs env n IH op deep ds db p P left X hP hn hdeep hop hs hX hl he hp hleft hleft2 hdl hdb hdbs (Lib.hid fun i hi=>by
  have hm:ds.getD i 0∈ds:=by rw [List.getD_eq_getElem?_getD,List.getElem?_eq_getElem hi];exact List.getElem_mem hi
  exact hdr _ hm) (Lib.hid hdc)
 rw [hr.out]at this
 exact this
theorem cell_dims(w:World)(ds:List Int)(t:TypeId)(H:Nat)(hH:w.heap.size=H):∀i,i<ds.length→(w.alloc (.cells (ds.map (Value.int .i64)).toArray t)).cell? ⟨H,i,none⟩=some (.int .i64 (ds.getD i 0)):=by
 subst hH
 intro i hi
 rw [World.cell?_alloc_at _ _ _ _ rfl,List.getD_eq_getElem?_getD,List.getElem?_eq_getElem hi]
 simp [hi]
theorem dims1{a:Int}(ha:1≤a∧a≤4):∀d∈[a],1≤d∧d≤4:=by intro d hd;simp at hd;subst hd;exact ha
theorem dims2{a b:Int}(ha:1≤a∧a≤4)(hb:1≤b∧b≤4):∀d∈[a,b],1≤d∧d≤4:=by intro d hd;simp at hd;rcases hd with rfl|rfl<;>assumption
theorem dims3{a b c:Int}(ha:1≤a∧a≤4)(hb:1≤b∧b≤4)(hc:1≤c∧c≤4):∀d∈[a,b,c],1≤d∧d≤4:=by intro d hd;simp at hd;rcases hd with rfl|rfl|rfl<;>assumption
theorem alloc_drewN'(w:World)(n:Nat)(o:Obj):(w.drewN n).alloc o=(w.alloc o).drewN n:=rfl
theorem RepE.form{S:Nat→Prop}{w:World}{e:Ex}{v:Value}(h:RepE S w e v):∃a cap,v= .slice a e.args.length cap:=by cases h;exact⟨_,_,rfl⟩
theorem expr_zero(s:Nat)(lv ev:Value)(zs:List Int)(env:List (ByteArray × Int)):ExprOK s lv ev zs env 0:=by
 unfold ExprOK
 intro dim p P left deep r X hr hP hdeep hd1 hd4 hs hX hl he hp hleft hleft2
 subst hP
 suffices h:Calls Tryz.prog 30 #[.pointer (some ⟨s,0,none⟩),.int .i64 dim,.int .i64 deep,ev] (X.src s lv p left) (ExPost s lv X r)by rw [hX]at h;exact h
 clear hX
 obtain⟨E,p',l'⟩:=r
 have HL:Hid (leafF zs env dim p left=(E,p',l')):=Lib.hid hr.out
 have hc:costN 0=8:=rfl
 rw [hc]at hp hleft
 have h6:6≤deep:=by omega
 clear hdeep
 go_enter Tryz.func30,Tryz.ntmps30
 go_wp2_with fail
 refine(leaf_any s lv zs p _ left _ _ env _ rfl (by omega) (by omega) (by simp;omega) (by simp [go_sem,hs]) (Lib.hid (by(repeat' (first|(with_reducible exact hl.out)|(with_reducible refine ListAt.alloc ?_ _)|(with_reducible refine ListAt.grow ?_ _ _)|(with_reducible refine ListAt.drewN ?_ _)|(with_reducible refine ListAt.src ?_ _ _ _))))) (Lib.hid (by(repeat' (first|(with_reducible exact he.out)|(with_reducible refine EnvAt.alloc ?_ _)|(with_reducible refine EnvAt.grow ?_ _ _)|(with_reducible refine EnvAt.drewN ?_ _)|(with_reducible refine EnvAt.src ?_ _ _ _))))) (by omega) (by omega) (by omega)).mono ?_
 rintro e w' ⟨v,bs,d,rfl,rfl,hrep⟩
 rw [HL.out]at hrep
 simp only [HL.out]
 have H1:=Lib.hid hrep
 obtain⟨va,vc,hv⟩:=hrep.form
 subst hv
 clear hrep
 go_wp2_with fail
 go_returns
 refine ExPost.of_eq (P':=(p':Int)) rfl rfl rfl (.of_below belB) (((H1.out.eqw (w':=((X.src s lv (p':Int) l').alloc (.cells #[.int .i64 0,.int .i64 0,.int .i64 0,.int .i64 0,.string ⟨#[]⟩,.slice none 0 0] 27)).grow bs d) (by simp [go_sem,hs,alloc_drewN'])).lift0 ?_ ?_ d).mono ?_)
 all_goals first
  |(intro b hb;simp at hb;omega)
  |(simp;done)
  |(simp;omega)
theorem expr_low(s:Nat)(lv ev:Value)(zs:List Int)(env:List (ByteArray × Int))(n:Nat)(dim:Int)(p:Nat)(left deep:Int)(E:Ex)(p':Nat)(l':Int)(X:World)(hr:Hid (leafF zs env dim p left=(E,p',l')))(hleft0:left≤0)(hdeep:deep=5-n)(hn:n≤4)(hd1:1≤dim)(hd4:dim≤4)(hs:s<X.heap.size)
 (hl:Hid (ListAt X s lv zs)) (he:Hid (EnvAt X s ev env)) (hp:p≤900000) (hleft:-900000≤left) (hleft2:left≤900000):Calls Tryz.prog 30 #[.pointer (some ⟨s,0,none⟩),.int .i64 dim,.int .i64 deep,ev] (X.src s lv p left) (ExPost s lv X (E,p',l')):=by
 have h6:deep<6:=by omega
 have HL:=hr
 go_enter Tryz.func30,Tryz.ntmps30
 go_wp2_with fail
 refine(leaf_any s lv zs p _ left _ _ env _ rfl (by omega) (by omega) (by simp;omega) (by simp [go_sem,hs]) (Lib.hid (by(repeat' (first|(with_reducible exact hl.out)|(with_reducible refine ListAt.alloc ?_ _)|(with_reducible refine ListAt.grow ?_ _ _)|(with_reducible refine ListAt.drewN ?_ _)|(with_reducible refine ListAt.src ?_ _ _ _))))) (Lib.hid (by(repeat' (first|(with_reducible exact he.out)|(with_reducible refine EnvAt.alloc ?_ _)|(with_reducible refine EnvAt.grow ?_ _ _)|(with_reducible refine EnvAt.drewN ?_ _)|(with_reducible refine EnvAt.src ?_ _ _ _))))) (by omega) (by omega) (by omega)).mono ?_
 rintro e w' ⟨v,bs,d,rfl,rfl,hrep⟩
 rw [HL.out]at hrep
 simp only [HL.out]
 have H1:=Lib.hid hrep
 obtain⟨va,vc,hv⟩:=hrep.form
 subst hv
 clear hrep
 go_wp2_with fail
 go_returns
 refine ExPost.of_eq (P':=(p':Int)) rfl rfl rfl (.of_below belB) (((H1.out.eqw (w':=((X.src s lv (p':Int) l').alloc (.cells #[.int .i64 0,.int .i64 0,.int .i64 0,.int .i64 0,.string ⟨#[]⟩,.slice none 0 0] 27)).grow bs d) (by simp [go_sem,hs,alloc_drewN'])).lift0 ?_ ?_ d).mono ?_)
 all_goals first
  |(intro b hb;simp at hb;omega)
  |(simp;done)
  |(simp;omega)
theorem expr_b0
 (s:Nat) (lv ev:Value) (zs:List Int) (env:List (ByteArray × Int)) (n:Nat) (IH:Hid (ExprOK s lv ev zs env n)) (dim:Int) (p:Nat) (left deep:Int) (E:Ex) (p':Nat) (l':Int) (kk:Int) (X:World) (hr:Hid (exprF zs env (n+1) dim p left=(E,p',l'))) (HK:Hid (nextV zs p 14=kk)) (hleft0:0<left) (hdeep:Hid (deep=5-n)) (hn:n≤4) (hd4:dim≤4) (hs:s<X.heap.size) (hl:Hid (ListAt X s lv zs)) (he:Hid (EnvAt X s ev env)) (hp:p+(3*costN n+3)≤900000) (hleft:-900000≤left-(3*(costN n:Int)+3)) (hleft2:left≤900000)
 (hd1:dim=1) (hkk:kk=0):(Calls Tryz.prog 30 #[.pointer (some ⟨s,0,none⟩),.int .i64 dim,.int .i64 deep,ev] (X.src s lv p left) (ExPost s lv X (E,p',l'))):=by
 subst hd1
 subst hkk
 have hpr:prodF zs p 1=some (17,[1,1],p+1):=by simp [prodF,HK.out]
 have hF:=exprF_some zs env n _ p left hleft0 hpr
 rw [hr.out]at hF
 generalize hll:nodeF (exprF zs env n) [1,1] (p+1) (left-2)=rr at hF
 obtain⟨ll,pp,le⟩:=rr
 simp only [Prod.mk.injEq]at hF
 obtain⟨rfl,rfl,rfl⟩:=hF
 have HLL:=Lib.hid hll
 clear hll hpr
 have h6:deep<6:=by have:=hdeep.out;omega
 have hc8:=costN_8 n
 go_enter Tryz.func30,Tryz.ntmps30
 go_wp2_with fail
 refine(next_any s lv zs p p (left-2) _ _ rfl (by simp;omega) (by simp [go_sem,hs]) (by(repeat' (first|(with_reducible exact hl.out)|(with_reducible refine ListAt.alloc ?_ _)|(with_reducible refine ListAt.grow ?_ _ _)|(with_reducible refine ListAt.drewN ?_ _)|(with_reducible refine ListAt.src ?_ _ _ _)))) (by omega) (by omega)).mono ?_
 rintro e w' ⟨rfl,n1,rfl⟩
 rw [HK.out]
 go_wp2_with fail
 refine(node_any2 s lv ev zs env n IH _ _ [1,1] _ (p+1) ((p:Int)+1) _ ll p' l' _ HLL (by omega) (by omega) (by have:=hdeep.out;omega) (by omega) (by simp;omega) (by simp [go_sem,hs]) (Lib.hid (by(repeat' (first|(with_reducible exact hl.out)|(with_reducible refine ListAt.alloc ?_ _)|(with_reducible refine ListAt.grow ?_ _ _)|(with_reducible refine ListAt.drewN ?_ _)|(with_reducible refine ListAt.src ?_ _ _ _))))) (Lib.hid (by(repeat' (first|(with_reducible exact he.out)|(with_reducible refine EnvAt.alloc ?_ _)|(with_reducible refine EnvAt.grow ?_ _ _)|(with_reducible refine EnvAt.drewN ?_ _)|(with_reducible refine EnvAt.src ?_ _ _ _))))) (by omega) (by omega) (by omega) (by simp) (by simp) (by omega) (dims2 (by omega) (by omega)) (cell_dims _ [1,1] _ _ (by simp))).mono ?_
 rintro e w' ⟨v,bs,d,rfl,rfl,hrep⟩
 have H1:=Lib.hid hrep
 obtain⟨va,vc,hv⟩:=hrep.form
 subst hv
 clear hrep
 go_wp2_with fail
 go_returns
 refine ExPost.of_eq (P':=(p':Int)) rfl rfl rfl (.of_below belB) (((H1.out.eqw (w':=(((X.src s lv (p':Int) l').alloc (.cells #[.int .i64 0,.int .i64 0,.int .i64 0,.int .i64 0,.string ⟨#[]⟩,.slice none 0 0] 27)).alloc (.cells #[.int .i64 1,.int .i64 1] 3)).grow bs d) (by simp [go_sem,hs,alloc_drewN'])).lift0 ?_ ?_ d).mono ?_)
 all_goals first
  |(intro b hb;simp at hb;omega)
  |(simp;done)
  |(simp;omega)
theorem expr_b1
 (s:Nat) (lv ev:Value) (zs:List Int) (env:List (ByteArray × Int)) (n:Nat) (IH:Hid (ExprOK s lv ev zs env n)) (dim:Int) (p:Nat) (left deep:Int) (E:Ex) (p':Nat) (l':Int) (kk:Int) (X:World) (hr:Hid (exprF zs env (n+1) dim p left=(E,p',l'))) (HK:Hid (nextV zs p 14=kk)) (hleft0:0<left) (hdeep:Hid (deep=5-n)) (hn:n≤4) (hd4:dim≤4) (hs:s<X.heap.size) (hl:Hid (ListAt X s lv zs)) (he:Hid (EnvAt X s ev env)) (hp:p+(3*costN n+3)≤900000) (hleft:-900000≤left-(3*(costN n:Int)+3)) (hleft2:left≤900000)
 (hd1:dim=1) (hkk:kk=1):(Calls Tryz.prog 30 #[.pointer (some ⟨s,0,none⟩),.int .i64 dim,.int .i64 deep,ev] (X.src s lv p left) (ExPost s lv X (E,p',l'))):=by
 subst hd1
 subst hkk
 have hpr:prodF zs p 1=some (18,[1,1],p+1):=by simp [prodF,HK.out]
 have hF:=exprF_some zs env n _ p left hleft0 hpr
 rw [hr.out]at hF
 generalize hll:nodeF (exprF zs env n) [1,1] (p+1) (left-2)=rr at hF
 obtain⟨ll,pp,le⟩:=rr
 simp only [Prod.mk.injEq]at hF
 obtain⟨rfl,rfl,rfl⟩:=hF
 have HLL:=Lib.hid hll
 clear hll hpr
 have h6:deep<6:=by have:=hdeep.out;omega
 have hc8:=costN_8 n
 go_enter Tryz.func30,Tryz.ntmps30
 go_wp2_with fail
 refine(next_any s lv zs p p (left-2) _ _ rfl (by simp;omega) (by simp [go_sem,hs]) (by(repeat' (first|(with_reducible exact hl.out)|(with_reducible refine ListAt.alloc ?_ _)|(with_reducible refine ListAt.grow ?_ _ _)|(with_reducible refine ListAt.drewN ?_ _)|(with_reducible refine ListAt.src ?_ _ _ _)))) (by omega) (by omega)).mono ?_
 rintro e w' ⟨rfl,n1,rfl⟩
 rw [HK.out]
 go_wp2_with fail
 refine(node_any2 s lv ev zs env n IH _ _ [1,1] _ (p+1) ((p:Int)+1) _ ll p' l' _ HLL (by omega) (by omega) (by have:=hdeep.out;omega) (by omega) (by simp;omega) (by simp [go_sem,hs]) (Lib.hid (by(repeat' (first|(with_reducible exact hl.out)|(with_reducible refine ListAt.alloc ?_ _)|(with_reducible refine ListAt.grow ?_ _ _)|(with_reducible refine ListAt.drewN ?_ _)|(with_reducible refine ListAt.src ?_ _ _ _))))) (Lib.hid (by(repeat' (first|(with_reducible exact he.out)|(with_reducible refine EnvAt.alloc ?_ _)|(with_reducible refine EnvAt.grow ?_ _ _)|(with_reducible refine EnvAt.drewN ?_ _)|(with_reducible refine EnvAt.src ?_ _ _ _))))) (by omega) (by omega) (by omega) (by simp) (by simp) (by omega) (dims2 (by omega) (by omega)) (cell_dims _ [1,1] _ _ (by simp))).mono ?_
 rintro e w' ⟨v,bs,d,rfl,rfl,hrep⟩
 have H1:=Lib.hid hrep
 obtain⟨va,vc,hv⟩:=hrep.form
 subst hv
 clear hrep
 go_wp2_with fail
 go_returns
 refine ExPost.of_eq (P':=(p':Int)) rfl rfl rfl (.of_below belB) (((H1.out.eqw (w':=(((X.src s lv (p':Int) l').alloc (.cells #[.int .i64 0,.int .i64 0,.int .i64 0,.int .i64 0,.string ⟨#[]⟩,.slice none 0 0] 27)).alloc (.cells #[.int .i64 1,.int .i64 1] 3)).grow bs d) (by simp [go_sem,hs,alloc_drewN'])).lift0 ?_ ?_ d).mono ?_)
 all_goals first
  |(intro b hb;simp at hb;omega)
  |(simp;done)
  |(simp;omega)
theorem expr_b2
 (s:Nat) (lv ev:Value) (zs:List Int) (env:List (ByteArray × Int)) (n:Nat) (IH:Hid (ExprOK s lv ev zs env n)) (dim:Int) (p:Nat) (left deep:Int) (E:Ex) (p':Nat) (l':Int) (kk:Int) (X:World) (hr:Hid (exprF zs env (n+1) dim p left=(E,p',l'))) (HK:Hid (nextV zs p 14=kk)) (hleft0:0<left) (hdeep:Hid (deep=5-n)) (hn:n≤4) (hd4:dim≤4) (hs:s<X.heap.size) (hl:Hid (ListAt X s lv zs)) (he:Hid (EnvAt X s ev env)) (hp:p+(3*costN n+3)≤900000) (hleft:-900000≤left-(3*(costN n:Int)+3)) (hleft2:left≤900000)
 (hd1:dim=1) (hkk:kk=2):(Calls Tryz.prog 30 #[.pointer (some ⟨s,0,none⟩),.int .i64 dim,.int .i64 deep,ev] (X.src s lv p left) (ExPost s lv X (E,p',l'))):=by
 subst hd1
 subst hkk
 have hpr:prodF zs p 1=some (5,[1],p+1):=by simp [prodF,HK.out]
 have hF:=exprF_some zs env n _ p left hleft0 hpr
 rw [hr.out]at hF
 generalize hll:nodeF (exprF zs env n) [1] (p+1) (left-2)=rr at hF
 obtain⟨ll,pp,le⟩:=rr
 simp only [Prod.mk.injEq]at hF
 obtain⟨rfl,rfl,rfl⟩:=hF
 have HLL:=Lib.hid hll
 clear hll hpr
 have h6:deep<6:=by have:=hdeep.out;omega
 have hc8:=costN_8 n
 go_enter Tryz.func30,Tryz.ntmps30
 go_wp2_with fail
 refine(next_any s lv zs p p (left-2) _ _ rfl (by simp;omega) (by simp [go_sem,hs]) (by(repeat' (first|(with_reducible exact hl.out)|(with_reducible refine ListAt.alloc ?_ _)|(with_reducible refine ListAt.grow ?_ _ _)|(with_reducible refine ListAt.drewN ?_ _)|(with_reducible refine ListAt.src ?_ _ _ _)))) (by omega) (by omega)).mono ?_
 rintro e w' ⟨rfl,n1,rfl⟩
 rw [HK.out]
 go_wp2_with fail
 refine(node_any2 s lv ev zs env n IH _ _ [1] _ (p+1) ((p:Int)+1) _ ll p' l' _ HLL (by omega) (by omega) (by have:=hdeep.out;omega) (by omega) (by simp;omega) (by simp [go_sem,hs]) (Lib.hid (by(repeat' (first|(with_reducible exact hl.out)|(with_reducible refine ListAt.alloc ?_ _)|(with_reducible refine ListAt.grow ?_ _ _)|(with_reducible refine ListAt.drewN ?_ _)|(with_reducible refine ListAt.src ?_ _ _ _))))) (Lib.hid (by(repeat' (first|(with_reducible exact he.out)|(with_reducible refine EnvAt.alloc ?_ _)|(with_reducible refine EnvAt.grow ?_ _ _)|(with_reducible refine EnvAt.drewN ?_ _)|(with_reducible refine EnvAt.src ?_ _ _ _))))) (by omega) (by omega) (by omega) (by simp) (by simp) (by omega) (dims1 (by omega)) (cell_dims _ [1] _ _ (by simp))).mono ?_
 rintro e w' ⟨v,bs,d,rfl,rfl,hrep⟩
 have H1:=Lib.hid hrep
 obtain⟨va,vc,hv⟩:=hrep.form
 subst hv
 clear hrep
 go_wp2_with fail
 go_returns
 refine ExPost.of_eq (P':=(p':Int)) rfl rfl rfl (.of_below belB) (((H1.out.eqw (w':=(((X.src s lv (p':Int) l').alloc (.cells #[.int .i64 0,.int .i64 0,.int .i64 0,.int .i64 0,.string ⟨#[]⟩,.slice none 0 0] 27)).alloc (.cells #[.int .i64 1] 3)).grow bs d) (by simp [go_sem,hs,alloc_drewN'])).lift0 ?_ ?_ d).mono ?_)
 all_goals first
  |(intro b hb;simp at hb;omega)
  |(simp;done)
  |(simp;omega)
theorem expr_b3
 (s:Nat) (lv ev:Value) (zs:List Int) (env:List (ByteArray × Int)) (n:Nat) (IH:Hid (ExprOK s lv ev zs env n)) (dim:Int) (p:Nat) (left deep:Int) (E:Ex) (p':Nat) (l':Int) (kk:Int) (X:World) (hr:Hid (exprF zs env (n+1) dim p left=(E,p',l'))) (HK:Hid (nextV zs p 14=kk)) (hleft0:0<left) (hdeep:Hid (deep=5-n)) (hn:n≤4) (hd4:dim≤4) (hs:s<X.heap.size) (hl:Hid (ListAt X s lv zs)) (he:Hid (EnvAt X s ev env)) (hp:p+(3*costN n+3)≤900000) (hleft:-900000≤left-(3*(costN n:Int)+3)) (hleft2:left≤900000)
 (hd1:dim=1) (hkk:kk=3):(Calls Tryz.prog 30 #[.pointer (some ⟨s,0,none⟩),.int .i64 dim,.int .i64 deep,ev] (X.src s lv p left) (ExPost s lv X (E,p',l'))):=by
 subst hd1
 subst hkk
 have hpr:prodF zs p 1=some (21,[1,1,1],p+1):=by simp [prodF,HK.out]
 have hF:=exprF_some zs env n _ p left hleft0 hpr
 rw [hr.out]at hF
 generalize hll:nodeF (exprF zs env n) [1,1,1] (p+1) (left-2)=rr at hF
 obtain⟨ll,pp,le⟩:=rr
 simp only [Prod.mk.injEq]at hF
 obtain⟨rfl,rfl,rfl⟩:=hF
 have HLL:=Lib.hid hll
 clear hll hpr
 have h6:deep<6:=by have:=hdeep.out;omega
 have hc8:=costN_8 n
 go_enter Tryz.func30,Tryz.ntmps30
 go_wp2_with fail
 refine(next_any s lv zs p p (left-2) _ _ rfl (by simp;omega) (by simp [go_sem,hs]) (by(repeat' (first|(with_reducible exact hl.out)|(with_reducible refine ListAt.alloc ?_ _)|(with_reducible refine ListAt.grow ?_ _ _)|(with_reducible refine ListAt.drewN ?_ _)|(with_reducible refine ListAt.src ?_ _ _ _)))) (by omega) (by omega)).mono ?_
 rintro e w' ⟨rfl,n1,rfl⟩
 rw [HK.out]
 go_wp2_with fail
 refine(node_any2 s lv ev zs env n IH _ _ [1,1,1] _ (p+1) ((p:Int)+1) _ ll p' l' _ HLL (by omega) (by omega) (by have:=hdeep.out;omega) (by omega) (by simp;omega) (by simp [go_sem,hs]) (Lib.hid (by(repeat' (first|(with_reducible exact hl.out)|(with_reducible refine ListAt.alloc ?_ _)|(with_reducible refine ListAt.grow ?_ _ _)|(with_reducible refine ListAt.drewN ?_ _)|(with_reducible refine ListAt.src ?_ _ _ _))))) (Lib.hid (by(repeat' (first|(with_reducible exact he.out)|(with_reducible refine EnvAt.alloc ?_ _)|(with_reducible refine EnvAt.grow ?_ _ _)|(with_reducible refine EnvAt.drewN ?_ _)|(with_reducible refine EnvAt.src ?_ _ _ _))))) (by omega) (by omega) (by omega) (by simp) (by simp) (by omega) (dims3 (by omega) (by omega) (by omega)) (cell_dims _ [1,1,1] _ _ (by simp))).mono ?_
 rintro e w' ⟨v,bs,d,rfl,rfl,hrep⟩
 have H1:=Lib.hid hrep
 obtain⟨va,vc,hv⟩:=hrep.form
 subst hv
 clear hrep
 go_wp2_with fail
 go_returns
 refine ExPost.of_eq (P':=(p':Int)) rfl rfl rfl (.of_below belB) (((H1.out.eqw (w':=(((X.src s lv (p':Int) l').alloc (.cells #[.int .i64 0,.int .i64 0,.int .i64 0,.int .i64 0,.string ⟨#[]⟩,.slice none 0 0] 27)).alloc (.cells #[.int .i64 1,.int .i64 1,.int .i64 1] 3)).grow bs d) (by simp [go_sem,hs,alloc_drewN'])).lift0 ?_ ?_ d).mono ?_)
 all_goals first
  |(intro b hb;simp at hb;omega)
  |(simp;done)
  |(simp;omega)
theorem expr_bcmp
 (s:Nat) (lv ev:Value) (zs:List Int) (env:List (ByteArray × Int)) (n:Nat) (IH:Hid (ExprOK s lv ev zs env n)) (dim:Int) (p:Nat) (left deep:Int) (E:Ex) (p':Nat) (l':Int) (kk:Int) (X:World) (hr:Hid (exprF zs env (n+1) dim p left=(E,p',l'))) (HK:Hid (nextV zs p 14=kk)) (hleft0:0<left) (hdeep:Hid (deep=5-n)) (hn:n≤4) (hd4:dim≤4) (hs:s<X.heap.size) (hl:Hid (ListAt X s lv zs)) (he:Hid (EnvAt X s ev env)) (hp:p+(3*costN n+3)≤900000) (hleft:-900000≤left-(3*(costN n:Int)+3)) (hleft2:left≤900000)
 (hd1:dim=1) (hkk:kk=4∨kk=5∨kk=6∨kk=7∨kk=8):(Calls Tryz.prog 30 #[.pointer (some ⟨s,0,none⟩),.int .i64 dim,.int .i64 deep,ev] (X.src s lv p left) (ExPost s lv X (E,p',l'))):=by
 subst hd1
 have hb1:=nextV_bd zs (p+1) 3 (by omega)
 have hb2:=nextV_bd zs (p+2) 6 (by omega)
 have hpr0:prodF zs p 1=some (11+nextV zs (p+2) 6,[2+nextV zs (p+1) 3,2+nextV zs (p+1) 3],p+3):=by
  rcases hkk with rfl|rfl|rfl|rfl|rfl<;>simp [prodF,HK.out]
 generalize hA:nextV zs (p+1) 3=a at hb1 hpr0
 generalize hC:nextV zs (p+2) 6=c at hb2 hpr0
 have HA:=Lib.hid hA
 have HC:=Lib.hid hC
 clear hA hC
 have hpr:=hpr0
 clear hpr0
 have hF:=exprF_some zs env n _ p left hleft0 hpr
 rw [hr.out]at hF
 generalize hll:nodeF (exprF zs env n) [2+a,2+a] (p+3) (left-2)=rr at hF
 obtain⟨ll,pp,le⟩:=rr
 simp only [Prod.mk.injEq]at hF
 obtain⟨rfl,rfl,rfl⟩:=hF
 have HLL:=Lib.hid hll
 clear hll hpr
 rcases hkk with rfl|rfl|rfl|rfl|rfl
 all_goals
  have h6:deep<6:=by have:=hdeep.out;omega
  have hc8:=costN_8 n
  go_enter Tryz.func30,Tryz.ntmps30
  go_wp2_with fail
  refine(next_any s lv zs p p (left-2) _ _ rfl (by simp;omega) (by simp [go_sem,hs]) (by(repeat' (first|(with_reducible exact hl.out)|(with_reducible refine ListAt.alloc ?_ _)|(with_reducible refine ListAt.grow ?_ _ _)|(with_reducible refine ListAt.drewN ?_ _)|(with_reducible refine ListAt.src ?_ _ _ _)))) (by omega) (by omega)).mono ?_
  rintro e w' ⟨rfl,n1,rfl⟩
  rw [HK.out]
  go_wp2_with fail
  refine(next_any s lv zs (p+1) (p+1) (left-2) _ _ (by simp) (by simp;omega) (by simp [go_sem,hs]) (by(repeat' (first|(with_reducible exact hl.out)|(with_reducible refine ListAt.alloc ?_ _)|(with_reducible refine ListAt.grow ?_ _ _)|(with_reducible refine ListAt.drewN ?_ _)|(with_reducible refine ListAt.src ?_ _ _ _)))) (by omega) (by omega)).mono ?_
  rintro e w' ⟨rfl,n2,rfl⟩
  rw [HA.out]
  go_wp2_with fail
  refine(next_any s lv zs (p+2) (p+1+1) (left-2) _ _ (by omega) (by simp;omega) (by simp [go_sem,hs]) (by(repeat' (first|(with_reducible exact hl.out)|(with_reducible refine ListAt.alloc ?_ _)|(with_reducible refine ListAt.grow ?_ _ _)|(with_reducible refine ListAt.drewN ?_ _)|(with_reducible refine ListAt.src ?_ _ _ _)))) (by omega) (by omega)).mono ?_
  rintro e w' ⟨rfl,n3,rfl⟩
  rw [HC.out]
  go_wp2_with fail
  refine(node_any2 s lv ev zs env n IH _ _ [2+a,2+a] _ (p+3) ((p:Int)+1+1+1) _ ll p' l' _ HLL (by omega) (by omega) (by have:=hdeep.out;omega) (by omega) (by simp;omega) (by simp [go_sem,hs]) (Lib.hid (by(repeat' (first|(with_reducible exact hl.out)|(with_reducible refine ListAt.alloc ?_ _)|(with_reducible refine ListAt.grow ?_ _ _)|(with_reducible refine ListAt.drewN ?_ _)|(with_reducible refine ListAt.src ?_ _ _ _))))) (Lib.hid (by(repeat' (first|(with_reducible exact he.out)|(with_reducible refine EnvAt.alloc ?_ _)|(with_reducible refine EnvAt.grow ?_ _ _)|(with_reducible refine EnvAt.drewN ?_ _)|(with_reducible refine EnvAt.src ?_ _ _ _))))) (by omega) (by omega) (by omega) (by simp) (by simp) (by omega) (dims2 (by omega) (by omega)) (cell_dims _ [2+a,2+a] _ _ (by simp))).mono ?_
  rintro e w' ⟨v,bs,d,rfl,rfl,hrep⟩
  have H1:=Lib.hid hrep
  obtain⟨va,vc,hv⟩:=hrep.form
  subst hv
  clear hrep
  go_wp2_with fail
  go_returns
  refine ExPost.of_eq (P':=(p':Int)) rfl rfl rfl (.of_below belB) (((H1.out.eqw (w':=(((X.src s lv (p':Int) l').alloc (.cells #[.int .i64 0,.int .i64 0,.int .i64 0,.int .i64 0,.string ⟨#[]⟩,.slice none 0 0] 27)).alloc (.cells #[.int .i64 (2+a),.int .i64 (2+a)] 3)).grow bs d) (by simp [go_sem,hs,alloc_drewN'])).lift0 ?_ ?_ d).mono ?_)
  all_goals first
   |(intro b hb;simp at hb;omega)
   |(simp;done)
   |(simp;omega)
theorem expr_bleaf
 (s:Nat) (lv ev:Value) (zs:List Int) (env:List (ByteArray × Int)) (n:Nat) (IH:Hid (ExprOK s lv ev zs env n)) (dim:Int) (p:Nat) (left deep:Int) (E:Ex) (p':Nat) (l':Int) (kk:Int) (X:World) (hr:Hid (exprF zs env (n+1) dim p left=(E,p',l'))) (HK:Hid (nextV zs p 14=kk)) (hleft0:0<left) (hdeep:Hid (deep=5-n)) (hn:n≤4) (hd4:dim≤4) (hs:s<X.heap.size) (hl:Hid (ListAt X s lv zs)) (he:Hid (EnvAt X s ev env)) (hp:p+(3*costN n+3)≤900000) (hleft:-900000≤left-(3*(costN n:Int)+3)) (hleft2:left≤900000)
 (hd1:dim=1) (hkk:kk=9∨kk=10∨kk=11∨kk=12∨kk=13):(Calls Tryz.prog 30 #[.pointer (some ⟨s,0,none⟩),.int .i64 dim,.int .i64 deep,ev] (X.src s lv p left) (ExPost s lv X (E,p',l'))):=by
 subst hd1
 have hpr:prodF zs p 1=none:=by
  rcases hkk with rfl|rfl|rfl|rfl|rfl<;>simp [prodF,HK.out]
 have hF:=exprF_none zs env n 1 p left hleft0 hpr
 rw [hr.out]at hF
 have HL:=Lib.hid hF.symm
 clear hF hpr
 rcases hkk with rfl|rfl|rfl|rfl|rfl
 all_goals
  have h6:deep<6:=by have:=hdeep.out;omega
  have hc8:=costN_8 n
  go_enter Tryz.func30,Tryz.ntmps30
  go_wp2_with fail
  refine(next_any s lv zs p p (left-2) _ _ rfl (by simp;omega) (by simp [go_sem,hs]) (by(repeat' (first|(with_reducible exact hl.out)|(with_reducible refine ListAt.alloc ?_ _)|(with_reducible refine ListAt.grow ?_ _ _)|(with_reducible refine ListAt.drewN ?_ _)|(with_reducible refine ListAt.src ?_ _ _ _)))) (by omega) (by omega)).mono ?_
  rintro e w' ⟨rfl,n1,rfl⟩
  rw [HK.out]
  go_wp2_with fail
  refine(leaf_any s lv zs (p+1) _ (left-2) _ _ env _ rfl (by omega) (by omega) (by simp;omega) (by simp [go_sem,hs]) (Lib.hid (by(repeat' (first|(with_reducible exact hl.out)|(with_reducible refine ListAt.alloc ?_ _)|(with_reducible refine ListAt.grow ?_ _ _)|(with_reducible refine ListAt.drewN ?_ _)|(with_reducible refine ListAt.src ?_ _ _ _))))) (Lib.hid (by(repeat' (first|(with_reducible exact he.out)|(with_reducible refine EnvAt.alloc ?_ _)|(with_reducible refine EnvAt.grow ?_ _ _)|(with_reducible refine EnvAt.drewN ?_ _)|(with_reducible refine EnvAt.src ?_ _ _ _))))) (by omega) (by omega) (by omega)).mono ?_
  rintro e w' ⟨v,bs,d,rfl,rfl,hrep⟩
  rw [HL.out]at hrep
  simp only [HL.out]
  have H1:=Lib.hid hrep
  obtain⟨va,vc,hv⟩:=hrep.form
  subst hv
  clear hrep
  go_wp2_with fail
  go_returns
  refine ExPost.of_eq (P':=(p':Int)) rfl rfl rfl (.of_below belB) (((H1.out.eqw (w':=((X.src s lv (p':Int) l').alloc (.cells #[.int .i64 0,.int .i64 0,.int .i64 0,.int .i64 0,.string ⟨#[]⟩,.slice none 0 0] 27)).grow bs d) (by simp [go_sem,hs,alloc_drewN'])).lift0 ?_ ?_ d).mono ?_)
  all_goals first
   |(intro b hb;simp at hb;omega)
   |(simp;done)
   |(simp;omega)
end Go.Proofs.YtfoefpoaomepbaaGreatDoor
