import Derived.Test.YthionhbjmheimaaDoorLFrMd
import Derived.Test.YthionhbjmheimaaDoorLShelf3
import Derived.Lib.OthersKept
import Derived.BigRegion
import Derived.Test.YthionhbjmheimaaDoorRows
import Derived.ProofKit
import Derived.SizedLaws
import Derived.Below
import Derived.Handed
import Derived.LaidLaws
import Derived.LaidSub
import Derived.Lay
import Derived.Stop.LaidErr
import Derived.MakeChecks
import Derived.Lib.LaidTab
set_option linter.all false
set_option maxHeartbeats 16000000
set_option maxRecDepth 1000000
namespace Go.Proofs.YthionhbjmheimaaDoor
open Go.RowKit

theorem redP_go{p:Int}{f:Nat}{A B:Int}(h:A % p=0∧B % p=0):redP p (f+1) A B=redP p f (A / p) (B / p):=by rw [redP,if_pos h]
def RedAt(p:Int)(f0:Nat)(A0 B0:Int)(f:Nat)(A B:Int):Prop:=redP p f A B=redP p f0 A0 B0∧B<p ^ f
theorem RedAt.next{p:Int}{f0:Nat}{A0 B0:Int}{f:Nat}{A B:Int}(hp:2≤p)(h:RedAt p f0 A0 B0 f A B)(hB:1≤B)(hm:A % p=0∧B % p=0):∃g,RedAt p f0 A0 B0 g (A / p) (B / p)∧1≤B / p∧B / p<B:=by
 obtain⟨h1,h2⟩:=h
 cases f with
 |zero=>simp at h2;omega
 |succ g=>
  have e:=Int.mul_ediv_add_emod B p
  rw [hm.2,Int.add_zero]at e
  have hq:1≤B / p:=by
   rcases Int.lt_or_le (B / p) 1 with h|h
   ·have:p*(B / p)≤p*0:=Int.mul_le_mul_of_nonneg_left (by omega) (by omega)
    omega
   ·exact h
  refine⟨g,⟨by rw [←h1,redP_go hm], ?_⟩,hq, ?_⟩
  ·rw [Int.pow_succ,←e,Int.mul_comm _ p]at h2
   exact Int.lt_of_mul_lt_mul_left h2 (by omega)
  ·have:2*(B / p)≤p*(B / p):=Int.mul_le_mul_of_nonneg_right hp (by omega)
   omega
def Tab(w:World):Prop:=Lib.TabIs Tryd.prog w "internal/strconv.uint64pow10" .u64 Lib.pow10Tab
theorem Tab.below{w w':World}(h:Tab w)(hb:Below w.heap.size w w'):Tab w':=by
 unfold Tab Lib.TabIs World.var? at *
 cases hg:Program.globalNamed Tryd.prog "internal/strconv.uint64pow10" with
 |none=>simp [hg]at h
 |some g=>
  simp only [hg,Option.bind_some]at h ⊢
  have hlt:g<w.heap.size:=by
   rcases Nat.lt_or_ge g w.heap.size with h'|h'
   ·exact h'
   ·rw [Array.getElem?_eq_none h']at h;simp at h
  rw [hb.block g hlt]
  exact h
theorem Tab.grow{w:World}(h:Tab w)(bs:Array Obj)(d:Nat):Tab (w.grow bs d):=h.below ((Below.refl _ _).grow (Nat.le_refl _) _ _)
theorem Tab.alloc{w:World}(h:Tab w)(o:Obj):Tab (w.alloc o):=h.below ((Below.refl _ _).alloc (Nat.le_refl _) _)
theorem Tab.drewN{w:World}(h:Tab w)(n:Nat):Tab (w.drewN n):=h.below ⟨rfl,rfl,rfl,Nat.le_refl _,fun _ _=>rfl⟩
theorem Tab.grows{w w':World}(h:Tab w)(hg:w.Grows w'):Tab w':=h.below hg.below
theorem Itoa_any(n:Int)(h0:-9223372036854775808≤n)(h1:n≤9223372036854775807)(w:World)(ht:Tab w):Calls Tryd.prog 36 #[.int .i64 n] w fun e w'=>e= .returned (.string ⟨(Lib.itoa n).toArray⟩)∧w.Grows w':=
 (Tryd.strconv_Itoa n h0 h1 w ht).mono fun e w' ⟨he,k,os,hw⟩=>⟨he,by
  subst hw
  refine .of_below ⟨rfl,rfl,rfl,by simp [Sort.grow,World.drewN],fun j hj=>?_⟩
  simp only [Sort.grow,World.drewN]
  rw [Array.getElem?_append_left hj]⟩
theorem Itoa_digit(x:Int)(h0:0≤x)(h1:x≤9)(w:World):Calls Tryd.prog 36 #[.int .i64 x] w fun e w'=>e= .returned (.string ⟨(Lib.decDigits x.toNat).toArray⟩)∧w=w':=by
 obtain⟨i,rfl⟩:=Int.eq_ofNat_of_zero_le h0
 exact(Tryd.strconv_Itoa_small i (by omega) w).mono fun e w' ⟨he,hw⟩=>⟨he,hw.symm⟩
end Go.Proofs.YthionhbjmheimaaDoor
namespace Go.Proofs.YthionhbjmheimaaDoor
open Go.ChangeShapes Go.WideShapes Go.ChangeAt Go.RowKit
abbrev laidsX:List (String × DataW Unit):=[("math/bits.deBruijn32tab",Rows.laid_math_bits_deBruijn32tab),("math/bits.deBruijn64tab",Rows.laid_math_bits_deBruijn64tab),("internal/strconv.uint64pow10",Rows.laid_internal_strconv_uint64pow10)]
theorem pow10_data:(Rows.laid_internal_strconv_uint64pow10:DataW Unit)=Lib.tabData .u64 Lib.pow10Tab:=by kernel_rfl
theorem laids_plain{W:World}(h:laidMetH Tryd.prog laidsX W):laidMet Tryd.prog laidsX W:=by
 rwa [MakeChecks.laidMetH_plain _ _ _ (by kernel_rfl)]at h
theorem below_trodAll{H:Type}{enc:TypeId × Value→H}{P:Program}{W W':World}(hl:laidOutB P=true)(hb:Below W.heap.size W W'):∀(ts:List TypeId) (vs:List Value) (ds:List (DataW H)) (ps:List MemPlace),(∀t∈ts,P.readableRec t=true∧t<P.types.size)→
 DataW.TrodAll enc P W 0 (fun _=>true) true ts vs ds ps→(∀x∈ps,x.block<W.heap.size)→DataW.TrodAll enc P W' 0 (fun b=>decide (b<W.heap.size)) true ts vs ds ps
 | [],[],[],_,_,h,_=>h
 |t::ts,v::vs,d::ds,ps,hr,h,hlt=>by
  obtain⟨p,q,h1,h2,rfl⟩:=h
  exact⟨p,q,Below.trod hl (hr t List.mem_cons_self).1 (hr t List.mem_cons_self).2 h1 hb fun x hx=>hlt x (List.mem_append_left _ hx),
   below_trodAll hl hb ts vs ds q (fun t ht=>hr t (List.mem_cons_of_mem _ ht)) h2 fun x hx=>hlt x (List.mem_append_right _ hx),rfl⟩
 | [],_::_,_,_,_,h,_=>h.elim
 | [],[],_::_,_,_,h,_=>h.elim
 |_::_,[],_,_,_,h,_=>h.elim
 |_::_,_::_,[],_,_,h,_=>h.elim
def LawWalk{H:Type}(enc:TypeId × Value→H)(P:Program)(f:FuncId)(ts:List TypeId):Prop:=
 ∀(W:World) (base:Nat) (args:Array Value) (ds:List (DataW H)) (p:List MemPlace),laidMetH P laidsX W→(∀(j:Nat) t v,ts[j]? =some t→args[j]? =some v→Value.okWide P W .any base t v)→
  DataW.TrodAll enc P W 0 (fun _=>true) true ts args.toList ds p→(∀(j:Nat) t d,ts[j]? =some t→ds[j]? =some d→fits P t d)→
  Calls P f args W fun e W'=>e= .returned (.bool true)∧Below W.heap.size W W'
theorem law_post{H:Type}{enc:TypeId × Value→H}{P:Program}{fn:Func}{s:ChangeSpec}{W W':World}{args:Array Value}{ds gs:List (DataW H)}{before:List MemPlace}(hl:laidOutB P=true)
 (hr:fn.params.toList.all (fun t=>P.readableRec t&&decide (t<P.types.size))=true) (hres:fn.resultTypes=#[4]) (hu:P.underlying 4=some .bool) (hvars:s.vars= [])
 (hspec:∀ds:List (DataW H),ds.length=fn.params.size→s.fn H (ds++[])= {results:=[.lit (.bool true)],args:=ds})
 (hW:DataW.Whole enc P fn.params.toList s.vars false W args.toList ds gs before) (hb:Below W.heap.size W W'):s.post enc P fn false true false false W args (.bool true) W':=by
 have hW':=hW
 obtain⟨p,q,hA,hV,rfl,hfz,hnd⟩:=hW
 rw [hvars]at hV
 obtain⟨rfl,rfl⟩:=trodVars_none hV
 have hlen:∀(ts:List TypeId) (vs:List Value) (ds:List (DataW H)) (ps:List MemPlace),DataW.TrodAll enc P W 0 (fun _=>true) true ts vs ds ps→ds.length=ts.length:=by
  intro ts
  induction ts with
  |nil=>intro vs ds ps h;cases vs<;>cases ds<;>simp_all [DataW.TrodAll]
  |cons t ts ih=>
   intro vs ds ps h
   cases vs with
   |nil=>exact h.elim
   |cons v vs=>
    cases ds with
    |nil=>exact h.elim
    |cons d ds=>
     obtain⟨_,_,_,h2,_⟩:=h
     simp [ih _ _ _ h2]
 have hds:ds.length=fn.params.size:=by rw [hlen _ _ _ _ hA];simp
 have hs:=hspec ds hds
 have hlt:∀x∈p,x.block<W.heap.size:=fun x hx=>by have:=hW'.lt x (by simpa using hx);simpa using this
 refine⟨ds,[],p++[],[],p,[],hW', ?_, ?_, ?_,hb.frame _,fun h=>by cases h⟩
 ·rw [hs,hres]
  exact trodAll_mk1 (shut_bool hu _)
 ·rw [hs]
  refine below_trodAll hl hb _ _ _ _ (fun t ht=>?_) hA hlt
  have:=List.all_eq_true.1 hr t ht
  simpa using this
 ·rw [hs,hvars];rfl
theorem law_lift{H:Type}{enc:TypeId × Value→H}{C:Checked}{os:Os}{f:FuncId}{fn:Func}{s:ChangeSpec}{conds:List PathCond}(own:ownKnob C.prog.godebug=none)(started:os.Started)(noInit:C.prog.inits.idxOf? f=none)(hfn:C.prog.funcs[f]? =some fn)
 (witness:∃(w:World) (tape:Tape) (i:Input),w.os=os∧(w.forCall tape i).Shaped C.prog∧i.vars= []∧Input.okWide C.prog (w.forCall tape i) .any w.heap.size f i∧
  ((s.pre enc C.prog fn conds false (w.forCall tape i).memory i.args∧laidMetH C.prog laidsX (w.forCall tape i).memory)∧sizedMet enc C.prog fn (OpenSpec.ofChange s) false (w.forCall tape i).memory i.args)∧({}:Assume).holds C.prog (lone (Frame.enter C.prog f i.args .normal) [] (w.forCall tape i)))
 (hl:laidOutB C.prog=true) (hr:fn.params.toList.all (fun t=>C.prog.readableRec t&&decide (t<C.prog.types.size))=true) (hres:fn.resultTypes=#[4]) (hu:C.prog.underlying 4=some .bool) (hvars:s.vars= [])
 (hspec:∀ds:List (DataW H),ds.length=fn.params.size→s.fn H (ds++[])= {results:=[.lit (.bool true)],args:=ds}) (walk:LawWalk enc C.prog f fn.params.toList) :
 ReturnsInHanded {} C os f .any (fun w args=>(s.pre enc C.prog fn conds false w args∧laidMetH C.prog laidsX w)∧sizedMet enc C.prog fn (OpenSpec.ofChange s) false w args) (s.post enc C.prog fn false true false false):=by
 refine returnsInHanded_of_change_and (C:=C) (X:=fun w _=>laidMetH C.prog laidsX w) (fun _ _ _ hh h=>h.of_heap hh) own started noInit hfn witness ?_
 intro W base args ds gs before hval hW _ hsz hL _
 have hW':=hW
 obtain⟨p,q,hA,hV,rfl,hfz,hnd⟩:=hW
 have e:s.vars= []:=hvars
 rw [e]at hV
 obtain⟨rfl,rfl⟩:=trodVars_none hV
 refine(walk W base args ds p hL (fun j t v ht ha=>hval j t v (by simpa using ht) ha) hA (fun j t d ht hd n hn=>?_)).mono fun e W' ⟨he,hb⟩=>⟨_,he,law_post hl hr hres hu hvars hspec hW' hb⟩
 have:=List.all_eq_true.1 hsz n (DataW.weights_mem_each (j:=j) (by rw [List.getElem?_append_left (List.getElem?_eq_some_iff.1 ht).1];exact ht) (by rw [List.append_nil];exact hd) n hn)
 exact of_decide_eq_true this
theorem own:ownKnob Tryd.prog.godebug=none:=by kernel_rfl
theorem laidOut:laidOutB Tryd.prog=true:=by kernel_rfl
theorem laidsMet(os:Os)(args:Array Value):laidMetH Tryd.prog laidsX ((World.laidAll Tryd.prog os laidsX).forCall (fun _ _=>0) ⟨#[],args,[]⟩).memory:=by
 rw [MakeChecks.laidMetH_plain _ _ _ (by kernel_rfl)]
 exact laidMet_laidAll args (by kernel_rfl) (by kernel_rfl)
theorem tab_of_laid{W:World}(h:laidMetH Tryd.prog laidsX W):Tab W:=by
 have h2:=(laids_plain h).tail.tail
 rw [pow10_data]at h2
 exact Lib.tabIs_of_head (P:=Tryd.prog) (g:=2) (t:=161) (n:=20) (e:=100) (by kernel_rfl) (by kernel_rfl) (by kernel_rfl) (by kernel_rfl) (by kernel_rfl) (by kernel_rfl) h2
end Go.Proofs.YthionhbjmheimaaDoor
