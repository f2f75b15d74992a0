import Derived.Test.YtlheailebbngiaaGreatDoorLEvX
import Derived.Test.YtlheailebbngiaaGreatDoorRows
import Derived.ProofKit
import Derived.SizedLaws
import Derived.Below
import Derived.Handed
import Derived.LaidLaws
import Derived.LaidSub
import Derived.Lay
import Derived.Stop.LaidErr
import Derived.MakeChecks
import Derived.Lib.LaidTab
set_option linter.all false
set_option maxHeartbeats 16000000
set_option maxRecDepth 1000000
namespace Go.Proofs.YtlheailebbngiaaGreatDoor
structure VwR where
 age:Int
 year:Int
 children:Int
 base:Int
 den:Int
 days:List Int
 years:List Int
def VwR.d(R:VwR)(i:Nat):Int:=if i<R.days.length then pick (R.days.getD i 0) 20000 else 0
def viewP(R:VwR):Vw:=⟨pick R.age 110,1900+pick R.year 200,pick R.children 8,R.d 0,R.d 1,R.d 2,R.d 3,R.d 4,R.d 5,R.d 6,mkN (pick R.base 1000000) (pick R.den 12+1),mkD (pick R.base 1000000) (pick R.den 12+1),(R.years.take 20).map fun z=>pick z 5000000⟩
theorem VwR.d_bd(R:VwR)(i:Nat):0≤R.d i∧R.d i<20000:=by
 unfold VwR.d
 split
 ·exact pick_bd _ 20000 (by omega)
 ·omega
theorem le_mul_of{a b d n:Int}(h0:0≤a)(hb:0≤b)(hd:1≤d)(h:a*d=n*b)(hn:n≤1000000000000):a≤1000000000000*b:=by
 have h1:a*1≤a*d:=Int.mul_le_mul_of_nonneg_left hd h0
 have h2:n*b≤1000000000000*b:=Int.mul_le_mul_of_nonneg_right hn hb
 omega
theorem mkN_nonneg{n d:Int}(h1:0≤n)(h2:1≤d):0≤mkN n d:=by
 unfold mkN lowN
 rw [if_neg (by omega),decide_eq_false (by omega),decide_eq_false (by omega)]
 split
 ·omega
 ·simp only [bne_self_eq_false,Bool.false_eq_true,if_false]
  exact Int.natCast_nonneg _
theorem viewP_ok(R:VwR):(viewP R).ok=true:=by
 have a:=pick_bd R.age 110 (by omega)
 have b:=pick_bd R.year 200 (by omega)
 have c:=pick_bd R.children 8 (by omega)
 have n:=pick_bd R.base 1000000 (by omega)
 have d:=pick_bd R.den 12 (by omega)
 have e:=mkE_small n.1 (by omega) (show 1≤pick R.den 12+1 by omega) (by omega)
 have v:=mk_vfrac (show pick R.den 12+1≠0 by omega) e
 have m:=mk_value n.1 (show 1≤pick R.den 12+1 by omega) e
 have nn:=mkN_nonneg n.1 (show 1≤pick R.den 12+1 by omega)
 have vb:=vfrac_bd v
 have le:=le_mul_of nn (by omega) (show 1≤pick R.den 12+1 by omega) m (by omega)
 have dd:∀i,daysOk (R.d i)=true:=fun i=>by
  have:=R.d_bd i
  unfold daysOk
  exact decide_eq_true (by omega)
 have yy:yearsOk ((R.years.take 20).map fun z=>pick z 5000000)=true:=by
  unfold yearsOk
  rw [decide_eq_true (by rw [List.length_map,List.length_take];omega),Bool.true_and,List.all_eq_true]
  intro x hx
  obtain⟨z,-,rfl⟩:=List.mem_map.1 hx
  have:=pick_bd z 5000000 (by omega)
  exact decide_eq_true (by omega)
 unfold Vw.ok viewP
 dsimp only
 rw [decide_eq_true ⟨by omega,by omega,by omega,by omega,by omega,by omega⟩,dd,dd,dd,dd,dd,dd,dd,v,decide_eq_true ⟨nn,le⟩,yy]
 rfl
theorem viewP_len(R:VwR):(viewP R).years.length≤20:=by
 show((R.years.take 20).map fun z=>pick z 5000000).length≤20
 rw [List.length_map,List.length_take];omega
end Go.Proofs.YtlheailebbngiaaGreatDoor
namespace Go.Proofs.YtlheailebbngiaaGreatDoor
open Go.RowKit
theorem IntsAt.growsG{w w':World}{v:Value}{zs:List Int}(h:IntsAt w v zs)(hg:w.Grows w'):IntsAt w' v zs:=by
 obtain⟨bs,d,rfl⟩:=hg
 exact h.grow bs d
theorem IntsAt.list{w:World}{v:Value}{zs:List Int}{s:Nat}(h:IntsAt w v zs)(hs:w.heap.size≤s):ListAt w s v zs:=by
 obtain⟨h0,-,a,cap,hv,h1⟩:=h
 refine⟨h0,a,cap,hv,h1.imp id ?_⟩
 rintro⟨b,off,ha,hb,hc⟩
 exact⟨b,off,ha,hb,by omega,hc⟩
theorem env_no(w:World)(s:Nat):EnvAt w s (.slice none 0 0) []:=⟨by decide,fun _ h=>by(cases h),none,0,rfl,.inl rfl⟩
theorem EnvAt.of_bind{w:World}{v:Value}{l:List (ByteArray × Int)}(h:BindAt w v l)(hn:∀x∈l,x.1.size≤140737488355328):EnvAt w w.heap.size v l:=by
 obtain⟨h0,a,cap,hv,h1⟩:=h
 refine⟨h0,hn,a,cap,hv,h1.imp id ?_⟩
 rintro⟨b,off,ha,hb,hc⟩
 exact⟨b,off,ha,hb,by omega,hc⟩
def ExC(v:Vw)(se:Value)(env:List (ByteArray × Val))(E:Ex)(r:Val × Int):Prop:=∀(ya:Option Addr) (yc:Nat) (w':World) (a:Option Addr) (cap:Nat),RepE (fun _=>True) w' E (.slice a E.args.length cap)→Tab w'→YrAt w' (.slice ya v.years.length yc) v.years→StpAt w' se env→
 Calls Tryz.prog 29 #[.agg #[.int .i64 E.op,.int .i64 E.num,.int .i64 E.den,.int .i64 E.dim,.string E.name,.slice a E.args.length cap],vwV v (.slice ya v.years.length yc),se] w' fun e w''=>e= .returned (.tuple #[.agg #[.int .i64 r.1.dim,.bool r.1.yes,.int .i64 r.1.n,.int .i64 r.1.d],.int .i64 r.2])∧w'.Grows w''
theorem exC{v:Vw}(hrng:VwRng v){se:Value}{env:List (ByteArray × Val)}(hE:∀p∈env,p.2.ok=true){E:Ex}{r:Val × Int}(hr:exprF' v env E=r)(hb:E.size≤2305843009213693952):ExC v se env E r:=by
 subst hr
 intro ya yc w' a cap hR ht hy hs
 exact Expr2_any (fun _=>True) v _ se env E a cap w' hR hb ht hy hrng hs (fun p hp=>Val.ok_rng (hE p hp))
theorem topF_size(zs:List Int)(env:List (ByteArray × Int))(dim:Int):(topF zs env dim).size≤1000000:=by
 have h1:=exprF_size zs env 5 dim 0 24
 have h2:=leafF_size zs env dim (exprF zs env 5 dim 0 24).2.1 0
 have hc5:costN 5=2307:=rfl
 unfold topF
 split<;>omega
theorem viewP_rng(R:VwR):VwRng (viewP R):=by
 have h:=viewP_ok R
 unfold Vw.ok at h
 simp only [Bool.and_eq_true]at h
 have:=vfrac_bd h.1.2.1
 exact⟨⟨by omega,by omega⟩,⟨by omega,by omega⟩⟩
end Go.Proofs.YtlheailebbngiaaGreatDoor
namespace Go.Proofs.YtlheailebbngiaaGreatDoor
open Go.ChangeShapes Go.WideShapes Go.ChangeAt Go.RowKit
abbrev laidsX:List (String × DataW Unit):=[("math/bits.deBruijn32tab",Rows.laid_math_bits_deBruijn32tab),("math/bits.deBruijn64tab",Rows.laid_math_bits_deBruijn64tab),("internal/strconv.uint64pow10",Rows.laid_internal_strconv_uint64pow10)]
theorem pow10_data:(Rows.laid_internal_strconv_uint64pow10:DataW Unit)=Lib.tabData .u64 Lib.pow10Tab:=by kernel_rfl
theorem laids_plain{W:World}(h:laidMetH Tryz.prog laidsX W):laidMet Tryz.prog laidsX W:=by
 rwa [MakeChecks.laidMetH_plain _ _ _ (by kernel_rfl)]at h
theorem below_trodAll{H:Type}{enc:TypeId × Value→H}{P:Program}{W W':World}(hl:laidOutB P=true)(hb:Below W.heap.size W W'):∀(ts:List TypeId) (vs:List Value) (ds:List (DataW H)) (ps:List MemPlace),(∀t∈ts,P.readableRec t=true∧t<P.types.size)→
 DataW.TrodAll enc P W 0 (fun _=>true) true ts vs ds ps→(∀x∈ps,x.block<W.heap.size)→DataW.TrodAll enc P W' 0 (fun b=>decide (b<W.heap.size)) true ts vs ds ps
 | [],[],[],_,_,h,_=>h
 |t::ts,v::vs,d::ds,ps,hr,h,hlt=>by
  obtain⟨p,q,h1,h2,rfl⟩:=h
  exact⟨p,q,Below.trod hl (hr t List.mem_cons_self).1 (hr t List.mem_cons_self).2 h1 hb fun x hx=>hlt x (List.mem_append_left _ hx),
   below_trodAll hl hb ts vs ds q (fun t ht=>hr t (List.mem_cons_of_mem _ ht)) h2 fun x hx=>hlt x (List.mem_append_right _ hx),rfl⟩
 | [],_::_,_,_,_,h,_=>h.elim
 | [],[],_::_,_,_,h,_=>h.elim
 |_::_,[],_,_,_,h,_=>h.elim
 |_::_,_::_,[],_,_,h,_=>h.elim
def LawWalk{H:Type}(enc:TypeId × Value→H)(P:Program)(f:FuncId)(ts:List TypeId):Prop:=
 ∀(W:World) (base:Nat) (args:Array Value) (ds:List (DataW H)) (p:List MemPlace),laidMetH P laidsX W→(∀(j:Nat) t v,ts[j]? =some t→args[j]? =some v→Value.okWide P W .any base t v)→
  DataW.TrodAll enc P W 0 (fun _=>true) true ts args.toList ds p→(∀(j:Nat) t d,ts[j]? =some t→ds[j]? =some d→fits P t d)→
  Calls P f args W fun e W'=>e= .returned (.bool true)∧Below W.heap.size W W'
theorem law_post{H:Type}{enc:TypeId × Value→H}{P:Program}{fn:Func}{s:ChangeSpec}{W W':World}{args:Array Value}{ds gs:List (DataW H)}{before:List MemPlace}(hl:laidOutB P=true)
 (hr:fn.params.toList.all (fun t=>P.readableRec t&&decide (t<P.types.size))=true) (hres:fn.resultTypes=#[4]) (hu:P.underlying 4=some .bool) (hvars:s.vars= [])
 (hspec:∀ds:List (DataW H),ds.length=fn.params.size→s.fn H (ds++[])= {results:=[.lit (.bool true)],args:=ds})
 (hW:DataW.Whole enc P fn.params.toList s.vars false W args.toList ds gs before) (hb:Below W.heap.size W W'):s.post enc P fn false true false false W args (.bool true) W':=by
 have hW':=hW
 obtain⟨p,q,hA,hV,rfl,hfz,hnd⟩:=hW
 rw [hvars]at hV
 obtain⟨rfl,rfl⟩:=trodVars_none hV
 have hlen:∀(ts:List TypeId) (vs:List Value) (ds:List (DataW H)) (ps:List MemPlace),DataW.TrodAll enc P W 0 (fun _=>true) true ts vs ds ps→ds.length=ts.length:=by
  intro ts
  induction ts with
  |nil=>intro vs ds ps h;cases vs<;>cases ds<;>simp_all [DataW.TrodAll]
  |cons t ts ih=>
   intro vs ds ps h
   cases vs with
   |nil=>exact h.elim
   |cons v vs=>
    cases ds with
    |nil=>exact h.elim
    |cons d ds=>
     obtain⟨_,_,_,h2,_⟩:=h
     simp [ih _ _ _ h2]
 have hds:ds.length=fn.params.size:=by rw [hlen _ _ _ _ hA];simp
 have hs:=hspec ds hds
 have hlt:∀x∈p,x.block<W.heap.size:=fun x hx=>by have:=hW'.lt x (by simpa using hx);simpa using this
 refine⟨ds,[],p++[],[],p,[],hW', ?_, ?_, ?_,hb.frame _,fun h=>by cases h⟩
 ·rw [hs,hres]
  exact trodAll_mk1 (shut_bool hu _)
 ·rw [hs]
  refine below_trodAll hl hb _ _ _ _ (fun t ht=>?_) hA hlt
  have:=List.all_eq_true.1 hr t ht
  simpa using this
 ·rw [hs,hvars];rfl
theorem law_lift{H:Type}{enc:TypeId × Value→H}{C:Checked}{os:Os}{f:FuncId}{fn:Func}{s:ChangeSpec}{conds:List PathCond}(own:ownKnob C.prog.godebug=none)(started:os.Started)(noInit:C.prog.inits.idxOf? f=none)(hfn:C.prog.funcs[f]? =some fn)
 (witness:∃(w:World) (tape:Tape) (i:Input),w.os=os∧(w.forCall tape i).Shaped C.prog∧i.vars= []∧Input.okWide C.prog (w.forCall tape i) .any w.heap.size f i∧
  ((s.pre enc C.prog fn conds false (w.forCall tape i).memory i.args∧laidMetH C.prog laidsX (w.forCall tape i).memory)∧sizedMet enc C.prog fn (OpenSpec.ofChange s) false (w.forCall tape i).memory i.args)∧({}:Assume).holds C.prog (lone (Frame.enter C.prog f i.args .normal) [] (w.forCall tape i)))
 (hl:laidOutB C.prog=true) (hr:fn.params.toList.all (fun t=>C.prog.readableRec t&&decide (t<C.prog.types.size))=true) (hres:fn.resultTypes=#[4]) (hu:C.prog.underlying 4=some .bool) (hvars:s.vars= [])
 (hspec:∀ds:List (DataW H),ds.length=fn.params.size→s.fn H (ds++[])= {results:=[.lit (.bool true)],args:=ds}) (walk:LawWalk enc C.prog f fn.params.toList) :
 ReturnsInHanded {} C os f .any (fun w args=>(s.pre enc C.prog fn conds false w args∧laidMetH C.prog laidsX w)∧sizedMet enc C.prog fn (OpenSpec.ofChange s) false w args) (s.post enc C.prog fn false true false false):=by
 refine returnsInHanded_of_change_and (C:=C) (X:=fun w _=>laidMetH C.prog laidsX w) (fun _ _ _ hh h=>h.of_heap hh) own started noInit hfn witness ?_
 intro W base args ds gs before hval hW _ hsz hL _
 have hW':=hW
 obtain⟨p,q,hA,hV,rfl,hfz,hnd⟩:=hW
 have e:s.vars= []:=hvars
 rw [e]at hV
 obtain⟨rfl,rfl⟩:=trodVars_none hV
 refine(walk W base args ds p hL (fun j t v ht ha=>hval j t v (by simpa using ht) ha) hA (fun j t d ht hd n hn=>?_)).mono fun e W' ⟨he,hb⟩=>⟨_,he,law_post hl hr hres hu hvars hspec hW' hb⟩
 have:=List.all_eq_true.1 hsz n (DataW.weights_mem_each (j:=j) (by rw [List.getElem?_append_left (List.getElem?_eq_some_iff.1 ht).1];exact ht) (by rw [List.append_nil];exact hd) n hn)
 exact of_decide_eq_true this
theorem own:ownKnob Tryz.prog.godebug=none:=by kernel_rfl
theorem laidOut:laidOutB Tryz.prog=true:=by kernel_rfl
theorem laidsMet(os:Os)(args:Array Value):laidMetH Tryz.prog laidsX ((World.laidAll Tryz.prog os laidsX).forCall (fun _ _=>0) ⟨#[],args,[]⟩).memory:=by
 rw [MakeChecks.laidMetH_plain _ _ _ (by kernel_rfl)]
 exact laidMet_laidAll args (by kernel_rfl) (by kernel_rfl)
theorem tab_of_laid{W:World}(h:laidMetH Tryz.prog laidsX W):Tab W:=by
 have h2:=(laids_plain h).tail.tail
 rw [pow10_data]at h2
 exact Lib.tabIs_of_head (P:=Tryz.prog) (g:=2) (t:=261) (n:=20) (e:=155) (by kernel_rfl) (by kernel_rfl) (by kernel_rfl) (by kernel_rfl) (by kernel_rfl) (by kernel_rfl) h2
end Go.Proofs.YtlheailebbngiaaGreatDoor
