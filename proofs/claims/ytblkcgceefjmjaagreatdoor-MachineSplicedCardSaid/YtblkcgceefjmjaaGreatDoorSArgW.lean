import Derived.Test.YtblkcgceefjmjaaGreatDoorMchTS
import Derived.Test.YtblkcgceefjmjaaGreatDoorSEvU
import Derived.Test.YtblkcgceefjmjaaGreatDoorRows
import Derived.ProofKit
import Derived.SizedLaws
import Derived.Below
import Derived.Handed
import Derived.LaidLaws
import Derived.LaidSub
import Derived.Lay
import Derived.Stop.LaidErr
import Derived.MakeChecks
import Derived.Lib.LaidTab
import Derived.RegionTactic
set_option linter.all false
set_option maxHeartbeats 16000000
set_option maxRecDepth 1000000
namespace Go.Proofs.YtblkcgceefjmjaaGreatDoor
open Go.RowKit Go.ChangeShapes Go.WideShapes Go.Deep
theorem array7{α:Type}{cs:Array α}(h:cs.size=7):∃c0 c1 c2 c3 c4 c5 c6,cs=#[c0,c1,c2,c3,c4,c5,c6]:=by
 obtain⟨l⟩:=cs
 match l,h with
 | [c0,c1,c2,c3,c4,c5,c6],_=>exact⟨c0,c1,c2,c3,c4,c5,c6,rfl⟩
theorem c7w:(Tryz.prog).cellsOf 36=7:=by kernel_rfl
theorem VwR.of_trod{H:Type}{enc:TypeId × Value→H}{w:World}{r:Reach}{b0:Nat}{v:Value}{d:DataW H}{p:List MemPlace}(hv:Value.okWide Tryz.prog w r b0 36 v)
 (h:DataW.Trod enc Tryz.prog w 0 (fun _=>true) true 36 v d p) (hf:fits Tryz.prog 36 d) :
 ∃(R:VwR) (vd vy:Value),v= .agg #[.int .i64 R.age,.int .i64 R.year,.int .i64 R.children,.int .i64 R.base,.int .i64 R.den,vd,vy]∧IntsAt w vd R.days∧IntsAt w vy R.years:=by
 have ht:=Tryz.underlying36
 obtain⟨cs,rfl,hsz⟩:=okWide_struct ht hv
 obtain⟨c0,c1,c2,c3',c4,c5,c6,rfl⟩:=array7 (hsz.trans c7w)
 obtain⟨fuel,h⟩:=h
 obtain⟨xs,n,_,hx,_,hlen,hF⟩:=DataW.trod_struct ht h
 simp only [Prod.mk.injEq]at hx
 obtain⟨rfl,-⟩:=hx
 have k0:=hF 0 _ rfl
 have k1:=hF 1 _ rfl
 have k2:=hF 2 _ rfl
 have k3:=hF 3 _ rfl
 have k4:=hF 4 _ rfl
 have k5:=hF 5 _ rfl
 have k6:=hF 6 _ rfl
 simp only [Value.cells,List.drop_zero,List.drop_succ_cons,List.take_succ_cons,List.take_zero]at k0 k1 k2 k3 k4 k5 k6
 match xs,hlen with
 | [y0,y1,y2,y3,y4,y5,y6],_=>
   obtain⟨n0,rfl,w0⟩:=int_of_trod k0
   obtain⟨n1,rfl,w1⟩:=int_of_trod k1
   obtain⟨n2,rfl,w2⟩:=int_of_trod k2
   obtain⟨n3,rfl,w3⟩:=int_of_trod k3
   obtain⟨n4,rfl,w4⟩:=int_of_trod k4
   obtain⟨z5,w5⟩:=IntsAt.of_trod Tryz.underlying22 Tryz.underlying3 c3 b3 k5 (fits_part ht hf (i:=5) rfl rfl)
   obtain⟨z6,w6⟩:=IntsAt.of_trod Tryz.underlying22 Tryz.underlying3 c3 b3 k6 (fits_part ht hf (i:=6) rfl rfl)
   exact⟨⟨n0,n1,n2,n3,n4,z5,z6⟩,_,_,rfl,w5,w6⟩
theorem ints_of{H:Type}{enc:TypeId × Value→H}{W:World}{v:Value}{d:DataW H}{p:List MemPlace}{r:Reach}{b0:Nat}(hv:Value.okWide Tryz.prog W r b0 22 v)(h:DataW.Trod enc Tryz.prog W 0 (fun _=>true) true 22 v d p)(hf:fits Tryz.prog 22 d):∃zs,IntsAt W v zs:=by
 obtain⟨fuel,h⟩:=h
 obtain⟨a,len,cap,rfl⟩:=okWide_slice Tryz.underlying22 hv
 exact IntsAt.of_trod (v:=.slice a len cap) Tryz.underlying22 Tryz.underlying3 c3 b3 (by simpa [Value.cells]using h) hf
end Go.Proofs.YtblkcgceefjmjaaGreatDoor
namespace Go.Proofs.YtblkcgceefjmjaaGreatDoor
open Go.ChangeShapes Go.WideShapes Go.ChangeAt Go.RowKit
abbrev laidsX:List (String × DataW Unit):=[("math/bits.deBruijn32tab",Rows.laid_math_bits_deBruijn32tab),("math/bits.deBruijn64tab",Rows.laid_math_bits_deBruijn64tab),("internal/strconv.uint64pow10",Rows.laid_internal_strconv_uint64pow10)]
theorem pow10_data:(Rows.laid_internal_strconv_uint64pow10:DataW Unit)=Lib.tabData .u64 Lib.pow10Tab:=by kernel_rfl
theorem laids_plain{W:World}(h:laidMetH Tryz.prog laidsX W):laidMet Tryz.prog laidsX W:=by
 rwa [MakeChecks.laidMetH_plain _ _ _ (by kernel_rfl)]at h
theorem below_trodAll{H:Type}{enc:TypeId × Value→H}{P:Program}{W W':World}(hl:laidOutB P=true)(hb:Below W.heap.size W W'):∀(ts:List TypeId) (vs:List Value) (ds:List (DataW H)) (ps:List MemPlace),(∀t∈ts,P.readableRec t=true∧t<P.types.size)→
 DataW.TrodAll enc P W 0 (fun _=>true) true ts vs ds ps→(∀x∈ps,x.block<W.heap.size)→DataW.TrodAll enc P W' 0 (fun b=>decide (b<W.heap.size)) true ts vs ds ps
 | [],[],[],_,_,h,_=>h
 |t::ts,v::vs,d::ds,ps,hr,h,hlt=>by
  obtain⟨p,q,h1,h2,rfl⟩:=h
  exact⟨p,q,Below.trod hl (hr t List.mem_cons_self).1 (hr t List.mem_cons_self).2 h1 hb fun x hx=>hlt x (List.mem_append_left _ hx),
   below_trodAll hl hb ts vs ds q (fun t ht=>hr t (List.mem_cons_of_mem _ ht)) h2 fun x hx=>hlt x (List.mem_append_right _ hx),rfl⟩
 | [],_::_,_,_,_,h,_=>h.elim
 | [],[],_::_,_,_,h,_=>h.elim
 |_::_,[],_,_,_,h,_=>h.elim
 |_::_,_::_,[],_,_,h,_=>h.elim
def LawWalk{H:Type}(enc:TypeId × Value→H)(P:Program)(f:FuncId)(ts:List TypeId):Prop:=
 ∀(W:World) (base:Nat) (args:Array Value) (ds:List (DataW H)) (p:List MemPlace),laidMetH P laidsX W→(∀(j:Nat) t v,ts[j]? =some t→args[j]? =some v→Value.okWide P W .any base t v)→
  DataW.TrodAll enc P W 0 (fun _=>true) true ts args.toList ds p→(∀(j:Nat) t d,ts[j]? =some t→ds[j]? =some d→fits P t d)→
  Calls P f args W fun e W'=>e= .returned (.bool true)∧Below W.heap.size W W'
theorem law_post{H:Type}{enc:TypeId × Value→H}{P:Program}{fn:Func}{s:ChangeSpec}{W W':World}{args:Array Value}{ds gs:List (DataW H)}{before:List MemPlace}(hl:laidOutB P=true)
 (hr:fn.params.toList.all (fun t=>P.readableRec t&&decide (t<P.types.size))=true) (hres:fn.resultTypes=#[4]) (hu:P.underlying 4=some .bool) (hvars:s.vars= [])
 (hspec:∀ds:List (DataW H),ds.length=fn.params.size→s.fn H (ds++[])= {results:=[.lit (.bool true)],args:=ds})
 (hW:DataW.Whole enc P fn.params.toList s.vars false W args.toList ds gs before) (hb:Below W.heap.size W W'):s.post enc P fn false true false false W args (.bool true) W':=by
 have hW':=hW
 obtain⟨p,q,hA,hV,rfl,hfz,hnd⟩:=hW
 rw [hvars]at hV
 obtain⟨rfl,rfl⟩:=trodVars_none hV
 have hlen:∀(ts:List TypeId) (vs:List Value) (ds:List (DataW H)) (ps:List MemPlace),DataW.TrodAll enc P W 0 (fun _=>true) true ts vs ds ps→ds.length=ts.length:=by
  intro ts
  induction ts with
  |nil=>intro vs ds ps h;cases vs<;>cases ds<;>simp_all [DataW.TrodAll]
  |cons t ts ih=>
   intro vs ds ps h
   cases vs with
   |nil=>exact h.elim
   |cons v vs=>
    cases ds with
    |nil=>exact h.elim
    |cons d ds=>
     obtain⟨_,_,_,h2,_⟩:=h
     simp [ih _ _ _ h2]
 have hds:ds.length=fn.params.size:=by rw [hlen _ _ _ _ hA];simp
 have hs:=hspec ds hds
 have hlt:∀x∈p,x.block<W.heap.size:=fun x hx=>by have:=hW'.lt x (by simpa using hx);simpa using this
 refine⟨ds,[],p++[],[],p,[],hW', ?_, ?_, ?_,hb.frame _,fun h=>by cases h⟩
 ·rw [hs,hres]
  exact trodAll_mk1 (shut_bool hu _)
 ·rw [hs]
  refine below_trodAll hl hb _ _ _ _ (fun t ht=>?_) hA hlt
  have:=List.all_eq_true.1 hr t ht
  simpa using this
 ·rw [hs,hvars];rfl
theorem law_lift{H:Type}{enc:TypeId × Value→H}{C:Checked}{os:Os}{f:FuncId}{fn:Func}{s:ChangeSpec}{conds:List PathCond}(own:ownKnob C.prog.godebug=none)(started:os.Started)(noInit:C.prog.inits.idxOf? f=none)(hfn:C.prog.funcs[f]? =some fn)
 (witness:∃(w:World) (tape:Tape) (i:Input),w.os=os∧(w.forCall tape i).Shaped C.prog∧i.vars= []∧Input.okWide C.prog (w.forCall tape i) .any w.heap.size f i∧
  ((s.pre enc C.prog fn conds false (w.forCall tape i).memory i.args∧laidMetH C.prog laidsX (w.forCall tape i).memory)∧sizedMet enc C.prog fn (OpenSpec.ofChange s) false (w.forCall tape i).memory i.args)∧({}:Assume).holds C.prog (lone (Frame.enter C.prog f i.args .normal) [] (w.forCall tape i)))
 (hl:laidOutB C.prog=true) (hr:fn.params.toList.all (fun t=>C.prog.readableRec t&&decide (t<C.prog.types.size))=true) (hres:fn.resultTypes=#[4]) (hu:C.prog.underlying 4=some .bool) (hvars:s.vars= [])
 (hspec:∀ds:List (DataW H),ds.length=fn.params.size→s.fn H (ds++[])= {results:=[.lit (.bool true)],args:=ds}) (walk:LawWalk enc C.prog f fn.params.toList) :
 ReturnsInHanded {} C os f .any (fun w args=>(s.pre enc C.prog fn conds false w args∧laidMetH C.prog laidsX w)∧sizedMet enc C.prog fn (OpenSpec.ofChange s) false w args) (s.post enc C.prog fn false true false false):=by
 refine returnsInHanded_of_change_and (C:=C) (X:=fun w _=>laidMetH C.prog laidsX w) (fun _ _ _ hh h=>h.of_heap hh) own started noInit hfn witness ?_
 intro W base args ds gs before hval hW _ hsz hL _
 have hW':=hW
 obtain⟨p,q,hA,hV,rfl,hfz,hnd⟩:=hW
 have e:s.vars= []:=hvars
 rw [e]at hV
 obtain⟨rfl,rfl⟩:=trodVars_none hV
 refine(walk W base args ds p hL (fun j t v ht ha=>hval j t v (by simpa using ht) ha) hA (fun j t d ht hd n hn=>?_)).mono fun e W' ⟨he,hb⟩=>⟨_,he,law_post hl hr hres hu hvars hspec hW' hb⟩
 have:=List.all_eq_true.1 hsz n (DataW.weights_mem_each (j:=j) (by rw [List.getElem?_append_left (List.getElem?_eq_some_iff.1 ht).1];exact ht) (by rw [List.append_nil];exact hd) n hn)
 exact of_decide_eq_true this
theorem own:ownKnob Tryz.prog.godebug=none:=by kernel_rfl
theorem laidOut:laidOutB Tryz.prog=true:=by kernel_rfl
theorem laidsMet(os:Os)(args:Array Value):laidMetH Tryz.prog laidsX ((World.laidAll Tryz.prog os laidsX).forCall (fun _ _=>0) ⟨#[],args,[]⟩).memory:=by
 rw [MakeChecks.laidMetH_plain _ _ _ (by kernel_rfl)]
 exact laidMet_laidAll args (by kernel_rfl) (by kernel_rfl)
theorem tab_of_laid{W:World}(h:laidMetH Tryz.prog laidsX W):Tab W:=by
 have h2:=(laids_plain h).tail.tail
 rw [pow10_data]at h2
 exact Lib.tabIs_of_head (P:=Tryz.prog) (g:=2) (t:=345) (n:=20) (e:=203) (by kernel_rfl) (by kernel_rfl) (by kernel_rfl) (by kernel_rfl) (by kernel_rfl) (by kernel_rfl) h2
end Go.Proofs.YtblkcgceefjmjaaGreatDoor
namespace Go.Proofs.YtblkcgceefjmjaaGreatDoor
def shI(m n:Nat)(x:Ins):Ins:=if x.op=3∨x.op=4 then {x with a:=x.a+m}else if x.op=21∨x.op=22 then {x with a:=x.a+n}else x
theorem shI_op(m n:Nat)(x:Ins):(shI m n x).op=x.op:=by unfold shI;split;rfl;split<;>rfl
theorem shI_slot{m n:Nat}{x:Ins}(h:x.op=3∨x.op=4):(shI m n x).a=x.a+m:=by unfold shI;rw [if_pos h]
theorem shI_else{m n:Nat}{x:Ins}(h1:¬(x.op=3∨x.op=4))(h2:¬(x.op=21∨x.op=22)):shI m n x=x:=by unfold shI;rw [if_neg h1,if_neg h2]
section
variable {S S' R : List (Option (List Int × List Bool))} {s s' : List Int × List Bool} {x : Ins} {i dep dep' m : Nat} {dims dims' : List Int}
def Low(m:Nat)(b:List Bool):Prop:=b.length=12∧∀k,m≤k→b.getD k false=false
theorem Low.set{a:List Bool}(ha:Low m a){k:Nat}(hk:k<m):Low m (a.set k true):=by
 refine⟨by rw [List.length_set];exact ha.1,fun j hj=>?_⟩
 rw [getD_setI,if_neg (fun c=>by omega)]
 exact ha.2 j hj
end
def mixL(m:Nat)(A b:List Bool):List Bool:=(List.range 12).map fun k=>if k<m then A.getD k false else b.getD (k-m) false
theorem mixL_get{m:Nat}{A b:List Bool}{k:Nat}(h:k<12):(mixL m A b).getD k false=if k<m then A.getD k false else b.getD (k-m) false:=by
 unfold mixL;simp [List.getD_eq_getElem?_getD,List.getElem?_range h]
theorem mixL_len{m:Nat}{A b:List Bool}:(mixL m A b).length=12:=by simp [mixL]
theorem ext12{a b:List Bool}(ha:a.length=12)(hb:b.length=12)(h:∀k,k<12→a.getD k false=b.getD k false):a=b:=by
 apply List.ext_getElem (by omega)
 intro k h1 h2
 have:=h k (by omega)
 rw [List.getD_eq_getElem?_getD,List.getD_eq_getElem?_getD,List.getElem?_eq_getElem h1,List.getElem?_eq_getElem h2]at this
 exact this
theorem zip_get{a b:List Bool}(ha:a.length=12)(hb:b.length=12){k:Nat}:(List.zipWith (· && ·) a b).getD k false=(a.getD k false&&b.getD k false):=by
 rw [List.getD_eq_getElem?_getD,List.getElem?_zipWith,List.getD_eq_getElem?_getD,List.getD_eq_getElem?_getD]
 cases e1:a[k]? with
 |none=>rfl
 |some u=>
  cases e2:b[k]? with
  |none=>simp
  |some v=>rfl
theorem mixL_zip{m:Nat}{A a b:List Bool}(ha:a.length=12)(hb:b.length=12):List.zipWith (· && ·) (mixL m A a) (mixL m A b)=mixL m A (List.zipWith (· && ·) a b):=by
 refine ext12 (by rw [List.length_zipWith,mixL_len,mixL_len];rfl) mixL_len fun k hk=>?_
 rw [zip_get mixL_len mixL_len,mixL_get hk,mixL_get hk,mixL_get hk,zip_get ha hb]
 by_cases h:k<m
 ·simp only [if_pos h,Bool.and_self]
 ·simp only [if_neg h]
theorem mixL_set{m:Nat}{A a:List Bool}(ha:a.length=12){k:Nat}(hk:m+k<12):mixL m A (a.set k true)=(mixL m A a).set (m+k) true:=by
 refine ext12 mixL_len (by rw [List.length_set,mixL_len]) fun j hj=>?_
 rw [mixL_get hj,getD_setI,getD_setI,mixL_get hj,mixL_len]
 by_cases h:j<m
 ·rw [if_pos h,if_pos h,if_neg (fun c=>by omega)]
 ·rw [if_neg h,if_neg h]
  by_cases e:j=m+k
  ·subst e
   rw [if_pos ⟨by omega,by rw [ha];omega⟩,if_pos ⟨rfl,hj⟩]
  ·rw [if_neg (fun c=>by omega),if_neg (fun c=>by omega)]
def liftS(m:Nat)(A:List Bool)(s:List Int × List Bool):List Int × List Bool:=(s.1,mixL m A s.2)
structure RelS(m n m2:Nat)(A:List Bool)(Sc Sb:List (Option (List Int × List Bool)))(Dc Db:List Int):Prop where
 len:Sc.length=n+Sb.length
 st:∀j,Sc.getD (n+j) none=(Sb.getD j none).map (liftS m A)
 l12:∀j s,Sb.getD j none=some s→s.2.length=12
 dm:∀k,k<m2→Dc.getD (m+k) 0=Db.getD k 0
 dc:Dc.length=12
 db:Db.length=12
section
variable {m n m2 : Nat} {A : List Bool} {Sc Sb Sb' : List (Option (List Int × List Bool))} {Dc Db Db' : List Int} {s s' : List Int × List Bool} {x : Ins}
theorem RelS.put(h:RelS m n m2 A Sc Sb Dc Db)(hs:s.2.length=12){k:Nat}(hp:putA Sb k s=some Sb'):∃Sc',putA Sc (n+k) (liftS m A s)=some Sc'∧RelS m n m2 A Sc' Sb' Dc Db:=by
 have key:∀u:List Int × List Bool,u.2.length=12→RelS m n m2 A (Sc.set (n+k) (some (liftS m A u))) (Sb.set k (some u)) Dc Db:=fun u hu=>by
  refine⟨by rw [List.length_set,List.length_set];exact h.len,fun j=>?_,fun j t ht=>?_,h.dm,h.dc,h.db⟩
  ·rw [getD_setI,getD_setI,h.st j]
   by_cases e:k=j∧j<Sb.length
   ·rw [if_pos e,if_pos ⟨by omega,by rw [h.len];omega⟩];rfl
   ·rw [if_neg e,if_neg (fun c=>e ⟨by omega,by have:=h.len;omega⟩)]
  ·rw [getD_setI]at ht
   split at ht
   ·obtain rfl:=Option.some.inj ht;exact hu
   ·exact h.l12 j t ht
 unfold putA at hp ⊢
 rw [h.st k]
 cases e:Sb.getD k none with
 |none=>
  rw [e]at hp
  obtain rfl:=Option.some.inj hp
  exact⟨_,rfl,key s hs⟩
 |some t=>
  rw [e]at hp
  by_cases e1:t.1=s.1
  ·simp only [if_pos e1]at hp
   obtain rfl:=Option.some.inj hp
   refine⟨_,by simp only [Option.map_some];rw [if_pos (show(liftS m A t).1=(liftS m A s).1 from e1)], ?_⟩
   have:=key (t.1,List.zipWith (· && ·) t.2 s.2) (by rw [List.length_zipWith,h.l12 k t e,hs];rfl)
   unfold liftS at this ⊢
   rw [mixL_zip (h.l12 k t e) hs]
   exact this
  ·simp only [if_neg e1]at hp;cases hp
theorem RelS.app(h:RelS m n m2 A Sc Sb Dc Db)(hm:m+m2≤12){nn i:Nat}(hw:wfF m2 nn i x=true)(hs:s.2.length=12)(ha:appA x s Db=some (s',Db')) :
 ∃Dc',appA (shI m n x) (liftS m A s) Dc=some (liftS m A s',Dc')∧RelS m n m2 A Sc Sb Dc' Db'∧s'.2.length=12:=by
 have hop:=shI_op m n x
 by_cases o1:x.op=1
 ·have e:=shI_else (m:=m) (n:=n) (x:=x) (by omega) (by omega)
  unfold appA at ha ⊢
  rw [if_pos o1]at ha
  rw [e,if_pos o1]
  obtain⟨rfl,rfl⟩:=Prod.mk.inj (Option.some.inj ha)
  exact⟨Dc,rfl,h,hs⟩
 have hr:=wf_rest hw o1
 by_cases o3:x.op=3
 ·have hk:=hr.2.2.1 (.inl o3)
  have e:=shI_slot (m:=m) (n:=n) (x:=x) (.inl o3)
  have et:(shI m n x).a.toNat=m+x.a.toNat:=by rw [e];omega
  unfold appA at ha ⊢
  rw [hop,et]
  simp only [o3]at ha ⊢
  simp only [if_neg (show ¬(3:Int)=1 by decide),if_neg (show ¬(3:Int)=2 by decide),if_neg (show ¬(3:Int)=5 by decide),if_neg (show ¬((3:Int)=23∨(3:Int)=24)by decide),if_true]at ha ⊢
  have eb:(liftS m A s).2.getD (m+x.a.toNat) false=s.2.getD x.a.toNat false:=by
   show(mixL m A s.2).getD _ _=_
   rw [mixL_get (by omega),if_neg (by omega),Nat.add_sub_cancel_left]
  rw [eb]
  by_cases hb:s.2.getD x.a.toNat false=true
  ·rw [if_pos hb]at ha ⊢
   obtain⟨rfl,rfl⟩:=Prod.mk.inj (Option.some.inj ha)
   refine⟨Dc, ?_,h,hs⟩
   rw [h.dm _ (by omega)];rfl
  ·rw [if_neg hb]at ha;cases ha
 by_cases o4:x.op=4
 ·have hk:=hr.2.2.1 (.inr o4)
  have e:=shI_slot (m:=m) (n:=n) (x:=x) (.inr o4)
  have et:(shI m n x).a.toNat=m+x.a.toNat:=by rw [e];omega
  unfold appA at ha ⊢
  rw [hop,et]
  simp only [o4]at ha ⊢
  simp only [if_neg (show ¬(4:Int)=1 by decide),if_neg (show ¬(4:Int)=2 by decide),if_neg (show ¬(4:Int)=3 by decide),if_neg (show ¬(4:Int)=5 by decide),if_neg (show ¬((4:Int)=23∨(4:Int)=24)by decide),if_true]at ha ⊢
  by_cases he:s.1= []
  ·rw [if_pos he]at ha;cases ha
  rw [if_neg he]at ha
  rw [if_neg (show ¬(liftS m A s).1= []from he)]
  obtain⟨rfl,rfl⟩:=Prod.mk.inj (Option.some.inj ha)
  refine⟨Dc.set (m+x.a.toNat) (s.1.getLastD 0), ?_,⟨h.len,h.st,h.l12,fun k hk2=>?_,by rw [List.length_set];exact h.dc,by rw [List.length_set];exact h.db⟩,by rw [List.length_set];exact hs⟩
  ·unfold liftS
   rw [mixL_set hs (by omega)]
  ·rw [getD_setI,getD_setI,h.dm k hk2]
   have:=h.dc
   have:=h.db
   by_cases ek:x.a.toNat=k
   ·subst ek;rw [if_pos ⟨rfl,by omega⟩,if_pos ⟨rfl,by omega⟩]
   ·rw [if_neg (fun c=>ek (by omega)),if_neg (fun c=>ek c.1)]
 by_cases oj:x.op=21∨x.op=22
 ·unfold appA at ha ⊢
  rw [hop]
  rcases oj with o|o
  all_goals
   simp only [o]at ha ⊢
   simp at ha ⊢
  ·obtain⟨rfl,rfl⟩:=ha
   exact⟨Dc,⟨rfl,rfl⟩,h,hs⟩
  ·obtain⟨h1,rfl,rfl⟩:=ha
   exact⟨Dc,⟨h1,rfl,rfl⟩,h,hs⟩
 have e:=shI_else (m:=m) (n:=n) (x:=x) (by omega) oj
 rw [e]
 unfold appA at ha ⊢
 rw [if_neg o1]at ha ⊢
 by_cases o2:x.op=2
 ·rw [if_pos o2]at ha ⊢
  obtain⟨rfl,rfl⟩:=Prod.mk.inj (Option.some.inj ha)
  exact⟨Dc,rfl,h,hs⟩
 rw [if_neg o2]at ha ⊢
 by_cases o5:x.op=5
 ·rw [if_pos o5]at ha ⊢
  obtain⟨rfl,rfl⟩:=Prod.mk.inj (Option.some.inj ha)
  exact⟨Dc,rfl,h,hs⟩
 rw [if_neg o5]at ha ⊢
 by_cases o23:x.op=23∨x.op=24
 ·rw [if_pos o23]at ha ⊢
  obtain⟨rfl,rfl⟩:=Prod.mk.inj (Option.some.inj ha)
  exact⟨Dc,rfl,h,hs⟩
 rw [if_neg o23,if_neg o3,if_neg o4,if_neg (by omega),if_neg (by omega)]at ha ⊢
 by_cases hn:s.1.length<ariF (opF x.op)
 ·rw [if_pos hn]at ha;cases ha
 rw [if_neg hn]at ha
 rw [if_neg (show ¬(liftS m A s).1.length<ariF (opF x.op)from hn)]
 by_cases hz:resD (opF x.op) (s.1.drop (s.1.length-ariF (opF x.op)))=0
 ·rw [if_pos hz]at ha;cases ha
 rw [if_neg hz]at ha
 rw [if_neg (show ¬resD (opF x.op) ((liftS m A s).1.drop ((liftS m A s).1.length-ariF (opF x.op)))=0 from hz)]
 obtain⟨rfl,rfl⟩:=Prod.mk.inj (Option.some.inj ha)
 exact⟨Dc,rfl,h,hs⟩
end
theorem form_all{l:List Ins}{sl:List ByteArray}(h:formF l sl=true):l.length≤4000∧(∀i,i<l.length→wfF sl.length l.length i (l.getD i default)=true)∧(sl.length≤12∧sl.all isWord=true∧sl.Nodup)∧(setsF l).Nodup:=by
 unfold formF wordsF at h
 simp only [Bool.and_eq_true,decide_eq_true_eq,List.all_eq_true,List.mem_range]at h
 exact⟨h.1.1,h.1.2,⟨h.2.1.1.1,List.all_eq_true.2 h.2.1.1.2,h.2.1.2⟩,h.2.2⟩
theorem ver_form{l:List Ins}{sl:List ByteArray}{d:Int}(h:verA l sl=(d,0)):formF l sl=true∧goA l 0 (some ([],List.replicate 12 false)::List.replicate l.length none) (List.replicate 12 0) 0=(d,0):=by
 unfold verA at h
 by_cases hf:formF l sl=true
 ·rw [if_pos hf]at h;exact⟨hf,h⟩
 ·rw [if_neg hf]at h;cases(Prod.mk.inj h).2
def stepF(sl:List ByteArray)(v:Vw)(x:Ins)(i:Nat)(stk slots:List Val)(st:List (ByteArray × Val)):(Nat × List Val × List Val × List (ByteArray × Val)) ⊕ Int:=
 if x.op=1 then .inl (i+1,stk++[⟨x.a,false,x.n,x.d⟩],slots,st)
 else if x.op=2 then .inl (i+1,stk++[inVal v x.a.toNat],slots,st)
 else if x.op=3 then .inl (i+1,stk++[slots.getD x.a.toNat .zero],slots,st)
 else if x.op=4 then .inl (i+1,stk.dropLast,slots.set x.a.toNat (stk.getLastD .zero),st++[(sl.getD x.a.toNat ByteArray.empty,stk.getLastD .zero)])
 else if x.op=5 then(if(bestF v.years x.a).2.2=0 then .inl (i+1,stk++[.num 4 (bestF v.years x.a).1 (bestF v.years x.a).2.1],slots,st)else .inr (bestF v.years x.a).2.2)
 else if x.op=23∨x.op=24 then .inl (i+1,stk++[.truth (decide (x.op=23))],slots,st)
 else if x.op=21 then .inl (x.a.toNat,stk,slots,st)
 else if x.op=22 then .inl (if(stk.getLastD .zero).yes=true then i+1 else x.a.toNat,stk.dropLast,slots,st)
 else if(opV (opF x.op) (stk.drop (stk.length-ariF (opF x.op)))).2=0 then .inl (i+1,stk.take (stk.length-ariF (opF x.op))++[(opV (opF x.op) (stk.drop (stk.length-ariF (opF x.op)))).1],slots,st)
 else .inr (opV (opF x.op) (stk.drop (stk.length-ariF (opF x.op)))).2
theorem runF_succ(l:List Ins)(sl:List ByteArray)(v:Vw)(f i:Nat)(stk slots:List Val)(st:List (ByteArray × Val)):runF l sl v (f+1) i stk slots st=if l.length≤i then(st,0)else match stepF sl v (l.getD i default) i stk slots st with
 | .inl t=>runF l sl v f t.1 t.2.1 t.2.2.1 t.2.2.2
 | .inr e=>([],e):=by
 rw [runF]
 generalize l.getD i default=x
 by_cases h:l.length≤i
 ·rw [if_pos h,if_pos h]
 rw [if_neg h,if_neg h]
 unfold stepF
 by_cases o1:x.op=1
 ·rw [if_pos o1,if_pos o1]
 rw [if_neg o1,if_neg o1]
 by_cases o2:x.op=2
 ·rw [if_pos o2,if_pos o2]
 rw [if_neg o2,if_neg o2]
 by_cases o3:x.op=3
 ·rw [if_pos o3,if_pos o3]
 rw [if_neg o3,if_neg o3]
 by_cases o4:x.op=4
 ·rw [if_pos o4,if_pos o4]
 rw [if_neg o4,if_neg o4]
 by_cases o5:x.op=5
 ·rw [if_pos o5,if_pos o5]
  by_cases e:(bestF v.years x.a).2.2=0
  ·rw [if_pos e,if_pos e]
  ·rw [if_neg e,if_neg e]
 rw [if_neg o5,if_neg o5]
 by_cases o6:x.op=23∨x.op=24
 ·rw [if_pos o6,if_pos o6]
 rw [if_neg o6,if_neg o6]
 by_cases o7:x.op=21
 ·rw [if_pos o7,if_pos o7]
 rw [if_neg o7,if_neg o7]
 by_cases o8:x.op=22
 ·rw [if_pos o8,if_pos o8]
 rw [if_neg o8,if_neg o8]
 by_cases e:(opV (opF x.op) (stk.drop (stk.length-ariF (opF x.op)))).2=0
 ·rw [if_pos e,if_pos e]
 ·rw [if_neg e,if_neg e]
section
variable {l l1 l2 : List Ins} {sl s1 s2 s3 : List ByteArray} {v : Vw} {F : List (Option (List Int × List Bool))} {D : List Int}
theorem step_fwd{m n i:Nat}{x:Ins}{stk slots:List Val}{st:List (ByteArray × Val)}{t:Nat × List Val × List Val × List (ByteArray × Val)}(hw:wfF m n i x=true)(hi:i<n)(h:stepF sl v x i stk slots st= .inl t):i<t.1∧t.1≤n:=by
 by_cases o1:x.op=1
 ·unfold stepF at h;rw [if_pos o1]at h;obtain rfl:=Sum.inl.inj h;exact⟨by simp,by show i+1≤n;omega⟩
 have hj:=(wf_rest hw o1).2.2.2.2.1
 unfold stepF at h
 rw [if_neg o1]at h
 by_cases o7:x.op=21
 ·simp only [o7]at h
  simp at h
  obtain rfl:=h
  have:=hj (.inl o7)
  exact⟨by show i<x.a.toNat;omega,by show x.a.toNat≤n;omega⟩
 by_cases o8:x.op=22
 ·simp only [o8]at h
  simp at h
  obtain rfl:=h
  have:=hj (.inr o8)
  dsimp only
  split<;>omega
 rw [if_neg o7,if_neg o8]at h
 repeat' split at h
 all_goals first
  |(cases h;done)
  |(obtain rfl:=Sum.inl.inj h;exact⟨by simp,by show i+1≤n;omega⟩)
theorem run_fuel{m:Nat}(hw:∀i,i<l.length→wfF m l.length i (l.getD i default)=true):∀(f g i:Nat) (stk slots:List Val) (st:List (ByteArray × Val)),l.length≤f+i→l.length≤g+i→runF l sl v f i stk slots st=runF l sl v g i stk slots st
 |0,g,i,stk,slots,st,h1,_=>by
  cases g with
  |zero=>rfl
  |succ g=>rw [runF_succ,if_pos (by omega)];rfl
 |f+1,g,i,stk,slots,st,h1,h2=>by
  by_cases hi:l.length≤i
  ·rw [runF_succ,if_pos hi]
   cases g with
   |zero=>rfl
   |succ g=>rw [runF_succ,if_pos hi]
  cases g with
  |zero=>omega
  |succ g=>
   rw [runF_succ,runF_succ,if_neg hi,if_neg hi]
   cases e:stepF sl v (l.getD i default) i stk slots st with
   |inr c=>rfl
   |inl t=>
    have:=step_fwd (hw i (by omega)) (by omega) e
    exact run_fuel hw f g t.1 _ _ _ (by omega) (by omega)
theorem run_errs:∀(f i:Nat) (stk slots:List Val) (st:List (ByteArray × Val)),(runF l sl v f i stk slots st).2≠0→(runF l sl v f i stk slots st).1= []
 |0,i,stk,slots,st,h=>absurd rfl h
 |f+1,i,stk,slots,st,h=>by
  rw [runF_succ]at h ⊢
  by_cases hi:l.length≤i
  ·rw [if_pos hi]at h;exact absurd rfl h
  rw [if_neg hi]at h ⊢
  cases e:stepF sl v (l.getD i default) i stk slots st with
  |inr c=>rfl
  |inl t=>rw [e]at h;exact run_errs f _ _ _ _ h
end
def runC(l:List Ins)(sl:List ByteArray)(v:Vw):List (ByteArray × Val) × Int:=runF l sl v l.length 0 [] (List.replicate 12 .zero) []
end Go.Proofs.YtblkcgceefjmjaaGreatDoor
namespace Go.Proofs.YtblkcgceefjmjaaGreatDoor
open Go.RowKit
def CalP(r:Val × Int)(w:World)(e:Ending)(w':World):Prop:=∃(m n d:Int) (b:Bool),e= .returned (.tuple #[.agg #[.int .i64 m,.bool b,.int .i64 n,.int .i64 d],.int .i64 r.2])∧(r.2=0→r.1=⟨m,b,n,d⟩)∧w.Grows w'
theorem numR_code(m:Int)(r:Int × Int × Int):(numR m r).2=r.2.2∧(r.2.2=0→(numR m r).1=⟨m,false,r.1,r.2.1⟩):=by
 unfold numR
 by_cases h:r.2.2=0
 ·simp [h,Val.num]
 ·simp [h]
theorem val_i64{x:Val}(h:x.ok=true):I64 x.n∧I64 x.d:=by
 by_cases hd:x.dim=1
 ·unfold Val.ok at h
  simp [hd]at h
  rw [h.1,h.2];unfold I64;omega
 ·have:=(Val.ok_num h hd).2.2.2
  have:=vfrac_bd this
  unfold I64;omega
theorem calc1_any(op:Int)(x:Val)(g o cap:Nat)(w:World)(hx:x.ok=true)(h4:4≤op)(h6:op≤6)(hg:g<w.heap.size)
 (c0:w.cell? ⟨g,o,none⟩=some (.int .i64 x.dim)) (c1:w.cell? ⟨g,o+1,none⟩=some (.bool x.yes)) (c2:w.cell? ⟨g,o+2,none⟩=some (.int .i64 x.n)) (c3:w.cell? ⟨g,o+3,none⟩=some (.int .i64 x.d)) :
 Calls Tryz.prog 105 #[.int .i64 op,.slice (some ⟨g,o,none⟩) 1 cap] w (CalP (op1 op x) w):=by
 obtain⟨⟨b1,b2⟩,⟨b3,b4⟩⟩:=val_i64 hx
 have HN:=Lib.hid (fun w=>Neg2_any x.n x.d w b1 b2 b3 b4)
 have HF:=Lib.hid (fun w=>Floor2_any x.n x.d w b1 b2 b3 b4)
 obtain⟨m,y,n,d⟩:=x
 dsimp only at *
 obtain rfl|rfl|rfl:op=4∨op=5∨op=6:=by omega
 ·have HR:=Lib.hid (numR_code m (negF n d))
  have HE:Hid (op1 4 ⟨m,y,n,d⟩=numR m (negF n d)):=Lib.hid rfl
  unfold frV at HN
  generalize negF n d=r at *
  obtain⟨rn,rd,rc⟩:=r
  dsimp only at *
  rw [HE.out]
  unfold CalP
  rw [HR.out.1]
  clear hx
  go_enter Tryz.func105,Tryz.ntmps105
  go_wp2_with (go_at_call 182;refine(HN.out _).mono ?_;rintro e' w' ⟨rfl,bs,dd,rfl⟩)
  go_returns
  exact⟨_,_,_,_,rfl,HR.out.2,growsR⟩
 ·clear hx
  go_enter Tryz.func105,Tryz.ntmps105
  go_wp2_with fail
  go_returns
  exact⟨_,_,_,_,rfl,fun _=>rfl,growsR⟩
 ·have HR:=Lib.hid (numR_code m ((floorF n d).1,1,(floorF n d).2))
  have HE:Hid (op1 6 ⟨m,y,n,d⟩=numR m ((floorF n d).1,1,(floorF n d).2)):=Lib.hid rfl
  unfold frI at HF
  generalize floorF n d=r at *
  obtain⟨rn,rc⟩:=r
  dsimp only at *
  rw [HE.out]
  unfold CalP
  rw [HR.out.1]
  clear hx
  go_enter Tryz.func105,Tryz.ntmps105
  go_wp2_with (go_at_call 183;refine(HF.out _).mono ?_;rintro e' w' ⟨rfl,bs,dd,rfl⟩)
  go_returns
  exact⟨_,_,_,_,rfl,HR.out.2,growsR⟩
theorem cmpEq9{a b c d:Int}(ha:vfrac a b=true)(hb:vfrac c d=true)(h:cmpI a b c d=0):a=c∧b=d:=by
 refine frac_eq ha hb ?_
 unfold cmpI at h
 (repeat' split at h)<;>omega
theorem calc2_any(op:Int)(x y:Val)(g o cap:Nat)(w:World)(hx:x.ok=true)(hy:y.ok=true)(ho:op=7∨op=8∨op=9∨op=10∨op=19∨op=20∨(11≤op∧op≤16))(hres:resD op [x.dim,y.dim]≠0)(hg:g<w.heap.size)
 (c0:w.cell? ⟨g,o,none⟩=some (.int .i64 x.dim)) (c1:w.cell? ⟨g,o+1,none⟩=some (.bool x.yes)) (c2:w.cell? ⟨g,o+2,none⟩=some (.int .i64 x.n)) (c3:w.cell? ⟨g,o+3,none⟩=some (.int .i64 x.d))
 (c4:w.cell? ⟨g,o+4,none⟩=some (.int .i64 y.dim)) (c5:w.cell? ⟨g,o+5,none⟩=some (.bool y.yes)) (c6:w.cell? ⟨g,o+6,none⟩=some (.int .i64 y.n)) (c7:w.cell? ⟨g,o+7,none⟩=some (.int .i64 y.d)) :
 Calls Tryz.prog 105 #[.int .i64 op,.slice (some ⟨g,o,none⟩) 2 cap] w (CalP (op2 op x y) w):=by
 have hi:I64x4 x.n x.d y.n y.d:=⟨(val_i64 hx).1,(val_i64 hx).2,(val_i64 hy).1,(val_i64 hy).2⟩
 obtain⟨hx1,hy1⟩:=dims_ne ho hres
 obtain⟨-,-,hxb,hxv⟩:=Val.ok_num hx hx1
 obtain⟨-,-,hyb,hyv⟩:=Val.ok_num hy hy1
 have HCQ:=Lib.hid (cmpF_ok hxv hyv)
 have HEQ:=Lib.hid (fun h=>cmpEq9 hxv hyv h)
 have HRS:=Lib.hid hres
 obtain⟨xm,xb,xn,xd⟩:=x
 obtain⟨ym,yb,yn,yd⟩:=y
 dsimp only at *
 subst hxb hyb
 have HA:=Lib.hid (fun w=>Add2_any xn xd yn yd w hi)
 have HS:=Lib.hid (fun w=>Sub2_any xn xd yn yd w hi)
 have HM:=Lib.hid (fun w=>Mul2_any xn xd yn yd w hi)
 have HD:=Lib.hid (fun w=>Div2_any xn xd yn yd w hi)
 have HC:=Lib.hid (fun w=>Compare2_any xn xd yn yd w hi)
 unfold frI at HC
 unfold frV at HA HS HM HD
 rw [HCQ.out]at HC
 dsimp only at HC
 clear hx hy hi hx1 hy1 hxv hyv hres
 rcases ho with rfl|rfl|rfl|rfl|rfl|rfl|ho
 ·rw [show op2 7 ⟨xm,false,xn,xd⟩ ⟨ym,false,yn,yd⟩=numR xm (addF xn xd yn yd)from rfl]
  have HR:=Lib.hid (numR_code (xm) (addF xn xd yn yd))
  generalize addF xn xd yn yd=r at *
  obtain⟨rn,rd,rc⟩:=r
  dsimp only at *
  unfold CalP
  rw [HR.out.1]
  go_enter Tryz.func105,Tryz.ntmps105
  go_wp2_with (go_at_call 184;refine(HA.out _).mono ?_;rintro e' w' ⟨rfl,bs,dd,rfl⟩)
  go_returns
  exact⟨_,_,_,_,rfl,HR.out.2,growsR⟩
 ·rw [show op2 8 ⟨xm,false,xn,xd⟩ ⟨ym,false,yn,yd⟩=numR xm (subF xn xd yn yd)from rfl]
  have HR:=Lib.hid (numR_code (xm) (subF xn xd yn yd))
  generalize subF xn xd yn yd=r at *
  obtain⟨rn,rd,rc⟩:=r
  dsimp only at *
  unfold CalP
  rw [HR.out.1]
  go_enter Tryz.func105,Tryz.ntmps105
  go_wp2_with (go_at_call 185;refine(HS.out _).mono ?_;rintro e' w' ⟨rfl,bs,dd,rfl⟩)
  go_returns
  exact⟨_,_,_,_,rfl,HR.out.2,growsR⟩
 ·have hres:=HRS.out
  rw [res_mul]at hres
  rw [show op2 9 ⟨xm,false,xn,xd⟩ ⟨ym,false,yn,yd⟩=numR (resD 9 [xm,ym]) (mulF xn xd yn yd)from rfl]
  by_cases hm:xm=2
  focus
   have hd:resD 9 [xm,ym]=ym:=by rw [res_mul];(repeat' split at hres)<;>(first|omega|simp_all|(simp_all;omega))
   rw [hd]
   clear hres hd HRS
   subst hm
   have HR:=Lib.hid (numR_code (ym) (mulF xn xd yn yd))
  rotate_left
  focus
   have hd:resD 9 [xm,ym]=xm:=by rw [res_mul];(repeat' split at hres)<;>(first|omega|simp_all|(simp_all;omega))
   have hmb:(xm==2)=false:=by simpa using hm
   rw [hd]
   clear hres hd hm HRS
   have HR:=Lib.hid (numR_code (xm) (mulF xn xd yn yd))
  rotate_left
  all_goals
   generalize mulF xn xd yn yd=r at *
   obtain⟨rn,rd,rc⟩:=r
   dsimp only at *
   unfold CalP
   rw [HR.out.1]
   go_enter Tryz.func105,Tryz.ntmps105
   go_wp2_with (go_at_call 186;refine(HM.out _).mono ?_;rintro e' w' ⟨rfl,bs,dd,rfl⟩)
   go_returns
   exact⟨_,_,_,_,rfl,HR.out.2,growsR⟩
 ·have hres:=HRS.out
  rw [res_div]at hres
  rw [show op2 10 ⟨xm,false,xn,xd⟩ ⟨ym,false,yn,yd⟩=numR (resD 10 [xm,ym]) (divF xn xd yn yd)from rfl]
  by_cases hm:ym=2
  focus
   have hd:resD 10 [xm,ym]=xm:=by rw [res_div];(repeat' split at hres)<;>(first|omega|simp_all|(simp_all;omega))
   rw [hd]
   clear hres hd HRS
   subst hm
   have HR:=Lib.hid (numR_code (xm) (divF xn xd yn yd))
  rotate_left
  focus
   have hd:resD 10 [xm,ym]=2:=by rw [res_div];(repeat' split at hres)<;>(first|omega|simp_all|(simp_all;omega))
   have hmb:(ym==2)=false:=by simpa using hm
   have hmb2:(ym !=2)=true:=by simpa using hm
   rw [hd]
   clear hres hd hm HRS
   have HR:=Lib.hid (numR_code (2) (divF xn xd yn yd))
  rotate_left
  all_goals
   generalize divF xn xd yn yd=r at *
   obtain⟨rn,rd,rc⟩:=r
   dsimp only at *
   unfold CalP
   rw [HR.out.1]
   go_enter Tryz.func105,Tryz.ntmps105
   go_wp2_with (go_at_call 187;refine(HD.out _).mono ?_;rintro e' w' ⟨rfl,bs,dd,rfl⟩)
   go_returns
   exact⟨_,_,_,_,rfl,HR.out.2,growsR⟩
 ·have hres:=HRS.out
  rw [res_add _ _ (by omega)]at hres
  have hxy:xm=ym:=by
   by_cases h:xm=ym
   ·exact h
   ·exact absurd (if_neg fun c=>h c.1) hres
  subst hxy
  have HO:Hid (op2 19 ⟨xm,false,xn,xd⟩ ⟨xm,false,yn,yd⟩=_):=Lib.hid rfl
  rw [HO.out]
  unfold op2
  simp only [if_pos,if_neg (show ¬(20:Int)=19 by decide),if_neg (show ¬(19:Int)=7 by decide),if_neg (show ¬(19:Int)=8 by decide),if_neg (show ¬(19:Int)=9 by decide),if_neg (show ¬(19:Int)=10 by decide)]
  generalize hcc:cmpI xn xd yn yd=c at *
  have HCC:=Lib.hid hcc
  unfold CalP
  clear HRS HCQ HA HS HM HD HO hres hcc
  rcases(show c<0∨c=0∨0<c by omega)with h1|h1|h1
  focus
   have n1:c≤0:=by omega
   have n2:¬0≤c:=by omega
   simp only [n1,n2,if_true,if_false]
   clear HEQ n1 n2
  rotate_left
  focus
   subst h1
   obtain⟨rfl,rfl⟩:=HEQ.out rfl
   simp only [Int.le_refl,if_true]
  rotate_left
  focus
   have n1:¬c≤0:=by omega
   have n2:0≤c:=by omega
   have n3:¬c<0:=by omega
   simp only [n1,n2,if_true,if_false]
   clear HEQ n1 n2
  rotate_left
  all_goals
   go_enter Tryz.func105,Tryz.ntmps105
   go_wp2_with (go_at_call 188;refine(HC.out _).mono ?_;rintro e' w' ⟨rfl,bs,dd,rfl⟩)
   all_goals first|(exfalso;omega)|skip
   all_goals go_returns
   all_goals first|exact⟨_,_,_,_,rfl,fun _=>rfl,growsR⟩|(exfalso;simp_all;done)|(exfalso;simp_all;omega)
 ·have hres:=HRS.out
  rw [res_add _ _ (by omega)]at hres
  have hxy:xm=ym:=by
   by_cases h:xm=ym
   ·exact h
   ·exact absurd (if_neg fun c=>h c.1) hres
  subst hxy
  have HO:Hid (op2 20 ⟨xm,false,xn,xd⟩ ⟨xm,false,yn,yd⟩=_):=Lib.hid rfl
  rw [HO.out]
  unfold op2
  simp only [if_pos,if_neg (show ¬(20:Int)=19 by decide),if_neg (show ¬(20:Int)=7 by decide),if_neg (show ¬(20:Int)=8 by decide),if_neg (show ¬(20:Int)=9 by decide),if_neg (show ¬(20:Int)=10 by decide)]
  generalize hcc:cmpI xn xd yn yd=c at *
  have HCC:=Lib.hid hcc
  unfold CalP
  clear HRS HCQ HA HS HM HD HO hres hcc
  rcases(show c<0∨c=0∨0<c by omega)with h1|h1|h1
  focus
   have n1:c≤0:=by omega
   have n2:¬0≤c:=by omega
   simp only [n1,n2,if_true,if_false]
   clear HEQ n1 n2
  rotate_left
  focus
   subst h1
   obtain⟨rfl,rfl⟩:=HEQ.out rfl
   simp only [Int.le_refl,if_true]
  rotate_left
  focus
   have n1:¬c≤0:=by omega
   have n2:0≤c:=by omega
   have n3:¬c<0:=by omega
   simp only [n1,n2,if_true,if_false]
   clear HEQ n1 n2
  rotate_left
  all_goals
   go_enter Tryz.func105,Tryz.ntmps105
   go_wp2_with (go_at_call 188;refine(HC.out _).mono ?_;rintro e' w' ⟨rfl,bs,dd,rfl⟩)
   all_goals first|(exfalso;omega)|skip
   all_goals go_returns
   all_goals first|exact⟨_,_,_,_,rfl,fun _=>rfl,growsR⟩|(exfalso;simp_all;done)|(exfalso;simp_all;omega)
 ·have HO:Hid (op2 op ⟨xm,false,xn,xd⟩ ⟨ym,false,yn,yd⟩=(.truth (cmpB op (cmpI xn xd yn yd)),0)):=Lib.hid (by
   unfold op2
   rw [if_neg (by omega),if_neg (by omega),if_neg (by omega),if_neg (by omega),if_neg (by omega),if_neg (by omega)])
  rw [HO.out]
  generalize cmpI xn xd yn yd=c at *
  unfold CalP
  clear HRS HEQ HCQ HA HS HM HD HO
  have h6:op=11∨op=12∨op=13∨op=14∨op=15∨op=16:=by omega
  clear ho
  rcases h6 with rfl|rfl|rfl|rfl|rfl|rfl
  focus
   go_enter Tryz.func105,Tryz.ntmps105
  rotate_left
  focus
   go_enter Tryz.func105,Tryz.ntmps105
  rotate_left
  focus
   go_enter Tryz.func105,Tryz.ntmps105
  rotate_left
  focus
   go_enter Tryz.func105,Tryz.ntmps105
  rotate_left
  focus
   go_enter Tryz.func105,Tryz.ntmps105
  rotate_left
  focus
   go_enter Tryz.func105,Tryz.ntmps105
  rotate_left
  all_goals
   go_wp2_with (go_at_call 188;refine(HC.out _).mono ?_;rintro e' w' ⟨rfl,bs,dd,rfl⟩)
   all_goals
    go_returns
    exact⟨_,_,_,_,rfl,fun _=>by first|(simp_all [cmpB,Val.truth];done)|(simp [cmpB,Val.truth];first|rfl|(cases hz:(c==0)<;>simp_all [bne])),growsR⟩
theorem wp_abs{P:Program}{c:Code}{Q:Exit→Act→World→Prop}{a:Act}{w:World}(h:∀W,w=W→c.wp P Q a W):c.wp P Q a w:=h w rfl
end Go.Proofs.YtblkcgceefjmjaaGreatDoor
namespace Go
theorem TS.wkA{P:Program}{ops:Array Oper}{Q:Exit→Act→World→Prop}{T:List Nat}{B:World}(i:Nat){f:Nat}{oi:Oper}{v:Value}{listed:Array Bool}{a:Act}{w:World}(hS:B.Grows w)(h:TS P ops Q (World.Grows B) T f (listed.setIfInBounds i true) (a.put oi.dst v) w)
 (hi:ops[i]? =some oi:=by rfl) (hs:Region.noSelect ops=true:=by kernel_rfl) (hf:Region.free .any ops listed i=true:=by kernel_rfl) (hr:(Region.ready .any ops listed).contains i=true:=by kernel_rfl) (hit:i∉T:=by decide)
 (hQ:∀c a w,Q (.panic c) (a.put oi.dst v) w→Q (.panic c) a w:=by exact fun _ _ _ h=>h) (hw:Region.wanted oi (yielded ops a.tmps)=true:=by rfl) (hy:∀w,B.Grows w→(execOp a.eval oi).run P w= .ok (.value v) w:=by rintro wS ⟨gbS,gdS,rfl⟩;go_simp;rfl):TS P ops Q (World.Grows B) T (f+1) listed a w:=
 TS.takeV hi hs hf hr hit hQ hw hS hy h
end Go
