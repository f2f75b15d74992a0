import Derived.Test.YtfoefpoaomepbaaGreatDoorFUseP
import Derived.Test.YtfoefpoaomepbaaGreatDoorFK
set_option linter.all false
set_option maxHeartbeats 16000000
set_option maxRecDepth 1000000
namespace Go.Proofs.YtfoefpoaomepbaaGreatDoor
def mopF(op:Int):Int:=if op=4 then 6 else if op=5 then 7 else if op=6 then 8 else if op=19 then 19 else if op=20 then 20 else op+2
def inpK(s:ByteArray):Option Nat:=inpN.findIdx? fun p=>decide (p.1=s)
def slK(sl:List ByteArray)(s:ByteArray):Nat:=(sl.findIdx? fun x=>decide (x=s)).getD 0
def nameI(κ:ByteArray→Nat)(s:ByteArray):Ins:=match inpK s with|some k=>⟨2,k,0,0⟩|none=>⟨3,κ s,0,0⟩
def seqC:List (Nat→List Ins)→Nat→List Ins
 | [],_=>[]
 |f::r,i=>f i++seqC r (i+(f i).length)
def brC(A B C:Nat→List Ins)(i:Nat):List Ins:=
 A i++⟨22,((i+(A i).length+1+(B (i+(A i).length+1)).length+1:Nat):Int),0,0⟩::(B (i+(A i).length+1)++
  ⟨21,((i+(A i).length+1+(B (i+(A i).length+1)).length+1+(C (i+(A i).length+1+(B (i+(A i).length+1)).length+1)).length:Nat):Int),0,0⟩::C (i+(A i).length+1+(B (i+(A i).length+1)).length+1))
def codeNode(κ:ByteArray→Nat)(op n d m:Int)(s:ByteArray)(fs:List (Nat→List Ins))(i:Nat):List Ins:=
 if op=1 then [⟨1,m,n,d⟩]else if op=2 then [nameI κ s]else if op=3 then [⟨5,n,0,0⟩]
 else if op=17 then brC (fs.getD 0 fun _=>[]) (fs.getD 1 fun _=>[]) (fun _=>[⟨24,0,0,0⟩]) i
 else if op=18 then brC (fs.getD 0 fun _=>[]) (fun _=>[⟨23,0,0,0⟩]) (fs.getD 1 fun _=>[]) i
 else if op=21 then brC (fs.getD 0 fun _=>[]) (fs.getD 1 fun _=>[]) (fs.getD 2 fun _=>[]) i
 else seqC fs i++[⟨mopF op,0,0,0⟩]
mutual
def codeF(κ:ByteArray→Nat):Ex→Nat→List Ins
 | .mk op n d m s l=>codeNode κ op n d m s (codesF κ l)
def codesF(κ:ByteArray→Nat):List Ex→List (Nat→List Ins)
 | []=>[]
 |e::r=>codeF κ e::codesF κ r
end
def Lies(l:List Ins)(i:Nat)(c:List Ins):Prop:=i+c.length≤l.length∧∀k,k<c.length→l.getD (i+k) default=c.getD k default
theorem Lies.left{l:List Ins}{i:Nat}{a b:List Ins}(h:Lies l i (a++b)):Lies l i a:=by
 obtain⟨h1,h2⟩:=h
 rw [List.length_append]at h1
 refine⟨by omega,fun k hk=>?_⟩
 rw [h2 k (by rw [List.length_append];omega)]
 simp [List.getD_eq_getElem?_getD,List.getElem?_append_left hk]
theorem Lies.right{l:List Ins}{i:Nat}{a b:List Ins}(h:Lies l i (a++b)):Lies l (i+a.length) b:=by
 obtain⟨h1,h2⟩:=h
 rw [List.length_append]at h1
 refine⟨by omega,fun k hk=>?_⟩
 have:=h2 (a.length+k) (by rw [List.length_append];omega)
 rw [Nat.add_assoc,this]
 simp [List.getD_eq_getElem?_getD,List.getElem?_append_right (Nat.le_add_right a.length k)]
theorem Lies.head{l:List Ins}{i:Nat}{x:Ins}{b:List Ins}(h:Lies l i (x::b)):i<l.length∧l.getD i default=x∧Lies l (i+1) b:=by
 have hl:=Lies.left (a:=[x]) (b:=b) h
 have hr:=Lies.right (a:=[x]) (b:=b) h
 obtain⟨h1,h2⟩:=hl
 have:=h2 0 (by simp)
 exact⟨by simp at h1;omega,this,hr⟩
section
variable (l : List Ins) (sl : List ByteArray) (v : Vw) (slots : List Val) (st : List (ByteArray × Val))
def To(i:Nat)(stk:List Val)(j:Nat)(stk':List Val):Prop:=∀f,l.length≤f+i→∃g,l.length≤g+j∧runF l sl v f i stk slots st=runF l sl v g j stk' slots st
def Errs(i:Nat)(stk:List Val)(c:Int):Prop:=∀f,l.length≤f+i→runF l sl v f i stk slots st=([],c)
def Gives(i:Nat)(stk:List Val)(j:Nat)(r:Val × Int):Prop:=if r.2=0 then To l sl v slots st i stk j (stk++[r.1])else Errs l sl v slots st i stk r.2
variable {l sl v slots st} {i j k : Nat} {stk s1 s2 : List Val} {c : Int}
theorem To.refl:To l sl v slots st i stk i stk:=fun f hf=>⟨f,hf,rfl⟩
theorem To.trans(h:To l sl v slots st i stk j s1)(g:To l sl v slots st j s1 k s2):To l sl v slots st i stk k s2:=fun f hf=>by
 obtain⟨f1,h1,e1⟩:=h f hf
 obtain⟨f2,h2,e2⟩:=g f1 h1
 exact⟨f2,h2,e1.trans e2⟩
theorem To.one{n:Nat}{s':List Val}(hi:i<l.length)(hn:i<n)(h:∀f,runF l sl v (f+1) i stk slots st=runF l sl v f n s' slots st):To l sl v slots st i stk n s':=fun f hf=>by
 cases f with
 |zero=>omega
 |succ f=>exact⟨f,by omega,h f⟩
theorem Errs.one(hi:i<l.length)(h:∀f,runF l sl v (f+1) i stk slots st=([],c)):Errs l sl v slots st i stk c:=fun f hf=>by
 cases f with
 |zero=>omega
 |succ f=>exact h f
end
theorem inpK_some{s:ByteArray}{k:Nat}(h:inpK s=some k):k<11∧inpNm k=s:=by
 unfold inpK at h
 obtain⟨h1,h2,-⟩:=List.findIdx?_eq_some_iff_getElem.1 h
 have hl:inpN.length=11:=rfl
 refine⟨by omega, ?_⟩
 have h3:(inpN[k]).1=s:=by simpa using h2
 unfold inpNm
 rw [List.getD_eq_getElem?_getD,List.getElem?_eq_getElem h1]
 exact h3
theorem formeds_all:∀{l:List Ex},formedsB l=true→∀a∈l,formedB a=true
 |e::r,h,a,ha=>by
  rw [formedsB,Bool.and_eq_true]at h
  rcases List.mem_cons.1 ha with rfl|ha
  ·exact h.1
  ·exact formeds_all h.2 a ha
theorem ments_of{s:ByteArray}:∀{l:List Ex} {a:Ex},a∈l→mentB s a=true→mentsB s l=true
 |e::r,a,ha,h=>by
  rw [mentsB,Bool.or_eq_true]
  rcases List.mem_cons.1 ha with rfl|ha
  ·exact .inl h
  ·exact .inr (ments_of ha h)
theorem infers_parts{env:List (ByteArray × Int)}:∀{l:List Ex},(infersF env l).2=0→(infersF env l).1=l.map (fun e=>(inferF env e).1)∧∀a∈l,(inferF env a).2=0
 | [],_=>⟨rfl,fun a ha=>by cases ha⟩
 |e::r,h=>by
  rw [infersF]at h ⊢
  split at h<;>rename_i c1
  ·exact absurd h c1
  split at h<;>rename_i c2
  ·exact absurd h c2
  rw [if_neg c1,if_neg c2]
  obtain⟨h1,h2⟩:=infers_parts (env:=env) (l:=r) (by omega)
  refine⟨by simp [h1],fun a ha=>?_⟩
  rcases List.mem_cons.1 ha with rfl|ha
  ·omega
  ·exact h2 a ha
section
variable {v : Vw} {env : List (ByteArray × Val)} {κ : ByteArray → Nat} {sl : List ByteArray} {slots : List Val}
end
def foldOp(op:Int):Bool:=decide (op=4∨op=6∨op=7∨op=8∨op=9∨op=10∨op=19∨op=20)
def litV(e:Ex):Val:=.num e.dim e.num e.den
def calcF(op:Int)(ys:List Ex):Option (Int × Int × Int):=
 if foldOp op=true∧(∀y∈ys,y.op=1)∧resD op (ys.map Ex.dim)≠0∧(opV op (ys.map litV)).2=0∧decOk (opV op (ys.map litV)).1.n (opV op (ys.map litV)).1.d (resD op (ys.map Ex.dim))=true then
  some ((opV op (ys.map litV)).1.n,(opV op (ys.map litV)).1.d,resD op (ys.map Ex.dim))else none
def foldNode(op n d m:Int)(s:ByteArray)(ys:List Ex):Ex:=
 match calcF op ys with
 |some r=>.mk 1 r.1 r.2.1 r.2.2 ByteArray.empty []
 |none=>.mk op n d m s ys
mutual
def foldF:Ex→Ex
 | .mk op n d m s xs=>foldNode op n d m s (foldsF xs)
def foldsF:List Ex→List Ex
 | []=>[]
 |e::r=>foldF e::foldsF r
end
theorem foldsF_map:∀xs:List Ex,foldsF xs=xs.map foldF
 | []=>rfl
 |e::r=>by rw [foldsF,foldsF_map r];rfl
theorem foldF_eq(e:Ex):foldF e=foldNode e.op e.num e.den e.dim e.name (e.args.map foldF):=by cases e;rw [foldF,foldsF_map];rfl
theorem foldNode_cases(op n d m:Int)(s:ByteArray)(ys:List Ex) :
 (foldNode op n d m s ys= .mk op n d m s ys∧calcF op ys=none)∨(foldOp op=true∧(∀y∈ys,y.op=1)∧resD op (ys.map Ex.dim)≠0∧(opV op (ys.map litV)).2=0∧decOk (opV op (ys.map litV)).1.n (opV op (ys.map litV)).1.d (resD op (ys.map Ex.dim))=true∧
  foldNode op n d m s ys= .mk 1 (opV op (ys.map litV)).1.n (opV op (ys.map litV)).1.d (resD op (ys.map Ex.dim)) ByteArray.empty []):=by
 unfold foldNode calcF
 by_cases h:foldOp op=true∧(∀y∈ys,y.op=1)∧resD op (ys.map Ex.dim)≠0∧(opV op (ys.map litV)).2=0∧decOk (opV op (ys.map litV)).1.n (opV op (ys.map litV)).1.d (resD op (ys.map Ex.dim))=true
 ·rw [if_pos h]
  obtain⟨a,b,c,d,e⟩:=h
  exact .inr ⟨a,b,c,d,e,rfl⟩
 ·rw [if_neg h];exact .inl ⟨rfl,rfl⟩
theorem formed_lit'{n d m:Int}(h:decOk n d m=true):formedB (.mk 1 n d m ByteArray.empty [])=true:=by
 rw [formedB,if_pos rfl,h];decide+kernel
mutual
theorem fold_form:∀e:Ex,formedB e=true→formedB (foldF e)=true∧(foldF e).size≤e.size∧(foldF e).depth≤e.depth
 | .mk op n d m s xs=>by
   intro h
   rw [foldF,foldsF_map]
   have h0:=h
   rw [formedB,Bool.and_eq_true]at h
   rcases foldNode_cases op n d m s (xs.map foldF)with ⟨e,-⟩|⟨-,-,-,-,hd,e⟩
   ·rw [e]
    by_cases hl:op=1∨op=2∨op=3
    ·have hx:xs= []:=by
      have:=h.1
      simp only [decide_eq_true_eq]at this
      unfold argsN at this
      rw [if_pos (by omega)]at this
      exact List.eq_nil_of_length_eq_zero (by omega)
     subst hx
     exact⟨h0,Nat.le_refl _,Nat.le_refl _⟩
    ·have hfs:formedsB xs=true:=by
      have:=h.2
      rw [if_neg (by omega),if_neg (by omega),if_neg (by omega)]at this
      exact(Bool.and_eq_true_iff.1 this).1
     obtain⟨k1,k2,k3⟩:=folds_form xs hfs
     refine⟨?_, ?_, ?_⟩
     ·rw [formedB,Bool.and_eq_true]
      refine⟨by rw [List.length_map];exact h.1, ?_⟩
      have:=h.2
      rw [if_neg (by omega),if_neg (by omega),if_neg (by omega)]at this ⊢
      rw [Bool.and_eq_true]at this ⊢
      exact⟨k1,this.2⟩
     ·rw [Ex.size,Ex.size];omega
     ·rw [Ex.depth,Ex.depth];omega
   ·rw [e]
    refine⟨formed_lit' hd, ?_, ?_⟩
    ·rw [Ex.size,Ex.size,Ex.sizes];omega
    ·rw [Ex.depth,Ex.depth,Ex.depths];omega
theorem folds_form:∀xs:List Ex,formedsB xs=true→formedsB (xs.map foldF)=true∧Ex.sizes (xs.map foldF)≤Ex.sizes xs∧Ex.depths (xs.map foldF)≤Ex.depths xs
 | [],_=>⟨rfl,Nat.le_refl _,Nat.le_refl _⟩
 |e::r,h=>by
  rw [formedsB,Bool.and_eq_true]at h
  obtain⟨a1,a2,a3⟩:=fold_form e h.1
  obtain⟨b1,b2,b3⟩:=folds_form r h.2
  rw [List.map_cons]
  refine⟨by rw [formedsB,a1,b1];rfl, ?_, ?_⟩
  ·rw [Ex.sizes,Ex.sizes];omega
  ·rw [Ex.depths,Ex.depths];omega
end
theorem foldOp_bd{op:Int}(h:foldOp op=true):4≤op∧op≤20∧op≠5∧op≠17∧op≠18:=by
 unfold foldOp at h
 simp only [decide_eq_true_eq]at h
 omega
theorem val_lit(v:Vw)(env:List (ByteArray × Val)){y:Ex}(h:y.op=1):valueF v env y=(litV y,0):=by
 rw [valueF_eq];unfold valNode;rw [if_pos h];rfl
theorem inf_lit(env:List (ByteArray × Int)){y:Ex}(h:y.op=1):inferF env y=(y.dim,0):=by
 rw [inferF_eq];unfold infNode;rw [if_pos h]
theorem infers_map{env:List (ByteArray × Int)}:∀{xs:List Ex},(∀a∈xs,(inferF env a).2=0)→infersF env xs=(xs.map (fun e=>(inferF env e).1),0)
 | [],_=>rfl
 |e::r,h=>by
  rw [infersF,if_neg (by have:=h e (by simp);omega),infers_map (fun a ha=>h a (List.mem_cons_of_mem _ ha))];rfl
theorem values_map(v:Vw)(env:List (ByteArray × Val)):∀xs:List Ex,valuesF v env xs=xs.map (valueF v env)
 | []=>rfl
 |e::r=>by rw [valuesF,values_map v env r];rfl
mutual
theorem fold_infer(env:List (ByteArray × Int)):∀e:Ex,inferF env (foldF e)=inferF env e
 | .mk op n d m s xs=>by
   have ih:=folds_infer env xs
   rw [foldF,foldsF_map]
   rcases foldNode_cases op n d m s (xs.map foldF)with ⟨e,-⟩|⟨ho,hl,hr,-,-,e⟩
   ·rw [e,inferF,inferF,ih]
   ·rw [e,inf_lit env (rfl:Ex.op (.mk 1 _ _ _ _ _)=1),inferF,←ih]
    have hb:=foldOp_bd ho
    have hm:infersF env (xs.map foldF)=((xs.map foldF).map Ex.dim,0):=by
     rw [infers_map (fun a ha=>by rw [inf_lit env (hl a ha)])]
     refine Prod.ext (List.map_congr_left fun a ha=>?_) rfl
     rw [inf_lit env (hl a ha)]
    unfold infNode
    rw [if_neg (by omega),if_neg (by omega),if_neg (by omega),hm]
    simp only
    rw [if_neg (by simp),if_neg hr];rfl
theorem folds_infer(env:List (ByteArray × Int)):∀xs:List Ex,infersF env (xs.map foldF)=infersF env xs
 | []=>rfl
 |e::r=>by rw [List.map_cons,infersF,infersF,fold_infer env e,folds_infer env r]
end
theorem opV_num{op:Int}{L:List Val}(h:foldOp op=true)(h0:(opV op L).2=0):(opV op L).1.yes=false:=by
 have hb:=foldOp_bd h
 have hn:∀(m:Int) (r:Int × Int × Int),(numR m r).1.yes=false:=fun m r=>by unfold numR;split<;>rfl
 unfold foldOp at h
 simp only [decide_eq_true_eq]at h
 unfold opV
 split
 ·unfold op1
  rw [if_neg (by omega)]
  split<;>exact hn _ _
 ·unfold op2
  (repeat' split)<;>first|exact hn _ _|rfl|skip
  all_goals(exfalso;omega)
theorem valNode_op(v:Vw){op n d m:Int}{nm:Val × Int}{ys:List Ex}(ho:foldOp op=true)(hlen:(ys.length:Int)=argsN op):valNode v op n d m nm (ys.map fun y=>(litV y,0))=opV op (ys.map litV):=by
 have hb:=foldOp_bd ho
 unfold valNode opV
 rw [if_neg (by omega),if_neg (by omega),if_neg (by omega)]
 by_cases h6:op≤6
 ·obtain⟨a,rfl⟩:∃a,ys= [a]:=by
   have e:argsN op=1:=by unfold argsN;rw [if_neg (by omega),if_pos (by omega)]
   rw [e]at hlen
   exact List.length_eq_one_iff.1 (by omega)
  rw [if_neg (by simp),if_neg (by omega),if_neg (by omega),if_neg (by omega),if_pos h6,if_pos h6];rfl
 ·obtain⟨a,b,rfl⟩:∃a b,ys= [a,b]:=by
   have e:argsN op=2:=by unfold argsN;rw [if_neg (by omega),if_neg (by omega),if_pos (by omega)]
   rw [e]at hlen
   match ys,hlen with
   | [a,b],_=>exact⟨a,b,rfl⟩
   | [],h=>simp at h
   | [_],h=>simp at h
   |_::_::_::_,h=>simp at h;omega
  rw [if_neg (by simp),if_neg (by omega),if_neg (by omega),if_neg (by omega),if_neg h6,if_neg (by simp),if_neg h6];rfl
section
variable {v : Vw} (hv : v.ok = true) {env : List (ByteArray × Val)} (hE : ∀ p ∈ env, p.2.ok = true)
include hv hE
mutual
theorem fold_value:∀e:Ex,formedB e=true→(inferF (dimsOf env) e).2=0→valueF v env (foldF e)=valueF v env e
 | .mk op n d m s xs=>by
   intro hf ht
   have hf0:=hf
   have ht0:=ht
   rw [foldF,foldsF_map]
   rw [formedB,Bool.and_eq_true,decide_eq_true_eq]at hf
   obtain⟨hlen,hf⟩:=hf
   by_cases hleaf:op=1∨op=2∨op=3
   ·have hx:xs= []:=by
     unfold argsN at hlen
     rw [if_pos (by omega)]at hlen
     exact List.eq_nil_of_length_eq_zero (by omega)
    subst hx
    rcases foldNode_cases op n d m s []with ⟨e,-⟩|⟨ho,-⟩
    ·rw [List.map_nil,e]
    ·have:=foldOp_bd ho;omega
   rw [if_neg (by omega),if_neg (by omega),if_neg (by omega)]at hf
   have hfs:=(Bool.and_eq_true_iff.1 hf).1
   rw [inferF]at ht
   unfold infNode at ht
   rw [if_neg (by omega),if_neg (by omega),if_neg (by omega)]at ht
   by_cases c1:(infersF (dimsOf env) xs).2≠0
   ·rw [if_pos c1]at ht;exact absurd ht c1
   obtain⟨hd,hts⟩:=infers_parts (Decidable.not_not.1 c1)
   have ih:=folds_value xs hfs hts
   rcases foldNode_cases op n d m s (xs.map foldF)with ⟨e,-⟩|⟨ho,hl,hr,h0,hdc,e⟩
   ·rw [e,valueF,valueF,ih]
   ·rw [e,val_lit v env (rfl:Ex.op (.mk 1 _ _ _ _ _)=1),valueF,←ih]
    have hb:=foldOp_bd ho
    have hm:valuesF v env (xs.map foldF)=(xs.map foldF).map (fun y=>(litV y,0)):=by
     rw [values_map]
     exact List.map_congr_left fun a ha=>val_lit v env (hl a ha)
    rw [hm]
    have hy:=opV_num ho h0
    have hvn:=valNode_op v (n:=n) (d:=d) (m:=m) (nm:=nameF v env s) ho (ys:=xs.map foldF) (by rw [List.length_map];exact hlen)
    rw [hvn]
    have hi:inferF (dimsOf env) (.mk op n d m s xs)=(resD op ((xs.map foldF).map Ex.dim),0):=by
     rw [←fold_infer,foldF,foldsF_map,e];exact inf_lit _ rfl
    have hok:=value_ok hv hE _ hf0 ht0
    rw [hi,valueF,←ih,hm,hvn]at hok
    have hdim:=(hok.good h0).2
    generalize opV op ((xs.map foldF).map litV)=r at *
    obtain⟨⟨rm,ry,rn,rd⟩,rc⟩:=r
    simp only at h0 hy hdim
    subst h0 hy hdim
    rfl
theorem folds_value:∀xs:List Ex,formedsB xs=true→(∀a∈xs,(inferF (dimsOf env) a).2=0)→valuesF v env (xs.map foldF)=valuesF v env xs
 | [],_,_=>rfl
 |e::r,hf,ht=>by
  rw [formedsB,Bool.and_eq_true]at hf
  rw [List.map_cons,valuesF,valuesF,fold_value e hf.1 (ht e (by simp)),folds_value r hf.2 (fun a ha=>ht a (List.mem_cons_of_mem _ ha))]
end
end
theorem fold_lit{e:Ex}(h:e.op=1)(ha:e.args= []):foldF e=e:=by
 rw [foldF_eq,ha,List.map_nil]
 rcases foldNode_cases e.op e.num e.den e.dim e.name []with ⟨k,-⟩|⟨ho,-⟩
 ·rw [k];cases e;cases ha;rfl
 ·have:=foldOp_bd ho;omega
mutual
theorem fold_fold:∀e:Ex,foldF (foldF e)=foldF e
 | .mk op n d m s xs=>by
   have ih:=folds_fold xs
   rw [foldF,foldsF_map]
   rcases foldNode_cases op n d m s (xs.map foldF)with ⟨k,hn⟩|⟨-,-,-,-,-,k⟩
   ·rw [k,foldF,foldsF_map,ih]
    unfold foldNode
    rw [hn]
   ·rw [k];exact fold_lit rfl rfl
theorem folds_fold:∀xs:List Ex,(xs.map foldF).map foldF=xs.map foldF
 | []=>rfl
 |e::r=>by rw [List.map_cons,List.map_cons,fold_fold e,folds_fold r]
end
theorem fold_valid{e:Ex}(h:validB e=true):validB (foldF e)=true:=by
 unfold validB at h ⊢
 simp only [Bool.and_eq_true,decide_eq_true_eq]at h ⊢
 obtain⟨k1,k2,k3⟩:=fold_form e h.2
 exact⟨⟨by omega,by omega⟩,k1⟩
mutual
theorem fold_ment{s:ByteArray}:∀e:Ex,mentB s (foldF e)=true→mentB s e=true
 | .mk op n d m s' xs=>by
   intro h
   rw [foldF,foldsF_map]at h
   rcases foldNode_cases op n d m s' (xs.map foldF)with ⟨k,-⟩|⟨-,-,-,-,-,k⟩
   ·rw [k,mentB,Bool.or_eq_true]at h
    rw [mentB,Bool.or_eq_true]
    exact h.imp id (folds_ment xs)
   ·rw [k,mentB]at h
    simp [mentsB]at h
theorem folds_ment{s:ByteArray}:∀xs:List Ex,mentsB s (xs.map foldF)=true→mentsB s xs=true
 | [],h=>h
 |e::r,h=>by
  rw [List.map_cons,mentsB,Bool.or_eq_true]at h
  rw [mentsB,Bool.or_eq_true]
  exact h.imp (fold_ment e) (folds_ment r)
end
theorem lits_infer(env:List (ByteArray × Int)){l:List Ex}(h:∀y∈l,y.op=1):infersF env l=(l.map Ex.dim,0):=by
 rw [infers_map (fun a ha=>by rw [inf_lit env (h a ha)])]
 refine Prod.ext (List.map_congr_left fun a ha=>?_) rfl
 rw [inf_lit env (h a ha)]
theorem lit_args{y:Ex}(hf:formedB y=true)(h1:y.op=1):y.args= []:=by
 rw [formedB_eq,Bool.and_eq_true,decide_eq_true_eq,h1]at hf
 refine List.eq_nil_of_length_eq_zero ?_
 have:=hf.1
 have e:argsN 1=0:=by decide
 omega
theorem lit_dec{y:Ex}(hf:formedB y=true)(h1:y.op=1):decOk y.num y.den y.dim=true:=by
 rw [formedB_eq,Bool.and_eq_true,if_pos h1,Bool.and_eq_true]at hf
 exact hf.2.1
theorem lit_val{y:Ex}(hf:formedB y=true)(h1:y.op=1):(litV y).ok=true:=by
 have:=decOk_bd (lit_dec hf h1)
 exact Val.num_ok this.2 this.1
theorem formeds_mem:∀{l:List Ex},formedsB l=true→∀y∈l,formedB y=true
 | [],_,_,h=>by cases h
 |e::r,h,y,hy=>by
  rw [formedsB,Bool.and_eq_true]at h
  rcases List.mem_cons.1 hy with rfl|hy
  ·exact h.1
  ·exact formeds_mem h.2 y hy
theorem lits_size:∀{l:List Ex},formedsB l=true→(∀y∈l,y.op=1)→Ex.sizes l≤l.length∧Ex.depths l≤1
 | [],_,_=>⟨Nat.le_refl _,by rw [Ex.depths];omega⟩
 |e::r,h,hl=>by
  rw [formedsB,Bool.and_eq_true]at h
  obtain⟨a,b⟩:=lits_size h.2 (fun y hy=>hl y (List.mem_cons_of_mem _ hy))
  have hx:=lit_args h.1 (hl e (by simp))
  have e1:e.size=1:=by rw [Ex.size_eq,hx];rfl
  have e2:e.depth=1:=by rw [Ex.depth_eq,hx];rfl
  rw [Ex.sizes,Ex.depths,List.length_cons]
  omega
theorem node_formed{op n d m:Int}{s:ByteArray}{xs:List Ex}(h:formedB (.mk op n d m s xs)=true):formedB (.mk op n d m s (xs.map foldF))=true:=by
 have h0:=h
 rw [formedB,Bool.and_eq_true]at h
 by_cases hl:op=1∨op=2∨op=3
 ·have hx:xs= []:=by
   have:=h.1
   simp only [decide_eq_true_eq]at this
   unfold argsN at this
   rw [if_pos (by omega)]at this
   exact List.eq_nil_of_length_eq_zero (by omega)
  subst hx
  exact h0
 ·have h2:=h.2
  rw [if_neg (by omega),if_neg (by omega),if_neg (by omega),Bool.and_eq_true]at h2
  rw [formedB,Bool.and_eq_true]
  refine⟨by rw [List.length_map];exact h.1, ?_⟩
  rw [if_neg (by omega),if_neg (by omega),if_neg (by omega),Bool.and_eq_true]
  exact⟨(folds_form xs h2.1).1,h2.2⟩
theorem op_formeds{op n d m:Int}{s:ByteArray}{xs:List Ex}(h:formedB (.mk op n d m s xs)=true)(ho:4≤op):formedsB xs=true∧(xs.length:Int)=argsN op:=by
 rw [formedB,Bool.and_eq_true,decide_eq_true_eq,if_neg (by omega),if_neg (by omega),if_neg (by omega),Bool.and_eq_true]at h
 exact⟨h.2.1,h.1⟩
theorem formed_arg{e:Ex}(h:formedB e=true)(k:Nat)(hk:k<e.args.length):formedB (e.arg k)=true:=by
 obtain⟨op,n,d,m,s,xs⟩:=e
 have hk':k<xs.length:=hk
 have hm:(Ex.mk op n d m s xs).arg k∈xs:=by
  show xs.getD k default∈xs
  rw [List.getD_eq_getElem?_getD,List.getElem?_eq_getElem hk'];exact List.getElem_mem hk'
 rw [formedB,Bool.and_eq_true,decide_eq_true_eq]at h
 by_cases hl:op=1∨op=2∨op=3
 ·have:=h.1
  unfold argsN at this
  rw [if_pos (by omega)]at this
  omega
 ·have h2:=h.2
  rw [if_neg (by omega),if_neg (by omega),if_neg (by omega),Bool.and_eq_true]at h2
  exact formeds_mem h2.1 _ hm
structure CalcOk(e:Ex):Prop where
 op:foldOp e.op=true
 lit:∀y∈e.args,y.op=1
 form:formedB e=true
theorem CalcOk.args{e:Ex}(h:CalcOk e):formedsB e.args=true∧(e.args.length:Int)=argsN e.op:=by
 have:=foldOp_bd h.op
 cases e
 exact op_formeds h.form this.1
theorem CalcOk.valid{e:Ex}(h:CalcOk e):validB e=true:=by
 have hb:=foldOp_bd h.op
 obtain⟨h1,h2⟩:=h.args
 obtain⟨h3,h4⟩:=lits_size h1 h.lit
 unfold validB
 rw [h.form,Bool.and_true,Bool.and_eq_true,decide_eq_true_eq,decide_eq_true_eq,Ex.size_eq,Ex.depth_eq]
 have:argsN e.op≤2:=by unfold argsN;(repeat' split)<;>omega
 omega
theorem CalcOk.infer{e:Ex}(h:CalcOk e):inferE [] e=(if resD e.op (e.args.map Ex.dim)=0 then(0,6)else(resD e.op (e.args.map Ex.dim),0)):=by
 unfold inferE
 rw [if_pos ⟨h.valid,rfl⟩,inferF_eq,lits_infer [] h.lit]
 have hb:=foldOp_bd h.op
 unfold infNode
 rw [if_neg (by omega),if_neg (by omega),if_neg (by omega)]
 simp
theorem CalcOk.arg{e:Ex}(h:CalcOk e){i:Nat}(hi:i<e.args.length):(e.arg i).op=1∧(litV (e.arg i)).ok=true:=by
 have hm:e.arg i∈e.args:=by
  exact fz76
 exact⟨h.lit _ hm,lit_val (formeds_mem h.args.1 _ hm) (h.lit _ hm)⟩
theorem CalcOk.one{e:Ex}(h:CalcOk e)(h6:e.op≤6):e.args= [e.arg 0]:=by
 have hb:=foldOp_bd h.op
 have hl:=h.args.2
 have ea:argsN e.op=1:=by unfold argsN;rw [if_neg (by omega),if_pos (by omega)]
 rw [ea]at hl
 obtain⟨a,ha⟩:=List.length_eq_one_iff.1 (show e.args.length=1 by omega)
 unfold Ex.arg
 rw [ha];rfl
theorem CalcOk.two{e:Ex}(h:CalcOk e)(h6:7≤e.op):e.args= [e.arg 0,e.arg 1]:=by
 have hb:=foldOp_bd h.op
 have hl:=h.args.2
 have ea:argsN e.op=2:=by unfold argsN;rw [if_neg (by omega),if_neg (by omega),if_pos (by omega)]
 rw [ea]at hl
 unfold Ex.arg
 match ha:e.args,(show e.args.length=2 by omega)with
 | [a,b],_=>rfl
theorem CalcOk.ok{e:Ex}(h:CalcOk e)(hr:resD e.op (e.args.map Ex.dim)≠0):okR (resD e.op (e.args.map Ex.dim)) (opV e.op (e.args.map litV)):=by
 have hb:=foldOp_bd h.op
 by_cases h6:e.op≤6
 ·have ha:=h.one h6
  have hx:=(h.arg (i:=0) (by rw [ha];simp)).2
  rw [ha]at hr ⊢
  have:=op1_ok hx hb.1 h6 hr
  unfold opV
  rw [if_pos h6];exact this
 ·have ha:=h.two (by omega)
  have hx:=(h.arg (i:=0) (by rw [ha];simp)).2
  have hy:=(h.arg (i:=1) (by rw [ha];simp)).2
  rw [ha]at hr ⊢
  have:=op2_ok hx hy (by omega) hb.2.1 hb.2.2.2.1 hb.2.2.2.2 hr
  unfold opV
  rw [if_neg h6];exact this
theorem CalcOk.calc{e:Ex}(h:CalcOk e)(r:Int × Int × Int)(hR:(opV e.op (e.args.map litV)).2=r.2.2∧(r.2.2=0→(opV e.op (e.args.map litV)).1.n=r.1∧(opV e.op (e.args.map litV)).1.d=r.2.1))(hd:resD e.op (e.args.map Ex.dim)≠0) :
 calcF e.op e.args=if r.2.2=0∧decOk r.1 r.2.1 (resD e.op (e.args.map Ex.dim))=true then some (r.1,r.2.1,resD e.op (e.args.map Ex.dim))else none:=by
 unfold calcF
 rw [hR.1]
 by_cases h0:r.2.2=0
 ·obtain⟨e1,e2⟩:=hR.2 h0
  rw [e1,e2]
  by_cases hk:decOk r.1 r.2.1 (resD e.op (e.args.map Ex.dim))=true
  ·rw [if_pos ⟨h.op,h.lit,hd,h0,hk⟩,if_pos ⟨h0,hk⟩]
  ·rw [if_neg (fun c=>hk c.2.2.2.2),if_neg (fun c=>hk c.2)]
 ·rw [if_neg (fun c=>h0 c.2.2.2.1),if_neg (fun c=>h0 c.1)]
theorem CalcOk.no{e:Ex}(hd:resD e.op (e.args.map Ex.dim)=0):calcF e.op e.args=none:=by
 unfold calcF
 rw [if_neg (fun c=>c.2.2.1 hd)]
theorem numR_res(m:Int)(r:Int × Int × Int):(numR m r).2=r.2.2∧(r.2.2=0→(numR m r).1.n=r.1∧(numR m r).1.d=r.2.1):=by
 unfold numR
 by_cases h:r.2.2=0
 ·simp [h,Val.num]
 ·simp [h]
theorem frac_same{a b c d:Int}(ha:vfrac a b=true)(hb:vfrac c d=true)(h:cmpI a b c d=0):a=c∧b=d:=by
 refine frac_eq ha hb ?_
 unfold cmpI at h
 (repeat' split at h)<;>omega
theorem foldsF_take(e:Ex)(k:Nat)(hk:k<e.args.length){l:List (Ex × Go.Value)}(h:(e.args.take k).map foldF=l.map (·.1))(ve:Go.Value):(e.args.take (k+1)).map foldF=(l++[(foldF (e.arg k),ve)]).map (·.1):=by
 rw [Ex.take_succ _ _ hk,List.map_append,h,List.map_append];rfl
end Go.Proofs.YtfoefpoaomepbaaGreatDoor
