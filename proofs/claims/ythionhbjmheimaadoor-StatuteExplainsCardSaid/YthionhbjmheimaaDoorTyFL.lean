/- typing.infer, typing.Infer: the dimension of an expression, in the program. -/
import Derived.Test.YthionhbjmheimaaDoorLVv2
set_option linter.all false
set_option maxHeartbeats 16000000
set_option maxRecDepth 1000000
namespace Go.Proofs.YthionhbjmheimaaDoor
open Go.RowKit
def InfP(r:Int × Int)(w:World)(e:Ending)(w':World):Prop:=e= .returned (.tuple #[.int .i64 r.1,.int .i64 r.2])∧w.Grows w'
theorem infP{r:Int × Int}{a b:Int}{w w':World}(h:r=(a,b))(hg:w.Grows w'):InfP r w (.returned (.tuple #[.int .i64 a,.int .i64 b])) w':=by subst h;exact⟨rfl,hg⟩
theorem formeds_get{l:List Ex}(h:formedsB l=true)(k:Nat)(hk:k<l.length):formedB (l.getD k default)=true:=by
 by_cases hf:formedB (l.getD k default)=true
 ·exact hf
 ·rw [formedsB_no l k hk (by simpa using hf)]at h;cases h
theorem formed_op{e:Ex}(h:formedB e=true)(h1:¬e.op=1)(h2:¬e.op=2)(h3:¬e.op=3):(e.args.length:Int)=argsN e.op∧4≤e.op∧e.op≤21∧formedsB e.args=true:=by
 rw [formedB_eq,Bool.and_eq_true,decide_eq_true_eq,if_neg h1,if_neg h2,if_neg h3,Bool.and_eq_true]at h
 have hop:4≤e.op∧e.op≤21:=by have ha:=h.1;unfold argsN at ha;(repeat' split at ha)<;>omega
 exact⟨h.1,hop.1,hop.2,h.2.1⟩
abbrev infD(env:List (ByteArray × Int))(e:Ex):Int:=(inferF env e).1
abbrev infC(env:List (ByteArray × Int))(e:Ex):Int:=(inferF env e).2
abbrev dimsK(env:List (ByteArray × Int))(e:Ex)(k:Nat):List Int:=(e.args.take k).map (infD env)
theorem dimsK_succ(env:List (ByteArray × Int))(e:Ex)(k:Nat)(hk:k<e.args.length):dimsK env e (k+1)=dimsK env e k++[infD env (e.arg k)]:=by
 unfold dimsK
 rw [List.take_succ_eq_append_getElem hk,List.map_append]
 congr 1
 show [infD env e.args[k]]= [infD env (e.args.getD k default)]
 rw [List.getD_eq_getElem?_getD,List.getElem?_eq_getElem hk];rfl
theorem inf_op(env:List (ByteArray × Int))(e:Ex)(h1:¬e.op=1)(h2:¬e.op=2)(h3:¬e.op=3)(hok:∀j,j<e.args.length→infC env (e.arg j)=0) :
 inferF env e=if resD e.op (dimsK env e e.args.length)=0 then(0,6)else(resD e.op (dimsK env e e.args.length),0):=by
 rw [inferF_eq,infers_ok env e.args hok]
 unfold infNode dimsK
 rw [if_neg h1,if_neg h3,if_neg h2,if_neg (by simp),List.take_length]
theorem inf_bad(env:List (ByteArray × Int))(e:Ex)(h1:¬e.op=1)(h2:¬e.op=2)(h3:¬e.op=3)(k:Nat)(hk:k<e.args.length)(hj:∀j,j<k→infC env (e.arg j)=0)(hb:infC env (e.arg k)≠0):inferF env e=(0,infC env (e.arg k)):=by
 have:=infers_bad env e.args k hk hj hb
 rw [inferF_eq]
 unfold infNode
 have hb2:(infersF env e.args).2≠0:=by rw [this];exact hb
 rw [if_neg h1,if_neg h3,if_neg h2,if_pos hb2,this];rfl
theorem own_grow{w:World}{base:Nat}{e:TypeId}{size:Nat}{v:Value}{n:Nat}{xs:List Value}(h:w.ownsRow base e size v n xs){w':World}(hg:w.Grows w'):w'.ownsRow base e size v n xs:=
 ownsRow_keep h fun k _ hk=>hg.below.block k hk
theorem infoI:(Tryd.prog.info? 3).map (fun i=>(i.zero,i.size,i.bytes))=some (some (.int .i64 0),1,8):=by kernel_rfl
end Go.Proofs.YthionhbjmheimaaDoor
