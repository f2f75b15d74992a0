import Derived.Test.YtcfpoofhokbhlaaGreatDoorVTwistW
import Derived.Test.YtcfpoofhokbhlaaGreatDoorVEvP
set_option linter.all false
set_option maxHeartbeats 16000000
set_option maxRecDepth 1000000
namespace Go.Proofs.YtcfpoofhokbhlaaGreatDoor
open Tryz List
open Go.RowKit
structure Dp(w:World)(b o:Nat)(c:Value)(e:Ex)(u:Value):Prop where
 nm:w.cell? ⟨b,o,none⟩=some c
 c0:w.cell? ⟨b,o+1,none⟩=some (.int .i64 e.op)
 c1:w.cell? ⟨b,o+2,none⟩=some (.int .i64 e.num)
 c2:w.cell? ⟨b,o+3,none⟩=some (.int .i64 e.den)
 c3:w.cell? ⟨b,o+4,none⟩=some (.int .i64 e.dim)
 c4:w.cell? ⟨b,o+5,none⟩=some (.string e.name)
 c5:w.cell? ⟨b,o+6,none⟩=some u
 rep:aB (fun _=>True) w e u
theorem Dp.same{w w':World}{b o:Nat}{c:Value}{e:Ex}{u:Value}(h:Dp w b o c e u)(hg:w.Grows w')(hb:b<w.heap.size):Dp w' b o c e u:=by
 have k:∀o,w'.cell? ⟨b,o,none⟩=w.cell? ⟨b,o,none⟩:=fun o=>World.cell?_of_block (hg.below.block b hb);exact⟨by rw [k];exact h.nm,by rw [k];exact h.c0,by rw [k];exact h.c1,by rw [k];exact h.c2,by rw [k];exact h.c3,by rw [k];exact h.c4,by rw [k];exact h.c5,h.rep.grows hg⟩
def gI(w:World)(v:Value)(ls:List (ByteArray × Ex)):Prop:=
 ls.length<=1000/\∃a cap,v= .slice a ls.length cap/\(ls.length=0\/∃b off,a=some ⟨b,off,none⟩/\b<w.heap.size/\∀i,i<ls.length->∃u,Dp w b (off+i*7) (.string (ls.getD i default).1) (ls.getD i default).2 u)
theorem gI.grows{w w':World}{v:Value}{ls:List (ByteArray × Ex)}(h:gI w v ls)(hg:w.Grows w'):gI w' v ls:=by
 exact RI
theorem Aj{α β:Type}{f:α->β}{l:List α}{L:List β}(h:l.map f=L){k:Nat}(hk:k<L.length):∃x,l[k]? =some x/\L[k]? =some (f x):=by
 subst h;have hk':k<l.length:=by simpa using hk
 exact⟨l[k],getElem?_eq_getElem hk',by rw [getElem?_map,getElem?_eq_getElem hk'];rfl⟩
theorem cz.lets{B:Nat}{w:World}{V:dH}{v3 v4 v5 v6 v7:Value}(h:cz B w V v3 v4 v5 v6 v7)(hl:V.le.length<=1000):gI w v5 V.le:=by
 obtain⟨ql,qg,qr,H1,H2,H3,H4,H5,e1,e2,e3,ord,r1,r2,r3,r4,r5⟩:=h;obtain⟨a,cap,hv,hc⟩:=r3.toG.cells;have hlen:(fQ ql).length=V.le.length:=by rw [<-e1];simp [fQ]
 rw [hlen]at hv hc;refine⟨hl,a,cap,hv,hc.imp id ?_⟩;rintro⟨g,ha,hb,hlt,hx⟩;refine⟨g,0,ha,hlt,fun i hi=>?_⟩;obtain⟨⟨s,e,v⟩,hta,htl⟩:=Aj e1 hi;have hget:(fQ ql).getD i []= .string s::bH e v:=by simp [fQ,getD_eq_getElem?_getD,getElem?_map,hta]
 have hle:V.le.getD i default=(s,e):=by rw [getD_eq_getElem?_getD,htl];rfl
 have h7:=fun j u hj hu=>hx i j u hi hj (by rw [hget];exact hu);rw [hle,show 0+i*7=i*7 by omega];exact⟨v,h7 0 _ ze rfl,h7 1 _ ze rfl,h7 2 _ ze rfl,h7 3 _ ze rfl,h7 4 _ ze rfl,h7 5 _ ze rfl,h7 6 _ ze rfl,(r3.rep (e,v) (mem_map.2 ⟨_,List.mem_of_getElem? hta,rfl⟩)).mono fun _ _=>trivial⟩
def jP(c:Nat)(w:World)(v:Value)(l:List Int):Prop:=
 l.length<=1000/\∃a cap,v= .slice a l.length cap/\(l.length=0\/∃b off,a=some ⟨b,off,none⟩/\b<w.heap.size/\∀i,i<l.length->w.cell? ⟨b,off+i*c,none⟩=some (.int .i64 (l.getD i 0)))
structure PW(w:World)(b o:Nat)(t:Int × Ex × Ex)(u v:Value):Prop where
 nm:w.cell? ⟨b,o,none⟩=some (.int .i64 t.1)
 c0:w.cell? ⟨b,o+1,none⟩=some (.int .i64 t.2.1.op)
 c1:w.cell? ⟨b,o+2,none⟩=some (.int .i64 t.2.1.num)
 c2:w.cell? ⟨b,o+3,none⟩=some (.int .i64 t.2.1.den)
 c3:w.cell? ⟨b,o+4,none⟩=some (.int .i64 t.2.1.dim)
 c4:w.cell? ⟨b,o+5,none⟩=some (.string t.2.1.name)
 c5:w.cell? ⟨b,o+6,none⟩=some u
 e0:w.cell? ⟨b,o+7,none⟩=some (.int .i64 t.2.2.op)
 e1:w.cell? ⟨b,o+8,none⟩=some (.int .i64 t.2.2.num)
 e2:w.cell? ⟨b,o+9,none⟩=some (.int .i64 t.2.2.den)
 e3:w.cell? ⟨b,o+10,none⟩=some (.int .i64 t.2.2.dim)
 e4:w.cell? ⟨b,o+11,none⟩=some (.string t.2.2.name)
 e5:w.cell? ⟨b,o+12,none⟩=some v
 rep:aB (fun _=>True) w t.2.1 u
 rep2:aB (fun _=>True) w t.2.2 v
instance:Inhabited (Int × Ex × Ex):=⟨(0,default,default)⟩
def iT(w:World)(v:Value)(l:List (Int × Ex × Ex)):Prop:=
 l.length<=1000/\∃a cap,v= .slice a l.length cap/\(l.length=0\/∃b off,a=some ⟨b,off,none⟩/\b<w.heap.size/\∀i,i<l.length->∃u u',PW w b (off+i*13) (l.getD i default) u u')
def oC(w:World)(v:Value)(l:List (Int × Ex)):Prop:=
 l.length<=1000/\∃a cap,v= .slice a l.length cap/\(l.length=0\/∃b off,a=some ⟨b,off,none⟩/\b<w.heap.size/\∀i,i<l.length->∃u,Dp w b (off+i*7) (.int .i64 (l.getD i default).1) (l.getD i default).2 u)
theorem PW.same{w w':World}{b o:Nat}{t:Int × Ex × Ex}{u v:Value}(h:PW w b o t u v)(hg:w.Grows w')(hb:b<w.heap.size):PW w' b o t u v:=by
 have k:∀o,w'.cell? ⟨b,o,none⟩=w.cell? ⟨b,o,none⟩:=fun o=>World.cell?_of_block (hg.below.block b hb);exact⟨by rw [k];exact h.nm,by rw [k];exact h.c0,by rw [k];exact h.c1,by rw [k];exact h.c2,by rw [k];exact h.c3,by rw [k];exact h.c4,by rw [k];exact h.c5,by rw [k];exact h.e0,by rw [k];exact h.e1,by rw [k];exact h.e2,by rw [k];exact h.e3,by rw [k];exact h.e4,by rw [k];exact h.e5,h.rep.grows hg,h.rep2.grows hg⟩
theorem jP.grows{c:Nat}{w w':World}{v:Value}{l:List Int}(h:jP c w v l)(hg:w.Grows w'):jP c w' v l:=by
 obtain⟨h0,a,cap,hv,h1⟩:=h;refine⟨h0,a,cap,hv,h1.imp id ?_⟩;rintro⟨b,off,ha,hb,hc⟩;have:=hg.below.size;exact⟨b,off,ha,by omega,fun i hi=>(World.cell?_of_block (hg.below.block b hb)).trans (hc i hi)⟩
theorem iT.grows{w w':World}{v:Value}{l:List (Int × Ex × Ex)}(h:iT w v l)(hg:w.Grows w'):iT w' v l:=by
 obtain⟨h0,a,cap,hv,h1⟩:=h;refine⟨h0,a,cap,hv,h1.imp id ?_⟩;rintro⟨b,off,ha,hb,hc⟩;have:=hg.below.size;exact⟨b,off,ha,by omega,fun i hi=>by obtain⟨u,u',hu⟩:=hc i hi;exact⟨u,u',hu.same hg hb⟩⟩
theorem oC.grows{w w':World}{v:Value}{l:List (Int × Ex)}(h:oC w v l)(hg:w.Grows w'):oC w' v l:=by
 exact RI
structure vw(w:World)(V:dH)(v3 v4 v5 v6 v7:Value):Prop where
 cr:jP 2 w v3 (V.cr.map Prod.fst)
 se:jP 3 w v4 (V.se.map Prod.fst)
 le:gI w v5 V.le
 gr:iT w v6 V.gr
 re:oC w v7 V.re
theorem vw.grows{w w':World}{V:dH}{v3 v4 v5 v6 v7:Value}(h:vw w V v3 v4 v5 v6 v7)(hg:w.Grows w'):vw w' V v3 v4 v5 v6 v7:=⟨h.cr.grows hg,h.se.grows hg,h.le.grows hg,h.gr.grows hg,h.re.grows hg⟩
theorem cz.nums{T:TypeId}{c base:Nat}{w:World}{v:Value}{l:List (List Value)}{rs:List (Ex × Value)}{ns:List Int}(h:bV T c base w v l rs)(hc:0<c)(hl:l.length=ns.length)(h1000:ns.length<=1000)(h0:∀i,i<ns.length->(l.getD i [])[0]? =some (.int .i64 (ns.getD i 0))):jP c w v ns:=by
 obtain⟨a,cap,hv,hx⟩:=h.cells;rw [hl]at hv hx;refine⟨h1000,a,cap,hv,hx.imp id ?_⟩;rintro⟨g,ha,hb,hlt,hx⟩;exact⟨g,0,ha,hlt,fun i hi=>by rw [Nat.zero_add];exact hx i 0 _ hi hc (h0 i hi)⟩
theorem cz.verC{B:Nat}{w:World}{V:dH}{v3 v4 v5 v6 v7:Value}(h:cz B w V v3 v4 v5 v6 v7)(hl:V.cr.length<=1000/\V.se.length<=1000/\V.le.length<=1000/\V.gr.length<=1000/\V.re.length<=1000):vw w V v3 v4 v5 v6 v7:=by
 have hle:=h.lets hl.2.2.1;obtain⟨ql,qg,qr,H1,H2,H3,H4,H5,e1,e2,e3,ord,r1,r2,r3,r4,r5⟩:=h;refine⟨cz.nums r1.toG ze zO zp (fun i hi=>?_),cz.nums r2.toG ze zP zp (fun i hi=>?_),hle, ?_, ?_⟩
 ·rw [length_map]at hi;simp [crL,getD_eq_getElem?_getD,getElem?_map,getElem?_eq_getElem hi]
 ·rw [length_map]at hi;simp [seL,getD_eq_getElem?_getD,getElem?_map,getElem?_eq_getElem hi]
 ·obtain⟨a,cap,hv,hc⟩:=r4.toG.cells;have hlen:(grL qg).length=V.gr.length:=by rw [<-e2];simp [grL]
  rw [hlen]at hv hc;refine⟨hl.2.2.2.1,a,cap,hv,hc.imp id ?_⟩;rintro⟨g,ha,hb,hlt,hx⟩;refine⟨g,0,ha,hlt,fun i hi=>?_⟩;obtain⟨⟨n,⟨e,v⟩,⟨e',v'⟩⟩,hta,htl⟩:=Aj e2 hi;have hget:(grL qg).getD i []= .int .i64 n::(bH e v++bH e' v'):=by simp [grL,getD_eq_getElem?_getD,getElem?_map,hta]
  have hle:V.gr.getD i default=(n,e,e'):=by rw [getD_eq_getElem?_getD,htl];rfl
  have h7:=fun j u hj hu=>hx i j u hi hj (by rw [hget];exact hu);have hm:=List.mem_of_getElem? hta;rw [hle,show 0+i*13=i*13 by omega]
  exact⟨v,v',h7 0 _ ze rfl,h7 1 _ ze rfl,h7 2 _ ze rfl,h7 3 _ ze rfl,h7 4 _ ze rfl,h7 5 _ ze rfl,h7 6 _ ze rfl,h7 7 _ ze rfl,h7 8 _ ze rfl,h7 9 _ ze rfl,h7 10 _ ze rfl,h7 11 _ ze rfl,h7 12 _ ze rfl,
   (r4.rep (e,v) xq).mono fun _ _=>trivial,(r4.rep (e',v') xq).mono fun _ _=>trivial⟩
 ·obtain⟨a,cap,hv,hc⟩:=r5.cells;have hlen:(reL qr).length=V.re.length:=by rw [<-e3];simp [reL]
  rw [hlen]at hv hc;refine⟨hl.2.2.2.2,a,cap,hv,hc.imp id ?_⟩;rintro⟨g,ha,hb,hlt,hx⟩;refine⟨g,0,ha,hlt,fun i hi=>?_⟩;obtain⟨⟨n,e,v⟩,hta,htl⟩:=Aj e3 hi;have hget:(reL qr).getD i []= .int .i64 n::bH e v:=by simp [reL,getD_eq_getElem?_getD,getElem?_map,hta]
  have hle:V.re.getD i default=(n,e):=by rw [getD_eq_getElem?_getD,htl];rfl
  have h7:=fun j u hj hu=>hx i j u hi hj (by rw [hget];exact hu);rw [hle,show 0+i*7=i*7 by omega];exact⟨v,h7 0 _ ze rfl,h7 1 _ ze rfl,h7 2 _ ze rfl,h7 3 _ ze rfl,h7 4 _ ze rfl,h7 5 _ ze rfl,h7 6 _ ze rfl,(r5.rep (e,v) (mem_map.2 ⟨_,List.mem_of_getElem? hta,rfl⟩)).mono fun _ _=>trivial⟩
def gT(c:Nat)(w:World)(v:Value)(n:Nat):Prop:=
 ∃a cap,v= .slice a n cap/\(n=0\/∃b off,a=some ⟨b,off,none⟩/\b<w.heap.size/\∀i,i<n->∀j,j<c->∃z,w.cell? ⟨b,off+i*c+j,none⟩=some (.int .i64 z))
theorem gT.grows{c:Nat}{w w':World}{v:Value}{n:Nat}(h:gT c w v n)(hg:w.Grows w'):gT c w' v n:=by
 obtain⟨a,cap,hv,h1⟩:=h;refine⟨a,cap,hv,h1.imp id ?_⟩;rintro⟨b,off,ha,hb,hc⟩;have:=hg.below.size;exact⟨b,off,ha,by omega,fun i hi j hj=>(hc i hi j hj).imp fun z hz=>(World.cell?_of_block (hg.below.block b hb)).trans hz⟩
theorem gT.of{T:TypeId}{c base:Nat}{w:World}{v:Value}{l:List (List Value)}{rs:List (Ex × Value)}{n:Nat}(h:bV T c base w v l rs)(hl:l.length=n)(h0:∀i,i<n->∀j,j<c->∃z,(l.getD i [])[j]? =some (.int .i64 z)):gT c w v n:=by
 obtain⟨a,cap,hv,hx⟩:=h.cells;rw [hl]at hv hx;refine⟨a,cap,hv,hx.imp id ?_⟩;rintro⟨g,ha,hb,hlt,hx⟩;exact⟨g,0,ha,hlt,fun i hi j hj=>(h0 i hi j hj).imp fun z hz=>by rw [Nat.zero_add];exact hx i j _ hi hj hz⟩
theorem cz.numsX{B:Nat}{w:World}{V:dH}{v3 v4 v5 v6 v7:Value}(h:cz B w V v3 v4 v5 v6 v7):gT 2 w v3 V.cr.length/\gT 3 w v4 V.se.length:=by
 obtain⟨ql,qg,qr,H1,H2,H3,H4,H5,e1,e2,e3,ord,r1,r2,r3,r4,r5⟩:=h;refine⟨gT.of r1.toG zO fun i hi j hj=>?_,gT.of r2.toG zP fun i hi j hj=>?_⟩
 ·have hg:(crL V.cr).getD i []= [.int .i64 (V.cr[i]).1,.int .i64 (V.cr[i]).2]:=by simp [crL,getD_eq_getElem?_getD,getElem?_map,getElem?_eq_getElem hi]
  rw [hg];rcases(show j=0\/j=1 by omega)with rfl|rfl
  ·exact⟨_,rfl⟩
  ·exact⟨_,rfl⟩
 ·have hg:(seL V.se).getD i []= [.int .i64 (V.se[i]).1,.int .i64 (V.se[i]).2.1,.int .i64 (V.se[i]).2.2]:=by simp [seL,getD_eq_getElem?_getD,getElem?_map,getElem?_eq_getElem hi]
  rw [hg];rcases(show j=0\/j=1\/j=2 by omega)with rfl|rfl|rfl
  ·exact⟨_,rfl⟩
  ·exact⟨_,rfl⟩
  ·exact⟨_,rfl⟩
def je(v:Value):Prop:=∀a n c,v= .slice a n c->n<=c
theorem bV.capOk{T:TypeId}{c base:Nat}{w:World}{v:Value}{l:List (List Value)}{rs:List (Ex × Value)}(h:bV T c base w v l rs):je v:=by
 intro a n k hv;rcases h.own.2 with ⟨rfl,-⟩|⟨g,cap,cur,rfl,-,-,hle,-⟩
 ·simp only [Value.slice.injEq]at hv;omega
 ·simp only [Value.slice.injEq]at hv;omega
theorem cz.caps{B:Nat}{w:World}{V:dH}{v3 v4 v5 v6 v7:Value}(h:cz B w V v3 v4 v5 v6 v7):je v3/\je v6/\je v7:=by
 obtain⟨ql,qg,qr,H1,H2,H3,H4,H5,e1,e2,e3,ord,r1,r2,r3,r4,r5⟩:=h;exact⟨r1.toG.capOk,r4.toG.capOk,r5.capOk⟩
def vS(c:Nat)(g:FuncId)(lb:Array Value)(p:Nat->Bool)(w:World)(v:Value)(n:Nat):Prop:=
 n<=1000/\∃a cap,v= .slice a n cap/\(n=0\/∃b off,a=some ⟨b,off,none⟩/\b<w.heap.size/\∀k,k<n->∃L:List Value,L.length=c/\(∀(j:Nat) (x:Value),L[j]? =some x->w.cell? ⟨b,off+k*c+j,none⟩=some x)/\
  ∀w',w.Grows w'->Calls prog g (#[.agg L.toArray]++lb) w' fun r w''=>r= .returned (.bool (p k))/\w'.Grows w'')
theorem LC(g:FuncId)(lb:Array Value)(eg:∀args w,(callFunc g args).run prog w= .ok (.enter g args) w)(p:Nat->Bool)(v:Value)(n:Nat)(w:World)(h:vS 2 g lb p w v n) :
 Calls prog 119 #[v,.func (.func g) #[] lb] w fun r w'=>(∃z,r= .returned (.int .i64 z)/\Dw n p z)/\w.Grows w':=by
 obtain⟨hlen,a,cap,rfl,hc⟩:=h;have Hc:=yq hc;clear hc
 go_enter func119,ntmps119
 go_wp2_with fail
 go_loopw [5,8] (fun _ v8 wr=>∃k:Nat,k<=n/\v8= .int .i64 k/\Hid (∀j,j<k->p j=false)/\w.Grows wr) (fun _ v8 _=>n-(intOf v8).toNat)
 case atStart=>exact⟨0,by omega,rfl,yq (fun j hj=>by omega),.refl _⟩
 case round=>
  obtain⟨k,hk,rfl,hno,hgr⟩:=hrel;have HG:=yq hgr;by_cases hlt2:k<n
  ·rcases Hc.out with h0|⟨b,off,rfl,hbw,hx⟩
   ·omega
   ·obtain⟨L,hL,hcell,hcl⟩:=hx k hlt2
    obtain⟨x0,x1,rfl⟩:∃x0 x1,L= [x0,x1]:=by
     match L,hL with
     | [x0,x1],_=>exact⟨_,_,rfl⟩
    have y0:wr.cell? ⟨b,off+k*2,none⟩=some x0:=by rw [hgr.below.cell (p:=⟨b,off+k*2,none⟩) hbw];exact hcell 0 _ rfl
    have y1:wr.cell? ⟨b,off+k*2+1,none⟩=some x1:=by rw [hgr.below.cell (p:=⟨b,off+k*2+1,none⟩) hbw];exact hcell 1 _ rfl
    have hcall:=hcl _ hgr;clear hx hcell hcl hL;have d1:(k:Int)<(n:Int):=by omega
    have HLT:=yq hlt2;clear hgr
    cases hq:p k with
    |true=>
     rw [hq]at hcall;have HQ:=yq hq;clear hq;have HCL:=yq hcall;clear hcall
     go_wp2_with (go_at_fn g;refine HCL.out.mono ?_;rintro e' w' ⟨rfl,hg2⟩;have HG2:=yq hg2;clear hg2)
     go_returns
     exact⟨⟨_,rfl,.inr ⟨k,HLT.out,rfl,HQ.out⟩⟩,World.Grows.trans HG.out HG2.out⟩
    |false=>
     rw [hq]at hcall;have HQ:=yq hq;clear hq;have HCL:=yq hcall;clear hcall
     go_wp2_with (go_at_fn g;refine HCL.out.mono ?_;rintro e' w' ⟨rfl,hg2⟩;have HG2:=yq hg2;clear hg2)
     go_roundw
     case rel=>exact⟨k+1,by omega,by go_num,yq (fun j hj=>by
      by_cases ej:j=k
      ·subst ej;exact HQ.out
      ·exact hno.out j ze),World.Grows.trans HG.out HG2.out⟩
     case measure=>simp [intOf];omega
  ·obtain rfl:k=n:=by omega
   clear hgr
   go_wp2_with fail
   go_returns
   exact⟨⟨_,rfl,.inl ⟨rfl,hno.out⟩⟩,HG.out⟩
theorem LJ(g:FuncId)(lb:Array Value)(eg:∀args w,(callFunc g args).run prog w= .ok (.enter g args) w)(p:Nat->Bool)(v:Value)(n:Nat)(w:World)(h:vS 2 g lb p w v n) :
 Calls prog 84 #[v,.func (.func g) #[] lb] w fun r w'=>r= .returned (.bool ((List.range n).any p))/\w.Grows w':=by
 have HI:=yq (LC g lb eg p v n w h);obtain⟨-,a,cap,rfl,-⟩:=h;generalize hX:(List.range n).any p=X;have HX:=yq hX;clear hX
 go_enter func84,ntmps84
 go_wp2_with (go_at_call 119;refine HI.out.mono ?_;rintro e' w' ⟨⟨z,rfl,hz⟩,bs2,d2,rfl⟩;have HZ:=yq hz.any;clear hz)
 go_returns
 exact⟨au zV,.of_below af⟩
theorem Cn(g:FuncId)(lb:Array Value)(eg:∀args w,(callFunc g args).run prog w= .ok (.enter g args) w)(p:Nat->Bool)(v:Value)(n:Nat)(w:World)(h:vS 13 g lb p w v n) :
 Calls prog 40 #[v,.func (.func g) #[] lb] w fun r w'=>(∃z,r= .returned (.int .i64 z)/\Dw n p z)/\w.Grows w':=by
 obtain⟨hlen,a,cap,rfl,hc⟩:=h;have Hc:=yq hc;clear hc
 go_enter func40,ntmps40
 go_wp2_with fail
 go_loopw [5,8] (fun _ v8 wr=>∃k:Nat,k<=n/\v8= .int .i64 k/\Hid (∀j,j<k->p j=false)/\w.Grows wr) (fun _ v8 _=>n-(intOf v8).toNat)
 case atStart=>exact⟨0,by omega,rfl,yq (fun j hj=>by omega),.refl _⟩
 case round=>
  obtain⟨k,hk,rfl,hno,hgr⟩:=hrel;have HG:=yq hgr;by_cases hlt2:k<n
  ·rcases Hc.out with h0|⟨b,off,rfl,hbw,hx⟩
   ·omega
   ·obtain⟨L,hL,hcell,hcl⟩:=hx k hlt2
    obtain⟨x0,x1,x2,x3,x4,x5,x6,x7,x8,x9,x10,x11,x12,rfl⟩:∃x0 x1 x2 x3 x4 x5 x6 x7 x8 x9 x10 x11 x12,L= [x0,x1,x2,x3,x4,x5,x6,x7,x8,x9,x10,x11,x12]:=by
     match L,hL with
     | [x0,x1,x2,x3,x4,x5,x6,x7,x8,x9,x10,x11,x12],_=>exact⟨_,_,_,_,_,_,_,_,_,_,_,_,_,rfl⟩
    have y0:wr.cell? ⟨b,off+k*13,none⟩=some x0:=by rw [hgr.below.cell (p:=⟨b,off+k*13,none⟩) hbw];exact hcell 0 _ rfl
    have y1:wr.cell? ⟨b,off+k*13+1,none⟩=some x1:=by rw [hgr.below.cell (p:=⟨b,off+k*13+1,none⟩) hbw];exact hcell 1 _ rfl
    have y2:wr.cell? ⟨b,off+k*13+2,none⟩=some x2:=by rw [hgr.below.cell (p:=⟨b,off+k*13+2,none⟩) hbw];exact hcell 2 _ rfl
    have y3:wr.cell? ⟨b,off+k*13+3,none⟩=some x3:=by rw [hgr.below.cell (p:=⟨b,off+k*13+3,none⟩) hbw];exact hcell 3 _ rfl
    have y4:wr.cell? ⟨b,off+k*13+4,none⟩=some x4:=by rw [hgr.below.cell (p:=⟨b,off+k*13+4,none⟩) hbw];exact hcell 4 _ rfl
    have y5:wr.cell? ⟨b,off+k*13+5,none⟩=some x5:=by rw [hgr.below.cell (p:=⟨b,off+k*13+5,none⟩) hbw];exact hcell 5 _ rfl
    have y6:wr.cell? ⟨b,off+k*13+6,none⟩=some x6:=by rw [hgr.below.cell (p:=⟨b,off+k*13+6,none⟩) hbw];exact hcell 6 _ rfl
    have y7:wr.cell? ⟨b,off+k*13+7,none⟩=some x7:=by rw [hgr.below.cell (p:=⟨b,off+k*13+7,none⟩) hbw];exact hcell 7 _ rfl
    have y8:wr.cell? ⟨b,off+k*13+8,none⟩=some x8:=by rw [hgr.below.cell (p:=⟨b,off+k*13+8,none⟩) hbw];exact hcell 8 _ rfl
    have y9:wr.cell? ⟨b,off+k*13+9,none⟩=some x9:=by rw [hgr.below.cell (p:=⟨b,off+k*13+9,none⟩) hbw];exact hcell 9 _ rfl
    have y10:wr.cell? ⟨b,off+k*13+10,none⟩=some x10:=by rw [hgr.below.cell (p:=⟨b,off+k*13+10,none⟩) hbw];exact hcell 10 _ rfl
    have y11:wr.cell? ⟨b,off+k*13+11,none⟩=some x11:=by rw [hgr.below.cell (p:=⟨b,off+k*13+11,none⟩) hbw];exact hcell 11 _ rfl
    have y12:wr.cell? ⟨b,off+k*13+12,none⟩=some x12:=by rw [hgr.below.cell (p:=⟨b,off+k*13+12,none⟩) hbw];exact hcell 12 _ rfl
    have hcall:=hcl _ hgr;clear hx hcell hcl hL;have d1:(k:Int)<(n:Int):=by omega
    have HLT:=yq hlt2;clear hgr
    cases hq:p k with
    |true=>
     rw [hq]at hcall;have HQ:=yq hq;clear hq;have HCL:=yq hcall;clear hcall
     go_wp2_with (go_at_fn g;refine HCL.out.mono ?_;rintro e' w' ⟨rfl,hg2⟩;have HG2:=yq hg2;clear hg2)
     go_returns
     exact⟨⟨_,rfl,.inr ⟨k,HLT.out,rfl,HQ.out⟩⟩,World.Grows.trans HG.out HG2.out⟩
    |false=>
     rw [hq]at hcall;have HQ:=yq hq;clear hq;have HCL:=yq hcall;clear hcall
     go_wp2_with (go_at_fn g;refine HCL.out.mono ?_;rintro e' w' ⟨rfl,hg2⟩;have HG2:=yq hg2;clear hg2)
     go_roundw
     case rel=>exact⟨k+1,by omega,by go_num,yq (fun j hj=>by
      by_cases ej:j=k
      ·subst ej;exact HQ.out
      ·exact hno.out j ze),World.Grows.trans HG.out HG2.out⟩
     case measure=>simp [intOf];omega
  ·obtain rfl:k=n:=by omega
   clear hgr
   go_wp2_with fail
   go_returns
   exact⟨⟨_,rfl,.inl ⟨rfl,hno.out⟩⟩,HG.out⟩
theorem LH(g:FuncId)(lb:Array Value)(eg:∀args w,(callFunc g args).run prog w= .ok (.enter g args) w)(p:Nat->Bool)(v:Value)(n:Nat)(w:World)(h:vS 13 g lb p w v n) :
 Calls prog 86 #[v,.func (.func g) #[] lb] w fun r w'=>r= .returned (.bool ((List.range n).any p))/\w.Grows w':=by
 have HI:=yq (Cn g lb eg p v n w h);obtain⟨-,a,cap,rfl,-⟩:=h;generalize hX:(List.range n).any p=X;have HX:=yq hX;clear hX
 go_enter func86,ntmps86
 go_wp2_with (go_at_call 40;refine HI.out.mono ?_;rintro e' w' ⟨⟨z,rfl,hz⟩,bs2,d2,rfl⟩;have HZ:=yq hz.any;clear hz)
 go_returns
 exact⟨au zV,.of_below af⟩
theorem Lx(g:FuncId)(lb:Array Value)(eg:∀args w,(callFunc g args).run prog w= .ok (.enter g args) w)(p:Nat->Bool)(v:Value)(n:Nat)(w:World)(h:vS 7 g lb p w v n) :
 Calls prog 120 #[v,.func (.func g) #[] lb] w fun r w'=>(∃z,r= .returned (.int .i64 z)/\Dw n p z)/\w.Grows w':=by
 obtain⟨hlen,a,cap,rfl,hc⟩:=h;have Hc:=yq hc;clear hc
 go_enter func120,ntmps120
 go_wp2_with fail
 go_loopw [5,8] (fun _ v8 wr=>∃k:Nat,k<=n/\v8= .int .i64 k/\Hid (∀j,j<k->p j=false)/\w.Grows wr) (fun _ v8 _=>n-(intOf v8).toNat)
 case atStart=>exact⟨0,by omega,rfl,yq (fun j hj=>by omega),.refl _⟩
 case round=>
  obtain⟨k,hk,rfl,hno,hgr⟩:=hrel;have HG:=yq hgr;by_cases hlt2:k<n
  ·rcases Hc.out with h0|⟨b,off,rfl,hbw,hx⟩
   ·omega
   ·obtain⟨L,hL,hcell,hcl⟩:=hx k hlt2
    obtain⟨x0,x1,x2,x3,x4,x5,x6,rfl⟩:∃x0 x1 x2 x3 x4 x5 x6,L= [x0,x1,x2,x3,x4,x5,x6]:=by
     match L,hL with
     | [x0,x1,x2,x3,x4,x5,x6],_=>exact⟨_,_,_,_,_,_,_,rfl⟩
    have y0:wr.cell? ⟨b,off+k*7,none⟩=some x0:=by rw [hgr.below.cell (p:=⟨b,off+k*7,none⟩) hbw];exact hcell 0 _ rfl
    have y1:wr.cell? ⟨b,off+k*7+1,none⟩=some x1:=by rw [hgr.below.cell (p:=⟨b,off+k*7+1,none⟩) hbw];exact hcell 1 _ rfl
    have y2:wr.cell? ⟨b,off+k*7+2,none⟩=some x2:=by rw [hgr.below.cell (p:=⟨b,off+k*7+2,none⟩) hbw];exact hcell 2 _ rfl
    have y3:wr.cell? ⟨b,off+k*7+3,none⟩=some x3:=by rw [hgr.below.cell (p:=⟨b,off+k*7+3,none⟩) hbw];exact hcell 3 _ rfl
    have y4:wr.cell? ⟨b,off+k*7+4,none⟩=some x4:=by rw [hgr.below.cell (p:=⟨b,off+k*7+4,none⟩) hbw];exact hcell 4 _ rfl
    have y5:wr.cell? ⟨b,off+k*7+5,none⟩=some x5:=by rw [hgr.below.cell (p:=⟨b,off+k*7+5,none⟩) hbw];exact hcell 5 _ rfl
    have y6:wr.cell? ⟨b,off+k*7+6,none⟩=some x6:=by rw [hgr.below.cell (p:=⟨b,off+k*7+6,none⟩) hbw];exact hcell 6 _ rfl
    have hcall:=hcl _ hgr;clear hx hcell hcl hL;have d1:(k:Int)<(n:Int):=by omega
    have HLT:=yq hlt2;clear hgr
    cases hq:p k with
    |true=>
     rw [hq]at hcall;have HQ:=yq hq;clear hq;have HCL:=yq hcall;clear hcall
     go_wp2_with (go_at_fn g;refine HCL.out.mono ?_;rintro e' w' ⟨rfl,hg2⟩;have HG2:=yq hg2;clear hg2)
     go_returns
     exact⟨⟨_,rfl,.inr ⟨k,HLT.out,rfl,HQ.out⟩⟩,World.Grows.trans HG.out HG2.out⟩
    |false=>
     rw [hq]at hcall;have HQ:=yq hq;clear hq;have HCL:=yq hcall;clear hcall
     go_wp2_with (go_at_fn g;refine HCL.out.mono ?_;rintro e' w' ⟨rfl,hg2⟩;have HG2:=yq hg2;clear hg2)
     go_roundw
     case rel=>exact⟨k+1,by omega,by go_num,yq (fun j hj=>by
      by_cases ej:j=k
      ·subst ej;exact HQ.out
      ·exact hno.out j ze),World.Grows.trans HG.out HG2.out⟩
     case measure=>simp [intOf];omega
  ·obtain rfl:k=n:=by omega
   clear hgr
   go_wp2_with fail
   go_returns
   exact⟨⟨_,rfl,.inl ⟨rfl,hno.out⟩⟩,HG.out⟩
theorem LG(g:FuncId)(lb:Array Value)(eg:∀args w,(callFunc g args).run prog w= .ok (.enter g args) w)(p:Nat->Bool)(v:Value)(n:Nat)(w:World)(h:vS 7 g lb p w v n) :
 Calls prog 89 #[v,.func (.func g) #[] lb] w fun r w'=>r= .returned (.bool ((List.range n).any p))/\w.Grows w':=by
 have HI:=yq (Lx g lb eg p v n w h);obtain⟨-,a,cap,rfl,-⟩:=h;generalize hX:(List.range n).any p=X;have HX:=yq hX;clear hX
 go_enter func89,ntmps89
 go_wp2_with (go_at_call 120;refine HI.out.mono ?_;rintro e' w' ⟨⟨z,rfl,hz⟩,bs2,d2,rfl⟩;have HZ:=yq hz.any;clear hz)
 go_returns
 exact⟨au zV,.of_below af⟩
theorem mQ{a b:ByteArray}(h:a.toList=b.toList):a=b:=by
 rw [ByteArray.toList_eq,ByteArray.toList_eq]at h;exact ByteArray.ext (Array.ext' h)
theorem Eo(s:ByteArray)(l:List Ex):dM s l=(List.range l.length).any fun k=>bN s (l.getD k default):=by
 induction l with
 |nil=>rfl
 |cons e r ih=>
  rw [dM,ih,length_cons,range_succ_eq_map,any_cons,any_map];simp only [getD_cons_zero]
  congr 1
def mT(s:ByteArray)(e:Ex)(k:Nat):Bool:=dM s (e.args.take k)
theorem F4(s:ByteArray)(e:Ex)(k:Nat)(h:k<e.args.length)(h1:mT s e k=false)(h2:bN s (e.arg k)=false):mT s e (k+1)=false:=by
 unfold mT at *;rw [BJ _ _ _ h,h1,Bool.false_or];exact h2
theorem Ep(S:Nat->Prop)(s:ByteArray)(n:Nat):∀(e:Ex),e.size<=n->∀(v:Value) (w:World),aB S w e v->(Calls prog 75 #[exV e v,.string s] w fun r w'=>r= .returned (.bool (bN s e))/\w.Grows w'):=by
 induction n with
 |zero=>intro e he;have:=e.size_pos;omega
 |succ n ih=>
  intro e he v w h;have HF:=yq (BK s e);have IH:=yq ih;clear ih
  cases h with
  |mk _ a cap vs hr hc hs=>
   have hlen:=hr.len;have Hs:=yq hs;have He:=yq he;have Hc:=yq hc;clear hr hs he hc;by_cases ho:e.op=2
   ·by_cases hn:e.name=s
    ·have HH:Hid (bN s e=true):=yq xp;have n2:(e.name.toList==s.toList)=true:=by rw [hn];simp
     clear HF hn
     go_enter func75,ntmps75
     go_wp2_with fail
     go_returns
     exact⟨au HH.out.symm,.of_below af⟩
    ·have HQ:Hid ((decide (e.op=2)&&decide (e.name=s))=false):=yq (by rw [decide_eq_false hn,Bool.and_false]);have n2:(e.name.toList==s.toList)=false:=by rw [beq_eq_false_iff_ne];exact fun h=>hn (mQ h)
     clear hn
     go_enter func75,ntmps75
     go_wp2_with fail
     go_loopw [5] (fun vk wr=>∃k:Nat,k<=e.args.length/\vk= .int .i64 k/\Hid (mT s e k=false)/\
      ∃(x0 x1 x2 x3:Int) (x4:ByteArray),World.Grows (w.alloc (.cells #[.int .i64 x0,.int .i64 x1,.int .i64 x2,.int .i64 x3,.string x4,.slice a e.args.length cap] 69)) wr) (fun vk _=>e.args.length-(intOf vk).toNat)
     case atStart=>exact⟨0,by omega,rfl,yq rfl,_,_,_,_,_,.of_below af⟩
     case round=>
      obtain⟨k,hk,rfl,HT,x0,x1,x2,x3,x4,bs,d,rfl⟩:=hrel;by_cases hlt:k<e.args.length
      ·rcases Hc.out with h0|⟨b,off,rfl,hS,hbw,hx⟩
       ·omega
       ·obtain⟨y0,y1,y2,y3,y4,y5⟩:=hx k hlt;clear hx;have hlt1:(k:Int)<(e.args.length:Int):=by omega
        have HA:=yq (e.size_arg k hlt);cases hb:bN s (e.arg k)
        ·have HB:=yq hb;clear hb
         go_wp2_with fail
         refine gvq (IH.out (e.arg k) zL (vs k) _ (((Hs.out k hlt).alloc _).grow _ _)) ?_;intro bs2 d2;simp only [HB.out]
         go_wp2_with fail
         go_roundw
         case rel=>exact⟨k+1,by omega,by go_num,yq (F4 s e k hlt HT.out HB.out),x0,x1,x2,x3,x4,.of_below af⟩
         case measure=>simp [intOf];omega
        ·have HB:=yq hb;clear hb
         go_wp2_with fail
         refine gvq (IH.out (e.arg k) zL (vs k) _ (((Hs.out k hlt).alloc _).grow _ _)) ?_;intro bs2 d2;simp only [HB.out]
         go_wp2_with fail
         go_returns
         exact⟨au xr,.of_below af⟩
      ·obtain rfl:k=e.args.length:=by omega
       have HT2:Hid (dM s e.args=false):=yq xi;clear HT
       go_wp2_with fail
       go_returns
       exact⟨au (by rw [HF.out,HT2.out,HQ.out];rfl),.of_below af⟩
   ·have HQ:Hid ((decide (e.op=2)&&decide (e.name=s))=false):=yq (by rw [decide_eq_false ho,Bool.false_and]);have p2:(e.op==2)=false:=by simpa using ho
    clear ho
    go_enter func75,ntmps75
    go_wp2_with fail
    go_loopw [5] (fun vk wr=>∃k:Nat,k<=e.args.length/\vk= .int .i64 k/\Hid (mT s e k=false)/\
     ∃(x0 x1 x2 x3:Int) (x4:ByteArray),World.Grows (w.alloc (.cells #[.int .i64 x0,.int .i64 x1,.int .i64 x2,.int .i64 x3,.string x4,.slice a e.args.length cap] 69)) wr) (fun vk _=>e.args.length-(intOf vk).toNat)
    case atStart=>exact⟨0,by omega,rfl,yq rfl,_,_,_,_,_,.of_below af⟩
    case round=>
     obtain⟨k,hk,rfl,HT,x0,x1,x2,x3,x4,bs,d,rfl⟩:=hrel;by_cases hlt:k<e.args.length
     ·rcases Hc.out with h0|⟨b,off,rfl,hS,hbw,hx⟩
      ·omega
      ·obtain⟨y0,y1,y2,y3,y4,y5⟩:=hx k hlt;clear hx;have hlt1:(k:Int)<(e.args.length:Int):=by omega
       have HA:=yq (e.size_arg k hlt);cases hb:bN s (e.arg k)
       ·have HB:=yq hb;clear hb
        go_wp2_with fail
        refine gvq (IH.out (e.arg k) zL (vs k) _ (((Hs.out k hlt).alloc _).grow _ _)) ?_;intro bs2 d2;simp only [HB.out]
        go_wp2_with fail
        go_roundw
        case rel=>exact⟨k+1,by omega,by go_num,yq (F4 s e k hlt HT.out HB.out),x0,x1,x2,x3,x4,.of_below af⟩
        case measure=>simp [intOf];omega
       ·have HB:=yq hb;clear hb
        go_wp2_with fail
        refine gvq (IH.out (e.arg k) zL (vs k) _ (((Hs.out k hlt).alloc _).grow _ _)) ?_;intro bs2 d2;simp only [HB.out]
        go_wp2_with fail
        go_returns
        exact⟨au xr,.of_below af⟩
     ·obtain rfl:k=e.args.length:=by omega
      have HT2:Hid (dM s e.args=false):=yq xi;clear HT
      go_wp2_with fail
      go_returns
      exact⟨au (by rw [HF.out,HT2.out,HQ.out];rfl),.of_below af⟩
theorem wJ(S:Nat->Prop)(s:ByteArray)(e:Ex)(v:Value)(w:World)(h:aB S w e v):(Calls prog 75 #[exV e v,.string s] w fun r w'=>r= .returned (.bool (bN s e))/\w.Grows w'):=Ep S s e.size e (Nat.le_refl _) v w h
theorem Il:∀args w,(callFunc 122 args).run prog w= .ok (.enter 122 args) w:=enters_of func122 zf rfl
theorem Er(S:Nat->Prop)(s:ByteArray)(n:Nat):∀(e:Ex),e.size<=n->∀(v:Value) (w:World),aB S w e v->
 Calls prog 91 #[exV e v,.string s] w fun r w'=>r= .returned (.bool (bN s e))/\w.Grows w':=by
 induction n with
 |zero=>intro e he;have:=e.size_pos;omega
 |succ n ih=>
  intro e he v w h;have HR:=yq h;have HF:=yq (BK s e);have hany:=Eo s e.args;obtain⟨a,cap,rfl⟩:=h.form0
  have HC:Hid (∀w1 b,w1.heap[b]? =some (.cells #[.string s] 9 (0,0))->w.Grows w1->Calls prog 121 #[.slice a e.args.length cap,.func (.func 122) #[] #[.pointer (some ⟨b,0,none⟩)]] w1 fun r w''=>r= .returned (.bool (dM s e.args))/\w1.Grows w''):=yq (fun w1 b hb hg=>by
   have HB:=yq hb
   have:=nL S 122 #[.pointer (some ⟨b,0,none⟩)] Il e (.slice a e.args.length cap) (fun k=>bN s (e.arg k)) w1 (HR.out.grows hg) (yq (fun k hk ak ck w2 hg2 hR2=>by
    have hsm:=e.size_arg k hk;have IH:=yq (fun w3 h1=>ih (e.arg k) ze (.slice ak (e.arg k).args.length ck) w3 h1);have HR2:=yq hR2;have hb2:w2.heap[b]? =some (.cells #[.string s] 9 (0,0)):=(hg2.below.block b (Array.getElem?_eq_some_iff.1 HB.out).1).trans HB.out;have hbl:b<w2.heap.size:=(Array.getElem?_eq_some_iff.1 hb2).1;have x0:w2.cell? ⟨b,0,none⟩=some (.string s):=by rw [cell_of_row w2 b _ _ _ _ hb2];rfl
    dsimp only;generalize bN s (e.arg k)=q at *;clear hany HF HR hR2 ih hg hg2 hb HB hb2 h;generalize e.arg k=x at *;show Calls prog 122 #[exV x (.slice ak x.args.length ck),.pointer (some ⟨b,0,none⟩)] w2 _
    go_enter func122,ntmps122
    go_wp2_with (go_at_call 91;refine gvq (IH.out _ (HR2.out.alloc _)) ?_;intro bs d)
    go_returns
    exact⟨au rfl,.of_below af⟩))
   rw [show(List.range e.args.length).any (fun k=>bN s (e.arg k))=dM s e.args from hany.symm]at this
   exact this)
  clear hany ih h;generalize dM s e.args=q at *;by_cases ho:e.op=2
  ·by_cases hn:e.name=s
   ·have HH:Hid (bN s e=true):=yq xp;have n2:(e.name.toList==s.toList)=true:=by rw [hn];simp
    clear HF hn
    go_enter func91,ntmps91
    go_wp2_with fail
    go_returns
    exact⟨au HH.out.symm,.of_below af⟩
   ·have HH:Hid (bN s e=q):=yq (by rw [HF.out,decide_eq_false hn,Bool.and_false,Bool.false_or]);have n2:(e.name.toList==s.toList)=false:=by rw [beq_eq_false_iff_ne];exact fun h=>hn (mQ h)
    clear HF hn
    go_enter func91,ntmps91
    go_wp2_with (go_at_call 121;refine gvq (HC.out _ _ (bP _ _ _ zg) (.of_below af)) ?_;intro bs d)
    go_returns
    exact⟨au HH.out.symm,.of_below af⟩
  ·have HH:Hid (bN s e=q):=yq (by rw [HF.out,decide_eq_false ho,Bool.false_and,Bool.false_or]);have p2:(e.op==2)=false:=by simpa using ho
   clear ho HF
   go_enter func91,ntmps91
   go_wp2_with (go_at_call 121;refine gvq (HC.out _ _ (bP _ _ _ zg) (.of_below af)) ?_;intro bs d)
   go_returns
   exact⟨au HH.out.symm,.of_below af⟩
theorem wK(S:Nat->Prop)(s:ByteArray)(e:Ex)(v:Value)(w:World)(h:aB S w e v):Calls prog 91 #[exV e v,.string s] w fun r w'=>r= .returned (.bool (bN s e))/\w.Grows w':=Er S s e.size e (Nat.le_refl _) v w h
end Go.Proofs.YtcfpoofhokbhlaaGreatDoor
