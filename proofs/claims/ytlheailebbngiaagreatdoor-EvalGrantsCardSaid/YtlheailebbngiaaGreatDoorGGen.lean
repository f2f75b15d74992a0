import Derived.Test.YtlheailebbngiaaGreatDoorGTree
import Derived.Lib.SmallJoins
set_option linter.all false
set_option maxHeartbeats 16000000
set_option maxRecDepth 1000000
namespace Go.Proofs.YtlheailebbngiaaGreatDoor
open Tryz List
open Go.RowKit

instance:Inhabited ByteArray:=⟨ByteArray.empty⟩
def inpN:List (ByteArray × Int):=[(⟨#[97,103,101]⟩,2),(⟨#[121,101,97,114]⟩,2),(⟨#[99,104,105,108,100,114,101,110]⟩,2),(⟨#[105,110,115,117,114,101,100]⟩,3),(⟨#[119,111,114,107,101,100]⟩,3),(⟨#[118,111,108,117,110,116,97,114,121]⟩,3),(⟨#[115,101,114,118,105,99,101]⟩,3),(⟨#[101,113,117,97,116,101,100]⟩,3),(⟨#[114,97,105,115,105,110,103]⟩,3),(⟨#[114,101,115,105,100,101,110,116]⟩,3),(⟨#[98,97,115,101]⟩,4)]
def bV(l:List (ByteArray × Int))(dim:Int):List ByteArray:=(l.filter (fun b=>decide (b.2=dim))).map (·.1)
theorem tK(a b:List (ByteArray × Int))(dim:Int):bV (a++b) dim=bV a dim++bV b dim:=by simp [bV]
theorem nN(l:List (ByteArray × Int))(dim:Int):(bV l dim).length<=l.length:=by
 unfold bV;rw [length_map];exact length_filter_le _ _
def aZ(env:List (ByteArray × Int))(dim:Int):List ByteArray:=bV inpN dim++bV env dim
theorem rF(env:List (ByteArray × Int))(dim:Int):(aZ env dim).length<=11+env.length:=by
 unfold aZ;rw [length_append];have:=nN inpN dim;have:=nN env dim;have:inpN.length=11:=rfl;omega

def fF(zs:List Int)(env:List (ByteArray × Int))(p:Nat)(dim:Int):Ex × Nat:=
 if aK zs p ((aZ env dim).length+3)<(aZ env dim).length then
  (.mk 2 0 0 0 ((aZ env dim).getD (aK zs p ((aZ env dim).length+3)).toNat ByteArray.empty) [],p+1)
 else if dim=4/\aK zs p ((aZ env dim).length+3)=(aZ env dim).length then(.mk 3 (1+aK zs (p+1) 5) 1 0 ByteArray.empty [],p+2)
 else(.mk 1 (FQ zs (p+1)) (FR zs (p+1)) dim ByteArray.empty [],p+3)
def ed(zs:List Int)(env:List (ByteArray × Int))(dim:Int)(p:Nat)(left:Int):Ex × Nat × Int:=
 if dim=1 then
  (.mk (11+aK zs (p+1) 6) 0 0 0 ByteArray.empty [(fF zs env (p+2) (2+aK zs p 3)).1,(fF zs env (fF zs env (p+2) (2+aK zs p 3)).2 (2+aK zs p 3)).1],
   (fF zs env (fF zs env (p+2) (2+aK zs p 3)).2 (2+aK zs p 3)).2,left-3)
 else((fF zs env p dim).1,(fF zs env p dim).2,left-1)
theorem l7(zs:List Int)(env:List (ByteArray × Int))(p:Nat)(dim:Int):p<=(fF zs env p dim).2/\(fF zs env p dim).2<=p+3:=by
 unfold fF
 split
 ·simp
 ·split<;>simp
theorem uo(zs:List Int)(env:List (ByteArray × Int))(dim:Int)(p:Nat)(left:Int) :
 p<=(ed zs env dim p left).2.1/\(ed zs env dim p left).2.1<=p+8/\left-3<=(ed zs env dim p left).2.2/\(ed zs env dim p left).2.2<=left:=by
 unfold ed
 split
 ·have a:=l7 zs env (p+2) (2+aK zs p 3);have b:=l7 zs env (fF zs env (p+2) (2+aK zs p 3)).2 (2+aK zs p 3);dsimp only;omega
 ·have a:=l7 zs env p dim;dsimp only;omega

def bP(zs:List Int)(p:Nat)(dim:Int):Option (Int × List Int × Nat):=
 if dim=1 then
  if aK zs p 14<2 then some (17+aK zs p 14,[1,1],p+1)
  else if aK zs p 14=2 then some (5,[1],p+1)
  else if aK zs p 14=3 then some (21,[1,1,1],p+1)
  else if aK zs p 14<=8 then some (11+aK zs (p+2) 6,[2+aK zs (p+1) 3,2+aK zs (p+1) 3],p+3)
  else none
 else if aK zs p 14=0 then some (7,[dim,dim],p+1)
 else if aK zs p 14=1 then some (8,[dim,dim],p+1)
 else if aK zs p 14=2 then some (19,[dim,dim],p+1)
 else if aK zs p 14=3 then some (20,[dim,dim],p+1)
 else if aK zs p 14=4 then some (21,[1,dim,dim],p+1)
 else if aK zs p 14=5 then some (4,[dim],p+1)
 else if aK zs p 14=6 then some (6,[dim],p+1)
 else if aK zs p 14=7 then some (9,[2,dim],p+1)
 else if aK zs p 14=8 then some (9,[dim,2],p+1)
 else if aK zs p 14=9 then some (10,[dim,2],p+1)
 else if aK zs p 14=10/\dim=2 then some (10,[2+aK zs (p+1) 3,2+aK zs (p+1) 3],p+2)
 else none
def bR(E:Int->Nat->Int->Ex × Nat × Int):List Int->Nat->Int->List Ex × Nat × Int
 | [],p,left=>([],p,left)
 |d::ds,p,left=>((E d p left).1::(bR E ds (E d p left).2.1 (E d p left).2.2).1,(bR E ds (E d p left).2.1 (E d p left).2.2).2)
def aS(zs:List Int)(env:List (ByteArray × Int)):Nat->Int->Nat->Int->Ex × Nat × Int
 |0,dim,p,left=>ed zs env dim p left
 |n+1,dim,p,left=>
  if left<=0 then ed zs env dim p left else
   match bP zs p dim with
   |none=>ed zs env dim (p+1) (left-2)
   |some (op,ds,q)=>(.mk op 0 0 0 ByteArray.empty (bR (aS zs env n) ds q (left-2)).1,(bR (aS zs env n) ds q (left-2)).2)
theorem CV(E:Int->Nat->Int->Ex × Nat × Int)(ds:List Int)(d:Int)(p:Nat)(left:Int) :
 bR E (ds++[d]) p left=((bR E ds p left).1++[(E d (bR E ds p left).2.1 (bR E ds p left).2.2).1],(E d (bR E ds p left).2.1 (bR E ds p left).2.2).2):=by
 induction ds generalizing p left with
 |nil=>rfl
 |cons c ds ih=>simp only [cons_append,bR,ih]
theorem DU(zs:List Int)(env:List (ByteArray × Int))(n:Nat)(dim:Int)(p:Nat)(left:Int)(h:n=0\/left<=0):aS zs env n dim p left=ed zs env dim p left:=by
 cases n with
 |zero=>rfl
 |succ n=>rw [aS,if_pos ze]
theorem uB(zs:List Int)(env:List (ByteArray × Int))(n:Nat)(dim:Int)(p:Nat)(left:Int)(h:0<left)(hp:bP zs p dim=none):aS zs env (n+1) dim p left=ed zs env dim (p+1) (left-2):=by
 rw [aS,if_neg ze,hp]
theorem cz(zs:List Int)(env:List (ByteArray × Int))(n:Nat)(dim:Int)(p:Nat)(left:Int)(h:0<left){op:Int}{ds:List Int}{q:Nat}(hp:bP zs p dim=some (op,ds,q)) :
 aS zs env (n+1) dim p left=(.mk op 0 0 0 ByteArray.empty (bR (aS zs env n) ds q (left-2)).1,(bR (aS zs env n) ds q (left-2)).2):=by
 rw [aS,if_neg ze,hp]
def tu(p:Nat):Option (Int × List Int × Nat)->Prop
 |none=>True
 |some t=>p<=t.2.2/\t.2.2<=p+3/\t.2.1.length<=3
theorem CL{p:Nat}{c:Prop}[Decidable c]{a b:Option (Int × List Int × Nat)}(ha:tu p a)(hb:tu p b):tu p (if c then a else b):=by
 split
 ·exact ha
 ·exact hb
theorem Jv(zs:List Int)(p:Nat)(dim:Int):tu p (bP zs p dim):=by
 unfold bP
 repeat' (first|refine CL ?_ ?_)
 all_goals simp [tu]
theorem Ah(zs:List Int)(p:Nat)(dim:Int){op:Int}{ds:List Int}{q:Nat}(h:bP zs p dim=some (op,ds,q)):p<=q/\q<=p+3/\ds.length<=3:=by
 have:=Jv zs p dim;rw [h]at this;exact this
def aP:Nat->Nat
 |0=>8
 |n+1=>3*aP n+3
theorem dx(n:Nat):8<=aP n:=by induction n with
 |zero=>exact Nat.le_refl _
 |succ n ih=>rw [aP];omega
theorem Ao(E:Int->Nat->Int->Ex × Nat × Int)(c:Nat)(hE:∀d p left,p<=(E d p left).2.1/\(E d p left).2.1<=p+c/\left-c<=(E d p left).2.2/\(E d p left).2.2<=left)(ds:List Int):∀(p:Nat) (left:Int),
 p<=(bR E ds p left).2.1/\(bR E ds p left).2.1<=p+ds.length*c/\left-(ds.length*c:Nat)<=(bR E ds p left).2.2/\(bR E ds p left).2.2<=left:=by
 induction ds with
 |nil=>intro p left;simp [bR]
 |cons d ds ih=>
  intro p left;have a:=hE d p left;have b:=ih (E d p left).2.1 (E d p left).2.2;simp only [bR,length_cons,Nat.add_mul,Nat.one_mul];omega
theorem uC(zs:List Int)(env:List (ByteArray × Int))(n:Nat):∀(dim:Int) (p:Nat) (left:Int),
 p<=(aS zs env n dim p left).2.1/\(aS zs env n dim p left).2.1<=p+aP n/\left-aP n<=(aS zs env n dim p left).2.2/\(aS zs env n dim p left).2.2<=left:=by
 induction n with
 |zero=>intro dim p left;have:=uo zs env dim p left;simp only [aS,aP];omega
 |succ n ih=>
  intro dim p left;have h8:=dx n;rw [aS,aP]
  split
  ·have:=uo zs env dim p left;omega
  ·cases h:bP zs p dim with
   |none=>have:=uo zs env dim (p+1) (left-2);simp only;omega
   |some t=>
    obtain⟨op,ds,q⟩:=t;have a:=Ah zs p dim h;have b:=Ao (aS zs env n) (aP n) ih ds q (left-2);have c:ds.length*aP n<=3*aP n:=Nat.mul_le_mul_right _ a.2.2;simp only;omega

def bL(e:Ex)(v:Value):List Value:=[.int .i64 e.op,.int .i64 e.num,.int .i64 e.den,.int .i64 e.dim,.string e.name,v]
def kr:List (Ex × Value)->List Value
 | []=>[]
 |x::r=>bL x.1 x.2++kr r
theorem vw(a b:List (Ex × Value)):kr (a++b)=kr a++kr b:=by
 induction a with
 |nil=>rfl
 |cons x r ih=>simp only [cons_append,kr,ih,append_assoc]
theorem D7(l:List (Ex × Value))(i j:Nat)(x:Ex × Value)(h:l[i]? =some x)(hj:j<6):(kr l)[i*6+j]? =(bL x.1 x.2)[j]?:=by
 induction l generalizing i with
 |nil=>simp at h
 |cons y r ih=>
  simp only [kr]
  cases i with
  |zero=>
   simp only [getElem?_cons_zero,Option.some.injEq]at h;subst h;rw [getElem?_append_left (by simp [bL];omega)]
   congr 1;omega
  |succ i=>
   rw [getElem?_append_right (by simp [bL];omega),<-ih i zI]
   congr 1;simp [bL];omega

theorem aC.mono'{S S':Nat->Prop}{w:World}{e:Ex}{v:Value}(h:aC S w e v)(hS:∀b,S b->b<w.heap.size->S' b):aC S' w e v:=by
 induction h with
 |mk e a cap vs hr hc hs ih=>
  refine .mk e a cap vs hr (hc.imp id ?_) ih;rintro⟨b,off,ha,hb,hlt,hx⟩;exact⟨b,off,ha,hS b hb hlt,hlt,hx⟩
theorem aC.nil{S:Nat->Prop}{w:World}{e:Ex}(hr:kP e)(h:e.args= []):aC S w e (.slice none 0 0):=by
 have:=aC.mk (S:=S) (w:=w) e none 0 (fun _=>.slice none 0 0) hr (.inl (by simp [h])) (fun i hi=>by simp [h]at hi);simpa [h]using this

structure iZ(base:Nat)(w:World)(v:Value)(l:List (Ex × Value)):Prop where
 own:w.ownsRow base 51 6 v l.length (kr l)
 rep:∀x∈l,aC (fun b=>base<=b/\v.ownBlock≠some b) w x.1 x.2
theorem iZ.nil(base:Nat)(w:World):iZ base w (.slice none 0 0) []:=⟨World.ownsRow_nil _ _ _ _,fun _ h=>by cases h⟩
theorem jf{w w':World}{base:Nat}{e:TypeId}{size:Nat}{v:Value}{n:Nat}{xs:List Value}(h:w.ownsRow base e size v n xs)(hw:∀k,base<=k->k<w.heap.size->w'.heap[k]? =w.heap[k]?):w'.ownsRow base e size v n xs:=by
 obtain⟨h1,h2⟩:=h;refine⟨h1,h2.imp id ?_⟩;rintro⟨g,cap,cur,hv,hb,hg,r⟩;have hlt:g<w.heap.size:=(Array.getElem?_eq_some_iff.1 hg).1;exact⟨g,cap,cur,hv,hb,by rw [hw g hb hlt];exact hg,r⟩
theorem iZ.keep{base:Nat}{w w':World}{v:Value}{l:List (Ex × Value)}(h:iZ base w v l)(hsz:w.heap.size<=w'.heap.size)(hw:∀k,base<=k->k<w.heap.size->w'.heap[k]? =w.heap[k]?):iZ base w' v l:=
 ⟨jf h.own hw,fun x hx=>(h.rep x hx).keep hsz fun b o hb hlt=>World.cell?_of_block (hw b hb.1 hlt)⟩
theorem iZ.lt{base:Nat}{w:World}{v:Value}{l:List (Ex × Value)}(h:iZ base w v l):∀k,v.ownBlock=some k->base<=k/\k<w.heap.size:=h.own.lt
theorem iZ.push{base m:Nat}{w w':World}{v:Value}{l:List (Ex × Value)}{e:Ex}{ve:Value}{g cap H n:Nat}{xs:List Value}(h:iZ base w v l)(he:aC (fun b=>m<=b) w e ve)(hm:base<=m)(hv:∀k,v.ownBlock=some k->k<m)
 (hn:n=l.length+1) (hxs:xs=kr l++bL e ve)
 (ho:w'.ownsRow base 51 6 (.slice (some ⟨g,0,none⟩) n cap) n xs) (hg:w.grownBy w' v.ownBlock) (hat:v.ownBlock=some g\/g=H) (hH:w.heap.size=H) :
 iZ base w' (.slice (some ⟨g,0,none⟩) n cap) (l++[(e,ve)]):=by
 subst hH hn hxs;refine⟨by rw [length_append,vw];simpa [kr]using ho, ?_⟩
 have key:∀(e':Ex) (u:Value),aC (fun b=>base<=b/\v.ownBlock≠some b) w e' u->aC (fun b=>base<=b/\(Value.slice (some ⟨g,0,none⟩) (l.length+1) cap).ownBlock≠some b) w' e' u:=by
  exact QI
 intro x hx;rw [mem_append]at hx;rcases hx with hx|hx
 ·exact key _ _ (h.rep x hx)
 ·obtain rfl:x=(e,ve):=by simpa using hx
  exact key _ _ (he.mono fun b hb=>⟨by omega,fun e=>by have:=hv b e;omega⟩)
theorem addr_add(g i:Nat):(⟨g,0,none⟩:Addr).add i=⟨g,i,none⟩:=by unfold Addr.add;split<;>simp_all
theorem iZ.repE{base:Nat}{w:World}{v:Value}{l:List (Ex × Value)}{e:Ex}(h:iZ base w v l)(hr:kP e)(he:e.args=l.map (·.1)):aC (fun b=>base<=b) w e v:=by
 have hlen:e.args.length=l.length:=by rw [he,length_map]
 have hget:∀i,i<l.length->l[i]? =some (e.arg i,(l.getD i default).2):=by
  intro i hi
  have h1:e.arg i=(l.getD i default).1:=by
   unfold Ex.arg;rw [he,getD_eq_getElem?_getD,getElem?_map,getD_eq_getElem?_getD,getElem?_eq_getElem hi];rfl
  rw [h1,getElem?_eq_getElem hi,getD_eq_getElem?_getD,getElem?_eq_getElem hi];rfl
 have hrep:∀i,i<l.length->aC (fun b=>base<=b) w (e.arg i) (l.getD i default).2:=fun i hi=>
  (h.rep _ (List.mem_of_getElem? (hget i hi))).mono fun b hb=>hb.1
 rcases h.own.2 with ⟨rfl,h0⟩|⟨g,cap,cur,rfl,hb,hg,_⟩
 ·have:=aC.mk (S:=fun b=>base<=b) (w:=w) e none 0 (fun i=>(l.getD i default).2) hr (.inl ze) (fun i hi=>hrep i ze);rw [hlen,h0]at this;exact this
 ·have hlt:g<w.heap.size:=(Array.getElem?_eq_some_iff.1 hg).1
  have hcell:∀i,i<l.length->∀j u,j<6->(bL (e.arg i) (l.getD i default).2)[j]? =some u->w.cell? ⟨g,i*6+j,none⟩=some u:=by
   intro i hi j u hj hu;have:=World.ownsRow.cells (g:=g) h.own rfl (i*6+j) u (by rw [D7 l i j _ (hget i hi) hj];exact hu);rw [addr_add]at this;exact this
  have:=aC.mk (S:=fun b=>base<=b) (w:=w) e (some ⟨g,0,none⟩) cap (fun i=>(l.getD i default).2) hr (.inr ⟨g,0,rfl,hb,hlt,fun i hi=>by
   have hi':i<l.length:=by omega
   have e0:∀j,0+i*6+j=i*6+j:=fun j=>by omega
   exact⟨by rw [show 0+i*6=i*6+0 by omega];exact hcell i hi' 0 _ ze rfl,by rw [e0];exact hcell i hi' 1 _ ze rfl,by rw [e0];exact hcell i hi' 2 _ ze rfl,
    by rw [e0];exact hcell i hi' 3 _ ze rfl,by rw [e0];exact hcell i hi' 4 _ ze rfl,by rw [e0];exact hcell i hi' 5 _ ze rfl⟩⟩) (fun i hi=>hrep i ze)
  rw [hlen]at this;exact this

def bT(l:List UInt8):Int:=
 if l= [97,103,101]\/l= [121,101,97,114]\/l= [99,104,105,108,100,114,101,110]then 2
 else if l= [105,110,115,117,114,101,100]\/l= [119,111,114,107,101,100]\/l= [118,111,108,117,110,116,97,114,121]\/l= [115,101,114,118,105,99,101]\/l= [101,113,117,97,116,101,100]\/l= [114,97,105,115,105,110,103]\/l= [114,101,115,105,100,101,110,116]then 3
 else if l= [98,97,115,101]then 4 else 0
theorem FI{a b:Int}{p q:Bool}(h:a=b)(g:p=q):Ending.returned (.tuple #[.int .i64 a,.bool p])= .returned (.tuple #[.int .i64 b,.bool q]):=by rw [h,g]
theorem gJ(s:ByteArray)(w:World):Calls prog 49 #[.string s] w fun e w'=>e= .returned (.tuple #[.int .i64 (bT s.toList),.bool (decide (bT s.toList≠0))])/\w=w':=by
 go_enter func49,ntmps49
 exact Qv
def Nl:Array Value:=#[.string ⟨#[97,103,101]⟩,.string ⟨#[121,101,97,114]⟩,.string ⟨#[99,104,105,108,100,114,101,110]⟩,.string ⟨#[105,110,115,117,114,101,100]⟩,.string ⟨#[119,111,114,107,101,100]⟩,.string ⟨#[118,111,108,117,110,116,97,114,121]⟩,.string ⟨#[115,101,114,118,105,99,101]⟩,.string ⟨#[101,113,117,97,116,101,100]⟩,.string ⟨#[114,97,105,115,105,110,103]⟩,.string ⟨#[114,101,115,105,100,101,110,116]⟩,.string ⟨#[98,97,115,101]⟩]
def lH(k:Nat):ByteArray:=(inpN.getD k (ByteArray.empty,0)).1
theorem AX(k:Nat)(h:k<11):Nl[k]? =some (.string (lH k)):=by
 obtain rfl|rfl|rfl|rfl|rfl|rfl|rfl|rfl|rfl|rfl|rfl:k=0\/k=1\/k=2\/k=3\/k=4\/k=5\/k=6\/k=7\/k=8\/k=9\/k=10:=by omega
 all_goals rfl
theorem JO(k:Nat)(h:k<11):bT (lH k).toList=(inpN.getD k (ByteArray.empty,0)).2:=by
 obtain rfl|rfl|rfl|rfl|rfl|rfl|rfl|rfl|rfl|rfl|rfl:k=0\/k=1\/k=2\/k=3\/k=4\/k=5\/k=6\/k=7\/k=8\/k=9\/k=10:=by omega
 all_goals decide+kernel
theorem oP(l:List (ByteArray × Int))(k:Nat)(dim:Int)(h:k<l.length) :
 bV (l.take (k+1)) dim=bV (l.take k) dim++if(l.getD k (ByteArray.empty,0)).2=dim then [(l.getD k (ByteArray.empty,0)).1]else []:=by
 rw [take_succ_eq_append_getElem h,tK,getD_eq_getElem?_getD,getElem?_eq_getElem h]
 congr 1
 simp only [bV,Option.getD_some];by_cases c:l[k].2=dim<;>simp [c]
theorem wZ(w:World):Calls prog 16 #[] w fun e w'=>e= .returned (.slice (some ⟨w.heap.size,0,none⟩) 11 11)/\w.alloc (.cells Nl 9)=w':=by
 go_enter func16,ntmps16
 go_wp2
 go_returns
 exact⟨rfl,rfl⟩

theorem EH:(prog.info? 9).map (fun i=>(i.zero,i.size,i.bytes))=some (some (.string ⟨#[]⟩),1,16):=by kernel_rfl
def jM(base:Nat)(w:World)(v:Value)(l:List ByteArray):Prop:=w.ownsRow base 9 1 v l.length (l.map Value.string)
def Ot(dim:Int)(w:World)(e:Ending)(w':World):Prop:=∃v,e= .returned v/\jM w.heap.size w' v (bV inpN dim)/\w.Grows w'
theorem jM.push{base:Nat}{w:World}{v:Value}{l:List ByteArray}{s:ByteArray}{n:Nat}{xs:List Value}(h:w.ownsRow base 9 1 v n xs)(hn:n=l.length+1)(hx:xs=l.map Value.string++[.string s]):jM base w v (l++[s]):=by
 subst hn hx;unfold jM;simpa using h
theorem Ap(w:World)(u:Value):∀(j:Nat) (v:Value),[u][j]? =some v->(w.alloc (.cells #[u] 9)).cell? ((⟨w.heap.size,0,none⟩:Addr).add j)=some v:=by
 intro j v hj
 match j,hj with
 |0,hj=>
  simp at hj;subst hj;rw [addr_add,World.cell?_alloc_at _ _ _ _ rfl];rfl
theorem kU{w:World}{base base':Nat}{e:TypeId}{size:Nat}{v:Value}{n:Nat}{xs:List Value}(h:w.ownsRow base e size v n xs)(hb:base'<=base):w.ownsRow base' e size v n xs:=by
 obtain⟨h1,h2⟩:=h;refine⟨h1,h2.imp id ?_⟩;rintro⟨g,cap,cur,hv,hg,r⟩;exact⟨g,cap,cur,hv,by omega,r⟩
theorem Dr(dim:Int)(w:World):Calls prog 106 #[.int .i64 dim] w (Ot dim w):=by
 obtain⟨i0,hi,hz0,hz1,hz2⟩:=info_parts EH;have hN:inpN.length=11:=rfl
 go_enter func106,ntmps106
 go_wp2_with (go_at_call 16;refine(wZ _).mono ?_;rintro e w' ⟨rfl,rfl⟩)
 go_loopw [4,5] (fun v4 v5 wr=>∃k:Nat,k<=11/\v5= .int .i64 k/\jM (w.heap.size+1) wr v4 (bV (inpN.take k) dim)/\Below (w.heap.size+1) (w.alloc (.cells Nl 9)) wr) (fun _ v5 _=>11-(intOf v5).toNat)
 case atStart=>exact⟨0,by omega,rfl,World.ownsRow_nil _ _ _ _,.refl _ _⟩
 case round=>
  obtain⟨k,hk,rfl,hown,hbel⟩:=hrel;have Hown:=zh hown;have Hbel:=zh hbel;have hsz:w.heap.size+1<=wr.heap.size:=by have:=hbel.size;simpa using this
  clear hown;by_cases hlt:k<11
  ·have hc:wr.cell? ⟨w.heap.size,k,none⟩=some (.string (lH k)):=by
    rw [hbel.cell zg,World.cell?_alloc_at _ _ _ _ rfl];exact AX k hlt
   have hlt1:(k:Int)<11:=by omega
   have hd0:=JO k hlt;generalize hx:bT (lH k).toList=x at hd0;have HX:=zh hx;clear hx;have HT:=zh (oP inpN k dim ze);have HL:=zh (nN (inpN.take k) dim);clear hbel;by_cases hd:x=dim
   ·have HD:=zh (hd0.symm.trans hd);clear hd0
    go_wp2_with (first
     |(go_at_call 49;refine(gJ _ _).mono ?_;rintro e w' ⟨rfl,rfl⟩;simp only [HX.out])
     |(at_builtin;refine wpList_append_own _ rfl _ _ 31 rfl (w.heap.size+1) 9 i0 (.string ⟨#[]⟩) 1 16 underlying31 hi hz0 hz1 hz2 rfl zo _ _ _ rfl (World.ownsRow.alloc Hown.out _) ⟨wr.heap.size,0,none⟩ 1 1 [.string (lH k)] rfl rfl ?c1 ?c2 ?c3 ?c4 ?c5 ?_))
    case c1=>exact Ap _ _
    case c2=>intro u hu;simp at hu;subst hu;rfl
    case c3=>have:=HL.out;have h:=length_take_le k inpN;unfold maxLen;omega
    case c4=>have:=HL.out;have h:=length_take_le k inpN;omega
    case c5=>simp;omega
    intro v' w1 hown' hgrow _;have B1:=zh ((Hbel.out.alloc (by simpa using hsz) _).grown hgrow zp (fun k hk=>(Hown.out.lt k hk).1));have H1:=zh (jM.push (s:=lH k) (l:=bV (inpN.take k) dim) hown' rfl zg);clear hown' hgrow
    go_wp2
    go_roundw
    case rel=>exact⟨k+1,by omega,by go_num,by rw [HT.out,if_pos HD.out];exact H1.out,B1.out⟩
    case measure=>simp [intOf];omega
   ·have HD:=zh (fun h=>hd (hd0.trans h));have hd1:(x==dim)=false:=by simpa using hd
    clear hd0
    go_wp2_with (go_at_call 49;refine(gJ _ _).mono ?_;rintro e w' ⟨rfl,rfl⟩;simp only [HX.out])
    go_roundw
    case rel=>exact⟨k+1,by omega,by go_num,by rw [HT.out,if_neg HD.out,append_nil];exact Hown.out,Hbel.out⟩
    case measure=>simp [intOf];omega
  ·obtain rfl:k=11:=by omega
   go_wp2
   go_returns
   exact⟨_,rfl,kU Hown.out ze,.of_below ((((Below.refl _ _).alloc (Nat.le_refl _) _)).trans (Hbel.out.mono ze))⟩

structure Val where
 dim:Int
 yes:Bool
 n:Int
 d:Int
namespace Val
def zero:Val:=⟨0,false,0,0⟩
def num(m n d:Int):Val:=⟨m,false,n,d⟩
def truth(b:Bool):Val:=⟨1,b,0,0⟩
def ok(x:Val):Bool:=if x.dim=1 then decide (x.n=0/\x.d=0)else decide (2<=x.dim/\x.dim<=4)&&!x.yes&&aA x.n x.d
end Val
structure Vw where
 age:Int
 year:Int
 children:Int
 insured:Int
 worked:Int
 voluntary:Int
 service:Int
 equated:Int
 raising:Int
 resident:Int
 bn:Int
 bd:Int
 years:List Int
def bF(l:List Int):Bool:=decide (l.length<=200)&&l.all fun x=>decide (0<=x/\x<=1000000000000)
def eB(z:Int):Bool:=decide (0<=z/\z<=73049)
def Vw.ok(v:Vw):Bool:=decide (0<=v.age/\v.age<=199/\1900<=v.year/\v.year<=2099/\0<=v.children/\v.children<=99)&&
 (eB v.insured&&eB v.worked&&eB v.voluntary&&eB v.service&&eB v.equated&&eB v.raising&&eB v.resident)&&
 (aA v.bn v.bd&&decide (0<=v.bn/\v.bn<=1000000000000*v.bd))&&bF v.years
def Vw.numF(v:Vw)(s:List UInt8):Int × Int:=
 if s= [98,97,115,101]then(v.bn,v.bd)
 else if s= [97,103,101]then(v.age,1)else if s= [121,101,97,114]then(v.year,1)else if s= [99,104,105,108,100,114,101,110]then(v.children,1)
 else if s= [105,110,115,117,114,101,100]then(v.insured,1)else if s= [119,111,114,107,101,100]then(v.worked,1)else if s= [118,111,108,117,110,116,97,114,121]then(v.voluntary,1)
 else if s= [115,101,114,118,105,99,101]then(v.service,1)else if s= [101,113,117,97,116,101,100]then(v.equated,1)else if s= [114,97,105,115,105,110,103]then(v.raising,1)
 else if s= [114,101,115,105,100,101,110,116]then(v.resident,1)else(0,1)
def dh(v:Vw)(s:ByteArray):Option Val:=if bT s.toList=0\/v.ok=false then none else some (.num (bT s.toList) (v.numF s.toList).1 (v.numF s.toList).2)

def oV(x:Int):List Int->List Int
 | []=>[x]
 |y::r=>if x<=y then y::oV x r else x::y::r
def kE(l:List Int):List Int:=l.foldl (fun a x=>oV x a) []
def nI(l:List Int)(n:Int):Int:=((kE l).take n.toNat).sum
def gP(l:List Int)(n:Int):Int × Int × Int:=if n<1\/45<n\/bF l=false then(0,0,1)else(mkN (nI l n) n,mkD (nI l n) n,mkE (nI l n) n)

def dO{α:Type}(env:List (ByteArray × α))(s:ByteArray):Option α:=(env.reverse.find? fun p=>decide (p.1=s)).map Prod.snd

def ax(op:Int)(d:List Int):Int:=
 let a:=d.getD 0 0;let b:=d.getD 1 0;let c:=d.getD 2 0
 if op=5 then(if a=1 then 1 else 0)
 else if op=4\/op=6 then(if a≠1 then a else 0)
 else if op=7\/op=8\/op=19\/op=20 then(if a=b/\a≠1 then a else 0)
 else if op=9 then(if a=2/\b≠1 then b else if b=2/\a≠1 then a else 0)
 else if op=10 then(if b=2/\a≠1 then a else if a=b/\a≠1 then 2 else 0)
 else if op=17\/op=18 then(if a=1/\b=1 then 1 else 0)
 else if op=21 then(if a=1/\b=c then b else 0)
 else if a=b/\a≠1 then 1 else 0
def eF(env:List (ByteArray × Int))(s:ByteArray):Int × Int:=
 if bT s.toList≠0 then(bT s.toList,0)else match dO env s with|some m=>(m,0)|none=>(0,5)
def fA(op m:Int)(nm:Int × Int)(r:List Int × Int):Int × Int:=
 if op=1 then(m,0)else if op=3 then(4,0)else if op=2 then nm
 else if r.2≠0 then(0,r.2)else if ax op r.1=0 then(0,6)else(ax op r.1,0)
mutual
def aD(env:List (ByteArray × Int)):Ex->Int × Int
 | .mk op _ _ m s l=>fA op m (eF env s) (aW env l)
def aW(env:List (ByteArray × Int)):List Ex->List Int × Int
 | []=>([],0)
 |e::r=>if(aD env e).2≠0 then([],(aD env e).2)else if(aW env r).2≠0 then([],(aW env r).2)else((aD env e).1::(aW env r).1,0)
end

def eO(m:Int)(r:Int × Int × Int):Val × Int:=if r.2.2=0 then(.num m r.1 r.2.1,0)else(.zero,r.2.2)
def rP(op c:Int):Bool:=if op=11 then decide (c<0)else if op=12 then decide (c<=0)else if op=13 then decide (c=0)else if op=14 then decide (c≠0)else if op=15 then decide (c > 0)else decide (c≥0)
def op1(op:Int)(a:Val):Val × Int:=if op=5 then(.truth (!a.yes),0)else if op=6 then eO a.dim ((eG a.n a.d).1,1,(eG a.n a.d).2)else eO a.dim (iW a.n a.d)
def op2(op:Int)(a b:Val):Val × Int:=
 if op=7 then eO a.dim (jR a.n a.d b.n b.d)else if op=8 then eO a.dim (lV a.n a.d b.n b.d)
 else if op=9 then eO (ax 9 [a.dim,b.dim]) (lK a.n a.d b.n b.d)else if op=10 then eO (ax 10 [a.dim,b.dim]) (lL a.n a.d b.n b.d)
 else if op=19 then(if iw a.n a.d b.n b.d<=0 then .num a.dim a.n a.d else .num a.dim b.n b.d,0)
 else if op=20 then(if 0<=iw a.n a.d b.n b.d then .num a.dim a.n a.d else .num a.dim b.n b.d,0)
 else(.truth (rP op (iw a.n a.d b.n b.d)),0)
def jS(v:Vw)(env:List (ByteArray × Val))(s:ByteArray):Val × Int:=
 match dh v s with
 |some x=>(x,0)
 |none=>match dO env s with|some x=>(x,0)|none=>(.zero,5)
def eD(v:Vw)(op n d m:Int)(nm:Val × Int)(rs:List (Val × Int)):Val × Int:=
 let r0:=rs.getD 0 (.zero,0);let r1:=rs.getD 1 (.zero,0);let r2:=rs.getD 2 (.zero,0)
 if op=1 then(.num m n d,0)else if op=2 then nm else if op=3 then eO 4 (gP v.years n)
 else if r0.2≠0 then(.zero,r0.2)
 else if op=17 then(if r0.1.yes=true then r1 else r0)else if op=18 then(if r0.1.yes=true then r0 else r1)
 else if op=21 then(if r0.1.yes=true then r1 else r2)
 else if op<=6 then op1 op r0.1
 else if r1.2≠0 then(.zero,r1.2)else op2 op r0.1 r1.1
mutual
def ai(v:Vw)(env:List (ByteArray × Val)):Ex->Val × Int
 | .mk op n d m s l=>eD v op n d m (jS v env s) (gu v env l)
def gu(v:Vw)(env:List (ByteArray × Val)):List Ex->List (Val × Int)
 | []=>[]
 |e::r=>ai v env e::gu v env r
end
theorem iI(env:List (ByteArray × Int))(e:Ex):aD env e=fA e.op e.dim (eF env e.name) (aW env e.args):=by cases e;rw [aD];rfl
theorem dQ(v:Vw)(env:List (ByteArray × Val))(e:Ex):ai v env e=eD v e.op e.num e.den e.dim (jS v env e.name) (gu v env e.args):=by cases e;rw [ai];rfl
def aQ(env:List (ByteArray × Val)):List (ByteArray × Int):=env.map fun p=>(p.1,p.2.dim)

theorem Val.num_ok{m n d:Int}(hm:2<=m/\m<=4)(h:aA n d=true):(Val.num m n d).ok=true:=by
 unfold Val.ok Val.num;rw [if_neg (show ¬m=1 by omega)];show(decide (2<=m/\m<=4)&&!false&&aA n d)=true;rw [h,decide_eq_true hm];rfl
def okR(m:Int)(r:Val × Int):Prop:=(r.2=0/\r.1.ok=true/\r.1.dim=m)\/(r.1= .zero/\(r.2=2\/r.2=3))
theorem kV{m:Int}{r:Int × Int × Int}(hm:2<=m/\m<=4)(h:okF r):okR m (eO m r):=by
 unfold eO;rcases h with ⟨h1,h2⟩|⟨-,-,h3⟩
 ·rw [if_pos h1];refine .inl ⟨rfl, ?_,rfl⟩;exact Val.num_ok hm h2
 ·rw [if_neg ze];exact .inr ⟨rfl,h3⟩
theorem vW(b:Bool):okR 1 (.truth b,0):=.inl ⟨rfl,by simp [Val.ok,Val.truth],rfl⟩
theorem Val.ok_num{x:Val}(h:x.ok=true)(hd:x.dim≠1):2<=x.dim/\x.dim<=4/\x.yes=false/\aA x.n x.d=true:=by
 unfold Val.ok at h;rw [if_neg hd]at h;simp only [Bool.and_eq_true,decide_eq_true_eq,Bool.not_eq_true']at h;exact⟨h.1.1.1,h.1.1.2,h.1.2,h.2⟩
theorem Val.ok_dim{x:Val}(h:x.ok=true):1<=x.dim/\x.dim<=4:=by
 by_cases hd:x.dim=1
 ·omega
 ·have:=Val.ok_num h hd;omega
theorem lT{n:Int}(h1:-1000000000000000<=n)(h2:n<=1000000000000000):aA n 1=true:=oG ⟨by omega,by omega,h1,h2⟩ zg
theorem uz{n d:Int}(h:aA n d=true):-1000000000000000<=n / d/\n / d<=1000000000000000:=by
 have:=aF h;constructor
 ·rw [Int.le_ediv_iff_mul_le ze];omega
 ·have h3:n / d<1000000000000001:=Int.ediv_lt_of_lt_mul ze ze;omega
theorem M4{n d:Int}(h:aA n d=true):okF (iW n d):=by
 unfold iW;rw [if_pos h];exact .inl ⟨rfl,by rw [vH];exact h⟩
theorem Kg{n d:Int}(h:aA n d=true):okF ((eG n d).1,1,(eG n d).2):=by
 unfold eG;rw [if_pos h];have:=uz h;exact .inl ⟨rfl,lT this.1 this.2⟩
theorem Pi{op:Int}{x:Val}(h:x.ok=true)(h4:4<=op)(h6:op<=6)(hr:ax op [x.dim]≠0):okR (ax op [x.dim]) (op1 op x):=by
 obtain rfl|rfl|rfl:op=4\/op=5\/op=6:=by omega
 all_goals simp only [ax,getD_cons_zero,op1]at hr ⊢
 ·simp at hr ⊢;have:=Val.ok_num h hr.1;rw [if_neg hr.1];exact kV ⟨this.1,this.2.1⟩ (M4 this.2.2.2)
 ·simp at hr ⊢;rw [if_pos hr];exact vW _
 ·simp at hr ⊢;have:=Val.ok_num h hr.1;rw [if_neg hr.1];exact kV ⟨this.1,this.2.1⟩ (Kg this.2.2.2)
theorem xx(a b:Int):ax 9 [a,b]=if a=2/\b≠1 then b else if b=2/\a≠1 then a else 0:=rfl
theorem xz(a b:Int):ax 10 [a,b]=if b=2/\a≠1 then a else if a=b/\a≠1 then 2 else 0:=rfl
theorem rZ{op:Int}(a b:Int)(h:op=7\/op=8\/op=19\/op=20):ax op [a,b]=if a=b/\a≠1 then a else 0:=by
 rcases h with rfl|rfl|rfl|rfl<;>rfl
theorem rY{op:Int}(a b:Int)(h:11<=op/\op<=16):ax op [a,b]=if a=b/\a≠1 then 1 else 0:=by
 obtain rfl|rfl|rfl|rfl|rfl|rfl:op=11\/op=12\/op=13\/op=14\/op=15\/op=16:=by omega
 all_goals rfl
theorem Pg{op:Int}{x y:Val}(h:x.ok=true)(g:y.ok=true)(h4:7<=op)(h6:op<=20)(h17:op≠17)(h18:op≠18)(hr:ax op [x.dim,y.dim]≠0):okR (ax op [x.dim,y.dim]) (op2 op x y):=by
 by_cases c:op=9
 ·subst c;show okR _ (eO (ax 9 [x.dim,y.dim]) (lK x.n x.d y.n y.d))
  have hx:x.dim≠1/\y.dim≠1/\(ax 9 [x.dim,y.dim]=x.dim\/ax 9 [x.dim,y.dim]=y.dim):=by
   rw [xx]at hr ⊢;exact Qw
  have h1:=Val.ok_num h hx.1;have h2:=Val.ok_num g hx.2.1;exact kV ze (M7 h1.2.2.2 h2.2.2.2)
 ·by_cases c':op=10
  ·subst c';show okR _ (eO (ax 10 [x.dim,y.dim]) (lL x.n x.d y.n y.d))
   have hx:x.dim≠1/\y.dim≠1/\(ax 10 [x.dim,y.dim]=x.dim\/ax 10 [x.dim,y.dim]=2):=by
    rw [xz]at hr ⊢;exact Qw
   have h1:=Val.ok_num h hx.1;have h2:=Val.ok_num g hx.2.1;exact kV ze (NS h1.2.2.2 h2.2.2.2)
  ·have hx:x.dim=y.dim/\x.dim≠1:=by
    by_cases c3:11<=op/\op<=16
    ·rw [rY _ _ c3]at hr
     split at hr<;>rename_i c1
     ·exact c1
     ·exact absurd rfl hr
    ·rw [rZ _ _ ze]at hr
     split at hr<;>rename_i c1
     ·exact c1
     ·exact absurd rfl hr
   have h1:=Val.ok_num h hx.2;have h2:=Val.ok_num g ze;by_cases c3:11<=op/\op<=16
   ·rw [rY _ _ c3,if_pos hx];unfold op2;rw [if_neg ze,if_neg ze,if_neg ze,if_neg ze,if_neg ze,if_neg ze];exact vW _
   ·rw [rZ _ _ ze,if_pos hx];obtain rfl|rfl|rfl|rfl:op=7\/op=8\/op=19\/op=20:=by omega
    ·exact kV ze (E9 h1.2.2.2 h2.2.2.2)
    ·exact kV ze (L9 h1.2.2.2 h2.2.2.2)
    ·show okR _ (if iw x.n x.d y.n y.d<=0 then .num x.dim x.n x.d else .num x.dim y.n y.d,0);exact Qq
    ·show okR _ (if 0<=iw x.n x.d y.n y.d then .num x.dim x.n x.d else .num x.dim y.n y.d,0);exact Qq
theorem okR.bad{m:Int}{r:Val × Int}(h:okR m r)(hr:r.2≠0):r.1= .zero/\(r.2=2\/r.2=3):=by
 rcases h with h|h
 ·exact absurd h.1 hr
 ·exact h
theorem okR.good{m:Int}{r:Val × Int}(h:okR m r)(hr:r.2=0):r.1.ok=true/\r.1.dim=m:=by
 rcases h with h|h
 ·exact h.2
 ·omega
theorem MX(v:Vw){op n d m:Int}{nm:Val × Int}{ds:List Int}{rs:List (Val × Int)}(h4:4<=op)(h21:op<=21)(hl:(ds.length:Int)=aX op)
 (hr:∀i,i<ds.length->okR (ds.getD i 0) (rs.getD i (.zero,0))) (hres:ax op ds≠0):okR (ax op ds) (eD v op n d m nm rs):=by
 have hn:0<ds.length:=by unfold aX at hl;(repeat' split at hl)<;>omega
 have r0:=hr 0 hn;unfold eD;rw [if_neg ze,if_neg ze,if_neg ze];by_cases e0:(rs.getD 0 (Val.zero,0)).2≠0
 ·rw [if_pos e0];exact .inr ⟨rfl,(r0.bad e0).2⟩
 rw [if_neg e0];have g0:=r0.good ze;by_cases h6:op<=6
 ·have hl1:ds.length=1:=by unfold aX at hl;rw [if_neg ze,if_pos ze]at hl;omega
  obtain⟨a,rfl⟩:∃a,ds= [a]:=length_eq_one_iff.1 hl1;rw [if_neg ze,if_neg ze,if_neg ze,if_pos h6];have ha:(rs.getD 0 (Val.zero,0)).1.dim=a:=g0.2;rw [<-ha]at hres ⊢;exact Pi g0.1 h4 h6 hres
 by_cases h20:op<=20
 ·have hl1:ds.length=2:=by unfold aX at hl;rw [if_neg ze,if_neg ze,if_pos ze]at hl;omega
  obtain⟨a,b,rfl⟩:∃a b,ds= [a,b]:=by
   match ds,hl1 with
   | [a,b],_=>exact⟨a,b,rfl⟩
  have r1:=hr 1 zg;have ha:(rs.getD 0 (Val.zero,0)).1.dim=a:=g0.2;have hb:okR b (rs.getD 1 (Val.zero,0)):=r1;by_cases h17:op=17
  ·subst h17
   have hab:a=1/\b=1:=by
    have e:ax 17 [a,b]=if a=1/\b=1 then 1 else 0:=rfl
    rw [e]at hres
    split at hres<;>rename_i c1
    ·exact c1
    ·exact absurd rfl hres
   obtain⟨rfl,rfl⟩:=hab;rw [if_pos rfl]
   split
   ·exact hb
   ·exact r0
  by_cases h18:op=18
  ·subst h18
   have hab:a=1/\b=1:=by
    have e:ax 18 [a,b]=if a=1/\b=1 then 1 else 0:=rfl
    rw [e]at hres
    split at hres<;>rename_i c1
    ·exact c1
    ·exact absurd rfl hres
   obtain⟨rfl,rfl⟩:=hab;rw [if_neg ze,if_pos rfl]
   split
   ·exact r0
   ·exact hb
  rw [if_neg h17,if_neg h18,if_neg ze,if_neg h6];by_cases e1:(rs.getD 1 (Val.zero,0)).2≠0
  ·rw [if_pos e1];exact .inr ⟨rfl,(hb.bad e1).2⟩
  rw [if_neg e1];have g1:=hb.good ze;rw [<-ha,<-g1.2]at hres ⊢;exact Pg g0.1 g1.1 ze h20 h17 h18 hres
 ·obtain rfl:op=21:=by omega
  have hl1:ds.length=3:=by simp [aX]at hl;omega
  obtain⟨a,b,c,rfl⟩:∃a b c,ds= [a,b,c]:=by
   match ds,hl1 with
   | [a,b,c],_=>exact⟨a,b,c,rfl⟩
  have hb:okR b (rs.getD 1 (Val.zero,0)):=hr 1 zg;have hc:okR c (rs.getD 2 (Val.zero,0)):=hr 2 zg;have e:ax 21 [a,b,c]=if a=1/\b=c then b else 0:=rfl
  rw [e]at hres ⊢
  split at hres<;>rename_i c1
  ·obtain⟨rfl,rfl⟩:=c1;rw [if_pos (⟨rfl,rfl⟩:(1:Int)=1/\b=b),if_neg ze,if_neg ze,if_pos rfl]
   split
   ·exact hb
   ·exact hc
  ·exact absurd rfl hres
theorem Vw.ok_bd{v:Vw}(h:v.ok=true):(0<=v.age/\v.age<=199/\1900<=v.year/\v.year<=2099/\0<=v.children/\v.children<=99)/\
 (0<=v.insured/\v.insured<=73049/\0<=v.worked/\v.worked<=73049/\0<=v.voluntary/\v.voluntary<=73049/\0<=v.service/\v.service<=73049/\0<=v.equated/\v.equated<=73049/\0<=v.raising/\v.raising<=73049/\0<=v.resident/\v.resident<=73049)/\
 aA v.bn v.bd=true/\(0<=v.bn/\v.bn<=1000000000000*v.bd)/\bF v.years=true:=by
 unfold Vw.ok at h;obtain⟨h,e⟩:=Bool.and_eq_true_iff.1 h;obtain⟨h,cd⟩:=Bool.and_eq_true_iff.1 h;obtain⟨a,b⟩:=Bool.and_eq_true_iff.1 h;obtain⟨c,d⟩:=Bool.and_eq_true_iff.1 cd;have k:∀z,eB z=true->0<=z/\z<=73049:=fun z hz=>of_decide_eq_true hz;repeat rw [Bool.and_eq_true]at b
 obtain⟨⟨⟨⟨⟨⟨b1,b2⟩,b3⟩,b4⟩,b5⟩,b6⟩,b7⟩:=b;have b1:=k _ b1;have b2:=k _ b2;have b3:=k _ b3;have b4:=k _ b4;have b5:=k _ b5;have b6:=k _ b6;have b7:=k _ b7;exact⟨of_decide_eq_true a,⟨b1.1,b1.2,b2.1,b2.2,b3.1,b3.2,b4.1,b4.2,b5.1,b5.2,b6.1,b6.2,b7.1,b7.2⟩,c,of_decide_eq_true d,e⟩
theorem JN{c:Prop}[Decidable c]{a b:Int × Int}(ha:aA a.1 a.2=true)(hb:aA b.1 b.2=true):aA (if c then a else b).1 (if c then a else b).2=true:=by
 by_cases h:c
 ·rw [if_pos h];exact ha
 ·rw [if_neg h];exact hb
theorem Vw.numF_ok{v:Vw}(h:v.ok=true)(s:List UInt8):aA (v.numF s).1 (v.numF s).2=true:=by
 obtain⟨a,b,c,-,-⟩:=Vw.ok_bd h;unfold Vw.numF;refine JN c ?_;repeat refine JN (lT (by show _<=(_:Int);omega) (by show(_:Int)<=_;omega)) ?_
 exact lT ze ze
theorem EG(s:List UInt8):bT s=0\/(2<=bT s/\bT s<=4):=by
 unfold bT
 (repeat' split)<;>simp
theorem AO{v:Vw}{s:ByteArray}{x:Val}(h:dh v s=some x):x.ok=true/\x.dim=bT s.toList/\bT s.toList≠0:=by
 unfold dh at h
 split at h<;>rename_i hc
 ·cases h
 ·simp only [not_or,Bool.not_eq_false]at hc;cases h;have:=EG s.toList;exact⟨Val.num_ok ze (Vw.numF_ok hc.2 _),rfl,hc.1⟩
theorem AP{v:Vw}(hv:v.ok=true){s:ByteArray}(h:dh v s=none):bT s.toList=0:=by
 unfold dh at h
 split at h<;>rename_i hc
 ·rcases hc with hc|hc
  ·exact hc
  ·rw [hv]at hc;cases hc
 ·cases h
theorem Dq(env:List (ByteArray × Val))(s:ByteArray):dO (aQ env) s=(dO env s).map Val.dim:=by
 unfold dO aQ;rw [<-map_reverse,find?_map];simp only [Option.map_map];rfl
theorem Gr{env:List (ByteArray × Val)}{s:ByteArray}{x:Val}(h:dO env s=some x):∃p∈env,p.2=x:=by
 exact Qu
theorem EC{v:Vw}(hv:v.ok=true){env:List (ByteArray × Val)}(hE:∀p∈env,p.2.ok=true){s:ByteArray}(h:(eF (aQ env) s).2=0):okR (eF (aQ env) s).1 (jS v env s):=by
 unfold eF at h ⊢;unfold jS
 cases hi:dh v s with
 |some x=>
  obtain⟨h1,h2,h3⟩:=AO hi;rw [if_pos h3];exact .inl ⟨rfl,h1,h2⟩
 |none=>
  have h0:=AP hv hi;rw [if_neg (by simpa using h0),Dq]at h ⊢
  cases hx:dO env s with
  |some x=>
   obtain⟨p,hp,rfl⟩:=Gr hx;exact .inl ⟨rfl,hE p hp,rfl⟩
  |none=>rw [hx]at h;simp at h
theorem Ox{n d:Int}(h:d≠0):okF (mkN n d,mkD n d,mkE n d):=by
 unfold mkN mkD mkE;rw [if_neg h,if_neg h,if_neg h];rcases uf n.natAbs d.natAbs with e|e
 ·exact .inl ⟨e,JG _ ze e⟩
 ·have h3:=EF (decide (n<0)!=decide (d<0)) (show kF n.natAbs d.natAbs≠0 by omega);exact .inr ⟨h3.1,h3.2,.inl e⟩
theorem Od{l:List Int}{n:Int}(h1:1<=n)(h2:n<=45)(h:bF l=true):okF (gP l n):=by
 unfold gP;rw [if_neg (by simp [h];omega)];exact Ox ze
theorem BL{n d m:Int}(h:dI n d m=true):aA n d=true/\2<=m/\m<=4:=by
 simp only [dI,Bool.and_eq_true,decide_eq_true_eq]at h;exact⟨h.1.1.1.1.1,h.1.1.2,h.1.2⟩
theorem Dv(env:List (ByteArray × Int))(l:List Ex)(h:(aW env l).2=0):(aW env l).1.length=l.length:=by
 induction l with
 |nil=>simp [aW]
 |cons e r ih=>
  rw [aW]at h ⊢
  split at h<;>rename_i c1
  ·exact absurd h c1
  ·split at h<;>rename_i c2
   ·exact absurd h c2
   ·rw [if_neg c1,if_neg c2];simp [ih ze]
mutual
theorem lU{v:Vw}(hv:v.ok=true){env:List (ByteArray × Val)}(hE:∀p∈env,p.2.ok=true):∀e:Ex,aL e=true->(aD (aQ env) e).2=0->okR (aD (aQ env) e).1 (ai v env e)
 | .mk op n d m s l=>by
   intro hf hi;rw [aL,Bool.and_eq_true,decide_eq_true_eq]at hf;rw [aD]at hi ⊢;rw [ai];obtain⟨ha,hf⟩:=hf;unfold fA at hi ⊢;by_cases c1:op=1
   ·subst c1;rw [if_pos rfl]at hf;simp only [Bool.and_eq_true]at hf;have:=BL hf.1;exact .inl ⟨rfl,Val.num_ok this.2 this.1,rfl⟩
   rw [if_neg c1]at hi hf ⊢;by_cases c2:op=2
   ·subst c2;exact EC hv hE hi
   rw [if_neg c2]at hf;by_cases c3:op=3
   ·subst c3;rw [if_pos rfl]at hf;simp only [Bool.and_eq_true,decide_eq_true_eq]at hf;show okR 4 (eO 4 (gP v.years n));exact kV ze (Od hf.1.2 hf.2 (Vw.ok_bd hv).2.2.2.2)
   rw [if_neg c3]at hf;rw [if_neg c3,if_neg c2]at hi ⊢;simp only [Bool.and_eq_true]at hf
   split at hi<;>rename_i c4
   ·exact absurd hi c4
   rw [if_neg c4]
   split at hi<;>rename_i c5
   ·simp at hi
   rw [if_neg c5];have hlen:=Dv (aQ env) l ze;have hop:4<=op/\op<=21:=by unfold aX at ha;(repeat' split at ha)<;>omega
   exact MX v hop.1 hop.2 (by rw [hlen];exact ha) (fun i hi=>vJ hv hE l hf.1 ze i ze) c5
theorem vJ{v:Vw}(hv:v.ok=true){env:List (ByteArray × Val)}(hE:∀p∈env,p.2.ok=true):∀l:List Ex,aV l=true->(aW (aQ env) l).2=0->
 ∀i,i<l.length->okR ((aW (aQ env) l).1.getD i 0) ((gu v env l).getD i (.zero,0))
 | []=>by intro _ _ i hi;simp at hi
 |e::r=>by
  intro hf h i hi;rw [aV,Bool.and_eq_true]at hf;rw [aW]at h ⊢;rw [gu]
  split at h<;>rename_i c1
  ·exact absurd h c1
  split at h<;>rename_i c2
  ·exact absurd h c2
  rw [if_neg c1,if_neg c2]
  cases i with
  |zero=>exact lU hv hE e hf.1 ze
  |succ i=>exact vJ hv hE r hf.2 ze i (by simpa using hi)
end
def fV(env:List (ByteArray × Int)):Bool:=env.all fun p=>decide (1<=p.2/\p.2<=4)
def aT(env:List (ByteArray × Int))(e:Ex):Int × Int:=if cK e=true/\fV env=true then aD env e else(0,1)
open Go.RowKit
structure Next(g:Nat)(a b:World):Prop where
 size:a.heap.size<=b.heap.size
 blk:∀k,k<a.heap.size->k≠g->b.heap[k]? =a.heap[k]?
section
variable {g : Nat} {a b c : World}
theorem Next.refl(g:Nat)(a:World):Next g a a:=⟨Nat.le_refl _,fun _ _ _=>rfl⟩
theorem Next.alloc(h:Next g a b)(o:Obj):Next g a (b.alloc o):=⟨by have:=h.size;simp;omega,fun k hk hg=>(Below.heap_alloc b o k (Nat.lt_of_lt_of_le hk h.size)).trans (h.blk k hk hg)⟩
theorem Next.grow(h:Next g a b)(bs:Array Obj)(d:Nat):Next g a (b.grow bs d):=⟨by have:=h.size;simp;omega,fun k hk hg=>(World.heap_grow _ _ _ (Nat.lt_of_lt_of_le hk h.size)).trans (h.blk k hk hg)⟩
theorem Next.drewN(h:Next g a b)(n:Nat):Next g a (b.drewN n):=⟨h.size,h.blk⟩
theorem Next.drew(h:Next g a b):Next g a b.drew:=⟨h.size,h.blk⟩
theorem Next.grown{row:Option Nat}(h:Next g a b)(hg:b.grownBy c row)(hr:∀k,row=some k->a.heap.size<=k):Next g a c:=
 ⟨Nat.le_trans h.size hg.size,fun k hk hgk=>(hg.block k (Nat.lt_of_lt_of_le hk h.size) fun e=>by have:=hr k e.symm;omega).trans (h.blk k hk hgk)⟩
theorem Next.store(h:Next g a b)(i:Nat)(v:Value):Next g a (b.setCell ⟨g,i,none⟩ v):=⟨by have:=h.size;simp;omega,fun k hk hgk=>(Below.heap_setCell _ _ _ _ hgk).trans (h.blk k hk hgk)⟩
end
def Jn(cs:Array Value)(o:Nat):List Value->Array Value
 | []=>cs
 |v::vs=>Jn (cs.setIfInBounds o v) (o+1) vs
theorem dF{b:Nat}{t:TypeId}:∀(vs:List Value) (o:Nat) (w:World) (cs:Array Value),w.heap[b]? =some (.cells cs t (0,0))->(w.setCells b o vs).heap[b]? =some (.cells (Jn cs o vs) t (0,0))
 | [],_,_,_,h=>h
 |v::vs,o,_,_,h=>dF vs (o+1) _ _ (Joins.block_setCell h v)
theorem below_setCells{b B:Nat}{w0:World}(hb:B<=b):∀(vs:List Value) (o:Nat) (w:World),Below B w0 w->Below B w0 (w.setCells b o vs)
 | [],_,_,h=>h
 |v::vs,o,_,h=>below_setCells hb vs (o+1) _ (h.setCell hb v)
theorem dY{b:Nat}{w0:World}:∀(vs:List Value) (o:Nat) (w:World),Next b w0 w->Next b w0 (w.setCells b o vs)
 | [],_,_,h=>h
 |v::vs,o,_,h=>dY vs (o+1) _ (h.store o v)
theorem bK(w:World)(o:Obj)(H:Nat)(hH:w.heap.size=H):(w.alloc o).heap[H]? =some o:=by subst hH;exact heap_alloc_new w o
theorem aB(w:World)(o:Obj)(k:Nat):(w.alloc o).heap[k]? =if k=w.heap.size then some o else w.heap[k]?:=by
 split
 ·rename_i h;subst h;exact heap_alloc_new w o
 ·rename_i h
  show(w.heap.push o)[k]? =_;rw [Array.getElem?_push,if_neg h]
theorem aR(w:World)(cs:List Value)(t:TypeId)(H:Nat)(hH:w.heap.size=H):∀(j:Nat) (v:Value),cs[j]? =some v->(w.alloc (.cells cs.toArray t)).cell? ((⟨H,0,none⟩:Addr).add j)=some v:=by
 subst hH;intro j v hj;rw [addr_add,World.cell?_alloc_at _ _ _ _ rfl];simpa using hj
theorem xL{op m:Int}{a b:Int × Int}{r:List Int × Int}(h:op≠2):fA op m a r=fA op m b r:=by
 unfold fA;by_cases c:op=1
 ·rw [if_pos c,if_pos c]
 ·rw [if_neg c,if_neg c];by_cases c3:op=3
  ·rw [if_pos c3,if_pos c3]
  ·rw [if_neg c3,if_neg c3,if_neg h,if_neg h]
end Go.Proofs.YtlheailebbngiaaGreatDoor
