import Derived.Test.YtcfpoofhokbhlaaGreatDoorVWide
import Derived.Lib.SmallJoins
set_option linter.all false
set_option maxHeartbeats 16000000
set_option maxRecDepth 1000000
namespace Go.Proofs.YtcfpoofhokbhlaaGreatDoor
open Tryz List
open Go.RowKit

instance:Inhabited ByteArray:=⟨ByteArray.empty⟩
def inpN:List (ByteArray × Int):=[(⟨#[97,103,101]⟩,2),(⟨#[121,101,97,114]⟩,2),(⟨#[99,104,105,108,100,114,101,110]⟩,2),(⟨#[105,110,115,117,114,101,100]⟩,3),(⟨#[119,111,114,107,101,100]⟩,3),(⟨#[118,111,108,117,110,116,97,114,121]⟩,3),(⟨#[115,101,114,118,105,99,101]⟩,3),(⟨#[101,113,117,97,116,101,100]⟩,3),(⟨#[114,97,105,115,105,110,103]⟩,3),(⟨#[114,101,115,105,100,101,110,116]⟩,3),(⟨#[98,97,115,101]⟩,4)]
def bR(l:List (ByteArray × Int))(dim:Int):List ByteArray:=(l.filter (fun b=>decide (b.2=dim))).map (·.1)
theorem uo(a b:List (ByteArray × Int))(dim:Int):bR (a++b) dim=bR a dim++bR b dim:=by simp [bR]
theorem nT(l:List (ByteArray × Int))(dim:Int):(bR l dim).length<=l.length:=by
 unfold bR;rw [length_map];exact length_filter_le _ _
def aY(env:List (ByteArray × Int))(dim:Int):List ByteArray:=bR inpN dim++bR env dim
theorem rR(env:List (ByteArray × Int))(dim:Int):(aY env dim).length<=11+env.length:=by
 unfold aY;rw [length_append];have:=nT inpN dim;have:=nT env dim;have:inpN.length=11:=rfl;omega

def fG(zs:List Int)(env:List (ByteArray × Int))(p:Nat)(dim:Int):Ex × Nat:=
 if aJ zs p ((aY env dim).length+3)<(aY env dim).length then
  (.mk 2 0 0 0 ((aY env dim).getD (aJ zs p ((aY env dim).length+3)).toNat ByteArray.empty) [],p+1)
 else if dim=4/\aJ zs p ((aY env dim).length+3)=(aY env dim).length then(.mk 3 (1+aJ zs (p+1) 5) 1 0 ByteArray.empty [],p+2)
 else(.mk 1 (Ia zs (p+1)) (Ib zs (p+1)) dim ByteArray.empty [],p+3)
def dU(zs:List Int)(env:List (ByteArray × Int))(dim:Int)(p:Nat)(left:Int):Ex × Nat × Int:=
 if dim=1 then
  (.mk (11+aJ zs (p+1) 6) 0 0 0 ByteArray.empty [(fG zs env (p+2) (2+aJ zs p 3)).1,(fG zs env (fG zs env (p+2) (2+aJ zs p 3)).2 (2+aJ zs p 3)).1],
   (fG zs env (fG zs env (p+2) (2+aJ zs p 3)).2 (2+aJ zs p 3)).2,left-3)
 else((fG zs env p dim).1,(fG zs env p dim).2,left-1)
theorem ma(zs:List Int)(env:List (ByteArray × Int))(p:Nat)(dim:Int):p<=(fG zs env p dim).2/\(fG zs env p dim).2<=p+3:=by
 unfold fG
 split
 ·simp
 ·split<;>simp
theorem uH(zs:List Int)(env:List (ByteArray × Int))(dim:Int)(p:Nat)(left:Int) :
 p<=(dU zs env dim p left).2.1/\(dU zs env dim p left).2.1<=p+8/\left-3<=(dU zs env dim p left).2.2/\(dU zs env dim p left).2.2<=left:=by
 unfold dU
 split
 ·have a:=ma zs env (p+2) (2+aJ zs p 3);have b:=ma zs env (fG zs env (p+2) (2+aJ zs p 3)).2 (2+aJ zs p 3);dsimp only;omega
 ·have a:=ma zs env p dim;dsimp only;omega

def bL(zs:List Int)(p:Nat)(dim:Int):Option (Int × List Int × Nat):=
 if dim=1 then
  if aJ zs p 14<2 then some (17+aJ zs p 14,[1,1],p+1)
  else if aJ zs p 14=2 then some (5,[1],p+1)
  else if aJ zs p 14=3 then some (21,[1,1,1],p+1)
  else if aJ zs p 14<=8 then some (11+aJ zs (p+2) 6,[2+aJ zs (p+1) 3,2+aJ zs (p+1) 3],p+3)
  else none
 else if aJ zs p 14=0 then some (7,[dim,dim],p+1)
 else if aJ zs p 14=1 then some (8,[dim,dim],p+1)
 else if aJ zs p 14=2 then some (19,[dim,dim],p+1)
 else if aJ zs p 14=3 then some (20,[dim,dim],p+1)
 else if aJ zs p 14=4 then some (21,[1,dim,dim],p+1)
 else if aJ zs p 14=5 then some (4,[dim],p+1)
 else if aJ zs p 14=6 then some (6,[dim],p+1)
 else if aJ zs p 14=7 then some (9,[2,dim],p+1)
 else if aJ zs p 14=8 then some (9,[dim,2],p+1)
 else if aJ zs p 14=9 then some (10,[dim,2],p+1)
 else if aJ zs p 14=10/\dim=2 then some (10,[2+aJ zs (p+1) 3,2+aJ zs (p+1) 3],p+2)
 else none
def bM(E:Int->Nat->Int->Ex × Nat × Int):List Int->Nat->Int->List Ex × Nat × Int
 | [],p,left=>([],p,left)
 |d::ds,p,left=>((E d p left).1::(bM E ds (E d p left).2.1 (E d p left).2.2).1,(bM E ds (E d p left).2.1 (E d p left).2.2).2)
def aP(zs:List Int)(env:List (ByteArray × Int)):Nat->Int->Nat->Int->Ex × Nat × Int
 |0,dim,p,left=>dU zs env dim p left
 |n+1,dim,p,left=>
  if left<=0 then dU zs env dim p left else
   match bL zs p dim with
   |none=>dU zs env dim (p+1) (left-2)
   |some (op,ds,q)=>(.mk op 0 0 0 ByteArray.empty (bM (aP zs env n) ds q (left-2)).1,(bM (aP zs env n) ds q (left-2)).2)
theorem Ef(E:Int->Nat->Int->Ex × Nat × Int)(ds:List Int)(d:Int)(p:Nat)(left:Int) :
 bM E (ds++[d]) p left=((bM E ds p left).1++[(E d (bM E ds p left).2.1 (bM E ds p left).2.2).1],(E d (bM E ds p left).2.1 (bM E ds p left).2.2).2):=by
 induction ds generalizing p left with
 |nil=>rfl
 |cons c ds ih=>simp only [cons_append,bM,ih]
theorem EY(zs:List Int)(env:List (ByteArray × Int))(n:Nat)(dim:Int)(p:Nat)(left:Int)(h:n=0\/left<=0):aP zs env n dim p left=dU zs env dim p left:=by
 cases n with
 |zero=>rfl
 |succ n=>rw [aP,if_pos ze]
theorem uR(zs:List Int)(env:List (ByteArray × Int))(n:Nat)(dim:Int)(p:Nat)(left:Int)(h:0<left)(hp:bL zs p dim=none):aP zs env (n+1) dim p left=dU zs env dim (p+1) (left-2):=by
 rw [aP,if_neg ze,hp]
theorem bX(zs:List Int)(env:List (ByteArray × Int))(n:Nat)(dim:Int)(p:Nat)(left:Int)(h:0<left){op:Int}{ds:List Int}{q:Nat}(hp:bL zs p dim=some (op,ds,q)) :
 aP zs env (n+1) dim p left=(.mk op 0 0 0 ByteArray.empty (bM (aP zs env n) ds q (left-2)).1,(bM (aP zs env n) ds q (left-2)).2):=by
 rw [aP,if_neg ze,hp]
def tX(p:Nat):Option (Int × List Int × Nat)->Prop
 |none=>True
 |some t=>p<=t.2.2/\t.2.2<=p+3/\t.2.1.length<=3
theorem D8{p:Nat}{c:Prop}[Decidable c]{a b:Option (Int × List Int × Nat)}(ha:tX p a)(hb:tX p b):tX p (if c then a else b):=by
 split
 ·exact ha
 ·exact hb
theorem KU(zs:List Int)(p:Nat)(dim:Int):tX p (bL zs p dim):=by
 unfold bL
 repeat' (first|refine D8 ?_ ?_)
 all_goals simp [tX]
theorem Bw(zs:List Int)(p:Nat)(dim:Int){op:Int}{ds:List Int}{q:Nat}(h:bL zs p dim=some (op,ds,q)):p<=q/\q<=p+3/\ds.length<=3:=by
 have:=KU zs p dim;rw [h]at this;exact this
def aO:Nat->Nat
 |0=>8
 |n+1=>3*aO n+3
theorem df(n:Nat):8<=aO n:=by induction n with
 |zero=>exact Nat.le_refl _
 |succ n ih=>rw [aO];omega
theorem BF(E:Int->Nat->Int->Ex × Nat × Int)(c:Nat)(hE:∀d p left,p<=(E d p left).2.1/\(E d p left).2.1<=p+c/\left-c<=(E d p left).2.2/\(E d p left).2.2<=left)(ds:List Int):∀(p:Nat) (left:Int),
 p<=(bM E ds p left).2.1/\(bM E ds p left).2.1<=p+ds.length*c/\left-(ds.length*c:Nat)<=(bM E ds p left).2.2/\(bM E ds p left).2.2<=left:=by
 induction ds with
 |nil=>intro p left;simp [bM]
 |cons d ds ih=>
  intro p left;have a:=hE d p left;have b:=ih (E d p left).2.1 (E d p left).2.2;simp only [bM,length_cons,Nat.add_mul,Nat.one_mul];omega
theorem uS(zs:List Int)(env:List (ByteArray × Int))(n:Nat):∀(dim:Int) (p:Nat) (left:Int),
 p<=(aP zs env n dim p left).2.1/\(aP zs env n dim p left).2.1<=p+aO n/\left-aO n<=(aP zs env n dim p left).2.2/\(aP zs env n dim p left).2.2<=left:=by
 induction n with
 |zero=>intro dim p left;have:=uH zs env dim p left;simp only [aP,aO];omega
 |succ n ih=>
  intro dim p left;have h8:=df n;rw [aP,aO]
  split
  ·have:=uH zs env dim p left;omega
  ·cases h:bL zs p dim with
   |none=>have:=uH zs env dim (p+1) (left-2);simp only;omega
   |some t=>
    obtain⟨op,ds,q⟩:=t;have a:=Bw zs p dim h;have b:=BF (aP zs env n) (aO n) ih ds q (left-2);have c:ds.length*aO n<=3*aO n:=Nat.mul_le_mul_right _ a.2.2;simp only;omega

def bH(e:Ex)(v:Value):List Value:=[.int .i64 e.op,.int .i64 e.num,.int .i64 e.den,.int .i64 e.dim,.string e.name,v]
def kw:List (Ex × Value)->List Value
 | []=>[]
 |x::r=>bH x.1 x.2++kw r
theorem vP(a b:List (Ex × Value)):kw (a++b)=kw a++kw b:=by
 induction a with
 |nil=>rfl
 |cons x r ih=>simp only [cons_append,kw,ih,append_assoc]
theorem Fe(l:List (Ex × Value))(i j:Nat)(x:Ex × Value)(h:l[i]? =some x)(hj:j<6):(kw l)[i*6+j]? =(bH x.1 x.2)[j]?:=by
 induction l generalizing i with
 |nil=>simp at h
 |cons y r ih=>
  simp only [kw]
  cases i with
  |zero=>
   simp only [getElem?_cons_zero,Option.some.injEq]at h;subst h;rw [getElem?_append_left (by simp [bH];omega)]
   congr 1;omega
  |succ i=>
   rw [getElem?_append_right (by simp [bH];omega),<-ih i zF]
   congr 1;simp [bH];omega

theorem aB.mono'{S S':Nat->Prop}{w:World}{e:Ex}{v:Value}(h:aB S w e v)(hS:∀b,S b->b<w.heap.size->S' b):aB S' w e v:=by
 induction h with
 |mk e a cap vs hr hc hs ih=>
  refine .mk e a cap vs hr (hc.imp id ?_) ih;rintro⟨b,off,ha,hb,hlt,hx⟩;exact⟨b,off,ha,hS b hb hlt,hlt,hx⟩
theorem aB.nil{S:Nat->Prop}{w:World}{e:Ex}(hr:jW e)(h:e.args= []):aB S w e (.slice none 0 0):=by
 have:=aB.mk (S:=S) (w:=w) e none 0 (fun _=>.slice none 0 0) hr (.inl (by simp [h])) (fun i hi=>by simp [h]at hi);simpa [h]using this

structure iZ(base:Nat)(w:World)(v:Value)(l:List (Ex × Value)):Prop where
 own:w.ownsRow base 69 6 v l.length (kw l)
 rep:∀x∈l,aB (fun b=>base<=b/\v.ownBlock≠some b) w x.1 x.2
theorem iZ.nil(base:Nat)(w:World):iZ base w (.slice none 0 0) []:=⟨World.ownsRow_nil _ _ _ _,fun _ h=>by cases h⟩
theorem jh{w w':World}{base:Nat}{e:TypeId}{size:Nat}{v:Value}{n:Nat}{xs:List Value}(h:w.ownsRow base e size v n xs)(hw:∀k,base<=k->k<w.heap.size->w'.heap[k]? =w.heap[k]?):w'.ownsRow base e size v n xs:=by
 obtain⟨h1,h2⟩:=h;refine⟨h1,h2.imp id ?_⟩;rintro⟨g,cap,cur,hv,hb,hg,r⟩;have hlt:g<w.heap.size:=(Array.getElem?_eq_some_iff.1 hg).1;exact⟨g,cap,cur,hv,hb,by rw [hw g hb hlt];exact hg,r⟩
theorem iZ.keep{base:Nat}{w w':World}{v:Value}{l:List (Ex × Value)}(h:iZ base w v l)(hsz:w.heap.size<=w'.heap.size)(hw:∀k,base<=k->k<w.heap.size->w'.heap[k]? =w.heap[k]?):iZ base w' v l:=
 ⟨jh h.own hw,fun x hx=>(h.rep x hx).keep hsz fun b o hb hlt=>World.cell?_of_block (hw b hb.1 hlt)⟩
theorem iZ.lt{base:Nat}{w:World}{v:Value}{l:List (Ex × Value)}(h:iZ base w v l):∀k,v.ownBlock=some k->base<=k/\k<w.heap.size:=h.own.lt
theorem iZ.push{base m:Nat}{w w':World}{v:Value}{l:List (Ex × Value)}{e:Ex}{ve:Value}{g cap H n:Nat}{xs:List Value}(h:iZ base w v l)(he:aB (fun b=>m<=b) w e ve)(hm:base<=m)(hv:∀k,v.ownBlock=some k->k<m)
 (hn:n=l.length+1) (hxs:xs=kw l++bH e ve)
 (ho:w'.ownsRow base 69 6 (.slice (some ⟨g,0,none⟩) n cap) n xs) (hg:w.grownBy w' v.ownBlock) (hat:v.ownBlock=some g\/g=H) (hH:w.heap.size=H) :
 iZ base w' (.slice (some ⟨g,0,none⟩) n cap) (l++[(e,ve)]):=by
 subst hH hn hxs;refine⟨by rw [length_append,vP];simpa [kw]using ho, ?_⟩
 have key:∀(e':Ex) (u:Value),aB (fun b=>base<=b/\v.ownBlock≠some b) w e' u->aB (fun b=>base<=b/\(Value.slice (some ⟨g,0,none⟩) (l.length+1) cap).ownBlock≠some b) w' e' u:=by
  exact RS
 intro x hx;rw [mem_append]at hx;rcases hx with hx|hx
 ·exact key _ _ (h.rep x hx)
 ·obtain rfl:x=(e,ve):=by simpa using hx
  exact key _ _ (he.mono fun b hb=>⟨by omega,fun e=>by have:=hv b e;omega⟩)
theorem addr_add(g i:Nat):(⟨g,0,none⟩:Addr).add i=⟨g,i,none⟩:=by unfold Addr.add;split<;>simp_all
theorem iZ.repE{base:Nat}{w:World}{v:Value}{l:List (Ex × Value)}{e:Ex}(h:iZ base w v l)(hr:jW e)(he:e.args=l.map (·.1)):aB (fun b=>base<=b) w e v:=by
 have hlen:e.args.length=l.length:=by rw [he,length_map]
 have hget:∀i,i<l.length->l[i]? =some (e.arg i,(l.getD i default).2):=by
  intro i hi
  have h1:e.arg i=(l.getD i default).1:=by
   unfold Ex.arg;rw [he,getD_eq_getElem?_getD,getElem?_map,getD_eq_getElem?_getD,getElem?_eq_getElem hi];rfl
  rw [h1,getElem?_eq_getElem hi,getD_eq_getElem?_getD,getElem?_eq_getElem hi];rfl
 have hrep:∀i,i<l.length->aB (fun b=>base<=b) w (e.arg i) (l.getD i default).2:=fun i hi=>
  (h.rep _ (List.mem_of_getElem? (hget i hi))).mono fun b hb=>hb.1
 rcases h.own.2 with ⟨rfl,h0⟩|⟨g,cap,cur,rfl,hb,hg,_⟩
 ·have:=aB.mk (S:=fun b=>base<=b) (w:=w) e none 0 (fun i=>(l.getD i default).2) hr (.inl ze) (fun i hi=>hrep i ze);rw [hlen,h0]at this;exact this
 ·have hlt:g<w.heap.size:=(Array.getElem?_eq_some_iff.1 hg).1
  have hcell:∀i,i<l.length->∀j u,j<6->(bH (e.arg i) (l.getD i default).2)[j]? =some u->w.cell? ⟨g,i*6+j,none⟩=some u:=by
   intro i hi j u hj hu;have:=World.ownsRow.cells (g:=g) h.own rfl (i*6+j) u (by rw [Fe l i j _ (hget i hi) hj];exact hu);rw [addr_add]at this;exact this
  have:=aB.mk (S:=fun b=>base<=b) (w:=w) e (some ⟨g,0,none⟩) cap (fun i=>(l.getD i default).2) hr (.inr ⟨g,0,rfl,hb,hlt,fun i hi=>by
   have hi':i<l.length:=by omega
   have e0:∀j,0+i*6+j=i*6+j:=fun j=>by omega
   exact⟨by rw [show 0+i*6=i*6+0 by omega];exact hcell i hi' 0 _ ze rfl,by rw [e0];exact hcell i hi' 1 _ ze rfl,by rw [e0];exact hcell i hi' 2 _ ze rfl,
    by rw [e0];exact hcell i hi' 3 _ ze rfl,by rw [e0];exact hcell i hi' 4 _ ze rfl,by rw [e0];exact hcell i hi' 5 _ ze rfl⟩⟩) (fun i hi=>hrep i ze)
  rw [hlen]at this;exact this

def bQ(l:List UInt8):Int:=
 if l= [97,103,101]\/l= [121,101,97,114]\/l= [99,104,105,108,100,114,101,110]then 2
 else if l= [105,110,115,117,114,101,100]\/l= [119,111,114,107,101,100]\/l= [118,111,108,117,110,116,97,114,121]\/l= [115,101,114,118,105,99,101]\/l= [101,113,117,97,116,101,100]\/l= [114,97,105,115,105,110,103]\/l= [114,101,115,105,100,101,110,116]then 3
 else if l= [98,97,115,101]then 4 else 0
theorem Ho{a b:Int}{p q:Bool}(h:a=b)(g:p=q):Ending.returned (.tuple #[.int .i64 a,.bool p])= .returned (.tuple #[.int .i64 b,.bool q]):=by rw [h,g]
theorem gJ(s:ByteArray)(w:World):Calls prog 55 #[.string s] w fun e w'=>e= .returned (.tuple #[.int .i64 (bQ s.toList),.bool (decide (bQ s.toList≠0))])/\w=w':=by
 go_enter func55,ntmps55
 exact RA
def OU:Array Value:=#[.string ⟨#[97,103,101]⟩,.string ⟨#[121,101,97,114]⟩,.string ⟨#[99,104,105,108,100,114,101,110]⟩,.string ⟨#[105,110,115,117,114,101,100]⟩,.string ⟨#[119,111,114,107,101,100]⟩,.string ⟨#[118,111,108,117,110,116,97,114,121]⟩,.string ⟨#[115,101,114,118,105,99,101]⟩,.string ⟨#[101,113,117,97,116,101,100]⟩,.string ⟨#[114,97,105,115,105,110,103]⟩,.string ⟨#[114,101,115,105,100,101,110,116]⟩,.string ⟨#[98,97,115,101]⟩]
def lG(k:Nat):ByteArray:=(inpN.getD k (ByteArray.empty,0)).1
theorem Cc(k:Nat)(h:k<11):OU[k]? =some (.string (lG k)):=by
 obtain rfl|rfl|rfl|rfl|rfl|rfl|rfl|rfl|rfl|rfl|rfl:k=0\/k=1\/k=2\/k=3\/k=4\/k=5\/k=6\/k=7\/k=8\/k=9\/k=10:=by omega
 all_goals rfl
theorem Lp(k:Nat)(h:k<11):bQ (lG k).toList=(inpN.getD k (ByteArray.empty,0)).2:=by
 obtain rfl|rfl|rfl|rfl|rfl|rfl|rfl|rfl|rfl|rfl|rfl:k=0\/k=1\/k=2\/k=3\/k=4\/k=5\/k=6\/k=7\/k=8\/k=9\/k=10:=by omega
 all_goals decide+kernel
theorem oW(l:List (ByteArray × Int))(k:Nat)(dim:Int)(h:k<l.length) :
 bR (l.take (k+1)) dim=bR (l.take k) dim++if(l.getD k (ByteArray.empty,0)).2=dim then [(l.getD k (ByteArray.empty,0)).1]else []:=by
 rw [take_succ_eq_append_getElem h,uo,getD_eq_getElem?_getD,getElem?_eq_getElem h]
 congr 1
 simp only [bR,Option.getD_some];by_cases c:l[k].2=dim<;>simp [c]
theorem xR(w:World):Calls prog 69 #[] w fun e w'=>e= .returned (.slice (some ⟨w.heap.size,0,none⟩) 11 11)/\w.alloc (.cells OU 9)=w':=by
 go_enter func69,ntmps69
 go_wp2
 go_returns
 exact⟨rfl,rfl⟩

theorem F7:(prog.info? 9).map (fun i=>(i.zero,i.size,i.bytes))=some (some (.string ⟨#[]⟩),1,16):=by kernel_rfl
def jO(base:Nat)(w:World)(v:Value)(l:List ByteArray):Prop:=w.ownsRow base 9 1 v l.length (l.map Value.string)
def PV(dim:Int)(w:World)(e:Ending)(w':World):Prop:=∃v,e= .returned v/\jO w.heap.size w' v (bR inpN dim)/\w.Grows w'
theorem jO.push{base:Nat}{w:World}{v:Value}{l:List ByteArray}{s:ByteArray}{n:Nat}{xs:List Value}(h:w.ownsRow base 9 1 v n xs)(hn:n=l.length+1)(hx:xs=l.map Value.string++[.string s]):jO base w v (l++[s]):=by
 subst hn hx;unfold jO;simpa using h
theorem BG(w:World)(u:Value):∀(j:Nat) (v:Value),[u][j]? =some v->(w.alloc (.cells #[u] 9)).cell? ((⟨w.heap.size,0,none⟩:Addr).add j)=some v:=by
 intro j v hj
 match j,hj with
 |0,hj=>
  simp at hj;subst hj;rw [addr_add,World.cell?_alloc_at _ _ _ _ rfl];rfl
theorem kV{w:World}{base base':Nat}{e:TypeId}{size:Nat}{v:Value}{n:Nat}{xs:List Value}(h:w.ownsRow base e size v n xs)(hb:base'<=base):w.ownsRow base' e size v n xs:=by
 obtain⟨h1,h2⟩:=h;refine⟨h1,h2.imp id ?_⟩;rintro⟨g,cap,cur,hv,hg,r⟩;exact⟨g,cap,cur,hv,by omega,r⟩
theorem EF(dim:Int)(w:World):Calls prog 51 #[.int .i64 dim] w (PV dim w):=by
 obtain⟨i0,hi,hz0,hz1,hz2⟩:=info_parts F7;have hN:inpN.length=11:=rfl
 go_enter func51,ntmps51
 go_wp2_with (go_at_call 69;refine gw (xR _) ?_)
 go_loopw [4,5] (fun v4 v5 wr=>∃k:Nat,k<=11/\v5= .int .i64 k/\jO (w.heap.size+1) wr v4 (bR (inpN.take k) dim)/\Below (w.heap.size+1) (w.alloc (.cells OU 9)) wr) (fun _ v5 _=>11-(intOf v5).toNat)
 case atStart=>exact⟨0,by omega,rfl,World.ownsRow_nil _ _ _ _,.refl _ _⟩
 case round=>
  obtain⟨k,hk,rfl,hown,hbel⟩:=hrel;have Hown:=yq hown;have Hbel:=yq hbel;have hsz:w.heap.size+1<=wr.heap.size:=by have:=hbel.size;simpa using this
  clear hown;by_cases hlt:k<11
  ·have hc:wr.cell? ⟨w.heap.size,k,none⟩=some (.string (lG k)):=by
    rw [hbel.cell zg,World.cell?_alloc_at _ _ _ _ rfl];exact Cc k hlt
   have hlt1:(k:Int)<11:=by omega
   have hd0:=Lp k hlt;generalize hx:bQ (lG k).toList=x at hd0;have HX:=yq hx;clear hx;have HT:=yq (oW inpN k dim ze);have HL:=yq (nT (inpN.take k) dim);clear hbel;by_cases hd:x=dim
   ·have HD:=yq (hd0.symm.trans hd);clear hd0
    go_wp2_with (first
     |(go_at_call 55;refine gw (gJ _ _) ?_;simp only [HX.out])
     |(at_builtin;refine wpList_append_own _ rfl _ _ 129 rfl (w.heap.size+1) 9 i0 (.string ⟨#[]⟩) 1 16 underlying129 hi hz0 hz1 hz2 rfl zo _ _ _ rfl (World.ownsRow.alloc Hown.out _) ⟨wr.heap.size,0,none⟩ 1 1 [.string (lG k)] rfl rfl ?c1 ?c2 ?c3 ?c4 ?c5 ?_))
    case c1=>exact BG _ _
    case c2=>intro u hu;simp at hu;subst hu;rfl
    case c3=>have:=HL.out;have h:=length_take_le k inpN;unfold maxLen;omega
    case c4=>have:=HL.out;have h:=length_take_le k inpN;omega
    case c5=>simp;omega
    intro v' w1 hown' hgrow _;have B1:=yq ((Hbel.out.alloc (by simpa using hsz) _).grown hgrow zp (fun k hk=>(Hown.out.lt k hk).1));have H1:=yq (jO.push (s:=lG k) (l:=bR (inpN.take k) dim) hown' rfl zg);clear hown' hgrow
    go_wp2
    go_roundw
    case rel=>exact⟨k+1,by omega,by go_num,by rw [HT.out,if_pos HD.out];exact H1.out,B1.out⟩
    case measure=>simp [intOf];omega
   ·have HD:=yq (fun h=>hd (hd0.trans h));have hd1:(x==dim)=false:=by simpa using hd
    clear hd0
    go_wp2_with (go_at_call 55;refine gw (gJ _ _) ?_;simp only [HX.out])
    go_roundw
    case rel=>exact⟨k+1,by omega,by go_num,by rw [HT.out,if_neg HD.out,append_nil];exact Hown.out,Hbel.out⟩
    case measure=>simp [intOf];omega
  ·obtain rfl:k=11:=by omega
   go_wp2
   go_returns
   exact⟨_,rfl,kV Hown.out ze,.of_below ((((Below.refl _ _).alloc (Nat.le_refl _) _)).trans (Hbel.out.mono ze))⟩
structure Next(g:Nat)(a b:World):Prop where
 size:a.heap.size<=b.heap.size
 blk:∀k,k<a.heap.size->k≠g->b.heap[k]? =a.heap[k]?
section
variable {g : Nat} {a b c : World}
theorem Next.refl(g:Nat)(a:World):Next g a a:=⟨Nat.le_refl _,fun _ _ _=>rfl⟩
theorem Next.alloc(h:Next g a b)(o:Obj):Next g a (b.alloc o):=⟨by have:=h.size;simp;omega,fun k hk hg=>(Below.heap_alloc b o k (Nat.lt_of_lt_of_le hk h.size)).trans (h.blk k hk hg)⟩
theorem Next.grow(h:Next g a b)(bs:Array Obj)(d:Nat):Next g a (b.grow bs d):=⟨by have:=h.size;simp;omega,fun k hk hg=>(World.heap_grow _ _ _ (Nat.lt_of_lt_of_le hk h.size)).trans (h.blk k hk hg)⟩
theorem Next.drewN(h:Next g a b)(n:Nat):Next g a (b.drewN n):=⟨h.size,h.blk⟩
theorem Next.drew(h:Next g a b):Next g a b.drew:=⟨h.size,h.blk⟩
theorem Next.grown{row:Option Nat}(h:Next g a b)(hg:b.grownBy c row)(hr:∀k,row=some k->a.heap.size<=k):Next g a c:=
 ⟨Nat.le_trans h.size hg.size,fun k hk hgk=>(hg.block k (Nat.lt_of_lt_of_le hk h.size) fun e=>by have:=hr k e.symm;omega).trans (h.blk k hk hgk)⟩
theorem Next.store(h:Next g a b)(i:Nat)(v:Value):Next g a (b.setCell ⟨g,i,none⟩ v):=⟨by have:=h.size;simp;omega,fun k hk hgk=>(Below.heap_setCell _ _ _ _ hgk).trans (h.blk k hk hgk)⟩
end
def KM(cs:Array Value)(o:Nat):List Value->Array Value
 | []=>cs
 |v::vs=>KM (cs.setIfInBounds o v) (o+1) vs
theorem dh{b:Nat}{t:TypeId}:∀(vs:List Value) (o:Nat) (w:World) (cs:Array Value),w.heap[b]? =some (.cells cs t (0,0))->(w.setCells b o vs).heap[b]? =some (.cells (KM cs o vs) t (0,0))
 | [],_,_,_,h=>h
 |v::vs,o,_,_,h=>dh vs (o+1) _ _ (Joins.block_setCell h v)
theorem below_setCells{b B:Nat}{w0:World}(hb:B<=b):∀(vs:List Value) (o:Nat) (w:World),Below B w0 w->Below B w0 (w.setCells b o vs)
 | [],_,_,h=>h
 |v::vs,o,_,h=>below_setCells hb vs (o+1) _ (h.setCell hb v)
theorem dR{b:Nat}{w0:World}:∀(vs:List Value) (o:Nat) (w:World),Next b w0 w->Next b w0 (w.setCells b o vs)
 | [],_,_,h=>h
 |v::vs,o,_,h=>dR vs (o+1) _ (h.store o v)
theorem bP(w:World)(o:Obj)(H:Nat)(hH:w.heap.size=H):(w.alloc o).heap[H]? =some o:=by subst hH;exact heap_alloc_new w o
theorem aA(w:World)(o:Obj)(k:Nat):(w.alloc o).heap[k]? =if k=w.heap.size then some o else w.heap[k]?:=by
 split
 ·rename_i h;subst h;exact heap_alloc_new w o
 ·rename_i h
  show(w.heap.push o)[k]? =_;rw [Array.getElem?_push,if_neg h]
theorem aQ(w:World)(cs:List Value)(t:TypeId)(H:Nat)(hH:w.heap.size=H):∀(j:Nat) (v:Value),cs[j]? =some v->(w.alloc (.cells cs.toArray t)).cell? ((⟨H,0,none⟩:Addr).add j)=some v:=by
 subst hH;intro j v hj;rw [addr_add,World.cell?_alloc_at _ _ _ _ rfl];simpa using hj

def jy:ByteArray × Int:=(ByteArray.empty,0)
def aZ(w:World)(s:Nat)(v:Value)(env:List (ByteArray × Int)):Prop:=
 env.length<=1000/\(∀x∈env,x.1.size<=140737488355328)/\
 ∃a cap,v= .slice a env.length cap/\(env.length=0\/∃b off,a=some ⟨b,off,none⟩/\b<w.heap.size/\b≠s/\∀i,i<env.length->w.cell? ⟨b,off+i*2,none⟩=some (.string (env.getD i jy).1)/\w.cell? ⟨b,off+i*2+1,none⟩=some (.int .i64 (env.getD i jy).2))
theorem aZ.of_cells{w w':World}{s:Nat}{v:Value}{env:List (ByteArray × Int)}(h:aZ w s v env)(hsz:w.heap.size<=w'.heap.size)(hc:∀b o,b<w.heap.size->b≠s->w'.cell? ⟨b,o,none⟩=w.cell? ⟨b,o,none⟩):aZ w' s v env:=by
 obtain⟨h0,hn,a,cap,hv,h1⟩:=h;refine⟨h0,hn,a,cap,hv,h1.imp id ?_⟩;rintro⟨b,off,ha,hb,hbs,hcc⟩;exact⟨b,off,ha,by omega,hbs,fun i hi=>by rw [hc b _ hb hbs,hc b _ hb hbs];exact hcc i hi⟩
theorem aZ.grow{w:World}{s:Nat}{v:Value}{env:List (ByteArray × Int)}(h:aZ w s v env)(bs:Array Obj)(d:Nat):aZ (w.grow bs d) s v env:=h.of_cells zg fun b o hb _=>World.cell?_grow _ _ _ hb
theorem aZ.alloc{w:World}{s:Nat}{v:Value}{env:List (ByteArray × Int)}(h:aZ w s v env)(o:Obj):aZ (w.alloc o) s v env:=h.of_cells zg fun b i hb _=>World.cell?_alloc_lt w o ⟨b,i,none⟩ hb
theorem aZ.drewN{w:World}{s:Nat}{v:Value}{env:List (ByteArray × Int)}(h:aZ w s v env)(n:Nat):aZ (w.drewN n) s v env:=h.of_cells (Nat.le_refl _) fun _ _ _ _=>rfl
theorem aZ.src{w:World}{s:Nat}{v:Value}{env:List (ByteArray × Int)}(h:aZ w s v env)(lv':Value)(p left:Int):aZ (w.src s lv' p left) s v env:=h.of_cells zg fun _ _ _ hbs=>World.cell?_src_other hbs

def aM(s:Nat)(lv:Value)(X:World)(r:Ex × Nat × Int)(e:Ending)(w':World):Prop:=
 ∃v bs d,e= .returned (exV r.1 v)/\w'=(X.src s lv r.2.1 r.2.2).grow bs d/\aB (fun b=>X.heap.size<=b) w' r.1 v
theorem aM.of_grows{s:Nat}{lv:Value}{X:World}{r:Ex × Nat × Int}{e:Ending}{w':World}{v:Value}(he:e= .returned (exV r.1 v))(hg:(X.src s lv r.2.1 r.2.2).Grows w')(hr:aB (fun b=>X.heap.size<=b) w' r.1 v):aM s lv X r e w':=by
 obtain⟨bs,d,rfl⟩:=hg;exact⟨v,bs,d,he,rfl,hr⟩

theorem aM.of_eq{s:Nat}{lv:Value}{X:World}{r:Ex × Nat × Int}{e:Ending}{w':World}{v:Value}{E:Ex}{p':Nat}{P' l':Int}(hr:r=(E,p',l'))(hP:(p':Int)=P')(he:e= .returned (exV E v))(hg:(X.src s lv P' l').Grows w')(hrep:aB (fun b=>X.heap.size<=b) w' E v):aM s lv X r e w':=by
 subst hr hP;exact .of_grows he hg hrep
theorem OM(neg:Bool)(n d:Nat):-1000000000000000<=jZ neg n d/\jZ neg n d<=1000000000000000:=by
 unfold jZ
 split
 ·omega
 ·rename_i h
  have h1:((n / Nat.gcd n d:Nat):Int)<=1000000000000000:=by omega
  have h2:(0:Int)<=((n / Nat.gcd n d:Nat):Int):=Int.natCast_nonneg _;generalize((n / Nat.gcd n d:Nat):Int)=q at *
  split<;>omega
theorem OO(n d:Nat):0<=l8 n d/\l8 n d<=1000000000:=by
 unfold l8
 split
 ·omega
 ·rename_i h
  have h1:((d / Nat.gcd n d:Nat):Int)<=1000000000:=by omega
  have h2:(0:Int)<=((d / Nat.gcd n d:Nat):Int):=Int.natCast_nonneg _;generalize((d / Nat.gcd n d:Nat):Int)=q at *;omega
theorem QZ(n d:Int):-1000000000000000<=mkN n d/\mkN n d<=1000000000000000:=by
 unfold mkN
 split
 ·omega
 ·exact OM _ _ _
theorem Q0(n d:Int):0<=mkD n d/\mkD n d<=1000000000:=by
 unfold mkD
 split
 ·omega
 ·exact OO _ _
theorem jW.lit(n d m:Int)(hn:-1000000000000000<=n/\n<=1000000000000000)(hd:0<=d/\d<=1000000000)(hm:0<=m/\m<=100)(op:Int)(ho:0<=op/\op<=100)(s:ByteArray)(hs:s.size<=140737488355328)(l:List Ex)(hl:l.length<=140737488355328):jW (.mk op n d m s l):=
 ⟨⟨by show _<=op;omega,by show op<=_;omega⟩,⟨by show _<=n;omega,by show n<=_;omega⟩,⟨by show _<=d;omega,by show d<=_;omega⟩,⟨by show _<=m;omega,by show m<=_;omega⟩,hl,hs⟩
theorem q9{l:List (ByteArray × Int)}{dim:Int}{n:ByteArray}(h:n∈bR l dim):∃x∈l,x.1=n:=by
 unfold bR at h;rw [mem_map]at h;obtain⟨x,hx,rfl⟩:=h;exact⟨x,(mem_filter.1 hx).1,rfl⟩
theorem EH:∀x∈inpN,x.1.size<=100:=by decide+kernel
theorem vR{env:List (ByteArray × Int)}(hes:∀x∈env,x.1.size<=140737488355328)(dim:Int)(k:Nat):((aY env dim).getD k ByteArray.empty).size<=140737488355328:=by
 by_cases h:k<(aY env dim).length
 ·have hm:(aY env dim).getD k ByteArray.empty∈aY env dim:=by
   rw [getD_eq_getElem?_getD,getElem?_eq_getElem h];exact getElem_mem h
  generalize(aY env dim).getD k ByteArray.empty=n at hm;unfold aY at hm;rw [mem_append]at hm;rcases hm with hm|hm
  ·obtain⟨x,hx,rfl⟩:=q9 hm;have:=EH x hx;omega
  ·obtain⟨x,hx,rfl⟩:=q9 hm;exact hes x hx
 ·rw [getD_eq_getElem?_getD,getElem?_eq_none ze];exact Nat.zero_le _
theorem jO.form{base:Nat}{w:World}{v:Value}{l:List ByteArray}(h:jO base w v l):∃a cap,v= .slice a l.length cap/\(l.length=0\/∃g,a=some ⟨g,0,none⟩/\base<=g/\g<w.heap.size/\∀k,k<l.length->w.cell? ⟨g,k,none⟩=some (.string (l.getD k ByteArray.empty))):=by
 rcases h.2 with ⟨rfl,h0⟩|⟨g,cap,cur,rfl,hb,hg,_⟩
 ·exact⟨none,0,by rw [h0],.inl h0⟩
 ·refine⟨_,cap,rfl,.inr ⟨g,rfl,hb,(Array.getElem?_eq_some_iff.1 hg).1,fun k hk=>?_⟩⟩;have:=World.ownsRow.cells (g:=g) h rfl k (.string (l.getD k ByteArray.empty)) xb;rw [addr_add]at this;exact this
theorem vQ(env:List (ByteArray × Int))(dim:Int)(k:Nat)(h:k<env.length) :
 bR inpN dim++bR (env.take (k+1)) dim=(bR inpN dim++bR (env.take k) dim)++if(env.getD k jy).2=dim then [(env.getD k jy).1]else []:=by
 have:=oW env k dim h;unfold jy;rw [this,append_assoc]
theorem qR(env:List (ByteArray × Int))(dim:Int)(k:Nat)(h:env.length<=1000):(bR inpN dim++bR (env.take k) dim).length<=1011:=by
 have:=rR (env.take k) dim;unfold aY at this;have:=length_take_le' k env;omega
theorem EB{zs:List Int}{env:List (ByteArray × Int)}{dim:Int}{p:Nat}{left:Int}(hd:¬dim=1)(h:aJ zs p ((aY env dim).length+3)<(aY env dim).length) :
 dU zs env dim p left=(.mk 2 0 0 0 ((aY env dim).getD (aJ zs p ((aY env dim).length+3)).toNat ByteArray.empty) [],p+1,left-1):=by
 unfold dU fG;rw [if_neg hd,if_pos h]
theorem ED{zs:List Int}{env:List (ByteArray × Int)}{dim:Int}{p:Nat}{left:Int}(hd:dim=4)(h:aJ zs p ((aY env dim).length+3)=(aY env dim).length) :
 dU zs env dim p left=(.mk 3 (1+aJ zs (p+1) 5) 1 0 ByteArray.empty [],p+2,left-1):=by
 unfold dU fG;rw [if_neg ze,if_neg ze,if_pos ⟨hd,h⟩]
theorem IM{zs:List Int}{env:List (ByteArray × Int)}{dim:Int}{p:Nat}{left:Int}(hd:¬dim=1)(h:¬aJ zs p ((aY env dim).length+3)<(aY env dim).length)(h4:¬(dim=4/\aJ zs p ((aY env dim).length+3)=(aY env dim).length)) :
 dU zs env dim p left=(.mk 1 (Ia zs (p+1)) (Ib zs (p+1)) dim ByteArray.empty [],p+3,left-1):=by
 unfold dU fG;rw [if_neg hd,if_neg h,if_neg h4]

theorem OA(w:World)(u:Value)(H:Nat)(hH:w.heap.size=H):∀(j:Nat) (v:Value),[u][j]? =some v->(w.alloc (.cells #[u] 9)).cell? ((⟨H,0,none⟩:Addr).add j)=some v:=by
 subst hH;exact BG w u
theorem uF(s:Nat)(lv:Value)(zs:List Int)(p:Nat)(P left dim:Int)(ev:Value)(env:List (ByteArray × Int))(X:World)(hP:P=p)(hd0:2<=dim)(hd1:dim<=4)(hs:s<X.heap.size)(hX:X.src s lv P left=X)
 (hl:Hid (aH X s lv zs)) (he:Hid (aZ X s ev env)) (hp:p<=1000000) (hleft:-1000000<=left) (hleft2:left<=1000000) :
 Calls prog 26 #[.pointer (some ⟨s,0,none⟩),.int .i64 dim,ev] X (aM s lv X (dU zs env dim p left)):=by
 subst hP;obtain⟨i0,hi,hz0,hz1,hz2⟩:=info_parts F7;obtain⟨hen,hes,ea,ecap,rfl,hec⟩:=he.out;have Hec:=yq hec;have Hes:=yq hes;clear hec hes he;have hne:(dim==1)=false:=by simp;omega
 suffices h:Calls prog 26 #[.pointer (some ⟨s,0,none⟩),.int .i64 dim,.slice ea env.length ecap] (X.src s lv p left) (aM s lv X (dU zs env dim p left))by rw [hX]at h;exact h
 clear hX
 go_enter func26,ntmps26
 go_wp2_with (first
  |(go_at_call 51;refine(EF _ _).mono ?_;rintro e w' ⟨nv,rfl,hrow,bs,d,rfl⟩;have HROW:=yq hrow;clear hrow))
 go_loopw [8,9] (fun v8 v9 wr=>∃k:Nat,k<=env.length/\v9= .int .i64 k/\jO (X.heap.size+1) wr v8 (bR inpN dim++bR (env.take k) dim)/\World.Grows ((X.src s lv p (left-1)).alloc (.cells #[.int .i64 0,.int .i64 0,.int .i64 0,.int .i64 0,.string ⟨#[]⟩,.slice none 0 0] 69)) wr) (fun _ v9 _=>env.length-(intOf v9).toNat)
 case atStart=>exact⟨0,by omega,rfl,by have:=HROW.out;simpa [bR]using this,⟨bs,d,rfl⟩⟩
 case round=>
  clear HROW;obtain⟨k,hk,rfl,hown,bs,d,rfl⟩:=hrel;have Hown:=yq hown;clear hown;have HL:=yq (qR env dim k hen);by_cases hlt:k<env.length
  ·rcases Hec.out with h0|⟨b,off,rfl,hb,hbs,hx⟩
   ·omega
   ·obtain⟨hx0,hx1⟩:=hx k hlt;clear hx;have hlt1:(k:Int)<(env.length:Int):=by omega
    have HT:=yq (vQ env dim k hlt);generalize hn:(env.getD k jy).1=nm at *;generalize hm:(env.getD k jy).2=dm at *;clear hn hm;by_cases hd:dm=dim
    ·have HD:=yq hd
     go_wp2_with (at_builtin;refine wpList_append_own _ rfl _ _ 129 rfl (X.heap.size+1) 9 i0 (.string ⟨#[]⟩) 1 16 underlying129 hi hz0 hz1 hz2 rfl zo _ _ _ rfl (World.ownsRow.alloc Hown.out _) ⟨X.heap.size+1+bs.size,0,none⟩ 1 1 [.string nm] rfl rfl ?c1 ?c2 ?c3 ?c4 ?c5 ?_)
     case c1=>exact OA _ _ _ zg
     case c2=>intro u hu;simp at hu;subst hu;rfl
     case c3=>have:=HL.out;unfold maxLen;omega
     case c4=>have:=HL.out;omega
     case c5=>simp;omega
     intro v' w1 hown' hgrow _;have G1:=World.Grows.of_below ((((Below.refl _ _).grow (Nat.le_refl _) _ _).alloc zg _).grown hgrow zp (fun k hk=>by have:=(Hown.out.lt k hk).1;simpa using this));have G2:=yq G1;have H1:=yq (jO.push (s:=nm) (l:=bR inpN dim++bR (env.take k) dim) hown' zg zg);clear hown' hgrow G1
     go_wp2
     go_roundw
     case rel=>exact⟨k+1,by omega,by go_num,by rw [HT.out,if_pos HD.out];exact H1.out,G2.out⟩
     case measure=>simp [intOf];omega
    ·have HD:=yq hd;have hd1:(dm==dim)=false:=by simpa using hd
     go_wp2
     go_roundw
     case rel=>exact⟨k+1,by omega,by go_num,by rw [HT.out,if_neg HD.out,append_nil];exact Hown.out,⟨bs,d,rfl⟩⟩
     case measure=>simp [intOf];omega
  ·obtain rfl:k=env.length:=by omega
   have HOWN:=Hown.out;rw [take_length]at HOWN;clear HL Hown;obtain⟨na,ncap,rfl,hcell⟩:=jO.form (l:=aY env dim) HOWN;have Hcell:=yq hcell;have HOWN2:=yq HOWN;clear hcell HOWN;have hNL:=rR env dim;generalize hN:(aY env dim).length=nl at hNL ⊢;have HN:=yq hN;clear hN;have hkb:=fA zs p ((nl:Int)+3) ze;generalize hK:aJ zs p ((nl:Int)+3)=kk at hkb;have HK:=yq hK;clear hK
   go_wp2_with fail
   refine(bf s lv zs p p (left-1) _ _ rfl zp zr zu ze ze).mono ?_;rintro e w' ⟨rfl,n1,rfl⟩;rw [HK.out];by_cases c1:kk<nl
   ·rcases Hcell.out with h0|⟨g,rfl,hg0,hg1,hc⟩
    ·exfalso;rw [HN.out]at h0;omega
    ·have hcc:=hc kk.toNat (by rw [HN.out];omega);clear hc
     have hc2:(((X.src s lv ((p:Int)+1) (left-1)).alloc (.cells #[.int .i64 0,.int .i64 0,.int .i64 0,.int .i64 0,.string ⟨#[]⟩,.slice none 0 0] 69)).grow bs (d+n1)).cell? ⟨g,kk.toNat,none⟩=some (.string ((aY env dim).getD kk.toNat ByteArray.empty)):=by
      have:=World.cell?_src_other (w:=(((X.src s lv (p:Int) (left-1)).alloc (.cells #[.int .i64 0,.int .i64 0,.int .i64 0,.int .i64 0,.string ⟨#[]⟩,.slice none 0 0] 69)).grow bs d)) (s:=s) (lv:=lv) (p:=(p:Int)+1) (left:=left-1) (b:=g) (i:=kk.toNat) ze;rw [hcc]at this
      have h3:(((X.src s lv ((p:Int)+1) (left-1)).alloc (.cells #[.int .i64 0,.int .i64 0,.int .i64 0,.int .i64 0,.string ⟨#[]⟩,.slice none 0 0] 69)).grow bs d).cell? ⟨g,kk.toNat,none⟩=some (.string ((aY env dim).getD kk.toNat ByteArray.empty)):=by
       simpa [go_sem,hs]using this
      exact h3
     have HZ:=yq (vR Hes.out dim kk.toNat);have HF:=yq (EB (zs:=zs) (env:=env) (dim:=dim) (p:=p) (left:=left) ze (by rw [HN.out,HK.out];exact c1));rw [HN.out,HK.out]at HF;clear hcc hNL
     go_wp2_with fail
     go_returns
     exact aM.of_eq (v:=.slice none 0 0) (P':=(p:Int)+1) HF.out ze rfl (.of_below af) (.nil (.lit _ _ _ ze ze ze _ ze _ HZ.out _ zg) rfl)
   ·have c1b:¬kk<(nl:Int):=c1;by_cases c2:dim=4/\kk=nl
    ·obtain⟨rfl,rfl⟩:=c2;have HF:=yq (ED (zs:=zs) (env:=env) (dim:=4) (p:=p) (left:=left) rfl (by rw [HN.out,HK.out]));have hb5:=fA zs (p+1) 5 ze;generalize hV:aJ zs (p+1) 5=v5 at hb5 HF;have HV:=yq hV;clear hV hNL
     go_wp2_with fail
     refine(bf s lv zs (p+1) (p+1) (left-1) _ _ zg zp zr zu ze ze).mono ?_;rintro e w' ⟨rfl,n2,rfl⟩;rw [HV.out]
     go_wp2_with fail
     go_returns
     exact aM.of_eq (v:=.slice none 0 0) (P':=(p:Int)+1+1) HF.out ze rfl (.of_below af) (.nil (.lit _ _ _ ze ze ze _ ze _ (Nat.zero_le _) _ zg) rfl)
    ·have HF:=yq (IM (zs:=zs) (env:=env) (dim:=dim) (p:=p) (left:=left) ze (by rw [HN.out,HK.out];exact c1) (by rw [HN.out,HK.out];exact c2))
     have c4:(dim==4)=false\/dim=4/\(kk==nl)=false:=by
      by_cases h:dim=4
      ·exact .inr ⟨h,by simpa using fun e=>c2 ⟨h,e⟩⟩
      ·exact .inl zF
     clear hNL c2;rcases c4 with c4|⟨rfl,c4⟩
     all_goals
      go_wp2_with fail
      refine gvq (Ed s lv zs (p+1) (p+1) (left-1) _ zg zp zr (yq zu) ze) ?_;intro bs2 d2
      go_wp2_with fail
      go_returns
      exact aM.of_eq (v:=.slice none 0 0) (P':=(p:Int)+1+2) HF.out ze rfl (.of_below af) (.nil (.lit _ _ _ (QZ _ _) (Q0 _ _) ze _ ze _ (Nat.zero_le _) _ zg) rfl)

theorem aB.eqw{S:Nat->Prop}{w w':World}{e:Ex}{v:Value}(h:aB S w e v)(hw:w=w'):aB S w' e v:=hw ▸ h
theorem aB.src{S:Nat->Prop}{w:World}{e:Ex}{v:Value}{s:Nat}(h:aB S w e v)(hS:∀b,S b->b≠s)(lv:Value)(p left:Int):aB S (w.src s lv p left) e v:=
 h.keep zg fun _ _ hb _=>World.cell?_src_other (hS _ hb)
theorem aB.drewN{S:Nat->Prop}{w:World}{e:Ex}{v:Value}(h:aB S w e v)(n:Nat):aB S (w.drewN n) e v:=h.keep (Nat.le_refl _) fun _ _ _ _=>rfl
theorem BM(zs:List Int)(env:List (ByteArray × Int))(dim:Int)(p:Nat)(left:Int)(h:¬dim=1):dU zs env dim p left=((fG zs env p dim).1,(fG zs env p dim).2,left-1):=by
 unfold dU;rw [if_neg h]
theorem wP(s:Nat)(lv:Value)(zs:List Int)(p:Nat)(P left dim:Int)(ev:Value)(env:List (ByteArray × Int))(r:Ex × Nat)(X:World)(hP:P=p)(hd0:2<=dim)(hd1:dim<=4)(hs:s<X.heap.size)(hX:X.src s lv P left=X)
 (hl:Hid (aH X s lv zs)) (he:Hid (aZ X s ev env)) (hp:p<=1000000) (hleft:-1000000<=left) (hleft2:left<=1000000) (hr:Hid (fG zs env p dim=r)) :
 Calls prog 26 #[.pointer (some ⟨s,0,none⟩),.int .i64 dim,ev] X (aM s lv X (r.1,r.2,left-1)):=by
 have:=uF s lv zs p P left dim ev env X hP hd0 hd1 hs hX hl he hp hleft hleft2;rw [BM _ _ _ _ _ ze,hr.out]at this;exact this
theorem EC(zs:List Int)(env:List (ByteArray × Int))(p:Nat)(left:Int){r1 r2:Ex × Nat}{a c:Int}(ha:aJ zs p 3=a)(hc:aJ zs (p+1) 6=c)(h1:fG zs env (p+2) (2+a)=r1)(h2:fG zs env r1.2 (2+a)=r2) :
 dU zs env 1 p left=(.mk (11+c) 0 0 0 ByteArray.empty [r1.1,r2.1],r2.2,left-3):=by
 unfold dU;rw [if_pos rfl,ha,hc,h1,h2]
theorem aB.pair{S:Nat->Prop}{w:World}{o1 o2:Ex}{v1 v2:Value}{b:Nat}(op:Int)(ho:0<=op/\op<=100)(hS:S b)(hb:w.heap[b]? =some (.cells (bH o1 v1++bH o2 v2).toArray 69 (0,0)))(h1:aB S w o1 v1)(h2:aB S w o2 v2) :
 aB S w (.mk op 0 0 0 ByteArray.empty [o1,o2]) (.slice (some ⟨b,0,none⟩) 2 2):=by
 have hlt:b<w.heap.size:=(Array.getElem?_eq_some_iff.1 hb).1
 have hc:∀j u,(bH o1 v1++bH o2 v2)[j]? =some u->w.cell? ⟨b,j,none⟩=some u:=fun j u hu=>by
  rw [cell_of_row w b j _ _ _ hb];simpa using hu
 refine .mk (.mk op 0 0 0 ByteArray.empty [o1,o2]) (some ⟨b,0,none⟩) 2 (fun i=>if i=0 then v1 else v2) (.lit _ _ _ ze ze ze _ ho _ (Nat.zero_le _) _ zg) (.inr ⟨b,0,rfl,hS,hlt, ?_⟩) ?_
 ·intro i hi;obtain rfl|rfl:i=0\/i=1:=by have:i<2:=hi;omega
  ·exact⟨hc 0 _ rfl,hc 1 _ rfl,hc 2 _ rfl,hc 3 _ rfl,hc 4 _ rfl,hc 5 _ rfl⟩
  ·exact⟨hc 6 _ rfl,hc 7 _ rfl,hc 8 _ rfl,hc 9 _ rfl,hc 10 _ rfl,hc 11 _ rfl⟩
 ·intro i hi;obtain rfl|rfl:i=0\/i=1:=by have:i<2:=hi;omega
  ·exact h1
  ·exact h2

theorem wX{A A':World}(hsz:A'.heap.size=A.heap.size)(bs bs2:Array Obj)(d d2:Nat){b:Nat}(h1:A.heap.size<=b)(h2:b<A.heap.size+bs.size):(A'.grow (bs++bs2) d2).heap[b]? =(A.grow bs d).heap[b]?:=by
 simp only [World.grow];rw [Array.getElem?_append_right ze,Array.getElem?_append_left ze,Array.getElem?_append_right ze,hsz]
theorem aB.lift{m:Nat}{A A':World}{bs:Array Obj}{d:Nat}{e:Ex}{v:Value}(h:aB (fun b=>m<=b) (A.grow bs d) e v)(hm:A.heap.size<=m)(hsz:A'.heap.size=A.heap.size)(bs2:Array Obj)(d2:Nat):aB (fun b=>m<=b) (A'.grow (bs++bs2) d2) e v:=
 h.keep zp fun b o hb hlt=>World.cell?_of_block (wX hsz bs bs2 d d2 (Nat.le_trans hm hb) (by simpa using hlt))
theorem aB.lift0{m:Nat}{A A':World}{bs:Array Obj}{d:Nat}{e:Ex}{v:Value}(h:aB (fun b=>m<=b) (A.grow bs d) e v)(hm:A.heap.size<=m)(hsz:A'.heap.size=A.heap.size)(d2:Nat):aB (fun b=>m<=b) (A'.grow bs d2) e v:=by
 have:=h.lift (A':=A') hm hsz #[] d2;simpa using this

theorem IL(s:Nat)(lv:Value)(zs:List Int)(p:Nat)(P left:Int)(ev:Value)(env:List (ByteArray × Int))(X:World)(hP:P=p)(hs:s<X.heap.size)(hX:X.src s lv P left=X)
 (hl:Hid (aH X s lv zs)) (he:Hid (aZ X s ev env)) (hp:p<=900000) (hleft:-900000<=left) (hleft2:left<=900000) :
 Calls prog 26 #[.pointer (some ⟨s,0,none⟩),.int .i64 1,ev] X (aM s lv X (dU zs env 1 p left)):=by
 subst hP
 suffices h:Calls prog 26 #[.pointer (some ⟨s,0,none⟩),.int .i64 1,ev] (X.src s lv p left) (aM s lv X (dU zs env 1 p left))by rw [hX]at h;exact h
 clear hX;have hb1:=fA zs p 3 ze;have hb2:=fA zs (p+1) 6 ze;generalize hA:aJ zs p 3=a at hb1;have HA:=yq hA;generalize hC:aJ zs (p+1) 6=c at hb2;have HC:=yq hC;clear hA hC;have hr1:=ma zs env (p+2) (2+a);generalize hR1:fG zs env (p+2) (2+a)=r1 at hr1;have HR1:=yq hR1;clear hR1;have hr2:=ma zs env r1.2 (2+a);generalize hR2:fG zs env r1.2 (2+a)=r2 at hr2;have HR2:=yq hR2;clear hR2;obtain⟨o1,p1⟩:=r1;obtain⟨o2,p2⟩:=r2;have HF:=yq (EC zs env p left HA.out HC.out HR1.out HR2.out);simp only at hr1 hr2 HF HR2;obtain⟨hr1a,hr1b⟩:=hr1;obtain⟨hr2a,hr2b⟩:=hr2
 go_enter func26,ntmps26
 go_wp2_with fail
 refine(bf s lv zs p p (left-1) _ _ rfl zp zr zu ze ze).mono ?_;rintro e w' ⟨rfl,n1,rfl⟩;rw [HA.out]
 go_wp2_with fail
 refine(bf s lv zs (p+1) (p+1) (left-1) _ _ zg zp zr zu ze ze).mono ?_;rintro e w' ⟨rfl,n2,rfl⟩;rw [HC.out]
 go_wp2_with fail
 refine(wP s lv zs (p+2) (p+1+1) (left-1) _ _ env _ _ ze ze ze zp zr (yq zu) (yq zx) ze ze ze HR1).mono ?_;rintro e w' ⟨va,bs1,d1,rfl,rfl,hrep1⟩;have H1:=yq (hrep1.eqw (w':=((X.src s lv (p1:Int) (left-1-1)).alloc (.cells #[.int .i64 0,.int .i64 0,.int .i64 0,.int .i64 0,.string ⟨#[]⟩,.slice none 0 0] 69)).grow bs1 d1) zr);clear hrep1
 go_wp2_with fail
 refine(wP s lv zs p1 p1 (left-1-1) _ _ env _ _ ze ze ze zp zr (yq zu) (yq zx) ze ze ze HR2).mono ?_;rintro e w' ⟨vb,bs2,d2,rfl,rfl,hrep2⟩;have H2:=yq (hrep2.eqw (w':=((X.src s lv (p2:Int) (left-1-1-1)).alloc (.cells #[.int .i64 0,.int .i64 0,.int .i64 0,.int .i64 0,.string ⟨#[]⟩,.slice none 0 0] 69)).grow (bs1++bs2) d2) zr);clear hrep2
 go_wp2_with fail
 go_returns
 refine aM.of_eq (v:=.slice (some ⟨X.heap.size+1+(bs1.size+bs2.size),0,none⟩) 2 2) (P':=(p2:Int)) (l':=left-1-1-1) (HF.out.trans (by rw [show left-1-1-1=left-3 by omega])) rfl rfl (.of_below af) (.pair (v1:=va) (v2:=vb) (11+c) ze ze (bP _ _ _ zg) (((H1.out.lift ?_ ?_ bs2 d2).mono ?_).alloc _) (((H2.out.lift0 ?_ ?_ d2).mono ?_).alloc _))
 all_goals first
  |(intro b hb;simp at hb;omega)
  |(simp;done)
  |(simp;omega)
theorem kK(s:Nat)(lv:Value)(zs:List Int)(p:Nat)(P left dim:Int)(ev:Value)(env:List (ByteArray × Int))(X:World)(hP:P=p)(hd0:1<=dim)(hd1:dim<=4)(hs:s<X.heap.size)(hX:X.src s lv P left=X)
 (hl:Hid (aH X s lv zs)) (he:Hid (aZ X s ev env)) (hp:p<=900000) (hleft:-900000<=left) (hleft2:left<=900000) :
 Calls prog 26 #[.pointer (some ⟨s,0,none⟩),.int .i64 dim,ev] X (aM s lv X (dU zs env dim p left)):=by
 by_cases h:dim=1
 ·subst h;exact IL s lv zs p P left ev env X hP hs hX hl he hp hleft hleft2
 ·exact uF s lv zs p P left dim ev env X hP ze hd1 hs hX hl he ze ze ze

def cK(s:Nat)(lv ev:Value)(zs:List Int)(env:List (ByteArray × Int))(n:Nat):Prop:=
 ∀(dim:Int) (p:Nat) (P left deep:Int) (r:Ex × Nat × Int) (X:World),Hid (aP zs env n dim p left=r)->P=p->deep=6-n->1<=dim->dim<=4->s<X.heap.size->X.src s lv P left=X->Hid (aH X s lv zs)->Hid (aZ X s ev env)->p+aO n<=900000->-900000<=left-aO n->left<=900000->
  Calls prog 24 #[.pointer (some ⟨s,0,none⟩),.int .i64 dim,.int .i64 deep,ev] X (aM s lv X r)
theorem cK.call{s:Nat}{lv ev:Value}{zs:List Int}{env:List (ByteArray × Int)}{n:Nat}(h:cK s lv ev zs env n)(dim:Int)(p:Nat)(P left deep:Int)(r:Ex × Nat × Int)(X:World)(hr:Hid (aP zs env n dim p left=r))(hP:P=p)(hd:deep=6-n)(h1:1<=dim)(h4:dim<=4)(hs:s<X.heap.size)(hX:X.src s lv P left=X)
 (hl:Hid (aH X s lv zs)) (he:Hid (aZ X s ev env)) (b1:p+aO n<=900000) (b2:-900000<=left-aO n) (b3:left<=900000) :
 Calls prog 24 #[.pointer (some ⟨s,0,none⟩),.int .i64 dim,.int .i64 deep,ev] X (aM s lv X r):=h dim p P left deep r X hr hP hd h1 h4 hs hX hl he b1 b2 b3
theorem Lr:(prog.info? 69).map (fun i=>(i.zero,i.size,i.bytes))=some (some (.agg #[.int .i64 0,.int .i64 0,.int .i64 0,.int .i64 0,.string ⟨#[]⟩,.slice none 0 0]),6,72):=by kernel_rfl
theorem jJ(e:Ex)(v:Value)(hv:v.oneCell'=true):∀u∈bH e v,u.oneCell'=true:=by
 intro u hu;simp only [bH,mem_cons,not_mem_nil,or_false]at hu;rcases hu with rfl|rfl|rfl|rfl|rfl|rfl;all_goals first|rfl|exact hv
theorem aB.one{S:Nat->Prop}{w:World}{e:Ex}{v:Value}(h:aB S w e v):v.oneCell'=true:=by cases h;rfl

theorem World.grow_self(w:World):w=w.grow #[] w.drawn:=by simp [World.grow]
theorem iZ.lift{m:Nat}{A A':World}{bs:Array Obj}{d:Nat}{v:Value}{l:List (Ex × Value)}(h:iZ m (A.grow bs d) v l)(hm:A.heap.size<=m)(hsz:A'.heap.size=A.heap.size)(bs2:Array Obj)(d2:Nat):iZ m (A'.grow (bs++bs2) d2) v l:=
 h.keep zp fun k hk hlt=>wX hsz bs bs2 d d2 (Nat.le_trans hm hk) (by simpa using hlt)
theorem iZ.lift0{m:Nat}{A A':World}{bs:Array Obj}{d:Nat}{v:Value}{l:List (Ex × Value)}(h:iZ m (A.grow bs d) v l)(hm:A.heap.size<=m)(hsz:A'.heap.size=A.heap.size)(d2:Nat):iZ m (A'.grow bs d2) v l:=by
 have:=h.lift (A':=A') hm hsz #[] d2;simpa using this
theorem iZ.alloc{m:Nat}{w:World}{v:Value}{l:List (Ex × Value)}(h:iZ m w v l)(o:Obj):iZ m (w.alloc o) v l:=
 h.keep zg fun k _ hlt=>Below.heap_alloc w o k hlt
theorem iZ.form{m:Nat}{w:World}{v:Value}{l:List (Ex × Value)}(h:iZ m w v l):∃a cap,v= .slice a l.length cap:=by
 exact Rn
theorem Ee(E:Int->Nat->Int->Ex × Nat × Int)(ds:List Int)(k:Nat)(h:k<ds.length)(p:Nat)(left:Int){l:List Ex}{pk:Nat}{lk:Int}{e:Ex}{pk':Nat}{lk':Int}(hn:bM E (ds.take k) p left=(l,pk,lk))(he:E (ds.getD k 0) pk lk=(e,pk',lk')) :
 bM E (ds.take (k+1)) p left=(l++[e],pk',lk'):=by
 have hg:ds[k]=ds.getD k 0:=by rw [getD_eq_getElem?_getD,getElem?_eq_getElem h];rfl
 rw [take_succ_eq_append_getElem h,Ef,hn,hg];simp only [he]
theorem vJ(zs:List Int)(env:List (ByteArray × Int))(n:Nat)(ds:List Int)(k:Nat)(hk:k<=3)(p:Nat)(left:Int){l:List Ex}{pk:Nat}{lk:Int}(hn:bM (aP zs env n) (ds.take k) p left=(l,pk,lk)) :
 pk<=p+k*aO n/\left-(k*aO n:Nat)<=lk/\lk<=left:=by
 have:=BF (aP zs env n) (aO n) (uS zs env n) (ds.take k) p left;rw [hn]at this;have h2:(ds.take k).length*aO n<=k*aO n:=Nat.mul_le_mul_right _ (length_take_le k ds);simp only at this;omega

theorem KZ(s:Nat)(lv ev:Value)(zs:List Int)(env:List (ByteArray × Int))(n:Nat)(IH:Hid (cK s lv ev zs env n))(op deep:Int)(ds:List Int)(db:Nat)(p:Nat)(P left:Int)(X:World)(hP:P=p)(hn:n<=5)(hdeep:deep+1=6-n)(hop:0<=op/\op<=100)
 (hs:s<X.heap.size) (hX:X.src s lv P left=X) (hl:Hid (aH X s lv zs)) (he:Hid (aZ X s ev env)) (hp:p+3*aO n<=900000) (hleft:-900000<=left-3*aO n) (hleft2:left<=900000)
 (hdl:ds.length<=3) (hdb:db<X.heap.size) (hdbs:db≠s) (hdr:Hid (∀i,i<ds.length->1<=ds.getD i 0/\ds.getD i 0<=4)) (hdc:Hid (∀i,i<ds.length->X.cell? ⟨db,i,none⟩=some (.int .i64 (ds.getD i 0)))) :
 Calls prog 47 #[.pointer (some ⟨s,0,none⟩),.int .i64 op,.int .i64 deep,ev,.slice (some ⟨db,0,none⟩) ds.length ds.length] X
  (aM s lv X (.mk op 0 0 0 ByteArray.empty (bM (aP zs env n) ds p left).1,(bM (aP zs env n) ds p left).2)):=by
 subst hP;obtain⟨i0,hi,hz0,hz1,hz2⟩:=info_parts Lr
 suffices h:Calls prog 47 #[.pointer (some ⟨s,0,none⟩),.int .i64 op,.int .i64 deep,ev,.slice (some ⟨db,0,none⟩) ds.length ds.length] (X.src s lv p left) (aM s lv X (.mk op 0 0 0 ByteArray.empty (bM (aP zs env n) ds p left).1,(bM (aP zs env n) ds p left).2))by rw [hX]at h;exact h
 clear hX
 go_enter func47,ntmps47
 go_wp2_with fail
 go_loopw [12] (fun v12 wr=>∃k:Nat,∃l:List (Ex × Value),∃pk:Nat,∃lk:Int,∃va:Value,∃bs d,k<=ds.length/\v12= .int .i64 k/\Hid (bM (aP zs env n) (ds.take k) p left=(l.map (·.1),pk,lk))/\l.length=k/\
  wr=(((X.src s lv pk lk).alloc ((.cells #[.int .i64 0,.int .i64 0,.int .i64 0,.int .i64 0,.string ⟨#[]⟩,.slice none 0 0] 69))).alloc ((.cells #[.int .i64 op,.int .i64 0,.int .i64 0,.int .i64 0,.string ⟨#[]⟩,va] 69))).grow bs d/\iZ (X.heap.size+2) wr va l) (fun v12 _=>ds.length-(intOf v12).toNat)
 case atStart=>exact⟨0,[],p,left,.slice none 0 0,#[],_,by omega,rfl,yq rfl,rfl,World.grow_self _,.nil _ _⟩
 case round=>
  obtain⟨k,l,pk,lk,va,bs,d,hk,rfl,HN,hll,rfl,hrow⟩:=hrel;have hb:=vJ zs env n ds k ze p left HN.out;have hk3:k*aO n<=3*aO n:=Nat.mul_le_mul_right _ ze;have hc8:=df n;by_cases hlt:k<ds.length
  ·have hk2:k*aO n+aO n<=3*aO n:=by have:=Nat.mul_le_mul_right (aO n) (show k+1<=3 by omega);rw [Nat.add_mul,Nat.one_mul]at this;exact this
   have hd:=hdr.out k hlt;have hcell:=hdc.out k hlt;have hlt1:(k:Int)<(ds.length:Int):=by omega
   generalize hdk:ds.getD k 0=dk at hd hcell;have HDK:=yq hdk;clear hdk;have hrb:=uS zs env n dk pk lk;generalize hR:aP zs env n dk pk lk=r at hrb;have HR:=yq hR;clear hR;obtain⟨e,pk',lk'⟩:=r;have HN2:=yq (Ee (aP zs env n) ds k hlt p left HN.out (by rw [HDK.out,HR.out]));have b1:pk+aO n<=900000:=by omega
   have b2:-900000<=lk-aO n:=by omega
   have b3:lk<=900000:=by omega
   clear hb hk3 hc8 hk2 hrb;have HROW:=yq hrow;have hvb:=hrow.lt;have HVB:=yq hvb;clear hrow hvb
   go_wp2_with fail
   refine(cK.call IH.out dk pk pk lk (6-(n:Int)) _ _ HR rfl rfl hd.1 hd.2 zp zr (yq zu) (yq zx) b1 b2 b3).mono ?_;rintro e' w' ⟨ve,bs2,d2,rfl,rfl,hrep⟩;have H1:=yq (hrep.eqw (w':=(((X.src s lv (pk':Int) lk').alloc ((.cells #[.int .i64 0,.int .i64 0,.int .i64 0,.int .i64 0,.string ⟨#[]⟩,.slice none 0 0] 69))).alloc ((.cells #[.int .i64 op,.int .i64 0,.int .i64 0,.int .i64 0,.string ⟨#[]⟩,va] 69))).grow (bs++bs2) d2) zr);have HO:=yq (hrep.one);clear hrep;have HROW1:=yq (HROW.out.lift (A':=((X.src s lv (pk':Int) lk').alloc ((.cells #[.int .i64 0,.int .i64 0,.int .i64 0,.int .i64 0,.string ⟨#[]⟩,.slice none 0 0] 69))).alloc ((.cells #[.int .i64 op,.int .i64 0,.int .i64 0,.int .i64 0,.string ⟨#[]⟩,va] 69))) zg zg bs2 d2);clear HROW
   go_wp2_with (at_builtin;refine wpList_append_lies _ rfl _ _ 67 rfl (X.heap.size+2) 69 i0 _ 6 72 underlying67 hi hz0 hz1 hz2 rfl zo _ _ _ rfl (HROW1.out.alloc _).own ⟨X.heap.size+2+(bs.size+bs2.size),0,none⟩ 1 1 (bH e ve) rfl rfl ?c1 ?c2 zo ?c3 ?c4 ?c5 (X.heap.size+2+(bs.size+bs2.size)+1) zg ?_)
   case c1=>exact aQ _ (bH e ve) _ _ zg
   case c2=>exact jJ _ _ HO.out
   case c3=>unfold maxLen;omega
   case c4=>omega
   case c5=>simp;omega
   intro g cap w1 hown' hgrow hat hlt';have R1:=iZ.push (HROW1.out.alloc _) (((H1.out.mono (S':=fun b=>X.heap.size+2+bs.size<=b) (fun b hb=>by simpa [Nat.add_assoc]using hb)).alloc _)) ze (fun j hj=>by have:=(HVB.out j hj).2;simpa using this) ze rfl hown' hgrow hat zg;have G1:=World.Grows.of_below (w:=((X.src s lv (pk':Int) lk').alloc ((.cells #[.int .i64 0,.int .i64 0,.int .i64 0,.int .i64 0,.string ⟨#[]⟩,.slice none 0 0] 69))).alloc ((.cells #[.int .i64 op,.int .i64 0,.int .i64 0,.int .i64 0,.string ⟨#[]⟩,va] 69))) ((((Below.refl _ _).grow (Nat.le_refl _) _ _).alloc zg _).grown hgrow zp (fun j hj=>by have:=(HROW1.out.lt j hj).1;simpa using this));clear hown' hgrow hat hlt' HVB HROW1 H1 HO;obtain⟨bs3,d3,rfl⟩:=G1;have R2:=yq R1;clear R1
   go_wp2_with fail
   go_roundw
   case rel=>exact⟨k+1,l++[(e,ve)],pk',lk',_,bs3,d3,by omega,by go_num,yq (by rw [HN2.out,map_append];rfl),by simp;omega,rfl,R2.out.lift0 zg zg d3⟩
   case measure=>simp [intOf];omega
  ·obtain rfl:k=ds.length:=by omega
   have HN2:=HN.out;rw [take_length]at HN2;have HROW:=yq hrow;have HN3:=yq HN2;obtain⟨aa,acap,rfl⟩:=hrow.form;clear hrow HN2 HN hb hk3 hc8
   go_wp2_with fail
   go_returns
   refine aM.of_eq (P':=(pk:Int)) (by rw [HN3.out]) rfl rfl (.of_below af) ?_;have R3:=(HROW.out.lift0 (A':=((X.src s lv (pk:Int) lk).alloc (.cells #[.int .i64 op,.int .i64 0,.int .i64 0,.int .i64 0,.string ⟨#[]⟩,.slice aa l.length acap] 69)).alloc (.cells #[.int .i64 op,.int .i64 0,.int .i64 0,.int .i64 0,.string ⟨#[]⟩,.slice aa l.length acap] 69)) zg zg d).repE (e:=.mk op 0 0 0 ByteArray.empty (l.map (·.1))) (.lit _ _ _ ze ze ze _ hop _ (Nat.zero_le _) _ (by rw [length_map];omega)) rfl;rw [hll]at R3;exact R3.mono fun b hb=>by show X.heap.size<=b;omega
end Go.Proofs.YtcfpoofhokbhlaaGreatDoor
