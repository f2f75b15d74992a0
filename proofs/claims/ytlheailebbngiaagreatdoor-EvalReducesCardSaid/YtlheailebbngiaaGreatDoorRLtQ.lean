import Derived.Test.YtlheailebbngiaaGreatDoorRUsR
import Derived.Test.YtlheailebbngiaaGreatDoorRStpP
set_option linter.all false
set_option maxHeartbeats 16000000
set_option maxRecDepth 1000000
namespace Go.Proofs.YtlheailebbngiaaGreatDoor
open Go.Proofs.Tryz List
open Go.RowKit
def sS(ls:List (ByteArray × Ex)):Prop:=∀t∈ls,t.1.size<=140737488355328/\t.2.size<=1000000
def lF(r:List (ByteArray × Int) × Int)(w:World)(e:Ending)(w':World):Prop:=∃x,e= .returned (.tuple #[x,.int .i64 r.2])/\w.Grows w'/\aW w' x r.1
theorem lF.bad{r:List (ByteArray × Int) × Int}{c:Int}{w w':World}(h:r=([],c))(hg:w.Grows w'):lF r w (.returned (.tuple #[.slice none 0 0,.int .i64 c])) w':=by
 subst h;exact⟨_,rfl,hg,by simp,none,0,rfl,.inl rfl⟩
theorem rD{env:List (ByteArray × Int)}{s:ByteArray}{e:Ex}(h:bV s.toList≠0\/fe s=false):fZ env (s,e)=5:=by unfold fZ;rw [if_pos h]
theorem uz{env:List (ByteArray × Int)}{s:ByteArray}{e:Ex}(h:bV s.toList=0)(h2:fe s=true)(h3:env.any (fun p=>decide (p.1=s))=true):fZ env (s,e)=10:=by
 unfold fZ;rw [if_neg (by rw [h2];simp [h]),if_pos h3]
theorem uy{env:List (ByteArray × Int)}{s:ByteArray}{e:Ex}(h:bV s.toList=0)(h2:fe s=true)(h3:env.any (fun p=>decide (p.1=s))=false):fZ env (s,e)=(aT env e).2:=by
 unfold fZ;rw [if_neg (by rw [h2];simp [h]),if_neg (by rw [h3];simp)]
theorem fD{α:Type}[Inhabited α]{l:List α}{k:Nat}(h:k<l.length):l.getD k default∈l:=by
 rw [getD_eq_getElem?_getD,getElem?_eq_getElem h];exact getElem_mem h
theorem tT{k:Nat}{p:Nat->Bool}(h:∀j,j<k->p j=false):(List.range k).any p=false:=by
 rw [Bool.eq_false_iff];intro hc;obtain⟨j,hj,hp⟩:=any_eq_true.1 hc;rw [h j (mem_range.1 hj)]at hp;cases hp
theorem tQ{k:Nat}{p:Nat->Bool}(j:Nat)(h:j<k)(hp:p j=true):(List.range k).any p=true:=any_eq_true.2 ⟨j,mem_range.2 h,hp⟩
theorem Qt(env:List (ByteArray × Int))(s:ByteArray):((List.range env.length).any fun k=>decide (bdN env k=s))=env.any fun p=>decide (p.1=s):=by
 rw [Bool.eq_iff_iff,any_eq_true,any_eq_true];constructor
 ·rintro⟨k,hk,hp⟩;have hk:=mem_range.1 hk;refine⟨env[k],getElem_mem hk, ?_⟩;unfold bdN at hp;simpa [getD_eq_getElem?_getD,getElem?_eq_getElem hk]using hp
 ·rintro⟨p,hp,hs⟩;obtain⟨k,hk,rfl⟩:=mem_iff_getElem.1 hp;refine⟨k,mem_range.2 hk, ?_⟩;unfold bdN;simpa [getD_eq_getElem?_getD,getElem?_eq_getElem hk]using hs
theorem Dz(s:ByteArray):cZ (.mk 2 0 0 0 s [])=fe s:=by
 unfold cZ;rw [eX];simp [Ex.depth,Ex.depths,Ex.size,Ex.sizes,Ex.args,Ex.op,Ex.num,Ex.den,Ex.dim,Ex.name,bi]
theorem C9(s:ByteArray)(hs:s.size<=140737488355328)(w:World)(ht:Tab w):Calls prog 194 #[.string s] w fun e w'=>e= .returned (.bool (fe s))/\w.Grows w':=by
 have HV:=zh (fun w (ht:Tab w)=>mQ (fun _=>True) (.mk 2 0 0 0 s []) (.slice none 0 0) w (zh (.mk _ none 0 (fun _=>.slice none 0 0) ⟨(show I64 (2:Int)from⟨by decide,by decide⟩),(show I64 (0:Int)from⟨by decide,by decide⟩),(show I64 (0:Int)from⟨by decide,by decide⟩),(show I64 (0:Int)from⟨by decide,by decide⟩),by simp [Ex.args],hs⟩ (.inl rfl) (fun i hi=>by simp [Ex.args]at hi))) (zh (by simp [Ex.size,Ex.sizes])) (zh ht));have HT:=zh ht;clear ht;unfold exV at HV;dsimp only [Ex.op,Ex.num,Ex.den,Ex.dim,Ex.name]at HV;rw [Dz]at HV;generalize fe s=b at *
 go_enter func194,ntmps194
 go_wp2_with (go_at_call 108;refine(HV.out _ HT.out).mono ?_;rintro e' w' ⟨rfl,bs,d,rfl⟩)
 exact rz9
theorem DU(ls:List (ByteArray × Ex))(v:Value)(w:World)(h:gL w v ls)(hl:10<ls.length):Calls prog 157 #[v] w (lF (dK ls) w):=by
 obtain⟨hl1000,la,lc,rfl,-⟩:=h;have hn:(10:Int)<(ls.length:Int):=by omega
 have HF:Hid (dK ls=([],7)):=zh (by unfold dK;rw [if_pos hl])
 go_enter func157,ntmps157
 go_wp2_with fail
 go_returns
 exact lF.bad HF.out (.of_below ag)
theorem GQ:∀args w,(callFunc 195 args).run prog w= .ok (.enter 195 args) w:=enters_of func195 zf rfl
theorem GJ(env:List (ByteArray × Int))(ve:Value)(s:ByteArray)(c1 c2 c3 c4 c5 c6:Value)(b:Nat)(w:World)(hb:w.heap[b]? =some (.cells #[.string s,c1,c2,c3,c4,c5,c6] 84 (0,0)))(he:aW w ve env) :
 Calls prog 109 #[ve,.func (.func 195) #[] #[.pointer (some ⟨b,0,none⟩)]] w fun r w'=>r= .returned (.bool (env.any fun p=>decide (p.1=s)))/\w.Grows w':=by
 rw [<-Qt];refine nR 195 #[.pointer (some ⟨b,0,none⟩)] GQ env ve (fun k=>decide (bdN env k=s)) w he (zh (fun k hk w2 hg=>?_));have hb2:w2.heap[b]? =some (.cells #[.string s,c1,c2,c3,c4,c5,c6] 84 (0,0)):=(hg.below.block b (Array.getElem?_eq_some_iff.1 hb).1).trans hb;have hbl:b<w2.heap.size:=(Array.getElem?_eq_some_iff.1 hb2).1;have x0:w2.cell? ⟨b,0,none⟩=some (.string s):=by rw [cell_of_row w2 b _ _ _ _ hb2];rfl
 dsimp only;generalize bdN env k=n at *;generalize bdD env k=m at *;clear hb hb2 he hg;show Calls prog 195 #[.agg #[.string n,.int .i64 m],.pointer (some ⟨b,0,none⟩)] w2 _;by_cases hn:n=s
 ·have h2:(n.toList==s.toList)=true:=by rw [hn];simp
  have HD:Hid (decide (n=s)=true):=zh (decide_eq_true hn);clear hn
  go_enter func195,ntmps195
  go_wp2_with fail
  go_returns
  exact⟨au HD.out.symm,.of_below ag⟩
 ·have h2:(n.toList==s.toList)=false:=by rw [beq_eq_false_iff_ne];exact fun h=>hn (mZ h)
  have HD:Hid (decide (n=s)=false):=zh (decide_eq_false hn);clear hn
  go_enter func195,ntmps195
  go_wp2_with fail
  go_returns
  exact⟨au HD.out.symm,.of_below ag⟩
theorem Jh(ls:List (ByteArray × Ex))(v:Value)(w:World)(h:gL w v ls)(hs:sS ls)(ht:Tab w):Calls prog 157 #[v] w (lF (dK ls) w):=by
 by_cases hlen:ls.length<=10
 case neg=>exact DU ls v w h ze
 obtain⟨i0,hi,hz0,hz1,hz2⟩:=info_parts Fj;have HL:=zh h;have HS:=zh hs;have HT:=zh ht;obtain⟨hl1000,la,lc,rfl,-⟩:=h;rw [qz hlen];have hn:¬(10:Int)<(ls.length:Int):=by omega
 clear hs ht
 go_enter func157,ntmps157
 go_wp2_with fail
 go_loopw [4,16] (fun v4 v16 wr=>∃(k:Nat) (vb:Value) (env:List (ByteArray × Int)),vb=v4/\k<=ls.length/\v16= .int .i64 k/\Below w.heap.size w wr/\wr.ownsRow w.heap.size 64 2 vb k (nT env)/\Hid (kF ls k env)) (fun _ v16 _=>ls.length-(intOf v16).toNat)
 case atStart=>exact⟨0,_,[],rfl,by omega,rfl,.refl _ _,World.ownsRow_nil _ _ _ _,zh (kF.zero ls)⟩
 case round=>
  obtain⟨k,vb,env,rfl,hk,rfl,hB,hown,HA⟩:=hrel;obtain⟨W1,rfl⟩:∃W1,W1=wr:=⟨_,rfl⟩;have HB:=zh hB;have HO:=zh hown;have HG:Hid (w.Grows W1):=zh (.of_below hB);have HT1:=zh (HT.out.grows HG.out);have hsW:=hB.size;by_cases hlt:k<ls.length
  ·obtain⟨-,a',c',hvv,hx⟩:=HL.out.grows HG.out;simp only [Value.slice.injEq,true_and]at hvv;obtain⟨rfl,rfl⟩:=hvv;rcases hx with h0|⟨b,off,rfl,hbw,hx⟩
   ·omega
   obtain⟨uk,hsk⟩:=hx k hlt;have hsm:=HS.out _ (fD hlt);have HTB:=zh (HA.out.bad hlt);have HTN:=zh (HA.out.next hlt);have HEL:=zh HA.out.len;have d1:(k:Int)<(ls.length:Int):=by omega
   generalize ls.getD k default=tt at *;obtain⟨s,ek⟩:=tt;dsimp only at hsm;obtain⟨y0,y1,y2,y3,y4,y5,y6,hrk⟩:=hsk;obtain⟨ka,kc,rfl⟩:=hrk.form0;have HRK:=zh hrk;have HBD:Hid (aW W1 vb env):=zh (aW.of_own (by rw [HEL.out];exact hown) (by rw [HEL.out];omega));have HI5:=zh (jT s);have HN5:=zh (fun w ht=>C9 s hsm.1 w ht);have HDC:=zh (fun w' b hb (hg:W1.Grows w')=>GJ env vb s (.int .i64 ek.op) (.int .i64 ek.num) (.int .i64 ek.den) (.int .i64 ek.dim) (.string ek.name) (.slice ka ek.args.length kc) b w' hb (HBD.out.grows hg));have HIF:=zh (fun w' (hg:W1.Grows w')=>oK (fun _=>True) env ek (.slice ka ek.args.length kc) vb w' (HRK.out.grows hg) (by have:=hsm.2;omega) (HT1.out.grows hg) (HBD.out.grows hg));unfold jl exV at HIF;have HKL:=zh hlt;have hk10:k<=10:=by omega
   have hvf:∃va vn vc,vb= .slice va vn vc:=by obtain⟨-,a,c,h,-⟩:=HBD.out;exact⟨_,_,_,h⟩
   clear hx hrk hsm HA hB hown hlt hk;dsimp only at y0 y1 y2 y3 y4 y5 y6;by_cases hd:bV s.toList=0
   case neg=>
    have HC:Hid (ik ls []=([],5)):=zh yI;rw [decide_eq_true hd]at HI5;generalize bV s.toList=d0 at *;exact rz7
   rw [hd]at HI5;have HD:=zh hd;clear hd;cases hnb:fe s
   case false=>
    have HC:Hid (ik ls []=([],5)):=zh yH;rw [hnb]at HN5;clear hnb;exact rz7
   rw [hnb]at HN5;have HNB:=zh hnb;clear hnb;obtain⟨va,vn,vc,rfl⟩:=hvf;cases hdu:env.any fun p=>decide (p.1=s)
   case true=>
    have HC:Hid (ik ls []=([],10)):=zh (by have h5:=uz (e:=ek) HD.out HNB.out hdu;have:=HTB.out ye;rw [h5]at this;exact this);rw [hdu]at HDC;clear hdu;exact rz7
   have HST:Hid (fZ env (s,ek)=(aT env ek).2):=zh (uy HD.out HNB.out hdu);rw [hdu]at HDC;clear hdu;generalize hr:aT env ek=r at *;obtain⟨dk,ck⟩:=r;dsimp only at HIF HST HTN;clear hr;by_cases hc:ck=0
   ·subst hc;have HNX:=zh (HTN.out HST.out)
    go_wp2_with (first
     |((first|(go_at_call 47;refine(HI5.out _).mono ?_;rintro e' w' ⟨rfl,rfl⟩)|(go_at_call 194;refine(HN5.out _ (HT1.out.grows af)).mono ?_;rintro e' w' ⟨rfl,bs1,d1',rfl⟩)|(go_at_call 109;refine(HDC.out _ _ ((World.heap_grow _ _ _ zg).trans (aY _ _ _ zg)) af).mono ?_;rintro e' w' ⟨rfl,bs2,d2',rfl⟩)|(go_at_call 67;refine(HIF.out _ af).mono ?_;rintro e' w' ⟨rfl,bs3,d3',rfl⟩)))
     |(at_builtin;refine wpList_append_own _ rfl _ _ 54 rfl w.heap.size 64 i0 _ 2 24 underlying54 hi hz0 hz1 hz2 rfl zo _ _ _ rfl (bL HO.out af) ⟨_,0,none⟩ 1 1 [.string s,.int .i64 dk] rfl rfl ?c1 ?c2 ?c3 ?c4 ?c5 ?_))
    case c1=>exact aK _ [.string s,.int .i64 dk] _ _ zg
    case c2=>intro u hu;simp at hu;rcases hu with rfl|rfl<;>rfl
    case c3=>unfold maxLen;omega
    case c4=>omega
    case c5=>simp;omega
    intro v' w1 hown' hgrow _;have HB4:=zh ((show Below w.heap.size w _ from by have:=HB.out;(exact ag)).grown hgrow zp (fun k hk=>(HO.out.lt k hk).1));have HO4:=zh hown';clear hown' hgrow
    go_wp2_with fail
    go_roundw
    case rel=>exact⟨k+1,_,_,rfl,HKL.out,by go_num,HB4.out,by rw [lu];exact HO4.out,HNX⟩
    case measure=>simp [intOf];have:=HKL.out;omega
   ·have hc2:(ck !=0)=true:=by simpa using hc
    have HC:Hid (ik ls []=([],ck)):=zh (by have:=HTB.out (by rw [HST.out];exact hc);rw [HST.out]at this;exact this);clear hc;exact rz7
  ·obtain rfl:k=ls.length:=by omega
   have HD:=zh HA.out.done;have HBD:Hid (aW W1 vb env):=zh (aW.of_own (by rw [HA.out.len];exact HO.out) (by rw [HA.out.len];omega));clear hB hown
   go_wp2_with fail
   go_returns
   exact⟨_,by rw [HD.out];rfl,HG.out,by rw [HD.out];exact HBD.out⟩
def jV(l:List (ByteArray × Val)):List Value:=l.flatMap fun p=>[.string p.1,.int .i64 p.2.dim,.bool p.2.yes,.int .i64 p.2.n,.int .i64 p.2.d]
theorem JK(l:List (ByteArray × Val)):(jV l).length=l.length*5:=by
 induction l with
 |nil=>rfl
 |cons p r ih=>unfold jV at *;rw [flatMap_cons,length_append,ih];simp;omega
theorem JL(l:List (ByteArray × Val)):∀i,i<l.length->(jV l)[i*5]? =some (.string (stN l i))/\(jV l)[i*5+1]? =some (.int .i64 (stV l i).dim)/\(jV l)[i*5+2]? =some (.bool (stV l i).yes)/\(jV l)[i*5+3]? =some (.int .i64 (stV l i).n)/\(jV l)[i*5+4]? =some (.int .i64 (stV l i).d):=by
 induction l with
 |nil=>intro i hi;simp at hi
 |cons p r ih=>
  intro i hi
  cases i with
  |zero=>exact⟨rfl,rfl,rfl,rfl,rfl⟩
  |succ i=>
   have h:=ih i (by simpa using hi)
   have e:∀j,(jV (p::r))[(i+1)*5+j]? =(jV r)[i*5+j]?:=fun j=>by
    rw [show(i+1)*5+j=i*5+j+5 by omega];rfl
   have e0:=e 0;rw [Nat.add_zero,Nat.add_zero]at e0;rw [e0,e 1,e 2,e 3,e 4];exact h
theorem jo(l:List (ByteArray × Val))(p:ByteArray × Val):jV (l++[p])=jV l++[.string p.1,.int .i64 p.2.dim,.bool p.2.yes,.int .i64 p.2.n,.int .i64 p.2.d]:=by
 unfold jV;simp
theorem aV.of_own{w:World}{base:Nat}{v:Value}{l:List (ByteArray × Val)}(h:w.ownsRow base 68 5 v l.length (jV l))(hl:l.length<=1000):aV w v l:=by
 obtain⟨-,⟨rfl,h0⟩|⟨g,cap,cur,rfl,hb,hg,h2,h3,h4,h5⟩⟩:=id h
 ·exact⟨by omega,none,0,by rw [h0],.inl h0⟩
 ·refine⟨by omega,_,cap,rfl,.inr ⟨g,0,rfl,(Array.getElem?_eq_some_iff.1 hg).1,fun i hi=>?_⟩⟩;obtain⟨g0,g1,g2,g3,g4⟩:=JL l i hi;have hL:=JK l;rw [Nat.zero_add];exact⟨(h.cellAt (i*5) ze).trans g0,(h.cellAt (i*5+1) ze).trans g1,(h.cellAt (i*5+2) ze).trans g2,(h.cellAt (i*5+3) ze).trans g3,(h.cellAt (i*5+4) ze).trans g4⟩
theorem Ko:(prog.info? 68).map (fun i=>(i.zero,i.size,i.bytes))=some (some (.agg #[.string ⟨#[]⟩,.int .i64 0,.bool false,.int .i64 0,.int .i64 0]),5,48):=by kernel_rfl
end Go.Proofs.YtlheailebbngiaaGreatDoor
namespace Go
theorem aU{w w':World}(h:RowKit.Below w.heap.size w w':=by(try simp only [World.grow_grow,World.grow_drew,World.drew_grow,<-Array.append_assoc]);repeat' (first|(with_reducible exact Go.RowKit.Below.fin)|(with_reducible exact Go.RowKit.Below.refl _ _)|(with_reducible assumption)|(with_reducible refine Go.RowKit.Below.peel ?_ ?_)|(with_reducible refine Go.RowKit.Below.grow ?_ ?_ _ _)|(with_reducible refine Go.RowKit.Below.alloc ?_ ?_ _)|(with_reducible refine Go.RowKit.Below.drewN ?_ _)|(with_reducible refine Go.RowKit.Below.drew ?_)|(with_reducible refine Go.RowKit.Below.setCell ?_ ?_ _)|go_size)):w.Grows w':=.of_below h
end Go
namespace Go.Proofs.YtlheailebbngiaaGreatDoor
open Go.Proofs.Tryz List
open Go.RowKit
def Mid(B:Nat)(W w:World):Prop:=W.heap.size<=w.heap.size/\∀k,B<=k->k<W.heap.size->w.heap[k]? =W.heap[k]?
def vwA(v:Vw)(y:Value):Array Value:=#[.int .i64 v.age,.int .i64 v.year,.int .i64 v.children,.int .i64 v.insured,.int .i64 v.worked,.int .i64 v.voluntary,.int .i64 v.service,.int .i64 v.equated,.int .i64 v.raising,.int .i64 v.resident,.int .i64 v.bn,.int .i64 v.bd,y]
def Out(B H:Nat)(v:Value):Prop:=∀k,v.ownBlock=some k->k<B\/H<=k
section
variable {B H : Nat} {W w w' : World} {v : Value}
theorem Mid.refl(B:Nat)(W:World):Mid B W W:=⟨Nat.le_refl _,fun _ _ _=>rfl⟩
theorem Mid.grows(h:Mid B W w)(hg:w.Grows w'):Mid B W w':=⟨Nat.le_trans h.1 hg.below.size,fun k h1 h2=>(hg.below.block k (Nat.lt_of_lt_of_le h2 h.1)).trans (h.2 k h1 h2)⟩
theorem Mid.grown(h:Mid B W w)(hg:w.grownBy w' v.ownBlock)(ho:Out B W.heap.size v):Mid B W w':=
 ⟨Nat.le_trans h.1 hg.size,fun k h1 h2=>(hg.block k (Nat.lt_of_lt_of_le h2 h.1) (fun e=>by have:=ho k e.symm;omega)).trans (h.2 k h1 h2)⟩
theorem Out.next{g H' n cap:Nat}(h:Out B H v)(hg:v.ownBlock=some g\/g=H')(hH:H<=H'):Out B H (.slice (some ⟨g,0,none⟩) n cap):=by
 intro k hk;obtain rfl:g=k:=by simpa [Value.ownBlock]using hk
 rcases hg with hg|rfl
 ·exact h _ hg
 ·exact .inr hH
theorem Mid.ints{zs:List Int}(hm:Mid B W w)(h:ay W v zs)(hn:∀k,v.ownBlock=some k->B<=k):ay w v zs:=by
 obtain⟨h0,hr,a,cap,rfl,h1⟩:=h;refine⟨h0,hr,a,cap,rfl,h1.imp id ?_⟩;rintro⟨b,off,rfl,hb,hc⟩;exact⟨b,off,rfl,Nat.lt_of_lt_of_le hb hm.1,fun i hi=>(World.cell?_of_block (hm.2 b (hn b rfl) hb)).trans (hc i hi)⟩
theorem World.Grows.grown{row:Option Nat}(h:W.Grows w)(hg:w.grownBy w' row)(hr:∀k,row=some k->W.heap.size<=k):W.Grows w':=.of_below (Below.grown h.below hg h.below.size hr)
end
theorem Jy{E:Ex}{ls:List (ByteArray × Ex)}{k:Nat}(hk:k<((aA E ls).map Int.ofNat).length):((aA E ls).map Int.ofNat).getD k 0=((aA E ls).getD k 0:Nat):=by
 rw [length_map]at hk;rw [getD_eq_getElem?_getD,getD_eq_getElem?_getD,getElem?_map,getElem?_eq_getElem hk];rfl
theorem Am(E:Ex)(ls:List (ByteArray × Ex)):(aA E ls).length<=ls.length:=jh ls.length
theorem Pp{w:World}{a:Option Addr}{n cap:Nat}{st:List (ByteArray × Val)}(h:aV w (.slice a n cap) st){j:Nat}(hj:j<st.length):∃b off,a=some ⟨b,off,none⟩/\b<w.heap.size/\w.cell? ⟨b,off+j*5,none⟩=some (.string (stN st j)):=by
 obtain⟨-,a',c',hv,h0|⟨b,off,ha,hb,hc⟩⟩:=h
 ·omega
 ·simp only [Value.slice.injEq]at hv;obtain⟨rfl,-,-⟩:=hv;exact⟨b,off,ha,hb,(hc j hj).1⟩
def GrP(r:(Bool × Int × Int) × List (ByteArray × Val) × Int)(w:World)(e:Ending)(w':World):Prop:=∃sv,e= .returned (.tuple #[.agg #[.bool r.1.1,.int .i64 r.1.2.1,.int .i64 r.1.2.2,sv],.int .i64 r.2.2])/\w.Grows w'/\aV w' sv r.2.1/\∀k,sv.ownBlock=some k->w.heap.size<=k
theorem GrP.bad{r:(Bool × Int × Int) × List (ByteArray × Val) × Int}{w w':World}{c:Int}(hr:r=((false,0,0),[],c))(hg:w.Grows w'):GrP r w (.returned (.tuple #[.agg #[.bool false,.int .i64 0,.int .i64 0,.slice none 0 0],.int .i64 c])) w':=by
 subst hr;exact⟨_,rfl,hg,⟨by simp,none,0,rfl,.inl rfl⟩,fun k hk=>by cases hk⟩
theorem GrP.ok{r:(Bool × Int × Int) × List (ByteArray × Val) × Int}{w w':World}{b:Bool}{n d:Int}{sv:Value}{st:List (ByteArray × Val)}(hr:r=((b,n,d),st,0))(hg:w.Grows w')(hs:aV w' sv st)(hn:∀k,sv.ownBlock=some k->w.heap.size<=k):GrP r w (.returned (.tuple #[.agg #[.bool b,.int .i64 n,.int .i64 d,sv],.int .i64 0])) w':=by
 subst hr;exact⟨sv,rfl,hg,hs,hn⟩
theorem aV.same{w w':World}{v:Value}{st:List (ByteArray × Val)}(h:aV w v st)(hs:w.heap.size<=w'.heap.size)(hk:∀k,v.ownBlock=some k->w'.heap[k]? =w.heap[k]?):aV w' v st:=by
 obtain⟨h0,a,cap,rfl,h1⟩:=h;refine⟨h0,a,cap,rfl,h1.imp id ?_⟩;rintro⟨b,off,rfl,hb,hc⟩;refine⟨b,off,rfl,Nat.lt_of_lt_of_le hb hs,fun j hj=>?_⟩;have e:∀o,w'.cell? ⟨b,o,none⟩=w.cell? ⟨b,o,none⟩:=fun o=>World.cell?_of_block (hk b rfl);obtain⟨c0,c1,c2,c3,c4⟩:=hc j hj;exact⟨(e _).trans c0,(e _).trans c1,(e _).trans c2,(e _).trans c3,(e _).trans c4⟩
theorem aV.moved{X Y:World}(hs:X.heap.size=Y.heap.size){bs:Array Obj}{d d':Nat}{v:Value}{st:List (ByteArray × Val)}(h:aV (X.grow bs d) v st)(hk:∀k,v.ownBlock=some k->X.heap.size<=k):aV (Y.grow bs d') v st:=
 h.same (by simp [hs]) fun k hv=>World.heap_grow_same hs bs d d' (hk k hv)
theorem l5{ls:List (ByteArray × Ex)}{env:List (ByteArray × Int)}{v:Vw}{E:Ex}{D0 D:List Nat}{st0 st:List (ByteArray × Val)}{m:Int}(hra:dY v ls env E D0 st0 (aA E ls).length D st)(hl:iB ls ls.length env)(hok:v.ok=true)(ht:aT env E=(m,0)) :
 dQ v st E=ai v st E/\okR m (ai v st E):=by
 obtain⟨h1,h2,h3⟩:=wY ht;have h4:=hra.last hl h2 h3;have:=oz hok hra.ok.ok h1 (by rw [h4]);rw [h4]at this;exact this
end Go.Proofs.YtlheailebbngiaaGreatDoor
