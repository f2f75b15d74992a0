import Derived.Test.YtfoefpoaomepbaaGreatDoorGUs2
import Derived.Test.YtfoefpoaomepbaaGreatDoorGTyN
set_option linter.all false
set_option maxHeartbeats 16000000
set_option maxRecDepth 1000000
namespace Go.Proofs.YtfoefpoaomepbaaGreatDoor
open Go.Proofs.Tryz Tryz List
open Go.RowKit
section
variable {n NS ND i NB : Nat} {W0 w w1 w2 w' : World} {S : List (Option (List Int × List Bool))} {R : Nat -> Value} {dims dims' : List Int} {s s' : List Int × List Bool} {v' : Value}
theorem CJ{α:Type}(l:List (Option α))(k j:Nat)(a:Option α):(l.set k a).getD j none=if k=j/\j<l.length then a else l.getD j none:=aA l k j a none
end
def Bg(T:List (Option (List Int × List Int)))(Rl:Nat->Value)(b:Nat):Prop:=∀k t,T.getD k none=some t->(Rl k).ownBlock≠some b
section
variable {n NS m : Nat} {W0 w w' : World} {T : List (Option (List Int × List Int))} {Rs Rl : Nat -> Value}
theorem mF.grows(h:mF n NS m W0 T Rs Rl w)(hg:w.Grows w'):mF n NS m W0 T Rs Rl w':=by
 have hs:=hg.below.size;have hsz:=h.sz;have e1:=hg.below.block NS h.sz;have c:∀o,w'.cell? ⟨NS,o,none⟩=w.cell? ⟨NS,o,none⟩:=fun o=>World.cell?_of_block (a:=⟨NS,o,none⟩) e1;refine⟨by omega,h.lo.trans (hg.below.mono zb),h.len,fun j hj=>?_,fun o=>(World.frozen?_of_block (a:=⟨NS,o,none⟩) e1).trans (h.sf o),fun j t ht=>?_,h.dl,h.ds⟩
 ·exact Tn
 ·obtain⟨a,b,r⟩:=h.row j t ht;exact⟨bE.row (P:=fun _=>False) (.grows hg) a fun _ _ e=>e,bE.row (P:=fun _=>False) (.grows hg) b fun _ _ e=>e,r⟩
def MtP(n NS m:Nat)(W0:World)(T:List (Option (List Int × List Int)))(Rl:Nat->Value)(k:Nat)(s:List Int × List Int)(w:World)(e:Ending)(w':World):Prop:=
 ∃b,e= .returned (.bool b)/\Below NS W0 w'/\w.heap.size<=w'.heap.size/\(∀c,c<w.heap.size->c≠NS->Bg T Rl c->w'.heap[c]? =w.heap[c]?)/\
  ((b=false/\fQ T k s=none)\/(b=true/\∃T' Rs' Rl',fQ T k s=some T'/\mF n NS m W0 T' Rs' Rl' w'/\∀c,c<w.heap.size->Bg T Rl c->Bg T' Rl' c))
theorem xx{α:Type}(l:List (Option α))(k j:Nat)(a:Option α)(hk:k<l.length):(l.set k a).getD j none=if k=j then a else l.getD j none:=by
 rw [CJ];by_cases c:k=j
 ·subst c;rw [if_pos ⟨rfl,hk⟩,if_pos rfl]
 ·rw [if_neg (fun q=>c q.1),if_neg c]
theorem mF.meet(h:mF n NS m W0 T Rs Rl w){k B1 B2:Nat}{s:List Int × List Int}{vz vl:Value}(hkn:k<=n)(hz:w.ownsRow B1 3 1 vz s.1.length (s.1.map (Value.int .i64)))(hl:w.ownsRow B2 3 1 vl s.2.length (s.2.map (Value.int .i64)))
 (h24:s.1.length<=24) (hm:s.2.length=m) (hm12:m<=12) (hp1:∀z∈s.1,1<=z) (hp2:∀z∈s.2,0<=z) (hnz:vz.ownBlock≠some NS) (hnl:vl.ownBlock≠some NS) (hsz:∀b,vz.ownBlock=some b->Bg T Rl b) (hsl:∀b,vl.ownBlock=some b->Bg T Rl b) :
 Calls prog 53 #[.pointer (some ⟨NS,k*3,none⟩),vz,vl] w (MtP n NS m W0 T Rl k s w):=by
 have hs0:=h.sz;have hkl:k<T.length:=by rw [h.len];omega
 cases hT:T.getD k none with
 |none=>
  have hst:=h.st k hkn;rw [hT]at hst;refine(LH NS (k*3) B1 B2 s.1 s.2 vz vl w h.sz hst h.sf hz hl zb zb hnz hnl).mono ?_;rintro e w' ⟨rfl,v1,v2,hu,r1,r2,hd⟩;have hsz':=hu.mods.size;have hput:fQ T k s=some (T.set k (some s)):=by unfold fQ;rw [hT]
  have hg:∀j,(T.set k (some s)).getD j none=if k=j then some s else T.getD j none:=fun j=>xx T k j _ hkl
  have hlt1:∀j t,T.getD j none=some t->(∀g,(Rs j).ownBlock=some g->NS+1<=g/\g<w.heap.size)/\(∀g,(Rl j).ownBlock=some g->NS+1<=g/\g<w.heap.size):=fun j t ht=>⟨fun g=>(h.row j t ht).1.lt g,fun g=>(h.row j t ht).2.1.lt g⟩;refine⟨true,rfl,h.lo.trans ⟨hu.mods.os,hu.mods.tape,hu.mods.output,hu.mods.size,fun b hb=>hu.mods.block b zb zb⟩,hsz',fun c hc hne _=>hu.mods.block c hc hne,.inr ⟨rfl,T.set k (some s),fun j=>if j=k then v1 else Rs j,fun j=>if j=k then v2 else Rl j,hput,⟨by omega,h.lo.trans ⟨hu.mods.os,hu.mods.tape,hu.mods.output,hu.mods.size,fun b hb=>hu.mods.block b zb zb⟩,by rw [length_set];exact h.len,fun j hj=>?_,fun o=>(hu.frz o).trans (h.sf o),fun j t ht=>?_,fun j k2 t u g hjk ht hu' hgb hv=>?_,fun j k2 t u g ht hu' hgb hv=>?_⟩,fun c hc hsep k2 t ht hv=>?_⟩⟩
  ·rw [hg];by_cases c:k=j
   ·subst c;rw [if_pos rfl];simp only [if_true];exact hu.cells
   ·rw [if_neg c];simp only [if_neg (Ne.symm c)];have hsj:=h.st j hj;have near:∀o,o<3->w'.cell? ⟨NS,j*3+o,none⟩=w.cell? ⟨NS,j*3+o,none⟩:=fun o ho=>hu.out _ zg
    cases hj2:T.getD j none with
    |none=>
     rw [hj2]at hsj
     exact fun i u hu2=>by
      have hi:i<3:=by have:=(List.getElem?_eq_some_iff.1 hu2).1;simpa using this
      rw [near i hi];exact hsj i u hu2
    |some t=>
     rw [hj2]at hsj
     exact fun i u hu2=>by
      have hi:i<3:=by have:=(List.getElem?_eq_some_iff.1 hu2).1;simpa using this
      rw [near i hi];exact hsj i u hu2
  ·rw [hg]at ht;by_cases c:k=j
   ·subst c;rw [if_pos rfl]at ht;obtain rfl:=Option.some.inj ht;simp only [if_true];exact⟨ng r1 zb,ng r2 zb,h24,hm,hp1,hp2⟩
   ·rw [if_neg c]at ht;simp only [if_neg (Ne.symm c)];obtain⟨a,b,r⟩:=h.row j t ht;exact⟨hu.mods.row a fun g hgb q=>by have:=(a.lt g hgb).1;omega,hu.mods.row b fun g hgb q=>by have:=(b.lt g hgb).1;omega,r⟩
  ·rw [hg]at ht hu';by_cases c1:k=j
   ·subst c1;rw [if_neg zb]at hu';simp only [if_true]at hgb;simp only [if_neg (Ne.symm hjk)]at hv;have q1:=(r2.lt g hgb).1;have q2:=((hlt1 k2 u hu').2 g hv).2;omega
   ·rw [if_neg c1]at ht;simp only [if_neg (Ne.symm c1)]at hgb;by_cases c2:k=k2
    ·subst c2;simp only [if_true]at hv;have q1:=(r2.lt g hv).1;have q2:=((hlt1 j t ht).2 g hgb).2;omega
    ·rw [if_neg c2]at hu';simp only [if_neg (Ne.symm c2)]at hv;exact h.dl j k2 t u g hjk ht hu' hgb hv
  ·rw [hg]at ht hu';by_cases c1:k=j
   ·subst c1;simp only [if_true]at hgb;by_cases c2:k=k2
    ·subst c2;simp only [if_true]at hv;exact hd g hv hgb
    ·rw [if_neg c2]at hu';simp only [if_neg (Ne.symm c2)]at hv;have q1:=(r2.lt g hgb).1;have q2:=((hlt1 k2 u hu').1 g hv).2;omega
   ·rw [if_neg c1]at ht;simp only [if_neg (Ne.symm c1)]at hgb;by_cases c2:k=k2
    ·subst c2;simp only [if_true]at hv;have q1:=(r1.lt g hv).1;have q2:=((hlt1 j t ht).2 g hgb).2;omega
    ·rw [if_neg c2]at hu';simp only [if_neg (Ne.symm c2)]at hv;exact h.ds j k2 t u g ht hu' hgb hv
  ·rw [hg]at ht;by_cases c1:k=k2
   ·subst c1;simp only [if_true]at hv;have q1:=(r2.lt c hv).1;omega
   ·rw [if_neg c1]at ht;simp only [if_neg (Ne.symm c1)]at hv;exact hsep k2 t ht hv
 |some t=>
  have hst:=h.st k hkn;rw [hT]at hst;obtain⟨a1,a2,a3,a4,a5,a6⟩:=h.row k t hT;have hb2:∀g,(Rl k).ownBlock=some g->NS+1<=g:=fun g hg=>(a2.lt g hg).1;refine(LG NS (k*3) (NS+1) B1 B2 t.1 t.2 s.1 s.2 (Rs k) (Rl k) vz vl w h.sz hst a1 a2 hz hl zb zb zb (fun e=>by have:=hb2 _ e;omega) (fun g hg=>h.ds k k t t g hT hT hg) (fun g hg e=>hsz g e k t hT hg) (fun g hg e=>hsl g e k t hT hg)).mono ?_;rintro e w' ⟨rfl,hmd,hrow⟩;have hsz':=hmd.size;have hlo:Below NS W0 w':=h.lo.trans ⟨hmd.os,hmd.tape,hmd.output,hmd.size,fun b hb=>hmd.block b zb (fun e=>by have:=hb2 b e;omega)⟩;have hnsb:w'.heap[NS]? =w.heap[NS]?:=hmd.block NS h.sz (fun e=>by have:=hb2 NS e;omega);refine⟨decide (t.1=s.1),rfl,hlo,hsz',fun c hc _ hsep=>hmd.block c hc (hsep k t hT), ?_⟩;by_cases he:t.1=s.1
  ·rw [decide_eq_true he];have hput:fQ T k s=some (T.set k (some (t.1,zipWith (fun a b=>if b=0 then 0 else a) t.2 s.2))):=by unfold fQ;rw [hT];simp only [if_pos he]
   have hg:∀j,(T.set k (some (t.1,zipWith (fun a b=>if b=0 then 0 else a) t.2 s.2))).getD j none=if k=j then some (t.1,zipWith (fun a b=>if b=0 then 0 else a) t.2 s.2)else T.getD j none:=fun j=>xx T k j _ hkl
   have hz2:(zipWith (fun(a b:Int)=>if b=0 then 0 else a) t.2 s.2).length=m:=by rw [length_zipWith,a4,hm];omega
   have hex:∀j u,(T.set k (some (t.1,zipWith (fun a b=>if b=0 then 0 else a) t.2 s.2))).getD j none=some u->∃u',T.getD j none=some u':=fun j u hu=>by
    rw [hg]at hu;by_cases c:k=j
    ·subst c;exact⟨t,hT⟩
    ·rw [if_neg c]at hu;exact⟨u,hu⟩
   refine .inr ⟨rfl,_,Rs,Rl,hput,⟨by omega,hlo,by rw [length_set];exact h.len,fun j hj=>?_,fun o=>(World.frozen?_of_block (a:=⟨NS,o,none⟩) hnsb).trans (h.sf o),fun j u hu=>?_,fun j k2 u v g hjk hu hv=>?_,fun j k2 u v g hu hv=>?_⟩,fun c hc hsep j u hu=>?_⟩
   ·rw [hg];have hsj:=h.st j hj;have cc:∀o,w'.cell? ⟨NS,o,none⟩=w.cell? ⟨NS,o,none⟩:=fun o=>World.cell?_of_block (a:=⟨NS,o,none⟩) hnsb;by_cases c:k=j
    ·subst c;rw [if_pos rfl];exact bX.same hst cc
    ·rw [if_neg c]
     cases hj2:T.getD j none with
     |none=>rw [hj2]at hsj;exact bX.same hsj cc
     |some _=>rw [hj2]at hsj;exact bX.same hsj cc
   ·rw [hg]at hu;by_cases c:k=j
    ·subst c;rw [if_pos rfl]at hu;obtain rfl:=Option.some.inj hu;refine⟨hmd.row a1 fun g hgb q=>h.ds k k t t g hT hT q hgb, ?_,a3,hz2,a5,fun z hz'=>?_⟩
     ·show w'.ownsRow (NS+1) 3 1 (Rl k) (zipWith (fun(a b:Int)=>if b=0 then 0 else a) t.2 s.2).length _;rw [hz2,<-a4];exact hrow
     ·obtain⟨i,hi,rfl⟩:=mem_iff_getElem.1 hz';simp only [getElem_zipWith]
      split
      ·omega
      ·exact a6 _ (getElem_mem _)
    ·rw [if_neg c]at hu;obtain⟨b1,b2,r⟩:=h.row j u hu;exact⟨hmd.row b1 fun g hgb q=>h.ds k j t u g hT hu q hgb,hmd.row b2 fun g hgb q=>h.dl k j t u g c hT hu q hgb,r⟩
   ·obtain⟨u',hu'⟩:=hex j u hu;obtain⟨v',hv'⟩:=hex k2 v hv;exact h.dl j k2 u' v' g hjk hu' hv'
   ·obtain⟨u',hu'⟩:=hex j u hu;obtain⟨v',hv'⟩:=hex k2 v hv;exact h.ds j k2 u' v' g hu' hv'
   ·obtain⟨u',hu'⟩:=hex j u hu;exact hsep j u' hu'
  ·rw [decide_eq_false he];exact .inl ⟨rfl,by unfold fQ;rw [hT];simp only [if_neg he]⟩
end
def StpRv(n NS m:Nat)(W0:World)(T:List (Option (List Int × List Int)))(x:Ins)(i:Nat)(e:Ending)(w':World):Prop:=
 ∃b,e= .returned (.bool b)/\Below NS W0 w'/\((b=false/\nU T x i=none)\/(b=true/\∃T' Rs' Rl',nU T x i=some T'/\mF n NS m W0 T' Rs' Rl' w'))
def Dz(n NS m:Nat)(W0:World)(T:List (Option (List Int × List Int)))(t:List Int × List Int)(x:Ins)(v8 v9 v11:Value)(w:World):Prop:=
 ∃(zs ls:List Int) (p:Int) (T1:List (Option (List Int × List Int))) (Rs1 Rl1:Nat->Value) (B:Nat),v11= .int .i64 p/\0<=p/\x.op≠21/\w.ownsRow B 3 1 v8 zs.length (zs.map (Value.int .i64))/\w.ownsRow B 3 1 v9 ls.length (ls.map (Value.int .i64))/\B<=w.heap.size/\NS<B/\
  gm x t=some (if p=0 then zs else zs++[p],ls)/\((x.op≠22/\T1=T)\/(x.op=22/\p=0/\fQ T x.a.toNat (zs,ls)=some T1))/\mF n NS m W0 T1 Rs1 Rl1 w/\(∀b,v8.ownBlock=some b->Bg T1 Rl1 b)/\(∀b,v9.ownBlock=some b->Bg T1 Rl1 b)/\(∀b,v8.ownBlock=some b->v9.ownBlock≠some b)/\
  zs.length<=24/\ls.length=m/\(∀z∈zs,1<=z)/\(∀z∈ls,0<=z)/\(∀b,v8.ownBlock=some b->B<=b)/\(∀b,v9.ownBlock=some b->B<=b)/\(p≠0->∀b j u,v8.ownBlock=some b->T1.getD j none=some u->(Rs1 j).ownBlock≠some b/\(Rl1 j).ownBlock≠some b)
theorem Sa{x:Ins}{s:List Int × List Int}(h:x.op=1):gm x s=some (s.1++[x.a],s.2):=by unfold gm;rw [if_pos h]
theorem R9{x:Ins}{s:List Int × List Int}(h:x.op=2):gm x s=some (s.1++[lJ.getD x.a.toNat 0],s.2):=by unfold gm;rw [if_neg zb,if_pos h]
theorem R7{x:Ins}{s:List Int × List Int}(h:x.op=5):gm x s=some (s.1++[4],s.2):=by unfold gm;rw [if_neg zb,if_neg zb,if_pos h]
theorem Qw{x:Ins}{s:List Int × List Int}(h:x.op=23\/x.op=24):gm x s=some (s.1++[1],s.2):=by unfold gm;rw [if_neg zb,if_neg zb,if_neg zb,if_pos h]
theorem R8{x:Ins}{s:List Int × List Int}(h:x.op=3):gm x s=if s.2.getD x.a.toNat 0=0 then none else some (s.1++[s.2.getD x.a.toNat 0],s.2):=by unfold gm;rw [if_neg zb,if_neg zb,if_neg zb,if_neg zb,if_pos h]
theorem Nl{x:Ins}{s:List Int × List Int}(h:x.op=4):gm x s=if s.1= []then none else some (s.1.dropLast,s.2.set x.a.toNat (s.1.getLastD 0)):=by unfold gm;rw [if_neg zb,if_neg zb,if_neg zb,if_neg zb,if_neg zb,if_pos h]
theorem GY{x:Ins}{s:List Int × List Int}(h:x.op=22):gm x s=if s.1= []\/s.1.getLastD 0≠1 then none else some (s.1.dropLast,s.2):=by unfold gm;rw [if_neg zb,if_neg zb,if_neg zb,if_neg zb,if_neg zb,if_neg zb,if_pos h]
theorem Qx{x:Ins}{s:List Int × List Int}(h:x.op=21):gm x s=some s:=by unfold gm;rw [if_neg zb,if_neg zb,if_neg zb,if_neg zb,if_neg zb,if_neg zb,if_neg zb,if_pos h]
theorem R6{x:Ins}{s:List Int × List Int}(h:x.op≠1/\x.op≠2/\x.op≠3/\x.op≠4/\x.op≠5/\x.op≠21/\x.op≠22/\x.op≠23/\x.op≠24) :
 gm x s=if s.1.length<fZ (opF x.op)then none else if ag (opF x.op) (s.1.drop (s.1.length-fZ (opF x.op)))=0 then none
  else some (s.1.take (s.1.length-fZ (opF x.op))++[ag (opF x.op) (s.1.drop (s.1.length-fZ (opF x.op)))],s.2):=by
 unfold gm;rw [if_neg zb,if_neg zb,if_neg zb,if_neg zb,if_neg zb,if_neg zb,if_neg zb,if_neg zb]
theorem Om{T:List (Option (List Int × List Int))}{t:List Int × List Int}{x:Ins}{i:Nat}(hT:T.getD i none=some t)(h:gm x t=none):nU T x i=none:=by unfold nU;rw [hT];simp only [h]
theorem Oo{T:List (Option (List Int × List Int))}{t:List Int × List Int}{x:Ins}{i:Nat}(hT:T.getD i none=some t)(h:x.op=21):nU T x i=fQ T x.a.toNat t:=by unfold nU;rw [hT];simp only [Qx h,if_pos h]
theorem Ij{T:List (Option (List Int × List Int))}{t s:List Int × List Int}{x:Ins}{i:Nat}(hT:T.getD i none=some t)(ha:gm x t=some s)(h:x.op=22)(hp:fQ T x.a.toNat s=none):nU T x i=none:=by unfold nU;rw [hT];simp only [ha,if_neg (show ¬x.op=21 by omega),if_pos h,hp]
theorem BA{T T1:List (Option (List Int × List Int))}{t s:List Int × List Int}{x:Ins}{i:Nat}(hT:T.getD i none=some t)(ha:gm x t=some s)(h21:x.op≠21)(h:(x.op≠22/\T1=T)\/(x.op=22/\fQ T x.a.toNat s=some T1)):nU T x i=if 24<s.1.length then none else fQ T1 (i+1) s:=by
 unfold nU;rw [hT];rcases h with ⟨h,rfl⟩|⟨h,hp⟩
 ·simp only [ha,if_neg h21,if_neg h]
 ·simp only [ha,if_neg h21,if_pos h,hp]
theorem mF.mods{n NS m:Nat}{W0 w w':World}{T:List (Option (List Int × List Int))}{Rs Rl:Nat->Value}{v:Value}(h:mF n NS m W0 T Rs Rl w)(hm:bE (fun b=>v.ownBlock=some b) w w')(hNS:∀b,v.ownBlock=some b->NS<b)(hs:∀b j u,v.ownBlock=some b->T.getD j none=some u->(Rs j).ownBlock≠some b/\(Rl j).ownBlock≠some b):mF n NS m W0 T Rs Rl w':=by
 have hs0:=h.sz;have hz:=hm.size;have e1:w'.heap[NS]? =w.heap[NS]?:=hm.block NS h.sz (fun e=>by have:=hNS NS e;omega);have c:∀o,w'.cell? ⟨NS,o,none⟩=w.cell? ⟨NS,o,none⟩:=fun o=>World.cell?_of_block (a:=⟨NS,o,none⟩) e1;refine⟨by omega,h.lo.trans ⟨hm.os,hm.tape,hm.output,hm.size,fun b hb=>hm.block b zb (fun e=>by have:=hNS b e;omega)⟩,h.len,fun j hj=>?_,fun o=>(World.frozen?_of_block (a:=⟨NS,o,none⟩) e1).trans (h.sf o),fun j t ht=>?_,h.dl,h.ds⟩
 ·exact Tn
 ·obtain⟨a,b,r⟩:=h.row j t ht;exact⟨hm.row a fun g hg e=>(hs g j t e ht).1 hg,hm.row b fun g hg e=>(hs g j t e ht).2 hg,r⟩
theorem wO{w w':World}{B size n:Nat}{e:TypeId}{v:Value}{xs:List Value}(h:w.ownsRow B e size v n xs)(he:∀b,v.ownBlock=some b->w'.heap[b]? =w.heap[b]?):w'.ownsRow B e size v n xs:=by
 refine⟨h.1, ?_⟩;rcases h.2 with hh|⟨g,cap,cur,rfl,hb,hgg,rest⟩
 ·exact .inl hh
 ·exact .inr ⟨g,cap,cur,rfl,hb,by rw [he g rfl];exact hgg,rest⟩
theorem Dv{op:Int}(h:4<=op/\op<=20):aJ op=(fZ op:Int):=by
 unfold aJ fZ
 split
 ·omega
 split
 ·rw [if_pos zb];rfl
 split
 ·rw [if_neg zb];rfl
 ·omega
theorem KW(op:Int)(d:List Int)(g off cap:Nat)(w:World)(h4:4<=op)(h21:op<=20)(hl:(d.length:Int)=aJ op)(hx:∀x∈d,1<=x)(hc:∀k,k<d.length->w.cell? ⟨g,off+k,none⟩=some (.int .i64 (d.getD k 0))) :
 Calls prog 90 #[.int .i64 op,.slice (some ⟨g,off,none⟩) d.length cap] w (eH (ag op d) w):=by
 rcases(show op=4\/op=5\/op=6\/op=7\/op=8\/op=9\/op=10\/op=11\/op=12\/op=13\/op=14\/op=15\/op=16\/op=17\/op=18\/op=19\/op=20 by omega)with rfl|rfl|rfl|rfl|rfl|rfl|rfl|rfl|rfl|rfl|rfl|rfl|rfl|rfl|rfl|rfl|rfl
 ·obtain⟨x,rfl⟩:=Ay (d:=d) zo;exact Le x g off cap w (hc 0 zd) (hx _ zd)
 ·obtain⟨x,rfl⟩:=Ay (d:=d) zo;exact Ld x g off cap w (hc 0 zd) (hx _ zd)
 ·obtain⟨x,rfl⟩:=Ay (d:=d) zo;exact Lc x g off cap w (hc 0 zd) (hx _ zd)
 ·obtain⟨x,y,rfl⟩:=dN (d:=d) zo;exact K9 x y g off cap w (hc 0 zd) (hc 1 zd) ⟨hx _ zd,hx _ zd⟩
 ·obtain⟨x,y,rfl⟩:=dN (d:=d) zo;exact KZ x y g off cap w (hc 0 zd) (hc 1 zd) ⟨hx _ zd,hx _ zd⟩
 ·obtain⟨x,y,rfl⟩:=dN (d:=d) zo;exact KY x y g off cap w (hc 0 zd) (hc 1 zd) ⟨hx _ zd,hx _ zd⟩
 ·obtain⟨x,y,rfl⟩:=dN (d:=d) zo;exact Ga x y g off cap w (hc 0 zd) (hc 1 zd) ⟨hx _ zd,hx _ zd⟩
 ·obtain⟨x,y,rfl⟩:=dN (d:=d) zo;exact F9 x y g off cap w (hc 0 zd) (hc 1 zd) ⟨hx _ zd,hx _ zd⟩
 ·obtain⟨x,y,rfl⟩:=dN (d:=d) zo;exact F8 x y g off cap w (hc 0 zd) (hc 1 zd) ⟨hx _ zd,hx _ zd⟩
 ·obtain⟨x,y,rfl⟩:=dN (d:=d) zo;exact F7 x y g off cap w (hc 0 zd) (hc 1 zd) ⟨hx _ zd,hx _ zd⟩
 ·obtain⟨x,y,rfl⟩:=dN (d:=d) zo;exact F6 x y g off cap w (hc 0 zd) (hc 1 zd) ⟨hx _ zd,hx _ zd⟩
 ·obtain⟨x,y,rfl⟩:=dN (d:=d) zo;exact F5 x y g off cap w (hc 0 zd) (hc 1 zd) ⟨hx _ zd,hx _ zd⟩
 ·obtain⟨x,y,rfl⟩:=dN (d:=d) zo;exact F4 x y g off cap w (hc 0 zd) (hc 1 zd) ⟨hx _ zd,hx _ zd⟩
 ·obtain⟨x,y,rfl⟩:=dN (d:=d) zo;exact F3 x y g off cap w (hc 0 zd) (hc 1 zd) ⟨hx _ zd,hx _ zd⟩
 ·obtain⟨x,y,rfl⟩:=dN (d:=d) zo;exact FZ x y g off cap w (hc 0 zd) (hc 1 zd) ⟨hx _ zd,hx _ zd⟩
 ·obtain⟨x,y,rfl⟩:=dN (d:=d) zo;exact FY x y g off cap w (hc 0 zd) (hc 1 zd) ⟨hx _ zd,hx _ zd⟩
 ·obtain⟨x,y,rfl⟩:=dN (d:=d) zo;exact FX x y g off cap w (hc 0 zd) (hc 1 zd) ⟨hx _ zd,hx _ zd⟩
theorem KO(l:List Ins)(sl:List ByteArray)(vi vs:Value)(i NS:Nat)(W0:World)(T:List (Option (List Int × List Int)))(Rs Rl:Nat->Value)(t:List Int × List Int)(w:World)(hI:rT w vi l)(hi:i<l.length)(hw:mF l.length NS sl.length W0 T Rs Rl w)(hx:wfF sl.length l.length i (l.getD i default)=true)(hm:sl.length<=12)(hT:T.getD i none=some t)(hvs:∃a c,vs= .slice a sl.length c) :
 Calls prog 54 #[.agg #[vi,vs],.int .i64 i,.slice (some ⟨NS,0,none⟩) (l.length+1) (l.length+1)] w (StpRv l.length NS sl.length W0 T (l.getD i default) i):=by
 obtain⟨hl6,ai,ci,rfl,hix⟩:=hI;obtain⟨as',cs',rfl⟩:=hvs;rcases hix with h0|⟨b,off,rfl,hb,hix⟩
 ·omega
 obtain⟨-,x0,x1,x2,x3⟩:=hix i hi;have HW:=yq hw;obtain⟨r1,r2,r3,r4,r5,r6⟩:=hw.row i t hT;have HR1:=yq r1;have HR2:=yq r2;obtain⟨sa,sc,hsa⟩:=dG r1;obtain⟨la,lc,hla⟩:=dG r2;have hst:=hw.st i zb;rw [hT]at hst;have s1:=hst 1 _ rfl;have s2:=hst 2 _ rfl;rw [hsa]at s1;rw [hla]at s2;have hNS:=hw.sz;have d1:(i:Int)<(l.length:Int):=by omega
 have d2:(i:Int)<(l.length:Int)+1:=by omega
 obtain⟨x,hxe⟩:∃x,l.getD i default=x:=⟨_,rfl⟩;rw [hxe]at x0 x1 x2 x3 hx ⊢;have HZ:Hid (∀W,w.Grows W->W.ownsRow (NS+1) 3 1 (.slice sa t.1.length sc) t.1.length (t.1.map (Value.int .i64))):=yq (fun W hg=>by rw [<-hsa];exact bE.row (P:=fun _=>False) (.grows hg) r1 fun _ _ e=>e);have HL:Hid (∀W,w.Grows W->W.ownsRow (NS+1) 3 1 (.slice la t.2.length lc) t.2.length (t.2.map (Value.int .i64))):=yq (fun W hg=>by rw [<-hla];exact bE.row (P:=fun _=>False) (.grows hg) r2 fun _ _ e=>e);have h1k:t.1.length<=1000:=by omega
 have h2k:t.2.length<=1000:=by omega
 have H56:=yq (And.intro r5 (And.intro r6 (And.intro r3 r4)));clear hix hst hxe hw r1 r2 r3 r4 r5 r6
 go_enter func54,ntmps54
 go_wp2_with (at_builtin;refine dU rfl _ _ rfl (A:=[]) (base:=w.heap.size+2) rfl rfl (World.ownsRow_nil _ _ _ _) (HZ.out _ growsR) ⟨by simp,h1k⟩ zd ?_)
 intro v8 w1 hv8 hg8;obtain⟨a8,k8,rfl⟩:=dG hv8;have hL1:=World.Grows.of_below ⟨hg8.os,hg8.tape,hg8.output,hg8.size,fun k hk=>hg8.block k hk zO⟩;have hG1:w.Grows w1:=gqq growsR hL1;have hz1:w.heap.size+2<=w1.heap.size:=by have:=hg8.size;simpa using this
 have xx0:w1.cell? ⟨w.heap.size+1,0,none⟩=some (.int .i64 x.op):=by rw [World.cell?_of_block (hL1.below.block _ zd)];simp [go_sem]
 have xx1:w1.cell? ⟨w.heap.size+1,1,none⟩=some (.int .i64 x.a):=by rw [World.cell?_of_block (hL1.below.block _ zd)];simp [go_sem]
 have t2:w1.cell? ⟨NS,i*3+2,none⟩=some (.slice la t.2.length lc):=(World.cell?_of_block (a:=⟨NS,i*3+2,none⟩) (hG1.below.block NS hNS)).trans s2;have hNS1:NS<w1.heap.size:=by omega
 have HV8:=yq hv8;have HG1:=yq hG1;clear hv8 hg8 hL1 x0 x1 x2 x3 s1 s2
 go_wp2_with (at_builtin;refine dU rfl _ _ rfl (A:=[]) (base:=w1.heap.size) rfl rfl (World.ownsRow_nil _ _ _ _) (HL.out _ HG1.out) ⟨by simp,h2k⟩ zd ?_)
 intro v9 w2 hv9 hg9;obtain⟨a9,k9,rfl⟩:=dG hv9;have hL2:w1.Grows w2:=World.Grows.of_below ⟨hg9.os,hg9.tape,hg9.output,hg9.size,fun k hk=>hg9.block k hk zO⟩;have hG2:w.Grows w2:=gqq HG1.out hL2;have hz2:w1.heap.size<=w2.heap.size:=hg9.size;replace xx0:=(World.cell?_of_block (a:=⟨w.heap.size+1,0,none⟩) (hL2.below.block _ (by show w.heap.size+1<w1.heap.size;omega))).trans xx0;replace xx1:=(World.cell?_of_block (a:=⟨w.heap.size+1,1,none⟩) (hL2.below.block _ (by show w.heap.size+1<w1.heap.size;omega))).trans xx1;have hX2:w.heap.size+1<w2.heap.size:=by omega
 have hNS2:NS<w2.heap.size:=by omega
 have r8:w2.ownsRow (w.heap.size+2) 3 1 (.slice a8 t.1.length k8) t.1.length (t.1.map (Value.int .i64)):=bE.row (P:=fun _=>False) (.grows hL2) HV8.out fun _ _ e=>e;have r9:w2.ownsRow (w.heap.size+2) 3 1 (.slice a9 t.2.length k9) t.2.length (t.2.map (Value.int .i64)):=ng hv9 hz1;have hb8:∀b,(Value.slice a8 t.1.length k8).ownBlock=some b->w.heap.size+2<=b/\b<w1.heap.size:=fun b e=>HV8.out.lt b e;have hb9:∀b,(Value.slice a9 t.2.length k9).ownBlock=some b->w1.heap.size<=b:=fun b e=>(hv9.lt b e).1;have HR8:=yq r8;have HR9:=yq r9;have HB8:=yq hb8;have HB9:=yq hb9
 have HSEP:Hid (∀b,w.heap.size<=b->Bg T Rl b):=yq (fun b hb k u hu e=>by
  have:=((HW.out.row k u hu).2.1.lt b e).2
  omega)
 have HG2:=yq hG2;have HTT:=yq hT;have HX:=yq hx
 have HMID:Hid (∀p W,w2.Grows W->0<=p->x.op≠21->x.op≠22->gm x t=some (if p=0 then t.1 else t.1++[p],t.2)->Dz l.length NS sl.length W0 T t x (.slice a8 t.1.length k8) (.slice a9 t.2.length k9) (.int .i64 p) W):=yq (fun p W hg hp h21 h22 ha=>
  ⟨t.1,t.2,p,T,Rs,Rl,w.heap.size+2,rfl,hp,h21,bE.row (P:=fun _=>False) (.grows hg) HR8.out fun _ _ e=>e,bE.row (P:=fun _=>False) (.grows hg) HR9.out fun _ _ e=>e,by have:=hg.below.size;omega,by omega,ha,.inl ⟨h22,rfl⟩,HW.out.grows (gqq HG2.out hg),fun b e=>HSEP.out b (by have:=(HB8.out b e).1;omega),fun b e=>HSEP.out b zN,fun b e q=>by
   have q1:=(HB8.out b e).2;have q2:=HB9.out b q
   omega,H56.out.2.2.1,H56.out.2.2.2,H56.out.1,H56.out.2.1,fun b e=>(HB8.out b e).1,fun b e=>by have:=HB9.out b e;omega,fun _ b j u e hu=>⟨fun e2=>by have:=((HW.out.row j u hu).1.lt b e2).2;have:=(HB8.out b e).1;omega,fun e2=>by have:=((HW.out.row j u hu).2.1.lt b e2).2;have:=(HB8.out b e).1;omega⟩⟩)
 have HNO:Hid (∀W,w2.Grows W->gm x t=none->StpRv l.length NS sl.length W0 T x i (.returned (.bool false)) W):=yq (fun W hg ha=>⟨false,rfl,HW.out.lo.trans ((gqq HG2.out hg).below.mono zb),.inl ⟨rfl,Om HTT.out ha⟩⟩);clear r8 r9 hb8 hb9 hv9 hg9 hL2 hG2 hG1 hT hx t2
 go_upto_block 0 with fail
 go_cut [8,9,11,12,13]from 14 (fun v8 v9 v11 _ _ wx=>Dz l.length NS sl.length W0 T t x v8 v9 v11 wx)
 case first=>
  by_cases o1:x.op=1
  ·have q1:(x.op==1)=true:=by simp [o1]
   have q2:(x.op==2)=false:=by simp [o1]
   have q3:(x.op==3)=false:=by simp [o1]
   have q5:(x.op==5)=false:=by simp [o1]
   have q23:(x.op==23)=false:=by simp [o1]
   have q24:(x.op==24)=false:=by simp [o1]
   have q4:(x.op==4)=false:=by simp [o1]
   have q21:(x.op==21)=false:=by simp [o1]
   have q22:(x.op==22)=false:=by simp [o1]
   have hf:=QS HX.out o1;have HF:=yq hf;have HO:=yq o1;clear o1 hf
   go_wp2_with fail
   go_meet
   exact HMID.out x.a _ growsR (by have:=HF.out;omega) zH zH (by rw [Sa HO.out,if_neg (by have:=HF.out;omega)])
  have hrest:=xZ HX.out o1;by_cases o2:x.op=2
  ·have q1:(x.op==1)=false:=by simp [o2]
   have q2:(x.op==2)=true:=by simp [o2]
   have q3:(x.op==3)=false:=by simp [o2]
   have q5:(x.op==5)=false:=by simp [o2]
   have q23:(x.op==23)=false:=by simp [o2]
   have q24:(x.op==24)=false:=by simp [o2]
   have q4:(x.op==4)=false:=by simp [o2]
   have q21:(x.op==21)=false:=by simp [o2]
   have q22:(x.op==22)=false:=by simp [o2]
   have ha:=hrest.2.1 o2;have HI:=yq (fun w=>pg x.a w);unfold Mm at HI;rw [decide_eq_true ha,show Jm x.a=lJ.getD x.a.toNat 0 from by unfold Jm;rw [if_pos ha]]at HI;have HD:=yq (Cw (k:=x.a.toNat) zb);have HO:=yq o2;have HAB:=yq (R9 (s:=t) o2);obtain⟨p,hp⟩:∃p,lJ.getD x.a.toNat 0=p:=⟨_,rfl⟩;rw [hp]at HI HD HAB;clear o1 o2 hrest ha hp
   go_wp2_with (go_at_call 110;refine gv (HI.out _) ?_;intro bs d)
   go_meet
   exact HMID.out p _ growsR (by have:=HD.out;omega) zH zH (by rw [HAB.out,if_neg (by have:=HD.out;omega)])
  by_cases o3:x.op=3
  ·have q1:(x.op==1)=false:=by simp [o3]
   have q2:(x.op==2)=false:=by simp [o3]
   have q3:(x.op==3)=true:=by simp [o3]
   have q5:(x.op==5)=false:=by simp [o3]
   have q23:(x.op==23)=false:=by simp [o3]
   have q24:(x.op==24)=false:=by simp [o3]
   have q4:(x.op==4)=false:=by simp [o3]
   have q21:(x.op==21)=false:=by simp [o3]
   have q22:(x.op==22)=false:=by simp [o3]
   have ha:=hrest.2.2.1 (.inl o3);obtain⟨k,hk⟩:∃k:Nat,x.a=(k:Int):=⟨x.a.toNat,by omega⟩;have hk2:k<t.2.length:=by have:=H56.out.2.2.2;omega
   obtain⟨a9',k9',h9,hg9⟩:=eY HR9.out;obtain⟨rfl,rfl⟩:a9=a9'/\k9=k9':=by simpa using h9
   rcases hg9 with h0|⟨g9,rfl,hg9,c9⟩
   ·omega
   have ck:=c9 k hk2;have dk:(k:Int)<(t.2.length:Int):=by omega
   have dk0:(0:Int)<=(k:Int):=by omega
   rw [hk]at xx1;have HAB:=R8 (s:=t) o3;rw [show x.a.toNat=k by omega]at HAB;have HP0:Hid (0<=t.2.getD k 0):=yq (H56.out.2.1 _ (by rw [getD_eq_getElem?_getD,getElem?_eq_getElem hk2];exact getElem_mem _));have HO:=yq o3;obtain⟨p,hp⟩:∃p,t.2.getD k 0=p:=⟨_,rfl⟩;rw [hp]at HAB HP0 ck;clear o1 o2 o3 hrest ha hp h9 hk c9 hk2;by_cases hp0:p=0
   ·have HN:=yq (show gm x t=none by rw [HAB,if_pos hp0]);subst hp0;clear HAB
    go_wp2_with fail
    go_returns
    exact HNO.out _ growsR HN.out
   ·have hpe:(p==0)=false:=by simpa using hp0
    rw [if_neg hp0]at HAB;have HAC:=yq HAB;have HPN:=yq hp0;clear HAB hp0
    go_wp2_with fail
    go_meet
    exact HMID.out p _ growsR HP0.out zH zH (by rw [HAC.out,if_neg HPN.out])
  by_cases o5:x.op=5
  ·have q1:(x.op==1)=false:=by simp [o5]
   have q2:(x.op==2)=false:=by simp [o5]
   have q3:(x.op==3)=false:=by simp [o5]
   have q5:(x.op==5)=true:=by simp [o5]
   have q23:(x.op==23)=false:=by simp [o5]
   have q24:(x.op==24)=false:=by simp [o5]
   have q4:(x.op==4)=false:=by simp [o5]
   have q21:(x.op==21)=false:=by simp [o5]
   have q22:(x.op==22)=false:=by simp [o5]
   have HO:=yq o5;clear o1 o2 o3 o5 hrest
   go_wp2_with fail
   go_meet
   exact HMID.out 4 _ growsR zb zH zH (by rw [R7 HO.out,if_neg zb])
  by_cases o23:x.op=23\/x.op=24
  ·have HO:=yq o23;clear o1 o2 o3 o5 hrest;rcases o23 with o23|o23
   focus
    have q1:(x.op==1)=false:=by simp [o23]
    have q2:(x.op==2)=false:=by simp [o23]
    have q3:(x.op==3)=false:=by simp [o23]
    have q5:(x.op==5)=false:=by simp [o23]
    have q23:(x.op==23)=true:=by simp [o23]
    have q24:(x.op==24)=false:=by simp [o23]
   rotate_left
   focus
    have q1:(x.op==1)=false:=by simp [o23]
    have q2:(x.op==2)=false:=by simp [o23]
    have q3:(x.op==3)=false:=by simp [o23]
    have q5:(x.op==5)=false:=by simp [o23]
    have q23:(x.op==23)=false:=by simp [o23]
    have q24:(x.op==24)=true:=by simp [o23]
   rotate_left
   all_goals
    have q4:(x.op==4)=false:=by simp [o23]
    have q21:(x.op==21)=false:=by simp [o23]
    have q22:(x.op==22)=false:=by simp [o23]
    clear o23
    go_wp2_with fail
    go_meet
    exact HMID.out 1 _ growsR zb zH zH (by rw [Qw HO.out,if_neg zb])
  by_cases he:t.1= []/\(x.op=4\/x.op=22)
  ·have hl0:((t.1.length:Nat):Int)<1:=by rw [he.1];simp
   have HN:Hid (gm x t=none):=yq (by
    rcases he.2 with o|o
    ·rw [Nl o,if_pos he.1]
    ·rw [GY o,if_pos (.inl he.1)])
   rcases he.2 with o|o
   ·have q1:(x.op==1)=false:=by simp [o]
    have q2:(x.op==2)=false:=by simp [o]
    have q3:(x.op==3)=false:=by simp [o]
    have q5:(x.op==5)=false:=by simp [o]
    have q23:(x.op==23)=false:=by simp [o]
    have q24:(x.op==24)=false:=by simp [o]
    have q4:(x.op==4)=true:=by simp [o]
    have q21:(x.op==21)=false:=by simp [o]
    have q22:(x.op==22)=false:=by simp [o]
    clear he o o1 o2 o3 o5 o23 hrest
    go_wp2_with fail
    go_returns
    exact HNO.out _ growsR HN.out
   ·have q1:(x.op==1)=false:=by simp [o]
    have q2:(x.op==2)=false:=by simp [o]
    have q3:(x.op==3)=false:=by simp [o]
    have q5:(x.op==5)=false:=by simp [o]
    have q23:(x.op==23)=false:=by simp [o]
    have q24:(x.op==24)=false:=by simp [o]
    have q4:(x.op==4)=false:=by simp [o]
    have q21:(x.op==21)=false:=by simp [o]
    have q22:(x.op==22)=true:=by simp [o]
    clear he o o1 o2 o3 o5 o23 hrest
    go_wp2_with fail
    go_returns
    exact HNO.out _ growsR HN.out
  by_cases o4:x.op=4
  ·have hne:t.1≠[]:=fun e=>he ⟨e,.inl o4⟩;have q1:(x.op==1)=false:=by simp [o4]
   have q2:(x.op==2)=false:=by simp [o4]
   have q3:(x.op==3)=false:=by simp [o4]
   have q5:(x.op==5)=false:=by simp [o4]
   have q23:(x.op==23)=false:=by simp [o4]
   have q24:(x.op==24)=false:=by simp [o4]
   have q4:(x.op==4)=true:=by simp [o4]
   have q21:(x.op==21)=false:=by simp [o4]
   have q22:(x.op==22)=false:=by simp [o4]
   have ha:=hrest.2.2.1 (.inr o4);have HAB:=yq (Nl (s:=t) o4);rw [if_neg hne]at HAB;obtain⟨k,hk⟩:∃k:Nat,x.a=(k:Int):=⟨x.a.toNat,by omega⟩;rw [show x.a.toNat=k by omega]at HAB;have HO:=yq o4;have hk2:k<t.2.length:=by have:=H56.out.2.2.2;omega
   obtain⟨q,hq⟩:∃q,t.1.length=q+1:=⟨t.1.length-1,by have:t.1.length≠0:=fun e=>hne (eq_nil_of_length_eq_zero e);omega⟩;have hqi:((t.1.length:Nat):Int)-1=(q:Int):=by omega
   have hqq:IntKind.i64.wrap (q:Int)=(q:Int):=IntWalk.i64_in _ zb;have hq3:(q:Int)<(q:Int)+1:=by omega
   have hqw:IntKind.i64.wrap (((t.1.length:Nat):Int)-1)=(q:Int):=by rw [hqi];exact IntWalk.i64_in _ zb
   have hq1:¬((t.1.length:Nat):Int)<1:=by omega
   have hq2:(q:Int)<((t.1.length:Nat):Int):=by omega
   have hq0:(0:Int)<=(q:Int):=by omega
   obtain⟨a8',k8',h8,hg8⟩:=eY HR8.out;obtain⟨rfl,rfl⟩:a8=a8'/\k8=k8':=by simpa using h8
   rcases hg8 with h0|⟨g8,rfl,hg8,c8⟩
   ·omega
   have c8q:=c8 q zb
   have hlast:t.1.getD q 0=t.1.getLastD 0:=by
    have e:t.1.length-1=q:=by omega
    rw [getLastD_eq_getLast?,getLast?_eq_getElem?,e,getD_eq_getElem?_getD]
   rw [hlast]at c8q
   have hcap8:q<=k8:=by
    rcases mW HR8.out with ⟨e,-⟩|⟨g,cap,e,-,-,hc⟩
    ·simp at e
    ·obtain⟨-,rfl⟩:_/\k8=cap:=by simpa using e
     omega
   have hdl:t.1.take q=t.1.dropLast:=by rw [dropLast_eq_take,hq,Nat.add_sub_cancel]
   clear h8 c8 hlast hq hqi;obtain⟨a9',k9',h9,hg9⟩:=eY HR9.out;obtain⟨rfl,rfl⟩:a9=a9'/\k9=k9':=by simpa using h9
   rcases hg9 with h0|⟨g9,rfl,hg9,c9⟩
   ·omega
   have ck:=c9 k hk2;have f9:w2.frozen? ⟨g9,k,none⟩=false:=HR9.out.frozenAt k;have dk:(k:Int)<(t.2.length:Int):=by omega
   have dk0:(0:Int)<=(k:Int):=by omega
   rw [hk]at xx1;have hgg:w1.heap.size<=g9:=HB9.out g9 rfl;have hg8b:=HB8.out g8 rfl
   have HSET:Hid (∀W',(w2.setCell ⟨g9,k,none⟩ (.int .i64 (t.1.getLastD 0))).Grows W'->Dz l.length NS sl.length W0 T t x (.slice (some ⟨g8,0,none⟩) q k8) (.slice (some ⟨g9,0,none⟩) t.2.length k9) (.int .i64 0) W'):=yq (fun W' hg=>by
    have hm:bE (fun b=>b=g9) w2 (w2.setCell ⟨g9,k,none⟩ (.int .i64 (t.1.getLastD 0))):=bE.setCell _ _ _ _ rfl;have hwg:w.Grows W':=gqq (.of_below (HG2.out.below.setCell (p:=⟨g9,k,none⟩) (by show w.heap.size<=g9;omega) _)) hg
    have r8:W'.ownsRow (w.heap.size+2) 3 1 (.slice (some ⟨g8,0,none⟩) q k8) t.1.dropLast.length (t.1.dropLast.map (Value.int .i64)):=by
     have h0:=Ai (m:=q) HR8.out zb;rw [hdl]at h0
     exact bE.row (P:=fun _=>False) (.grows hg) (hm.row h0 fun b hb e=>by
      have:g8=b:=by simpa [Value.ownBlock]using hb
      omega) fun _ _ e=>e
    have r9:W'.ownsRow (w.heap.size+2) 3 1 (.slice (some ⟨g9,0,none⟩) t.2.length k9) (t.2.set k (t.1.getLastD 0)).length ((t.2.set k (t.1.getLastD 0)).map (Value.int .i64)):=by
     rw [length_set,map_set];exact bE.row (P:=fun _=>False) (.grows hg) (HR9.out.stored k (.int .i64 (t.1.getLastD 0))).1 fun _ _ e=>e
    refine⟨t.1.dropLast,t.2.set k (t.1.getLastD 0),0,T,Rs,Rl,w.heap.size+2,rfl,by omega,by have:=HO.out;omega,r8,r9,by have:=hg.below.size;simp [World.setCell]at this;omega,by omega,by rw [HAB.out,if_pos rfl],.inl ⟨by have:=HO.out;omega,rfl⟩,HW.out.grows hwg,fun b e=>HSEP.out b ?_,fun b e=>HSEP.out b ?_,fun b e e2=>?_,by rw [length_dropLast];have:=H56.out.2.2.1;omega,by rw [length_set];exact H56.out.2.2.2,fun z hz=>H56.out.1 z (dropLast_subset _ hz),fun z hz=>?_,fun b e=>?_,fun b e=>?_,fun h=>absurd rfl h⟩
    ·have:g8=b:=by simpa [Value.ownBlock]using e
     omega
    ·have:g9=b:=by simpa [Value.ownBlock]using e
     omega
    ·have h1:g8=b:=by simpa [Value.ownBlock]using e
     have h2:g9=b:=by simpa [Value.ownBlock]using e2
     omega
    ·rcases mem_or_eq_of_mem_set hz with hz|rfl
     ·exact H56.out.2.1 z hz
     ·have:=H56.out.1 _ (Ci hne);omega
    ·have:g8=b:=by simpa [Value.ownBlock]using e
     omega
    ·have:g9=b:=by simpa [Value.ownBlock]using e
     omega)
   generalize t.1.getLastD 0=z at *;generalize t.2.getD k 0=z9 at *;clear he hne ha hk hk2 h9 c9 o4 o1 o2 o3 o5 o23 hrest hgg hg8b hdl
   go_wp2_with fail
   refine TS.begin [9] (World.Grows w2) ze ze grows_drew0 (fun hS=>?_);refine kq 0 hS ?_;refine kq 1 hS ?_;refine kq 2 hS ?_;refine kq 3 hS ?_;refine kq 4 hS ?_;refine kq 5 hS ?_;refine kq 6 hS ?_;refine kq 7 hS ?_;refine kq 8 hS ?_;refine TS.weB 9 ?_;clear hS
   go_wp2_with fail
   go_meet
   exact HSET.out _ growsR
  by_cases o21:x.op=21
  ·have q1:(x.op==1)=false:=by simp [o21]
   have q2:(x.op==2)=false:=by simp [o21]
   have q3:(x.op==3)=false:=by simp [o21]
   have q5:(x.op==5)=false:=by simp [o21]
   have q23:(x.op==23)=false:=by simp [o21]
   have q24:(x.op==24)=false:=by simp [o21]
   have q4:(x.op==4)=false:=by simp [o21]
   have q21:(x.op==21)=true:=by simp [o21]
   have q22:(x.op==22)=false:=by simp [o21]
   have ha:=hrest.2.2.2.2.1 (.inl o21);have hj0:0<=x.a:=by omega
   have hj1:x.a<(l.length:Int)+1:=by omega
   have HMT:=yq (fun W (hg:w2.Grows W)=>(HW.out.grows (gqq HG2.out hg)).meet (k:=x.a.toNat) (s:=t) (vz:=.slice a8 t.1.length k8) (vl:=.slice a9 t.2.length k9) zb (bE.row (P:=fun _=>False) (.grows hg) HR8.out fun _ _ e=>e) (bE.row (P:=fun _=>False) (.grows hg) HR9.out fun _ _ e=>e) H56.out.2.2.1 H56.out.2.2.2 hm H56.out.1 H56.out.2.1 (fun e=>by have:=(HB8.out NS e).1;omega) (fun e=>by have:=HB9.out NS e;omega) (fun b e=>HSEP.out b (by have:=(HB8.out b e).1;omega)) (fun b e=>HSEP.out b zN));have HRN:=yq (Oo HTT.out o21);clear he o4 o1 o2 o3 o5 o23 hrest ha o21
   go_wp2_with (go_at_call 53;refine(HMT.out _ growsR).mono ?_;rintro e' w3 ⟨bb,rfl,hbl,hsz,-,hcc⟩)
   go_returns
   refine⟨bb,rfl,hbl, ?_⟩;rcases hcc with ⟨rfl,hp⟩|⟨rfl,T',Rs',Rl',hp,hv,-⟩
   ·exact .inl ⟨rfl,HRN.out.trans hp⟩
   ·exact .inr ⟨rfl,T',Rs',Rl',HRN.out.trans hp,hv⟩
  by_cases o22:x.op=22
  ·have hne:t.1≠[]:=fun e=>he ⟨e,.inr o22⟩;have q1:(x.op==1)=false:=by simp [o22]
   have q2:(x.op==2)=false:=by simp [o22]
   have q3:(x.op==3)=false:=by simp [o22]
   have q5:(x.op==5)=false:=by simp [o22]
   have q23:(x.op==23)=false:=by simp [o22]
   have q24:(x.op==24)=false:=by simp [o22]
   have q4:(x.op==4)=false:=by simp [o22]
   have q21:(x.op==21)=false:=by simp [o22]
   have q22:(x.op==22)=true:=by simp [o22]
   obtain⟨q,hq⟩:∃q,t.1.length=q+1:=⟨t.1.length-1,by have:t.1.length≠0:=fun e=>hne (eq_nil_of_length_eq_zero e);omega⟩;have hqi:((t.1.length:Nat):Int)-1=(q:Int):=by omega
   have hqq:IntKind.i64.wrap (q:Int)=(q:Int):=IntWalk.i64_in _ zb;have hq3:(q:Int)<(q:Int)+1:=by omega
   have hqw:IntKind.i64.wrap (((t.1.length:Nat):Int)-1)=(q:Int):=by rw [hqi];exact IntWalk.i64_in _ zb
   have hq1:¬((t.1.length:Nat):Int)<1:=by omega
   have hq2:(q:Int)<((t.1.length:Nat):Int):=by omega
   have hq0:(0:Int)<=(q:Int):=by omega
   obtain⟨a8',k8',h8,hg8⟩:=eY HR8.out;obtain⟨rfl,rfl⟩:a8=a8'/\k8=k8':=by simpa using h8
   rcases hg8 with h0|⟨g8,rfl,hg8,c8⟩
   ·omega
   have c8q:=c8 q zb
   have hlast:t.1.getD q 0=t.1.getLastD 0:=by
    have e:t.1.length-1=q:=by omega
    rw [getLastD_eq_getLast?,getLast?_eq_getElem?,e,getD_eq_getElem?_getD]
   rw [hlast]at c8q
   have hcap8:q<=k8:=by
    rcases mW HR8.out with ⟨e,-⟩|⟨g,cap,e,-,-,hc⟩
    ·simp at e
    ·obtain⟨-,rfl⟩:_/\k8=cap:=by simpa using e
     omega
   have hdl:t.1.take q=t.1.dropLast:=by rw [dropLast_eq_take,hq,Nat.add_sub_cancel]
   clear h8 c8 hlast hq hqi;have HO:=yq o22;have HAB:=yq (GY (s:=t) o22);by_cases hl1:t.1.getLastD 0=1
   ·rw [if_neg (fun c=>c.elim hne (fun c=>c hl1))]at HAB;rw [hl1]at c8q;have ha:=hrest.2.2.2.2.1 (.inr o22);have hj0:0<=x.a:=by omega
    have hj1:x.a<(l.length:Int)+1:=by omega
    have r8:=Ai (m:=q) HR8.out zb;rw [hdl]at r8;have hg8b:=HB8.out g8 rfl;have hs8:∀b,(Value.slice (some ⟨g8,0,none⟩) q k8).ownBlock=some b->g8=b:=fun b e=>by simpa [Value.ownBlock]using e
    have HS8:=yq hs8;have HMT:=yq (fun W (hg:w2.Grows W)=>(HW.out.grows (gqq HG2.out hg)).meet (k:=x.a.toNat) (s:=(t.1.dropLast,t.2)) (vz:=.slice (some ⟨g8,0,none⟩) q k8) (vl:=.slice a9 t.2.length k9) zb (bE.row (P:=fun _=>False) (.grows hg) r8 fun _ _ e=>e) (bE.row (P:=fun _=>False) (.grows hg) HR9.out fun _ _ e=>e) (by rw [length_dropLast];have:=H56.out.2.2.1;omega) H56.out.2.2.2 hm (fun z hz=>H56.out.1 z (dropLast_subset _ hz)) H56.out.2.1 (fun e=>by have:=hs8 NS e;omega) (fun e=>by have:=HB9.out NS e;omega) (fun b e=>HSEP.out b (by have:=hs8 b e;omega)) (fun b e=>HSEP.out b zN));have HR8':=yq r8;have HG8B:=yq hg8b;clear he hne o4 o1 o2 o3 o5 o23 o21 hrest ha o22 hl1 r8 hg8b hs8 hdl;have hw8:g8<w2.heap.size:=(HR8'.out.lt g8 rfl).2
    go_wp2_with fail
    go_at_call 53
    refine(HMT.out _ growsR).mono ?_;rintro e' w3 ⟨bb,rfl,hbl,hsz,hbk,⟨rfl,hp⟩|⟨rfl,T',Rs',Rl',hp,hv,hsp⟩⟩
    ·have HEN:Hid (∀W,w3.Grows W->StpRv l.length NS sl.length W0 T x i (.returned (.bool false)) W):=yq (fun W hg=>⟨false,rfl,hbl.trans (hg.below.mono zb),.inl ⟨rfl,Ij HTT.out HAB.out HO.out hp⟩⟩);clear hbl hbk hp
     go_wp2_with fail
     go_returns
     exact HEN.out _ growsR
    ·have HEN:Hid (∀W,w3.Grows W->Dz l.length NS sl.length W0 T t x (.slice (some ⟨g8,0,none⟩) q k8) (.slice a9 t.2.length k9) (.int .i64 0) W):=yq (fun W hg=>by
      have hn8:∀b,(Value.slice (some ⟨g8,0,none⟩) q k8).ownBlock=some b->g8=b:=HS8.out;have rr8:=wO HR8'.out (w':=w3) (fun b e=>hbk b (by have:=hn8 b e;omega) (by have:=hn8 b e;have:=HG8B.out;omega) (HSEP.out b (by have:=hn8 b e;have:=HG8B.out;omega)));have rr9:=wO HR9.out (w':=w3) (fun b e=>hbk b (HR9.out.lt b e).2 zN (HSEP.out b zN));refine⟨t.1.dropLast,t.2,0,T',Rs',Rl',w.heap.size+2,rfl,by omega,by have:=HO.out;omega,bE.row (P:=fun _=>False) (.grows hg) rr8 fun _ _ e=>e,bE.row (P:=fun _=>False) (.grows hg) rr9 fun _ _ e=>e,by have:=hg.below.size;omega,by omega,by rw [HAB.out,if_pos rfl],.inr ⟨HO.out,rfl,hp⟩,hv.grows hg,fun b e=>hsp b ?_ (HSEP.out b ?_),fun b e=>hsp b (HR9.out.lt b e).2 (HSEP.out b zN),fun b e e2=>?_,by rw [length_dropLast];have:=H56.out.2.2.1;omega,H56.out.2.2.2,fun z hz=>H56.out.1 z (dropLast_subset _ hz),H56.out.2.1,fun b e=>?_,fun b e=>by have:=HB9.out b e;omega,fun h=>absurd rfl h⟩
      ·have:=hn8 b e;omega
      ·have:=hn8 b e;have:=HG8B.out;omega
      ·have q1:=hn8 b e;have q2:=HB9.out b e2;have:=HG8B.out;omega
      ·have:=hn8 b e;have:=HG8B.out;omega)
     clear hbl hbk hp hv hsp
     go_wp2_with fail
     go_meet
     exact HEN.out _ growsR
   ·rw [if_pos (.inr hl1)]at HAB;have hz1:(t.1.getLastD 0 !=1)=true:=by simpa using hl1
    generalize t.1.getLastD 0=z at *;clear he hne o4 o1 o2 o3 o5 o23 o21 hrest o22 hl1 hdl
    go_wp2_with fail
    go_returns
    exact HNO.out _ growsR HAB.out
  have ho:=hrest.2.2.2.2.2 o2 o3 o4 o5 o21 o22 (fun e=>o23 (.inl e)) (fun e=>o23 (.inr e));have HAB:=R6 (s:=t) (x:=x) ⟨o1,o2,o3,o4,o5,o21,o22,fun e=>o23 (.inl e),fun e=>o23 (.inr e)⟩;have q1:(x.op==1)=false:=by simp;omega
  have q2:(x.op==2)=false:=by simp;omega
  have q3:(x.op==3)=false:=by simp;omega
  have q5:(x.op==5)=false:=by simp;omega
  have q23:(x.op==23)=false:=by simp;omega
  have q24:(x.op==24)=false:=by simp;omega
  have q4:(x.op==4)=false:=by simp;omega
  have q21:(x.op==21)=false:=by simp;omega
  have q22:(x.op==22)=false:=by simp;omega
  have hop:=OU ho;have HOP:=yq (fun w=>wQ x.op w);have HAR:=yq (fun w=>kI (opF x.op) w);rw [Dv hop]at HAR;have HO:=yq (And.intro o21 o22);obtain⟨ar,har⟩:∃ar,fZ (opF x.op)=ar:=⟨_,rfl⟩;have har2:ar=1\/ar=2:=by rw [<-har];unfold fZ;split<;>omega
  have harg:aJ (opF x.op)=(ar:Int):=by rw [Dv hop,har]
  rw [har]at HAR HAB;obtain⟨op,hope⟩:∃q,opF x.op=q:=⟨_,rfl⟩;rw [hope]at HOP HAR HAB hop harg;clear he o4 o1 o2 o3 o5 o23 o21 o22 hrest ho har hope;by_cases hlt:t.1.length<ar
  ·have d9:((t.1.length:Nat):Int)<(ar:Int):=by omega
   rw [if_pos hlt]at HAB;have HAC:=yq HAB;clear HAB hlt
   go_wp2_with (first
    |(go_at_call 58;refine gw (HOP.out _) ?_)
    |(go_at_call 59;refine gw (HAR.out _) ?_))
   go_returns
   exact HNO.out _ growsR HAC.out
  rw [if_neg hlt]at HAB;obtain⟨m',hm'⟩:∃m',t.1.length-ar=m':=⟨_,rfl⟩;rw [hm']at HAB;have hmi:((t.1.length:Nat):Int)-(ar:Int)=(m':Int):=by omega
  have hmw:IntKind.i64.wrap (((t.1.length:Nat):Int)-(ar:Int))=(m':Int):=by rw [hmi];exact IntWalk.i64_in _ zb
  have hmm:IntKind.i64.wrap (m':Int)=(m':Int):=IntWalk.i64_in _ zb;have d9:¬((t.1.length:Nat):Int)<(ar:Int):=by omega
  have hle:m'<=t.1.length:=by omega
  have hlei:(m':Int)<=((t.1.length:Nat):Int):=by omega
  have hL:t.1.length-m'=ar:=by omega
  obtain⟨a8',k8',h8,hg8⟩:=eY HR8.out;obtain⟨rfl,rfl⟩:a8=a8'/\k8=k8':=by simpa using h8
  rcases hg8 with h0|⟨g8,rfl,hg8,c8⟩
  ·omega
  have hcap8:t.1.length<=k8:=by
   rcases mW HR8.out with ⟨e,-⟩|⟨g,cap,e,-,-,hc⟩
   ·simp at e
   ·obtain⟨-,rfl⟩:_/\k8=cap:=by simpa using e
    exact hc
  have hdlen:(t.1.drop m').length=ar:=by rw [length_drop];omega
  have HRS:Hid (∀W,w2.Grows W->∀cap,Calls prog 90 #[.int .i64 op,.slice (some ⟨g8,m',none⟩) ar cap] W (eH (ag op (t.1.drop m')) W)):=yq (fun W hg cap=>by
   rw [<-hdlen];refine KW op (t.1.drop m') g8 m' cap W hop.1 hop.2 (by rw [hdlen,harg]) (fun z hz=>H56.out.1 z (mem_of_mem_drop hz)) (fun k hk=>?_);rw [World.cell?_of_block (a:=⟨g8,m'+k,none⟩) (hg.below.block g8 hg8),c8 _ (by rw [length_drop]at hk;omega)]
   simp only [getD_eq_getElem?_getD,getElem?_drop])
  unfold eH at HRS;have HPP:=yq (fun(h:ag op (t.1.drop m')≠0)=>BC (fun z hz=>H56.out.1 z (mem_of_mem_drop hz)) h);have r8:=Ai (m:=m') HR8.out hle;have HR8':=yq r8;have htl:(t.1.take m').length=m':=by rw [length_take];omega
  have HTL:=yq htl;have hg8b:=HB8.out g8 rfl;have HG8B:=yq hg8b;obtain⟨p,hp⟩:∃p,ag op (t.1.drop m')=p:=⟨_,rfl⟩;rw [hp]at HRS HPP HAB;clear h8 c8 hm' hmi hdlen r8 hlt hop harg hp htl hg8b;by_cases hp0:p=0
  ·rw [if_pos hp0]at HAB;have HAC:=yq HAB;subst hp0;clear HAB
   go_wp2_with (first
    |(go_at_call 58;refine gw (HOP.out _) ?_)
    |(go_at_call 59;refine gw (HAR.out _) ?_)
    |(go_at_call 90;refine gv (HRS.out _ growsR _) ?_;intro bs d))
   go_returns
   exact HNO.out _ growsR HAC.out
  ·rw [if_neg hp0]at HAB;have HAC:=yq HAB;have hpe:(p==0)=false:=by simpa using hp0
   have HP0:=yq hp0;have HS8:Hid (∀b,(Value.slice (some ⟨g8,0,none⟩) m' k8).ownBlock=some b->g8=b):=yq (fun b e=>by simpa [Value.ownBlock]using e)
   have HEN:Hid (∀W,w2.Grows W->Dz l.length NS sl.length W0 T t x (.slice (some ⟨g8,0,none⟩) m' k8) (.slice a9 t.2.length k9) (.int .i64 p) W):=yq (fun W hg=>by
    refine⟨t.1.take m',t.2,p,T,Rs,Rl,w.heap.size+2,rfl,by have:=HPP.out HP0.out;omega,HO.out.1,bE.row (P:=fun _=>False) (.grows hg) HR8'.out fun _ _ e=>e,bE.row (P:=fun _=>False) (.grows hg) HR9.out fun _ _ e=>e,by have:=hg.below.size;omega,by omega,by rw [HAC.out,if_neg HP0.out],.inl ⟨HO.out.2,rfl⟩,HW.out.grows (gqq HG2.out hg),fun b e=>HSEP.out b ?_,fun b e=>HSEP.out b zN,fun b e e2=>?_,by rw [HTL.out];have:=H56.out.2.2.1;omega,H56.out.2.2.2,fun z hz=>H56.out.1 z (mem_of_mem_take hz),H56.out.2.1,fun b e=>?_,fun b e=>by have:=HB9.out b e;omega,fun _ b j u e hu=>⟨fun e2=>?_,fun e2=>?_⟩⟩
    ·have:=HS8.out b e;have:=HG8B.out;omega
    ·have q1:=HS8.out b e;have q2:=HB9.out b e2;have:=HG8B.out;omega
    ·have:=HS8.out b e;have:=HG8B.out;omega
    ·have q1:=HS8.out b e;have:=((HW.out.row j u hu).1.lt b e2).2;have:=HG8B.out;omega
    ·have q1:=HS8.out b e;have:=((HW.out.row j u hu).2.1.lt b e2).2;have:=HG8B.out
     omega)
   clear HAB hp0
   go_wp2_with (first
    |(go_at_call 58;refine gw (HOP.out _) ?_)
    |(go_at_call 59;refine gw (HAR.out _) ?_)
    |(go_at_call 90;refine gv (HRS.out _ growsR _) ?_;intro bs d))
   go_meet
   exact HEN.out _ growsR
 obtain⟨zs,ls,p,T1,Rs1,Rl1,B,rfl,hp0,h21,r8,r9,hB,hNB,hap,hT1,hv,s8,s9,d89,l24,lm,pz,pl,b8,b9,sA⟩:=hcut;obtain⟨va8,vk8,rfl⟩:=dG r8;obtain⟨va9,vk9,rfl⟩:=dG r9;have HIN:Hid (i+1<=l.length):=yq zb;obtain⟨q,hq⟩:∃q,i+1=q:=⟨_,rfl⟩;have hqw:IntKind.i64.wrap ((i:Int)+1)=(q:Int):=by rw [<-hq,IntWalk.i64_in _ zb];rfl
 have hqi:(i:Int)+1=(q:Int):=by omega
 have hqq:IntKind.i64.wrap (q:Int)=(q:Int):=IntWalk.i64_in _ zb;have hq0:(0:Int)<=(q:Int):=by omega
 have hq1:(q:Int)<(l.length:Int)+1:=by omega
 have HQ:=yq hq;by_cases hpz:p=0
 ·rw [if_pos hpz]at hap;have d24:¬(24:Int)<(zs.length:Int):=by omega
  have HRN:Hid (nU T x i=fQ T1 q (zs,ls)):=yq (by rw [BA HTT.out hap h21 (hT1.imp id fun h=>⟨h.1,h.2.2⟩),if_neg (by show ¬24<zs.length;omega),hq]);have HMT:=yq (fun W (hg:wc.Grows W)=>(hv.grows hg).meet (k:=q) (s:=(zs,ls)) (vz:=.slice va8 zs.length vk8) (vl:=.slice va9 ls.length vk9) zb (bE.row (P:=fun _=>False) (.grows hg) r8 fun _ _ e=>e) (bE.row (P:=fun _=>False) (.grows hg) r9 fun _ _ e=>e) l24 lm hm pz pl (fun e=>by have:=b8 NS e;omega) (fun e=>by have:=b9 NS e;omega) s8 s9);subst hpz;clear hap hT1 hv s8 s9 d89 l24 lm pz pl b8 b9 sA r8 r9 hq h21
  go_wp2_with (go_at_call 53;refine(HMT.out _ growsR).mono ?_;rintro e' w3 ⟨bb,rfl,hbl,hsz,-,hcc⟩)
  go_returns
  refine⟨bb,rfl,hbl, ?_⟩;rcases hcc with ⟨rfl,hp⟩|⟨rfl,T',Rs',Rl',hp,hv,-⟩
  ·exact .inl ⟨rfl,HRN.out.trans hp⟩
  ·exact .inr ⟨rfl,T',Rs',Rl',HRN.out.trans hp,hv⟩
 ·rw [if_neg hpz]at hap;have hpe:(p==0)=false:=by simpa using hpz
  have hpn:(p !=0)=true:=by simpa using hpz
  obtain⟨i0,hi0,hz0,hz1,hz2⟩:=info_parts EL;have HR8a:=yq r8
  have HFIN:Hid (∀g cp w3,w3.ownsRow B 3 1 (.slice (some ⟨g,0,none⟩) (zs.length+1) cp) (zs.length+1) (zs.map (Value.int .i64)++[.int .i64 p])->wc.grownBy w3 (Value.slice va8 zs.length vk8).ownBlock->((Value.slice va8 zs.length vk8).ownBlock=some g\/wc.heap.size<=g)->
   (24<zs.length+1->∀W,w3.Grows W->StpRv l.length NS sl.length W0 T x i (.returned (.bool false)) W)/\(¬24<zs.length+1->∀W,w3.Grows W->Calls prog 53 #[.pointer (some ⟨NS,q*3,none⟩),.slice (some ⟨g,0,none⟩) (zs.length+1) cp,.slice va9 ls.length vk9] W (StpRv l.length NS sl.length W0 T x i))):=yq (fun g cp w3 hown hgr hgg=>by
   have hmd:bE (fun b=>(Value.slice va8 zs.length vk8).ownBlock=some b) wc w3:=bE.grown hgr fun _ e=>e;have hv3:mF l.length NS sl.length W0 T1 Rs1 Rl1 w3:=hv.mods hmd (fun b e=>by have:=b8 b e;omega) (sA hpz);have hlen:(zs++[p]).length=zs.length+1:=by simp
   have hrow:w3.ownsRow B 3 1 (.slice (some ⟨g,0,none⟩) (zs.length+1) cp) (zs++[p]).length ((zs++[p]).map (Value.int .i64)):=by rw [hlen,map_append];exact hown
   have r9':=hmd.row r9 (fun b e e2=>d89 b e2 e)
   have hgS:Bg T1 Rl1 g:=by
    rcases hgg with e|e
    ·exact s8 g e
    ·intro k u hu e2;have:=((hv.row k u hu).2.1.lt g e2).2;omega
   have hgN:NS<g:=by
    rcases hgg with e|e
    ·have:=b8 g e;omega
    ·have:=hv.sz;omega
   have hend:=BA HTT.out hap h21 (hT1.imp id fun h=>absurd h.2.1 hpz);refine⟨fun h24 W hg=>⟨false,rfl,hv3.lo.trans (hg.below.mono (by have:=hv3.sz;omega)),.inl ⟨rfl,by rw [hend,if_pos (by show 24<(zs++[p]).length;omega)]⟩⟩,fun h24 W hg=>?_⟩;rw [if_neg (by show ¬24<(zs++[p]).length;omega),hq]at hend;refine((hv3.grows hg).meet (k:=q) (s:=(zs++[p],ls)) (vz:=.slice (some ⟨g,0,none⟩) (zs.length+1) cp) (vl:=.slice va9 ls.length vk9) zb (bE.row (P:=fun _=>False) (.grows hg) hrow fun _ _ e=>e) (bE.row (P:=fun _=>False) (.grows hg) r9' fun _ _ e=>e) (by show(zs++[p]).length<=24;omega) lm hm (fun z hz=>?_) pl (fun e=>?_) (fun e=>by have:=b9 NS e;omega) (fun b e=>?_) s9).mono ?_
   ·rcases mem_append.1 hz with hz|hz
    ·exact pz z hz
    ·obtain rfl:=mem_singleton.1 hz;omega
   ·have:g=NS:=by simpa [Value.ownBlock]using e
    omega
   ·have:g=b:=by simpa [Value.ownBlock]using e
    subst this;exact hgS
   ·rintro e w' ⟨bb,rfl,hbl,hsz,-,hcc⟩;refine⟨bb,rfl,hbl, ?_⟩;rcases hcc with ⟨rfl,hp⟩|⟨rfl,T',Rs',Rl',hp,hv',-⟩
    ·exact .inl ⟨rfl,hend.trans hp⟩
    ·exact .inr ⟨rfl,T',Rs',Rl',hend.trans hp,hv'⟩)
  have HB:=yq hB;have hzl:zs.length<=24:=l24;clear hap hT1 hv s8 s9 d89 l24 lm pz pl b8 b9 sA r8 r9 hq h21 hpz
  go_wp2_with (at_builtin;refine wpList_append_lies _ rfl _ _ 22 rfl B 3 i0 _ 1 8 underlying22 hi0 hz0 hz1 hz2 rfl zf _ _ _ rfl (HR8a.out.alloc _) ⟨wc.heap.size,0,none⟩ 1 1 [.int .i64 p] rfl rfl ?c1 ?c2 zf ?c3 ?c4 ?c5 (wc.heap.size+1) zd ?_)
  case c1=>(refine news_cells _ [_] _ _ ?_);simp
  case c2=>intro u hu;simp at hu;subst hu;rfl
  case c3=>unfold maxLen;omega
  case c4=>omega
  case c5=>have:=HB.out;simp;omega
  intro g cp w3 hown hgrow hgg hgl;have hg2:wc.grownBy w3 (Value.slice va8 zs.length vk8).ownBlock:=⟨hgrow.os,hgrow.tape,hgrow.output,by have:=hgrow.size;simp at this;omega,fun k hk hne=>(hgrow.block k zg hne).trans (Below.heap_alloc wc _ k hk)⟩;obtain⟨hA,hC⟩:=HFIN.out g cp w3 hown hg2 (hgg.imp id fun e=>by omega);by_cases h24:24<zs.length+1
  ·have HA:=yq (hA h24);have d25:(24:Int)<(zs.length:Int)+1:=by omega
   clear hA hC hown hgrow hgg hg2 h24
   go_wp2_with fail
   go_returns
   exact HA.out _ growsR
  ·have HC:=yq (hC h24);have d25:¬(24:Int)<(zs.length:Int)+1:=by omega
   clear hA hC hown hgrow hgg hg2 h24;unfold StpRv at HC
   go_wp2_with (go_at_call 53;refine(HC.out _ growsR).mono ?_;rintro e' w4 ⟨bb,rfl,hrest⟩)
   go_returns
   exact⟨bb,rfl,hrest⟩
def S0(n:Nat):List (Option (List Int × List Bool)):=some ([],List.replicate 12 false)::List.replicate n none
def VrfP(r:Int × Int)(w:World)(e:Ending)(w':World):Prop:=e= .returned (.tuple #[.int .i64 r.1,.int .i64 r.2])/\w.Grows w'
theorem ET{l:List Ins}{sl:List ByteArray}(h:4000<l.length):fu l sl=false:=by unfold fu;rw [decide_eq_false zb];rfl
theorem MF{l:List Ins}{sl:List ByteArray}{k:Nat}(hk:k<l.length)(h:wfF sl.length l.length k (l.getD k default)=false):fu l sl=false:=by
 unfold fu
 have:(List.range l.length).all (fun i=>wfF sl.length l.length i (l.getD i default))=false:=by
  rw [Bool.eq_false_iff];intro hc;rw [all_eq_true]at hc;have:=hc k (mem_range.2 hk);rw [h]at this;cases this
 rw [this];simp
theorem pQ{l:List Ins}{sl:List ByteArray}(h:(eO sl&&decide (bN l).Nodup)=false):fu l sl=false:=by unfold fu;rw [h];simp
theorem Jv{l:List Ins}{sl:List ByteArray}(h4:l.length<=4000)(hw:∀k,k<l.length->wfF sl.length l.length k (l.getD k default)=true)(h:(eO sl&&decide (bN l).Nodup)=true):fu l sl=true:=by
 unfold fu;rw [decide_eq_true h4,h,all_eq_true.2 (fun k hk=>hw k (mem_range.1 hk))];rfl
section
variable {S S1 S2 : List (Option (List Int × List Bool))} {x : Ins} {i dep : Nat} {dims dims' : List Int} {s s' : List Int × List Bool} {r : List Ins}
end
def rsZ:Array Value:=#[.bool false,.slice none 0 0,.slice none 0 0]
theorem Rj:(prog.info? 122).map (fun i=>(i.zero,i.size,i.bytes))=some (some (.agg rsZ),3,56):=by kernel_rfl
theorem Aq(n:Nat)(h:n<=4000)(w:World):(Instr.makeSlice 120 (.int .i64 ((n:Int)+1)) (.int .i64 ((n:Int)+1))).run prog w= .ok (.slice (some ⟨w.heap.size,0,none⟩) (n+1) (n+1)) (w.alloc (.cells (madeCells rsZ ((n+1)*3)) 122)):=
 vN 120 122 (.agg rsZ) 3 56 underlying120 Rj n zb zb w
theorem mF.start(n m:Nat)(W0 W1:World)(h1:W1=W0.alloc (.cells (madeCells rsZ ((n+1)*3)) 122)) :
 mF n W0.heap.size m W0 (List.replicate (n+1) none) (fun _=>.slice none 0 0) (fun _=>.slice none 0 0) W1:=by
 have hn:∀j,(List.replicate (n+1) (none:Option (List Int × List Int))).getD j none=none:=fun j=>by
  rw [getD_eq_getElem?_getD,getElem?_replicate];split<;>rfl
 refine⟨by rw [h1];simp,by rw [h1];exact(Below.refl _ _).alloc (Nat.le_refl _) _,by simp,fun j hj=>?_,fun o=>by rw [h1];exact World.frozen?_alloc_at _ _ _ _ rfl,fun j t ht=>yD,fun j k t u g _ ht=>yD,fun j k t u g ht=>yD⟩;rw [hn,h1];exact Ev (z:=rsZ) rfl zf zb
theorem VerifyR_any(l:List Ins)(sl:List ByteArray)(vi vs:Value)(w:World)(hI:rT w vi l)(hS:FC w vs sl) :
 Calls prog 22 #[.agg #[vi,vs]] w (VrfP (verB l sl) w):=by
 have hno:∀{l:List Ins} {sl:List ByteArray},fu l sl=false->verB l sl=(0,8):=fun h=>by unfold verB;rw [h,if_neg zd]
 have HNO:=yq (fun(h:fu l sl=false)=>hno h);clear hno;have HI:=yq hI;have HS:=yq hS;obtain⟨hl6,ai,ci,rfl,hix⟩:=hI;have HIX:=yq hix;obtain⟨hs6,hmx,as',cs',hcp,rfl,hsx⟩:=hS;have HSX:=yq hsx;have HMX:=yq hmx;clear hix hsx hmx hcp;by_cases h4:4000<l.length
 ·have h4':(4000:Int)<(l.length:Int):=by omega
  have HV:=yq (HNO.out (ET h4));clear h4
  go_enter func22,ntmps22
  go_wp2_with fail
  go_returns
  rw [HV.out];exact⟨rfl,growsR⟩
 have h4':¬(4000:Int)<(l.length:Int):=by omega
 by_cases h12:12<sl.length
 ·have h12':(12:Int)<(sl.length:Int):=by omega
  have HV:=yq (HNO.out (pQ (by unfold eO;rw [decide_eq_false zb];rfl)));clear h4 h12
  go_enter func22,ntmps22
  go_wp2_with fail
  go_returns
  rw [HV.out];exact⟨rfl,growsR⟩
 have h12':¬(12:Int)<(sl.length:Int):=by omega
 have H4:=yq h4;have H12:=yq h12;clear h4 h12
 go_enter func22,ntmps22
 go_upto_block 0 with fail
 go_cut [2,3,4,5]from 11 (fun v2 v3 _ _ wx=>v2= .int .i64 0/\v3= .int .i64 0/\vD sl sl.length/\World.Grows ((w.alloc (.cells #[.slice ai l.length ci,.slice as' sl.length cs'] 58))) wx)
 case first=>
  go_wp2_with fail
  go_loopw [2,3,4] (fun v2 v3 v4 wr=>∃i:Nat,i<=sl.length/\v4= .int .i64 i/\v2= .int .i64 0/\v3= .int .i64 0/\Hid (vD sl i)/\World.Grows ((w.alloc (.cells #[.slice ai l.length ci,.slice as' sl.length cs'] 58))) wr) (fun _ _ v4 _=>sl.length-(intOf v4).toNat)
  case atStart=>exact⟨0,by omega,rfl,rfl,rfl,yq (vD.zero sl),growsR⟩
  case round=>
   obtain⟨i,hi,rfl,rfl,rfl,HK,hg0⟩:=hrel;have HG0:=yq hg0;have hg:w.Grows wr:=gqq growsR hg0;have HG:=yq hg
   have cb1:wr.cell? ⟨w.heap.size,1,none⟩=some (.slice as' sl.length cs'):=by
    rw [World.cell?_of_block (hg0.below.block _ zd),World.cell?_alloc_at _ _ _ _ rfl];rfl
   have hwr:w.heap.size<wr.heap.size:=by have:=hg0.below.size;simp at this;omega
   by_cases hlt:i<sl.length
   ·rcases HSX.out with h0|⟨b,off,rfl,hb,hx⟩
    ·omega
    have d1:(i:Int)<(sl.length:Int):=by omega
    have ci':wr.cell? ⟨b,off+i,none⟩=some (.string (sl.getD i ByteArray.empty)):=(World.cell?_of_block (hg.below.block b hb)).trans (hx i hlt);have HX:Hid (∀wq,wr.Grows wq->∀j,j<sl.length->wq.cell? ⟨b,off+j,none⟩=some (.string (sl.getD j ByteArray.empty))):=yq (fun wq hq j hj=>(World.cell?_of_block ((gqq hg hq).below.block b hb)).trans (hx j hj));have HIW:=yq (fun w=>vF (sl.getD i ByteArray.empty) w (HMX.out _ (by rw [getD_eq_getElem?_getD,getElem?_eq_getElem hlt];exact getElem_mem _)));have hbr:b<wr.heap.size:=by have:=hg.below.size;omega
    have HLT:=yq hlt;clear hx hg hg0 hlt;obtain⟨wo,rfl⟩:∃wo,wo=wr:=⟨_,rfl⟩
    go_wp2_with fail
    go_loopw [2,3,5] (fun v2 v3 v5 wr=>∃k:Nat,k<=i/\v5= .int .i64 k/\v2= .int .i64 0/\v3= .int .i64 0/\wo.Grows wr/\Hid (∀j,j<k->sl.getD j ByteArray.empty≠sl.getD i ByteArray.empty)) (fun _ _ v5 _=>i-(intOf v5).toNat)
    case atStart=>exact⟨0,by omega,rfl,rfl,rfl,growsR,yq (fun j hj=>by omega)⟩
    case round=>
     obtain⟨k,hk,rfl,rfl,rfl,hgq,HD⟩:=hrel;have HGQ:=yq hgq;have cq1:wr.cell? ⟨w.heap.size,1,none⟩=some (.slice (some ⟨b,off,none⟩) sl.length cs'):=(World.cell?_of_block (hgq.below.block _ hwr)).trans cb1;have hwr:w.heap.size<wr.heap.size:=by have:=hgq.below.size;omega
     have hbq:b<wr.heap.size:=by have:=hgq.below.size;omega
     by_cases hki:k<i
     ·have e1:=HX.out wr hgq k (by have:=HLT.out;omega);have e2:=HX.out wr hgq i HLT.out;have d2:(k:Int)<(i:Int):=by omega
      have d3:(k:Int)<(sl.length:Int):=by omega
      have HKI:=yq hki;obtain⟨sk,hsk⟩:∃s,sl.getD k ByteArray.empty=s:=⟨_,rfl⟩;obtain⟨si,hsi⟩:∃s,sl.getD i ByteArray.empty=s:=⟨_,rfl⟩;rw [hsk]at e1;rw [hsi]at e2 HIW;have HSS:=yq (And.intro hsk hsi);clear hgq hki hsk hsi;by_cases hss:sk=si
      ·have hcmp:(sk.toList==si.toList)=true:=by rw [hss];simp
       have HV:=yq (HNO.out (pQ (by
        rw [DV HLT.out (by
         rw [HSS.out.2,<-hss,<-HSS.out.1];have:=HKI.out;rw [mem_iff_getElem?];refine⟨k, ?_⟩
         rw [getElem?_take,if_pos this,getD_eq_getElem?_getD,getElem?_eq_getElem (by have:=HLT.out;omega)];rfl)];rfl)))
       clear hss
       go_wp2_with fail
       go_region
       go_wp2_with fail
       go_returns
       rw [HV.out];exact⟨rfl,gqq HG.out (gqq HGQ.out growsR)⟩
      ·have hcmp:(sk.toList==si.toList)=false:=by
        rw [Bool.eq_false_iff];intro hc;have hc':sk.toList=si.toList:=by simpa using hc
        rw [ByteArray.toList_eq,ByteArray.toList_eq]at hc';exact hss (ByteArray.ext (Array.toList_inj.1 hc'))
       have HN:Hid (∀j,j<k+1->sl.getD j ByteArray.empty≠sl.getD i ByteArray.empty):=yq (fun j hj=>by
        by_cases e:j=k
        ·subst e;rw [HSS.out.1,HSS.out.2];exact hss
        ·exact HD.out j zb)
       clear hss
       go_wp2_with fail
       go_region
       go_wp2_with fail
       go_roundw
       case rel=>exact⟨k+1,HKI.out,by go_num,rfl,rfl,gqq HGQ.out growsR,HN⟩
       case measure=>simp [intOf];have:=HKI.out;omega
     ·obtain rfl:k=i:=by omega
      have e2:=HX.out wr hgq k HLT.out
      have HNM:Hid (sl.getD k ByteArray.empty∉sl.take k):=yq (fun h=>by
       rw [mem_iff_getElem?]at h;obtain⟨j,hj⟩:=h;rw [getElem?_take]at hj;by_cases hjk:j<k
       ·rw [if_pos hjk]at hj;refine HD.out j hjk ?_;rw [getD_eq_getElem?_getD,hj];rfl
       ·rw [if_neg hjk]at hj;cases hj)
      cases hw:isWord (sl.getD k ByteArray.empty)with
      |false=>
       rw [hw]at HIW;have HV:=yq (HNO.out (pQ (by rw [DW HLT.out hw];rfl)));generalize sl.getD k ByteArray.empty=s at *;clear hw hgq hki hk
       go_wp2_with (go_at_call 51;refine gw (HIW.out _) ?_)
       go_returns
       rw [HV.out];exact⟨rfl,gqq HG.out (gqq HGQ.out growsR)⟩
      |true=>
       rw [hw]at HIW;have HN:=yq (HK.out.next HLT.out hw HNM.out);generalize sl.getD k ByteArray.empty=s at *;clear hw hgq hki hk
       go_wp2_with (go_at_call 51;refine gw (HIW.out _) ?_)
       go_roundw
       case rel=>exact⟨k+1,HLT.out,by go_num,rfl,rfl,HN,gqq HG0.out (gqq HGQ.out growsR)⟩
       case measure=>simp [intOf];have:=HLT.out;omega
   ·obtain rfl:i=sl.length:=by omega
    clear hg hg0 hlt hi
    go_wp2_with fail
    go_meet
    exact⟨rfl,rfl,HK.out,HG0.out⟩
 obtain⟨rfl,rfl,hwk,hg0⟩:=hcut;have HWK:=yq hwk;have hg:w.Grows wc:=gqq growsR hg0;have HG:=yq hg
 have cb0:wc.cell? ⟨w.heap.size,0,none⟩=some (.slice ai l.length ci):=by
  rw [World.cell?_of_block (hg0.below.block _ zd),World.cell?_alloc_at _ _ _ _ rfl];rfl
 have cb1:wc.cell? ⟨w.heap.size,1,none⟩=some (.slice as' sl.length cs'):=by
  rw [World.cell?_of_block (hg0.below.block _ zd),World.cell?_alloc_at _ _ _ _ rfl];rfl
 have hwc:w.heap.size<wc.heap.size:=by have:=hg0.below.size;simp at this;omega
 have HOPD:Hid (∀w' k,w.Grows w'->k<l.length->Calls prog 52 #[.agg #[.slice ai l.length ci,.slice as' sl.length cs'],.int .i64 k] w' fun e w''=>e= .returned (.bool (wfF sl.length l.length k (l.getD k default)))/\w'.Grows w''):=yq (fun w' k hg hk=>BN l sl _ _ k w' (HI.out.grows hg) (HS.out.grows hg) hk);clear hwk hg hg0;obtain⟨wd,rfl⟩:∃wd,wd=wc:=⟨_,rfl⟩
 go_upto_block 4 with fail
 go_cut [2,3,4,5,7]from 11 (fun v2 v3 _ _ _ wx=>v2= .int .i64 0/\v3= .int .i64 0/\fu l sl=true/\wd.Grows wx)
 case first=>
  go_wp2_with fail
  go_loopw [2,3,7] (fun v2 v3 v7 wr=>∃k:Nat,k<=l.length/\v7= .int .i64 k/\v2= .int .i64 0/\v3= .int .i64 0/\Hid (∀j,j<k->wfF sl.length l.length j (l.getD j default)=true)/\wd.Grows wr/\wd.heap.size<wr.heap.size/\(∀a,wr.frozen? ⟨wd.heap.size,a,none⟩=false)/\∀a,a<12->wr.cell? ⟨wd.heap.size,a,none⟩=some (.bool (decide (0<lK l k a)))/\lK l k a<=1) (fun _ _ v7 _=>l.length-(intOf v7).toNat)
  case atStart=>exact⟨0,by omega,rfl,rfl,rfl,yq (fun j hj=>by omega),growsR,by simp,fun a=>World.frozen?_alloc_at _ _ _ _ rfl,fun a ha=>⟨by
   rw [World.cell?_alloc_at _ _ _ _ rfl,xQ]
   rcases(by omega:a=0\/a=1\/a=2\/a=3\/a=4\/a=5\/a=6\/a=7\/a=8\/a=9\/a=10\/a=11)with rfl|rfl|rfl|rfl|rfl|rfl|rfl|rfl|rfl|rfl|rfl|rfl<;>rfl,by rw [xQ];omega⟩⟩
  case round=>
   obtain⟨k,hk,rfl,rfl,rfl,HK,hg1,hwr1,hfz,hcs⟩:=hrel;have HFZ:=yq hfz;have HG1:=yq hg1;have HC:=yq hcs;have HWG:Hid (w.Grows wr):=yq (gqq HG.out hg1);have cr0:wr.cell? ⟨w.heap.size,0,none⟩=some (.slice ai l.length ci):=(World.cell?_of_block (hg1.below.block _ hwc)).trans cb0;have cr1:wr.cell? ⟨w.heap.size,1,none⟩=some (.slice as' sl.length cs'):=(World.cell?_of_block (hg1.below.block _ hwc)).trans cb1;have hww:w.heap.size<wr.heap.size:=by omega
   clear hfz hcs;by_cases hlt:k<l.length
   ·rcases HIX.out with h0|⟨b,off,rfl,hb,hx⟩
    ·omega
    have d1:(k:Int)<(l.length:Int):=by omega
    obtain⟨-,x0,x1,-,-⟩:=hx k hlt;have e:∀o,wr.cell? ⟨b,o,none⟩=w.cell? ⟨b,o,none⟩:=fun o=>World.cell?_of_block (HWG.out.below.block b hb);have y0:=(e _).trans x0;have y1:=(e _).trans x1;have hbr:b<wr.heap.size:=by have:=HWG.out.below.size;omega
    have HOC:=yq (fun w' (hg':wr.Grows w')=>HOPD.out w' k (gqq HWG.out hg') hlt);have HLT:=yq hlt;have HSet:=yq (fun h=>MX hlt h);have HSkip:=yq (fun h=>JO hlt h);clear e x0 x1 hx hg1 hlt
    cases hw:wfF sl.length l.length k (l.getD k default)with
    |false=>
     rw [hw]at HOC;have HV:=yq (HNO.out (MF HLT.out hw));clear hw
     go_wp2_with (go_at_call 52;refine gv (HOC.out _ growsR) ?_;intro bs d)
     go_returns
     rw [HV.out];exact⟨rfl,gqq HWG.out growsR⟩
    |true=>
     rw [hw]at HOC
     have HN:Hid (∀j,j<k+1->wfF sl.length l.length j (l.getD j default)=true):=yq (fun j hj=>by
      by_cases e:j=k
      ·subst e;exact hw
      ·exact HK.out j zb)
     have HRE:=yq (fun o4=>(xZ hw (by rw [o4];omega)).2.2.1 (.inr o4));clear hw;by_cases h4:(l.getD k default).op=4
     ·obtain⟨n,hn⟩:∃n:Nat,(l.getD k default).a=(n:Int):=⟨(l.getD k default).a.toNat,by have:=(HRE.out h4).1;omega⟩;have hn12:n<12:=by have:=(HRE.out h4).2;have:=H12.out;omega
      have HST:=yq (HSet.out h4);rw [hn]at y1;have hnt:(l.getD k default).a.toNat=n:=by omega
      rw [hnt]at HST;obtain⟨cS,hS1⟩:=HC.out n hn12;have d2:(0:Int)<=(n:Int):=by omega
      have d3:(n:Int)<12:=by omega
      clear HSet HSkip HRE hnt hn;obtain⟨c,hc⟩:∃c:Nat,lK l k n=c:=⟨_,rfl⟩;rw [hc]at cS hS1;rw [h4]at y0;have hfn:=HFZ.out n;have HCC:=yq hc;have HW1:=yq hwr1;clear hc h4;by_cases hc1:0<c
      ·have HV:=yq (HNO.out (pQ (l:=l) (sl:=sl) (by rw [decide_eq_false (qw (l:=l) (k:=k+1) (a:=n) (by rw [HST.out n,if_pos rfl,HCC.out];omega))];simp)));rw [decide_eq_true hc1]at cS;clear hc1
       go_wp2_with (go_at_call 52;refine gv (HOC.out _ growsR) ?_;intro bs d)
       go_returns
       rw [HV.out];exact⟨rfl,gqq HWG.out growsR⟩
      ·have HC0:=yq hc1;rw [decide_eq_false hc1]at cS;clear hc1
       go_wp2_with (go_at_call 52;refine gv (HOC.out _ growsR) ?_;intro bs d)
       go_roundw
       case rel=>
        have hs1:(wr.setCell ⟨wd.heap.size,n,none⟩ (.bool true)).heap.size=wr.heap.size:=by simp [World.setCell]
        refine⟨k+1,HLT.out,by go_num,rfl,rfl,HN,.of_below ((HG1.out.below.setCell (Nat.le_refl _) _).grow (by rw [hs1];omega) _ _),by simp [World.setCell];omega,fun a=>?_,fun a ha=>?_⟩
        ·rw [World.frozen?_grow _ _ _ (by rw [hs1];exact hwr1),World.frozen?_setCell];exact HFZ.out a
        ·rw [World.cell?_grow _ _ _ (by rw [hs1];exact hwr1),HST.out a];by_cases han:n=a
         ·subst han;rw [World.cell?_setCell_same _ _ _ cS,if_pos rfl,HCC.out];exact⟨by simp,by have:=HC0.out;omega⟩
         ·rw [World.cell?_setCell_other _ _ _ _ (by simpa using han),if_neg han];exact HC.out a ha
       case measure=>simp [intOf];have:=HLT.out;omega
     ·have h4':((l.getD k default).op==4)=false:=by simpa using h4
      have HN4:=yq h4;obtain⟨x,hx⟩:∃x,l.getD k default=x:=⟨_,rfl⟩;rw [hx]at y0 y1 h4';clear h4 hx
      go_wp2_with (go_at_call 52;refine gv (HOC.out _ growsR) ?_;intro bs d)
      go_roundw
      case rel=>exact⟨k+1,HLT.out,by go_num,rfl,rfl,HN,gqq HG1.out growsR,by simp;omega,fun a=>(World.frozen?_of_block (World.Grows.below (growsR:wr.Grows _)|>.block _ hwr1)).trans (HFZ.out a),fun a ha=>by
       rw [HSkip.out HN4.out]
       exact⟨by rw [World.cell?_of_block (World.Grows.below (growsR:wr.Grows _)|>.block _ hwr1)];exact(HC.out a ha).1,(HC.out a ha).2⟩⟩
      case measure=>simp [intOf];have:=HLT.out;omega
   ·obtain rfl:k=l.length:=by omega
    have HFY:Hid (fu l sl=true):=yq (Jv (by have:=H4.out;omega) HK.out (by
     rw [DU HWK.out h12',decide_eq_true (Aj fun a=>by
      rcases Nat.lt_or_ge a 12 with h|h
      ·exact(HC.out a h).2
      ·rw [MZ (fun i hi ho=>by
        have h1:=(xZ (HK.out i hi) (by rw [ho];omega)).2.2.1 (.inr ho);have:=H12.out
        omega) h];omega)];rfl))
    clear hlt hk hg1
    go_wp2_with fail
    go_meet
    exact⟨rfl,rfl,HFY.out,HG1.out⟩
 obtain⟨rfl,rfl,hform,hg1⟩:=hcut;have HVB:Hid (verB l sl=goB l 0 (some ([],List.replicate sl.length 0)::List.replicate l.length none) 0):=yq (by unfold verB;rw [if_pos hform]);have HG1:Hid (w.Grows wc):=yq (gqq HG.out hg1);have cc0:wc.cell? ⟨w.heap.size,0,none⟩=some (.slice ai l.length ci):=(World.cell?_of_block (hg1.below.block _ hwc)).trans cb0;have cc1:wc.cell? ⟨w.heap.size,1,none⟩=some (.slice as' sl.length cs'):=(World.cell?_of_block (hg1.below.block _ hwc)).trans cb1;have hwx:w.heap.size<wc.heap.size:=by have:=hg1.below.size;omega
 have hmk:=Aq l.length (by have:=H4.out;omega);have HFM:=yq hform;clear hg1 hform cb0 cb1
 go_upto_region 24 with fail
 obtain⟨W1,hW1⟩:∃W1,wc.alloc (.cells (madeCells rsZ ((l.length+1)*3)) 122)=W1:=⟨_,rfl⟩;rw [hW1];have HV1:=yq (mF.start l.length sl.length wc W1 hW1.symm);have hg1:wc.Grows W1:=by rw [<-hW1];exact growsR
 have hz1:W1.heap.size=wc.heap.size+1:=by rw [<-hW1];simp
 have c10:W1.cell? ⟨w.heap.size,0,none⟩=some (.slice ai l.length ci):=(World.cell?_of_block (hg1.below.block _ hwx)).trans cc0;have c11:W1.cell? ⟨w.heap.size,1,none⟩=some (.slice as' sl.length cs'):=(World.cell?_of_block (hg1.below.block _ hwx)).trans cc1;have hw1:w.heap.size<W1.heap.size:=by omega
 have hmi:=run_make_row' (P:=prog) 22 3 (.int .i64 0) 8 underlying22 EL rfl .i64 .i64 sl.length zb zb
 have HMT:Hid (∀W',(W1.alloc (.cells (madeCells #[.int .i64 0] sl.length) 3)).Grows W'->Calls prog 53 #[.pointer (some ⟨wc.heap.size,0,none⟩),.slice none 0 0,.slice (some ⟨W1.heap.size,0,none⟩) sl.length sl.length] W' (MtP l.length wc.heap.size sl.length wc (List.replicate (l.length+1) none) (fun _=>.slice none 0 0) 0 ([],List.replicate sl.length 0) W')):=yq (fun W' hgr=>by
  refine(HV1.out.grows (gqq growsR hgr)).meet (k:=0) (B1:=0) (B2:=0) (s:=([],List.replicate sl.length 0)) (vz:=.slice none 0 0) (vl:=.slice (some ⟨W1.heap.size,0,none⟩) sl.length sl.length) zb (World.ownsRow_nil _ _ _ _) ?_ zd zd (by have:=H12.out;omega) zd (fun z hz=>?_) zO (fun e=>?_) (fun b e=>by cases e) (fun b e k t ht=>?_)
  ·have h0:=World.ownsRow_lit (base:=0) (e:=3) (size:=1) W1 (madeCells #[.int .i64 0] sl.length) sl.length zb ym (by rw [size_madeCells];omega);rw [toList_madeCells_one]at h0;rw [map_replicate,length_replicate];exact bE.row (P:=fun _=>False) (.grows hgr) h0 fun _ _ e=>e
  ·have:=eq_of_mem_replicate hz;omega
  ·have:W1.heap.size=wc.heap.size:=by simpa [Value.ownBlock]using e
   omega
  ·rw [getD_eq_getElem?_getD,getElem?_replicate]at ht
   split at ht<;>cases ht)
 rw [hz1]at HMT
 have HP0:Hid (fQ (List.replicate (l.length+1) none) 0 (([]:List Int),List.replicate sl.length 0)=some (some ([],List.replicate sl.length 0)::List.replicate l.length none)):=yq (by
  unfold fQ
  rw [replicate_succ];rfl)
 clear hmk hW1 hg1
 go_wp2_with fail
 refine TS.begin [6] (World.Grows W1) ze ze grows_drew0 (fun hS=>?_);refine kq 0 hS ?_;refine kq 1 hS ?_;refine kq 2 hS ?_;refine kq 3 hS ?_;refine kq 4 hS ?_;refine TS.one (i:=5) ze rfl (fun K1 hK1=>?_);have HK1:=yq hK1;clear hK1 hS;dsimp only [getElem_toArray,getElem_cons_succ,getElem_cons_zero]
 go_simp
 refine TS.go HK1.out growsR (fun hS=>?_);clear HK1 K1
 (try simp only [nS])
 refine TS.one (i:=6) ze rfl (fun K1 hK1=>?_);have HK1:=yq hK1;clear hK1 hS;dsimp only [getElem_toArray,getElem_cons_succ,getElem_cons_zero]
 go_simp
 go_at_call 53
 refine(HMT.out _ growsR).mono ?_;rintro e' w2 ⟨bb,rfl,hbl,hsz2,-,⟨rfl,hp⟩|⟨rfl,T',Rs',Rl',hp,hv,-⟩⟩
 ·rw [HP0.out]at hp;cases hp
 rw [HP0.out]at hp;obtain rfl:=Option.some.inj hp;have HV2:=yq hv;have c20:w2.cell? ⟨w.heap.size,0,none⟩=some (.slice ai l.length ci):=(World.cell?_of_block (a:=⟨w.heap.size,0,none⟩) (hbl.block _ hwx)).trans cc0;have c21:w2.cell? ⟨w.heap.size,1,none⟩=some (.slice as' sl.length cs'):=(World.cell?_of_block (a:=⟨w.heap.size,1,none⟩) (hbl.block _ hwx)).trans cc1;have hw2:w.heap.size<w2.heap.size:=by have:=hv.sz;omega
 refine HK1.out _ _ (fun h=>absurd zf h) (TS.done ze ?_);clear HK1 K1 hp hbl hv c10 c11 hmi
 go_wp2_with fail
 go_loopw [2,3,9,10] (fun v2 v3 v9 v10 wr=>∃(i:Nat) (T:List (Option (List Int × List Int))) (Rs Rl:Nat->Value) (dep:Nat),i<=l.length/\v10= .int .i64 i/\v9= .int .i64 dep/\v2= .int .i64 0/\v3= .int .i64 0/\mF l.length wc.heap.size sl.length wc T Rs Rl wr/\Hid (goB (l.drop i) i T dep=verB l sl)/\dep<=24) (fun _ _ _ v10 _=>l.length-(intOf v10).toNat)
 case atStart=>exact⟨0,_,_,_,0,by omega,rfl,rfl,rfl,rfl,HV2.out,yq (by rw [drop_zero,HVB.out]),by omega⟩
 case round=>
  obtain⟨i,T,Rs,Rl,dep,hi,rfl,rfl,rfl,rfl,hv,HGO,hd24⟩:=hrel;have HVR:=yq hv;have HLW:Hid (w.Grows wr):=yq (gqq HG1.out (.of_below hv.lo));have cr0:wr.cell? ⟨w.heap.size,0,none⟩=some (.slice ai l.length ci):=(World.cell?_of_block (a:=⟨w.heap.size,0,none⟩) (hv.lo.block _ hwx)).trans cc0;have cr1:wr.cell? ⟨w.heap.size,1,none⟩=some (.slice as' sl.length cs'):=(World.cell?_of_block (a:=⟨w.heap.size,1,none⟩) (hv.lo.block _ hwx)).trans cc1;have hNSr:=hv.sz;have hwr:w.heap.size<wr.heap.size:=by omega
  by_cases hlt:i<l.length
  ·have d1:(i:Int)<(l.length:Int):=by omega
   have d2:(i:Int)<(l.length:Int)+1:=by omega
   have HLT:=yq hlt;have HDR:Hid (l.drop i=l.getD i default::l.drop (i+1)):=yq (by rw [drop_eq_getElem_cons hlt,getD_eq_getElem?_getD,getElem?_eq_getElem hlt];rfl);rw [HDR.out]at HGO;have hst:=hv.st i zb
   cases hT:T.getD i none with
   |none=>
    rw [hT]at hst;have z0:=hst 0 _ rfl;rw [Nat.add_zero]at z0;have HR:Hid (verB l sl=(0,8)):=yq (by rw [<-HGO.out,goB,hT]);clear hT hst hv hlt hi
    go_wp2_with fail
    go_returns
    rw [HR.out];exact⟨rfl,gqq HLW.out growsR⟩
   |some t=>
    rw [hT]at hst;obtain⟨r1,r2,r3,r4,-⟩:=hv.row i t hT;obtain⟨sa,sc,hsa⟩:=dG r1;have z0:=hst 0 _ rfl;have z1:=hst 1 _ rfl;rw [Nat.add_zero]at z0;rw [hsa]at z1
    have HST:=yq (fun W (hg:wr.Grows W)=>KO l sl (.slice ai l.length ci) (.slice as' sl.length cs') i wc.heap.size wc T Rs Rl t W (HI.out.grows (gqq HLW.out hg)) HLT.out (HVR.out.grows hg) (by
     have h1:=HFM.out;unfold fu at h1;simp only [Bool.and_eq_true,all_eq_true,mem_range]at h1
     exact h1.1.2 i HLT.out) (by have:=H12.out;omega) hT ⟨_,_,rfl⟩)
    have HTT:=yq hT;have HL24:=yq r3;clear hT hst hv hlt hi r1 r2 r3 r4 hsa
    go_wp2_with fail
    go_at_call 54
    refine(HST.out _ growsR).mono ?_;rintro e' w3 ⟨bb,rfl,hbl,⟨rfl,hr⟩|⟨rfl,T',Rs',Rl',hr,hv'⟩⟩
    ·have HR:Hid (verB l sl=(0,8)):=yq xi;have HG3:Hid (w.Grows w3):=yq (gqq HG1.out (.of_below hbl));clear hbl hr
     go_wp2_with fail
     go_returns
     rw [HR.out];exact⟨rfl,gqq HG3.out growsR⟩
    ·have HGN:Hid (goB (l.drop (i+1)) (i+1) T' (max dep t.1.length)=verB l sl):=yq xi;have HV3:=yq hv';clear hbl hr hv'
     go_wp2_with fail
     go_roundw
     case rel=>exact⟨i+1,T',Rs',Rl',max dep t.1.length,HLT.out,by go_num,by first|(simp;done)|(simp;omega),rfl,rfl,HV3.out.grows growsR,HGN,by have:=HL24.out;omega⟩
     case measure=>simp [intOf];have:=HLT.out;omega
  ·obtain rfl:i=l.length:=by omega
   have hst:=hv.st l.length (Nat.le_refl _);rw [drop_length,goB]at HGO
   cases hT:T.getD l.length none with
   |none=>
    rw [hT]at hst HGO;have z0:=hst 0 _ rfl;have z1:=hst 1 _ rfl;rw [Nat.add_zero]at z0;have HR:Hid (verB l sl=(0,8)):=yq HGO.out.symm;clear hT hst hv hlt hi
    go_wp2_with fail
    go_returns
    rw [HR.out];exact⟨rfl,gqq HLW.out growsR⟩
   |some t=>
    rw [hT]at hst HGO;obtain⟨r1,-⟩:=hv.row l.length t hT;obtain⟨sa,sc,hsa⟩:=dG r1;have z0:=hst 0 _ rfl;have z1:=hst 1 _ rfl;rw [Nat.add_zero]at z0;rw [hsa]at z1;by_cases he:t.1= []
    ·have HR:Hid (verB l sl=((dep:Int),0)):=yq (by rw [<-HGO.out];simp only [if_pos he]);have hl0:t.1.length=0:=by rw [he];rfl
     rw [hl0]at z1;clear hT hst hv hlt hi r1 hsa he hl0
     go_wp2_with fail
     go_returns
     rw [HR.out];exact⟨rfl,gqq HLW.out growsR⟩
    ·have HR:Hid (verB l sl=(0,8)):=yq (by rw [<-HGO.out];simp only [if_neg he])
     have hl0:(0:Int)<(t.1.length:Int):=by
      have:t.1.length≠0:=fun e=>he (eq_nil_of_length_eq_zero e);omega
     have hl1:0<t.1.length:=by omega
     have hl2:(decide ((0:Int)<(t.1.length:Int)))=true:=decide_eq_true hl0;clear hT hst hv hlt hi r1 hsa he
     go_wp2_with fail
     go_returns
     rw [HR.out];exact⟨rfl,gqq HLW.out growsR⟩
end Go.Proofs.YtfoefpoaomepbaaGreatDoor
