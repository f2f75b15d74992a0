import Derived.Test.YtlheailebbngiaaGreatDoorGGen
set_option linter.all false
set_option maxHeartbeats 16000000
set_option maxRecDepth 1000000
namespace Go.Proofs.YtlheailebbngiaaGreatDoor
open Tryz List
open Go.RowKit
def Cj(n:Nat)(p:Nat->Bool)(r:Int):Prop:=(r= -1/\∀k,k<n->p k=false)\/∃k:Nat,k<n/\r=k/\p k=true
theorem Cj.any{n:Nat}{p:Nat->Bool}{r:Int}(h:Cj n p r):decide (0<=r)=(List.range n).any p:=by
 rcases h with ⟨rfl,h⟩|⟨k,hk,rfl,hp⟩
 ·symm;rw [show decide ((0:Int)<=-1)=false by decide,Bool.eq_false_iff];intro hc;obtain⟨k,hk,hp⟩:=any_eq_true.1 hc;rw [h k (mem_range.1 hk)]at hp;cases hp
 ·rw [decide_eq_true (show(0:Int)<=k by omega)];symm;exact any_eq_true.2 ⟨k,mem_range.2 hk,hp⟩
def OG(S:Nat->Prop)(g:FuncId)(lb:Array Value)(e:Ex)(p:Nat->Bool)(w:World):Prop:=
 ∀k,k<e.args.length->∀a c w',w.Grows w'->aC S w' (e.arg k) (.slice a (e.arg k).args.length c)->Calls prog g (#[exV (e.arg k) (.slice a (e.arg k).args.length c)]++lb) w' fun r w''=>r= .returned (.bool (p k))/\w'.Grows w''
theorem aC.grows{S:Nat->Prop}{w w':World}{e:Ex}{v:Value}(h:aC S w e v)(hg:w.Grows w'):aC S w' e v:=by
 obtain⟨bs,d,rfl⟩:=hg;exact h.grow bs d
theorem JW(S:Nat->Prop)(g:FuncId)(lb:Array Value)(eg:∀args w,(callFunc g args).run prog w= .ok (.enter g args) w)(e:Ex)(v:Value)(p:Nat->Bool)(w:World)(h:aC S w e v)(hp:Hid (OG S g lb e p w)) :
 Calls prog 156 #[v,.func (.func g) #[] lb] w fun r w'=>(∃z,r= .returned (.int .i64 z)/\Cj e.args.length p z)/\w.Grows w':=by
 cases h with
 |mk _ a cap vs hr hc hs=>
  have hlen:=hr.len;have Hs:=zh hs;have Hc:=zh hc;clear hr hs hc
  go_enter func156,ntmps156
  go_wp2_with fail
  go_loopw [5,8] (fun _ v8 wr=>∃k:Nat,k<=e.args.length/\v8= .int .i64 k/\Hid (∀j,j<k->p j=false)/\w.Grows wr) (fun _ v8 _=>e.args.length-(intOf v8).toNat)
  case atStart=>exact⟨0,by omega,rfl,zh (fun j hj=>by omega),.refl _⟩
  case round=>
   obtain⟨k,hk,rfl,hno,hgr⟩:=hrel;have HG:=zh hgr;obtain⟨bs,d,rfl⟩:=hgr;by_cases hlt2:k<e.args.length
   ·rcases Hc.out with h0|⟨b,off,rfl,hg,hbw,hx⟩
    ·omega
    ·obtain⟨x0,x1,x2,x3,x4,x5⟩:=hx k hlt2;clear hx;have hR:=Hs.out k hlt2;obtain⟨ak,ck,hvk⟩:=hR.form0;rw [hvk]at x5 hR;have d1:(k:Int)<(e.args.length:Int):=by omega
     have hcall:=hp.out k hlt2 ak ck _ HG.out (hR.grow bs d);have HLT:=zh hlt2;clear hR hvk
     cases hq:p k with
     |true=>
      rw [hq]at hcall;have HQ:=zh hq;clear hq;have HCL:=zh hcall;clear hcall
      go_wp2_with (go_at_fn g;refine HCL.out.mono ?_;rintro e' w' ⟨rfl,bs2,d2,rfl⟩)
      go_returns
      exact⟨⟨_,rfl,.inr ⟨k,HLT.out,rfl,HQ.out⟩⟩,.of_below af⟩
     |false=>
      rw [hq]at hcall;have HQ:=zh hq;clear hq;have HCL:=zh hcall;clear hcall
      go_wp2_with (go_at_fn g;refine HCL.out.mono ?_;rintro e' w' ⟨rfl,bs2,d2,rfl⟩)
      go_roundw
      case rel=>exact⟨k+1,by omega,by go_num,zh (fun j hj=>by
       by_cases ej:j=k
       ·subst ej;exact HQ.out
       ·exact hno.out j ze),.of_below af⟩
      case measure=>simp [intOf];omega
   ·obtain rfl:k=e.args.length:=by omega
    go_wp2_with fail
    go_returns
    exact⟨⟨_,rfl,.inl ⟨rfl,hno.out⟩⟩,.of_below af⟩
theorem nE(S:Nat->Prop)(g:FuncId)(lb:Array Value)(eg:∀args w,(callFunc g args).run prog w= .ok (.enter g args) w)(e:Ex)(v:Value)(p:Nat->Bool)(w:World)(h:aC S w e v)(hp:Hid (OG S g lb e p w)) :
 Calls prog 122 #[v,.func (.func g) #[] lb] w fun r w'=>r= .returned (.bool ((List.range e.args.length).any p))/\w.Grows w':=by
 have HI:=zh (JW S g lb eg e v p w h hp);obtain⟨a,cap,rfl⟩:=h.form0;clear h hp;generalize hX:(List.range e.args.length).any p=X;have HX:=zh hX;clear hX
 go_enter func122,ntmps122
 go_wp2_with (go_at_call 156;refine HI.out.mono ?_;rintro e' w' ⟨⟨z,rfl,hz⟩,bs2,d2,rfl⟩;have HZ:=zh hz.any;clear hz)
 go_returns
 exact⟨au zV,.of_below af⟩
def bJ(w:World)(v:Value)(l:List Int):Prop:=
 l.length<=1000/\∃a cap,v= .slice a l.length cap/\(l.length=0\/∃b off,a=some ⟨b,off,none⟩/\b<w.heap.size/\∀i,i<l.length->w.cell? ⟨b,off+i,none⟩=some (.int .i64 (l.getD i 0)))
theorem bJ.below{w w':World}{v:Value}{l:List Int}{n:Nat}(h:bJ w v l)(hn:w.heap.size<=n)(hb:Below n w w'):bJ w' v l:=by
 obtain⟨h0,a,cap,hv,h1⟩:=h;refine⟨h0,a,cap,hv,h1.imp id ?_⟩;rintro⟨b,off,ha,hlt,hc⟩;refine⟨b,off,ha,Nat.lt_of_lt_of_le hlt hb.size,fun i hi=>?_⟩;rw [hb.cell (p:=⟨b,off+i,none⟩) (Nat.lt_of_lt_of_le hlt hn)];exact hc i hi
theorem bJ.grows{w w':World}{v:Value}{l:List Int}(h:bJ w v l)(hg:w.Grows w'):bJ w' v l:=h.below (Nat.le_refl _) hg.below
theorem bJ.grow{w:World}{v:Value}{l:List Int}(h:bJ w v l)(bs:Array Obj)(d:Nat):bJ (w.grow bs d) v l:=h.grows ⟨bs,d,rfl⟩
theorem bJ.alloc{w:World}{v:Value}{l:List Int}(h:bJ w v l)(o:Obj):bJ (w.alloc o) v l:=h.below (Nat.le_refl _) ((Below.refl _ _).alloc (Nat.le_refl _) _)
theorem pR(l:List Int):(List.range l.length).any (fun k=>!decide (0<=l.getD k 0/\l.getD k 0<=1000000000000))=!l.all fun x=>decide (0<=x/\x<=1000000000000):=by
 induction l with
 |nil=>rfl
 |cons p r ih=>
  rw [length_cons,range_succ_eq_map,any_cons,any_map,all_cons,Bool.not_and,<-ih];rfl
theorem Ff{l:List Int}{k:Nat}(hk:k<l.length)(hb:¬(0<=l.getD k 0/\l.getD k 0<=1000000000000)):bF l=false:=by
 unfold bF
 have:(l.all fun x=>decide (0<=x/\x<=1000000000000))=false:=by
  have h:=pR l;rw [show(List.range l.length).any (fun k=>!decide (0<=l.getD k 0/\l.getD k 0<=1000000000000))=true from any_eq_true.2 ⟨k,mem_range.2 hk,by rw [decide_eq_false hb];rfl⟩]at h;simpa using h.symm
 rw [this,Bool.and_false]
theorem Cq{l:List Int}(hn:l.length<=200)(hg:∀k,k<l.length->0<=l.getD k 0/\l.getD k 0<=1000000000000):bF l=true:=by
 unfold bF;have h:=pR l;rw [show(List.range l.length).any (fun k=>!decide (0<=l.getD k 0/\l.getD k 0<=1000000000000))=false from any_eq_false.2 fun k hk=>by rw [decide_eq_true (hg k (mem_range.1 hk))];simp]at h;rw [decide_eq_true hn,Bool.true_and];simpa using h.symm
def OE(g:FuncId)(lb:Array Value)(l:List Int)(p:Nat->Bool)(w:World):Prop:=
 ∀k,k<l.length->∀w',w.Grows w'->Calls prog g (#[.int .i64 (l.getD k 0)]++lb) w' fun r w''=>r= .returned (.bool (p k))/\w'.Grows w''
theorem JV(g:FuncId)(lb:Array Value)(eg:∀args w,(callFunc g args).run prog w= .ok (.enter g args) w)(l:List Int)(v:Value)(p:Nat->Bool)(w:World)(h:bJ w v l)(hp:Hid (OE g lb l p w)) :
 Calls prog 129 #[v,.func (.func g) #[] lb] w fun r w'=>(∃z,r= .returned (.int .i64 z)/\Cj l.length p z)/\w.Grows w':=by
 obtain⟨hlen,a,cap,rfl,hc⟩:=h;have Hc:=zh hc;clear hc
 go_enter func129,ntmps129
 go_wp2_with fail
 go_loopw [5,8] (fun _ v8 wr=>∃k:Nat,k<=l.length/\v8= .int .i64 k/\Hid (∀j,j<k->p j=false)/\w.Grows wr) (fun _ v8 _=>l.length-(intOf v8).toNat)
 case atStart=>exact⟨0,by omega,rfl,zh (fun j hj=>by omega),.refl _⟩
 case round=>
  obtain⟨k,hk,rfl,hno,hgr⟩:=hrel;have HG:=zh hgr;by_cases hlt2:k<l.length
  ·rcases Hc.out with h0|⟨b,off,rfl,hbw,hx⟩
   ·omega
   ·have y0:wr.cell? ⟨b,off+k,none⟩=some (.int .i64 (l.getD k 0)):=by rw [hgr.below.cell (p:=⟨b,off+k,none⟩) hbw];exact hx k hlt2
    clear hx;have d1:(k:Int)<(l.length:Int):=by omega
    have hcall:=hp.out k hlt2 _ hgr;generalize l.getD k 0=dk at *;have HLT:=zh hlt2;clear hgr
    cases hq:p k with
    |true=>
     rw [hq]at hcall;have HQ:=zh hq;clear hq;have HCL:=zh hcall;clear hcall
     go_wp2_with (go_at_fn g;refine HCL.out.mono ?_;rintro e' w' ⟨rfl,hg2⟩;have HG2:=zh hg2;clear hg2)
     go_returns
     exact⟨⟨_,rfl,.inr ⟨k,HLT.out,rfl,HQ.out⟩⟩,World.Grows.trans HG.out HG2.out⟩
    |false=>
     rw [hq]at hcall;have HQ:=zh hq;clear hq;have HCL:=zh hcall;clear hcall
     go_wp2_with (go_at_fn g;refine HCL.out.mono ?_;rintro e' w' ⟨rfl,hg2⟩;have HG2:=zh hg2;clear hg2)
     go_roundw
     case rel=>exact⟨k+1,by omega,by go_num,zh (fun j hj=>by
      by_cases ej:j=k
      ·subst ej;exact HQ.out
      ·exact hno.out j ze),World.Grows.trans HG.out HG2.out⟩
     case measure=>simp [intOf];omega
  ·obtain rfl:k=l.length:=by omega
   clear hgr
   go_wp2_with fail
   go_returns
   exact⟨⟨_,rfl,.inl ⟨rfl,hno.out⟩⟩,HG.out⟩
theorem vv(g:FuncId)(lb:Array Value)(eg:∀args w,(callFunc g args).run prog w= .ok (.enter g args) w)(l:List Int)(v:Value)(p:Nat->Bool)(w:World)(h:bJ w v l)(hp:Hid (OE g lb l p w)) :
 Calls prog 92 #[v,.func (.func g) #[] lb] w fun r w'=>r= .returned (.bool ((List.range l.length).any p))/\w.Grows w':=by
 have HI:=zh (JV g lb eg l v p w h hp);obtain⟨-,a,cap,rfl,-⟩:=h;clear hp;generalize hX:(List.range l.length).any p=X;have HX:=zh hX;clear hX
 go_enter func92,ntmps92
 go_wp2_with (go_at_call 129;refine HI.out.mono ?_;rintro e' w' ⟨⟨z,rfl,hz⟩,bs2,d2,rfl⟩;have HZ:=zh hz.any;clear hz)
 go_returns
 exact⟨au zV,.of_below af⟩
theorem Ib:∀args w,(callFunc 93 args).run prog w= .ok (.enter 93 args) w:=enters_of func93 zf rfl
theorem KN(d:Int)(w:World):Calls prog 93 #[.int .i64 d] w fun r w'=>r= .returned (.bool (!decide (0<=d/\d<=1000000000000)))/\w.Grows w':=by
 by_cases h1:d<0
 ·go_enter func93,ntmps93
  exact Gy
 ·by_cases h2:d > 1000000000000
  ·go_enter func93,ntmps93
   exact Gy
  ·go_enter func93,ntmps93
   exact Gy
theorem gU(l:List Int)(v:Value)(w:World)(h:bJ w v l):Calls prog 54 #[v] w fun r w'=>r= .returned (.bool (bF l))/\w.Grows w':=by
 have HV:=zh h
 have HCB:Hid (∀w',w.Grows w'->Calls prog 92 #[v,.func (.func 93) #[] #[]] w' fun r w''=>r= .returned (.bool (!l.all fun x=>decide (0<=x/\x<=1000000000000)))/\w'.Grows w''):=
  zh (fun w' hg=>by
   have:=vv 93 #[] Ib l v (fun k=>!decide (0<=l.getD k 0/\l.getD k 0<=1000000000000)) w' (HV.out.grows hg) (zh (fun k hk w2 h2=>KN _ w2));rw [pR]at this
   exact this)
 obtain⟨h1000,a,cap,rfl,-⟩:=h;have HF:Hid (bF l=(decide (l.length<=200)&&l.all fun x=>decide (0<=x/\x<=1000000000000))):=zh rfl;generalize(l.all fun x=>decide (0<=x/\x<=1000000000000))=Q at HCB HF;by_cases hn:(l.length:Int)<=200
 ·cases Q
  all_goals
   go_enter func54,ntmps54
   go_wp2_with (go_at_call 92;refine(HCB.out _ (.of_below af)).mono ?_;rintro e' w' ⟨rfl,bs2,d2,rfl⟩)
   go_returns
   exact⟨au (by rw [HF.out];simp;try omega),.of_below af⟩
 ·go_enter func54,ntmps54
  go_wp2_with fail
  go_returns
  exact⟨au (by rw [HF.out,decide_eq_false ze];rfl),.of_below af⟩
theorem mE(l:List Int)(v:Value)(w:World)(h:bJ w v l):Calls prog 56 #[v] w fun r w'=>r= .returned (.bool (bF l))/\w=w':=by
 obtain⟨h1000,a,cap,rfl,hc⟩:=h;have Hc:=zh hc;clear hc;have HBAD:=zh (fun k hk hb=>Ff (l:=l) (k:=k) hk hb);have HGOOD:=zh (fun hn hg=>Cq (l:=l) hn hg);by_cases hn:(l.length:Int)<=200
 ·go_enter func56,ntmps56
  go_wp2_with fail
  go_loopw [3] (fun v3 wr=>∃k:Nat,k<=l.length/\v3= .int .i64 k/\Hid (∀j,j<k->0<=l.getD j 0/\l.getD j 0<=1000000000000)/\w=wr) (fun v3 _=>l.length-(intOf v3).toNat)
  case atStart=>exact⟨0,by omega,rfl,zh (fun j hj=>by omega),rfl⟩
  case round=>
   obtain⟨k,hk,rfl,hno,rfl⟩:=hrel;by_cases hlt:k<l.length
   ·rcases Hc.out with h0|⟨b,off,rfl,hbw,hx⟩
    ·omega
    have x0:=hx k hlt;have d1:(k:Int)<(l.length:Int):=by omega
    have HKL:=zh hlt;clear hx hlt;obtain⟨dk,hdk⟩:∃dk,l.getD k 0=dk:=⟨_,rfl⟩;rw [hdk]at x0;have HDK:=zh hdk;clear hdk;by_cases h1:dk<0
    ·exact Qo
    ·by_cases h2:dk > 1000000000000
     ·exact Qo
     ·go_wp2_with fail
      go_roundw
      case rel=>exact⟨k+1,HKL.out,by go_num,zh (fun j hj=>by
       by_cases ej:j=k
       ·subst ej;rw [HDK.out];omega
       ·exact hno.out j ze),zG⟩
      case measure=>simp [intOf];have:=HKL.out;omega
   ·obtain rfl:k=l.length:=by omega
    go_wp2_with fail
    go_returns
    exact⟨au (HGOOD.out ze hno.out).symm,zG⟩
 ·go_enter func56,ntmps56
  go_wp2_with fail
  go_returns
  exact⟨au (by unfold bF;rw [decide_eq_false ze];rfl),zG⟩
theorem nZ(S:Nat->Prop)(n:Nat):∀(e:Ex),e.size<=n->∀(v:Value) (w:World),aC S w e v->Hid (e.size<=2305843009213693952)->
 Calls prog 135 #[exV e v] w fun r w'=>r= .returned (.int .i64 (e.size:Nat))/\w.Grows w':=by
 induction n with
 |zero=>intro e he;have:=e.size_pos;omega
 |succ n ih=>
  intro e he v w h hbig;have IH:=zh ih;clear ih
  cases h with
  |mk _ a cap vs hr hc hs=>
   have hlen:=hr.len;have Hs:=zh hs;have He:=zh he;have Hc:=zh hc;clear hr hs he hc
   go_enter func135,ntmps135
   go_wp2_with fail
   go_loopw [3,9] (fun v3 v4 wr=>∃k:Nat,k<=e.args.length/\v3= .int .i64 (szT e k)/\v4= .int .i64 k/\
    World.Grows (w.alloc (.cells #[.int .i64 e.op,.int .i64 e.num,.int .i64 e.den,.int .i64 e.dim,.string e.name,.slice a e.args.length cap] 51)) wr) (fun _ v4 _=>e.args.length-(intOf v4).toNat)
   case atStart=>exact⟨0,by omega,by rw [Aa],rfl,.refl _⟩
   case round=>
    obtain⟨k,hk,rfl,rfl,bs,d,rfl⟩:=hrel;have hb:=Jg e k;have hb0:1<=szT e k:=hb.1;have hb1:szT e k<=2305843009213693952:=by have:=hbig.out;omega
    clear hb;by_cases hlt:k<e.args.length
    ·rcases Hc.out with h0|⟨b,off,rfl,hS,hbw,hx⟩
     ·omega
     ·obtain⟨x0,x1,x2,x3,x4,x5⟩:=hx k hlt;clear hx;have hR:=Hs.out k hlt;obtain⟨ak,ck,hvk⟩:=hR.form0;rw [hvk]at x5 hR;have HR:=zh hR;clear hR hvk;have hlt1:(k:Int)<(e.args.length:Int):=by omega
      have HN:=zh (Ab e k hlt);have HA:=zh (e.size_arg k hlt);have hs1:((e.arg k).size:Int)<=2305843009213693952:=by have:=hbig.out;have:=HA.out;omega
      go_wp2_with fail
      refine(IH.out (e.arg k) zL (.slice ak _ ck) _ (((HR.out.alloc _).grow _ _).alloc _) yj).mono ?_;rintro r w' ⟨rfl,bs2,d2,rfl⟩
      go_wp2_with fail
      go_roundw
      case rel=>exact⟨k+1,by omega,by rw [HN.out],by go_num,.of_below af⟩
      case measure=>simp [intOf];omega
    ·have HN:=zh (Em e k ze);obtain rfl:k=e.args.length:=by omega
     go_wp2_with fail
     go_returns
     exact⟨ret_int HN.out,.of_below af⟩

theorem mI(S:Nat->Prop)(n:Nat):∀(e:Ex),e.size<=n->∀(v:Value) (w:World),aC S w e v->Hid (e.size<=2305843009213693952)->
 Calls prog 134 #[exV e v] w fun r w'=>r= .returned (.int .i64 (e.depth:Nat))/\w.Grows w':=by
 induction n with
 |zero=>intro e he;have:=e.size_pos;omega
 |succ n ih=>
  intro e he v w h hbig;have IH:=zh ih;clear ih
  cases h with
  |mk _ a cap vs hr hc hs=>
   have hlen:=hr.len;have Hs:=zh hs;have He:=zh he;have Hc:=zh hc;clear hr hs he hc
   go_enter func134,ntmps134
   go_wp2_with fail
   go_loopw [3,9] (fun v3 v4 wr=>∃k:Nat,k<=e.args.length/\v3= .int .i64 (dpT e k)/\v4= .int .i64 k/\
    World.Grows (w.alloc (.cells #[.int .i64 e.op,.int .i64 e.num,.int .i64 e.den,.int .i64 e.dim,.string e.name,.slice a e.args.length cap] 51)) wr) (fun _ v4 _=>e.args.length-(intOf v4).toNat)
   case atStart=>exact⟨0,by omega,by rw [BC],rfl,.refl _⟩
   case round=>
    obtain⟨k,hk,rfl,rfl,bs,d,rfl⟩:=hrel;have hb:=Ko e k;have hb0:0<=dpT e k:=hb.1;have hb1:dpT e k<=2305843009213693952:=by have:=hbig.out;omega
    clear hb;by_cases hlt:k<e.args.length
    ·rcases Hc.out with h0|⟨b,off,rfl,hS,hbw,hx⟩
     ·omega
     ·obtain⟨x0,x1,x2,x3,x4,x5⟩:=hx k hlt;clear hx;have hR:=Hs.out k hlt;obtain⟨ak,ck,hvk⟩:=hR.form0;rw [hvk]at x5 hR;have HR:=zh hR;clear hR hvk;have hlt1:(k:Int)<(e.args.length:Int):=by omega
      have HN:=zh (BD e k hlt);have HA:=zh (e.size_arg k hlt);have hs1:((e.arg k).depth:Int)<=2305843009213693952:=by have:=hbig.out;have:=HA.out;have:=(e.arg k).depth_size;omega
      go_wp2_with fail
      refine(IH.out (e.arg k) zL (.slice ak _ ck) _ (((HR.out.alloc _).grow _ _).alloc _) yj).mono ?_;rintro r w' ⟨rfl,bs2,d2,rfl⟩
      go_wp2_with fail
      go_roundw
      case rel=>exact⟨k+1,by omega,by rw [HN.out],by go_num,.of_below af⟩
      case measure=>simp [intOf];omega
    ·have HN:=zh (EU e k ze);obtain rfl:k=e.args.length:=by omega
     go_wp2_with fail
     go_returns
     exact⟨ret_int HN.out,.of_below af⟩
end Go.Proofs.YtlheailebbngiaaGreatDoor
