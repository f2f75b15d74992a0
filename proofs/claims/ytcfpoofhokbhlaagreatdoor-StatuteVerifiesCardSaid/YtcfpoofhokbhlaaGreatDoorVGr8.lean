import Derived.Test.YtcfpoofhokbhlaaGreatDoorVStpW
import Derived.Test.YtcfpoofhokbhlaaGreatDoorVV8b
set_option linter.all false
set_option maxHeartbeats 16000000
set_option maxRecDepth 1000000
namespace Go.Proofs.YtcfpoofhokbhlaaGreatDoor
open Go.Proofs.Tryz Tryz List
open Go.RowKit
def vC(W0:World)(v:Vw)(ls:List (ByteArray × Ex))(env:List (ByteArray × Int))(E:Ex)(D0:List Nat)(st0:List (ByteArray × Val))(e:Ending)(w':World):Prop:=
 W0.Grows w'/\((∃c,c≠0/\(gU v ls (az E ls) D0 st0).2.2=c/\e= .returned (.tuple #[.slice none 0 0,.int .i64 c]))\/
  ∃vs D st,e= .returned (.tuple #[vs,.int .i64 0])/\dW v ls env E D0 st0 (az E ls).length D st/\w'.ownsRow W0.heap.size 53 5 vs st.length (dL st)/\st.length<=st0.length+10)
theorem MH{st:List (ByteArray × Val)}{nm:ByteArray}{j:Nat}(hj:j<st.length):((st.take (j+1)).any fun p=>decide (p.1=nm))=(((st.take j).any fun p=>decide (p.1=nm)) || decide (stN st j=nm)):=by
 rw [take_succ_eq_append_getElem hj,any_append];simp [stN,getD_eq_getElem?_getD,getElem?_eq_getElem hj]
theorem Mv{v:Vw}{st:List (ByteArray × Val)}{b:Ex}{m:Int}(hok:v.ok=true)(hE:∀p∈st,p.2.ok=true)(hv:cB b=true)(ht:aD (aS st) b=(m,0)):gG v st b=aj v st b:=(uP hok hE hv (by rw [ht])).1
theorem wM(ls:List (ByteArray × Ex))(env:List (ByteArray × Int))(v:Vw)(E:Ex)(u y vs:Value)(a3 a4 a5 a6 a7:Option Addr)(n3 n4 n6 n7 k3 k4 k5 k6 k7:Nat)(x0 x1 x2:Int)(W0 w:World)(D0:List Nat)(st0:List (ByteArray × Val))
 (hl:iA ls ls.length env) (hlen:ls.length<=10) (hbl:∀t∈ls,t.2.size<=1000000) (hok:v.ok=true) (hrng:dV v)
 (hR:aB (fun _=>True) W0 E u) (hL:gI W0 (.slice a5 ls.length k5) ls) (hY:bI W0 y v.years) (hg0:W0.Grows w) (hst:lq ls env D0 st0) (hn:st0.length<=20) (ho:w.ownsRow W0.heap.size 53 5 vs st0.length (dL st0)) :
 Calls prog 32 #[exV E u,.agg #[.int .i64 x0,.int .i64 x1,.int .i64 x2,.slice a3 n3 k3,.slice a4 n4 k4,.slice a5 ls.length k5,.slice a6 n6 k6,.slice a7 n7 k7],vwV v y,vs] w (vC W0 v ls env E D0 st0):=by
 obtain⟨i0,hi,hz0,hz1,hz2⟩:=info_parts Cf;have HL:=yq hL;have HY:=yq hY;have HLS:=yq hl;have HBL:=yq hbl;have HOK:=yq hok;have HRNG:=yq hrng;have HG0:=yq hg0;have HO:=yq ho;have HST:=yq hst;have HU:=yq (fun w' (hg:W0.Grows w')=>JW E u (.slice a5 ls.length k5) ls w' (hR.grows hg) (hL.grows hg));obtain⟨ua,uc,rfl⟩:=hR.form0;obtain⟨-,ya,yc,rfl,-⟩:=hY;have hzk:=fun k=>@Ko E ls k;have hzl:((az E ls).map Int.ofNat).length=(az E ls).length:=by simp
 have hul:=Bc E ls;unfold exV at HU;generalize(az E ls).map Int.ofNat=Z at *;have HZK:=yq hzk;have HZL:=yq hzl;have hZ10:Z.length<=10:=by omega
 unfold vwV exV;clear hR hL hl hbl hok hrng hg0 ho hst hzk hzl hul
 go_enter func32,ntmps32
 go_wp2_with (go_at_call 58;refine(HU.out _ (gqq HG0.out ag)).mono ?_;rintro e' w' ⟨⟨x,rfl,hxi,hxn⟩,bs,d,rfl⟩;have HXI:=yq hxi;have HXN:=yq hxn;obtain⟨-,-,xa,xc,rfl,-⟩:=hxi;clear hxn)
 refine fF (fun W2 hW=>?_);have HG2:Hid (W0.Grows W2):=yq (by rw [<-hW];exact gqq HG0.out ag);have HO2:Hid (W2.ownsRow W0.heap.size 53 5 vs st0.length (dL st0)):=yq (by rw [<-hW];exact bK HO.out ag)
 have HBV:Hid (W2.heap[w.heap.size+1]? =some (.cells #[.int .i64 x0,.int .i64 x1,.int .i64 x2,.slice a3 n3 k3,.slice a4 n4 k4,.slice a5 ls.length k5,.slice a6 n6 k6,.slice a7 n7 k7] 36 (0,0))):=yq (by
  rw [<-hW,World.heap_grow _ _ _ zg,Below.heap_alloc _ _ _ zg];exact bP _ _ _ zg)
 have HBW:Hid (W2.heap[w.heap.size+2]? =some (.cells (vwA v (.slice ya v.years.length yc)) 41 (0,0))):=yq (by
  unfold vwA;rw [<-hW,World.heap_grow _ _ _ zg];exact bP _ _ _ zg)
 have HXI2:Hid (ax W2 (.slice xa Z.length xc) Z):=yq (by rw [<-hW];exact HXI.out);have HXN2:Hid (∀k,(Value.slice xa Z.length xc).ownBlock=some k->w.heap.size<=k):=yq (fun k hk=>by have:=HXN.out k hk;simp at this;omega);have hs2:w.heap.size+2<W2.heap.size:=(Array.getElem?_eq_some_iff.1 HBW.out).1;have HOT:Hid (Out w.heap.size W2.heap.size vs):=yq (fun k hk=>.inl (HO.out.lt k hk).2);clear hW HXI HXN HU HO
 go_loopw [3,11] (fun v3 v11 wr=>∃(k:Nat) (vb:Value) (D:List Nat) (st:List (ByteArray × Val)),vb=v3/\k<=Z.length/\v11= .int .i64 k/\W0.Grows wr/\Mid w.heap.size W2 wr/\wr.ownsRow W0.heap.size 53 5 vb st.length (dL st)/\Out w.heap.size W2.heap.size vb/\st.length<=st0.length+k/\Hid (dW v ls env E D0 st0 k D st)) (fun _ v11 _=>Z.length-(intOf v11).toNat)
 case atStart=>exact⟨0,_,D0,st0,rfl,by omega,rfl,HG2.out,.refl _ _,HO2.out,HOT.out,by omega,yq (dW.zero E HST.out)⟩
 case round=>
  obtain⟨k,vb,D,st,rfl,hk,rfl,hg,hm,hown,hout,hsl,HRA⟩:=hrel;obtain⟨W1,rfl⟩:∃W1,W1=wr:=⟨_,rfl⟩;have HG:=yq hg;have HM:=yq hm;have HO:=yq hown;have HOT1:=yq hout;have hs1:w.heap.size+2<W1.heap.size:=by have:=hm.1;omega
  have hs11:w.heap.size+1<W1.heap.size:=by omega
  have hB1:W1.heap[w.heap.size+1]? =_:=(hm.2 _ ze ze).trans HBV.out;have hB2:W1.heap[w.heap.size+2]? =_:=(hm.2 _ ze hs2).trans HBW.out;have HB2:=yq hB2;have q0:W1.cell? ⟨w.heap.size+1,5,none⟩=some (.slice a5 ls.length k5):=by rw [cell_of_row W1 _ _ _ _ _ hB1];rfl
  have hXI1:=hm.ints HXI2.out HXN2.out;clear hm hout hB1 hB2;by_cases hlt:k<Z.length
  ·have hu:k<(az E ls).length:=by rw [<-HZL.out];exact hlt
   have hzk:=HZK.out k hlt;have hil:=sD (sF hu);obtain⟨hfo,hty,hva⟩:=HRA.out.typed HLS.out hu;have HSK:=yq (fun hc=>HRA.out.skip hu hc);have HBAD:=yq (fun hc hv=>HRA.out.bad hu hc hv);have HNX:=yq (fun hc hv=>HRA.out.next HLS.out HOK.out hu hc hv);have HSO:=yq HRA.out.ok;have HSB:=yq (HRA.out.ok.sub _ hil);generalize(az E ls).getD k 0=i at *;obtain⟨-,-,xa',xc',hv1,hx⟩:=hXI1;simp only [Value.slice.injEq,true_and]at hv1;obtain⟨rfl,rfl⟩:=hv1;rcases hx with h0|⟨bu,ou,rfl,hbu,hx⟩
   ·omega
   have q1:=hx k hlt;rw [hzk]at q1;obtain⟨-,a',c',hv2,hy⟩:=HL.out.grows hg;simp only [Value.slice.injEq,true_and]at hv2;obtain⟨rfl,rfl⟩:=hv2;rcases hy with h0|⟨bl,ol,rfl,hbl,hy⟩
   ·omega
   obtain⟨ub,m,m0,m1,m2,m3,m4,m5,hrb⟩:=hy i hil;have hsz:=HBL.out _ (gq hil);have HVL:=yq (Mv HOK.out HRA.out.ok.ok hva hty);have hd1:(k:Int)<(Z.length:Int):=by omega
   have hd2:(i:Int)<(ls.length:Int):=by omega
   have HSP:=yq (bi.of_own hown ze);obtain⟨-,va,vc,rfl,-⟩:=bi.of_own hown (show st.length<=1000 by omega);generalize ls.getD i default=tt at *;obtain⟨nm,bd⟩:=tt;dsimp only at m m0 m1 m2 m3 m4 m5 hrb hsz HVL HBAD HNX HSB;obtain⟨ra,rc,rfl⟩:=hrb.form0;have HRB:=yq hrb;have HKL:=yq hlt;have HSL:=yq hsl;have hst100:st.length<=100:=by omega
   clear hrb hfo hty hva hx hy hzk hil hu hown hg hlt hk hsl
   go_wp2_with fail
   refine TS.begin [9] (World.Grows _) zf zf aL (fun hS=>?_);refine kq 0 hS ?_;refine kq 1 hS ?_;refine kq 2 hS ?_;refine kq 3 hS ?_;refine kq 4 hS ?_;refine kq 5 hS ?_;refine kq 6 hS ?_;refine kq 7 hS ?_;refine TS.one (i:=8) zq rfl (fun K1 hK1=>?_);have HK1:=yq hK1;clear hK1 hS;dsimp only [getElem_toArray,getElem_cons_succ,getElem_cons_zero]
   go_simp
   refine TS.go HK1.out ai (fun hS=>?_);clear HK1 K1
   (try simp only [nS])
   refine TS.weB 9 ?_;clear hS
   go_wp2_with fail
   refine fF (fun W3 hW3=>?_);have HG3:Hid (W1.Grows W3):=yq (by rw [<-hW3];exact ag);have HBX:Hid (W3.heap[W1.heap.size]? =some (.cells #[.string nm,.int .i64 bd.op,.int .i64 bd.num,.int .i64 bd.den,.int .i64 bd.dim,.string bd.name,.slice ra bd.args.length rc] 72 (0,0))):=yq (by rw [<-hW3];exact bP _ _ _ zg);clear hW3
   go_loopw [13,14] (fun v13 v14 wr=>∃(j:Nat) (q:Bool),v13= .bool q/\j<=st.length/\v14= .int .i64 j/\Hid (((st.take j).any fun p=>decide (p.1=nm))=q)/\W3.Grows wr) (fun _ v14 _=>st.length-(intOf v14).toNat)
   case atStart=>exact⟨0,false,rfl,by omega,rfl,yq rfl,.refl _⟩
   case round=>
    obtain⟨j,q,rfl,hj,rfl,HQ,hgr⟩:=hrel;obtain⟨W4,rfl⟩:∃W4,W4=wr:=⟨_,rfl⟩;have HG4:=yq hgr;have HG14:=yq (gqq HG3.out hgr);have hbx:W4.heap[W1.heap.size]? =_:=(hgr.below.block _ (Array.getElem?_eq_some_iff.1 HBX.out).1).trans HBX.out;have HBX4:=yq hbx;have hs4:W1.heap.size<W4.heap.size:=(Array.getElem?_eq_some_iff.1 hbx).1;have r0:W4.cell? ⟨W1.heap.size,0,none⟩=some (.string nm):=by rw [cell_of_row W4 _ _ _ _ _ hbx];rfl
    clear hgr hbx;by_cases hjl:j<st.length
    ·have HAN:=yq (MH (nm:=nm) hjl);obtain⟨bs',os',rfl,hbs',s0⟩:=QE (HSP.out.grows HG14.out) hjl;have e1:(j:Int)<(st.length:Int):=by omega
     have HJL:=yq hjl;have hj100:j<=100:=by omega
     clear hjl hj;generalize stN st j=sj at *
     cases q with
     |true=>
      have HQ2:Hid (((st.take (j+1)).any fun p=>decide (p.1=nm))=true):=yq (by rw [HAN.out,HQ.out];rfl)
      go_wp2_with fail
      go_region
      go_wp2_with fail
      go_roundw
      case rel=>exact⟨j+1,true,rfl,HJL.out,by go_num,HQ2,gqq HG4.out ag⟩
      case measure=>simp [intOf];have:=HJL.out;omega
     |false=>
      by_cases he:sj=nm
      ·have he2:(sj.toList==nm.toList)=true:=by rw [he];simp
       have HQ2:Hid (((st.take (j+1)).any fun p=>decide (p.1=nm))=true):=yq (by rw [HAN.out,decide_eq_true he,Bool.or_true]);clear he
       go_wp2_with fail
       go_region
       go_wp2_with fail
       go_roundw
       case rel=>exact⟨j+1,true,rfl,HJL.out,by go_num,HQ2,gqq HG4.out ag⟩
       case measure=>simp [intOf];have:=HJL.out;omega
      ·have he2:(sj.toList==nm.toList)=false:=by rw [beq_eq_false_iff_ne];exact fun h=>he (mQ h)
       have HQ2:Hid (((st.take (j+1)).any fun p=>decide (p.1=nm))=false):=yq (by rw [HAN.out,HQ.out,decide_eq_false he];rfl);clear he
       go_wp2_with fail
       go_region
       go_wp2_with fail
       go_roundw
       case rel=>exact⟨j+1,false,rfl,HJL.out,by go_num,HQ2,gqq HG4.out ag⟩
       case measure=>simp [intOf];have:=HJL.out;omega
    obtain rfl:j=st.length:=by omega
    have HC:Hid (D.contains i=q):=yq (by rw [<-HSB.out,<-HQ.out,take_length]);have HGW:=yq (gqq HG.out HG14.out);have HMW:=yq (HM.out.grows HG14.out);have HOW:=yq (bK HO.out HG14.out);clear HQ hj
    cases q with
    |true=>
     have HN2:=yq (HSK.out HC.out)
     go_wp2_with fail
     go_roundw
     case rel=>exact⟨k+1,_,D,st,rfl,HKL.out,by go_num,gqq HGW.out ag,HMW.out.grows ag,bK HOW.out ag,HOT1.out,by have:=HSL.out;omega,HN2⟩
     case measure=>simp [intOf];have:=HKL.out;omega
    |false=>
     have hX:=fun w' (hg:W4.Grows w')=>xS (fun _=>True) v (.slice ya v.years.length yc) (.slice va st.length vc) st bd ra rc w' (HRB.out.grows (gqq HG14.out hg)) ze (HY.out.grows (gqq HGW.out hg)) HRNG.out (HSP.out.grows (gqq HG14.out hg)) (fun p hp=>Val.ok_rng (HSO.out.ok p hp));rw [HVL.out]at hX;have HB1:=yq (fun hv=>HBAD.out HC.out hv);have HN1:=yq (fun hv=>HNX.out HC.out hv);generalize aj v st bd=r at *;obtain⟨⟨rm,ry,rn,rd⟩,c⟩:=r;unfold J4 dY vwV exV at hX;dsimp only at hX HB1 HN1;have HX:=yq hX;have hw2:W4.heap[w.heap.size+2]? =_:=(HG14.out.below.block _ hs1).trans HB2.out;have p:=fun(j:Nat) (z:Value) (hz:(vwA v (.slice ya v.years.length yc))[j]? =some z)=>(cell_of_row W4 _ j _ _ _ hw2).trans hz;have p0:=p 0 _ rfl;have p1:=p 1 _ rfl;have p2:=p 2 _ rfl;have p3:=p 3 _ rfl;have p4:=p 4 _ rfl;have p5:=p 5 _ rfl;have p6:=p 6 _ rfl;have p7:=p 7 _ rfl;have p8:=p 8 _ rfl;have p9:=p 9 _ rfl;have p10:=p 10 _ rfl;have p11:=p 11 _ rfl;have p12:=p 12 _ rfl;have r:=fun(j:Nat) (z:Value) (hz:(#[Value.string nm,.int .i64 bd.op,.int .i64 bd.num,.int .i64 bd.den,.int .i64 bd.dim,.string bd.name,.slice ra bd.args.length rc]:Array Value)[j]? =some z)=>(cell_of_row W4 _ j _ _ _ HBX4.out).trans hz;have r1:=r 1 _ rfl;have r2:=r 2 _ rfl;have r3:=r 3 _ rfl;have r4:=r 4 _ rfl;have r5:=r 5 _ rfl;have r6:=r 6 _ rfl;have hs5:w.heap.size+2<W4.heap.size:=by omega
     clear p r hX hw2 HBAD HNX HSK;by_cases hc:c=0
     ·subst hc;have HN2:=yq (HN1.out rfl)
      go_wp2_with (first
       |((first|(go_at_call 33;refine gvq (HX.out _ ag) ?_;intro bs5 d5)))
       |(at_builtin;refine wpList_append_lies _ rfl _ _ 44 rfl W0.heap.size 53 i0 _ 5 48 underlying44 hi hz0 hz1 hz2 rfl zo _ st.length _ rfl (bK HOW.out ag) ⟨_,0,none⟩ 1 1 [.string nm,.int .i64 rm,.bool ry,.int .i64 rn,.int .i64 rd] rfl rfl ?c1 ?c2 ze ?c3 ?c4 ?c5 _ rfl ?_))
      case c1=>exact aQ _ [.string nm,.int .i64 rm,.bool ry,.int .i64 rn,.int .i64 rd] _ _ zg
      case c2=>intro u hu;simp at hu;rcases hu with rfl|rfl|rfl|rfl|rfl<;>rfl
      case c3=>unfold maxLen;have:=HSL.out;omega
      case c4=>have:=HSL.out;omega
      case c5=>have:=HGW.out.below.size;simp;omega
      intro g cap w1 hown' hgrow hgg hgl;have HO5:=yq hown';have HG5:Hid (W0.Grows w1):=yq (World.Grows.grown (gqq HGW.out ag) hgrow (fun k hk=>(HOW.out.lt k hk).1));have HM5:Hid (Mid w.heap.size W2 w1):=yq (Mid.grown (HMW.out.grows ag) hgrow HOT1.out);have HT5:Hid (Out w.heap.size W2.heap.size (.slice (some ⟨g,0,none⟩) (st.length+1) cap)):=yq (HOT1.out.next hgg (by have:=HMW.out.1;simp;omega));clear hown' hgrow hgg hgl
      go_wp2_with fail
      go_roundw
      case rel=>exact⟨k+1,_,_,_,rfl,HKL.out,by go_num,HG5.out,HM5.out,by rw [length_append,jk];exact HO5.out,HT5.out,by have:=HSL.out;simp;omega,HN2⟩
      case measure=>simp [intOf];have:=HKL.out;omega
     ·have hc2:(c !=0)=true:=by simpa using hc
      have HF:=yq (HB1.out hc);have HCC:=yq hc;clear hc
      go_wp2_with ((first|(go_at_call 33;refine gvq (HX.out _ ag) ?_;intro bs5 d5)))
      go_returns
      exact⟨gqq HGW.out ag,.inl ⟨c,HCC.out,by rw [HF.out],rfl⟩⟩
  ·obtain rfl:k=Z.length:=by omega
   have HRE:Hid (dW v ls env E D0 st0 (az E ls).length D st):=yq (by rw [<-HZL.out];exact HRA.out);have HSL:=yq hsl;clear hown hg hXI1 hsl
   go_wp2_with fail
   go_returns
   exact⟨gqq HG.out ag,.inr ⟨_,D,st,rfl,HRE.out,bK HO.out ag,by have:=HSL.out;omega⟩⟩
theorem vC.bad{W0:World}{v:Vw}{ls:List (ByteArray × Ex)}{env:List (ByteArray × Int)}{E:Ex}{D0:List Nat}{st0:List (ByteArray × Val)}{e:Ending}{w':World}{c:Int}(h:vC W0 v ls env E D0 st0 e w')(hr:(gU v ls (az E ls) D0 st0).2.2=c)(hc:c≠0):e= .returned (.tuple #[.slice none 0 0,.int .i64 c])/\W0.Grows w':=by
 obtain⟨hg,⟨c',hc',hr',rfl⟩|⟨vs,D,st,rfl,hra,-⟩⟩:=h
 ·exact⟨by rw [<-hr',hr],hg⟩
 ·rw [hra.done]at hr;exact absurd hr.symm hc
theorem vC.good{W0:World}{v:Vw}{ls:List (ByteArray × Ex)}{env:List (ByteArray × Int)}{E:Ex}{D0 D:List Nat}{st0 st:List (ByteArray × Val)}{e:Ending}{w':World}(h:vC W0 v ls env E D0 st0 e w')(hr:gU v ls (az E ls) D0 st0=(D,st,0)) :
 ∃vs,e= .returned (.tuple #[vs,.int .i64 0])/\W0.Grows w'/\w'.ownsRow W0.heap.size 53 5 vs st.length (dL st)/\st.length<=st0.length+10:=by
 obtain⟨hg,⟨c',hc',hr',rfl⟩|⟨vs,D',st',rfl,hra,hown,hsl⟩⟩:=h
 ·rw [hr]at hr';exact absurd hr'.symm hc'
 ·have hd:=hra.done;rw [hr]at hd;simp only [Prod.mk.injEq,and_true]at hd;obtain⟨rfl,rfl⟩:=hd;exact⟨vs,rfl,hg,hown,hsl⟩
theorem vC.both{W0:World}{v:Vw}{ls:List (ByteArray × Ex)}{env:List (ByteArray × Int)}{E:Ex}{D0 D:List Nat}{st0 st:List (ByteArray × Val)}{e:Ending}{w':World}{c:Int}(h:vC W0 v ls env E D0 st0 e w')(hr:gU v ls (az E ls) D0 st0=(D,st,c)) :
 ∃vs,e= .returned (.tuple #[vs,.int .i64 c])/\W0.Grows w'/\(c=0->w'.ownsRow W0.heap.size 53 5 vs st.length (dL st)/\st.length<=st0.length+10):=by
 by_cases hc:c=0
 ·subst hc;obtain⟨vs,he,hg,ho,hl⟩:=h.good hr;exact⟨vs,he,hg,fun _=>⟨ho,hl⟩⟩
 ·obtain⟨he,hg⟩:=h.bad (by rw [hr]) hc;exact⟨_,he,hg,fun h0=>absurd h0 hc⟩
theorem J7(n d:Int)(w:World):Calls prog 34 #[.agg #[.int .i64 n,.int .i64 d]] w fun e w'=>e= .returned (.agg #[.int .i64 (if n<0 then(0,1)else(n,d):Int × Int).1,.int .i64 (if n<0 then(0,1)else(n,d):Int × Int).2])/\w.Grows w':=by
 by_cases h:n<0
 ·rw [if_pos h]
  go_enter func34,ntmps34
  exact nE
 ·rw [if_neg h]
  go_enter func34,ntmps34
  exact nE
def GrO(r:(Bool × Int × Int) × List (ByteArray × Val) × Int)(w:World)(e:Ending)(w':World):Prop:=∃sv,e= .returned (.tuple #[.agg #[.bool r.1.1,.int .i64 r.1.2.1,.int .i64 r.1.2.2,sv],.int .i64 r.2.2])/\w.Grows w'/\w'.ownsRow w.heap.size 53 5 sv r.2.1.length (dL r.2.1)/\r.2.1.length<=40/\∀p∈r.2.1,p.2.ok=true
theorem lY{w:World}{b b' size n:Nat}{e:TypeId}{v:Value}{xs:List Value}(hb:b'<=b)(h:w.ownsRow b e size v n xs):w.ownsRow b' e size v n xs:=by
 obtain⟨h0,h1|⟨g,cap,cur,hv,hbg,hr⟩⟩:=h
 ·exact⟨h0,.inl h1⟩
 ·exact⟨h0,.inr ⟨g,cap,cur,hv,Nat.le_trans hb hbg,hr⟩⟩
theorem GrO.bad{r:(Bool × Int × Int) × List (ByteArray × Val) × Int}{w w':World}{c:Int}(hr:r=((false,0,0),[],c))(hg:w.Grows w'):GrO r w (.returned (.tuple #[.agg #[.bool false,.int .i64 0,.int .i64 0,.slice none 0 0],.int .i64 c])) w':=by
 subst hr;exact⟨_,rfl,hg,World.ownsRow_nil _ _ _ _,by simp,fun p hp=>by cases hp⟩
theorem GrO.ok{r:(Bool × Int × Int) × List (ByteArray × Val) × Int}{w w':World}{b:Bool}{n d:Int}{sv:Value}{st:List (ByteArray × Val)}(hr:r=((b,n,d),st,0))(hg:w.Grows w')(hs:w'.ownsRow w.heap.size 53 5 sv st.length (dL st))(hl:st.length<=40)(ho:∀p∈st,p.2.ok=true):GrO r w (.returned (.tuple #[.agg #[.bool b,.int .i64 n,.int .i64 d,sv],.int .i64 0])) w':=by
 subst hr;exact⟨sv,rfl,hg,hs,hl,ho⟩
structure PT(w:World)(ls:List (ByteArray × Ex))(env:List (ByteArray × Int))(v:Vw)(y:Value)(a5:Option Addr)(k5:Nat):Prop where
 ok:iA ls ls.length env
 len:ls.length<=10
 sm:∀t∈ls,t.2.size<=1000000
 vok:v.ok=true
 rng:dV v
 at_:gI w (.slice a5 ls.length k5) ls
 yr:bI w y v.years
theorem PT.grows{w w':World}{ls:List (ByteArray × Ex)}{env:List (ByteArray × Int)}{v:Vw}{y:Value}{a5:Option Addr}{k5:Nat}(h:PT w ls env v y a5 k5)(hg:w.Grows w'):PT w' ls env v y a5 k5:=⟨h.ok,h.len,h.sm,h.vok,h.rng,h.at_.grows hg,h.yr.grows hg⟩
theorem EN(ls:List (ByteArray × Ex))(env:List (ByteArray × Int))(v:Vw)(g:Int × Ex × Ex)(u1 u2 y:Value)(a3 a4 a5 a6 a7:Option Addr)(n3 n4 n6 n7 k3 k4 k5 k6 k7:Nat)(x0 x1 x2:Int)(w:World)
 (hV:PT w ls env v y a5 k5) (hR1:aB (fun _=>True) w g.2.1 u1) (hR2:aB (fun _=>True) w g.2.2 u2) (ht1:aR env g.2.1=(1,0)) (ht2:aR env g.2.2=(4,0)) (hb1:g.2.1.size<=1000000) (hb2:g.2.2.size<=1000000) :
 Calls prog 18 #[.agg #[.int .i64 x0,.int .i64 x1,.int .i64 x2,.slice a3 n3 k3,.slice a4 n4 k4,.slice a5 ls.length k5,.slice a6 n6 k6,.slice a7 n7 k7],
  .agg #[.int .i64 g.1,.int .i64 g.2.1.op,.int .i64 g.2.1.num,.int .i64 g.2.1.den,.int .i64 g.2.1.dim,.string g.2.1.name,u1,.int .i64 g.2.2.op,.int .i64 g.2.2.num,.int .i64 g.2.2.den,.int .i64 g.2.2.dim,.string g.2.2.name,u2],vwV v y] w (GrO (ig v ls g) w):=by
 have HV:=yq hV;have HR1:=yq hR1;have HR2:=yq hR2;have HT1:=yq ht1;have HT2:=yq ht2;have HLA:=yq (fun W (hg:w.Grows W)=>wM ls env v g.2.1 u1 y (.slice none 0 0) a3 a4 a5 a6 a7 n3 n4 n6 n7 k3 k4 k5 k6 k7 x0 x1 x2 W W [] [] hV.ok hV.len hV.sm hV.vok hV.rng (hR1.grows hg) (hV.at_.grows hg) (hV.yr.grows hg) (.refl _) (lq.zero ls env) zg (World.ownsRow_nil _ _ _ _));have HLC:=yq (fun W W' vs D st (hg:w.Grows W) (hg':W.Grows W') h1 h2 h3=>wM ls env v g.2.2 u2 y vs a3 a4 a5 a6 a7 n3 n4 n6 n7 k3 k4 k5 k6 k7 x0 x1 x2 W W' D st hV.ok hV.len hV.sm hV.vok hV.rng (hR2.grows hg) (hV.at_.grows hg) (hV.yr.grows hg) hg' h1 h2 h3);obtain⟨i0,hi,hz0,hz1,hz2⟩:=info_parts Cf;obtain⟨ia,ic,rfl⟩:=hR1.form0;obtain⟨pa,pc,rfl⟩:=hR2.form0;obtain⟨-,ya,yc,rfl,-⟩:=hV.yr;have HX:=yq (fun w' E a cap (hg:w.Grows w') st vb (hrep:aB (fun _=>True) w' E (.slice a E.args.length cap)) (hsz:E.size<=1000000) (hs:bi w' vb st) (hE:∀p∈st,p.2.ok=true)=>xS (fun _=>True) v (.slice ya v.years.length yc) vb st E a cap w' hrep ze (hV.yr.grows hg) hV.rng hs (fun p hp=>Val.ok_rng (hE p hp)));unfold vwV exV at HLA HLC;unfold J4 vwV exV at HX;unfold vwV;obtain⟨⟨D,st,c⟩,hr⟩:∃r,gU v ls (az g.2.1 ls) [] []=r:=⟨_,rfl⟩;have HR:=yq hr;clear hV hR1 hR2 ht1 ht2 hr
 go_enter func18,ntmps18
 go_wp2_with fail
 go_at_call 32
 refine((HLA.out _ ag).mono fun _ _ h=>h.both HR.out).mono ?_;rintro e' w' ⟨vs,rfl,⟨bs,d,rfl⟩,hov⟩;by_cases hc:c=0
 case neg=>
  have HF:Hid (ig v ls g=((false,0,0),[],c)):=yq (LP (Mh (by rw [HR.out]) hc) hc);clear hov;have hc2:(c !=0)=true:=by simpa using hc
  clear hc
  go_wp2_with fail
  go_returns
  exact GrO.bad HF.out eB
 subst hc;obtain⟨hown,hsl⟩:=hov rfl;have HO:=yq hown;have HSL:=yq hsl;have HSP:=yq (bi.of_own hown (by simp at hsl;omega));clear hown hsl hov;have HRA:=yq (dW.of_run (lq.zero ls env) HV.out.ok HV.out.vok HR.out);obtain⟨hev,hok1⟩:=oL HRA.out HV.out.ok HV.out.vok HT1.out;have HDB:=yq (fun c h1 h2=>LP (c:=c) (g:=g) (Mg (nm:=ifN) HR.out h1 h2) h2);have HDC:=yq (fun x h1=>Mf (nm:=ifN) (x:=x) HR.out h1);have HX1:=yq (fun w' (hg:w.Grows w') vb (hs:bi w' vb st)=>by have:=HX.out w' g.2.1 ia ic hg st vb (HR1.out.grows hg) hb1 hs HRA.out.ok.ok;rw [hev]at this;exact this);clear hev;generalize aj v st g.2.1=r at *;obtain⟨⟨cm,cy,cn,cd⟩,c⟩:=r;unfold dY at HX1;dsimp only at HX1 HDB HDC hok1
 go_wp2_with fail
 go_at_call 33
 refine gvq (HX1.out _ ag _ (HSP.out.grows ag)) ?_;intro bs5 d5;by_cases hc:c=0
 case neg=>
  have HF:=yq (HDB.out c rfl hc);have hc2:(c !=0)=true:=by simpa using hc
  clear hc
  go_wp2_with fail
  go_returns
  exact GrO.bad HF.out eB
 subst hc;have HDE:=yq (HDC.out ⟨cm,cy,cn,cd⟩ rfl);have hx:=(hok1.good rfl).1;have HST1:=yq (HRA.out.ok.other HV.out.ok (s:=ifN) oZ.1 hx)
 have HL2:=yq (fun(W:World) bs d vs n (hg:w.Grows W) (hn:W.heap.size=n) (hl:st.length<=([]:List (ByteArray × Val)).length+10) (hO:(W.grow bs d).ownsRow n 53 5 vs (st.length+1) (dL st++[.string ⟨#[105,102]⟩,.int .i64 cm,.bool cy,.int .i64 cn,.int .i64 cd]))=>
  HLC.out W (W.grow bs d) vs D (st++[(ifN,⟨cm,cy,cn,cd⟩)]) hg ⟨bs,d,rfl⟩ HST1.out (by rw [length_append];have:st.length<=10:=hl;simp;omega) (by subst hn;rw [jk,length_append];exact hO))
 clear hx hok1
 go_wp2_with (at_builtin;refine wpList_append_lies _ rfl _ _ 44 rfl _ 53 i0 _ 5 48 underlying44 hi hz0 hz1 hz2 rfl zo _ st.length _ rfl (bK HO.out ag) ⟨_,0,none⟩ 1 1 [.string ⟨#[105,102]⟩,.int .i64 cm,.bool cy,.int .i64 cn,.int .i64 cd] rfl rfl ?c1 ?c2 ze ?c3 ?c4 ?c5 _ rfl ?_)
 case c1=>exact aQ _ [.string ⟨#[105,102]⟩,.int .i64 cm,.bool cy,.int .i64 cn,.int .i64 cd] _ _ zg
 case c2=>intro u hu;simp at hu;rcases hu with rfl|rfl|rfl|rfl|rfl<;>rfl
 case c3=>unfold maxLen;have:=HSL.out;simp at this;omega
 case c4=>have:=HSL.out;simp at this;omega
 case c5=>simp;omega
 intro gb cap w1 hown' hgrow hgg hgl;have HO5:=yq hown';have hc1:=(hgrow.block (w.heap.size+1+1+1+1+(bs.size+bs5.size)) zp (fun e=>by have:=(HO.out.lt _ e.symm).2;simp at this;omega)).trans ((Below.heap_alloc _ _ _ zg).trans (bP _ (.cells #[.int .i64 cm,.bool cy,.int .i64 cn,.int .i64 cd] 51) _ zg));have y1:=cell_of_row w1 _ 1 _ _ _ hc1;have HW5:=World.Grows.grown (W:=(((((w.alloc (.cells #[.int .i64 x0,.int .i64 x1,.int .i64 x2,.slice a3 n3 k3,.slice a4 n4 k4,.slice a5 ls.length k5,.slice a6 n6 k6,.slice a7 n7 k7] 36)).alloc (.cells #[.int .i64 g.1,.int .i64 g.2.1.op,.int .i64 g.2.1.num,.int .i64 g.2.1.den,.int .i64 g.2.1.dim,.string g.2.1.name,.slice ia g.2.1.args.length ic,.int .i64 g.2.2.op,.int .i64 g.2.2.num,.int .i64 g.2.2.den,.int .i64 g.2.2.dim,.string g.2.2.name,.slice pa g.2.2.args.length pc] 76)).alloc (.cells #[.int .i64 v.age,.int .i64 v.year,.int .i64 v.children,.int .i64 v.insured,.int .i64 v.worked,.int .i64 v.voluntary,.int .i64 v.service,.int .i64 v.equated,.int .i64 v.raising,.int .i64 v.resident,.int .i64 v.bn,.int .i64 v.bd,.slice ya v.years.length yc] 41)).alloc (.cells #[.bool false,.int .i64 0,.int .i64 0,.slice none 0 0] 46)))) ag hgrow (fun k hk=>by have:=(HO.out.lt k hk).1;simp at this ⊢;omega);clear hown' hgrow hgg hgl hc1;obtain⟨bs9,d9,rfl⟩:=HW5;generalize w.heap.size+1+1+1+1+(bs.size+bs5.size)=X at *;simp at y1
 cases cy with
 |false=>
  have HF:=yq (P9 (g:=g) HDE.out rfl)
  go_wp2_with fail
  go_returns
  exact GrO.ok HF.out ag (lY ze (World.ownsRow_same (X:=(((((w.alloc (.cells #[.int .i64 x0,.int .i64 x1,.int .i64 x2,.slice a3 n3 k3,.slice a4 n4 k4,.slice a5 ls.length k5,.slice a6 n6 k6,.slice a7 n7 k7] 36)).alloc (.cells #[.int .i64 g.1,.int .i64 g.2.1.op,.int .i64 g.2.1.num,.int .i64 g.2.1.den,.int .i64 g.2.1.dim,.string g.2.1.name,.slice ia g.2.1.args.length ic,.int .i64 g.2.2.op,.int .i64 g.2.2.num,.int .i64 g.2.2.den,.int .i64 g.2.2.dim,.string g.2.2.name,.slice pa g.2.2.args.length pc] 76)).alloc (.cells #[.int .i64 v.age,.int .i64 v.year,.int .i64 v.children,.int .i64 v.insured,.int .i64 v.worked,.int .i64 v.voluntary,.int .i64 v.service,.int .i64 v.equated,.int .i64 v.raising,.int .i64 v.resident,.int .i64 v.bn,.int .i64 v.bd,.slice ya v.years.length yc] 41)).alloc (.cells #[.bool false,.int .i64 0,.int .i64 0,.slice none 0 0] 46)))) (base:=w.heap.size+1+1+1+1) zg zg (by rw [length_append,jk];exact HO5.out))) yR HST1.out.ok
 |true=>
 obtain⟨⟨D2,st2,c⟩,hr2⟩:∃r,gU v ls (az g.2.2 ls) D (st++[(ifN,⟨cm,true,cn,cd⟩)])=r:=⟨_,rfl⟩;have HR2':=yq hr2;clear hr2
 go_wp2_with fail
 go_at_call 32
 refine(((HL2.out (((((w.alloc (.cells #[.int .i64 x0,.int .i64 x1,.int .i64 x2,.slice a3 n3 k3,.slice a4 n4 k4,.slice a5 ls.length k5,.slice a6 n6 k6,.slice a7 n7 k7] 36)).alloc (.cells #[.int .i64 g.1,.int .i64 g.2.1.op,.int .i64 g.2.1.num,.int .i64 g.2.1.den,.int .i64 g.2.1.dim,.string g.2.1.name,.slice ia g.2.1.args.length ic,.int .i64 g.2.2.op,.int .i64 g.2.2.num,.int .i64 g.2.2.den,.int .i64 g.2.2.dim,.string g.2.2.name,.slice pa g.2.2.args.length pc] 76)).alloc (.cells #[.int .i64 v.age,.int .i64 v.year,.int .i64 v.children,.int .i64 v.insured,.int .i64 v.worked,.int .i64 v.voluntary,.int .i64 v.service,.int .i64 v.equated,.int .i64 v.raising,.int .i64 v.resident,.int .i64 v.bn,.int .i64 v.bd,.slice ya v.years.length yc] 41)).alloc (.cells #[.bool false,.int .i64 0,.int .i64 0,.slice none 0 0] 46))) bs9 d9 _ _ ag zg HSL.out HO5.out)).mono fun _ _ h=>h.both HR2'.out).mono ?_;rintro e' w' ⟨vs2,rfl,⟨bs2,d2,rfl⟩,hov⟩;by_cases hc:c=0
 case neg=>
  have HF:=yq (LM (g:=g) HDE.out rfl (Mh (nm:=kI) (by rw [HR2'.out]) hc) hc);clear hov;have hc2:(c !=0)=true:=by simpa using hc
  clear hc
  go_wp2_with fail
  go_returns
  exact GrO.bad HF.out eB
 subst hc;obtain⟨hown2,hsl2⟩:=hov rfl;have HO7:=yq hown2;have HSL7:=yq (show st2.length<=30 by have:=HSL.out;simp at hsl2 this;omega);have HSP7:=yq (bi.of_own hown2 (by have:=HSL.out;simp at hsl2 this;omega));clear hown2 hsl2 hov;have HRA2:=yq (dW.of_run HST1.out HV.out.ok HV.out.vok HR2'.out);obtain⟨hev2,hok2⟩:=oL HRA2.out HV.out.ok HV.out.vok HT2.out;have HDB2:=yq (fun c h1 h2=>LM (c:=c) (g:=g) HDE.out rfl (Mg (nm:=kI) HR2'.out h1 h2) h2);have HDC2:=yq (fun x h1=>P8 (g:=g) HDE.out rfl (Mf (nm:=kI) (x:=x) HR2'.out h1));have HX2:=yq (fun w' (hg:w.Grows w') vb (hs:bi w' vb st2)=>by have:=HX.out w' g.2.2 pa pc hg st2 vb (HR2.out.grows hg) hb2 hs HRA2.out.ok.ok;rw [hev2]at this;exact this);clear hev2;generalize aj v st2 g.2.2=r at *;obtain⟨⟨pm,py,pn,pd⟩,c⟩:=r;unfold dY at HX2;dsimp only at HX2 HDB2 HDC2 hok2
 go_wp2_with fail
 go_at_call 33
 refine gvq (HX2.out _ ag _ (HSP7.out.grows ag)) ?_;intro bs6 d6;by_cases hc:c=0
 case neg=>
  have HF:=yq (HDB2.out c rfl hc);clear hok2;have hc2:(c !=0)=true:=by simpa using hc
  clear hc
  go_wp2_with fail
  go_returns
  exact GrO.bad HF.out eB
 subst hc;have hx2:=(hok2.good rfl).1
 have HOK2:Hid (∀p∈st2++[(kI,(⟨pm,py,pn,pd⟩:Val))],p.2.ok=true):=yq (fun p hp=>by
  rcases mem_append.1 hp with hp|hp
  ·exact HRA2.out.ok.ok p hp
  ·obtain rfl:p=_:=by simpa using hp
   exact hx2)
 clear hx2 hok2;obtain⟨⟨an,ad⟩,hab⟩:∃r:Int × Int,(if pn<0 then(0,1)else(pn,pd))=r:=⟨_,rfl⟩;have HF:=HDC2.out ⟨pm,py,pn,pd⟩ rfl;have hAB:=J7 pn pd;dsimp only at HF;rw [hab]at HF hAB;replace HF:=yq HF;have HAB:=yq hAB;clear hab hAB
 go_wp2_with (at_builtin;refine wpList_append_lies _ rfl _ _ 44 rfl _ 53 i0 _ 5 48 underlying44 hi hz0 hz1 hz2 rfl zo _ st2.length _ rfl (bK HO7.out ag) ⟨_,0,none⟩ 1 1 [.string ⟨#[112,97,121]⟩,.int .i64 pm,.bool py,.int .i64 pn,.int .i64 pd] rfl rfl ?c1 ?c2 ze ?c3 ?c4 ?c5 _ rfl ?_)
 case c1=>exact aQ _ [.string ⟨#[112,97,121]⟩,.int .i64 pm,.bool py,.int .i64 pn,.int .i64 pd] _ _ zg
 case c2=>intro u hu;simp at hu;rcases hu with rfl|rfl|rfl|rfl|rfl<;>rfl
 case c3=>unfold maxLen;have:=HSL7.out;omega
 case c4=>have:=HSL7.out;omega
 case c5=>simp;omega
 intro gb2 cap2 w1 hown' hgrow hgg hgl;have HO8:=yq hown';have hc1:=(hgrow.block (w.heap.size+1+1+1+1+(bs2.size+bs6.size)) zp (fun e=>by have:=(HO7.out.lt _ e.symm).2;simp at this;omega)).trans ((Below.heap_alloc _ _ _ zg).trans (bP _ (.cells #[.int .i64 pm,.bool py,.int .i64 pn,.int .i64 pd] 51) _ zg));have y2:=cell_of_row w1 _ 2 _ _ _ hc1;have y3:=cell_of_row w1 _ 3 _ _ _ hc1;have HW6:=World.Grows.grown (W:=(((((w.alloc (.cells #[.int .i64 x0,.int .i64 x1,.int .i64 x2,.slice a3 n3 k3,.slice a4 n4 k4,.slice a5 ls.length k5,.slice a6 n6 k6,.slice a7 n7 k7] 36)).alloc (.cells #[.int .i64 g.1,.int .i64 g.2.1.op,.int .i64 g.2.1.num,.int .i64 g.2.1.den,.int .i64 g.2.1.dim,.string g.2.1.name,.slice ia g.2.1.args.length ic,.int .i64 g.2.2.op,.int .i64 g.2.2.num,.int .i64 g.2.2.den,.int .i64 g.2.2.dim,.string g.2.2.name,.slice pa g.2.2.args.length pc] 76)).alloc (.cells #[.int .i64 v.age,.int .i64 v.year,.int .i64 v.children,.int .i64 v.insured,.int .i64 v.worked,.int .i64 v.voluntary,.int .i64 v.service,.int .i64 v.equated,.int .i64 v.raising,.int .i64 v.resident,.int .i64 v.bn,.int .i64 v.bd,.slice ya v.years.length yc] 41)).alloc (.cells #[.bool false,.int .i64 0,.int .i64 0,.slice none 0 0] 46)))) ag hgrow (fun k hk=>by have:=(HO7.out.lt k hk).1;simp at this ⊢;omega);clear hown' hgrow hgg hgl hc1;obtain⟨bs8,d8,rfl⟩:=HW6;generalize w.heap.size+1+1+1+1+(bs2.size+bs6.size)=X2 at *;simp at y2 y3
 go_wp2_with (go_at_call 34;refine gvq (HAB.out _) ?_;intro bs7 d7)
 go_returns
 exact GrO.ok HF.out ag (lY ze (World.ownsRow_same (X:=(((((w.alloc (.cells #[.int .i64 x0,.int .i64 x1,.int .i64 x2,.slice a3 n3 k3,.slice a4 n4 k4,.slice a5 ls.length k5,.slice a6 n6 k6,.slice a7 n7 k7] 36)).alloc (.cells #[.int .i64 g.1,.int .i64 g.2.1.op,.int .i64 g.2.1.num,.int .i64 g.2.1.den,.int .i64 g.2.1.dim,.string g.2.1.name,.slice ia g.2.1.args.length ic,.int .i64 g.2.2.op,.int .i64 g.2.2.num,.int .i64 g.2.2.den,.int .i64 g.2.2.dim,.string g.2.2.name,.slice pa g.2.2.args.length pc] 76)).alloc (.cells #[.int .i64 v.age,.int .i64 v.year,.int .i64 v.children,.int .i64 v.insured,.int .i64 v.worked,.int .i64 v.voluntary,.int .i64 v.service,.int .i64 v.equated,.int .i64 v.raising,.int .i64 v.resident,.int .i64 v.bn,.int .i64 v.bd,.slice ya v.years.length yc] 41)).alloc (.cells #[.bool false,.int .i64 0,.int .i64 0,.slice none 0 0] 46)))) (base:=w.heap.size+1+1+1+1) (bs:=bs8++bs7) (d:=d7) zg zg (by rw [length_append,jk];have:=bK HO8.out (w':=((((((w.alloc (.cells #[.int .i64 x0,.int .i64 x1,.int .i64 x2,.slice a3 n3 k3,.slice a4 n4 k4,.slice a5 ls.length k5,.slice a6 n6 k6,.slice a7 n7 k7] 36)).alloc (.cells #[.int .i64 g.1,.int .i64 g.2.1.op,.int .i64 g.2.1.num,.int .i64 g.2.1.den,.int .i64 g.2.1.dim,.string g.2.1.name,.slice ia g.2.1.args.length ic,.int .i64 g.2.2.op,.int .i64 g.2.2.num,.int .i64 g.2.2.den,.int .i64 g.2.2.dim,.string g.2.2.name,.slice pa g.2.2.args.length pc] 76)).alloc (.cells #[.int .i64 v.age,.int .i64 v.year,.int .i64 v.children,.int .i64 v.insured,.int .i64 v.worked,.int .i64 v.voluntary,.int .i64 v.service,.int .i64 v.equated,.int .i64 v.raising,.int .i64 v.resident,.int .i64 v.bn,.int .i64 v.bd,.slice ya v.years.length yc] 41)).alloc (.cells #[.bool false,.int .i64 0,.int .i64 0,.slice none 0 0] 46)))).grow (bs8++bs7) d7) ⟨bs7,d7,by rw [World.grow_grow]⟩;exact this))) (by have:=HSL7.out;simp;omega) HOK2.out
theorem Q6{V:dH}{b:Int}{v:Vw}{i:Nat}(h:v.ok=true)(h2:bF V=0)(hi:i<V.gr.length)(hn:∀j,j<i->(V.gr.getD j default).1≠b)(hb:(V.gr.getD i default).1=b):fH V b v=ig v V.le (V.gr.getD i default):=Cv h h2 (xH hi hn hb)
theorem Oy{β:Type}[Inhabited (Int × β)]{l:List (Int × β)}{b:Int}{i:Nat}(h:∀j,j<i->(l.getD j default).1≠b)(hb:(l.getD i default).1≠b):∀j,j<i+1->(l.getD j default).1≠b:=fun j hj=>by
 by_cases e:j=i
 ·subst e;exact hb
 ·exact h j ze
theorem vF(V:dH)(v:Vw)(b x0 x1 x2:Int)(v3 v4 v5 v6 v7 y:Value)(w:World)(h:vw w V v3 v4 v5 v6 v7)(hs:lI V)(h10:V.le.length<=10)(hrng:dV v)(hY:bI w y v.years) :
 Calls prog 7 #[.agg #[.int .i64 x0,.int .i64 x1,.int .i64 x2,v3,v4,v5,v6,v7],.int .i64 b,vwV v y] w (GrO (fH V b v) w):=by
 have HV:=yq h;have HS:=yq hs;have HY:=yq hY;have HVW:=yq (fun w' (hg:w.Grows w')=>eY v y w' hrng (HY.out.grows hg));have HVR:=yq (fun w' (hg:w.Grows w')=>AQ V x0 x1 x2 v3 v4 v5 v6 v7 w' (HV.out.grows hg) HS.out);have HVK:=yq (fun h0:bF V=0=>Gx.of h0);obtain⟨-,a3,k3,rfl,-⟩:=h.cr;obtain⟨-,a4,k4,rfl,-⟩:=h.se;obtain⟨-,a5,k5,rfl,-⟩:=h.le;obtain⟨-,a6,k6,rfl,-⟩:=h.gr;obtain⟨-,a7,k7,rfl,-⟩:=h.re;have HGA:=yq (fun w' (hg:w.Grows w') (g:Int × Ex × Ex) u1 u2 (h0:bF V=0) (hok:v.ok=true) (hm:g∈V.gr) r1 r2=>EN V.le (dJ V.le).1 v g u1 u2 y a3 a4 a5 a6 a7 (V.cr.map Prod.fst).length (V.se.map Prod.fst).length V.gr.length V.re.length k3 k4 k5 k6 k7 x0 x1 x2 w' ⟨(HVK.out h0).ls,h10,fun t ht=>(HS.out.le t ht).2,hok,hrng,HV.out.le.grows hg,HY.out.grows hg⟩ r1 r2 ((HVK.out h0).gr g hm).1 ((HVK.out h0).gr g hm).2 (HS.out.gr g hm).1 (HS.out.gr g hm).2);obtain⟨-,ya,yc,rfl,-⟩:=hY;unfold vwV at HVW HGA;unfold vwV;simp only [length_map]at HVR HGA ⊢;clear h hs hrng
 cases hok:v.ok with
 |false=>
  have HF:=yq (Cu (V:=V) (b:=b) hok);rw [hok]at HVW;clear hok
  go_enter func7,ntmps7
  go_wp2_with ((first|(go_at_call 16;refine gvq (HVW.out _ ag) ?_;intro bs d)|(go_at_call 17;refine gvq (HVR.out _ ag) ?_;intro bs2 d2)))
  go_returns
  exact GrO.bad HF.out ag
 |true=>
 rw [hok]at HVW;by_cases hc:bF V=0
 case neg=>
  have hc2:(bF V !=0)=true:=by simpa using hc
  have HF:=yq (Gh (b:=b) hok hc);clear hok hc;generalize bF V=c at *
  go_enter func7,ntmps7
  go_wp2_with ((first|(go_at_call 16;refine gvq (HVW.out _ ag) ?_;intro bs d)|(go_at_call 17;refine gvq (HVR.out _ ag) ?_;intro bs2 d2)))
  go_returns
  exact GrO.bad HF.out ag
 have HFA:=yq (fun i=>Q6 (i:=i) (b:=b) hok hc);have HFN:=yq (fun hn=>Cw (b:=b) hok hc (xI hn));have HGB:=yq (fun w' hg g u1 u2=>HGA.out w' hg g u1 u2 hc hok);have HCZ:=yq hc;rw [hc]at HVR;clear hok hc HGA HVK
 go_enter func7,ntmps7
 go_wp2_with ((first|(go_at_call 16;refine gvq (HVW.out _ ag) ?_;intro bs d)|(go_at_call 17;refine gvq (HVR.out _ ag) ?_;intro bs2 d2)))
 clear HVW HVR
 go_loopw [9] (fun vi wr=>∃i:Nat,i<=V.gr.length/\vi= .int .i64 i/\Hid (∀j,j<i->(V.gr.getD j default).1≠b)/\World.Grows ((((w.alloc (.cells #[.int .i64 x0,.int .i64 x1,.int .i64 x2,.slice a3 V.cr.length k3,.slice a4 V.se.length k4,.slice a5 V.le.length k5,.slice a6 V.gr.length k6,.slice a7 V.re.length k7] 36)).alloc (.cells #[.int .i64 v.age,.int .i64 v.year,.int .i64 v.children,.int .i64 v.insured,.int .i64 v.worked,.int .i64 v.voluntary,.int .i64 v.service,.int .i64 v.equated,.int .i64 v.raising,.int .i64 v.resident,.int .i64 v.bn,.int .i64 v.bd,.slice ya v.years.length yc] 41)).alloc (.cells #[.bool false,.int .i64 0,.int .i64 0,.slice none 0 0] 46))) wr) (fun vi _=>V.gr.length-(intOf vi).toNat)
 case atStart=>exact⟨0,by omega,rfl,yq (fun j hj=>by omega),ag⟩
 case round=>
  obtain⟨i,hi,rfl,HN,bs9,d9,rfl⟩:=hrel;by_cases hlt:i<V.gr.length
  ·obtain⟨-,a',c',hv',hx⟩:=HV.out.gr;simp only [Value.slice.injEq,true_and]at hv';obtain⟨rfl,rfl⟩:=hv';rcases hx with h0|⟨bg,og,rfl,hbg,hx⟩
   ·omega
   obtain⟨u,u',hg⟩:=hx i hlt;have hm:=gq hlt;have d1:(i:Int)<(V.gr.length:Int):=by omega
   have HKL:=yq hlt;have i1000:i<=1000:=by have:=HV.out.gr.1;omega
   have HAT:=yq (fun hb=>HFA.out i hlt HN.out hb);have HNX:=yq (fun hb=>Oy HN.out hb);have HCL:=yq (fun w' (hw:w.Grows w')=>HGB.out w' hw _ u u' hm (hg.rep.grows hw) (hg.rep2.grows hw));obtain⟨q0,p0,p1,p2,p3,p4,p5,r0,r1,r2,r3,r4,r5,hra,hrb⟩:=hg;obtain⟨ia,ic,rfl⟩:=hra.form0;obtain⟨pa,pc,rfl⟩:=hrb.form0;generalize V.gr.getD i default=g at *;clear hx hm hlt hi hra hrb;by_cases hb:g.1=b
   ·have hb2:(g.1==b)=true:=by simpa using hb
    have HF:=yq (HAT.out hb);obtain⟨⟨⟨gh,gn,gd⟩,gs,gc⟩,hgs⟩:∃r,ig v V.le g=r:=⟨_,rfl⟩;unfold GrO at HCL;rw [hgs]at HCL HF;dsimp only at HCL;clear hb hgs
    go_wp2_with fail
    refine TS.begin [10,11] (World.Grows _) zf zf aL (fun hS=>?_);refine kq 0 hS ?_;refine kq 1 hS ?_;refine kq 2 hS ?_;refine kq 3 hS ?_;refine kq 4 hS ?_;refine kq 5 hS ?_;refine kq 6 hS ?_;refine TS.one (i:=7) zf rfl (fun K1 hK1=>?_);have HK1:=yq hK1;clear hK1 hS;dsimp only [getElem_toArray,getElem_cons_succ,getElem_cons_zero]
    go_simp
    go_at_call 18
    refine(HCL.out _ ag).mono ?_;rintro e' w' ⟨sv,rfl,⟨bs3,d3,rfl⟩,hst,hsl,hso⟩;simp only [World.grow_grow]at hst;have HST:=yq hst;have HSL:=yq hsl;have HSO:=yq hso;clear hsl hso;obtain⟨-,sa,sc,rfl,-⟩:=bi.of_own hst (by have:=HSL.out;omega);clear hst;refine TS.go HK1.out ag (fun hS=>?_);clear HK1 K1
    (try simp only [nS])
    refine kq 8 hS ?_;refine kq 9 hS ?_;refine TS.wtB 10 ?_;refine TS.weB 11 ?_;clear hS
    go_wp2_with fail
    go_returns
    exact⟨_,by rw [HF.out],ag,by rw [HF.out];exact lY (b:=w.heap.size+1+1+1+bs9.size) ze (World.ownsRow_same (X:=((((w.alloc (.cells #[.int .i64 x0,.int .i64 x1,.int .i64 x2,.slice a3 V.cr.length k3,.slice a4 V.se.length k4,.slice a5 V.le.length k5,.slice (some ⟨bg,og,none⟩) V.gr.length k6,.slice a7 V.re.length k7] 36)).alloc (.cells #[.int .i64 v.age,.int .i64 v.year,.int .i64 v.children,.int .i64 v.insured,.int .i64 v.worked,.int .i64 v.voluntary,.int .i64 v.service,.int .i64 v.equated,.int .i64 v.raising,.int .i64 v.resident,.int .i64 v.bn,.int .i64 v.bd,.slice ya v.years.length yc] 41)).alloc (.cells #[.bool false,.int .i64 0,.int .i64 0,.slice none 0 0] 46)))) zg zg (by have:=HST.out;simp at this ⊢;exact this)),by rw [HF.out];exact HSL.out,by rw [HF.out];exact HSO.out⟩
   ·have hb2:(g.1==b)=false:=by simpa using hb
    have HN2:=yq (HNX.out hb);clear hb
    go_wp2_with fail
    go_roundw
    case rel=>exact⟨i+1,HKL.out,by go_num,HN2,ag⟩
    case measure=>simp [intOf];have:=HKL.out;omega
  ·obtain rfl:i=V.gr.length:=by omega
   have HF:=yq (HFN.out HN.out)
   go_wp2_with fail
   go_returns
   exact GrO.bad HF.out ag
end Go.Proofs.YtcfpoofhokbhlaaGreatDoor
