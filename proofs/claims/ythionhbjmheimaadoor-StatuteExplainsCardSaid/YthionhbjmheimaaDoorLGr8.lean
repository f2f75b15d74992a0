import Derived.Test.YthionhbjmheimaaDoorGrML
import Derived.Test.YthionhbjmheimaaDoorLV8b
import Derived.Test.YthionhbjmheimaaDoorLLt5
import Derived.Test.YthionhbjmheimaaDoorLK
set_option linter.all false
set_option maxHeartbeats 16000000
set_option maxRecDepth 1000000
namespace Go.Proofs.YthionhbjmheimaaDoor
open Go.RowKit
def LetsP(W0:World)(v:Vw)(ls:List (ByteArray × Ex))(env:List (ByteArray × Int))(E:Ex)(D0:List Nat)(st0:List (ByteArray × Val))(e:Ending)(w':World):Prop:=
 W0.Grows w'∧((∃c,c≠0∧(runU v ls (usesL E ls) D0 st0).2.2=c∧e= .returned (.tuple #[.slice none 0 0,.int .i64 c]))∨
  ∃vs D st,e= .returned (.tuple #[vs,.int .i64 0])∧RunAt v ls env E D0 st0 (usesL E ls).length D st∧w'.ownsRow W0.heap.size 54 5 vs st.length (stpL st)∧st.length≤st0.length+10)
theorem any_next{st:List (ByteArray × Val)}{nm:ByteArray}{j:Nat}(hj:j<st.length):((st.take (j+1)).any fun p=>decide (p.1=nm))=(((st.take j).any fun p=>decide (p.1=nm)) || decide (stN st j=nm)):=by
 rw [List.take_succ_eq_append_getElem hj,List.any_append]
 simp [stN,List.getD_eq_getElem?_getD,List.getElem?_eq_getElem hj]
theorem body_val{v:Vw}{st:List (ByteArray × Val)}{b:Ex}{m:Int}(hok:v.ok=true)(hE:∀p∈st,p.2.ok=true)(hv:validB b=true)(ht:inferF (dimsOf st) b=(m,0)):exprF' v st b=valueF v st b:=(expr_typed hok hE hv (by rw [ht])).1
theorem lets8_any(ls:List (ByteArray × Ex))(env:List (ByteArray × Int))(v:Vw)(E:Ex)(u y vs:Value)(a3 a4 a5 a6 a7:Option Addr)(n3 n4 n6 n7 k3 k4 k5 k6 k7:Nat)(x0 x1 x2:Int)(W0 w:World)(D0:List Nat)(st0:List (ByteArray × Val))
 (hl:LsOk ls ls.length env) (hlen:ls.length≤10) (hbl:∀t∈ls,t.2.size≤1000000) (hok:v.ok=true) (hrng:VwRng v)
 (hR:RepE (fun _=>True) W0 E u) (hL:LetsAt W0 (.slice a5 ls.length k5) ls) (hY:YrAt W0 y v.years) (hg0:W0.Grows w) (hst:StOk ls env D0 st0) (hn:st0.length≤20) (ho:w.ownsRow W0.heap.size 54 5 vs st0.length (stpL st0)) :
 Calls Tryd.prog 27 #[exV E u,.agg #[.int .i64 x0,.int .i64 x1,.int .i64 x2,.slice a3 n3 k3,.slice a4 n4 k4,.slice a5 ls.length k5,.slice a6 n6 k6,.slice a7 n7 k7],vwV v y,vs] w (LetsP W0 v ls env E D0 st0):=by
 obtain⟨i0,hi,hz0,hz1,hz2⟩:=info_parts infoS
 have HL:=Lib.hid hL
 have HY:=Lib.hid hY
 have HLS:=Lib.hid hl
 have HBL:=Lib.hid hbl
 have HOK:=Lib.hid hok
 have HRNG:=Lib.hid hrng
 have HG0:=Lib.hid hg0
 have HO:=Lib.hid ho
 have HST:=Lib.hid hst
 have HU:=Lib.hid (fun w' (hg:W0.Grows w')=>Uses8_any E u (.slice a5 ls.length k5) ls w' (hR.grows hg) (hL.grows hg))
 obtain⟨ua,uc,rfl⟩:=hR.form0
 obtain⟨-,ya,yc,rfl,-⟩:=hY
 have hzk:=fun k=>@uses_z E ls k
 have hzl:((usesL E ls).map Int.ofNat).length=(usesL E ls).length:=by simp
 have hul:=uses_len E ls
 unfold exV at HU
 generalize(usesL E ls).map Int.ofNat=Z at *
 have HZK:=Lib.hid hzk
 have HZL:=Lib.hid hzl
 have hZ10:Z.length≤10:=by omega
 unfold vwV exV
 clear hR hL hl hbl hok hrng hg0 ho hst hzk hzl hul
 go_enter Tryd.func27,Tryd.ntmps27
 go_wp2_with (go_at_call 47;refine(HU.out _ (World.Grows.trans' HG0.out growsA)).mono ?_;rintro e' w' ⟨⟨x,rfl,hxi,hxn⟩,bs,d,rfl⟩;have HXI:=Lib.hid hxi;have HXN:=Lib.hid hxn;obtain⟨-,-,xa,xc,rfl,-⟩:=hxi;clear hxn)
 refine wp_abs (fun W2 hW=>?_)
 have HG2:Hid (W0.Grows W2):=Lib.hid (by rw [←hW];exact World.Grows.trans' HG0.out growsA)
 have HO2:Hid (W2.ownsRow W0.heap.size 54 5 vs st0.length (stpL st0)):=Lib.hid (by rw [←hW];exact own_grow HO.out growsA)
 have HBV:Hid (W2.heap[w.heap.size+1]? =some (.cells #[.int .i64 x0,.int .i64 x1,.int .i64 x2,.slice a3 n3 k3,.slice a4 n4 k4,.slice a5 ls.length k5,.slice a6 n6 k6,.slice a7 n7 k7] 44 (0,0))):=Lib.hid (by
  rw [←hW,World.heap_grow _ _ _ (by simp),Below.heap_alloc _ _ _ (by simp)];exact heap_new _ _ _ (by simp))
 have HBW:Hid (W2.heap[w.heap.size+2]? =some (.cells (vwA v (.slice ya v.years.length yc)) 48 (0,0))):=Lib.hid (by
  unfold vwA;rw [←hW,World.heap_grow _ _ _ (by simp)];exact heap_new _ _ _ (by simp))
 have HXI2:Hid (IntsAt W2 (.slice xa Z.length xc) Z):=Lib.hid (by rw [←hW];exact HXI.out)
 have HXN2:Hid (∀k,(Value.slice xa Z.length xc).ownBlock=some k→w.heap.size≤k):=Lib.hid (fun k hk=>by have:=HXN.out k hk;simp at this;omega)
 have hs2:w.heap.size+2<W2.heap.size:=(Array.getElem?_eq_some_iff.1 HBW.out).1
 have HOT:Hid (Out w.heap.size W2.heap.size vs):=Lib.hid (fun k hk=>.inl (HO.out.lt k hk).2)
 clear hW HXI HXN HU HO
 go_loopw [3,11] (fun v3 v11 wr=>∃(k:Nat) (vb:Value) (D:List Nat) (st:List (ByteArray × Val)),vb=v3∧k≤Z.length∧v11= .int .i64 k∧W0.Grows wr∧Mid w.heap.size W2 wr∧wr.ownsRow W0.heap.size 54 5 vb st.length (stpL st)∧Out w.heap.size W2.heap.size vb∧st.length≤st0.length+k∧Hid (RunAt v ls env E D0 st0 k D st)) (fun _ v11 _=>Z.length-(intOf v11).toNat)
 case atStart=>exact⟨0,_,D0,st0,rfl,by omega,rfl,HG2.out,.refl _ _,HO2.out,HOT.out,by omega,Lib.hid (RunAt.zero E HST.out)⟩
 case round=>
  obtain⟨k,vb,D,st,rfl,hk,rfl,hg,hm,hown,hout,hsl,HRA⟩:=hrel
  obtain⟨W1,rfl⟩:∃W1,W1=wr:=⟨_,rfl⟩
  have HG:=Lib.hid hg
  have HM:=Lib.hid hm
  have HO:=Lib.hid hown
  have HOT1:=Lib.hid hout
  have hs1:w.heap.size+2<W1.heap.size:=by have:=hm.1;omega
  have hs11:w.heap.size+1<W1.heap.size:=by omega
  have hB1:W1.heap[w.heap.size+1]? =_:=(hm.2 _ (by omega) (by omega)).trans HBV.out
  have hB2:W1.heap[w.heap.size+2]? =_:=(hm.2 _ (by omega) hs2).trans HBW.out
  have HB2:=Lib.hid hB2
  have q0:W1.cell? ⟨w.heap.size+1,5,none⟩=some (.slice a5 ls.length k5):=by rw [cell_of_row W1 _ _ _ _ _ hB1];rfl
  have hXI1:=hm.ints HXI2.out HXN2.out
  clear hm hout hB1 hB2
  by_cases hlt:k<Z.length
  ·have hu:k<(usesL E ls).length:=by rw [←HZL.out];exact hlt
   have hzk:=HZK.out k hlt
   have hil:=uses_lt (uses_at hu)
   obtain⟨hfo,hty,hva⟩:=HRA.out.typed HLS.out hu
   have HSK:=Lib.hid (fun hc=>HRA.out.skip hu hc)
   have HBAD:=Lib.hid (fun hc hv=>HRA.out.bad hu hc hv)
   have HNX:=Lib.hid (fun hc hv=>HRA.out.next HLS.out HOK.out hu hc hv)
   have HSO:=Lib.hid HRA.out.ok
   have HSB:=Lib.hid (HRA.out.ok.sub _ hil)
   generalize(usesL E ls).getD k 0=i at *
   obtain⟨-,-,xa',xc',hv1,hx⟩:=hXI1
   simp only [Value.slice.injEq,true_and]at hv1
   obtain⟨rfl,rfl⟩:=hv1
   rcases hx with h0|⟨bu,ou,rfl,hbu,hx⟩
   ·omega
   have q1:=hx k hlt
   rw [hzk]at q1
   obtain⟨-,a',c',hv2,hy⟩:=HL.out.grows hg
   simp only [Value.slice.injEq,true_and]at hv2
   obtain⟨rfl,rfl⟩:=hv2
   rcases hy with h0|⟨bl,ol,rfl,hbl,hy⟩
   ·omega
   obtain⟨ub,m,m0,m1,m2,m3,m4,m5,hrb⟩:=hy i hil
   have hsz:=HBL.out _ (getD_mem hil)
   have HVL:=Lib.hid (body_val HOK.out HRA.out.ok.ok hva hty)
   have hd1:(k:Int)<(Z.length:Int):=by omega
   have hd2:(i:Int)<(ls.length:Int):=by omega
   have HSP:=Lib.hid (StpAt.of_own hown (by omega))
   obtain⟨-,va,vc,rfl,-⟩:=StpAt.of_own hown (show st.length≤1000 by omega)
   generalize ls.getD i default=tt at *
   obtain⟨nm,bd⟩:=tt
   dsimp only at m m0 m1 m2 m3 m4 m5 hrb hsz HVL HBAD HNX HSB
   obtain⟨ra,rc,rfl⟩:=hrb.form0
   have HRB:=Lib.hid hrb
   have HKL:=Lib.hid hlt
   have HSL:=Lib.hid hsl
   have hst100:st.length≤100:=by omega
   clear hrb hfo hty hva hx hy hzk hil hu hown hg hlt hk hsl
   go_wp2_with fail
   refine TS.begin [9] (World.Grows _) (by kernel_rfl) (by kernel_rfl) grows_drew0 (fun hS=>?_)
   refine TS.wkB 0 hS ?_
   refine TS.wkB 1 hS ?_
   refine TS.wkB 2 hS ?_
   refine TS.wkB 3 hS ?_
   refine TS.wkB 4 hS ?_
   refine TS.wkB 5 hS ?_
   refine TS.wkB 6 hS ?_
   refine TS.wkB 7 hS ?_
   refine TS.one (i:=8) (by decide+kernel) rfl (fun K1 hK1=>?_)
   have HK1:=Lib.hid hK1
   clear hK1 hS
   dsimp only [List.getElem_toArray,List.getElem_cons_succ,List.getElem_cons_zero]
   go_simp
   refine TS.go HK1.out growsP (fun hS=>?_)
   clear HK1 K1
   (try simp only [nS])
   refine TS.weB 9 ?_
   clear hS
   go_wp2_with fail
   refine wp_abs (fun W3 hW3=>?_)
   have HG3:Hid (W1.Grows W3):=Lib.hid (by rw [←hW3];exact growsA)
   have HBX:Hid (W3.heap[W1.heap.size]? =some (.cells #[.string nm,.int .i64 bd.op,.int .i64 bd.num,.int .i64 bd.den,.int .i64 bd.dim,.string bd.name,.slice ra bd.args.length rc] 77 (0,0))):=Lib.hid (by rw [←hW3];exact heap_new _ _ _ (by simp))
   clear hW3
   go_loopw [13,14] (fun v13 v14 wr=>∃(j:Nat) (q:Bool),v13= .bool q∧j≤st.length∧v14= .int .i64 j∧Hid (((st.take j).any fun p=>decide (p.1=nm))=q)∧W3.Grows wr) (fun _ v14 _=>st.length-(intOf v14).toNat)
   case atStart=>exact⟨0,false,rfl,by omega,rfl,Lib.hid rfl,.refl _⟩
   case round=>
    obtain⟨j,q,rfl,hj,rfl,HQ,hgr⟩:=hrel
    obtain⟨W4,rfl⟩:∃W4,W4=wr:=⟨_,rfl⟩
    have HG4:=Lib.hid hgr
    have HG14:=Lib.hid (World.Grows.trans' HG3.out hgr)
    have hbx:W4.heap[W1.heap.size]? =_:=(hgr.below.block _ (Array.getElem?_eq_some_iff.1 HBX.out).1).trans HBX.out
    have HBX4:=Lib.hid hbx
    have hs4:W1.heap.size<W4.heap.size:=(Array.getElem?_eq_some_iff.1 hbx).1
    have r0:W4.cell? ⟨W1.heap.size,0,none⟩=some (.string nm):=by rw [cell_of_row W4 _ _ _ _ _ hbx];rfl
    clear hgr hbx
    by_cases hjl:j<st.length
    ·have HAN:=Lib.hid (any_next (nm:=nm) hjl)
     obtain⟨bs',os',rfl,hbs',s0⟩:=stp_at (HSP.out.grows HG14.out) hjl
     have e1:(j:Int)<(st.length:Int):=by omega
     have HJL:=Lib.hid hjl
     have hj100:j≤100:=by omega
     clear hjl hj
     generalize stN st j=sj at *
     cases q with
     |true=>
      have HQ2:Hid (((st.take (j+1)).any fun p=>decide (p.1=nm))=true):=Lib.hid (by rw [HAN.out,HQ.out];rfl)
      go_wp2_with fail
      go_region
      go_wp2_with fail
      go_roundw
      case rel=>exact⟨j+1,true,rfl,HJL.out,by go_num,HQ2,World.Grows.trans' HG4.out growsA⟩
      case measure=>simp [intOf];have:=HJL.out;omega
     |false=>
      by_cases he:sj=nm
      ·have he2:(sj.toList==nm.toList)=true:=by rw [he];simp
       have HQ2:Hid (((st.take (j+1)).any fun p=>decide (p.1=nm))=true):=Lib.hid (by rw [HAN.out,decide_eq_true he,Bool.or_true])
       clear he
       go_wp2_with fail
       go_region
       go_wp2_with fail
       go_roundw
       case rel=>exact⟨j+1,true,rfl,HJL.out,by go_num,HQ2,World.Grows.trans' HG4.out growsA⟩
       case measure=>simp [intOf];have:=HJL.out;omega
      ·have he2:(sj.toList==nm.toList)=false:=by rw [beq_eq_false_iff_ne];exact fun h=>he (toList_in h)
       have HQ2:Hid (((st.take (j+1)).any fun p=>decide (p.1=nm))=false):=Lib.hid (by rw [HAN.out,HQ.out,decide_eq_false he];rfl)
       clear he
       go_wp2_with fail
       go_region
       go_wp2_with fail
       go_roundw
       case rel=>exact⟨j+1,false,rfl,HJL.out,by go_num,HQ2,World.Grows.trans' HG4.out growsA⟩
       case measure=>simp [intOf];have:=HJL.out;omega
    obtain rfl:j=st.length:=by omega
    have HC:Hid (D.contains i=q):=Lib.hid (by rw [←HSB.out,←HQ.out,List.take_length])
    have HGW:=Lib.hid (World.Grows.trans' HG.out HG14.out)
    have HMW:=Lib.hid (HM.out.grows HG14.out)
    have HOW:=Lib.hid (own_grow HO.out HG14.out)
    clear HQ hj
    cases q with
    |true=>
     have HN2:=Lib.hid (HSK.out HC.out)
     go_wp2_with fail
     go_roundw
     case rel=>exact⟨k+1,_,D,st,rfl,HKL.out,by go_num,World.Grows.trans' HGW.out growsA,HMW.out.grows growsA,own_grow HOW.out growsA,HOT1.out,by have:=HSL.out;omega,HN2⟩
     case measure=>simp [intOf];have:=HKL.out;omega
    |false=>
     have hX:=fun w' (hg:W4.Grows w')=>Expr8_any (fun _=>True) v (.slice ya v.years.length yc) (.slice va st.length vc) st bd ra rc w' (HRB.out.grows (World.Grows.trans' HG14.out hg)) (by omega) (HY.out.grows (World.Grows.trans' HGW.out hg)) HRNG.out (HSP.out.grows (World.Grows.trans' HG14.out hg)) (fun p hp=>Val.ok_rng (HSO.out.ok p hp))
     rw [HVL.out]at hX
     have HB1:=Lib.hid (fun hv=>HBAD.out HC.out hv)
     have HN1:=Lib.hid (fun hv=>HNX.out HC.out hv)
     generalize valueF v st bd=r at *
     obtain⟨⟨rm,ry,rn,rd⟩,c⟩:=r
     unfold ExpP valV vwV exV at hX
     dsimp only at hX HB1 HN1
     have HX:=Lib.hid hX
     have hw2:W4.heap[w.heap.size+2]? =_:=(HG14.out.below.block _ hs1).trans HB2.out
     have p:=fun(j:Nat) (z:Value) (hz:(vwA v (.slice ya v.years.length yc))[j]? =some z)=>(cell_of_row W4 _ j _ _ _ hw2).trans hz
     have p0:=p 0 _ rfl
     have p1:=p 1 _ rfl
     have p2:=p 2 _ rfl
     have p3:=p 3 _ rfl
     have p4:=p 4 _ rfl
     have p5:=p 5 _ rfl
     have p6:=p 6 _ rfl
     have p7:=p 7 _ rfl
     have p8:=p 8 _ rfl
     have p9:=p 9 _ rfl
     have p10:=p 10 _ rfl
     have p11:=p 11 _ rfl
     have p12:=p 12 _ rfl
     have r:=fun(j:Nat) (z:Value) (hz:(#[Value.string nm,.int .i64 bd.op,.int .i64 bd.num,.int .i64 bd.den,.int .i64 bd.dim,.string bd.name,.slice ra bd.args.length rc]:Array Value)[j]? =some z)=>(cell_of_row W4 _ j _ _ _ HBX4.out).trans hz
     have r1:=r 1 _ rfl
     have r2:=r 2 _ rfl
     have r3:=r 3 _ rfl
     have r4:=r 4 _ rfl
     have r5:=r 5 _ rfl
     have r6:=r 6 _ rfl
     have hs5:w.heap.size+2<W4.heap.size:=by omega
     clear p r hX hw2 HBAD HNX HSK
     by_cases hc:c=0
     ·subst hc
      have HN2:=Lib.hid (HN1.out rfl)
      go_wp2_with (first
       |((first|(go_at_call 28;refine(HX.out _ growsA).mono ?_;rintro e' w' ⟨rfl,bs5,d5,rfl⟩)))
       |(at_builtin;refine wpList_append_lies _ rfl _ _ 30 rfl W0.heap.size 54 i0 _ 5 48 Tryd.underlying30 hi hz0 hz1 hz2 rfl (by decide) _ st.length _ rfl (own_grow HOW.out growsA) ⟨_,0,none⟩ 1 1 [.string nm,.int .i64 rm,.bool ry,.int .i64 rn,.int .i64 rd] rfl rfl ?c1 ?c2 (by omega) ?c3 ?c4 ?c5 _ rfl ?_))
      case c1=>exact news_cells _ [.string nm,.int .i64 rm,.bool ry,.int .i64 rn,.int .i64 rd] _ _ (by simp)
      case c2=>intro u hu;simp at hu;rcases hu with rfl|rfl|rfl|rfl|rfl<;>rfl
      case c3=>unfold maxLen;have:=HSL.out;omega
      case c4=>have:=HSL.out;omega
      case c5=>have:=HGW.out.below.size;simp;omega
      intro g cap w1 hown' hgrow hgg hgl
      have HO5:=Lib.hid hown'
      have HG5:Hid (W0.Grows w1):=Lib.hid (World.Grows.grown (World.Grows.trans' HGW.out growsA) hgrow (fun k hk=>(HOW.out.lt k hk).1))
      have HM5:Hid (Mid w.heap.size W2 w1):=Lib.hid (Mid.grown (HMW.out.grows growsA) hgrow HOT1.out)
      have HT5:Hid (Out w.heap.size W2.heap.size (.slice (some ⟨g,0,none⟩) (st.length+1) cap)):=Lib.hid (HOT1.out.next hgg (by have:=HMW.out.1;simp;omega))
      clear hown' hgrow hgg hgl
      go_wp2_with fail
      go_roundw
      case rel=>exact⟨k+1,_,_,_,rfl,HKL.out,by go_num,HG5.out,HM5.out,by rw [List.length_append,stpL_snoc];exact HO5.out,HT5.out,by have:=HSL.out;simp;omega,HN2⟩
      case measure=>simp [intOf];have:=HKL.out;omega
     ·have hc2:(c !=0)=true:=by simpa using hc
      have HF:=Lib.hid (HB1.out hc)
      have HCC:=Lib.hid hc
      clear hc
      go_wp2_with ((first|(go_at_call 28;refine(HX.out _ growsA).mono ?_;rintro e' w' ⟨rfl,bs5,d5,rfl⟩)))
      go_returns
      exact⟨World.Grows.trans' HGW.out growsA,.inl ⟨c,HCC.out,by rw [HF.out],rfl⟩⟩
  ·obtain rfl:k=Z.length:=by omega
   have HRE:Hid (RunAt v ls env E D0 st0 (usesL E ls).length D st):=Lib.hid (by rw [←HZL.out];exact HRA.out)
   have HSL:=Lib.hid hsl
   clear hown hg hXI1 hsl
   go_wp2_with fail
   go_returns
   exact⟨World.Grows.trans' HG.out growsA,.inr ⟨_,D,st,rfl,HRE.out,own_grow HO.out growsA,by have:=HSL.out;omega⟩⟩
theorem LetsP.bad{W0:World}{v:Vw}{ls:List (ByteArray × Ex)}{env:List (ByteArray × Int)}{E:Ex}{D0:List Nat}{st0:List (ByteArray × Val)}{e:Ending}{w':World}{c:Int}(h:LetsP W0 v ls env E D0 st0 e w')(hr:(runU v ls (usesL E ls) D0 st0).2.2=c)(hc:c≠0):e= .returned (.tuple #[.slice none 0 0,.int .i64 c])∧W0.Grows w':=by
 obtain⟨hg,⟨c',hc',hr',rfl⟩|⟨vs,D,st,rfl,hra,-⟩⟩:=h
 ·exact⟨by rw [←hr',hr],hg⟩
 ·rw [hra.done]at hr;exact absurd hr.symm hc
theorem LetsP.good{W0:World}{v:Vw}{ls:List (ByteArray × Ex)}{env:List (ByteArray × Int)}{E:Ex}{D0 D:List Nat}{st0 st:List (ByteArray × Val)}{e:Ending}{w':World}(h:LetsP W0 v ls env E D0 st0 e w')(hr:runU v ls (usesL E ls) D0 st0=(D,st,0)) :
 ∃vs,e= .returned (.tuple #[vs,.int .i64 0])∧W0.Grows w'∧w'.ownsRow W0.heap.size 54 5 vs st.length (stpL st)∧st.length≤st0.length+10:=by
 obtain⟨hg,⟨c',hc',hr',rfl⟩|⟨vs,D',st',rfl,hra,hown,hsl⟩⟩:=h
 ·rw [hr]at hr';exact absurd hr'.symm hc'
 ·have hd:=hra.done
  rw [hr]at hd
  simp only [Prod.mk.injEq,and_true]at hd
  obtain⟨rfl,rfl⟩:=hd
  exact⟨vs,rfl,hg,hown,hsl⟩
theorem LetsP.both{W0:World}{v:Vw}{ls:List (ByteArray × Ex)}{env:List (ByteArray × Int)}{E:Ex}{D0 D:List Nat}{st0 st:List (ByteArray × Val)}{e:Ending}{w':World}{c:Int}(h:LetsP W0 v ls env E D0 st0 e w')(hr:runU v ls (usesL E ls) D0 st0=(D,st,c)) :
 ∃vs,e= .returned (.tuple #[vs,.int .i64 c])∧W0.Grows w'∧(c=0→w'.ownsRow W0.heap.size 54 5 vs st.length (stpL st)∧st.length≤st0.length+10):=by
 by_cases hc:c=0
 ·subst hc
  obtain⟨vs,he,hg,ho,hl⟩:=h.good hr
  exact⟨vs,he,hg,fun _=>⟨ho,hl⟩⟩
 ·obtain⟨he,hg⟩:=h.bad (by rw [hr]) hc
  exact⟨_,he,hg,fun h0=>absurd h0 hc⟩
theorem Above_any(n d:Int)(w:World):Calls Tryd.prog 29 #[.agg #[.int .i64 n,.int .i64 d]] w fun e w'=>e= .returned (.agg #[.int .i64 (if n<0 then(0,1)else(n,d):Int × Int).1,.int .i64 (if n<0 then(0,1)else(n,d):Int × Int).2])∧w.Grows w':=by
 by_cases h:n<0
 ·rw [if_pos h]
  go_enter Tryd.func29,Tryd.ntmps29
  exact lz13
 ·rw [if_neg h]
  go_enter Tryd.func29,Tryd.ntmps29
  exact lz13
def GrO(r:(Bool × Int × Int) × List (ByteArray × Val) × Int)(w:World)(e:Ending)(w':World):Prop:=∃sv,e= .returned (.tuple #[.agg #[.bool r.1.1,.int .i64 r.1.2.1,.int .i64 r.1.2.2,sv],.int .i64 r.2.2])∧w.Grows w'∧w'.ownsRow w.heap.size 54 5 sv r.2.1.length (stpL r.2.1)∧r.2.1.length≤40∧∀p∈r.2.1,p.2.ok=true
theorem own_base{w:World}{b b' size n:Nat}{e:TypeId}{v:Value}{xs:List Value}(hb:b'≤b)(h:w.ownsRow b e size v n xs):w.ownsRow b' e size v n xs:=by
 obtain⟨h0,h1|⟨g,cap,cur,hv,hbg,hr⟩⟩:=h
 ·exact⟨h0,.inl h1⟩
 ·exact⟨h0,.inr ⟨g,cap,cur,hv,Nat.le_trans hb hbg,hr⟩⟩
theorem GrO.bad{r:(Bool × Int × Int) × List (ByteArray × Val) × Int}{w w':World}{c:Int}(hr:r=((false,0,0),[],c))(hg:w.Grows w'):GrO r w (.returned (.tuple #[.agg #[.bool false,.int .i64 0,.int .i64 0,.slice none 0 0],.int .i64 c])) w':=by
 subst hr;exact⟨_,rfl,hg,World.ownsRow_nil _ _ _ _,by simp,fun p hp=>by cases hp⟩
theorem GrO.ok{r:(Bool × Int × Int) × List (ByteArray × Val) × Int}{w w':World}{b:Bool}{n d:Int}{sv:Value}{st:List (ByteArray × Val)}(hr:r=((b,n,d),st,0))(hg:w.Grows w')(hs:w'.ownsRow w.heap.size 54 5 sv st.length (stpL st))(hl:st.length≤40)(ho:∀p∈st,p.2.ok=true):GrO r w (.returned (.tuple #[.agg #[.bool b,.int .i64 n,.int .i64 d,sv],.int .i64 0])) w':=by
 subst hr;exact⟨sv,rfl,hg,hs,hl,ho⟩
structure VArg(w:World)(ls:List (ByteArray × Ex))(env:List (ByteArray × Int))(v:Vw)(y:Value)(a5:Option Addr)(k5:Nat):Prop where
 ok:LsOk ls ls.length env
 len:ls.length≤10
 sm:∀t∈ls,t.2.size≤1000000
 vok:v.ok=true
 rng:VwRng v
 at_:LetsAt w (.slice a5 ls.length k5) ls
 yr:YrAt w y v.years
theorem VArg.grows{w w':World}{ls:List (ByteArray × Ex)}{env:List (ByteArray × Int)}{v:Vw}{y:Value}{a5:Option Addr}{k5:Nat}(h:VArg w ls env v y a5 k5)(hg:w.Grows w'):VArg w' ls env v y a5 k5:=⟨h.ok,h.len,h.sm,h.vok,h.rng,h.at_.grows hg,h.yr.grows hg⟩
theorem grantO_any(ls:List (ByteArray × Ex))(env:List (ByteArray × Int))(v:Vw)(g:Int × Ex × Ex)(u1 u2 y:Value)(a3 a4 a5 a6 a7:Option Addr)(n3 n4 n6 n7 k3 k4 k5 k6 k7:Nat)(x0 x1 x2:Int)(w:World)
 (hV:VArg w ls env v y a5 k5) (hR1:RepE (fun _=>True) w g.2.1 u1) (hR2:RepE (fun _=>True) w g.2.2 u2) (ht1:inferE env g.2.1=(1,0)) (ht2:inferE env g.2.2=(4,0)) (hb1:g.2.1.size≤1000000) (hb2:g.2.2.size≤1000000) :
 Calls Tryd.prog 14 #[.agg #[.int .i64 x0,.int .i64 x1,.int .i64 x2,.slice a3 n3 k3,.slice a4 n4 k4,.slice a5 ls.length k5,.slice a6 n6 k6,.slice a7 n7 k7],
  .agg #[.int .i64 g.1,.int .i64 g.2.1.op,.int .i64 g.2.1.num,.int .i64 g.2.1.den,.int .i64 g.2.1.dim,.string g.2.1.name,u1,.int .i64 g.2.2.op,.int .i64 g.2.2.num,.int .i64 g.2.2.den,.int .i64 g.2.2.dim,.string g.2.2.name,u2],vwV v y] w (GrO (grantS v ls g) w):=by
 have HV:=Lib.hid hV
 have HR1:=Lib.hid hR1
 have HR2:=Lib.hid hR2
 have HT1:=Lib.hid ht1
 have HT2:=Lib.hid ht2
 have HLA:=Lib.hid (fun W (hg:w.Grows W)=>lets8_any ls env v g.2.1 u1 y (.slice none 0 0) a3 a4 a5 a6 a7 n3 n4 n6 n7 k3 k4 k5 k6 k7 x0 x1 x2 W W [] [] hV.ok hV.len hV.sm hV.vok hV.rng (hR1.grows hg) (hV.at_.grows hg) (hV.yr.grows hg) (.refl _) (StOk.zero ls env) (by simp) (World.ownsRow_nil _ _ _ _))
 have HLC:=Lib.hid (fun W W' vs D st (hg:w.Grows W) (hg':W.Grows W') h1 h2 h3=>lets8_any ls env v g.2.2 u2 y vs a3 a4 a5 a6 a7 n3 n4 n6 n7 k3 k4 k5 k6 k7 x0 x1 x2 W W' D st hV.ok hV.len hV.sm hV.vok hV.rng (hR2.grows hg) (hV.at_.grows hg) (hV.yr.grows hg) hg' h1 h2 h3)
 obtain⟨i0,hi,hz0,hz1,hz2⟩:=info_parts infoS
 obtain⟨ia,ic,rfl⟩:=hR1.form0
 obtain⟨pa,pc,rfl⟩:=hR2.form0
 obtain⟨-,ya,yc,rfl,-⟩:=hV.yr
 have HX:=Lib.hid (fun w' E a cap (hg:w.Grows w') st vb (hrep:RepE (fun _=>True) w' E (.slice a E.args.length cap)) (hsz:E.size≤1000000) (hs:StpAt w' vb st) (hE:∀p∈st,p.2.ok=true)=>Expr8_any (fun _=>True) v (.slice ya v.years.length yc) vb st E a cap w' hrep (by omega) (hV.yr.grows hg) hV.rng hs (fun p hp=>Val.ok_rng (hE p hp)))
 unfold vwV exV at HLA HLC
 unfold ExpP vwV exV at HX
 unfold vwV
 obtain⟨⟨D,st,c⟩,hr⟩:∃r,runU v ls (usesL g.2.1 ls) [] []=r:=⟨_,rfl⟩
 have HR:=Lib.hid hr
 clear hV hR1 hR2 ht1 ht2 hr
 go_enter Tryd.func14,Tryd.ntmps14
 go_wp2_with fail
 go_at_call 27
 refine((HLA.out _ growsA).mono fun _ _ h=>h.both HR.out).mono ?_
 rintro e' w' ⟨vs,rfl,⟨bs,d,rfl⟩,hov⟩
 by_cases hc:c=0
 case neg=>
  have HF:Hid (grantS v ls g=((false,0,0),[],c)):=Lib.hid (grS_a (def_a (by rw [HR.out]) hc) hc)
  clear hov
  have hc2:(c !=0)=true:=by simpa using hc
  clear hc
  go_wp2_with fail
  go_returns
  exact GrO.bad HF.out growsR
 subst hc
 obtain⟨hown,hsl⟩:=hov rfl
 have HO:=Lib.hid hown
 have HSL:=Lib.hid hsl
 have HSP:=Lib.hid (StpAt.of_own hown (by simp at hsl;omega))
 clear hown hsl hov
 have HRA:=Lib.hid (RunAt.of_run (StOk.zero ls env) HV.out.ok HV.out.vok HR.out)
 obtain⟨hev,hok1⟩:=used_val HRA.out HV.out.ok HV.out.vok HT1.out
 have HDB:=Lib.hid (fun c h1 h2=>grS_a (c:=c) (g:=g) (def_b (nm:=ifN) HR.out h1 h2) h2)
 have HDC:=Lib.hid (fun x h1=>def_c (nm:=ifN) (x:=x) HR.out h1)
 have HX1:=Lib.hid (fun w' (hg:w.Grows w') vb (hs:StpAt w' vb st)=>by have:=HX.out w' g.2.1 ia ic hg st vb (HR1.out.grows hg) hb1 hs HRA.out.ok.ok;rw [hev]at this;exact this)
 clear hev
 generalize valueF v st g.2.1=r at *
 obtain⟨⟨cm,cy,cn,cd⟩,c⟩:=r
 unfold valV at HX1
 dsimp only at HX1 HDB HDC hok1
 go_wp2_with fail
 go_at_call 28
 refine(HX1.out _ growsA _ (HSP.out.grows growsA)).mono ?_
 rintro e' w' ⟨rfl,bs5,d5,rfl⟩
 by_cases hc:c=0
 case neg=>
  have HF:=Lib.hid (HDB.out c rfl hc)
  have hc2:(c !=0)=true:=by simpa using hc
  clear hc
  go_wp2_with fail
  go_returns
  exact GrO.bad HF.out growsR
 subst hc
 have HDE:=Lib.hid (HDC.out ⟨cm,cy,cn,cd⟩ rfl)
 have hx:=(hok1.good rfl).1
 have HST1:=Lib.hid (HRA.out.ok.other HV.out.ok (s:=ifN) kw_names.1 hx)
 have HL2:=Lib.hid (fun(W:World) bs d vs n (hg:w.Grows W) (hn:W.heap.size=n) (hl:st.length≤([]:List (ByteArray × Val)).length+10) (hO:(W.grow bs d).ownsRow n 54 5 vs (st.length+1) (stpL st++[.string ⟨#[105,102]⟩,.int .i64 cm,.bool cy,.int .i64 cn,.int .i64 cd]))=>
  HLC.out W (W.grow bs d) vs D (st++[(ifN,⟨cm,cy,cn,cd⟩)]) hg ⟨bs,d,rfl⟩ HST1.out (by rw [List.length_append];have:st.length≤10:=hl;simp;omega) (by subst hn;rw [stpL_snoc,List.length_append];exact hO))
 clear hx hok1
 go_wp2_with (at_builtin;refine wpList_append_lies _ rfl _ _ 30 rfl _ 54 i0 _ 5 48 Tryd.underlying30 hi hz0 hz1 hz2 rfl (by decide) _ st.length _ rfl (own_grow HO.out growsA) ⟨_,0,none⟩ 1 1 [.string ⟨#[105,102]⟩,.int .i64 cm,.bool cy,.int .i64 cn,.int .i64 cd] rfl rfl ?c1 ?c2 (by omega) ?c3 ?c4 ?c5 _ rfl ?_)
 case c1=>exact news_cells _ [.string ⟨#[105,102]⟩,.int .i64 cm,.bool cy,.int .i64 cn,.int .i64 cd] _ _ (by simp)
 case c2=>intro u hu;simp at hu;rcases hu with rfl|rfl|rfl|rfl|rfl<;>rfl
 case c3=>unfold maxLen;have:=HSL.out;simp at this;omega
 case c4=>have:=HSL.out;simp at this;omega
 case c5=>simp;omega
 intro gb cap w1 hown' hgrow hgg hgl
 have HO5:=Lib.hid hown'
 have hc1:=(hgrow.block (w.heap.size+1+1+1+1+(bs.size+bs5.size)) (by simp;omega) (fun e=>by have:=(HO.out.lt _ e.symm).2;simp at this;omega)).trans ((Below.heap_alloc _ _ _ (by simp)).trans (heap_new _ (.cells #[.int .i64 cm,.bool cy,.int .i64 cn,.int .i64 cd] 51) _ (by simp)))
 have y1:=cell_of_row w1 _ 1 _ _ _ hc1
 have HW5:=World.Grows.grown (W:=(((((w.alloc (.cells #[.int .i64 x0,.int .i64 x1,.int .i64 x2,.slice a3 n3 k3,.slice a4 n4 k4,.slice a5 ls.length k5,.slice a6 n6 k6,.slice a7 n7 k7] 44)).alloc (.cells #[.int .i64 g.1,.int .i64 g.2.1.op,.int .i64 g.2.1.num,.int .i64 g.2.1.den,.int .i64 g.2.1.dim,.string g.2.1.name,.slice ia g.2.1.args.length ic,.int .i64 g.2.2.op,.int .i64 g.2.2.num,.int .i64 g.2.2.den,.int .i64 g.2.2.dim,.string g.2.2.name,.slice pa g.2.2.args.length pc] 65)).alloc (.cells #[.int .i64 v.age,.int .i64 v.year,.int .i64 v.children,.int .i64 v.insured,.int .i64 v.worked,.int .i64 v.voluntary,.int .i64 v.service,.int .i64 v.equated,.int .i64 v.raising,.int .i64 v.resident,.int .i64 v.bn,.int .i64 v.bd,.slice ya v.years.length yc] 48)).alloc (.cells #[.bool false,.int .i64 0,.int .i64 0,.slice none 0 0] 32)))) growsA hgrow (fun k hk=>by have:=(HO.out.lt k hk).1;simp at this ⊢;omega)
 clear hown' hgrow hgg hgl hc1
 obtain⟨bs9,d9,rfl⟩:=HW5
 generalize w.heap.size+1+1+1+1+(bs.size+bs5.size)=X at *
 simp at y1
 cases cy with
 |false=>
  have HF:=Lib.hid (grS_c (g:=g) HDE.out rfl)
  go_wp2_with fail
  go_returns
  exact GrO.ok HF.out growsA (own_base (by omega) (World.ownsRow_same (X:=(((((w.alloc (.cells #[.int .i64 x0,.int .i64 x1,.int .i64 x2,.slice a3 n3 k3,.slice a4 n4 k4,.slice a5 ls.length k5,.slice a6 n6 k6,.slice a7 n7 k7] 44)).alloc (.cells #[.int .i64 g.1,.int .i64 g.2.1.op,.int .i64 g.2.1.num,.int .i64 g.2.1.den,.int .i64 g.2.1.dim,.string g.2.1.name,.slice ia g.2.1.args.length ic,.int .i64 g.2.2.op,.int .i64 g.2.2.num,.int .i64 g.2.2.den,.int .i64 g.2.2.dim,.string g.2.2.name,.slice pa g.2.2.args.length pc] 65)).alloc (.cells #[.int .i64 v.age,.int .i64 v.year,.int .i64 v.children,.int .i64 v.insured,.int .i64 v.worked,.int .i64 v.voluntary,.int .i64 v.service,.int .i64 v.equated,.int .i64 v.raising,.int .i64 v.resident,.int .i64 v.bn,.int .i64 v.bd,.slice ya v.years.length yc] 48)).alloc (.cells #[.bool false,.int .i64 0,.int .i64 0,.slice none 0 0] 32)))) (base:=w.heap.size+1+1+1+1) (by simp) (by simp) (by rw [List.length_append,stpL_snoc];exact HO5.out))) (by have:=HSL.out;simp at this ⊢;omega) HST1.out.ok
 |true=>
 obtain⟨⟨D2,st2,c⟩,hr2⟩:∃r,runU v ls (usesL g.2.2 ls) D (st++[(ifN,⟨cm,true,cn,cd⟩)])=r:=⟨_,rfl⟩
 have HR2':=Lib.hid hr2
 clear hr2
 go_wp2_with fail
 go_at_call 27
 refine(((HL2.out (((((w.alloc (.cells #[.int .i64 x0,.int .i64 x1,.int .i64 x2,.slice a3 n3 k3,.slice a4 n4 k4,.slice a5 ls.length k5,.slice a6 n6 k6,.slice a7 n7 k7] 44)).alloc (.cells #[.int .i64 g.1,.int .i64 g.2.1.op,.int .i64 g.2.1.num,.int .i64 g.2.1.den,.int .i64 g.2.1.dim,.string g.2.1.name,.slice ia g.2.1.args.length ic,.int .i64 g.2.2.op,.int .i64 g.2.2.num,.int .i64 g.2.2.den,.int .i64 g.2.2.dim,.string g.2.2.name,.slice pa g.2.2.args.length pc] 65)).alloc (.cells #[.int .i64 v.age,.int .i64 v.year,.int .i64 v.children,.int .i64 v.insured,.int .i64 v.worked,.int .i64 v.voluntary,.int .i64 v.service,.int .i64 v.equated,.int .i64 v.raising,.int .i64 v.resident,.int .i64 v.bn,.int .i64 v.bd,.slice ya v.years.length yc] 48)).alloc (.cells #[.bool false,.int .i64 0,.int .i64 0,.slice none 0 0] 32))) bs9 d9 _ _ growsA (by simp) HSL.out HO5.out)).mono fun _ _ h=>h.both HR2'.out).mono ?_
 rintro e' w' ⟨vs2,rfl,⟨bs2,d2,rfl⟩,hov⟩
 by_cases hc:c=0
 case neg=>
  have HF:=Lib.hid (grS_d (g:=g) HDE.out rfl (def_a (nm:=payN) (by rw [HR2'.out]) hc) hc)
  clear hov
  have hc2:(c !=0)=true:=by simpa using hc
  clear hc
  go_wp2_with fail
  go_returns
  exact GrO.bad HF.out growsR
 subst hc
 obtain⟨hown2,hsl2⟩:=hov rfl
 have HO7:=Lib.hid hown2
 have HSL7:=Lib.hid (show st2.length≤30 by have:=HSL.out;simp at hsl2 this;omega)
 have HSP7:=Lib.hid (StpAt.of_own hown2 (by have:=HSL.out;simp at hsl2 this;omega))
 clear hown2 hsl2 hov
 have HRA2:=Lib.hid (RunAt.of_run HST1.out HV.out.ok HV.out.vok HR2'.out)
 obtain⟨hev2,hok2⟩:=used_val HRA2.out HV.out.ok HV.out.vok HT2.out
 have HDB2:=Lib.hid (fun c h1 h2=>grS_d (c:=c) (g:=g) HDE.out rfl (def_b (nm:=payN) HR2'.out h1 h2) h2)
 have HDC2:=Lib.hid (fun x h1=>grS_f (g:=g) HDE.out rfl (def_c (nm:=payN) (x:=x) HR2'.out h1))
 have HX2:=Lib.hid (fun w' (hg:w.Grows w') vb (hs:StpAt w' vb st2)=>by have:=HX.out w' g.2.2 pa pc hg st2 vb (HR2.out.grows hg) hb2 hs HRA2.out.ok.ok;rw [hev2]at this;exact this)
 clear hev2
 generalize valueF v st2 g.2.2=r at *
 obtain⟨⟨pm,py,pn,pd⟩,c⟩:=r
 unfold valV at HX2
 dsimp only at HX2 HDB2 HDC2 hok2
 go_wp2_with fail
 go_at_call 28
 refine(HX2.out _ growsA _ (HSP7.out.grows growsA)).mono ?_
 rintro e' w' ⟨rfl,bs6,d6,rfl⟩
 by_cases hc:c=0
 case neg=>
  have HF:=Lib.hid (HDB2.out c rfl hc)
  clear hok2
  have hc2:(c !=0)=true:=by simpa using hc
  clear hc
  go_wp2_with fail
  go_returns
  exact GrO.bad HF.out growsR
 subst hc
 have hx2:=(hok2.good rfl).1
 have HOK2:Hid (∀p∈st2++[(payN,(⟨pm,py,pn,pd⟩:Val))],p.2.ok=true):=Lib.hid (fun p hp=>by
  rcases List.mem_append.1 hp with hp|hp
  ·exact HRA2.out.ok.ok p hp
  ·obtain rfl:p=_:=by simpa using hp
   exact hx2)
 clear hx2 hok2
 obtain⟨⟨an,ad⟩,hab⟩:∃r:Int × Int,(if pn<0 then(0,1)else(pn,pd))=r:=⟨_,rfl⟩
 have HF:=HDC2.out ⟨pm,py,pn,pd⟩ rfl
 have hAB:=Above_any pn pd
 dsimp only at HF
 rw [hab]at HF hAB
 replace HF:=Lib.hid HF
 have HAB:=Lib.hid hAB
 clear hab hAB
 go_wp2_with (at_builtin;refine wpList_append_lies _ rfl _ _ 30 rfl _ 54 i0 _ 5 48 Tryd.underlying30 hi hz0 hz1 hz2 rfl (by decide) _ st2.length _ rfl (own_grow HO7.out growsA) ⟨_,0,none⟩ 1 1 [.string ⟨#[112,97,121]⟩,.int .i64 pm,.bool py,.int .i64 pn,.int .i64 pd] rfl rfl ?c1 ?c2 (by omega) ?c3 ?c4 ?c5 _ rfl ?_)
 case c1=>exact news_cells _ [.string ⟨#[112,97,121]⟩,.int .i64 pm,.bool py,.int .i64 pn,.int .i64 pd] _ _ (by simp)
 case c2=>intro u hu;simp at hu;rcases hu with rfl|rfl|rfl|rfl|rfl<;>rfl
 case c3=>unfold maxLen;have:=HSL7.out;omega
 case c4=>have:=HSL7.out;omega
 case c5=>simp;omega
 intro gb2 cap2 w1 hown' hgrow hgg hgl
 have HO8:=Lib.hid hown'
 have hc1:=(hgrow.block (w.heap.size+1+1+1+1+(bs2.size+bs6.size)) (by simp;omega) (fun e=>by have:=(HO7.out.lt _ e.symm).2;simp at this;omega)).trans ((Below.heap_alloc _ _ _ (by simp)).trans (heap_new _ (.cells #[.int .i64 pm,.bool py,.int .i64 pn,.int .i64 pd] 51) _ (by simp)))
 have y2:=cell_of_row w1 _ 2 _ _ _ hc1
 have y3:=cell_of_row w1 _ 3 _ _ _ hc1
 have HW6:=World.Grows.grown (W:=(((((w.alloc (.cells #[.int .i64 x0,.int .i64 x1,.int .i64 x2,.slice a3 n3 k3,.slice a4 n4 k4,.slice a5 ls.length k5,.slice a6 n6 k6,.slice a7 n7 k7] 44)).alloc (.cells #[.int .i64 g.1,.int .i64 g.2.1.op,.int .i64 g.2.1.num,.int .i64 g.2.1.den,.int .i64 g.2.1.dim,.string g.2.1.name,.slice ia g.2.1.args.length ic,.int .i64 g.2.2.op,.int .i64 g.2.2.num,.int .i64 g.2.2.den,.int .i64 g.2.2.dim,.string g.2.2.name,.slice pa g.2.2.args.length pc] 65)).alloc (.cells #[.int .i64 v.age,.int .i64 v.year,.int .i64 v.children,.int .i64 v.insured,.int .i64 v.worked,.int .i64 v.voluntary,.int .i64 v.service,.int .i64 v.equated,.int .i64 v.raising,.int .i64 v.resident,.int .i64 v.bn,.int .i64 v.bd,.slice ya v.years.length yc] 48)).alloc (.cells #[.bool false,.int .i64 0,.int .i64 0,.slice none 0 0] 32)))) growsA hgrow (fun k hk=>by have:=(HO7.out.lt k hk).1;simp at this ⊢;omega)
 clear hown' hgrow hgg hgl hc1
 obtain⟨bs8,d8,rfl⟩:=HW6
 generalize w.heap.size+1+1+1+1+(bs2.size+bs6.size)=X2 at *
 simp at y2 y3
 go_wp2_with (go_at_call 29;refine(HAB.out _).mono ?_;rintro e' w' ⟨rfl,bs7,d7,rfl⟩)
 go_returns
 exact GrO.ok HF.out growsA (own_base (by omega) (World.ownsRow_same (X:=(((((w.alloc (.cells #[.int .i64 x0,.int .i64 x1,.int .i64 x2,.slice a3 n3 k3,.slice a4 n4 k4,.slice a5 ls.length k5,.slice a6 n6 k6,.slice a7 n7 k7] 44)).alloc (.cells #[.int .i64 g.1,.int .i64 g.2.1.op,.int .i64 g.2.1.num,.int .i64 g.2.1.den,.int .i64 g.2.1.dim,.string g.2.1.name,.slice ia g.2.1.args.length ic,.int .i64 g.2.2.op,.int .i64 g.2.2.num,.int .i64 g.2.2.den,.int .i64 g.2.2.dim,.string g.2.2.name,.slice pa g.2.2.args.length pc] 65)).alloc (.cells #[.int .i64 v.age,.int .i64 v.year,.int .i64 v.children,.int .i64 v.insured,.int .i64 v.worked,.int .i64 v.voluntary,.int .i64 v.service,.int .i64 v.equated,.int .i64 v.raising,.int .i64 v.resident,.int .i64 v.bn,.int .i64 v.bd,.slice ya v.years.length yc] 48)).alloc (.cells #[.bool false,.int .i64 0,.int .i64 0,.slice none 0 0] 32)))) (base:=w.heap.size+1+1+1+1) (bs:=bs8++bs7) (d:=d7) (by simp) (by simp) (by rw [List.length_append,stpL_snoc];have:=own_grow HO8.out (w':=((((((w.alloc (.cells #[.int .i64 x0,.int .i64 x1,.int .i64 x2,.slice a3 n3 k3,.slice a4 n4 k4,.slice a5 ls.length k5,.slice a6 n6 k6,.slice a7 n7 k7] 44)).alloc (.cells #[.int .i64 g.1,.int .i64 g.2.1.op,.int .i64 g.2.1.num,.int .i64 g.2.1.den,.int .i64 g.2.1.dim,.string g.2.1.name,.slice ia g.2.1.args.length ic,.int .i64 g.2.2.op,.int .i64 g.2.2.num,.int .i64 g.2.2.den,.int .i64 g.2.2.dim,.string g.2.2.name,.slice pa g.2.2.args.length pc] 65)).alloc (.cells #[.int .i64 v.age,.int .i64 v.year,.int .i64 v.children,.int .i64 v.insured,.int .i64 v.worked,.int .i64 v.voluntary,.int .i64 v.service,.int .i64 v.equated,.int .i64 v.raising,.int .i64 v.resident,.int .i64 v.bn,.int .i64 v.bd,.slice ya v.years.length yc] 48)).alloc (.cells #[.bool false,.int .i64 0,.int .i64 0,.slice none 0 0] 32)))).grow (bs8++bs7) d7) ⟨bs7,d7,by rw [World.grow_grow]⟩;exact this))) (by have:=HSL7.out;simp;omega) HOK2.out
theorem grF_at{V:VerP}{b:Int}{v:Vw}{i:Nat}(h:v.ok=true)(h2:versF V=0)(hi:i<V.gr.length)(hn:∀j,j<i→(V.gr.getD j default).1≠b)(hb:(V.gr.getD i default).1=b):grantF V b v=grantS v V.le (V.gr.getD i default):=grF_some h h2 (find_some hi hn hb)
theorem no_next{β:Type}[Inhabited (Int × β)]{l:List (Int × β)}{b:Int}{i:Nat}(h:∀j,j<i→(l.getD j default).1≠b)(hb:(l.getD i default).1≠b):∀j,j<i+1→(l.getD j default).1≠b:=fun j hj=>by
 by_cases e:j=i
 ·subst e;exact hb
 ·exact h j (by omega)
theorem GrantO_any(V:VerP)(v:Vw)(b x0 x1 x2:Int)(v3 v4 v5 v6 v7 y:Value)(w:World)(h:VerC w V v3 v4 v5 v6 v7)(hs:VerSm V)(h10:V.le.length≤10)(hrng:VwRng v)(hY:YrAt w y v.years) :
 Calls Tryd.prog 4 #[.agg #[.int .i64 x0,.int .i64 x1,.int .i64 x2,v3,v4,v5,v6,v7],.int .i64 b,vwV v y] w (GrO (grantF V b v) w):=by
 have HV:=Lib.hid h
 have HS:=Lib.hid hs
 have HY:=Lib.hid hY
 have HVW:=Lib.hid (fun w' (hg:w.Grows w')=>ValidView8_any v y w' hrng (HY.out.grows hg))
 have HVR:=Lib.hid (fun w' (hg:w.Grows w')=>Version5_any V x0 x1 x2 v3 v4 v5 v6 v7 w' (HV.out.grows hg) HS.out)
 have HVK:=Lib.hid (fun h0:versF V=0=>VerOk.of h0)
 obtain⟨-,a3,k3,rfl,-⟩:=h.cr
 obtain⟨-,a4,k4,rfl,-⟩:=h.se
 obtain⟨-,a5,k5,rfl,-⟩:=h.le
 obtain⟨-,a6,k6,rfl,-⟩:=h.gr
 obtain⟨-,a7,k7,rfl,-⟩:=h.re
 have HGA:=Lib.hid (fun w' (hg:w.Grows w') (g:Int × Ex × Ex) u1 u2 (h0:versF V=0) (hok:v.ok=true) (hm:g∈V.gr) r1 r2=>grantO_any V.le (letsF V.le).1 v g u1 u2 y a3 a4 a5 a6 a7 (V.cr.map Prod.fst).length (V.se.map Prod.fst).length V.gr.length V.re.length k3 k4 k5 k6 k7 x0 x1 x2 w' ⟨(HVK.out h0).ls,h10,fun t ht=>(HS.out.le t ht).2,hok,hrng,HV.out.le.grows hg,HY.out.grows hg⟩ r1 r2 ((HVK.out h0).gr g hm).1 ((HVK.out h0).gr g hm).2 (HS.out.gr g hm).1 (HS.out.gr g hm).2)
 obtain⟨-,ya,yc,rfl,-⟩:=hY
 unfold vwV at HVW HGA
 unfold vwV
 simp only [List.length_map]at HVR HGA ⊢
 clear h hs hrng
 cases hok:v.ok with
 |false=>
  have HF:=Lib.hid (grF_view (V:=V) (b:=b) hok)
  rw [hok]at HVW
  clear hok
  go_enter Tryd.func4,Tryd.ntmps4
  go_wp2_with ((first|(go_at_call 12;refine(HVW.out _ growsA).mono ?_;rintro e' w' ⟨rfl,bs,d,rfl⟩)|(go_at_call 13;refine(HVR.out _ growsA).mono ?_;rintro e' w' ⟨rfl,bs2,d2,rfl⟩)))
  go_returns
  exact GrO.bad HF.out growsA
 |true=>
 rw [hok]at HVW
 by_cases hc:versF V=0
 case neg=>
  have hc2:(versF V !=0)=true:=by simpa using hc
  have HF:=Lib.hid (grF_ver (b:=b) hok hc)
  clear hok hc
  generalize versF V=c at *
  go_enter Tryd.func4,Tryd.ntmps4
  go_wp2_with ((first|(go_at_call 12;refine(HVW.out _ growsA).mono ?_;rintro e' w' ⟨rfl,bs,d,rfl⟩)|(go_at_call 13;refine(HVR.out _ growsA).mono ?_;rintro e' w' ⟨rfl,bs2,d2,rfl⟩)))
  go_returns
  exact GrO.bad HF.out growsA
 have HFA:=Lib.hid (fun i=>grF_at (i:=i) (b:=b) hok hc)
 have HFN:=Lib.hid (fun hn=>grF_none (b:=b) hok hc (find_none hn))
 have HGB:=Lib.hid (fun w' hg g u1 u2=>HGA.out w' hg g u1 u2 hc hok)
 have HCZ:=Lib.hid hc
 rw [hc]at HVR
 clear hok hc HGA HVK
 go_enter Tryd.func4,Tryd.ntmps4
 go_wp2_with ((first|(go_at_call 12;refine(HVW.out _ growsA).mono ?_;rintro e' w' ⟨rfl,bs,d,rfl⟩)|(go_at_call 13;refine(HVR.out _ growsA).mono ?_;rintro e' w' ⟨rfl,bs2,d2,rfl⟩)))
 clear HVW HVR
 go_loopw [9] (fun vi wr=>∃i:Nat,i≤V.gr.length∧vi= .int .i64 i∧Hid (∀j,j<i→(V.gr.getD j default).1≠b)∧World.Grows ((((w.alloc (.cells #[.int .i64 x0,.int .i64 x1,.int .i64 x2,.slice a3 V.cr.length k3,.slice a4 V.se.length k4,.slice a5 V.le.length k5,.slice a6 V.gr.length k6,.slice a7 V.re.length k7] 44)).alloc (.cells #[.int .i64 v.age,.int .i64 v.year,.int .i64 v.children,.int .i64 v.insured,.int .i64 v.worked,.int .i64 v.voluntary,.int .i64 v.service,.int .i64 v.equated,.int .i64 v.raising,.int .i64 v.resident,.int .i64 v.bn,.int .i64 v.bd,.slice ya v.years.length yc] 48)).alloc (.cells #[.bool false,.int .i64 0,.int .i64 0,.slice none 0 0] 32))) wr) (fun vi _=>V.gr.length-(intOf vi).toNat)
 case atStart=>exact⟨0,by omega,rfl,Lib.hid (fun j hj=>by omega),growsA⟩
 case round=>
  obtain⟨i,hi,rfl,HN,bs9,d9,rfl⟩:=hrel
  by_cases hlt:i<V.gr.length
  ·obtain⟨-,a',c',hv',hx⟩:=HV.out.gr
   simp only [Value.slice.injEq,true_and]at hv'
   obtain⟨rfl,rfl⟩:=hv'
   rcases hx with h0|⟨bg,og,rfl,hbg,hx⟩
   ·omega
   obtain⟨u,u',hg⟩:=hx i hlt
   have hm:=getD_mem hlt
   have d1:(i:Int)<(V.gr.length:Int):=by omega
   have HKL:=Lib.hid hlt
   have i1000:i≤1000:=by have:=HV.out.gr.1;omega
   have HAT:=Lib.hid (fun hb=>HFA.out i hlt HN.out hb)
   have HNX:=Lib.hid (fun hb=>no_next HN.out hb)
   have HCL:=Lib.hid (fun w' (hw:w.Grows w')=>HGB.out w' hw _ u u' hm (hg.rep.grows hw) (hg.rep2.grows hw))
   obtain⟨q0,p0,p1,p2,p3,p4,p5,r0,r1,r2,r3,r4,r5,hra,hrb⟩:=hg
   obtain⟨ia,ic,rfl⟩:=hra.form0
   obtain⟨pa,pc,rfl⟩:=hrb.form0
   generalize V.gr.getD i default=g at *
   clear hx hm hlt hi hra hrb
   by_cases hb:g.1=b
   ·have hb2:(g.1==b)=true:=by simpa using hb
    have HF:=Lib.hid (HAT.out hb)
    obtain⟨⟨⟨gh,gn,gd⟩,gs,gc⟩,hgs⟩:∃r,grantS v V.le g=r:=⟨_,rfl⟩
    unfold GrO at HCL
    rw [hgs]at HCL HF
    dsimp only at HCL
    clear hb hgs
    go_wp2_with fail
    refine TS.begin [10,11] (World.Grows _) (by kernel_rfl) (by kernel_rfl) grows_drew0 (fun hS=>?_)
    refine TS.wkB 0 hS ?_
    refine TS.wkB 1 hS ?_
    refine TS.wkB 2 hS ?_
    refine TS.wkB 3 hS ?_
    refine TS.wkB 4 hS ?_
    refine TS.wkB 5 hS ?_
    refine TS.wkB 6 hS ?_
    refine TS.one (i:=7) (by kernel_rfl) rfl (fun K1 hK1=>?_)
    have HK1:=Lib.hid hK1
    clear hK1 hS
    dsimp only [List.getElem_toArray,List.getElem_cons_succ,List.getElem_cons_zero]
    go_simp
    go_at_call 14
    refine(HCL.out _ growsA).mono ?_
    rintro e' w' ⟨sv,rfl,⟨bs3,d3,rfl⟩,hst,hsl,hso⟩
    simp only [World.grow_grow]at hst
    have HST:=Lib.hid hst
    have HSL:=Lib.hid hsl
    have HSO:=Lib.hid hso
    clear hsl hso
    obtain⟨-,sa,sc,rfl,-⟩:=StpAt.of_own hst (by have:=HSL.out;omega)
    clear hst
    refine TS.go HK1.out growsA (fun hS=>?_)
    clear HK1 K1
    (try simp only [nS])
    refine TS.wkB 8 hS ?_
    refine TS.wkB 9 hS ?_
    refine TS.wtB 10 ?_
    refine TS.weB 11 ?_
    clear hS
    go_wp2_with fail
    go_returns
    exact⟨_,by rw [HF.out],growsA,by rw [HF.out];exact own_base (b:=w.heap.size+1+1+1+bs9.size) (by omega) (World.ownsRow_same (X:=((((w.alloc (.cells #[.int .i64 x0,.int .i64 x1,.int .i64 x2,.slice a3 V.cr.length k3,.slice a4 V.se.length k4,.slice a5 V.le.length k5,.slice (some ⟨bg,og,none⟩) V.gr.length k6,.slice a7 V.re.length k7] 44)).alloc (.cells #[.int .i64 v.age,.int .i64 v.year,.int .i64 v.children,.int .i64 v.insured,.int .i64 v.worked,.int .i64 v.voluntary,.int .i64 v.service,.int .i64 v.equated,.int .i64 v.raising,.int .i64 v.resident,.int .i64 v.bn,.int .i64 v.bd,.slice ya v.years.length yc] 48)).alloc (.cells #[.bool false,.int .i64 0,.int .i64 0,.slice none 0 0] 32)))) (by simp) (by simp) (by have:=HST.out;simp at this ⊢;exact this)),by rw [HF.out];exact HSL.out,by rw [HF.out];exact HSO.out⟩
   ·have hb2:(g.1==b)=false:=by simpa using hb
    have HN2:=Lib.hid (HNX.out hb)
    clear hb
    go_wp2_with fail
    go_roundw
    case rel=>exact⟨i+1,HKL.out,by go_num,HN2,growsA⟩
    case measure=>simp [intOf];have:=HKL.out;omega
  ·obtain rfl:i=V.gr.length:=by omega
   have HF:=Lib.hid (HFN.out HN.out)
   go_wp2_with fail
   go_returns
   exact GrO.bad HF.out growsA
end Go.Proofs.YthionhbjmheimaaDoor
