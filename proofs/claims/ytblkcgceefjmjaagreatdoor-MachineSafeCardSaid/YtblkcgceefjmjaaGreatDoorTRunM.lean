import Derived.Test.YtblkcgceefjmjaaGreatDoorTRunK
import Derived.Test.YtblkcgceefjmjaaGreatDoorCodeS
import Derived.Test.YtblkcgceefjmjaaGreatDoorSpoilS
import Derived.Test.YtblkcgceefjmjaaGreatDoorAw9S
import Derived.Test.YtblkcgceefjmjaaGreatDoorVwOfS
import Derived.Test.YtblkcgceefjmjaaGreatDoorTCdI
set_option linter.all false
set_option maxHeartbeats 16000000
set_option maxRecDepth 1000000
namespace Go.Proofs.YtblkcgceefjmjaaGreatDoor
open Go.RowKit
def runM(l:List Ins)(sl:List ByteArray)(v:Vw):List (ByteArray × Val) × Int:=if(verA l sl).2≠0 then([],(verA l sl).2)else if v.ok=true then runC l sl v else([],1)
def RunP(r:List (ByteArray × Val) × Int)(w:World)(e:Ending)(w':World):Prop:=∃sv,e= .returned (.tuple #[sv,.int .i64 r.2])∧w.Grows w'∧w'.ownsRow w.heap.size 70 5 sv r.1.length (spV r.1)
theorem cert_startM{l:List Ins}{sl:List ByteArray}{F:List (Option (List Int × List Bool))}{D:List Int}(C:Cert l sl.length F D)(slots:List Val):At F D 0 [] slots:=by
 obtain⟨s,h1,h2,h3⟩:=C.zero
 exact⟨s,h1,by rw [h2];rfl,fun _ h=>(by cases h),fun k hk=>by rw [h3 k]at hk;cases hk⟩
theorem step_atM{l:List Ins}{sl:List ByteArray}{v:Vw}{F:List (Option (List Int × List Bool))}{D:List Int}(C:Cert l sl.length F D)(hv:v.ok=true){i:Nat}(hi:i<l.length){stk slots:List Val}{st:List (ByteArray × Val)}(hA:At F D i stk slots)(hsl:sl.length≤slots.length){t:Nat × List Val × List Val × List (ByteArray × Val)}{sl':List ByteArray}(h:stepF sl' v (l.getD i default) i stk slots st= .inl t) :
 At F D t.1 t.2.1 t.2.2.1∧t.2.2.1.length=slots.length∧∀k,sl.length≤k→t.2.2.1.getD k .zero=slots.getD k .zero:=by
 have hx:=C.wf i hi
 unfold stepF at h
 by_cases o1:(l.getD i default).op=1
 ·rw [if_pos o1]at h;obtain rfl:=Sum.inl.inj h;exact⟨step1 C hi hA o1,rfl,fun _ _=>rfl⟩
 rw [if_neg o1]at h
 obtain⟨-,-,w34,w5,w21,-⟩:=wf_rest hx o1
 by_cases o2:(l.getD i default).op=2
 ·rw [if_pos o2]at h;obtain rfl:=Sum.inl.inj h;exact⟨step2 hv C hi hA o2,rfl,fun _ _=>rfl⟩
 rw [if_neg o2]at h
 by_cases o3:(l.getD i default).op=3
 ·rw [if_pos o3]at h;obtain rfl:=Sum.inl.inj h;exact⟨step3 C hi hA o3,rfl,fun _ _=>rfl⟩
 rw [if_neg o3]at h
 by_cases o4:(l.getD i default).op=4
 ·rw [if_pos o4]at h;obtain rfl:=Sum.inl.inj h
  have ha:=w34 (.inr o4)
  refine⟨(step4 C hi hA hsl o4).2.2,by simp,fun k hk=>?_⟩
  show(slots.set _ _).getD k .zero=_
  rw [getD_setI,if_neg (fun c=>by omega)]
 rw [if_neg o4]at h
 by_cases o5:(l.getD i default).op=5
 ·rw [if_pos o5]at h
  have hb:=best_ok (l:=v.years) (w5 o5).1 (w5 o5).2 (Vw.ok_bd hv).2.2.2.2
  by_cases e:(bestF v.years (l.getD i default).a).2.2=0
  ·rw [if_pos e]at h;obtain rfl:=Sum.inl.inj h
   rcases hb with hb|hb
   ·exact⟨step5 C hi hA o5 hb.2,rfl,fun _ _=>rfl⟩
   ·have:=hb.2.2;omega
  ·rw [if_neg e]at h;cases h
 rw [if_neg o5]at h
 by_cases o23:(l.getD i default).op=23∨(l.getD i default).op=24
 ·rw [if_pos o23]at h;obtain rfl:=Sum.inl.inj h;exact⟨step23 C hi hA o23 _,rfl,fun _ _=>rfl⟩
 rw [if_neg o23]at h
 by_cases o21:(l.getD i default).op=21
 ·rw [if_pos o21]at h;obtain rfl:=Sum.inl.inj h;exact⟨step21 C hi hA o21,rfl,fun _ _=>rfl⟩
 rw [if_neg o21]at h
 by_cases o22:(l.getD i default).op=22
 ·rw [if_pos o22]at h;obtain rfl:=Sum.inl.inj h
  obtain⟨h1,h2,h3⟩:=step22 C hi hA o22
  refine⟨?_,rfl,fun _ _=>rfl⟩
  dsimp only
  split
  ·exact h2
  ·exact h3
 rw [if_neg o22]at h
 obtain⟨h1,h2,h3,h4⟩:=stepO C hi hA (by omega)
 by_cases e:(opV (opF (l.getD i default).op) (stk.drop (stk.length-ariF (opF (l.getD i default).op)))).2=0
 ·rw [if_pos e]at h;obtain rfl:=Sum.inl.inj h
  obtain⟨g1,g2⟩:=h2.good e
  exact⟨h4 _ g1 g2,rfl,fun _ _=>rfl⟩
 ·rw [if_neg e]at h;cases h
theorem RunP.err{r:List (ByteArray × Val) × Int}{w w':World}(h:r.1= [])(hg:w.Grows w'){cd:Int}(hc:r.2=cd):RunP r w (.returned (.tuple #[.slice none 0 0,.int .i64 cd])) w':=
 ⟨_,by rw [hc],hg,by rw [h];exact World.ownsRow_nil _ _ _ _⟩
theorem runF_in{l:List Ins}{sl:List ByteArray}{v:Vw}{m i:Nat}{stk slots:List Val}{st:List (ByteArray × Val)}{t:Nat × List Val × List Val × List (ByteArray × Val)}(hw:∀i,i<l.length→wfF m l.length i (l.getD i default)=true)(hi:i<l.length)(h:stepF sl v (l.getD i default) i stk slots st= .inl t) :
 runF l sl v (l.length-i) i stk slots st=runF l sl v (l.length-t.1) t.1 t.2.1 t.2.2.1 t.2.2.2∧i<t.1∧t.1≤l.length:=by
 have hf:=step_fwd (hw i hi) hi h
 obtain⟨n,hn⟩:∃n,l.length-i=n+1:=⟨l.length-i-1,by omega⟩
 refine⟨?_,hf⟩
 rw [hn,runF_succ,if_neg (by omega),h]
 exact run_fuel hw _ _ _ _ _ _ (by omega) (by omega)
theorem runF_er{l:List Ins}{sl:List ByteArray}{v:Vw}{i:Nat}{stk slots:List Val}{st:List (ByteArray × Val)}{cd:Int}(hi:i<l.length)(h:stepF sl v (l.getD i default) i stk slots st= .inr cd) :
 runF l sl v (l.length-i) i stk slots st=([],cd):=by
 obtain⟨n,hn⟩:∃n,l.length-i=n+1:=⟨l.length-i-1,by omega⟩
 rw [hn,runF_succ,if_neg (by omega),h]
theorem step_grow{sl:List ByteArray}{v:Vw}{x:Ins}{i:Nat}{stk slots:List Val}{st:List (ByteArray × Val)}{t:Nat × List Val × List Val × List (ByteArray × Val)}(h:stepF sl v x i stk slots st= .inl t):t.2.1.length≤stk.length+1∧t.2.2.2.length≤st.length+1:=by
 unfold stepF at h
 repeat' split at h
 all_goals first
  |(cases h;done)
  |(obtain rfl:=Sum.inl.inj h;constructor<;>simp<;>omega)
theorem RunM_any(hInf:Hid InfSaid)(l:List Ins)(sl:List ByteArray)(v:Vw)(vi vs y:Value)(w:World)(hI:InsAt w vi l)(hS:SlAt w vs sl)(hr:VwRng v)(hy:YrAt w y v.years)(ht:Tab w) :
 Calls Tryz.prog 42 #[.agg #[vi,vs],vwV v y] w (RunP (runM l sl v) w):=by
 have HI:=Lib.hid hI
 have HS:=Lib.hid hS
 have HY:=Lib.hid hy
 have HRG:=Lib.hid hr
 have HVE:=Lib.hid (fun W (hg:w.Grows W)=>VerifyM_any hInf l sl vi vs W (HI.out.grows hg) (HS.out.grows hg) (ht.grows hg))
 have HVW:=Lib.hid (fun W (hg:w.Grows W)=>ValidView2_any v y W hr (HY.out.grows hg))
 unfold VrfP at HVE
 obtain⟨-,ya,yc,rfl,-⟩:=id hy
 obtain⟨-,ia,ic,rfl,hix⟩:=id hI
 obtain⟨-,-,sa,sc,-,rfl,-⟩:=id hS
 have HIX:=Lib.hid hix
 clear hI hS hy hr ht hInf hix
 unfold vwV at HVW ⊢
 by_cases hver:(verA l sl).2=0
 case neg=>
  have HRM:Hid ((runM l sl v).1= []∧(runM l sl v).2=(verA l sl).2):=Lib.hid (by unfold runM;rw [if_pos hver];exact⟨rfl,rfl⟩)
  have hvb:((verA l sl).2 !=0)=true:=by simpa using hver
  generalize verA l sl=r at *
  obtain⟨d,cd⟩:=r
  dsimp only at *
  clear HVW
  go_enter Tryz.func42,Tryz.ntmps42
  go_wp2_with (go_at_call 44;refine(HVE.out _ growsR).mono ?_;rintro e' w' ⟨rfl,bs,d,rfl⟩)
  go_returns
  exact RunP.err HRM.out.1 growsR HRM.out.2
 have hvd:(verA l sl)=((verA l sl).1,0):=by rw [←hver]
 cases hvo:v.ok with
 |false=>
  have HRM:Hid ((runM l sl v).1= []∧(runM l sl v).2=1):=Lib.hid (by unfold runM;rw [if_neg (by simp [hver]),hvo];exact⟨rfl,rfl⟩)
  rw [hvd]at HVE
  rw [hvo]at HVW
  dsimp only at HVE
  clear hvo hvd hver
  go_enter Tryz.func42,Tryz.ntmps42
  go_wp2_with (first
   |(go_at_call 44;refine(HVE.out _ growsR).mono ?_;rintro e' w' ⟨rfl,bs,d,rfl⟩)
   |(go_at_call 99;refine(HVW.out _ growsR).mono ?_;rintro e' w' ⟨rfl,bs2,d2,rfl⟩))
  go_returns
  exact RunP.err HRM.out.1 growsR HRM.out.2
 |true=>
  obtain⟨F,D,C⟩:=ver_cert hvd
  have HC:=Lib.hid C
  have hln:=(form_all (ver_form hvd).1).1
  have HLN:=Lib.hid hln
  have HRM:Hid (runM l sl v=runC l sl v):=Lib.hid (by unfold runM;rw [if_neg (by simp [hver]),hvo];rfl)
  have HVO:=Lib.hid hvo
  rw [HRM.out]
  rw [hvd]at HVE
  rw [hvo]at HVW
  dsimp only at HVE
  clear hvo hvd hver HRM C
  go_enter Tryz.func42,Tryz.ntmps42
  go_upto_block 0 with (first
   |(go_at_call 44;refine(HVE.out _ growsR).mono ?_;rintro e' w' ⟨rfl,bs,d,rfl⟩)
   |(go_at_call 99;refine(HVW.out _ growsR).mono ?_;rintro e' w' ⟨rfl,bs2,d2,rfl⟩))
  obtain⟨w2,hw2⟩:∃w2,((w.alloc (.cells #[.slice ia l.length ic,.slice sa sl.length sc] 58)).alloc (.cells #[.int .i64 v.age,.int .i64 v.year,.int .i64 v.children,.int .i64 v.insured,.int .i64 v.worked,.int .i64 v.voluntary,.int .i64 v.service,.int .i64 v.equated,.int .i64 v.raising,.int .i64 v.resident,.int .i64 v.bn,.int .i64 v.bd,.slice ya v.years.length yc] 38))=w2:=⟨_,rfl⟩
  refine cutW (fun W=>w2.Grows W∧W.heap.size=w.heap.size+1+1+(bs.size+bs2.size)+1∧∃ty,W.heap[w.heap.size+1+1+(bs.size+bs2.size)]? =some (.cells (vlV (List.replicate 12 .zero)).toArray ty (0,0))) ⟨by rw [←hw2];exact growsR,by simp,_,heap_new _ _ _ (by simp)⟩ ?_
  intro Y hY
  obtain⟨hgY,hsY,tyY,hbY⟩:=hY
  have hG2:w.Grows w2:=by rw [←hw2];exact growsR
  have h2s:w2.heap.size=w.heap.size+1+1:=by rw [←hw2];simp
  have h2c:w2.heap[w.heap.size]? =some (.cells #[.slice ia l.length ic,.slice sa sl.length sc] 58 (0,0)):=by
   rw [←hw2,Below.heap_alloc _ _ _ (by simp)];exact heap_alloc_new _ _
  have h2v:w2.heap[w.heap.size+1]? =some (.cells (vwR v (.slice ya v.years.length yc)) 38 (0,0)):=by
   rw [←hw2];exact heap_new _ _ _ (by simp)
  have hBw:w2.heap.size≤w.heap.size+1+1+(bs.size+bs2.size):=by omega
  have H00:=RnSt.start (slots:=List.replicate 12 .zero) hgY hBw hbY
  have hBY:=(Array.getElem?_eq_some_iff.1 hbY).1
  clear hbY
  generalize w.heap.size+1+1+(bs.size+bs2.size)=B at *
  have HG2:=Lib.hid hG2
  have H2S:=Lib.hid h2s
  have H2C:=Lib.hid h2c
  have H2V:=Lib.hid h2v
  have HBW:=Lib.hid hBw
  have HYS:Hid (w.heap.size≤Y.heap.size):=Lib.hid (by omega)
  have H0:=Lib.hid H00
  have HBY:=Lib.hid hBY
  have HYW:=Lib.hid (HY.out.grows hG2)
  have HSW:=Lib.hid (HS.out.grows hG2)
  clear hw2 hgY hsY hG2 h2s h2c h2v hBw hBY H00
  go_wp2_with fail
  go_loopw [4,5,8,10,11] (fun v4 v5 v8 v10 v11 wr=>∃(i:Nat) (stk slots:List Val) (st:List (ByteArray × Val)),i≤l.length∧v11= .int .i64 i∧Hid (RnSt w2 Y.heap.size B stk slots st v8 v10 wr)∧Hid (At F D i stk slots)∧Hid (runF l sl v (l.length-i) i stk slots st=runC l sl v)∧Hid (stk.length≤i∧st.length≤i∧slots.length=12)) (fun _ _ _ _ v11 _=>l.length-(intOf v11).toNat)
  case atStart=>exact⟨0,[],List.replicate 12 .zero,[],by omega,rfl,H0,Lib.hid (cert_startM HC.out _),Lib.hid rfl,Lib.hid ⟨by simp,by simp,by simp⟩⟩
  clear H0
  obtain⟨i,stk,slots,st,hi,rfl,H0,HAT,HRF,HLEN⟩:=hrel
  have hgw:=H0.out.gr
  have hcb:=(hgw.below.block w.heap.size (by have:=H2S.out;omega)).trans H2C.out
  have hvb:=(hgw.below.block (w.heap.size+1) (by have:=H2S.out;omega)).trans H2V.out
  have cb0:=cell_of_row wr _ 0 _ _ _ hcb
  have cb1:=cell_of_row wr _ 1 _ _ _ hcb
  have hwr:w.heap.size<wr.heap.size:=(Array.getElem?_eq_some_iff.1 hcb).1
  have HCBW:=Lib.hid hcb
  have HVBW:=Lib.hid hvb
  have HGW:=Lib.hid (World.Grows.trans' HG2.out hgw)
  by_cases hlt:i<l.length
  ·have d1:(i:Int)<(l.length:Int):=by omega
   rcases HIX.out with h0|⟨b,off,hab,hb0,hc⟩
   ·omega
   obtain⟨-,k0,k1,k2,k3⟩:=hc i hlt
   have ke:=fun o=>World.cell?_of_block (a:=⟨b,o,none⟩) (HGW.out.below.block b hb0)
   have hb:=Nat.lt_of_lt_of_le hb0 HGW.out.below.size
   replace k0:=(ke _).trans k0
   replace k1:=(ke _).trans k1
   replace k2:=(ke _).trans k2
   replace k3:=(ke _).trans k3
   clear ke hb0
   have HLT:=Lib.hid hlt
   cases hab
   obtain⟨x,hx⟩:∃x,l.getD i default=x:=⟨_,rfl⟩
   rw [hx]at k0 k1 k2 k3
   have HX:=Lib.hid hx
   clear hx hc hlt hcb hvb hgw hi
   go_upto_block 2 with fail
   refine cutW (fun W=>wr.Grows W∧∃ty,W.heap[wr.heap.size]? =some (.cells #[.int .i64 x.op,.int .i64 x.a,.int .i64 x.n,.int .i64 x.d] ty (0,0))) ⟨growsR,_,heap_new _ _ _ rfl⟩ ?_
   intro W0 hW0
   obtain⟨hgr,hXB⟩:=hW0
   have HXB:=Lib.hid hXB
   have H0':=Lib.hid (H0.out.grows hgr)
   have HCB:Hid (w.heap.size<B∧∃ty,W0.heap[w.heap.size]? =some (.cells #[.slice (some ⟨b,off,none⟩) l.length ic,.slice sa sl.length sc] ty (0,0))):=Lib.hid ⟨by have:=HBW.out;have:=H2S.out;omega,_,(hgr.below.block _ hwr).trans HCBW.out⟩
   have HV:Hid (∃ty,W0.heap[w.heap.size+1]? =some (.cells (vwR v (.slice ya v.years.length yc)) ty (0,0))):=Lib.hid ⟨_,(hgr.below.block _ (Array.getElem?_eq_some_iff.1 HVBW.out).1).trans HVBW.out⟩
   have hne:wr.heap.size≠B:=by have:=H0.out.bW;have:=HBY.out;omega
   clear hXB hgr cb0 cb1 k0 k1 k2 k3 hb d1
   generalize wr.heap.size=XB at *
   apply run_all HC.out HLT.out HAT.out HX.out HLN.out HLEN.out.2.2 HVO.out HRG.out HV HYW hne HSW H0' HXB HCB (Lib.hid ⟨by have:=HLEN.out;have:=HLN.out;have:=HLT.out;omega,by have:=HLEN.out;have:=HLN.out;have:=HLT.out;omega,by have:=HLN.out;have:=HLT.out;omega⟩)
   ·exact fun _ _ _ _ _ h=>h
   ·intro vK' vS' at' t
    intros
    rename_i W' HT HR HA
    have HN:=Lib.hid (step_atM HC.out HVO.out HLT.out HAT.out (by have:=HLEN.out;have:=HC.out.m12;omega) (by rw [HX.out];exact HT.out))
    have HF:=Lib.hid (runF_in HC.out.wf HLT.out (by rw [HX.out];exact HT.out))
    have HS':=Lib.hid (step_grow HT.out)
    obtain⟨i',stk',slots',st'⟩:=t
    dsimp only at HR HA HN HF HS'
    have hA:=HA.out
    have hw:IntKind.i64.wrap (at'+1)=(i':Int):=by rw [hA];exact IntWalk.i64_in _ (by have:=HF.out;have:=HLN.out;omega)
    clear hA
    go_wp2_with fail
    go_roundw
    case rel=>exact⟨i',stk',slots',st',HF.out.2.2,rfl,HR,Lib.hid HN.out.1,Lib.hid (by rw [←HF.out.1];exact HRF.out),Lib.hid ⟨by have:=HS'.out;have:=HLEN.out;have:=HF.out;omega,by have:=HS'.out;have:=HLEN.out;have:=HF.out;omega,by rw [HN.out.2.1];exact HLEN.out.2.2⟩⟩
    case measure=>simp [intOf];have:=HF.out;have:=HLT.out;omega
   ·intro cd
    intros
    rename_i W' HT HG
    have HE:=Lib.hid (runF_er (sl:=sl) (v:=v) HLT.out (by rw [HX.out];exact HT.out))
    go_wp2_with fail
    go_returns
    exact RunP.err (by rw [←HRF.out,HE.out]) (World.Grows.trans' HG2.out HG.out) (by rw [←HRF.out,HE.out])
  ·obtain rfl:i=l.length:=by omega
   have HE:Hid (runC l sl v=(st,0)):=Lib.hid (by rw [←HRF.out,Nat.sub_self];rfl)
   clear hlt hi hcb hvb hgw
   go_wp2_with fail
   go_returns
   rw [HE.out]
   exact⟨_,rfl,HGW.out,own_base9 HYS.out H0.out.stp⟩
theorem goA_codes:∀(r:List Ins) (i:Nat) (S:List (Option (List Int × List Bool))) (dims:List Int) (dep:Nat),(goA r i S dims dep).2=0∨goA r i S dims dep=(0,8)
 | [],i,S,dims,dep=>by
   unfold goA
   split
   ·exact .inl rfl
   ·split
    ·exact .inl rfl
    ·exact .inr rfl
 |x::r,i,S,dims,dep=>by
  unfold goA
  split
  ·exact .inr rfl
  ·exact goA_codes r _ _ _ _
theorem ver_codes(l:List Ins)(sl:List ByteArray):(verA l sl).2=0∨verA l sl=(0,8):=by
 unfold verA
 split
 ·exact goA_codes _ _ _ _ _
 ·exact .inr rfl
theorem viewP_rngM(R:VwR):VwRng (viewP R):=by
 have h:=viewP_ok R
 unfold Vw.ok at h
 simp only [Bool.and_eq_true]at h
 have:=vfrac_bd h.1.2.1
 exact⟨⟨by omega,by omega⟩,⟨by omega,by omega⟩⟩
theorem Val.ok_rngM{x:Val}(h:x.ok=true):VRng x:=by
 unfold VRng I64
 by_cases hd:x.dim=1
 ·unfold Val.ok at h
  rw [if_pos hd,decide_eq_true_eq]at h
  omega
 ·have:=vfrac_bd (Val.ok_num h hd).2.2.2
  omega
def stpN(st:List (ByteArray × Val))(i:Nat):ByteArray × Val:=st.getD i (ByteArray.empty,.zero)
theorem stpN_mem{st:List (ByteArray × Val)}{i:Nat}(hi:i<st.length):stpN st i∈st:=by
 unfold stpN
 rw [List.getD_eq_getElem?_getD,List.getElem?_eq_getElem hi];exact List.getElem_mem hi
theorem verC_12{l:List Ins}{sl:List ByteArray}{d:Int}(h:verA l sl=(d,0)):sl.length≤12:=(form_all (ver_form h).1).2.2.1.1
theorem StpsOk.named{l:List Ins}{sl:List ByteArray}{n:Nat}{dd:Int}{st:List (ByteArray × Val)}(hv:verA l sl=(dd,0))(h:StpsOk l sl n st){i:Nat}(hi:i<st.length):∃k,k<sl.length∧sl.getD k ByteArray.empty=(stpN st i).1:=by
 obtain⟨j,-,h4,e⟩:=h.nm (stpN st i) (stpN_mem hi)
 have hf:=(form_all (ver_form hv).1).2.1
 have hj:j<l.length:=by
  rcases Nat.lt_or_ge j l.length with c|c
  ·exact c
  ·rw [List.getD_eq_getElem?_getD,List.getElem?_eq_none c]at h4;exact absurd h4 (by decide)
 have hw:=(wf_rest (hf j hj) (by omega)).2.2.1 (.inr h4)
 exact⟨_,by omega,e.symm⟩
theorem StpsOk.apart{l:List Ins}{sl:List ByteArray}{n:Nat}{st:List (ByteArray × Val)}(h:StpsOk l sl n st){i k:Nat}(hk:k<i)(hi:i<st.length):(stpN st k).1≠(stpN st i).1:=by
 have h1:=List.pairwise_map.1 h.one
 have h2:=List.pairwise_iff_getElem.1 h1 k i (by omega) hi hk
 unfold stpN
 rw [List.getD_eq_getElem?_getD,List.getD_eq_getElem?_getD,List.getElem?_eq_getElem hi,List.getElem?_eq_getElem (by omega)]
 exact h2
theorem spV_get(l:List (ByteArray × Val))(i:Nat)(h:i<l.length):(spV l)[i*5]? =some (.string (stpN l i).1)∧(spV l)[i*5+1]? =some (.int .i64 (stpN l i).2.dim)∧(spV l)[i*5+2]? =some (.bool (stpN l i).2.yes)∧(spV l)[i*5+3]? =some (.int .i64 (stpN l i).2.n)∧(spV l)[i*5+4]? =some (.int .i64 (stpN l i).2.d):=by
 induction l generalizing i with
 |nil=>simp at h
 |cons x r ih=>
  have e:spV (x::r)= .string x.1:: .int .i64 x.2.dim:: .bool x.2.yes:: .int .i64 x.2.n:: .int .i64 x.2.d::spV r:=rfl
  rw [e]
  cases i with
  |zero=>exact⟨rfl,rfl,rfl,rfl,rfl⟩
  |succ i=>
   have:=ih i (by simpa using h)
   rw [show(i+1)*5=i*5+1+1+1+1+1 by omega]
   exact this
theorem RowsAt.growsM{w w':World}{v:Value}{zss:List (List Int)}(h:RowsAt w v zss)(hg:w.Grows w'):RowsAt w' v zss:=by
 obtain⟨h0,a,cap,hv,h1⟩:=h
 refine⟨h0,a,cap,hv,h1.imp id ?_⟩
 rintro⟨b,off,ha,hlt,hc⟩
 refine⟨b,off,ha,Nat.lt_of_lt_of_le hlt hg.below.size,fun i hi=>?_⟩
 obtain⟨u,hu,hi⟩:=hc i hi
 obtain⟨bs,d,rfl⟩:=hg
 exact⟨u,(World.cell?_grow _ _ _ hlt).trans hu,hi.grow bs d⟩
theorem IntsAt.growsM{w w':World}{v:Value}{zs:List Int}(h:IntsAt w v zs)(hg:w.Grows w'):IntsAt w' v zs:=by
 obtain⟨bs,d,rfl⟩:=hg
 exact h.grow bs d
def StsAt(w:World)(v:Value)(st:List (ByteArray × Val)):Prop:=∃a c,v= .slice a st.length c∧(st.length:Int)≤9223372036854775807∧(st.length=0∨∃g,a=some ⟨g,0,none⟩∧g<w.heap.size∧∀i,i<st.length→w.cell? ⟨g,i*5,none⟩=some (.string (stpN st i).1)∧w.cell? ⟨g,i*5+1,none⟩=some (.int .i64 (stpN st i).2.dim)∧w.cell? ⟨g,i*5+2,none⟩=some (.bool (stpN st i).2.yes)∧w.cell? ⟨g,i*5+3,none⟩=some (.int .i64 (stpN st i).2.n)∧w.cell? ⟨g,i*5+4,none⟩=some (.int .i64 (stpN st i).2.d))
theorem StsAt.of_own{w:World}{B:Nat}{v:Value}{st:List (ByteArray × Val)}(h:w.ownsRow B 70 5 v st.length (spV st)):StsAt w v st:=by
 obtain⟨a,c,rfl,-,hs⟩:=rowForm3 h
 refine⟨a,c,rfl, ?_,hs.imp id ?_⟩
 focus
  rcases h.2 with ⟨_,h0⟩|⟨g,cap,cur,h',hb,hg,hnc,hcm,_⟩
  ·rw [h0];decide
  ·have:=hnc;have:=hcm;unfold maxLen at *;omega
 rintro⟨g,rfl,hb,-,hlt⟩
 refine⟨g,rfl,hlt,fun i hi=>?_⟩
 obtain⟨e0,e1,e2,e3,e4⟩:=spV_get st i hi
 exact⟨(h.cellAt _ (by omega)).trans e0,(h.cellAt _ (by omega)).trans e1,(h.cellAt _ (by omega)).trans e2,(h.cellAt _ (by omega)).trans e3,(h.cellAt _ (by omega)).trans e4⟩
theorem ms_any(hInf:Hid InfSaid)(ls:List (List Int))(gd:List Int)(ps:List (Int × Int × Int))(R:VwR)(vl vg vp vd vy:Value)(w:World)(hl:RowsAt w vl ls)(hg:IntsAt w vg gd)(hp:PkAt w vp ps)(hd:IntsAt w vd R.days)(hy:IntsAt w vy R.years)(ht:Tab w) :
 Calls Tryz.prog 10 #[vl,vg,vp,.agg #[.int .i64 R.age,.int .i64 R.year,.int .i64 R.children,.int .i64 R.base,.int .i64 R.den,vd,vy]] w fun e w'=>e= .returned (.bool true)∧w.Grows w':=by
 have HLL:=Lib.hid hl
 have HGG:=Lib.hid hg
 have HPP:=Lib.hid hp
 have HD:=Lib.hid hd
 have HYY:=Lib.hid hy
 obtain⟨-,-,ga,gc,rfl,-⟩:=id hg
 obtain⟨-,la,lc,rfl,-⟩:=id hl
 obtain⟨pa,pc,rfl,-⟩:=id hp
 obtain⟨-,-,da,dc,rfl,-⟩:=id hd
 obtain⟨-,-,ya,yc,rfl,-⟩:=id hy
 by_cases h1:8<ls.length
 ·have h2:(8:Int)<(ls.length:Int):=by omega
  clear hl hg hp hInf ht HLL HGG HPP hd hy HD HYY
  go_enter Tryz.func10,Tryz.ntmps10
  go_wp2_with fail
  go_returns
  exact⟨rfl,growsR⟩
 have h2:¬(8:Int)<(ls.length:Int):=by omega
 by_cases h3:100<gd.length
 ·have h4:(100:Int)<(gd.length:Int):=by omega
  clear hl hg hp hInf ht HLL HGG HPP hd hy HD HYY
  go_enter Tryz.func10,Tryz.ntmps10
  go_wp2_with fail
  go_returns
  exact⟨rfl,growsR⟩
 have h4:¬(100:Int)<(gd.length:Int):=by omega
 have HC:=Lib.hid (fun W (h:w.Grows W)=>Code_any ls gd _ _ W (RowsAt.growsM HLL.out h) (IntsAt.growsM HGG.out h) (by omega) (by omega))
 have HW:=Lib.hid (fun W (h:w.Grows W)=>awake9_any hInf W (ht.grows h))
 have HVA:=Lib.hid (fun W (h:w.Grows W) (l:List Ins) (sl:List ByteArray) (vi vs:Value) (h1:InsAt W vi l) (h2:SlAt W vs sl)=>VerifyM_any hInf l sl vi vs W h1 h2 (ht.grows h))
 have HVO:=Lib.hid (fun W (h:w.Grows W)=>viewOf_any R _ _ W (IntsAt.growsM HD.out h) (IntsAt.growsM HYY.out h))
 have HRU:=Lib.hid (fun W (h:w.Grows W) (l:List Ins) (sl:List ByteArray) (vi vs yv:Value) (h1:InsAt W vi l) (h2:SlAt W vs sl) (h3:YrAt W yv (viewP R).years)=>RunM_any hInf l sl (viewP R) vi vs yv W h1 h2 (viewP_rngM R) h3 (ht.grows h))
 have HSP:=Lib.hid (fun W (h:w.Grows W) (l:List Ins) (sl:List ByteArray) (a:Option Addr) (c:Nat) (vs:Value) (B:Nat) (hI:LRow B W (.slice a l.length c) l) (hS:W.ownsRow B 9 1 vs sl.length (slV sl)) (ho:InsOk l) (hz:∀s∈sl,s.size≤maxLen) (hn:l.length≤5000) (hm:sl.length≤100)=>Spoil_any l sl a c vs B ps _ W hI hS ho hz hn hm (HPP.out.grows h))
 have HIO:=Lib.hid (madeM_i64 ls gd)
 have HML:=Lib.hid (madeM_len ls gd)
 have HNS:=Lib.hid (names_size (min ls.length 5))
 have HNL:Hid ((namesM (min ls.length 5)).length≤5):=Lib.hid (by rw [names_len];omega)
 unfold CodeP at HC
 unfold SpoilP at HSP
 unfold VoP at HVO
 have HVK:=Lib.hid (viewP_ok R)
 generalize viewP R=V at *
 generalize namesM (min ls.length 5)=sl at *
 generalize madeC ls gd=l at *
 clear hl hg hp ht HLL HGG HPP h1 h3 hd hy HD HYY
 go_enter Tryz.func10,Tryz.ntmps10
 go_upto_region 4 with (first
  |(go_at_call 41;refine(HC.out _ growsR).mono ?_;rintro e' w1 ⟨a,c,vS,base,rfl,hgr,hb1,hb2,hrow,hsl,hdj⟩;obtain⟨sa,sc,rfl,-,-⟩:=rowForm3 hsl;have HGR:=Lib.hid hgr;have HROW:=Lib.hid hrow;have HSL:=Lib.hid hsl;clear hgr hb1 hb2 hrow hsl hdj)
  |(go_at_call 40;refine(HSP.out _ (World.Grows.trans' growsR HGR.out) l sl a c _ base HROW.out HSL.out HIO.out HNS.out (by have:=HML.out;omega) (by have:=HNL.out;omega)).mono ?_;rintro e' w2 ⟨a2,c2,sa2,sc2,base2,l2,sl2,rfl,hgr2,hrow2,hsl2,hnl2,hml2,hio2,hsz2⟩;have HG0:=Lib.hid (World.Grows.trans' HGR.out hgr2);have HI2:=Lib.hid (hrow2.insAt (by have:=HML.out;omega) hio2);have HS2:=Lib.hid (slRow_atM hsl2 (by have:=HNL.out;omega) hsz2);clear hgr2 hrow2 hsl2 hnl2 hml2 hio2 hsz2))
 have HG2:Hid (w.Grows w2):=Lib.hid (World.Grows.trans' growsR HG0.out)
 have HA:=Lib.hid (fun W (hg:w2.Grows W)=>HVA.out W (World.Grows.trans' HG2.out hg) l2 sl2 _ _ (HI2.out.grows hg) (HS2.out.grows hg))
 unfold VrfP at HA
 have hbx:=(HG0.out.below.block w.heap.size (by simp)).trans (heap_alloc_new _ _)
 have hwl:w.heap.size<w2.heap.size:=(Array.getElem?_eq_some_iff.1 hbx).1
 have b0:=cell_of_row w2 _ 0 _ _ _ hbx
 have b1:=cell_of_row w2 _ 1 _ _ _ hbx
 have b2:=cell_of_row w2 _ 2 _ _ _ hbx
 have b3:=cell_of_row w2 _ 3 _ _ _ hbx
 have b4:=cell_of_row w2 _ 4 _ _ _ hbx
 have b5:=cell_of_row w2 _ 5 _ _ _ hbx
 have b6:=cell_of_row w2 _ 6 _ _ _ hbx
 have HBX:=Lib.hid hbx
 clear hbx HVA HC HSP
 have HCO:=Lib.hid (ver_codes l2 sl2)
 by_cases hv0:(verA l2 sl2).2=0
 case neg=>
  have hv:verA l2 sl2=(0,8):=by rcases HCO.out with h|h;exact absurd h hv0;exact h
  rw [hv]at HA
  dsimp only at HA
  clear hv0 hv
  go_wp2_with (first
   |(go_at_call 44;refine(HA.out _ growsR).mono ?_;rintro e' w' ⟨rfl,bs,d1,rfl⟩)
   |(go_at_call 43;refine(HW.out _ (World.Grows.trans' HG2.out growsR)).mono ?_;rintro e' w' ⟨rfl,bs3,d3,rfl⟩))
  go_returns
  exact⟨rfl,World.Grows.trans' HG2.out growsR⟩
 obtain⟨dd,hv⟩:∃dd,verA l2 sl2=(dd,0):=⟨(verA l2 sl2).1,by rw [←hv0]⟩
 rw [hv]at HA
 dsimp only at HA
 have HSAFE:=Lib.hid (ver_safe hv HVK.out (n:=12) (verC_12 hv) l2.length)
 have HRC:Hid (runM l2 sl2 V=runC l2 sl2 V):=Lib.hid (by unfold runM;rw [if_neg (by rw [hv];simp),if_pos HVK.out])
 have HVD:=Lib.hid hv
 have HR2:=Lib.hid (fun W (hg:w2.Grows W) (yv:Value) (hyr:YrAt W yv V.years)=>HRU.out W (World.Grows.trans' HG2.out hg) l2 sl2 _ _ yv (HI2.out.grows hg) (HS2.out.grows hg) hyr)
 rw [HRC.out]at HR2
 change Hid (RunEnd l2 sl2 (runC l2 sl2 V))at HSAFE
 unfold RunP at HR2
 generalize runC l2 sl2 V=r at *
 obtain⟨st,cd⟩:=r
 clear hv0 hv HCO HRU HRC
 go_upto_region 7 with (go_at_call 44;refine(HA.out _ growsR).mono ?_;rintro e' w' ⟨rfl,bs,d1,rfl⟩)
 refine cutW (fun W=>w2.Grows W∧W.heap[w2.heap.size]? =some (.cells #[.slice a2 l2.length c2,.slice sa2 sl2.length sc2] 58 (0,0))) ⟨growsR,((growsR:World.Grows (w2.alloc (.cells #[.slice a2 l2.length c2,.slice sa2 sl2.length sc2] 58)) _).below.block w2.heap.size (by simp)).trans (heap_alloc_new _ _)⟩ ?_
 intro W0 hW0
 obtain⟨hg0,hcx⟩:=hW0
 have hbx:=(hg0.below.block _ hwl).trans HBX.out
 have b0:=cell_of_row W0 _ 0 _ _ _ hbx
 have b1:=cell_of_row W0 _ 1 _ _ _ hbx
 have b2:=cell_of_row W0 _ 2 _ _ _ hbx
 have b3:=cell_of_row W0 _ 3 _ _ _ hbx
 have b4:=cell_of_row W0 _ 4 _ _ _ hbx
 have b5:=cell_of_row W0 _ 5 _ _ _ hbx
 have b6:=cell_of_row W0 _ 6 _ _ _ hbx
 have cx0:=cell_of_row W0 _ 0 _ _ _ hcx
 have cx1:=cell_of_row W0 _ 1 _ _ _ hcx
 have hwl0:=(Array.getElem?_eq_some_iff.1 hbx).1
 have hcl0:=(Array.getElem?_eq_some_iff.1 hcx).1
 have HG0W:=Lib.hid hg0
 have HCX:=Lib.hid hcx
 have HGW0:Hid (w.Grows W0):=Lib.hid (World.Grows.trans' HG2.out hg0)
 clear hbx hcx hg0 hwl
 refine TS.begin [8] (World.Grows W0) (by kernel_rfl) (by kernel_rfl) grows_drew0 (fun hS=>?_)
 refine TS.wkB 0 hS ?_
 refine TS.wkB 1 hS ?_
 refine TS.one (i:=2) (by kernel_rfl) rfl (fun K1 hK1=>?_)
 have HK1:=Lib.hid hK1
 clear hK1 hS
 dsimp only [List.getElem_toArray,List.getElem_cons_succ,List.getElem_cons_zero]
 go_simp
 go_at_call 22
 refine(HVO.out _ (World.Grows.trans' HGW0.out growsR)).mono ?_
 rintro e' w' ⟨yv,rfl,⟨bv,dv,rfl⟩,hyr⟩
 refine TS.go HK1.out growsR (fun hS=>?_)
 clear HK1 K1
 (try simp only [nS])
 refine TS.one (i:=3) (by kernel_rfl) rfl (fun K1 hK1=>?_)
 have HK1:=Lib.hid hK1
 clear hK1 hS
 dsimp only [List.getElem_toArray,List.getElem_cons_succ,List.getElem_cons_zero]
 go_simp
 go_at_call 42
 refine(HR2.out _ (World.Grows.trans' HG0W.out growsR) yv hyr).mono ?_
 rintro e' w' ⟨sv,rfl,⟨b7,d7,rfl⟩,hown⟩
 have hST:=StsAt.of_own hown
 clear hown hyr
 obtain⟨ga,gc,rfl,hstl,hgs⟩:=hST
 have HGS:=Lib.hid hgs
 have HSTL:=Lib.hid hstl
 clear hgs hstl
 refine TS.go HK1.out growsR (fun hS=>?_)
 clear HK1 K1
 (try simp only [nS])
 refine TS.wkB 4 hS ?_
 refine TS.wkB 5 hS ?_
 refine TS.wkB 6 hS ?_
 refine TS.wkB 7 hS ?_
 refine TS.weB 8 ?_
 clear b0 b1 b2 b3 b4 b5 b6
 go_upto_region 8 with fail
 refine cutW (fun W=>W0.Grows W∧(st.length=0∨∃g,ga=some ⟨g,0,none⟩∧g<W.heap.size∧∀i,i<st.length→W.cell? ⟨g,i*5,none⟩=some (.string (stpN st i).1)∧W.cell? ⟨g,i*5+1,none⟩=some (.int .i64 (stpN st i).2.dim)∧W.cell? ⟨g,i*5+2,none⟩=some (.bool (stpN st i).2.yes)∧W.cell? ⟨g,i*5+3,none⟩=some (.int .i64 (stpN st i).2.n)∧W.cell? ⟨g,i*5+4,none⟩=some (.int .i64 (stpN st i).2.d))) ⟨growsR, ?_⟩ ?_
 focus
  refine HGS.out.imp id ?_
  rintro⟨g,e,hlt,hc⟩
  have q:∀o,World.cell? _ ⟨g,o,none⟩=_:=fun o=>World.cell?_of_block (World.Grows.below growsR|>.block g hlt)
  refine⟨g,e,Nat.lt_of_lt_of_le hlt (World.Grows.below growsR).size,fun i hi=>?_⟩
  obtain⟨e0,e1,e2,e3,e4⟩:=hc i hi
  exact⟨(q _).trans e0,(q _).trans e1,(q _).trans e2,(q _).trans e3,(q _).trans e4⟩
 intro W1 hW1
 obtain⟨hg1,hgs1⟩:=hW1
 have HG1:=Lib.hid hg1
 have HGS1:=Lib.hid hgs1
 have HGW1:Hid (w.Grows W1):=Lib.hid (World.Grows.trans' HGW0.out hg1)
 have HCX1:Hid (W1.heap[w2.heap.size]? =some (.cells #[.slice a2 l2.length c2,.slice sa2 sl2.length sc2] 58 (0,0))):=Lib.hid ((hg1.below.block _ hcl0).trans HCX.out)
 clear hg1 hgs1 HGS HR2 HVO HA cx0 cx1 hwl0 hcl0 HCX
 rcases HSAFE.out with ⟨hcd,n,hok⟩|⟨hst,hcd⟩
 case inr=>
  change st= []at hst
  change cd=2∨cd=3 at hcd
  subst hst
  have e00:(([]:List (ByteArray × Val)).length)=0:=rfl
  rw [e00]
  clear HSAFE HGS1
  rcases hcd with rfl|rfl
  all_goals
   go_wp2_with (go_at_call 43;refine(HW.out _ (World.Grows.trans' HGW1.out growsR)).mono ?_;rintro e' w' ⟨rfl,bs3,d3,rfl⟩)
   go_returns
   exact⟨rfl,World.Grows.trans' HGW1.out growsR⟩
 change cd=0 at hcd
 subst hcd
 have HOK:Hid (StpsOk l2 sl2 n st):=Lib.hid hok
 have HNAME:=Lib.hid (fun i (hi:i<st.length)=>StpsOk.named HVD.out HOK.out hi)
 have HAPART:=Lib.hid (fun i k (hk:k<i) (hi:i<st.length)=>StpsOk.apart HOK.out hk hi)
 have HSL1:=Lib.hid (HS2.out.grows (World.Grows.trans' HG0W.out HG1.out))
 clear hok HSAFE
 obtain⟨N,hN⟩:∃N,st.length=N:=⟨_,rfl⟩
 rw [hN]at HGS1 HNAME HAPART HSTL ⊢
 have hNM:=HSTL.out
 have HVV:=Lib.hid (fun(i:Nat) (hi:i<N) (W:World)=>(ValidValue8_any (stpN st i).2 W (Val.ok_rngM (HOK.out.ok _ (stpN_mem (by omega))))).mono fun e w' h=>(show e= .returned (.bool true)∧W.Grows w' from by rw [HOK.out.ok _ (stpN_mem (by omega))]at h;exact h))
 unfold valV at HVV
 clear hN
 go_wp2_with fail
 go_loopw [14] (fun v14 wr=>∃i:Nat,i≤N∧v14= .int .i64 i∧W1.Grows wr) (fun v14 _=>N-(intOf v14).toNat)
 case atStart=>exact⟨0,by omega,rfl,growsR⟩
 obtain⟨i,hi,rfl,hgr⟩:=hrel
 have HGR1:=Lib.hid hgr
 by_cases hlt:i<N
 case neg=>
  obtain rfl:i=N:=by omega
  clear hi hlt hgr
  go_wp2_with (go_at_call 43;refine(HW.out _ (World.Grows.trans' HGW1.out (World.Grows.trans' HGR1.out growsR))).mono ?_;rintro e' w' ⟨rfl,bs3,d3,rfl⟩)
  go_returns
  exact⟨rfl,World.Grows.trans' HGW1.out (World.Grows.trans' HGR1.out growsR)⟩
 have d1:(i:Int)<(N:Int):=by omega
 have HLT:=Lib.hid hlt
 rcases HGS1.out with h0|⟨g,hga,hgl,hgc⟩
 ·omega
 subst hga
 obtain⟨-,-,sa9,sc9,hle,hvs,hsx⟩:=HSL1.out
 have hvs':=hvs
 injection hvs' with e1 e2 e3
 rcases hsx with h0|⟨sb,so,hsa,hsb,hsc⟩
 ·obtain⟨k,hk,-⟩:=HNAME.out i hlt
  omega
 subst e1
 subst hsa
 have HSC:=Lib.hid hsc
 have HGC:=Lib.hid hgc
 have HGL:=Lib.hid hgl
 have HSB:=Lib.hid hsb
 clear hvs e2 e3 hle hsc hgc hgl hsb hi hlt
 obtain⟨wo,rfl⟩:∃wo,wo=wr:=⟨_,rfl⟩
 go_wp2_with fail
 have h12:(sl2.length:Int)≤12:=by have:=verC_12 HVD.out;omega
 go_loopw [15,16] (fun v15 v16 wr=>∃(k:Nat) (nb:Bool),k≤sl2.length∧v16= .int .i64 k∧v15= .bool nb∧wo.Grows wr∧Hid (nb=true↔∃j,j<k∧sl2.getD j ByteArray.empty=(stpN st i).1)) (fun _ v16 _=>sl2.length-(intOf v16).toNat)
 case atStart=>exact⟨0,false,by omega,rfl,rfl,growsR,Lib.hid ⟨fun h=>(by cases h),fun⟨j,hj,_⟩=>(by omega)⟩⟩
 obtain⟨k,nb,hk,rfl,rfl,hgq,HNB⟩:=hrel
 have HGQ:=Lib.hid (World.Grows.trans' HGR1.out hgq)
 have hcx:=(HGQ.out.below.block _ (Array.getElem?_eq_some_iff.1 HCX1.out).1).trans HCX1.out
 have cx1:=cell_of_row wr _ 1 _ _ _ hcx
 have hcl:=(Array.getElem?_eq_some_iff.1 hcx).1
 have HGQ2:=Lib.hid hgq
 by_cases hks:k<sl2.length
 ·have e1:=(World.cell?_of_block (a:=⟨sb,so+k,none⟩) (HGQ.out.below.block sb HSB.out)).trans (HSC.out k hks)
  have e2:=(World.cell?_of_block (a:=⟨g,i*5,none⟩) (HGQ.out.below.block g HGL.out)).trans (HGC.out i HLT.out).1
  have d2:(k:Int)<(sl2.length:Int):=by omega
  have hsb:=Nat.lt_of_lt_of_le HSB.out HGQ.out.below.size
  have hgl:=Nat.lt_of_lt_of_le HGL.out HGQ.out.below.size
  have HKS:=Lib.hid hks
  obtain⟨sk,hsk⟩:∃s,sl2.getD k ByteArray.empty=s:=⟨_,rfl⟩
  obtain⟨si,hsi⟩:∃s,(stpN st i).1=s:=⟨_,rfl⟩
  rw [hsk]at e1
  rw [hsi]at e2
  have HSS:=Lib.hid (And.intro hsk hsi)
  clear hcx hgq hks hsk hsi hk
  have hn:∀b:Bool,(b=true↔sk=si)→Hid ((nb || b)=true↔∃j,j<k+1∧sl2.getD j ByteArray.empty=(stpN st i).1):=fun b hb=>Lib.hid (by
   rw [Bool.or_eq_true,HNB.out,hb,HSS.out.2]
   constructor
   ·rintro(⟨j,h1,h2⟩|h)
    ·exact⟨j,by omega,h2⟩
    ·exact⟨k,by omega,HSS.out.1.trans h⟩
   ·rintro⟨j,h1,h2⟩
    by_cases e:j=k
    ·subst e;exact .inr (HSS.out.1.symm.trans h2)
    ·exact .inl ⟨j,by omega,h2⟩)
  by_cases hss:sk=si
  focus
   have hcmp:(sk.toList==si.toList)=true:=by rw [hss];simp
   have HN:=hn true (by simp [hss])
  rotate_left
  focus
   have hcmp:(sk.toList==si.toList)=false:=by
    rw [Bool.eq_false_iff];intro hc
    have hc':sk.toList=si.toList:=by simpa using hc
    rw [ByteArray.toList_eq,ByteArray.toList_eq]at hc'
    exact hss (ByteArray.ext (Array.toList_inj.1 hc'))
   have HN:=hn false (by simp [hss])
  rotate_left
  all_goals
   clear hn hss
   cases nb
   all_goals
    go_wp2_with fail
    first|go_region|go_quiet (fail)
    go_wp2_with fail
    go_roundw
    case rel=>exact⟨k+1,_,HKS.out,by go_num,rfl,World.Grows.trans' HGQ2.out growsR,HN⟩
    case measure=>simp [intOf];have:=HKS.out;omega
 obtain rfl:k=sl2.length:=by omega
 obtain rfl:nb=true:=HNB.out.2 (HNAME.out i HLT.out)
 clear hks hk hcx hgq
 obtain⟨w5,rfl⟩:∃w5,w5=wr:=⟨_,rfl⟩
 go_wp2_with fail
 go_loopw [17] (fun v17 wr=>∃k:Nat,k≤i∧v17= .int .i64 k∧w5.Grows wr) (fun v17 _=>i-(intOf v17).toNat)
 case atStart=>exact⟨0,by omega,rfl,growsR⟩
 obtain⟨k,hk,rfl,hgp⟩:=hrel
 have HGP:=Lib.hid (World.Grows.trans' HGQ.out hgp)
 have HGP2:=Lib.hid hgp
 have hgl:=Nat.lt_of_lt_of_le HGL.out HGP.out.below.size
 have q:=fun o=>World.cell?_of_block (a:=⟨g,o,none⟩) (HGP.out.below.block g HGL.out)
 by_cases hki:k<i
 ·have e1:=(q _).trans (HGC.out k (by have:=HLT.out;omega)).1
  have e2:=(q _).trans (HGC.out i HLT.out).1
  have d2:(k:Int)<(i:Int):=by omega
  have d3:(k:Int)<(N:Int):=by omega
  have hap:=HAPART.out i k hki HLT.out
  have HKI:=Lib.hid hki
  have hcmp:((stpN st k).1.toList==(stpN st i).1.toList)=false:=by
   rw [Bool.eq_false_iff];intro hc
   have hc':(stpN st k).1.toList=(stpN st i).1.toList:=by simpa using hc
   rw [ByteArray.toList_eq,ByteArray.toList_eq]at hc'
   exact hap (ByteArray.ext (Array.toList_inj.1 hc'))
  generalize(stpN st k).1=sk at *
  generalize(stpN st i).1=si at *
  clear hap hki q hgp hk
  go_wp2_with fail
  go_region
  go_wp2_with fail
  go_roundw
  case rel=>exact⟨k+1,HKI.out,by go_num,World.Grows.trans' HGP2.out growsR⟩
  case measure=>simp [intOf];have:=HKI.out;omega
 ·obtain rfl:k=i:=by omega
  have e1:=(q _).trans (HGC.out k HLT.out).2.1
  have e2:=(q _).trans (HGC.out k HLT.out).2.2.1
  have e3:=(q _).trans (HGC.out k HLT.out).2.2.2.1
  have e4:=(q _).trans (HGC.out k HLT.out).2.2.2.2
  have HV1:=Lib.hid (HVV.out k HLT.out)
  generalize(stpN st k).2=x at *
  clear q hki hk hgp
  go_wp2_with (go_at_call 45;refine(HV1.out _).mono ?_;rintro e' w' ⟨rfl,bs6,d6,rfl⟩)
  go_roundw
  case rel=>exact⟨k+1,HLT.out,by go_num,World.Grows.trans' (World.Grows.trans' HGR1.out (World.Grows.trans' HGQ2.out (World.Grows.trans' HGP2.out growsR))) (World.Grows.refl _)⟩
  case measure=>simp [intOf];have:=HLT.out;omega
end Go.Proofs.YtblkcgceefjmjaaGreatDoor
