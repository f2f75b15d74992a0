import Derived.Test.YtblkcgceefjmjaaGreatDoorVRunK
import Derived.Test.YtblkcgceefjmjaaGreatDoorVMchV1
set_option linter.all false
set_option maxHeartbeats 16000000
set_option maxRecDepth 1000000
namespace Go.Proofs.YtblkcgceefjmjaaGreatDoor
open Go.Proofs.Tryz Tryz List
open Go.RowKit
def bE(l:List Ins)(sl:List ByteArray)(v:Vw):List (ByteArray × Val) × Int:=if(verA l sl).2≠0 then([],(verA l sl).2)else if v.ok=true then runC l sl v else([],1)
def bJ(r:List (ByteArray × Val) × Int)(w:World)(e:Ending)(w':World):Prop:=∃sv,e= .returned (.tuple #[sv,.int .i64 r.2])/\w.Grows w'/\w'.ownsRow w.heap.size 70 5 sv r.1.length (spV r.1)
theorem aZ{l:List Ins}{sl:List ByteArray}{F:List (Option (List Int × List Bool))}{D:List Int}(C:Cert l sl.length F D)(slots:List Val):At F D 0 [] slots:=by
 obtain⟨s,h1,h2,h3⟩:=C.zero;exact⟨s,h1,by rw [h2];rfl,fun _ h=>(by cases h),fun k hk=>by rw [h3 k]at hk;cases hk⟩
theorem dH{l:List Ins}{sl:List ByteArray}{v:Vw}{F:List (Option (List Int × List Bool))}{D:List Int}(C:Cert l sl.length F D)(hv:v.ok=true){i:Nat}(hi:i<l.length){stk slots:List Val}{st:List (ByteArray × Val)}(hA:At F D i stk slots)(hsl:sl.length<=slots.length){t:Nat × List Val × List Val × List (ByteArray × Val)}{sl':List ByteArray}(h:stepF sl' v (l.getD i default) i stk slots st= .inl t) :
 At F D t.1 t.2.1 t.2.2.1/\t.2.2.1.length=slots.length/\∀k,sl.length<=k->t.2.2.1.getD k .zero=slots.getD k .zero:=by
 have hx:=C.wf i hi;unfold stepF at h;by_cases o1:(l.getD i default).op=1
 ·rw [if_pos o1]at h;obtain rfl:=Sum.inl.inj h;exact⟨step1 C hi hA o1,rfl,fun _ _=>rfl⟩
 rw [if_neg o1]at h;obtain⟨-,-,w34,w5,w21,-⟩:=wf_rest hx o1;by_cases o2:(l.getD i default).op=2
 ·rw [if_pos o2]at h;obtain rfl:=Sum.inl.inj h;exact⟨step2 hv C hi hA o2,rfl,fun _ _=>rfl⟩
 rw [if_neg o2]at h;by_cases o3:(l.getD i default).op=3
 ·rw [if_pos o3]at h;obtain rfl:=Sum.inl.inj h;exact⟨step3 C hi hA o3,rfl,fun _ _=>rfl⟩
 rw [if_neg o3]at h;by_cases o4:(l.getD i default).op=4
 ·rw [if_pos o4]at h;obtain rfl:=Sum.inl.inj h;have ha:=w34 (.inr o4);refine⟨(step4 C hi hA hsl o4).2.2,by simp,fun k hk=>?_⟩;show(slots.set _ _).getD k .zero=_;rw [getD_setI,if_neg (fun c=>by omega)]
 rw [if_neg o4]at h;by_cases o5:(l.getD i default).op=5
 ·rw [if_pos o5]at h;have hb:=best_ok (l:=v.years) (w5 o5).1 (w5 o5).2 (Vw.ok_bd hv).2.2.2.2;by_cases e:(bestF v.years (l.getD i default).a).2.2=0
  ·rw [if_pos e]at h;obtain rfl:=Sum.inl.inj h;rcases hb with hb|hb
   ·exact⟨step5 C hi hA o5 hb.2,rfl,fun _ _=>rfl⟩
   ·have:=hb.2.2;omega
  ·rw [if_neg e]at h;cases h
 rw [if_neg o5]at h;by_cases o23:(l.getD i default).op=23\/(l.getD i default).op=24
 ·rw [if_pos o23]at h;obtain rfl:=Sum.inl.inj h;exact⟨step23 C hi hA o23 _,rfl,fun _ _=>rfl⟩
 rw [if_neg o23]at h;by_cases o21:(l.getD i default).op=21
 ·rw [if_pos o21]at h;obtain rfl:=Sum.inl.inj h;exact⟨step21 C hi hA o21,rfl,fun _ _=>rfl⟩
 rw [if_neg o21]at h;by_cases o22:(l.getD i default).op=22
 ·rw [if_pos o22]at h;obtain rfl:=Sum.inl.inj h;obtain⟨h1,h2,h3⟩:=step22 C hi hA o22;refine⟨?_,rfl,fun _ _=>rfl⟩;dsimp only
  split
  ·exact h2
  ·exact h3
 rw [if_neg o22]at h;obtain⟨h1,h2,h3,h4⟩:=stepO C hi hA zb;by_cases e:(opV (opF (l.getD i default).op) (stk.drop (stk.length-ariF (opF (l.getD i default).op)))).2=0
 ·rw [if_pos e]at h;obtain rfl:=Sum.inl.inj h;obtain⟨g1,g2⟩:=h2.good e;exact⟨h4 _ g1 g2,rfl,fun _ _=>rfl⟩
 ·rw [if_neg e]at h;cases h
theorem bJ.err{r:List (ByteArray × Val) × Int}{w w':World}(h:r.1= [])(hg:w.Grows w'){cd:Int}(hc:r.2=cd):bJ r w (.returned (.tuple #[.slice none 0 0,.int .i64 cd])) w':=
 ⟨_,by rw [hc],hg,by rw [h];exact World.ownsRow_nil _ _ _ _⟩
theorem iL{l:List Ins}{sl:List ByteArray}{v:Vw}{m i:Nat}{stk slots:List Val}{st:List (ByteArray × Val)}{t:Nat × List Val × List Val × List (ByteArray × Val)}(hw:∀i,i<l.length->wfF m l.length i (l.getD i default)=true)(hi:i<l.length)(h:stepF sl v (l.getD i default) i stk slots st= .inl t) :
 runF l sl v (l.length-i) i stk slots st=runF l sl v (l.length-t.1) t.1 t.2.1 t.2.2.1 t.2.2.2/\i<t.1/\t.1<=l.length:=by
 have hf:=step_fwd (hw i hi) hi h;obtain⟨n,hn⟩:∃n,l.length-i=n+1:=⟨l.length-i-1,by omega⟩;refine⟨?_,hf⟩;rw [hn,runF_succ,if_neg zb,h];exact run_fuel hw _ _ _ _ _ _ zb zb
theorem iM{l:List Ins}{sl:List ByteArray}{v:Vw}{i:Nat}{stk slots:List Val}{st:List (ByteArray × Val)}{cd:Int}(hi:i<l.length)(h:stepF sl v (l.getD i default) i stk slots st= .inr cd) :
 runF l sl v (l.length-i) i stk slots st=([],cd):=by
 obtain⟨n,hn⟩:∃n,l.length-i=n+1:=⟨l.length-i-1,by omega⟩;rw [hn,runF_succ,if_neg zb,h]
theorem fE{sl:List ByteArray}{v:Vw}{x:Ins}{i:Nat}{stk slots:List Val}{st:List (ByteArray × Val)}{t:Nat × List Val × List Val × List (ByteArray × Val)}(h:stepF sl v x i stk slots st= .inl t):t.2.1.length<=stk.length+1/\t.2.2.2.length<=st.length+1:=by
 unfold stepF at h
 repeat' split at h
 all_goals first
  |(cases h;done)
  |(obtain rfl:=Sum.inl.inj h;constructor<;>simp<;>omega)
theorem il(hInf:Hid InfSaid)(l:List Ins)(sl:List ByteArray)(v:Vw)(vi vs y:Value)(w:World)(hI:InsAt w vi l)(hS:SlAt w vs sl)(hr:VwRng v)(hy:YrAt w y v.years)(ht:Tab w) :
 Calls prog 42 #[.agg #[vi,vs],vwV v y] w (bJ (bE l sl v) w):=by
 have HI:=zh hI;have HS:=zh hS;have HY:=zh hy;have HRG:=zh hr;have HVE:=zh (fun W (hg:w.Grows W)=>bf hInf l sl vi vs W (HI.out.grows hg) (HS.out.grows hg) (ht.grows hg));have HVW:=zh (fun W (hg:w.Grows W)=>ValidView2_any v y W hr (HY.out.grows hg));unfold jw at HVE;obtain⟨-,ya,yc,rfl,-⟩:=id hy;obtain⟨-,ia,ic,rfl,hix⟩:=id hI;obtain⟨-,-,sa,sc,-,rfl,-⟩:=id hS;have HIX:=zh hix;clear hI hS hy hr ht hInf hix;unfold vwV at HVW ⊢;by_cases hver:(verA l sl).2=0
 case neg=>
  have HRM:Hid ((bE l sl v).1= []/\(bE l sl v).2=(verA l sl).2):=zh (by unfold bE;rw [if_pos hver];exact⟨rfl,rfl⟩);have hvb:((verA l sl).2 !=0)=true:=by simpa using hver
  generalize verA l sl=r at *;obtain⟨d,cd⟩:=r;dsimp only at *;clear HVW
  go_enter func42,ntmps42
  go_wp2_with (go_at_call 44;refine(HVE.out _ growsR).mono ?_;rintro e' w' ⟨rfl,bs,d,rfl⟩)
  go_returns
  exact bJ.err HRM.out.1 growsR HRM.out.2
 have hvd:(verA l sl)=((verA l sl).1,0):=by rw [<-hver]
 cases hvo:v.ok with
 |false=>
  have HRM:Hid ((bE l sl v).1= []/\(bE l sl v).2=1):=zh (by unfold bE;rw [if_neg (by simp [hver]),hvo];exact⟨rfl,rfl⟩);rw [hvd]at HVE;rw [hvo]at HVW;dsimp only at HVE;clear hvo hvd hver
  go_enter func42,ntmps42
  go_wp2_with (first
   |(go_at_call 44;refine(HVE.out _ growsR).mono ?_;rintro e' w' ⟨rfl,bs,d,rfl⟩)
   |(go_at_call 99;refine(HVW.out _ growsR).mono ?_;rintro e' w' ⟨rfl,bs2,d2,rfl⟩))
  go_returns
  exact bJ.err HRM.out.1 growsR HRM.out.2
 |true=>
  obtain⟨F,D,C⟩:=ver_cert hvd;have HC:=zh C;have hln:=(form_all (ver_form hvd).1).1;have HLN:=zh hln;have HRM:Hid (bE l sl v=runC l sl v):=zh (by unfold bE;rw [if_neg (by simp [hver]),hvo];rfl);have HVO:=zh hvo;rw [HRM.out];rw [hvd]at HVE;rw [hvo]at HVW;dsimp only at HVE;clear hvo hvd hver HRM C
  go_enter func42,ntmps42
  go_upto_block 0 with (first
   |(go_at_call 44;refine(HVE.out _ growsR).mono ?_;rintro e' w' ⟨rfl,bs,d,rfl⟩)
   |(go_at_call 99;refine(HVW.out _ growsR).mono ?_;rintro e' w' ⟨rfl,bs2,d2,rfl⟩))
  obtain⟨w2,hw2⟩:∃w2,((w.alloc (.cells #[.slice ia l.length ic,.slice sa sl.length sc] 58)).alloc (.cells #[.int .i64 v.age,.int .i64 v.year,.int .i64 v.children,.int .i64 v.insured,.int .i64 v.worked,.int .i64 v.voluntary,.int .i64 v.service,.int .i64 v.equated,.int .i64 v.raising,.int .i64 v.resident,.int .i64 v.bn,.int .i64 v.bd,.slice ya v.years.length yc] 38))=w2:=⟨_,rfl⟩;refine cutW (fun W=>w2.Grows W/\W.heap.size=w.heap.size+1+1+(bs.size+bs2.size)+1/\∃ty,W.heap[w.heap.size+1+1+(bs.size+bs2.size)]? =some (.cells (vlV (List.replicate 12 .zero)).toArray ty (0,0))) ⟨by rw [<-hw2];exact growsR,by simp,_,heap_new _ _ _ zf⟩ ?_;intro Y hY;obtain⟨hgY,hsY,tyY,hbY⟩:=hY;have hG2:w.Grows w2:=by rw [<-hw2];exact growsR
  have h2s:w2.heap.size=w.heap.size+1+1:=by rw [<-hw2];simp
  have h2c:w2.heap[w.heap.size]? =some (.cells #[.slice ia l.length ic,.slice sa sl.length sc] 58 (0,0)):=by
   rw [<-hw2,Below.heap_alloc _ _ _ zf];exact heap_alloc_new _ _
  have h2v:w2.heap[w.heap.size+1]? =some (.cells (vwR v (.slice ya v.years.length yc)) 38 (0,0)):=by
   rw [<-hw2];exact heap_new _ _ _ zf
  have hBw:w2.heap.size<=w.heap.size+1+1+(bs.size+bs2.size):=by omega
  have H00:=RnSt.start (slots:=List.replicate 12 .zero) hgY hBw hbY;have hBY:=(Array.getElem?_eq_some_iff.1 hbY).1;clear hbY;generalize w.heap.size+1+1+(bs.size+bs2.size)=B at *;have HG2:=zh hG2;have H2S:=zh h2s;have H2C:=zh h2c;have H2V:=zh h2v;have HBW:=zh hBw;have HYS:Hid (w.heap.size<=Y.heap.size):=zh zb;have H0:=zh H00;have HBY:=zh hBY;have HYW:=zh (HY.out.grows hG2);have HSW:=zh (HS.out.grows hG2);clear hw2 hgY hsY hG2 h2s h2c h2v hBw hBY H00
  go_wp2_with fail
  go_loopw [4,5,8,10,11] (fun v4 v5 v8 v10 v11 wr=>∃(i:Nat) (stk slots:List Val) (st:List (ByteArray × Val)),i<=l.length/\v11= .int .i64 i/\Hid (RnSt w2 Y.heap.size B stk slots st v8 v10 wr)/\Hid (At F D i stk slots)/\Hid (runF l sl v (l.length-i) i stk slots st=runC l sl v)/\Hid (stk.length<=i/\st.length<=i/\slots.length=12)) (fun _ _ _ _ v11 _=>l.length-(intOf v11).toNat)
  case atStart=>exact⟨0,[],List.replicate 12 .zero,[],by omega,rfl,H0,zh (aZ HC.out _),zh rfl,zh ⟨by simp,by simp,by simp⟩⟩
  clear H0;obtain⟨i,stk,slots,st,hi,rfl,H0,HAT,HRF,HLEN⟩:=hrel;have hgw:=H0.out.gr;have hcb:=(hgw.below.block w.heap.size (by have:=H2S.out;omega)).trans H2C.out;have hvb:=(hgw.below.block (w.heap.size+1) (by have:=H2S.out;omega)).trans H2V.out;have cb0:=cell_of_row wr _ 0 _ _ _ hcb;have cb1:=cell_of_row wr _ 1 _ _ _ hcb;have hwr:w.heap.size<wr.heap.size:=(Array.getElem?_eq_some_iff.1 hcb).1;have HCBW:=zh hcb;have HVBW:=zh hvb;have HGW:=zh (World.Grows.trans' HG2.out hgw);by_cases hlt:i<l.length
  ·have d1:(i:Int)<(l.length:Int):=by omega
   rcases HIX.out with h0|⟨b,off,hab,hb0,hc⟩
   ·omega
   obtain⟨-,k0,k1,k2,k3⟩:=hc i hlt;have ke:=fun o=>World.cell?_of_block (a:=⟨b,o,none⟩) (HGW.out.below.block b hb0);have hb:=Nat.lt_of_lt_of_le hb0 HGW.out.below.size;replace k0:=(ke _).trans k0;replace k1:=(ke _).trans k1;replace k2:=(ke _).trans k2;replace k3:=(ke _).trans k3;clear ke hb0;have HLT:=zh hlt;cases hab;obtain⟨x,hx⟩:∃x,l.getD i default=x:=⟨_,rfl⟩;rw [hx]at k0 k1 k2 k3;have HX:=zh hx;clear hx hc hlt hcb hvb hgw hi
   go_upto_block 2 with fail
   refine cutW (fun W=>wr.Grows W/\∃ty,W.heap[wr.heap.size]? =some (.cells #[.int .i64 x.op,.int .i64 x.a,.int .i64 x.n,.int .i64 x.d] ty (0,0))) ⟨growsR,_,heap_new _ _ _ rfl⟩ ?_;intro W0 hW0;obtain⟨hgr,hXB⟩:=hW0;have HXB:=zh hXB;have H0':=zh (H0.out.grows hgr);have HCB:Hid (w.heap.size<B/\∃ty,W0.heap[w.heap.size]? =some (.cells #[.slice (some ⟨b,off,none⟩) l.length ic,.slice sa sl.length sc] ty (0,0))):=zh ⟨by have:=HBW.out;have:=H2S.out;omega,_,(hgr.below.block _ hwr).trans HCBW.out⟩;have HV:Hid (∃ty,W0.heap[w.heap.size+1]? =some (.cells (vwR v (.slice ya v.years.length yc)) ty (0,0))):=zh ⟨_,(hgr.below.block _ (Array.getElem?_eq_some_iff.1 HVBW.out).1).trans HVBW.out⟩;have hne:wr.heap.size≠B:=by have:=H0.out.bW;have:=HBY.out;omega
   clear hXB hgr cb0 cb1 k0 k1 k2 k3 hb d1;generalize wr.heap.size=XB at *;apply iK HC.out HLT.out HAT.out HX.out HLN.out HLEN.out.2.2 HVO.out HRG.out HV HYW hne HSW H0' HXB HCB (zh ⟨by have:=HLEN.out;have:=HLN.out;have:=HLT.out;omega,by have:=HLEN.out;have:=HLN.out;have:=HLT.out;omega,by have:=HLN.out;have:=HLT.out;omega⟩)
   ·exact fun _ _ _ _ _ h=>h
   ·intro vK' vS' at' t
    intros
    rename_i W' HT HR HA
    have HN:=zh (dH HC.out HVO.out HLT.out HAT.out (by have:=HLEN.out;have:=HC.out.m12;omega) zM);have HF:=zh (iL HC.out.wf HLT.out zM);have HS':=zh (fE HT.out);obtain⟨i',stk',slots',st'⟩:=t;dsimp only at HR HA HN HF HS';have hA:=HA.out;have hw:IntKind.i64.wrap (at'+1)=(i':Int):=by rw [hA];exact IntWalk.i64_in _ (by have:=HF.out;have:=HLN.out;omega)
    clear hA
    go_wp2_with fail
    go_roundw
    case rel=>exact⟨i',stk',slots',st',HF.out.2.2,rfl,HR,zh HN.out.1,zh (by rw [<-HF.out.1];exact HRF.out),zh ⟨by have:=HS'.out;have:=HLEN.out;have:=HF.out;omega,by have:=HS'.out;have:=HLEN.out;have:=HF.out;omega,by rw [HN.out.2.1];exact HLEN.out.2.2⟩⟩
    case measure=>simp [intOf];have:=HF.out;have:=HLT.out;omega
   ·intro cd
    intros
    rename_i W' HT HG
    have HE:=zh (iM (sl:=sl) (v:=v) HLT.out zM)
    go_wp2_with fail
    go_returns
    exact bJ.err (by rw [<-HRF.out,HE.out]) (World.Grows.trans' HG2.out HG.out) (by rw [<-HRF.out,HE.out])
  ·obtain rfl:i=l.length:=by omega
   have HE:Hid (runC l sl v=(st,0)):=zh (by rw [<-HRF.out,Nat.sub_self];rfl);clear hlt hi hcb hvb hgw
   go_wp2_with fail
   go_returns
   rw [HE.out];exact⟨_,rfl,HGW.out,own_base9 HYS.out H0.out.stp⟩
end Go.Proofs.YtblkcgceefjmjaaGreatDoor
