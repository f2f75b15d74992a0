import Derived.Test.YteildlpchhlchaaGreatDoorRCode
set_option linter.all false
set_option maxHeartbeats 16000000
set_option maxRecDepth 1000000
namespace Go.Proofs.YteildlpchhlchaaGreatDoor
open Go.Proofs.Tryz Tryz List
open Go.RowKit
theorem Aw{l:List Val}{m:Nat}(h:l.length=m+1):l.drop m= [l.getD m .zero]:=by
 rw [drop_eq_getElem_cons zb,drop_eq_nil_of_le zb,getD_eq_getElem?_getD,getElem?_eq_getElem zb];rfl
theorem F6{l:List Val}{m:Nat}(h:l.length=m+2):l.drop m= [l.getD m .zero,l.getD (m+1) .zero]:=by
 have e:l.getD m .zero=l[m]' zb:=by rw [getD_eq_getElem?_getD,getElem?_eq_getElem zb];rfl
 rw [drop_eq_getElem_cons zb,Aw (m:=m+1) zb,e]
theorem Ae{op:Int}(h:opF op≠0):6<=op/\op<=20:=by
 unfold opF at h
 repeat' split at h
 all_goals omega
theorem Bf{sl:List ByteArray}{v:Vw}{x:Ins}{i:Nat}{stk slots:List Val}{st:List (ByteArray × Val)}(o:x.op≠1/\x.op≠2/\x.op≠3/\x.op≠4/\x.op≠5/\x.op≠21/\x.op≠22/\x.op≠23/\x.op≠24) :
 aN sl v x i stk slots st=if(opV (opF x.op) (stk.drop (stk.length-aB (opF x.op)))).2=0 then .inl (i+1,stk.take (stk.length-aB (opF x.op))++[(opV (opF x.op) (stk.drop (stk.length-aB (opF x.op)))).1],slots,st)else .inr (opV (opF x.op) (stk.drop (stk.length-aB (opF x.op)))).2:=by
 unfold aN;rw [if_neg o.1,if_neg o.2.1,if_neg o.2.2.1,if_neg o.2.2.2.1,if_neg o.2.2.2.2.1,if_neg zb,if_neg o.2.2.2.2.2.1,if_neg o.2.2.2.2.2.2.1]
theorem At.ok{F:List (Option (List Int × List Bool))}{D:List Int}{i:Nat}{stk slots:List Val}(h:At F D i stk slots):∀y∈stk,y.ok=true:=by
 obtain⟨s,_,hf⟩:=h;exact hf.ok
theorem jf{l:List Val}{m:Nat}(h:m<l.length):l.getD m .zero∈l:=by
 rw [getD_eq_getElem?_getD,getElem?_eq_getElem h];exact getElem_mem h
section
variable {w W0 : World} {base Bl CB VB XB i : Nat} {x : Ins} {sl : List ByteArray} {v : Vw} {vi vs vK vS : Value} {stk slots : List Val} {st : List (ByteArray × Val)} {l : List Ins} {F : List (Option (List Int × List Bool))} {D : List Int} {y : Value}
theorem Mg(C:lF l sl.length F D)(hi:i<l.length)(hA:At F D i stk slots)(hx:l.getD i default=x)(o:x.op≠1/\x.op≠2/\x.op≠3/\x.op≠4/\x.op≠5/\x.op≠21/\x.op≠22/\x.op≠23/\x.op≠24)(H0:dW w base Bl stk slots st vK vS W0){g c m:Nat}(hvK:vK= .slice (some ⟨g,0,none⟩) stk.length c)
 (hm:stk.length=m+aB (opF x.op)) {W':World} (hg:W0.Grows W'):Calls prog 73 #[.int .i64 (opF x.op),.slice (some ⟨g,m*4,none⟩) (aB (opF x.op)) (c-m)] W' (lG (opV (opF x.op) (stk.drop m)) W'):=by
 subst hvK;have ho:=Bd C hi hA yI;rw [hx]at ho;obtain⟨h1,h2,h3,-⟩:=ho;have hop:=(dH (C.wf i hi) (by rw [hx];exact o.1)).2.2.2.2.2;rw [hx]at hop;have hop':=hop o.2.1 o.2.2.1 o.2.2.2.1 o.2.2.2.2.1 o.2.2.2.2.2.1 o.2.2.2.2.2.2.1 o.2.2.2.2.2.2.2.1 o.2.2.2.2.2.2.2.2;have hbd:=Eb _ hop';have H:=H0.grows hg;have hgW:=(H.stk.lt g rfl).2;rw [show stk.length-aB (opF x.op)=m by omega]at h3;generalize opF x.op=op at *;clear hop hop' h2;by_cases h6:op<=6
 ·have ha:aB op=1:=by unfold aB;rw [if_pos zb]
  rw [ha]at hm ⊢;rw [Aw hm];obtain⟨s0,s1,s2,s3⟩:=H.val rfl m zb;have hy:=hA.ok _ (jf (m:=m) zb);have:=Je op (stk.getD m .zero) g (m*4) (c-m) W' hy hbd.1 h6 hgW s0 s1 s2 s3;unfold opV;rw [if_pos h6];exact this
 ·have ha:aB op=2:=by unfold aB;rw [if_neg zb]
  rw [ha]at hm ⊢;rw [F6 hm]at h3 ⊢;obtain⟨s0,s1,s2,s3⟩:=H.val rfl m zb;obtain⟨t0,t1,t2,t3⟩:=H.val rfl (m+1) zb;rw [show(m+1)*4=m*4+4 by omega]at t0 t1 t2 t3;have hy:=hA.ok _ (jf (m:=m) zb);have hz:=hA.ok _ (jf (m:=m+1) zb);have:=Jd op (stk.getD m .zero) (stk.getD (m+1) .zero) g (m*4) (c-m) W' hy hz zb h3 hgW s0 s1 s2 s3 t0 t1 t2 t3;unfold opV;rw [if_neg h6];exact this
theorem Nj(C:lF l sl.length F D)(hi:i<l.length)(hA:At F D i stk slots)(hx:l.getD i default=x)(hln:l.length<=4000)(hl:slots.length=12)(hv:v.ok=true)(hr:fP v)
 (HV:Hid (∃ty,W0.heap[VB]? =some (.cells (vwR v y) ty (0,0)))) (HY:Hid (bR w y v.years)) (hne:XB≠Bl) (HSL:Hid (kJ w vs sl)):uR w W0 base Bl CB VB XB i x sl v vi vs vK vS stk slots st:=by
 intro H0 HX HCB HS;have hwf:=C.wf i hi;have hm12:=C.m12;by_cases o1:x.op=1
 ·exact Ql o1 H0 HX HCB HS
 have hw2:=dH hwf (by rw [hx];exact o1);rw [hx]at hw2;obtain⟨-,w2,w34,w5,w21,wo⟩:=hw2;by_cases o2:x.op=2
 ·exact Qk HV HY hv hr o2 (w2 o2) H0 HX HCB HS
 by_cases o3:x.op=3
 ·have:=w34 (.inl o3);exact Qj o3 zb hl H0 HX HCB HS
 by_cases o4:x.op=4
 ·have h4:=w34 (.inr o4);obtain⟨hne4,-,-⟩:=J2 C hi hA zb (by rw [hx];exact o4);obtain⟨-,-,sa,sc,-,hvs,hsx⟩:=HSL.out;rcases hsx with h0|⟨sb,so,rfl,hb,hc⟩
  ·omega
  exact Qi o4 zb hl (length_pos_iff.2 hne4) hne sb so sc hvs zb (yq (fun W hg=>⟨Nat.lt_of_lt_of_le hb hg.below.size,(World.cell?_of_block (hg.below.block sb hb)).trans (hc x.a.toNat zb)⟩)) H0 HX HCB HS
 by_cases o5:x.op=5
 ·obtain⟨ty,hvb⟩:=HV.out;have hyW:=HY.out.grows H0.out.gr;exact Qh y (yq ⟨cell_of_row W0 _ 12 _ _ _ hvb,(Array.getElem?_eq_some_iff.1 hvb).1⟩) (yq (fun w' hg=>JI v.years x.a y w' (hyW.grows hg))) o5 H0 HX HCB HS
 by_cases o23:x.op=23
 ·exact Fw true (.inl ⟨o23,rfl⟩) H0 HX HCB HS
 by_cases o24:x.op=24
 ·exact Fw false (.inr ⟨o24,rfl⟩) H0 HX HCB HS
 by_cases o21:x.op=21
 ·have:=w21 (.inl o21);exact Ni o21 zb H0 HX HCB HS
 by_cases o22:x.op=22
 ·have:=w21 (.inr o22);obtain⟨h1,-,-⟩:=DJ C hi hA (by rw [hx];exact o22);exact Nh o22 zb (length_pos_iff.2 h1) H0 HX HCB HS
 have o:x.op≠1/\x.op≠2/\x.op≠3/\x.op≠4/\x.op≠5/\x.op≠21/\x.op≠22/\x.op≠23/\x.op≠24:=⟨o1,o2,o3,o4,o5,o21,o22,o23,o24⟩;have hop:=wo o2 o3 o4 o5 o21 o22 o23 o24;have h1:=(Bd C hi hA yI).1;rw [hx]at h1;have har:aB (opF x.op)=1\/aB (opF x.op)=2:=by unfold aB;split<;>simp
 obtain⟨m,hm⟩:∃m,stk.length=m+aB (opF x.op):=⟨stk.length-aB (opF x.op),by omega⟩;obtain⟨g,c,hvK,hc⟩:=jh H0.out.stk zb;have hF:=Bf (sl:=sl) (v:=v) (i:=i) (stk:=stk) (slots:=slots) (st:=st) o;rw [show stk.length-aB (opF x.op)=m by omega]at hF;exact Ng g m (aB (opF x.op)) c _ hvK hm har zb (Ae hop) rfl (yq hF) (yq (fun W' hg=>Mg C hi hA hx o H0.out hvK hm hg)) H0 HX HCB HS
end
def nA(l:List Ins)(sl:List ByteArray)(v:Vw):List (ByteArray × Val) × Int:=if(dO l sl).2≠0 then([],(dO l sl).2)else if v.ok=true then GH l sl v else([],1)
def qo(r:List (ByteArray × Val) × Int)(w:World)(e:Ending)(w':World):Prop:=∃sv,e= .returned (.tuple #[sv,.int .i64 r.2])/\w.Grows w'/\w'.ownsRow w.heap.size 70 5 sv r.1.length (spV r.1)
theorem qJ{l:List Ins}{sl:List ByteArray}{F:List (Option (List Int × List Bool))}{D:List Int}(C:lF l sl.length F D)(slots:List Val):At F D 0 [] slots:=by
 obtain⟨s,h1,h2,h3⟩:=C.zero;exact⟨s,h1,by rw [h2];rfl,fun _ h=>zD,fun k hk=>by rw [h3 k]at hk;cases hk⟩
theorem Bb{l:List Ins}{sl:List ByteArray}{v:Vw}{F:List (Option (List Int × List Bool))}{D:List Int}(C:lF l sl.length F D)(hv:v.ok=true){i:Nat}(hi:i<l.length){stk slots:List Val}{st:List (ByteArray × Val)}(hA:At F D i stk slots)(hsl:sl.length<=slots.length){t:Nat × List Val × List Val × List (ByteArray × Val)}{sl':List ByteArray}(h:aN sl' v (l.getD i default) i stk slots st= .inl t) :
 At F D t.1 t.2.1 t.2.2.1/\t.2.2.1.length=slots.length/\∀k,sl.length<=k->t.2.2.1.getD k .zero=slots.getD k .zero:=by
 have hx:=C.wf i hi;unfold aN at h;by_cases o1:(l.getD i default).op=1
 ·rw [if_pos o1]at h;obtain rfl:=Sum.inl.inj h;exact⟨step1 C hi hA o1,rfl,fun _ _=>rfl⟩
 rw [if_neg o1]at h;obtain⟨-,-,w34,w5,w21,-⟩:=dH hx o1;by_cases o2:(l.getD i default).op=2
 ·rw [if_pos o2]at h;obtain rfl:=Sum.inl.inj h;exact⟨step2 hv C hi hA o2,rfl,fun _ _=>rfl⟩
 rw [if_neg o2]at h;by_cases o3:(l.getD i default).op=3
 ·rw [if_pos o3]at h;obtain rfl:=Sum.inl.inj h;exact⟨Re C hi hA o3,rfl,fun _ _=>rfl⟩
 rw [if_neg o3]at h;by_cases o4:(l.getD i default).op=4
 ·rw [if_pos o4]at h;obtain rfl:=Sum.inl.inj h;have ha:=w34 (.inr o4);refine⟨(J2 C hi hA hsl o4).2.2,by simp,fun k hk=>?_⟩;show(slots.set _ _).getD k .zero=_;rw [ay,if_neg (fun c=>by omega)]
 rw [if_neg o4]at h;by_cases o5:(l.getD i default).op=5
 ·rw [if_pos o5]at h;have hb:=Pf (l:=v.years) (w5 o5).1 (w5 o5).2 (Vw.ok_bd hv).2.2.2.2;by_cases e:(dh v.years (l.getD i default).a).2.2=0
  ·rw [if_pos e]at h;obtain rfl:=Sum.inl.inj h;rcases hb with hb|hb
   ·exact⟨Rc C hi hA o5 hb.2,rfl,fun _ _=>rfl⟩
   ·have:=hb.2.2;omega
  ·rw [if_neg e]at h;cases h
 rw [if_neg o5]at h;by_cases o23:(l.getD i default).op=23\/(l.getD i default).op=24
 ·rw [if_pos o23]at h;obtain rfl:=Sum.inl.inj h;exact⟨PX C hi hA o23 _,rfl,fun _ _=>rfl⟩
 rw [if_neg o23]at h;by_cases o21:(l.getD i default).op=21
 ·rw [if_pos o21]at h;obtain rfl:=Sum.inl.inj h;exact⟨PY C hi hA o21,rfl,fun _ _=>rfl⟩
 rw [if_neg o21]at h;by_cases o22:(l.getD i default).op=22
 ·rw [if_pos o22]at h;obtain rfl:=Sum.inl.inj h;obtain⟨h1,h2,h3⟩:=DJ C hi hA o22;refine⟨?_,rfl,fun _ _=>rfl⟩;dsimp only
  split
  ·exact h2
  ·exact h3
 rw [if_neg o22]at h;obtain⟨h1,h2,h3,h4⟩:=Bd C hi hA zb;by_cases e:(opV (opF (l.getD i default).op) (stk.drop (stk.length-aB (opF (l.getD i default).op)))).2=0
 ·rw [if_pos e]at h;obtain rfl:=Sum.inl.inj h;obtain⟨g1,g2⟩:=h2.good e;exact⟨h4 _ g1 g2,rfl,fun _ _=>rfl⟩
 ·rw [if_neg e]at h;cases h
theorem qo.err{r:List (ByteArray × Val) × Int}{w w':World}(h:r.1= [])(hg:w.Grows w'){cd:Int}(hc:r.2=cd):qo r w (.returned (.tuple #[.slice none 0 0,.int .i64 cd])) w':=
 ⟨_,by rw [hc],hg,by rw [h];exact World.ownsRow_nil _ _ _ _⟩
theorem Fx{l:List Ins}{sl:List ByteArray}{v:Vw}{m i:Nat}{stk slots:List Val}{st:List (ByteArray × Val)}{t:Nat × List Val × List Val × List (ByteArray × Val)}(hw:∀i,i<l.length->wfF m l.length i (l.getD i default)=true)(hi:i<l.length)(h:aN sl v (l.getD i default) i stk slots st= .inl t) :
 gP l sl v (l.length-i) i stk slots st=gP l sl v (l.length-t.1) t.1 t.2.1 t.2.2.1 t.2.2.2/\i<t.1/\t.1<=l.length:=by
 have hf:=Ba (hw i hi) hi h;obtain⟨n,hn⟩:∃n,l.length-i=n+1:=⟨l.length-i-1,by omega⟩;refine⟨?_,hf⟩;rw [hn,fE,if_neg zb,h];exact Bq hw _ _ _ _ _ _ zb zb
theorem Fy{l:List Ins}{sl:List ByteArray}{v:Vw}{i:Nat}{stk slots:List Val}{st:List (ByteArray × Val)}{cd:Int}(hi:i<l.length)(h:aN sl v (l.getD i default) i stk slots st= .inr cd) :
 gP l sl v (l.length-i) i stk slots st=([],cd):=by
 obtain⟨n,hn⟩:∃n,l.length-i=n+1:=⟨l.length-i-1,by omega⟩;rw [hn,fE,if_neg zb,h]
theorem vw{sl:List ByteArray}{v:Vw}{x:Ins}{i:Nat}{stk slots:List Val}{st:List (ByteArray × Val)}{t:Nat × List Val × List Val × List (ByteArray × Val)}(h:aN sl v x i stk slots st= .inl t):t.2.1.length<=stk.length+1/\t.2.2.2.length<=st.length+1:=by
 unfold aN at h
 repeat' split at h
 all_goals first
  |(cases h;done)
  |(obtain rfl:=Sum.inl.inj h;constructor<;>simp<;>omega)
theorem Dj(hInf:Hid gU)(l:List Ins)(sl:List ByteArray)(v:Vw)(vi vs y:Value)(w:World)(hI:ig w vi l)(hS:kJ w vs sl)(hr:fP v)(hy:bR w y v.years)(ht:Tab w) :
 Calls prog 28 #[.agg #[vi,vs],vwV v y] w (qo (nA l sl v) w):=by
 have HI:=yq hI;have HS:=yq hS;have HY:=yq hy;have HRG:=yq hr;have HVE:=yq (fun W (hg:w.Grows W)=>qM hInf l sl vi vs W (HI.out.grows hg) (HS.out.grows hg) (ht.grows hg));have HVW:=yq (fun W (hg:w.Grows W)=>mg v y W hr (HY.out.grows hg));unfold JC at HVE;obtain⟨-,ya,yc,rfl,-⟩:=id hy;obtain⟨-,ia,ic,rfl,hix⟩:=id hI;obtain⟨-,-,sa,sc,-,rfl,-⟩:=id hS;have HIX:=yq hix;clear hI hS hy hr ht hInf hix;unfold vwV at HVW ⊢;by_cases hver:(dO l sl).2=0
 case neg=>
  have HRM:Hid ((nA l sl v).1= []/\(nA l sl v).2=(dO l sl).2):=yq (by unfold nA;rw [if_pos hver];exact⟨rfl,rfl⟩);have hvb:((dO l sl).2 !=0)=true:=by simpa using hver
  generalize dO l sl=r at *;obtain⟨d,cd⟩:=r;dsimp only at *;clear HVW
  go_enter func28,ntmps28
  go_wp2_with (go_at_call 66;refine gvq (HVE.out _ af) ?_;intro bs d)
  go_returns
  exact qo.err HRM.out.1 af HRM.out.2
 have hvd:(dO l sl)=((dO l sl).1,0):=by rw [<-hver]
 cases hvo:v.ok with
 |false=>
  have HRM:Hid ((nA l sl v).1= []/\(nA l sl v).2=1):=yq (by unfold nA;rw [if_neg (by simp [hver]),hvo];exact⟨rfl,rfl⟩);rw [hvd]at HVE;rw [hvo]at HVW;dsimp only at HVE;clear hvo hvd hver
  go_enter func28,ntmps28
  go_wp2_with (first
   |(go_at_call 66;refine gvq (HVE.out _ af) ?_;intro bs d)
   |(go_at_call 67;refine gvq (HVW.out _ af) ?_;intro bs2 d2))
  go_returns
  exact qo.err HRM.out.1 af HRM.out.2
 |true=>
  obtain⟨F,D,C⟩:=rQ hvd;have HC:=yq C;have hln:=(tH (rP hvd).1).1;have HLN:=yq hln;have HRM:Hid (nA l sl v=GH l sl v):=yq (by unfold nA;rw [if_neg (by simp [hver]),hvo];rfl);have HVO:=yq hvo;rw [HRM.out];rw [hvd]at HVE;rw [hvo]at HVW;dsimp only at HVE;clear hvo hvd hver HRM C
  go_enter func28,ntmps28
  go_upto_block 0 with (first
   |(go_at_call 66;refine gvq (HVE.out _ af) ?_;intro bs d)
   |(go_at_call 67;refine gvq (HVW.out _ af) ?_;intro bs2 d2))
  obtain⟨w2,hw2⟩:∃w2,((w.alloc (.cells #[.slice ia l.length ic,.slice sa sl.length sc] 58)).alloc (.cells #[.int .i64 v.age,.int .i64 v.year,.int .i64 v.children,.int .i64 v.insured,.int .i64 v.worked,.int .i64 v.voluntary,.int .i64 v.service,.int .i64 v.equated,.int .i64 v.raising,.int .i64 v.resident,.int .i64 v.bn,.int .i64 v.bd,.slice ya v.years.length yc] 38))=w2:=⟨_,rfl⟩;refine jD (fun W=>w2.Grows W/\W.heap.size=w.heap.size+1+1+(bs.size+bs2.size)+1/\∃ty,W.heap[w.heap.size+1+1+(bs.size+bs2.size)]? =some (.cells (vlV (List.replicate 12 .zero)).toArray ty (0,0))) ⟨by rw [<-hw2];exact af,by simp,_,eZ _ _ _ ze⟩ ?_;intro Y hY;obtain⟨hgY,hsY,tyY,hbY⟩:=hY;have hG2:w.Grows w2:=by rw [<-hw2];exact af
  have h2s:w2.heap.size=w.heap.size+1+1:=by rw [<-hw2];simp
  have h2c:w2.heap[w.heap.size]? =some (.cells #[.slice ia l.length ic,.slice sa sl.length sc] 58 (0,0)):=by
   rw [<-hw2,Below.heap_alloc _ _ _ ze];exact heap_alloc_new _ _
  have h2v:w2.heap[w.heap.size+1]? =some (.cells (vwR v (.slice ya v.years.length yc)) 38 (0,0)):=by
   rw [<-hw2];exact eZ _ _ _ ze
  have hBw:w2.heap.size<=w.heap.size+1+1+(bs.size+bs2.size):=by omega
  have H00:=dW.start (slots:=List.replicate 12 .zero) hgY hBw hbY;have hBY:=(Array.getElem?_eq_some_iff.1 hbY).1;clear hbY;generalize w.heap.size+1+1+(bs.size+bs2.size)=B at *;have HG2:=yq hG2;have H2S:=yq h2s;have H2C:=yq h2c;have H2V:=yq h2v;have HBW:=yq hBw;have HYS:Hid (w.heap.size<=Y.heap.size):=yq zb;have H0:=yq H00;have HBY:=yq hBY;have HYW:=yq (HY.out.grows hG2);have HSW:=yq (HS.out.grows hG2);clear hw2 hgY hsY hG2 h2s h2c h2v hBw hBY H00
  go_wp2_with fail
  go_loopw [4,5,8,10,11] (fun v4 v5 v8 v10 v11 wr=>∃(i:Nat) (stk slots:List Val) (st:List (ByteArray × Val)),i<=l.length/\v11= .int .i64 i/\Hid (dW w2 Y.heap.size B stk slots st v8 v10 wr)/\Hid (At F D i stk slots)/\Hid (gP l sl v (l.length-i) i stk slots st=GH l sl v)/\Hid (stk.length<=i/\st.length<=i/\slots.length=12)) (fun _ _ _ _ v11 _=>l.length-(intOf v11).toNat)
  case atStart=>exact⟨0,[],List.replicate 12 .zero,[],by omega,rfl,H0,yq (qJ HC.out _),yq rfl,yq ⟨by simp,by simp,by simp⟩⟩
  clear H0;obtain⟨i,stk,slots,st,hi,rfl,H0,HAT,HRF,HLEN⟩:=hrel;have hgw:=H0.out.gr;have hcb:=(hgw.below.block w.heap.size yD).trans H2C.out;have hvb:=(hgw.below.block (w.heap.size+1) yD).trans H2V.out;have cb0:=cell_of_row wr _ 0 _ _ _ hcb;have cb1:=cell_of_row wr _ 1 _ _ _ hcb;have hwr:w.heap.size<wr.heap.size:=(Array.getElem?_eq_some_iff.1 hcb).1;have HCBW:=yq hcb;have HVBW:=yq hvb;have HGW:=yq (gqq HG2.out hgw);by_cases hlt:i<l.length
  ·have d1:(i:Int)<(l.length:Int):=by omega
   rcases HIX.out with h0|⟨b,off,hab,hb0,hc⟩
   ·omega
   obtain⟨-,k0,k1,k2,k3⟩:=hc i hlt;have ke:=fun o=>World.cell?_of_block (a:=⟨b,o,none⟩) (HGW.out.below.block b hb0);have hb:=Nat.lt_of_lt_of_le hb0 HGW.out.below.size;replace k0:=(ke _).trans k0;replace k1:=(ke _).trans k1;replace k2:=(ke _).trans k2;replace k3:=(ke _).trans k3;clear ke hb0;have HLT:=yq hlt;cases hab;obtain⟨x,hx⟩:∃x,l.getD i default=x:=⟨_,rfl⟩;rw [hx]at k0 k1 k2 k3;have HX:=yq hx;clear hx hc hlt hcb hvb hgw hi
   go_upto_block 2 with fail
   refine jD (fun W=>wr.Grows W/\∃ty,W.heap[wr.heap.size]? =some (.cells #[.int .i64 x.op,.int .i64 x.a,.int .i64 x.n,.int .i64 x.d] ty (0,0))) ⟨af,_,eZ _ _ _ rfl⟩ ?_;intro W0 hW0;obtain⟨hgr,hXB⟩:=hW0;have HXB:=yq hXB;have H0':=yq (H0.out.grows hgr);have HCB:Hid (w.heap.size<B/\∃ty,W0.heap[w.heap.size]? =some (.cells #[.slice (some ⟨b,off,none⟩) l.length ic,.slice sa sl.length sc] ty (0,0))):=yq ⟨by have:=HBW.out;have:=H2S.out;omega,_,(hgr.below.block _ hwr).trans HCBW.out⟩;have HV:Hid (∃ty,W0.heap[w.heap.size+1]? =some (.cells (vwR v (.slice ya v.years.length yc)) ty (0,0))):=yq ⟨_,(hgr.below.block _ (Array.getElem?_eq_some_iff.1 HVBW.out).1).trans HVBW.out⟩;have hne:wr.heap.size≠B:=by have:=H0.out.bW;have:=HBY.out;omega
   clear hXB hgr cb0 cb1 k0 k1 k2 k3 hb d1;generalize wr.heap.size=XB at *;apply Nj HC.out HLT.out HAT.out HX.out HLN.out HLEN.out.2.2 HVO.out HRG.out HV HYW hne HSW H0' HXB HCB (yq ⟨by have:=HLEN.out;have:=HLN.out;have:=HLT.out;omega,by have:=HLEN.out;have:=HLN.out;have:=HLT.out;omega,by have:=HLN.out;have:=HLT.out;omega⟩)
   ·exact fun _ _ _ _ _ h=>h
   ·intro vK' vS' at' t
    intros
    rename_i W' HT HR HA
    have HN:=yq (Bb HC.out HVO.out HLT.out HAT.out (by have:=HLEN.out;have:=HC.out.m12;omega) zS);have HF:=yq (Fx HC.out.wf HLT.out zS);have HS':=yq (vw HT.out);obtain⟨i',stk',slots',st'⟩:=t;dsimp only at HR HA HN HF HS';have hA:=HA.out;have hw:IntKind.i64.wrap (at'+1)=(i':Int):=by rw [hA];exact IntWalk.i64_in _ (by have:=HF.out;have:=HLN.out;omega)
    clear hA
    go_wp2_with fail
    go_roundw
    case rel=>exact⟨i',stk',slots',st',HF.out.2.2,rfl,HR,yq HN.out.1,yq (by rw [<-HF.out.1];exact HRF.out),yq ⟨by have:=HS'.out;have:=HLEN.out;have:=HF.out;omega,by have:=HS'.out;have:=HLEN.out;have:=HF.out;omega,by rw [HN.out.2.1];exact HLEN.out.2.2⟩⟩
    case measure=>simp [intOf];have:=HF.out;have:=HLT.out;omega
   ·intro cd
    intros
    rename_i W' HT HG
    have HE:=yq (Fy (sl:=sl) (v:=v) HLT.out zS)
    go_wp2_with fail
    go_returns
    exact qo.err yB (gqq HG2.out HG.out) yB
  ·obtain rfl:i=l.length:=by omega
   have HE:Hid (GH l sl v=(st,0)):=yq (by rw [<-HRF.out,Nat.sub_self];rfl);clear hlt hi hcb hvb hgw
   go_wp2_with fail
   go_returns
   rw [HE.out];exact⟨_,rfl,HGW.out,pJ HYS.out H0.out.stp⟩
def RnH(w W0:World)(base Bl CB VB XB i mm:Nat)(x:Ins)(sl:List ByteArray)(v:Vw)(vi vs vK vS:Value)(stk slots:List Val)(st:List (ByteArray × Val)):Prop:=
 ∀(_:Hid (dW w base Bl stk slots st vK vS W0)) (_:Hid (∃ty,W0.heap[XB]? =some (.cells #[.int .i64 x.op,.int .i64 x.a,.int .i64 x.n,.int .i64 x.d] ty (0,0)))) (_:Hid (CB<Bl/\∃ty,W0.heap[CB]? =some (.cells #[vi,vs] ty (0,0)))) (_:Hid (stk.length<=4000/\st.length<=4000/\i<=4000)) (_:Hid (slots.length=mm)) (x0 x1 x4 x5 x6 x7 x14 x15 x16 x17 x18 x19 x20 x21 x22 x23 x24 x25 x26 x27 x28 x29 x30 x31 x32 x33 x34 x35 x36 x37 x38 x39 x40 x41 x42 x43 x44 x45 x46 x47 x48 x49 x50 x51 x53 x54 x55 x56 x57 x58 x59 x60 x61 x62 x63 x64 x65 x66 x67 x68 x69 x70 x71 x72 x73 x74 x75 x76 x77 x78 x79 x80 x81 x82 x83 x84 x85 x86 x87 x88 x89 x90 x91 x92 x93 x94 x95 x96 x97 x98 x99 x100 x101 x102 x103 x104 x105 x106 x107 x108 x109 x110 x111 x112 x113 x114 x115 x116 x117 x118 x119 x120 x121 x122 x123 x124 x125 x126 x127 x128 x129 x130 x131 x132 x133 x134 x135 x136 x137 x138 x139 x140 x141 x142 x143 x144 x145 x146 x147 x148 x149 x150 x151 x152 x153 x154 x155 x156 x157 x158 x159 x160 x161 x162 x163 x164 x165 x166 x167 x168 x169 x170 x171 x172 x173 x174 x175 x176 x177 x178 x179 x180 x181 x182 x183 x184 x185 x186 x187 x188 x189 x190 x191 x192 x193 x194 x195 x196 x197:Value)
  (Q:Exit->Act->World->Prop) (_:∀(c) (a:Act) (d:Nat) (v:Value) (w:World),Q (.panic c) (a.put (some d) v) w->Q (.panic c) a w)
  (_:∀(vK' vS':Value) (at':Int) (t:Nat × List Val × List Val × List (ByteArray × Val)) (y4 y5 y12 y13 y14 y15 y16 y17 y18 y19 y20 y21 y37 y38 y39 y40 y41 y42 y43 y44 y45 y46 y47 y48 y49 y50 y51 y52 y53 y54 y55 y56 y57 y58 y59 y60 y61 y62 y63 y64 y65 y66 y67 y68 y69 y70 y71 y72 y73 y74 y75 y76 y77 y78 y79 y80 y81 y82 y83 y84 y85 y86 y87 y88 y89 y90 y91 y92 y93 y94 y95 y96 y97 y98 y99 y100 y101 y102 y103 y104 y105 y106 y107 y108 y109 y110 y111 y112 y113 y114 y115 y116 y117 y118 y119 y120 y121 y122 y123 y124 y125 y126 y127 y128 y129 y130 y131 y132 y133 y134 y135 y136 y137 y138 y139 y140 y141 y142 y143 y144 y145 y146 y147 y148 y149 y150 y151 y152 y153 y154 y155 y156 y157 y158 y159 y160 y161 y162 y163 y164 y165 y166 y167 y168 y169 y170 y171 y172 y173 y174 y175 y176 y177 y178 y179 y180 y181 y182 y183 y184 y185 y186 y187 y188 y189 y190 y191 y192 y193 y194 y195 y196:Value) (W':World),Hid (aN sl v x i stk slots st= .inl t)->Hid (dW w base Bl t.2.1 t.2.2.1 t.2.2.2 vK' vS' W')->Hid (at'+1=(t.1:Int))->Q .normal {tmps:=#[x0,x1,.pointer (some ⟨CB,0,none⟩),.pointer (some ⟨VB,0,none⟩),y4,y5,x6,x7,vK',vS',.slice (some ⟨Bl,0,none⟩) mm mm,.int .i64 (at':Int),y12,y13,y14,y15,y16,y17,y18,y19,y20,y21,x22,x23,x24,x25,x26,x27,x28,x29,x30,x31,x32,x33,x34,x35,x36,y37,y38,y39,y40,y41,y42,y43,y44,y45,y46,y47,y48,y49,y50,y51,y52,y53,y54,y55,y56,y57,y58,y59,y60,y61,y62,y63,y64,y65,y66,y67,y68,y69,y70,y71,y72,y73,y74,y75,y76,y77,y78,y79,y80,y81,y82,y83,y84,y85,y86,y87,y88,y89,y90,y91,y92,y93,y94,y95,y96,y97,y98,y99,y100,y101,y102,y103,y104,y105,y106,y107,y108,y109,y110,y111,y112,y113,y114,y115,y116,y117,y118,y119,y120,y121,y122,y123,y124,y125,y126,y127,y128,y129,y130,y131,y132,y133,y134,y135,y136,y137,y138,y139,y140,y141,y142,y143,y144,y145,y146,y147,y148,y149,y150,y151,y152,y153,y154,y155,y156,y157,y158,y159,y160,y161,y162,y163,y164,y165,y166,y167,y168,y169,y170,y171,y172,y173,y174,y175,y176,y177,y178,y179,y180,y181,y182,y183,y184,y185,y186,y187,y188,y189,y190,y191,y192,y193,y194,y195,y196,x197],defers:=[]} W')
  (_:∀(cd:Int) (y8 y9 y11 y12 y13 y14 y15 y16 y17 y18 y19 y20 y21 y37 y38 y39 y40 y41 y42 y43 y44 y45 y46 y47 y48 y49 y50 y51 y52 y53 y54 y55 y56 y57 y58 y59 y60 y61 y62 y63 y64 y65 y66 y67 y68 y69 y70 y71 y72 y73 y74 y75 y76 y77 y78 y79 y80 y81 y82 y83 y84 y85 y86 y87 y88 y89 y90 y91 y92 y93 y94 y95 y96 y97 y98 y99 y100 y101 y102 y103 y104 y105 y106 y107 y108 y109 y110 y111 y112 y113 y114 y115 y116 y117 y118 y119 y120 y121 y122 y123 y124 y125 y126 y127 y128 y129 y130 y131 y132 y133 y134 y135 y136 y137 y138 y139 y140 y141 y142 y143 y144 y145 y146 y147 y148 y149 y150 y151 y152 y153 y154 y155 y156 y157 y158 y159 y160 y161 y162 y163 y164 y165 y166 y167 y168 y169 y170 y171 y172 y173 y174 y175 y176 y177 y178 y179 y180 y181 y182 y183 y184 y185 y186 y187 y188 y189 y190 y191 y192 y193 y194 y195 y196:Value) (W':World),Hid (aN sl v x i stk slots st= .inr cd)->Hid (w.Grows W')->Q .ret {tmps:=#[x0,x1,.pointer (some ⟨CB,0,none⟩),.pointer (some ⟨VB,0,none⟩),.slice none 0 0,.int .i64 cd,x6,x7,y8,y9,.slice (some ⟨Bl,0,none⟩) mm mm,y11,y12,y13,y14,y15,y16,y17,y18,y19,y20,y21,x22,x23,x24,x25,x26,x27,x28,x29,x30,x31,x32,x33,x34,x35,x36,y37,y38,y39,y40,y41,y42,y43,y44,y45,y46,y47,y48,y49,y50,y51,y52,y53,y54,y55,y56,y57,y58,y59,y60,y61,y62,y63,y64,y65,y66,y67,y68,y69,y70,y71,y72,y73,y74,y75,y76,y77,y78,y79,y80,y81,y82,y83,y84,y85,y86,y87,y88,y89,y90,y91,y92,y93,y94,y95,y96,y97,y98,y99,y100,y101,y102,y103,y104,y105,y106,y107,y108,y109,y110,y111,y112,y113,y114,y115,y116,y117,y118,y119,y120,y121,y122,y123,y124,y125,y126,y127,y128,y129,y130,y131,y132,y133,y134,y135,y136,y137,y138,y139,y140,y141,y142,y143,y144,y145,y146,y147,y148,y149,y150,y151,y152,y153,y154,y155,y156,y157,y158,y159,y160,y161,y162,y163,y164,y165,y166,y167,y168,y169,y170,y171,y172,y173,y174,y175,y176,y177,y178,y179,y180,y181,y182,y183,y184,y185,y186,y187,y188,y189,y190,y191,y192,y193,y194,y195,y196,x197],defers:=[]} W'),
  Code.wp prog (sq2 (sq2 (sq2 (Jf (sq1 (sq2 (QJ (Jf (sq2 (sq1 (sq2 (sq2 (sq2 (sq2 (sq2 (sq2 (f23.body.getD .skip))))))))))))))))) Q {tmps:=#[x0,x1,.pointer (some ⟨CB,0,none⟩),.pointer (some ⟨VB,0,none⟩),x4,x5,x6,x7,vK,vS,.slice (some ⟨Bl,0,none⟩) mm mm,.int .i64 i,.pointer (some ⟨XB,0,none⟩),.int .i64 stk.length,x14,x15,x16,x17,x18,x19,x20,x21,x22,x23,x24,x25,x26,x27,x28,x29,x30,x31,x32,x33,x34,x35,x36,x37,x38,x39,x40,x41,x42,x43,x44,x45,x46,x47,x48,x49,x50,x51,.int .i64 x.op,x53,x54,x55,x56,x57,x58,x59,x60,x61,x62,x63,x64,x65,x66,x67,x68,x69,x70,x71,x72,x73,x74,x75,x76,x77,x78,x79,x80,x81,x82,x83,x84,x85,x86,x87,x88,x89,x90,x91,x92,x93,x94,x95,x96,x97,x98,x99,x100,x101,x102,x103,x104,x105,x106,x107,x108,x109,x110,x111,x112,x113,x114,x115,x116,x117,x118,x119,x120,x121,x122,x123,x124,x125,x126,x127,x128,x129,x130,x131,x132,x133,x134,x135,x136,x137,x138,x139,x140,x141,x142,x143,x144,x145,x146,x147,x148,x149,x150,x151,x152,x153,x154,x155,x156,x157,x158,x159,x160,x161,x162,x163,x164,x165,x166,x167,x168,x169,x170,x171,x172,x173,x174,x175,x176,x177,x178,x179,x180,x181,x182,x183,x184,x185,x186,x187,x188,x189,x190,x191,x192,x193,x194,x195,x196,x197],defers:=[]} W0
variable {w W0 : World} {base Bl CB VB XB i mm : Nat} {x : Ins} {sl : List ByteArray} {v : Vw} {vi vs vK vS : Value} {stk slots : List Val} {st : List (ByteArray × Val)}
theorem Qq(ho:x.op=1):RnH w W0 base Bl CB VB XB i mm x sl v vi vs vK vS stk slots st:=by
 intro H0 HX HCB HS HMM;exact rz8
theorem FB(b:Bool)(ho:x.op=23/\b=true\/x.op=24/\b=false):RnH w W0 base Bl CB VB XB i mm x sl v vi vs vK vS stk slots st:=by
 intro H0 HX HCB HS HMM;exact rz2
variable {w W0 : World} {base Bl CB VB XB i mm : Nat} {x : Ins} {sl : List ByteArray} {v : Vw} {vi vs vK vS : Value} {stk slots : List Val} {st : List (ByteArray × Val)}
theorem Qo(ho:x.op=3)(ha:0<=x.a/\x.a<mm):RnH w W0 base Bl CB VB XB i mm x sl v vi vs vK vS stk slots st:=by
 intro H0 HX HCB HS HMM
 intros
 rename_i Q hpan hQ hR
 obtain⟨y,hy⟩:∃y,slots.getD x.a.toNat .zero=y:=⟨_,rfl⟩;have HT:Hid (aN sl v x i stk slots st= .inl (i+1,stk++[y],slots,st)):=yq (by unfold aN;rw [<-hy];simp [ho]);obtain⟨s0,s1,s2,s3⟩:=H0.out.slot x.a.toNat yE;rw [hy]at s0 s1 s2 s3;have e0:0<=x.a:=ha.1;have e1:x.a<(mm:Int):=ha.2;exact rz9
theorem Ns(ho:x.op=21)(ha:0<=x.a/\x.a<=4000):RnH w W0 base Bl CB VB XB i mm x sl v vi vs vK vS stk slots st:=by
 intro H0 HX HCB HS HMM;exact RZ
variable {w W0 : World} {base Bl CB VB XB i mm : Nat} {x : Ins} {sl : List ByteArray} {v : Vw} {vi vs vK vS : Value} {stk slots : List Val} {st : List (ByteArray × Val)}
theorem Qm(y:Value)(HV:Hid (W0.cell? ⟨VB,12,none⟩=some y/\VB<W0.heap.size))(HB:Hid (∀w',W0.Grows w'->Calls prog 59 #[y,.int .i64 x.a] w' fun e w''=>e= .returned (frV (dh v.years x.a))/\w'.Grows w''))(ho:x.op=5):RnH w W0 base Bl CB VB XB i mm x sl v vi vs vK vS stk slots st:=by
 intro H0 HX HCB HS HMM
 intros
 rename_i Q hpan hQ hR
 have HF:Hid (aN sl v x i stk slots st=if(dh v.years x.a).2.2=0 then .inl (i+1,stk++[.num 4 (dh v.years x.a).1 (dh v.years x.a).2.1],slots,st)else .inr (dh v.years x.a).2.2):=yq (by unfold aN;simp [ho]);unfold frV at HB;generalize dh v.years x.a=R at *;obtain⟨rn,rd,rc⟩:=R;dsimp only at HF HB;obtain⟨y12,yV⟩:=HV.out;have q1:(x.op==1)=false:=by simp;omega
 have q2:(x.op==2)=false:=by simp;omega
 have q3:(x.op==3)=false:=by simp;omega
 have q4:(x.op==4)=false:=by simp;omega
 have q5:(x.op==5)=true:=by simpa using ho
 have q23:(x.op==23)=false:=by simp;omega
 have q24:(x.op==24)=false:=by simp;omega
 have q21:(x.op==21)=false:=by simp;omega
 have q22:(x.op==22)=false:=by simp;omega
 clear ho;by_cases hrc:rc=0
 ·subst hrc;have HT:Hid (aN sl v x i stk slots st= .inl (i+1,stk++[⟨4,false,rn,rd⟩],slots,st)):=yq yo;clear HF;obtain⟨i1,hi1,hz11,hz21,hz31⟩:=info_parts dV;obtain⟨ty,hxb⟩:=HX.out;have v0:=cell_of_row W0 _ 0 _ _ _ hxb;have v1:=cell_of_row W0 _ 1 _ _ _ hxb;have v2:=cell_of_row W0 _ 2 _ _ _ hxb;have v3:=cell_of_row W0 _ 3 _ _ _ hxb;have hXB:=(Array.getElem?_eq_some_iff.1 hxb).1;have HXB:=yq hXB;clear hxb
  conv=>arg 2;whnf
  go_wp2_with (first|(go_at_call 59;refine gvq (HB.out _ (.of_below au)) ?_;intro bA dA)|((at_builtin;refine wpList_append_lies _ rfl _ _ 124 rfl base 41 i1 _ 4 32 underlying124 hi1 hz11 hz21 hz31 rfl zf vK stk.length (vlV stk) rfl (bB H0.out.stk (.of_below au)) ⟨_,0,none⟩ 1 1 [.int .i64 (4),.bool (false),.int .i64 (rn),.int .i64 (rd)] rfl rfl (ax _ [.int .i64 (4),.bool (false),.int .i64 (rn),.int .i64 (rd)] _ _ ze) zv zf zQ zz (by have:=H0.out.bW;simp;omega) _ rfl ?_;intro g4 c4 w4 hown hgrow hgg hgl;have h4:=H0.out.push ⟨4,false,rn,rd⟩ (n:=stk.length+1) rfl (.of_below au) hgrow hgg zx hown;have H4:=yq h4;clear hown hgrow hgg hgl h4)))
  exact Nb
 ·have HT:Hid (aN sl v x i stk slots st= .inr rc):=yq (by rw [HF.out,if_neg hrc]);have hrb:(rc !=0)=true:=by simpa using hrc
  clear HF;obtain⟨i1,hi1,hz11,hz21,hz31⟩:=info_parts dV;obtain⟨ty,hxb⟩:=HX.out;have v0:=cell_of_row W0 _ 0 _ _ _ hxb;have v1:=cell_of_row W0 _ 1 _ _ _ hxb;have v2:=cell_of_row W0 _ 2 _ _ _ hxb;have v3:=cell_of_row W0 _ 3 _ _ _ hxb;have hXB:=(Array.getElem?_eq_some_iff.1 hxb).1;have HXB:=yq hXB;clear hxb
  conv=>arg 2;whnf
  go_wp2_with (go_at_call 59;refine gvq (HB.out _ (.of_below au)) ?_;intro bA dA)
  (apply hR;exact HT;exact yq (H0.out.gr.trans' (.of_below au)))
variable {w W0 : World} {base Bl CB VB XB i mm : Nat} {x : Ins} {sl : List ByteArray} {v : Vw} {vi vs vK vS : Value} {stk slots : List Val} {st : List (ByteArray × Val)}
theorem Qn(ho:x.op=4)(ha:0<=x.a/\x.a<mm)(hk:0<stk.length)(hne:XB≠Bl)(sb so sc:Nat)(hvs:vs= .slice (some ⟨sb,so,none⟩) sl.length sc)(hxs:x.a<sl.length)(HSL:Hid (∀W,w.Grows W->sb<W.heap.size/\W.cell? ⟨sb,so+x.a.toNat,none⟩=some (.string (sl.getD x.a.toNat ByteArray.empty)))):RnH w W0 base Bl CB VB XB i mm x sl v vi vs vK vS stk slots st:=by
 intro H0 HX HCB HS HMM
 intros
 rename_i Q hpan hQ hR
 subst hvs;obtain⟨m,hm⟩:∃m,stk.length=m+1:=⟨stk.length-1,by omega⟩;obtain⟨g,c,rfl,hc⟩:=jh H0.out.stk hk;obtain⟨y,hy⟩:∃y,stk.getD m .zero=y:=⟨_,rfl⟩;obtain⟨s0,s1,s2,s3⟩:=H0.out.val rfl m zb;rw [hy]at s0 s1 s2 s3;have hg:=(H0.out.stk.lt g rfl).2;have HM:=yq hm;rw [hm]at hc ⊢;have hw3:wrap64 (m:Int)=(m:Int):=rU zz;have hw4:IntKind.i64.wrap (m:Int)=(m:Int):=IntWalk.i64_in _ zz;have j0:(0:Int)<=(m:Int):=by omega
 have j1:(m:Int)<((m+1:Nat):Int):=by omega
 have j4:(m:Int)<(m:Int)+1:=by omega
 have j2:m<m+1:=by omega
 have j3:(m:Int)<=(c:Int):=by omega
 have e0:0<=x.a:=ha.1;have e1:x.a<(mm:Int):=ha.2
 have hw2:IntKind.i64.wrap (((m+1:Nat):Int)-1)=(m:Int):=by
  rw [show((m+1:Nat):Int)-1=(m:Int)by omega];exact IntWalk.i64_in _ zz
 have hB:=H0.out.lt;have HT:Hid (aN sl v x i stk slots st= .inl (i+1,stk.take m,slots.set x.a.toNat y,st++[(sl.getD x.a.toNat ByteArray.empty,y)])):=yq xJ;have HU:=yq (H0.out.set x.a.toNat yE y);have HY:=yq hy;have q1:(x.op==1)=false:=by simp;omega
 have q2:(x.op==2)=false:=by simp;omega
 have q3:(x.op==3)=false:=by simp;omega
 have q4:(x.op==4)=true:=by simpa using ho
 have q5:(x.op==5)=false:=by simp;omega
 have q23:(x.op==23)=false:=by simp;omega
 have q24:(x.op==24)=false:=by simp;omega
 have q21:(x.op==21)=false:=by simp;omega
 have q22:(x.op==22)=false:=by simp;omega
 clear ho hm hy;obtain⟨i1,hi1,hz11,hz21,hz31⟩:=info_parts dV;obtain⟨ty,hxb⟩:=HX.out;have v0:=cell_of_row W0 _ 0 _ _ _ hxb;have v1:=cell_of_row W0 _ 1 _ _ _ hxb;have v2:=cell_of_row W0 _ 2 _ _ _ hxb;have v3:=cell_of_row W0 _ 3 _ _ _ hxb;have hXB:=(Array.getElem?_eq_some_iff.1 hxb).1;have HXB:=yq hXB;clear hxb
 conv=>arg 2;whnf
 go_upto_region 29 with fail
 refine TS.begin [9] (World.Grows W0) zd zd aj (fun hS=>?_);refine kq 0 hS ?_;refine kq 1 hS ?_;refine kq 2 hS ?_;refine kq 3 hS ?_;refine kq 4 hS ?_;refine kq 5 hS ?_;refine kq 6 hS ?_;refine kq 7 hS ?_;refine kq 8 hS ?_;obtain⟨t0,t1,t2,t3⟩:=H0.out.slot x.a.toNat yE;have f0:=H0.out.unfr (x.a.toNat*4);have f1:=H0.out.unfr (x.a.toNat*4+1);have f2:=H0.out.unfr (x.a.toNat*4+2);have f3:=H0.out.unfr (x.a.toNat*4+3);refine TS.weB 9 ?_
 go_upto_region 30 with fail
 refine jD (fun W=>dW w base Bl stk (slots.set x.a.toNat y) st (.slice (some ⟨g,0,none⟩) stk.length c) vS W/\(∃ty,W.heap[XB]? =some (.cells #[.int .i64 x.op,.int .i64 x.a,.int .i64 x.n,.int .i64 x.d] ty (0,0)))/\∃ty,W.heap[CB]? =some (.cells #[vi,.slice (some ⟨sb,so,none⟩) sl.length sc] ty (0,0))) ⟨HU.out.grows aj, ?_, ?_⟩ ?_
 ·obtain⟨ty,h⟩:=HX.out;exact⟨ty,ow h hne aj⟩
 ·obtain⟨ty,h⟩:=HCB.out.2;exact⟨ty,ow h (by have:=HCB.out.1;omega) aj⟩
 intro W1 hW1;obtain⟨hR1,⟨tx,hx1⟩,⟨tc,hc1⟩⟩:=hW1;have H1:=yq hR1;clear s0 s1 s2 s3 t0 t1 t2 t3 f0 f1 f2 f3 v0 v1 v2 v3 hg hB hR1;obtain⟨s0,s1,s2,s3⟩:=H1.out.val rfl m yH;rw [HY.out]at s0 s1 s2 s3;have hg:=(H1.out.stk.lt g rfl).2;have v1:=cell_of_row W1 _ 1 _ _ _ hx1;have c1:=cell_of_row W1 _ 1 _ _ _ hc1;have hXB1:=(Array.getElem?_eq_some_iff.1 hx1).1;have hCB1:=(Array.getElem?_eq_some_iff.1 hc1).1;obtain⟨hsb,r0⟩:=HSL.out W1 H1.out.gr;have e2:x.a<(sl.length:Int):=hxs;obtain⟨i2,hi2,hz12,hz22,hz32⟩:=info_parts Lr;obtain⟨nm,hnm⟩:∃s,sl.getD x.a.toNat ByteArray.empty=s:=⟨_,rfl⟩;rw [hnm]at r0;have HNM:=yq hnm;clear hx1 hc1 hnm;refine TS.begin [14,15] (World.Grows W1) zd zd aj (fun hS=>?_);refine kq 0 hS ?_;refine kq 1 hS ?_;refine kq 2 hS ?_;refine kq 3 hS ?_;refine kq 4 hS ?_;refine kq 5 hS ?_;refine kq 6 hS ?_;refine kq 7 hS ?_;refine kq 8 hS ?_;refine kq 9 hS ?_;refine kq 10 hS ?_;refine kq 11 hS ?_;refine kq 12 hS ?_;refine TS.one (i:=13) zd rfl (fun K1 hK1=>?_);have HK1:=yq hK1;clear hK1 hS;dsimp only [getElem_toArray,getElem_cons_succ,getElem_cons_zero]
 go_simp
 refine TS.go HK1.out af (fun hS=>?_);clear HK1 K1
 (try simp only [nS])
 refine TS.one (i:=14) zd rfl (fun K1 hK1=>?_);refine step_append_lies _ rfl _ _ 66 rfl base 70 i2 _ 5 48 underlying66 hi2 hz12 hz22 hz32 rfl zf vS st.length (spV st) rfl (bB H1.out.stp af) ⟨_,0,none⟩ 1 1 [.string nm,.int .i64 y.dim,.bool y.yes,.int .i64 y.n,.int .i64 y.d] rfl rfl (ax _ [.string nm,.int .i64 y.dim,.bool y.yes,.int .i64 y.n,.int .i64 y.d] _ _ ze) xD zf zQ zz yU _ rfl ?_;intro g6 c6 w6 hown hgrow hgg hgl;have h6:=H1.out.step nm y (n:=st.length+1) rfl af hgrow hgg zx hown;have h7:=h6.cut rfl (k:=m) yH;have H7:=yq h7;refine hK1 _ _ (fun h=>absurd zf h) ?_;clear hK1 K1 hown hgrow hgg hgl h6 h7 hS
 (try simp only [nS])
 refine TS.weB 15 ?_
 go_wp2_with fail
 rw [HNM.out]at HT
 (apply hQ;exact HT;exact H7;exact yq ze)
theorem rJ(l:List Val):(vlV l).length=l.length*4:=by
 induction l with
 |nil=>rfl
 |cons x r ih=>rw [show vlV (x::r)= .int .i64 x.dim:: .bool x.yes:: .int .i64 x.n:: .int .i64 x.d::vlV r from rfl];simp only [length_cons];omega
theorem uC{P:Program}{ops:Array Oper}{o:Oper}{a:Act}{w:World}{K:Act->World->Prop}{Q:Exit->Act->World->Prop}{E:Prop}(hgd:o.guard=none)(s x:Operand)(t:TypeId)
 (ho:o.op= .call {callee:=.builtin .append,args:=#[s,x],argTypes:=#[t,t]})
 (e:TypeId) (i:TypeInfo) (z:Value) (size bytes:Nat) (ht:P.underlying t=some (.slice e)) (hi:P.info? e=some i) (hz:i.zero=some z)
 (hsize:i.size=size) (hby:i.bytes=bytes) (hzs:z.cells.size=size) (hsz:0<size)
 (b:Addr) (n cap:Nat) (olds:List Value) (hs:a.eval s= .slice (some b) n cap) (hlo:olds.length=n*size) (holds:∀j u,olds[j]? =some u->w.cell? (b.add j)=some u)
 (ad:Addr) (m c:Nat) (news:List Value) (hx:a.eval x= .slice (some ad) m c) (hl:news.length=m*size) (hnews:∀j u,news[j]? =some u->w.cell? (ad.add j)=some u)
 (hg:cap<n+m) (h63:n+m<=maxLen) (hbytes:(n+m)*bytes<=140737488355328)
 (h:∀v' w',w'.ownsRow w.heap.size e size v' (n+m) (olds++news)->w.grownBy w' none->K (a.put o.dst v') w') :
 if Region.wanted o (yielded ops a.tmps)=true then Oper.wp P o a w K Q else E:=by
 have hw:Region.wanted o (yielded ops a.tmps)=true:=by simp [Region.wanted,hgd]
 rw [if_pos hw];obtain⟨v',w',hrun,r1,r2⟩:=run_append_arg_grows (P:=P) w t o.type e i z size bytes ht hi hz hsize hby hzs hsz b n cap olds hlo holds ad m c news hl hnews hg h63 hbytes;unfold Oper.wp;simp [execOp,ho,resolve,invoke,builtin,hs,hx,hrun,Result.andThen];exact h v' w' r1 r2
theorem dW.pushN{w W Wc W1:World}{base Bl:Nat}{stk slots:List Val}{st:List (ByteArray × Val)}{vK vS v1:Value}(h:dW w base Bl stk slots st vK vS W)(x:Val)(hg:W.Grows Wc)(hgr:Wc.grownBy W1 none)
 (ho:W1.ownsRow Wc.heap.size 41 4 v1 (stk.length+1) (vlV stk++[.int .i64 x.dim,.bool x.yes,.int .i64 x.n,.int .i64 x.d])):dW w base Bl (stk++[x]) slots st v1 vS W1:=by
 obtain⟨a,c,hv,-,hb⟩:=aZ ho;obtain⟨b,-,hob,hle,-⟩:=hb.resolve_left zb;refine h.stack ⟨?_,.inr ⟨b,hob,Nat.le_trans hg.below.size hle⟩⟩ ?_
 ·have:=lZ hg hgr;exact⟨this.os,this.tape,this.output,this.size,fun k hk _=>this.block k hk ze⟩
 ·rw [length_append,Fp];exact pJ (Nat.le_trans h.bW hg.below.size) ho
variable {w W0 : World} {base Bl CB VB XB i mm : Nat} {x : Ins} {sl : List ByteArray} {v : Vw} {vi vs vK vS : Value} {stk slots : List Val} {st : List (ByteArray × Val)}
theorem Nq(g m ar c:Nat)(r:Val × Int)(hvK:vK= .slice (some ⟨g,0,none⟩) stk.length c)(hm:stk.length=m+ar)(har:ar=1\/ar=2)(hc:m+ar<=c)(ho:6<=x.op/\x.op<=20)(HO:Hid (∀w,Calls prog 60 #[.int .i64 x.op] w fun e w'=>e= .returned (.int .i64 (opF x.op))/\w=w'))(HP:Hid (∀w,Calls prog 61 #[.int .i64 (opF x.op)] w fun e w'=>e= .returned (.int .i64 (ar:Int))/\w=w'))(HF:Hid (aN sl v x i stk slots st=if r.2=0 then .inl (i+1,stk.take m++[r.1],slots,st)else .inr r.2))(HC:Hid (∀W',W0.Grows W'->Calls prog 62 #[.int .i64 (opF x.op),.slice (some ⟨g,m*4,none⟩) ar (c-m)] W' (lG r W'))):RnH w W0 base Bl CB VB XB i mm x sl v vi vs vK vS stk slots st:=by
 intro H0 HX HCB HS HMM
 intros
 rename_i Q hpan hQ hR
 subst hvK;have q1:(x.op==1)=false:=by simp;omega
 have q2:(x.op==2)=false:=by simp;omega
 have q3:(x.op==3)=false:=by simp;omega
 have q4:(x.op==4)=false:=by simp;omega
 have q5:(x.op==5)=false:=by simp;omega
 have q23:(x.op==23)=false:=by simp;omega
 have q24:(x.op==24)=false:=by simp;omega
 have q21:(x.op==21)=false:=by simp;omega
 have q22:(x.op==22)=false:=by simp;omega
 have hg:=(H0.out.stk.lt g rfl).2;have HM:=yq hm;have HA:=yq har
 have hw1:IntKind.i64.wrap ((stk.length:Int)-(ar:Int))=(m:Int):=by
  exact Rf
 generalize opF x.op=fo at *;have hw3:wrap64 (m:Int)=(m:Int):=rU zz;have j0:(0:Int)<=(m:Int):=by omega
 have j1:(m:Int)<=(stk.length:Int):=by omega
 have j5:m<=stk.length:=by omega
 have j3:(m:Int)<=(c:Int):=by omega
 have j7:(stk.length:Int)<=(c:Int):=by omega
 have j6:stk.length-m=ar:=by omega
 have j8:c≠m:=by rcases har with h|h<;>omega
 have HCUT:=yq (H0.out.cut rfl (k:=m) zb);clear ho hm har;obtain⟨rv,rc⟩:=r;unfold lG at HC;dsimp only at HF HC;obtain⟨i1,hi1,hz11,hz21,hz31⟩:=info_parts dV;obtain⟨ty,hxb⟩:=HX.out;have v0:=cell_of_row W0 _ 0 _ _ _ hxb;have v1:=cell_of_row W0 _ 1 _ _ _ hxb;have v2:=cell_of_row W0 _ 2 _ _ _ hxb;have v3:=cell_of_row W0 _ 3 _ _ _ hxb;have hXB:=(Array.getElem?_eq_some_iff.1 hxb).1;have HXB:=yq hXB;clear hxb
 conv=>arg 2;whnf
 go_upto_region 17 with (first
  |(go_at_call 60;refine gw (HO.out _) ?_)
  |(go_at_call 61;refine gw (HP.out _) ?_))
 go_upto_region 18 with (go_at_call 62;(try rw [if_neg j8]);refine(HC.out _ (.of_below au)).mono ?_;rintro e' wA ⟨vm,vn,vd,vb,rfl,hrv,bA,dA,rfl⟩)
 by_cases hrc:rc=0
 ·subst hrc;have HT:Hid (aN sl v x i stk slots st= .inl (i+1,stk.take m++[⟨vm,vb,vn,vd⟩],slots,st)):=yq (by rw [HF.out,if_pos rfl,hrv rfl]);clear HF hrv
  go_upto_region 20 with fail
  refine jD (fun W=>W0.Grows W/\∃ty,W.heap[W0.heap.size+bA.size]? =some (.cells #[.int .i64 vm,.bool vb,.int .i64 vn,.int .i64 vd] ty (0,0))) ⟨af,_,eZ _ _ _ ze⟩ ?_;intro W1 hW1;obtain⟨hg1,ty1,hb1⟩:=hW1;have H1:=yq (HCUT.out.grows hg1);have hTL:(stk.take m).length=m:=by rw [length_take,Nat.min_eq_left j5]
  have HTL:=yq hTL;have HO1:Hid (W1.ownsRow base 41 4 (.slice (some ⟨g,0,none⟩) m c) m (vlV (stk.take m))):=yq (by have h:=H1.out.stk;rw [hTL]at h;exact h)
  have HCE:Hid (∀W,W1.Grows W->∀j u,(vlV (stk.take m))[j]? =some u->W.cell? ((⟨g,0,none⟩:Addr).add j)=some u):=yq (fun W hW j u hu=>by
   rw [De,Nat.zero_add]
   have hj:j<m*4:=by
    have:=(List.getElem?_eq_some_iff.1 hu).1;rw [rJ,hTL]at this;exact this
   exact(World.cell?_of_block (a:=⟨g,j,none⟩) (hW.below.block g (H1.out.stk.lt g rfl).2)).trans ((HO1.out.cellAt j hj).trans hu))
  generalize W0.heap.size+bA.size=NB at *;have n0:=cell_of_row W1 _ 0 _ _ _ hb1;have n1:=cell_of_row W1 _ 1 _ _ _ hb1;have n2:=cell_of_row W1 _ 2 _ _ _ hb1;have n3:=cell_of_row W1 _ 3 _ _ _ hb1;have hNB:=(Array.getElem?_eq_some_iff.1 hb1).1;have j9:(m:Int)<=(m:Int):=by omega
  have hgW1:=(H1.out.stk.lt g rfl).2;clear hb1 hg1 v0 v1 v2 v3 hXB hg HC hTL;refine TS.begin [10,11] (World.Grows W1) zd zd aj (fun hS=>?_);refine kq 0 hS ?_;refine kq 1 hS ?_;refine kq 2 hS ?_;refine kq 3 hS ?_;refine kq 4 hS ?_;refine kq 5 hS ?_;refine kq 6 hS ?_;refine kq 7 hS ?_;refine kq 8 hS ?_;refine TS.one (i:=9) zd rfl (fun K1 hK1=>?_);have HK1:=yq hK1;clear hK1 hS;dsimp only [getElem_toArray,getElem_cons_succ,getElem_cons_zero]
  go_simp
  refine TS.go HK1.out af (fun hS=>?_);clear HK1 K1
  (try simp only [nS])
  refine TS.one (i:=10) zd rfl (fun K1 hK1=>?_);refine uC rfl _ _ 124 rfl 41 i1 _ 4 32 underlying124 hi1 hz11 hz21 hz31 rfl zf ⟨g,0,none⟩ m m (vlV (stk.take m)) rfl (by rw [rJ,HTL.out]) (HCE.out _ hS) ⟨_,0,none⟩ 1 1 [.int .i64 vm,.bool vb,.int .i64 vn,.int .i64 vd] rfl rfl (ax _ [.int .i64 vm,.bool vb,.int .i64 vn,.int .i64 vd] _ _ ze) zb zQ zz ?_;intro v4 w4 hown hgrow;have h4:=H1.out.pushN ⟨vm,vb,vn,vd⟩ hS hgrow (by rw [HTL.out];exact hown);have H4:=yq h4;refine hK1 _ _ (fun h=>absurd zf h) ?_;clear hK1 K1 hown hgrow h4 hS
  (try simp only [nS])
  refine TS.weB 11 ?_
  go_wp2_with fail
  exact Nb
 ·exact RO
theorem TA(A:World)(o:Obj):(A.drew.alloc o).Grows (A.alloc o):=⟨#[],A.drawn,by simp only [World.grow,Array.append_empty];rfl⟩
theorem TB{A Y:World}(o:Obj)(h:A.Grows Y):A.Grows (Y.alloc o):=gqq h (World.Grows.alloc _ _)
theorem Ty{A Y:World}(h:A.Grows Y):A.Grows Y.drew:=gqq h aj
theorem Tz{A Y:World}(b:Array Obj)(d:Nat)(h:A.Grows Y):A.Grows (Y.grow b d):=gqq h ⟨b,d,rfl⟩
variable {w W0 : World} {base Bl CB VB XB i mm : Nat} {x : Ins} {sl : List ByteArray} {v : Vw} {vi vs vK vS : Value} {stk slots : List Val} {st : List (ByteArray × Val)}
theorem Qp{y:Value}(HV:Hid (∃ty,W0.heap[VB]? =some (.cells (vwR v y) ty (0,0))))(hv:v.ok=true)(HI8:Hid (∀W,W0.Grows W->∀s,bE s.toList≠0->Calls prog 57 #[vwV v y,.string s] W fun e w'=>e= .returned (inV (dJ v s))/\W.Grows w'))(ho:x.op=2)(ha:0<=x.a/\x.a<11):RnH w W0 base Bl CB VB XB i mm x sl v vi vs vK vS stk slots st:=by
 intro H0 HX HCB HS HMM
 intros
 rename_i Q hpan hQ hR
 obtain⟨k,hk⟩:∃k:Nat,x.a=(k:Int):=⟨x.a.toNat,by omega⟩;have hk11:k<11:=by omega
 have hkt:x.a.toNat=k:=by omega
 have hne:bE (bC k).toList≠0:=Co hk11
 have hsz:dJ v (bC k)=some (fK v k):=by
  unfold fK dJ;rw [if_neg (by simp [hne,hv])];rfl
 have HT:Hid (aN sl v x i stk slots st= .inl (i+1,stk++[fK v k],slots,st)):=yq (by unfold aN;rw [hkt];simp [ho])
 have HIN:Hid (∀W,W0.Grows W->Calls prog 57 #[vwV v y,.string (bC k)] W fun e w'=>e= .returned (.tuple #[.agg #[.int .i64 (fK v k).dim,.bool (fK v k).yes,.int .i64 (fK v k).n,.int .i64 (fK v k).d],.bool true])/\W.Grows w'):=yq (fun W hg=>by
  have:=HI8.out W hg (bC k) hne;rw [hsz]at this
  exact this)
 have hiA:=lW k hk11;have hk11':(k:Int)<11:=by omega
 have hsA:oM.size=11:=rfl;have hks:k<oM.size:=hk11
 have hiA2:oM[k]'hks= .string (bC k):=by
  rw [Array.getElem?_eq_getElem (show k<oM.size from hk11)]at hiA;exact Option.some.inj hiA
 obtain⟨tyv,hvb⟩:=HV.out;unfold vwV at HIN;unfold vwR at hvb;have u0:=cell_of_row W0 _ 0 _ _ _ hvb;have u1:=cell_of_row W0 _ 1 _ _ _ hvb;have u2:=cell_of_row W0 _ 2 _ _ _ hvb;have u3:=cell_of_row W0 _ 3 _ _ _ hvb;have u4:=cell_of_row W0 _ 4 _ _ _ hvb;have u5:=cell_of_row W0 _ 5 _ _ _ hvb;have u6:=cell_of_row W0 _ 6 _ _ _ hvb;have u7:=cell_of_row W0 _ 7 _ _ _ hvb;have u8:=cell_of_row W0 _ 8 _ _ _ hvb;have u9:=cell_of_row W0 _ 9 _ _ _ hvb;have u10:=cell_of_row W0 _ 10 _ _ _ hvb;have u11:=cell_of_row W0 _ 11 _ _ _ hvb;have u12:=cell_of_row W0 _ 12 _ _ _ hvb;have hVB:=(Array.getElem?_eq_some_iff.1 hvb).1;clear hvb hne hsz hv ha HI8;generalize fK v k=z at *;generalize bC k=nm at *;have q1:(x.op==1)=false:=by simp;omega
 have q2:(x.op==2)=true:=by simpa using ho
 have q3:(x.op==3)=false:=by simp;omega
 have q4:(x.op==4)=false:=by simp;omega
 have q5:(x.op==5)=false:=by simp;omega
 have q23:(x.op==23)=false:=by simp;omega
 have q24:(x.op==24)=false:=by simp;omega
 have q21:(x.op==21)=false:=by simp;omega
 have q22:(x.op==22)=false:=by simp;omega
 clear ho;obtain⟨i1,hi1,hz11,hz21,hz31⟩:=info_parts dV;obtain⟨ty,hxb⟩:=HX.out;have v0:=cell_of_row W0 _ 0 _ _ _ hxb;have v1:=cell_of_row W0 _ 1 _ _ _ hxb;have v2:=cell_of_row W0 _ 2 _ _ _ hxb;have v3:=cell_of_row W0 _ 3 _ _ _ hxb;have hXB:=(Array.getElem?_eq_some_iff.1 hxb).1;have HXB:=yq hXB;clear hxb
 conv=>arg 2;whnf
 go_upto_region 24 with fail
 refine TS.begin [12] (World.Grows W0) zd zd aj (fun hS=>?_);refine kq 0 hS ?_;refine kq 2 hS ?_;refine kq 3 hS ?_;refine TS.two (i:=1) (k:=10) zd rfl rfl (fun K1 hK1=>?_) (fun K1 hK1=>?_)
 ·have HK1:=yq hK1;clear hK1 hS;dsimp only [getElem_toArray,getElem_cons_succ,getElem_cons_zero]
  go_simp
  go_at_call 58
  refine gw (iH _) ?_;refine TS.go HK1.out (af) (fun hS=>?_);clear HK1 K1
  (try simp only [nS])
  refine TS.narrow (S':=World.Grows _) (fun _ h=>gqq hS h) (World.Grows.refl _) (fun hS=>?_);refine kq 4 hS ?_;refine kq 5 hS ?_;refine TS.two (i:=6) (k:=10) zd rfl rfl (fun K1 hK1=>?_) (fun K1 hK1=>?_)
  focus
   have HK1:=yq hK1;clear hK1 hS;dsimp only [getElem_toArray,getElem_cons_succ,getElem_cons_zero]
   go_simp
   go_at_call 57
   refine gvq (HIN.out _ af) ?_;intro b2 d2;refine TS.go HK1.out (by repeat first|exact TA _ _|exact World.Grows.refl _|apply TB|apply Ty|apply Tz) (fun hS=>?_);clear HK1 K1
   (try simp only [nS])
   refine kq 7 hS ?_;refine kq 8 hS ?_;refine kq 9 hS ?_;refine TS.one (i:=10) zd rfl (fun K1 hK1=>?_);have HK1:=yq hK1;clear hK1 hS;dsimp only [getElem_toArray,getElem_cons_succ,getElem_cons_zero]
   go_simp
   refine TS.go HK1.out (by repeat first|exact TA _ _|exact World.Grows.refl _|apply TB|apply Ty|apply Tz) (fun hS=>?_);clear HK1 K1
   (try simp only [nS])
  rotate_left
  focus
   have HK1:=yq hK1;clear hK1 hS;dsimp only [getElem_toArray,getElem_cons_succ,getElem_cons_zero]
   go_simp
   refine TS.go HK1.out (by repeat first|exact TA _ _|exact World.Grows.refl _|apply TB|apply Ty|apply Tz) (fun hS=>?_);clear HK1 K1
   (try simp only [nS])
   refine TS.one (i:=6) zd rfl (fun K1 hK1=>?_);have HK1:=yq hK1;clear hK1 hS;dsimp only [getElem_toArray,getElem_cons_succ,getElem_cons_zero]
   go_simp
   go_at_call 57
   refine gvq (HIN.out _ af) ?_;intro b2 d2;refine TS.go HK1.out (by repeat first|exact TA _ _|exact World.Grows.refl _|apply TB|apply Ty|apply Tz) (fun hS=>?_);clear HK1 K1
   (try simp only [nS])
   refine kq 7 hS ?_;refine kq 8 hS ?_;refine kq 9 hS ?_
  rotate_left
  all_goals
   refine TS.one (i:=11) zd rfl (fun K1 hK1=>?_);have HK1:=yq hK1;clear hK1 hS;dsimp only [getElem_toArray,getElem_cons_succ,getElem_cons_zero]
   go_simp
   refine TS.go HK1.out (by repeat first|exact TA _ _|exact World.Grows.refl _|apply TB|apply Ty|apply Tz) (fun hS=>?_);clear HK1 K1
   (try simp only [nS])
   refine TS.weB 12 ?_;exact rz4
 ·have HK1:=yq hK1;clear hK1 hS;dsimp only [getElem_toArray,getElem_cons_succ,getElem_cons_zero]
  go_simp
  refine TS.go HK1.out (af) (fun hS=>?_);clear HK1 K1
  (try simp only [nS])
  refine TS.one (i:=1) zd rfl (fun K1 hK1=>?_);have HK1:=yq hK1;clear hK1 hS;dsimp only [getElem_toArray,getElem_cons_succ,getElem_cons_zero]
  go_simp
  go_at_call 58
  refine gw (iH _) ?_;refine TS.go HK1.out (af) (fun hS=>?_);clear HK1 K1
  (try simp only [nS])
  refine kq 4 hS ?_;refine TS.one (i:=5) zd rfl (fun K1 hK1=>?_);have HK1:=yq hK1;clear hK1 hS;dsimp only [getElem_toArray,getElem_cons_succ,getElem_cons_zero]
  go_simp
  refine TS.go HK1.out (af) (fun hS=>?_);clear HK1 K1
  (try simp only [nS])
  refine TS.one (i:=6) zd rfl (fun K1 hK1=>?_);have HK1:=yq hK1;clear hK1 hS;dsimp only [getElem_toArray,getElem_cons_succ,getElem_cons_zero]
  go_simp
  go_at_call 57
  refine gvq (HIN.out _ af) ?_;intro b2 d2;refine TS.go HK1.out (af) (fun hS=>?_);clear HK1 K1
  (try simp only [nS])
  refine kq 7 hS ?_;refine kq 8 hS ?_;refine kq 9 hS ?_;refine TS.one (i:=11) zd rfl (fun K1 hK1=>?_);have HK1:=yq hK1;clear hK1 hS;dsimp only [getElem_toArray,getElem_cons_succ,getElem_cons_zero]
  go_simp
  refine TS.go HK1.out (af) (fun hS=>?_);clear HK1 K1
  (try simp only [nS])
  refine TS.weB 12 ?_;exact rz4
variable {w W0 : World} {base Bl CB VB XB i mm : Nat} {x : Ins} {sl : List ByteArray} {v : Vw} {vi vs vK vS : Value} {stk slots : List Val} {st : List (ByteArray × Val)}
theorem Nr(ho:x.op=22)(ha:0<=x.a/\x.a<=4000)(hk:0<stk.length):RnH w W0 base Bl CB VB XB i mm x sl v vi vs vK vS stk slots st:=by
 intro H0 HX HCB HS HMM;exact rz3
def TF:Prop:=∀(op:Int) (x:Val) (b o cp:Nat) (w:World) (_:x.ok=true) (_:4<=op) (_:op<=6) (_:ag op [x.dim]≠0) (_:b<w.heap.size)
 (_:w.cell? ⟨b,o,none⟩=some (.int .i64 x.dim)) (_:w.cell? ⟨b,o+1,none⟩=some (.bool x.yes)) (_:w.cell? ⟨b,o+2,none⟩=some (.int .i64 x.n)) (_:w.cell? ⟨b,o+3,none⟩=some (.int .i64 x.d)),
 Calls prog 62 #[.int .i64 op,.slice (some ⟨b,o,none⟩) 1 cp] w fun e w'=>e= .returned (.tuple #[.agg #[.int .i64 (op1 op x).1.dim,.bool (op1 op x).1.yes,.int .i64 (op1 op x).1.n,.int .i64 (op1 op x).1.d],.int .i64 (op1 op x).2])/\w.Grows w'
def TE:Prop:=∀(op:Int) (x y:Val) (b o cp:Nat) (w:World) (_:x.ok=true) (_:y.ok=true) (_:op=7\/op=8\/op=9\/op=10\/op=19\/op=20\/(11<=op/\op<=16)) (_:ag op [x.dim,y.dim]≠0) (_:b<w.heap.size)
 (_:w.cell? ⟨b,o,none⟩=some (.int .i64 x.dim)) (_:w.cell? ⟨b,o+1,none⟩=some (.bool x.yes)) (_:w.cell? ⟨b,o+2,none⟩=some (.int .i64 x.n)) (_:w.cell? ⟨b,o+3,none⟩=some (.int .i64 x.d))
 (_:w.cell? ⟨b,o+4,none⟩=some (.int .i64 y.dim)) (_:w.cell? ⟨b,o+5,none⟩=some (.bool y.yes)) (_:w.cell? ⟨b,o+6,none⟩=some (.int .i64 y.n)) (_:w.cell? ⟨b,o+7,none⟩=some (.int .i64 y.d)),
 Calls prog 62 #[.int .i64 op,.slice (some ⟨b,o,none⟩) 2 cp] w fun e w'=>e= .returned (.tuple #[.agg #[.int .i64 (op2 op x y).1.dim,.bool (op2 op x y).1.yes,.int .i64 (op2 op x y).1.n,.int .i64 (op2 op x y).1.d],.int .i64 (op2 op x y).2])/\w.Grows w'
theorem Gc{r:Val × Int}{w:World}{f}{a:Array Value}(h:Calls prog f a w fun e w'=>e= .returned (.tuple #[.agg #[.int .i64 r.1.dim,.bool r.1.yes,.int .i64 r.1.n,.int .i64 r.1.d],.int .i64 r.2])/\w.Grows w'):Calls prog f a w (lG r w):=
 h.mono fun _ _ h=>⟨_,_,_,_,h.1,fun _=>rfl,h.2⟩
structure Gi:Prop where
 a1:TF
 a2:TE
 op:∀(x:Int) (_:6<=x/\x<=20) (w:World),Calls prog 60 #[.int .i64 x] w fun e w'=>e= .returned (.int .i64 (opF x))/\w=w'
 args:∀(x:Int) (_:6<=x/\x<=20) (w:World),Calls prog 61 #[.int .i64 (opF x)] w fun e w'=>e= .returned (.int .i64 (aB (opF x):Nat))/\w=w'
 best:∀(l:List Int) (n:Int) (v:Value) (w:World) (_:bR w v l),Calls prog 59 #[v,.int .i64 n] w fun e w'=>e= .returned (frV (dh l n))/\w.Grows w'
 inp:∀(v:Vw) (y:Value) (s:ByteArray) (w:World) (_:fP v) (_:bR w y v.years),Calls prog 57 #[vwV v y,.string s] w fun r w'=>r= .returned (inV (dJ v s))/\w.Grows w'
section
variable {w W0 : World} {base Bl CB VB XB i mm : Nat} {x : Ins} {sl : List ByteArray} {v : Vw} {vi vs vK vS : Value} {stk slots : List Val} {st : List (ByteArray × Val)} {l : List Ins} {F : List (Option (List Int × List Bool))} {D : List Int} {y : Value}
theorem Pj(S8:Gi)(C:lF l sl.length F D)(hi:i<l.length)(hA:At F D i stk slots)(hx:l.getD i default=x)(o:x.op≠1/\x.op≠2/\x.op≠3/\x.op≠4/\x.op≠5/\x.op≠21/\x.op≠22/\x.op≠23/\x.op≠24)(H0:dW w base Bl stk slots st vK vS W0){g c m:Nat}(hvK:vK= .slice (some ⟨g,0,none⟩) stk.length c)
 (hm:stk.length=m+aB (opF x.op)) {W':World} (hg:W0.Grows W'):Calls prog 62 #[.int .i64 (opF x.op),.slice (some ⟨g,m*4,none⟩) (aB (opF x.op)) (c-m)] W' (lG (opV (opF x.op) (stk.drop m)) W'):=by
 subst hvK;have ho:=Bd C hi hA yI;rw [hx]at ho;obtain⟨h1,h2,h3,-⟩:=ho;have hop:=(dH (C.wf i hi) (by rw [hx];exact o.1)).2.2.2.2.2;rw [hx]at hop;have hop':=hop o.2.1 o.2.2.1 o.2.2.2.1 o.2.2.2.2.1 o.2.2.2.2.2.1 o.2.2.2.2.2.2.1 o.2.2.2.2.2.2.2.1 o.2.2.2.2.2.2.2.2;have hbd:=Eb _ hop';have H:=H0.grows hg;have hgW:=(H.stk.lt g rfl).2;rw [show stk.length-aB (opF x.op)=m by omega]at h3;generalize opF x.op=op at *;clear hop hop' h2;by_cases h6:op<=6
 ·have ha:aB op=1:=by unfold aB;rw [if_pos zb]
  rw [ha]at hm ⊢;rw [Aw hm]at h3 ⊢;obtain⟨s0,s1,s2,s3⟩:=H.val rfl m zb;have hy:=hA.ok _ (jf (m:=m) zb);have:=Gc (S8.a1 op (stk.getD m .zero) g (m*4) (c-m) W' hy hbd.1 h6 h3 hgW s0 s1 s2 s3);unfold opV;rw [if_pos h6];exact this
 ·have ha:aB op=2:=by unfold aB;rw [if_neg zb]
  rw [ha]at hm ⊢;rw [F6 hm]at h3 ⊢;obtain⟨s0,s1,s2,s3⟩:=H.val rfl m zb;obtain⟨t0,t1,t2,t3⟩:=H.val rfl (m+1) zb;rw [show(m+1)*4=m*4+4 by omega]at t0 t1 t2 t3;have hy:=hA.ok _ (jf (m:=m) zb);have hz:=hA.ok _ (jf (m:=m+1) zb);have:=Gc (S8.a2 op (stk.getD m .zero) (stk.getD (m+1) .zero) g (m*4) (c-m) W' hy hz zb h3 hgW s0 s1 s2 s3 t0 t1 t2 t3);unfold opV;rw [if_neg h6];exact this
theorem Ki(S8:Gi)(C:lF l sl.length F D)(hi:i<l.length)(hA:At F D i stk slots)(hx:l.getD i default=x)(hln:l.length<=4000)(hl:mm=sl.length)(hv:v.ok=true)(hr:fP v)
 (HV:Hid (∃ty,W0.heap[VB]? =some (.cells (vwR v y) ty (0,0)))) (HY:Hid (bR w y v.years)) (hne:XB≠Bl) (HSL:Hid (kJ w vs sl)):RnH w W0 base Bl CB VB XB i mm x sl v vi vs vK vS stk slots st:=by
 intro H0 HX HCB HS HMM;have hwf:=C.wf i hi;have hm12:=C.m12;by_cases o1:x.op=1
 ·exact Qq o1 H0 HX HCB HS HMM
 have hw2:=dH hwf (by rw [hx];exact o1);rw [hx]at hw2;obtain⟨-,w2,w34,w5,w21,wo⟩:=hw2;by_cases o2:x.op=2
 ·exact Qp HV hv (yq (fun W hg s _=>S8.inp v y s W hr ((HY.out.grows H0.out.gr).grows hg))) o2 (w2 o2) H0 HX HCB HS HMM
 by_cases o3:x.op=3
 ·have:=w34 (.inl o3);exact Qo o3 zb H0 HX HCB HS HMM
 by_cases o4:x.op=4
 ·have h4:=w34 (.inr o4);obtain⟨hne4,-,-⟩:=J2 C hi hA yE (by rw [hx];exact o4);obtain⟨-,-,sa,sc,-,hvs,hsx⟩:=HSL.out;rcases hsx with h0|⟨sb,so,rfl,hb,hc⟩
  ·omega
  exact Qn o4 zb (length_pos_iff.2 hne4) hne sb so sc hvs zb (yq (fun W hg=>⟨Nat.lt_of_lt_of_le hb hg.below.size,(World.cell?_of_block (hg.below.block sb hb)).trans (hc x.a.toNat zb)⟩)) H0 HX HCB HS HMM
 by_cases o5:x.op=5
 ·obtain⟨ty,hvb⟩:=HV.out;have hyW:=HY.out.grows H0.out.gr;exact Qm y (yq ⟨cell_of_row W0 _ 12 _ _ _ hvb,(Array.getElem?_eq_some_iff.1 hvb).1⟩) (yq (fun w' hg=>S8.best v.years x.a y w' (hyW.grows hg))) o5 H0 HX HCB HS HMM
 by_cases o23:x.op=23
 ·exact FB true (.inl ⟨o23,rfl⟩) H0 HX HCB HS HMM
 by_cases o24:x.op=24
 ·exact FB false (.inr ⟨o24,rfl⟩) H0 HX HCB HS HMM
 by_cases o21:x.op=21
 ·have:=w21 (.inl o21);exact Ns o21 zb H0 HX HCB HS HMM
 by_cases o22:x.op=22
 ·have:=w21 (.inr o22);obtain⟨h1,-,-⟩:=DJ C hi hA (by rw [hx];exact o22);exact Nr o22 zb (length_pos_iff.2 h1) H0 HX HCB HS HMM
 have o:x.op≠1/\x.op≠2/\x.op≠3/\x.op≠4/\x.op≠5/\x.op≠21/\x.op≠22/\x.op≠23/\x.op≠24:=⟨o1,o2,o3,o4,o5,o21,o22,o23,o24⟩;have hop:=wo o2 o3 o4 o5 o21 o22 o23 o24;have h1:=(Bd C hi hA yI).1;rw [hx]at h1;have har:aB (opF x.op)=1\/aB (opF x.op)=2:=by unfold aB;split<;>simp
 obtain⟨m,hm⟩:∃m,stk.length=m+aB (opF x.op):=⟨stk.length-aB (opF x.op),by omega⟩;obtain⟨g,c,hvK,hc⟩:=jh H0.out.stk zb;have hF:=Bf (sl:=sl) (v:=v) (i:=i) (stk:=stk) (slots:=slots) (st:=st) o;rw [show stk.length-aB (opF x.op)=m by omega]at hF;exact Nq g m (aB (opF x.op)) c _ hvK hm har zb (Ae hop) (yq (fun w=>S8.op _ (Ae hop) w)) (yq (fun w=>S8.args _ (Ae hop) w)) (yq hF) (yq (fun W' hg=>Pj S8 C hi hA hx o H0.out hvK hm hg)) H0 HX HCB HS HMM
end
theorem KL{w:World}{base n size:Nat}{e:TypeId}{v:Value}{xs:List Value}(h:w.ownsRow base e size v n xs):∃a c,v= .slice a n c:=by
 rcases h.2 with ⟨h,hn⟩|⟨g,cap,cur,h,_⟩
 ·exact⟨none,0,by rw [h,hn]⟩
 ·exact⟨_,_,h⟩
theorem Ih(n:Nat):madeCells #[.int .i64 0,.bool false,.int .i64 0,.int .i64 0] (n*4)=(vlV (List.replicate n .zero)).toArray:=by
 have hz:∀i,(List.replicate n Val.zero).getD i .zero= .zero:=fun i=>by
  exact Na
 apply Array.ext_getElem?;intro k;by_cases hk:k<n*4
 ·obtain⟨i,r,hr,rfl⟩:∃i r,r<4/\k=i*4+r:=⟨k / 4,k % 4,by omega,by omega⟩;have hm:(i*4+r) % 4=r:=by omega
  obtain⟨g0,g1,g2,g3⟩:=xV (List.replicate n Val.zero) i zg;rw [hz]at g0 g1 g2 g3;unfold madeCells;rw [Array.getElem?_map,Array.getElem?_range,if_pos hk];simp only [Option.map_some,getElem?_toArray];have hs:(#[Value.int .i64 0,Value.bool false,Value.int .i64 0,Value.int .i64 0]:Array Value).size=4:=rfl;rw [hs,hm];rcases(show r=0\/r=1\/r=2\/r=3 by omega)with rfl|rfl|rfl|rfl
  ·exact g0.symm
  ·exact g1.symm
  ·exact g2.symm
  ·exact g3.symm
 ·rw [Array.getElem?_eq_none (by rw [size_madeCells];omega),Array.getElem?_eq_none (by simp [rJ];omega)]
theorem Ig(n:Nat)(h:n<=4000)(w:World):(Instr.makeSlice 124 (.int .i64 (n:Int)) (.int .i64 (n:Int))).run prog w= .ok (.slice (some ⟨w.heap.size,0,none⟩) n n) (w.alloc (.cells (vlV (List.replicate n .zero)).toArray 41)):=by
 obtain⟨i,hi,hzz⟩:=Option.map_eq_some_iff.1 dV;simp only [Prod.mk.injEq]at hzz;obtain⟨hz,hs,hb⟩:=hzz;have hr:=run_make (P:=prog) w 124 41 i _ underlying124 hi hz .i64 .i64 (n:Int) (n:Int) zb (Int.le_refl _) (by rw [hb];omega) zb;rw [Int.toNat_natCast,hs]at hr;rw [<-Ih];exact hr
def vH(l:List Ins)(sl:List ByteArray)(v:Vw):List (ByteArray × Val) × Int:=gP l sl v l.length 0 [] (List.replicate sl.length .zero) []
def lK(l:List Ins)(sl:List ByteArray)(v:Vw):List (ByteArray × Val) × Int:=if(dO l sl).2≠0 then([],(dO l sl).2)else if v.ok=true then vH l sl v else([],1)
structure PR:Prop where
 ver:∀(l:List Ins) (sl:List ByteArray) (vi vs:Value) (w:World) (_:ig w vi l) (_:kJ w vs sl),Calls prog 22 #[.agg #[vi,vs]] w (JC (dO l sl) w)
 view:∀(v:Vw) (y:Value) (w:World) (_:fP v) (_:bR w y v.years),Calls prog 41 #[vwV v y] w fun r w'=>r= .returned (.bool v.ok)/\w.Grows w'
theorem MB(S8:Gi)(P8:PR)(l:List Ins)(sl:List ByteArray)(v:Vw)(vi vs y:Value)(w:World)(hI:ig w vi l)(hS:kJ w vs sl)(hr:fP v)(hy:bR w y v.years) :
 Calls prog 23 #[.agg #[vi,vs],vwV v y] w (qo (lK l sl v) w):=by
 have HI:=yq hI;have HS:=yq hS;have HY:=yq hy;have HRG:=yq hr;have HVE:=yq (fun W (hg:w.Grows W)=>P8.ver l sl vi vs W (HI.out.grows hg) (HS.out.grows hg));have HVW:=yq (fun W (hg:w.Grows W)=>P8.view v y W hr (HY.out.grows hg));unfold JC at HVE;obtain⟨-,ya,yc,rfl,-⟩:=id hy;obtain⟨-,ia,ic,rfl,hix⟩:=id hI;obtain⟨-,-,sa,sc,-,rfl,-⟩:=id hS;have HIX:=yq hix;clear hI hS hy hr hix P8;unfold vwV at HVW ⊢;by_cases hver:(dO l sl).2=0
 case neg=>
  have HRM:Hid ((lK l sl v).1= []/\(lK l sl v).2=(dO l sl).2):=yq (by unfold lK;rw [if_pos hver];exact⟨rfl,rfl⟩);have hvb:((dO l sl).2 !=0)=true:=by simpa using hver
  generalize dO l sl=r at *;obtain⟨d,cd⟩:=r;dsimp only at *;clear HVW
  go_enter func23,ntmps23
  go_wp2_with (go_at_call 22;refine gvq (HVE.out _ af) ?_;intro bs d)
  go_returns
  exact qo.err HRM.out.1 af HRM.out.2
 have hvd:(dO l sl)=((dO l sl).1,0):=by rw [<-hver]
 cases hvo:v.ok with
 |false=>
  have HRM:Hid ((lK l sl v).1= []/\(lK l sl v).2=1):=yq (by unfold lK;rw [if_neg (by simp [hver]),hvo];exact⟨rfl,rfl⟩);rw [hvd]at HVE;rw [hvo]at HVW;dsimp only at HVE;clear hvo hvd hver
  go_enter func23,ntmps23
  go_wp2_with (first
   |(go_at_call 22;refine gvq (HVE.out _ af) ?_;intro bs d)
   |(go_at_call 41;refine gvq (HVW.out _ af) ?_;intro bs2 d2))
  go_returns
  exact qo.err HRM.out.1 af HRM.out.2
 |true=>
  obtain⟨F,D,C⟩:=rQ hvd;have HC:=yq C;have hln:=(tH (rP hvd).1).1;have HLN:=yq hln;have HRM:Hid (lK l sl v=vH l sl v):=yq (by unfold lK;rw [if_neg (by simp [hver]),hvo];rfl);have HVO:=yq hvo;rw [HRM.out];rw [hvd]at HVE;rw [hvo]at HVW;dsimp only at HVE;have hmk:=Ig sl.length (by have:=HC.out.m12;omega);clear hvo hvd hver HRM C
  go_enter func23,ntmps23
  go_upto_block 0 with (first
   |(go_at_call 22;refine gvq (HVE.out _ af) ?_;intro bs d)
   |(go_at_call 41;refine gvq (HVW.out _ af) ?_;intro bs2 d2))
  obtain⟨w2,hw2⟩:∃w2,((w.alloc (.cells #[.slice ia l.length ic,.slice sa sl.length sc] 58)).alloc (.cells #[.int .i64 v.age,.int .i64 v.year,.int .i64 v.children,.int .i64 v.insured,.int .i64 v.worked,.int .i64 v.voluntary,.int .i64 v.service,.int .i64 v.equated,.int .i64 v.raising,.int .i64 v.resident,.int .i64 v.bn,.int .i64 v.bd,.slice ya v.years.length yc] 38))=w2:=⟨_,rfl⟩;refine jD (fun W=>w2.Grows W/\W.heap.size=w.heap.size+1+1+(bs.size+bs2.size)+1/\∃ty,W.heap[w.heap.size+1+1+(bs.size+bs2.size)]? =some (.cells (vlV (List.replicate sl.length .zero)).toArray ty (0,0))) ⟨by rw [<-hw2];exact af,by simp,_,eZ _ _ _ ze⟩ ?_;intro Y hY;obtain⟨hgY,hsY,tyY,hbY⟩:=hY;have hG2:w.Grows w2:=by rw [<-hw2];exact af
  have h2s:w2.heap.size=w.heap.size+1+1:=by rw [<-hw2];simp
  have h2c:w2.heap[w.heap.size]? =some (.cells #[.slice ia l.length ic,.slice sa sl.length sc] 58 (0,0)):=by
   rw [<-hw2,Below.heap_alloc _ _ _ ze];exact heap_alloc_new _ _
  have h2v:w2.heap[w.heap.size+1]? =some (.cells (vwR v (.slice ya v.years.length yc)) 38 (0,0)):=by
   rw [<-hw2];exact eZ _ _ _ ze
  have hBw:w2.heap.size<=w.heap.size+1+1+(bs.size+bs2.size):=by omega
  have H00:=dW.start (slots:=List.replicate sl.length .zero) hgY hBw hbY;have hBY:=(Array.getElem?_eq_some_iff.1 hbY).1;clear hbY;generalize w.heap.size+1+1+(bs.size+bs2.size)=B at *;have HG2:=yq hG2;have H2S:=yq h2s;have H2C:=yq h2c;have H2V:=yq h2v;have HBW:=yq hBw;have HYS:Hid (w.heap.size<=Y.heap.size):=yq zb;have H0:=yq H00;have HBY:=yq hBY;have HYW:=yq (HY.out.grows hG2);have HSW:=yq (HS.out.grows hG2);clear hw2 hgY hsY hG2 h2s h2c h2v hBw hBY H00
  go_wp2_with fail
  go_loopw [4,5,8,9,11] (fun v4 v5 v8 v10 v11 wr=>∃(i:Nat) (stk slots:List Val) (st:List (ByteArray × Val)),i<=l.length/\v11= .int .i64 i/\Hid (dW w2 Y.heap.size B stk slots st v8 v10 wr)/\Hid (At F D i stk slots)/\Hid (gP l sl v (l.length-i) i stk slots st=vH l sl v)/\Hid (stk.length<=i/\st.length<=i/\slots.length=sl.length)) (fun _ _ _ _ v11 _=>l.length-(intOf v11).toNat)
  case atStart=>exact⟨0,[],List.replicate sl.length .zero,[],by omega,rfl,H0,yq (qJ HC.out _),yq rfl,yq ⟨by simp,by simp,by simp⟩⟩
  clear H0;obtain⟨i,stk,slots,st,hi,rfl,H0,HAT,HRF,HLEN⟩:=hrel;have hgw:=H0.out.gr;have hcb:=(hgw.below.block w.heap.size yD).trans H2C.out;have hvb:=(hgw.below.block (w.heap.size+1) yD).trans H2V.out;have cb0:=cell_of_row wr _ 0 _ _ _ hcb;have cb1:=cell_of_row wr _ 1 _ _ _ hcb;have hwr:w.heap.size<wr.heap.size:=(Array.getElem?_eq_some_iff.1 hcb).1;have HCBW:=yq hcb;have HVBW:=yq hvb;have HGW:=yq (gqq HG2.out hgw);by_cases hlt:i<l.length
  ·have d1:(i:Int)<(l.length:Int):=by omega
   rcases HIX.out with h0|⟨b,off,hab,hb0,hc⟩
   ·omega
   obtain⟨-,k0,k1,k2,k3⟩:=hc i hlt;have ke:=fun o=>World.cell?_of_block (a:=⟨b,o,none⟩) (HGW.out.below.block b hb0);have hb:=Nat.lt_of_lt_of_le hb0 HGW.out.below.size;replace k0:=(ke _).trans k0;replace k1:=(ke _).trans k1;replace k2:=(ke _).trans k2;replace k3:=(ke _).trans k3;clear ke hb0;have HLT:=yq hlt;cases hab;obtain⟨x,hx⟩:∃x,l.getD i default=x:=⟨_,rfl⟩;rw [hx]at k0 k1 k2 k3;have HX:=yq hx;clear hx hc hlt hcb hvb hgw hi;obtain⟨aK,cK,hvK⟩:=KL H0.out.stk;subst hvK
   go_upto_block 2 with fail
   refine jD (fun W=>wr.Grows W/\∃ty,W.heap[wr.heap.size]? =some (.cells #[.int .i64 x.op,.int .i64 x.a,.int .i64 x.n,.int .i64 x.d] ty (0,0))) ⟨af,_,eZ _ _ _ rfl⟩ ?_;intro W0 hW0;obtain⟨hgr,hXB⟩:=hW0;have HXB:=yq hXB;have H0':=yq (H0.out.grows hgr);have HCB:Hid (w.heap.size<B/\∃ty,W0.heap[w.heap.size]? =some (.cells #[.slice (some ⟨b,off,none⟩) l.length ic,.slice sa sl.length sc] ty (0,0))):=yq ⟨by have:=HBW.out;have:=H2S.out;omega,_,(hgr.below.block _ hwr).trans HCBW.out⟩;have HV:Hid (∃ty,W0.heap[w.heap.size+1]? =some (.cells (vwR v (.slice ya v.years.length yc)) ty (0,0))):=yq ⟨_,(hgr.below.block _ (Array.getElem?_eq_some_iff.1 HVBW.out).1).trans HVBW.out⟩;have hne:wr.heap.size≠B:=by have:=H0.out.bW;have:=HBY.out;omega
   clear hXB hgr cb0 cb1 k0 k1 k2 k3 hb d1;generalize wr.heap.size=XB at *;apply Ki S8 HC.out HLT.out HAT.out HX.out HLN.out rfl HVO.out HRG.out HV HYW hne HSW H0' HXB HCB (yq ⟨by have:=HLEN.out;have:=HLN.out;have:=HLT.out;omega,by have:=HLEN.out;have:=HLN.out;have:=HLT.out;omega,by have:=HLN.out;have:=HLT.out;omega⟩) (yq HLEN.out.2.2)
   ·exact fun _ _ _ _ _ h=>h
   ·intro vK' vS' at' t
    intros
    rename_i W' HT HR HA
    have HN:=yq (Bb HC.out HVO.out HLT.out HAT.out (by have:=HLEN.out;have:=HC.out.m12;omega) zS);have HF:=yq (Fx HC.out.wf HLT.out zS);have HS':=yq (vw HT.out);obtain⟨i',stk',slots',st'⟩:=t;dsimp only at HR HA HN HF HS';have hA:=HA.out;have hw:IntKind.i64.wrap (at'+1)=(i':Int):=by rw [hA];exact IntWalk.i64_in _ (by have:=HF.out;have:=HLN.out;omega)
    clear hA
    go_wp2_with fail
    go_roundw
    case rel=>exact⟨i',stk',slots',st',HF.out.2.2,rfl,HR,yq HN.out.1,yq (by rw [<-HF.out.1];exact HRF.out),yq ⟨by have:=HS'.out;have:=HLEN.out;have:=HF.out;omega,by have:=HS'.out;have:=HLEN.out;have:=HF.out;omega,by rw [HN.out.2.1];exact HLEN.out.2.2⟩⟩
    case measure=>simp [intOf];have:=HF.out;have:=HLT.out;omega
   ·intro cd
    intros
    rename_i W' HT HG
    have HE:=yq (Fy (sl:=sl) (v:=v) HLT.out zS)
    go_wp2_with fail
    go_returns
    exact qo.err yB (gqq HG2.out HG.out) yB
  ·obtain rfl:i=l.length:=by omega
   have HE:Hid (vH l sl v=(st,0)):=yq (by rw [<-HRF.out,Nat.sub_self];rfl);clear hlt hi hcb hvb hgw
   go_wp2_with fail
   go_returns
   rw [HE.out];exact⟨_,rfl,HGW.out,pJ HYS.out H0.out.stp⟩
section
variable {l : List Ins} {sl : List ByteArray} {v : Vw} {m n i : Nat} {x : Ins} {stk s1 s2 : List Val} {st : List (ByteArray × Val)}
theorem Be(hx:wfF m n i x=true)(h1:m<=s1.length)(h2:m<=s2.length)(ha:∀q,q<m->s1.getD q .zero=s2.getD q .zero) :
 (∃j k t a b,aN sl v x i stk s1 st= .inl (j,k,a,t)/\aN sl v x i stk s2 st= .inl (j,k,b,t)/\m<=a.length/\m<=b.length/\∀q,q<m->a.getD q .zero=b.getD q .zero)\/∃e,aN sl v x i stk s1 st= .inr e/\aN sl v x i stk s2 st= .inr e:=by
 have same:∀{j k t},aN sl v x i stk s1 st= .inl (j,k,s1,t)->aN sl v x i stk s2 st= .inl (j,k,s2,t)->
  (∃j k t a b,aN sl v x i stk s1 st= .inl (j,k,a,t)/\aN sl v x i stk s2 st= .inl (j,k,b,t)/\m<=a.length/\m<=b.length/\∀q,q<m->a.getD q .zero=b.getD q .zero)\/∃e,aN sl v x i stk s1 st= .inr e/\aN sl v x i stk s2 st= .inr e:=
  fun g1 g2=>.inl ⟨_,_,_,s1,s2,g1,g2,h1,h2,ha⟩
 by_cases o1:x.op=1
 ·exact same (by unfold aN;rw [if_pos o1]) (by unfold aN;rw [if_pos o1])
 have w34:=(dH hx o1).2.2.1;by_cases o2:x.op=2
 ·exact same (by unfold aN;rw [if_neg o1,if_pos o2]) (by unfold aN;rw [if_neg o1,if_pos o2])
 by_cases o3:x.op=3
 ·have h3:=ha x.a.toNat (by have:=w34 (.inl o3);omega);exact same (by unfold aN;rw [if_neg o1,if_neg o2,if_pos o3]) (by unfold aN;rw [if_neg o1,if_neg o2,if_pos o3,h3])
 by_cases o4:x.op=4
 ·refine .inl ⟨i+1,stk.dropLast,st++[(sl.getD x.a.toNat ByteArray.empty,stk.getLastD .zero)],s1.set x.a.toNat (stk.getLastD .zero),s2.set x.a.toNat (stk.getLastD .zero),by unfold aN;rw [if_neg o1,if_neg o2,if_neg o3,if_pos o4],by unfold aN;rw [if_neg o1,if_neg o2,if_neg o3,if_pos o4],by simpa using h1,by simpa using h2,fun q hq=>?_⟩;rw [ay,ay,ha q hq];by_cases e:x.a.toNat=q
  ·rw [if_pos ⟨e,by omega⟩,if_pos ⟨e,by omega⟩]
  ·rw [if_neg (fun c=>e c.1),if_neg (fun c=>e c.1)]
 by_cases o5:x.op=5
 ·by_cases e:(dh v.years x.a).2.2=0
  ·exact same xA xA
  ·exact .inr ⟨_,by unfold aN;rw [if_neg o1,if_neg o2,if_neg o3,if_neg o4,if_pos o5,if_neg e],by unfold aN;rw [if_neg o1,if_neg o2,if_neg o3,if_neg o4,if_pos o5,if_neg e]⟩
 by_cases o23:x.op=23\/x.op=24
 ·exact same xz xz
 by_cases o21:x.op=21
 ·exact same xu xu
 by_cases o22:x.op=22
 ·exact same xo xo
 by_cases e:(opV (opF x.op) (stk.drop (stk.length-aB (opF x.op)))).2=0
 ·exact same xj xj
 ·exact .inr ⟨_,by unfold aN;rw [if_neg o1,if_neg o2,if_neg o3,if_neg o4,if_neg o5,if_neg o23,if_neg o21,if_neg o22,if_neg e],by unfold aN;rw [if_neg o1,if_neg o2,if_neg o3,if_neg o4,if_neg o5,if_neg o23,if_neg o21,if_neg o22,if_neg e]⟩
theorem vG(hw:∀i,i<l.length->wfF m l.length i (l.getD i default)=true):∀(f i:Nat) (stk s1 s2:List Val) (st:List (ByteArray × Val)),m<=s1.length->m<=s2.length->(∀q,q<m->s1.getD q .zero=s2.getD q .zero)->gP l sl v f i stk s1 st=gP l sl v f i stk s2 st
 |0,_,_,_,_,_,_,_,_=>rfl
 |f+1,i,stk,s1,s2,st,h1,h2,ha=>by
  rw [fE,fE];by_cases hi:l.length<=i
  ·rw [if_pos hi,if_pos hi]
  rw [if_neg hi,if_neg hi];rcases Be (sl:=sl) (v:=v) (stk:=stk) (st:=st) (hw i zb) h1 h2 ha with ⟨j,k,t,a,b,g1,g2,ga,gb,gq⟩|⟨e,g1,g2⟩
  ·rw [g1,g2];exact vG hw f j k a b t ga gb gq
  ·rw [g1,g2]
theorem Bu(n k:Nat):(List.replicate n Val.zero).getD k .zero= .zero:=by
 exact Na
theorem DW(l:List Ins)(sl:List ByteArray)(v:Vw):lK l sl v=nA l sl v:=by
 unfold lK nA;by_cases h:(dO l sl).2=0
 ·obtain⟨F,D,C⟩:=rQ (show dO l sl=((dO l sl).1,0)by rw [<-h])
  have:vH l sl v=GH l sl v:=by
   unfold vH GH;exact vG C.wf _ _ _ _ _ _ ze (by have:=C.m12;simpa using this) (fun q _=>by rw [Bu,Bu])
  rw [this]
 ·rw [if_pos h,if_pos h]
end
theorem Dy(R:VwR):fP (mY R):=by
 have h:=JR R;unfold Vw.ok at h;simp only [Bool.and_eq_true]at h;have:=aF h.1.2.1;exact⟨⟨by omega,by omega⟩,⟨by omega,by omega⟩⟩
def jb(st:List (ByteArray × Val))(i:Nat):ByteArray × Val:=st.getD i (ByteArray.empty,.zero)
theorem JY{st:List (ByteArray × Val)}{i:Nat}(hi:i<st.length):jb st i∈st:=by
 unfold jb;rw [getD_eq_getElem?_getD,getElem?_eq_getElem hi];exact getElem_mem hi
theorem kZ.named{l:List Ins}{sl:List ByteArray}{n:Nat}{dd:Int}{st:List (ByteArray × Val)}(hv:dO l sl=(dd,0))(h:kZ l sl n st){i:Nat}(hi:i<st.length):∃k,k<sl.length/\sl.getD k ByteArray.empty=(jb st i).1:=by
 obtain⟨j,-,h4,e⟩:=h.nm (jb st i) (JY hi);have hf:=(tH (rP hv).1).2.1
 have hj:j<l.length:=by
  rcases Nat.lt_or_ge j l.length with c|c
  ·exact c
  ·rw [getD_eq_getElem?_getD,getElem?_eq_none c]at h4;exact absurd h4 zf
 have hw:=(dH (hf j hj) zb).2.2.1 (.inr h4);exact⟨_,by omega,e.symm⟩
theorem kZ.apart{l:List Ins}{sl:List ByteArray}{n:Nat}{st:List (ByteArray × Val)}(h:kZ l sl n st){i k:Nat}(hk:k<i)(hi:i<st.length):(jb st k).1≠(jb st i).1:=by
 have h1:=pairwise_map.1 h.one;have h2:=pairwise_iff_getElem.1 h1 k i zb hi hk;unfold jb;rw [getD_eq_getElem?_getD,getD_eq_getElem?_getD,getElem?_eq_getElem hi,getElem?_eq_getElem zb];exact h2
theorem M5(l:List (ByteArray × Val))(i:Nat)(h:i<l.length):(spV l)[i*5]? =some (.string (jb l i).1)/\(spV l)[i*5+1]? =some (.int .i64 (jb l i).2.dim)/\(spV l)[i*5+2]? =some (.bool (jb l i).2.yes)/\(spV l)[i*5+3]? =some (.int .i64 (jb l i).2.n)/\(spV l)[i*5+4]? =some (.int .i64 (jb l i).2.d):=by
 induction l generalizing i with
 |nil=>simp at h
 |cons x r ih=>
  have e:spV (x::r)= .string x.1:: .int .i64 x.2.dim:: .bool x.2.yes:: .int .i64 x.2.n:: .int .i64 x.2.d::spV r:=rfl;rw [e]
  cases i with
  |zero=>exact⟨rfl,rfl,rfl,rfl,rfl⟩
  |succ i=>
   have:=ih i zy;rw [show(i+1)*5=i*5+1+1+1+1+1 by omega];exact this
theorem fu.growsM{w w':World}{v:Value}{zss:List (List Int)}(h:fu w v zss)(hg:w.Grows w'):fu w' v zss:=by
 obtain⟨h0,a,cap,hv,h1⟩:=h;refine⟨h0,a,cap,hv,h1.imp id ?_⟩;rintro⟨b,off,ha,hlt,hc⟩;refine⟨b,off,ha,Nat.lt_of_lt_of_le hlt hg.below.size,fun i hi=>?_⟩;obtain⟨u,hu,hi⟩:=hc i hi;obtain⟨bs,d,rfl⟩:=hg;exact⟨u,(World.cell?_grow _ _ _ hlt).trans hu,hi.grow bs d⟩
theorem bH.growsM{w w':World}{v:Value}{zs:List Int}(h:bH w v zs)(hg:w.Grows w'):bH w' v zs:=by
 obtain⟨bs,d,rfl⟩:=hg;exact h.grow bs d
def lu(w:World)(v:Value)(st:List (ByteArray × Val)):Prop:=∃a c,v= .slice a st.length c/\(st.length:Int)<=9223372036854775807/\(st.length=0\/∃g,a=some ⟨g,0,none⟩/\g<w.heap.size/\∀i,i<st.length->w.cell? ⟨g,i*5,none⟩=some (.string (jb st i).1)/\w.cell? ⟨g,i*5+1,none⟩=some (.int .i64 (jb st i).2.dim)/\w.cell? ⟨g,i*5+2,none⟩=some (.bool (jb st i).2.yes)/\w.cell? ⟨g,i*5+3,none⟩=some (.int .i64 (jb st i).2.n)/\w.cell? ⟨g,i*5+4,none⟩=some (.int .i64 (jb st i).2.d))
theorem lu.of_own{w:World}{B:Nat}{v:Value}{st:List (ByteArray × Val)}(h:w.ownsRow B 70 5 v st.length (spV st)):lu w v st:=by
 obtain⟨a,c,rfl,-,hs⟩:=aZ h;refine⟨a,c,rfl, ?_,hs.imp id ?_⟩
 focus
  rcases h.2 with ⟨_,h0⟩|⟨g,cap,cur,h',hb,hg,hnc,hcm,_⟩
  ·rw [h0];decide
  ·have:=hnc;have:=hcm;unfold maxLen at *;omega
 rintro⟨g,rfl,hb,-,hlt⟩;refine⟨g,rfl,hlt,fun i hi=>?_⟩;obtain⟨e0,e1,e2,e3,e4⟩:=M5 st i hi;exact⟨(h.cellAt _ zb).trans e0,(h.cellAt _ zb).trans e1,(h.cellAt _ zb).trans e2,(h.cellAt _ zb).trans e3,(h.cellAt _ zb).trans e4⟩
end Go.Proofs.YteildlpchhlchaaGreatDoor
