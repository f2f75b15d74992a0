import Derived.Test.YteildlpchhlchaaGreatDoorRAw9R
import Derived.Test.YteildlpchhlchaaGreatDoorRTyL
import Derived.Test.YteildlpchhlchaaGreatDoorREvC
import Derived.Test.YteildlpchhlchaaGreatDoorRCodS
set_option linter.all false
set_option maxHeartbeats 16000000
set_option maxRecDepth 1000000
namespace Go.Proofs.YteildlpchhlchaaGreatDoor
open Tryz List
def jE(l:List Ins)(k a:Nat):Nat:=(dK (l.take k)).count a
theorem mO(l:List Ins)(a:Nat):jE l 0 a=0:=by simp [jE,dK]
theorem kN(l r:List Ins):dK (l++r)=dK l++dK r:=by simp [dK]
theorem AZ{l:List Ins}{k:Nat}(hk:k<l.length):l.take (k+1)=l.take k++[l.getD k default]:=by
 exact Nc
theorem CV{l:List Ins}{k:Nat}(hk:k<l.length)(h:(l.getD k default).op=4)(a:Nat) :
 jE l (k+1) a=jE l k a+if(l.getD k default).a.toNat=a then 1 else 0:=by
 unfold jE;rw [AZ hk,kN,count_append]
 congr 1
 have e:dK [l.getD k default]= [(l.getD k default).a.toNat]:=by rw [fZ,if_pos h];rfl
 rw [e,count_singleton];by_cases hx:(l.getD k default).a.toNat=a
 ·simp [hx]
 ·simp [hx]
theorem wY{l:List Ins}{k:Nat}(hk:k<l.length)(h:(l.getD k default).op≠4)(a:Nat) :
 jE l (k+1) a=jE l k a:=by
 unfold jE;rw [AZ hk,kN,count_append];have e:dK [l.getD k default]= []:=by rw [fZ,if_neg h];rfl
 rw [e];simp
theorem Ja(l:List Ins)(k a:Nat):jE l k a<=(dK l).count a:=by
 unfold jE;have:dK l=dK (l.take k)++dK (l.drop k):=by rw [<-kN,take_append_drop]
 rw [this,count_append];omega
theorem oI{l:List Ins}(h:∀a,jE l l.length a<=1):(dK l).Nodup:=by
 rw [nodup_iff_count];intro a;have:=h a;unfold jE at this
 rwa [take_length]at this
theorem ku{l:List Ins}{k a:Nat}(h:1<jE l k a):¬(dK l).Nodup:=by
 intro hn;have h1:=nodup_iff_count.1 hn a;have h2:=Ja l k a;omega
open Go.RowKit
def o9(sl:List ByteArray)(k:Nat):Prop:=(∀s∈sl.take k,isWord s=true)/\(sl.take k).Nodup
theorem o9.zero(sl:List ByteArray):o9 sl 0:=⟨by simp,by simp⟩
theorem o9.next{sl:List ByteArray}{k:Nat}(h:o9 sl k)(hk:k<sl.length)(h1:isWord (sl.getD k ByteArray.empty)=true)(h2:sl.getD k ByteArray.empty∉sl.take k):o9 sl (k+1):=by
 have e:sl.take (k+1)=sl.take k++[sl.getD k ByteArray.empty]:=by
  exact Nc
 unfold o9;rw [e];refine⟨fun s hs=>?_, ?_⟩
 ·rcases mem_append.1 hs with hs|hs
  ·exact h.1 s hs
  ·obtain rfl:=mem_singleton.1 hs;exact h1
 ·rw [nodup_append];refine⟨h.2,by simp,fun a ha b hb=>?_⟩;obtain rfl:=mem_singleton.1 hb;intro e;subst e;exact h2 ha
theorem rG{sl:List ByteArray}{k:Nat}(hk:k<sl.length)(h:isWord (sl.getD k ByteArray.empty)=false):dX sl=false:=by
 unfold dX
 have:sl.all isWord=false:=by
  rw [Bool.eq_false_iff];intro hc;rw [all_eq_true]at hc;have:=hc (sl.getD k ByteArray.empty) (by rw [getD_eq_getElem?_getD,getElem?_eq_getElem hk];exact getElem_mem _);rw [h]at this;cases this
 rw [this];simp
theorem rF{sl:List ByteArray}{k:Nat}(hk:k<sl.length)(h:sl.getD k ByteArray.empty∈sl.take k):dX sl=false:=by
 unfold dX
 have:decide sl.Nodup=false:=by
  rw [decide_eq_false_iff_not];intro hc
  have e:sl.take (k+1)=sl.take k++[sl.getD k ByteArray.empty]:=by
   exact Nc
  have hn:(sl.take (k+1)).Nodup:=(take_sublist _ _).nodup hc;rw [e,nodup_append]at hn;exact hn.2.2 _ h _ (mem_singleton.2 rfl) rfl
 rw [this];simp
theorem rE{sl:List ByteArray}(h:o9 sl sl.length)(h12:(sl.length:Int)<=12):dX sl=true:=by
 unfold o9 at h;rw [take_length]at h;unfold dX;rw [decide_eq_true (by omega:sl.length<=12),decide_eq_true h.2,all_eq_true.2 h.1];rfl
theorem CW{l:List Ins}(hW:∀i,i<l.length->(l.getD i default).op=4->0<=(l.getD i default).a/\(l.getD i default).a<12){a:Nat}(ha:12<=a):jE l l.length a=0:=by
 unfold jE;rw [take_length,count_eq_zero];intro hm;unfold dK at hm;obtain⟨x,hx,rfl⟩:=mem_map.1 hm;obtain⟨hx1,hx2⟩:=mem_filter.1 hx;obtain⟨i,hi,rfl⟩:=mem_iff_getElem.1 hx1;have:=hW i hi (by rw [getD_eq_getElem?_getD,getElem?_eq_getElem hi];simpa using hx2);rw [getD_eq_getElem?_getD,getElem?_eq_getElem hi]at this;simp at this;omega
theorem DT(l:List Ins)(sl:List ByteArray)(vi vs:Value)(w:World)(hI:ig w vi l)(hS:kJ w vs sl)(hW:∀i,i<l.length->(l.getD i default).op=4->0<=(l.getD i default).a/\(l.getD i default).a<12) :
 Calls prog 124 #[.agg #[vi,vs]] w fun e w'=>e= .returned (.bool (dX sl&&decide (dK l).Nodup))/\w.Grows w':=by
 have HI:=yq hI;have HS:=yq hS;obtain⟨hl6,ai,ci,rfl,hix⟩:=hI;have HIX:=yq hix;clear hix;obtain⟨hs6,hmx,as',cs',hcp,rfl,hsx⟩:=hS;have HSX:=yq hsx;clear hsx;by_cases h12:12<sl.length
 ·have h12':(12:Int)<(sl.length:Int):=by omega
  have HW:Hid (dX sl=false):=yq yO
  go_enter func124,ntmps124
  go_wp2_with fail
  go_returns
  exact⟨by rw [HW.out];rfl,af⟩
 have h12':¬(12:Int)<(sl.length:Int):=by omega
 have H12:=yq h12;have HMX:=yq hmx;clear h12 hmx
 go_enter func124,ntmps124
 go_upto_block 0 with fail
 go_cut [3,4]from 8 (fun _ _ wx=>o9 sl sl.length/\World.Grows ((w.alloc (.cells #[.slice ai l.length ci,.slice as' sl.length cs'] 58))) wx)
 case first=>
  go_wp2_with fail
  go_loopw [15] (fun v15 wr=>∃k:Nat,k<=sl.length/\v15= .int .i64 k/\Hid (o9 sl k)/\World.Grows ((w.alloc (.cells #[.slice ai l.length ci,.slice as' sl.length cs'] 58))) wr) (fun v15 _=>sl.length-(intOf v15).toNat)
  case atStart=>exact⟨0,by omega,rfl,yq (o9.zero sl),af⟩
  case round=>
   obtain⟨k,hk,rfl,HWK,hg0⟩:=hrel;have HG0:=yq hg0;have hg:w.Grows wr:=gqq af hg0;have HG:=yq hg
   have cb0:wr.cell? ⟨w.heap.size,0,none⟩=some (.slice ai l.length ci):=by
    rw [World.cell?_of_block (hg0.below.block _ ze),World.cell?_alloc_at _ _ _ _ rfl];rfl
   have cb1:wr.cell? ⟨w.heap.size,1,none⟩=some (.slice as' sl.length cs'):=by
    rw [World.cell?_of_block (hg0.below.block _ ze),World.cell?_alloc_at _ _ _ _ rfl];rfl
   have hwr:w.heap.size<wr.heap.size:=by have:=hg0.below.size;simp at this;omega
   by_cases hlt:k<sl.length
   ·rcases HSX.out with h0|⟨b,off,rfl,hb,hx⟩
    ·omega
    have d1:(k:Int)<(sl.length:Int):=by omega
    have hkc:k<=cs':=by omega
    have hcell:∀j,j<sl.length->wr.cell? ⟨b,off+j,none⟩=some (.string (sl.getD j ByteArray.empty)):=fun j hj=>(World.cell?_of_block (hg.below.block b hb)).trans (hx j hj);have c0:=hcell k hlt;have HIW:=yq (fun w=>qN (sl.getD k ByteArray.empty) w (HMX.out _ xv));have HCT:=yq (fun w' (hg':wr.Grows w')=>slices_Contains_string b off k cs' sl (sl.getD k ByteArray.empty) w' hk zb (fun j hj=>(World.cell?_of_block (hg'.below.block b (by have:=hg.below.size;omega))).trans (hcell j hj)));have HCI:=yq (Lib.containsS_iff (sl.take k) (sl.getD k ByteArray.empty));have HB1:=yq (fun h=>rG hlt h);have HB2:=yq (fun h=>rF hlt h);have HNX:=yq (fun h1 h2=>HWK.out.next hlt h1 h2);have HLT:=yq hlt;have hbr:b<wr.heap.size:=by have:=hg.below.size;omega
    clear hx hcell hg hg0;generalize sl.getD k ByteArray.empty=s at *
    cases hw:isWord s with
    |false=>
     rw [hw]at HIW;have HW:=yq (HB1.out hw);clear hw
     go_wp2_with (go_at_call 167;refine gw (HIW.out _) ?_)
     go_returns
     exact⟨by rw [HW.out];rfl,gqq HG.out af⟩
    |true=>
     rw [hw]at HIW
     cases hc:Lib.containsS (sl.take k) s with
     |true=>
      rw [hc]at HCT;have HW:=yq (HB2.out (HCI.out.1 hc));clear hw hc
      go_wp2_with (first
       |(go_at_call 167;refine gw (HIW.out _) ?_)
       |(go_at_call 168;refine gw (HCT.out _ af) ?_))
      go_returns
      exact⟨by rw [HW.out];rfl,gqq HG.out af⟩
     |false=>
      rw [hc]at HCT;have HN:=yq (HNX.out hw (fun h=>by rw [HCI.out.2 h]at hc;cases hc));clear hw hc
      go_wp2_with (first
       |(go_at_call 167;refine gw (HIW.out _) ?_)
       |(go_at_call 168;refine gw (HCT.out _ af) ?_))
      go_roundw
      case rel=>exact⟨k+1,HLT.out,by go_num,HN,gqq HG0.out af⟩
      case measure=>simp [intOf];have:=HLT.out;omega
   ·obtain rfl:k=sl.length:=by omega
    clear hg hg0 hlt hk
    go_wp2_with fail
    go_meet
    exact⟨HWK.out,HG0.out⟩
 obtain⟨hwk,hg0⟩:=hcut;have HWK:=yq hwk;have HG0:=yq hg0
 have cb0:wc.cell? ⟨w.heap.size,0,none⟩=some (.slice ai l.length ci):=by
  exact Kg
 have hwr:w.heap.size<wc.heap.size:=by have:=hg0.below.size;simp at this;omega
 clear hwk hg0
 go_wp2_with fail
 go_loopw [35] (fun v35 wr=>∃k:Nat,k<=l.length/\v35= .int .i64 k/\World.Grows wc wr/\wc.heap.size<wr.heap.size/\(∀a,wr.frozen? ⟨wc.heap.size,a,none⟩=false)/\∀a,a<12->wr.cell? ⟨wc.heap.size,a,none⟩=some (.int .i64 (jE l k a))/\jE l k a<=1) (fun v35 _=>l.length-(intOf v35).toNat)
 case atStart=>exact⟨0,by omega,rfl,af,by simp,fun a=>World.frozen?_alloc_at _ _ _ _ rfl,fun a ha=>⟨by
  rw [World.cell?_alloc_at _ _ _ _ rfl,mO]
  rcases(by omega:a=0\/a=1\/a=2\/a=3\/a=4\/a=5\/a=6\/a=7\/a=8\/a=9\/a=10\/a=11)with rfl|rfl|rfl|rfl|rfl|rfl|rfl|rfl|rfl|rfl|rfl|rfl<;>rfl,by rw [mO];omega⟩⟩
 case round=>
  obtain⟨k,hk,rfl,hg1,hwr1,hfz,hcs⟩:=hrel;have HFZ:=yq hfz;clear hfz;have HG1:=yq hg1;have HC:=yq hcs;clear hcs;have hg:w.Grows wr:=gqq af (gqq HG0.out hg1);have cb1:wr.cell? ⟨w.heap.size,0,none⟩=some (.slice ai l.length ci):=(World.cell?_of_block (hg1.below.block _ hwr)).trans cb0;have hww:w.heap.size<wr.heap.size:=by have:=hg1.below.size;omega
  by_cases hlt:k<l.length
  ·rcases HIX.out with h0|⟨b,off,rfl,hb,hx⟩
   ·omega
   have d1:(k:Int)<(l.length:Int):=by omega
   obtain⟨-,x0,x1,x2,x3⟩:=hx k hlt;have e:∀o,wr.cell? ⟨b,o,none⟩=w.cell? ⟨b,o,none⟩:=fun o=>World.cell?_of_block (hg.below.block b hb);have y0:=(e _).trans x0;have y1:=(e _).trans x1;have y2:=(e _).trans x2;have y3:=(e _).trans x3;have hbr:b<wr.heap.size:=by have:=hg.below.size;omega
   have HLT:=yq hlt;have HWk:=yq (hW k hlt);have HSet:=yq (fun h=>CV hlt h);have HSkip:=yq (fun h=>wY hlt h);clear e x0 x1 x2 x3 hx hg hg1 hW;by_cases h4:(l.getD k default).op=4
   ·obtain⟨n,hn⟩:∃n:Nat,(l.getD k default).a=(n:Int):=⟨(l.getD k default).a.toNat,by have:=(HWk.out h4).1;omega⟩;have hn12:n<12:=by have:=(HWk.out h4).2;omega
    have HST:=yq (HSet.out h4);rw [hn]at y1;have hnt:(l.getD k default).a.toNat=n:=by omega
    rw [hnt]at HST;obtain⟨cS,hS1⟩:=HC.out n hn12;have d2:(0:Int)<=(n:Int):=by omega
    have d3:(n:Int)<12:=by omega
    clear HSet HSkip HWk hnt hn;obtain⟨c,hc⟩:∃c:Nat,jE l k n=c:=⟨_,rfl⟩;rw [hc]at cS hS1;generalize l.getD k default=x at *;rw [h4]at y0;have hfn:=HFZ.out n;have HW1:=yq hwr1;have HCC:=yq hc;clear hc;by_cases hc1:1<(c:Int)+1
    ·have HC1:=yq hc1
     go_wp2_with fail
     go_returns
     exact⟨by
      rw [decide_eq_false (ku (l:=l) (k:=k+1) (a:=n) (by rw [HST.out n,if_pos rfl,HCC.out];have:=HC1.out;omega))];simp,
      gqq af (gqq HG0.out (.of_below ((HG1.out.below.setCell (Nat.le_refl _) _).alloc yw _)))⟩
    ·have HC1:=yq hc1
     go_wp2_with fail
     go_roundw
     case rel=>exact⟨k+1,HLT.out,by go_num,.of_below ((HG1.out.below.setCell (Nat.le_refl _) _).alloc yw _),by have:=HW1.out;simp [World.setCell];omega,fun a=>(World.frozen?_of_block ((World.Grows.alloc _ _).below.block _ yw)).trans ((World.frozen?_setCell _ _ _ _).trans (HFZ.out a)),fun a ha=>by
      rw [World.cell?_of_block ((World.Grows.alloc _ _).below.block _ yw),HST.out a];by_cases han:n=a
      ·subst han;rw [World.cell?_setCell_same _ _ _ cS,if_pos rfl,HCC.out];exact⟨by simp,by have:=HC1.out;omega⟩
      ·rw [World.cell?_setCell_other _ _ _ _ (by simpa using han),if_neg han]
       exact HC.out a ha⟩
     case measure=>simp [intOf];have:=HLT.out;omega
   ·have h4':=h4;have HN4:=yq h4;generalize l.getD k default=x at *;clear h4
    go_wp2_with fail
    go_roundw
    case rel=>exact⟨k+1,HLT.out,by go_num,gqq HG1.out af,by simp;omega,fun a=>(World.frozen?_of_block (World.Grows.below (af:wr.Grows _)|>.block _ hwr1)).trans (HFZ.out a),fun a ha=>by
     rw [HSkip.out HN4.out]
     exact⟨by rw [World.cell?_of_block (World.Grows.below (af:wr.Grows _)|>.block _ hwr1)];exact(HC.out a ha).1,(HC.out a ha).2⟩⟩
    case measure=>simp [intOf];have:=HLT.out;omega
  ·obtain rfl:k=l.length:=by omega
   clear hlt hk hg hg1
   go_wp2_with fail
   go_returns
   have ha:∀a,jE l l.length a<=1:=fun a=>by
    rcases Nat.lt_or_ge a 12 with h|h
    ·exact(HC.out a h).2
    ·rw [CW hW h];omega
   exact⟨by rw [rE HWK.out h12',decide_eq_true (oI ha)];rfl,gqq af (gqq HG0.out HG1.out)⟩
open Go.RowKit Go.Sort Go.Lib
theorem bR.of_row{w:World}{base:Nat}{v:Value}{l:List Int}(h:w.ownsRow base 3 1 v l.length (l.map (Value.int .i64)))(hl:l.length<=1000):bR w v l:=by
 obtain⟨-,⟨rfl,h0⟩|⟨g,cap,cur,rfl,hb,hg,h2,h3,h4,h5⟩⟩:=id h
 ·exact⟨by omega,none,0,by rw [h0],.inl h0⟩
 ·refine⟨by omega,_,cap,rfl,.inr ⟨g,0,rfl,(Array.getElem?_eq_some_iff.1 hg).1,fun i hi=>?_⟩⟩;rw [Nat.zero_add,h.cellAt i zb,getElem?_map,getElem?_eq_getElem hi,getD_eq_getElem?_getD,getElem?_eq_getElem hi];rfl
def Gh(x:List Int)(w:World)(e:Ending)(w':World):Prop:=∃(a:Option Addr) (cap:Nat) (ss:List Int),e= .returned (.slice a ss.length cap)/\ss.length<=cap/\ss.Perm x/\ss.Pairwise (·<=·)/\bR w' (.slice a ss.length cap) ss/\w.Grows w'
def Pz(x:List Int)(w:World)(e:Ending)(w':World):Prop:=∃v',e= .returned v'/\w'.ownsRow w.heap.size 3 1 v' x.length (x.map (Value.int .i64))/\Below w.heap.size w w'
theorem CS(x:List Int)(v:Value)(Bs:Nat)(w:World)(hb:Bs<w.heap.size)(hc0:w.cell? ⟨Bs,0,none⟩=some v)(hL:bR w v x) :
 Calls prog 178 #[.func (.func 180) #[] #[.pointer (some ⟨Bs,0,none⟩)]] w (Pz x w):=by
 have HA:=yq (callsIn_wide.1 (Pm x v Bs w hb hc0 hL));clear hc0 hL
 go_enter func178,ntmps178
 go_wp2_with (go_at_call 213;refine HA.out.mono ?_;rintro e' w' ⟨v',rfl,hown,hbel⟩)
 go_returns
 exact⟨_,rfl,hown,hbel⟩
theorem Gv(l:List Int):(l.mergeSort fun x y=>decide (x<=y)).Pairwise (·<=·):=by
 have:=pairwise_mergeSort (le:=fun x y:Int=>decide (x<=y)) (by intro a b c h1 h2;simp at *;omega) (by intro a b;simp;omega) l;exact this.imp fun h=>by simpa using h
theorem Jk{w w1 w2:World}{g:Nat}(h:Below w.heap.size w w1)(hg:w1.grownBy w2 (some g))(hle:w.heap.size<=g):Below w.heap.size w w2:=h.grown hg h.size (fun k hk=>by cases hk;exact hle)
theorem DK(x:List Int)(v:Value)(Bs:Nat)(w:World)(hb:Bs<w.heap.size)(hc0:w.cell? ⟨Bs,0,none⟩=some v)(hL:bR w v x) :
 Calls prog 130 #[.func (.func 180) #[] #[.pointer (some ⟨Bs,0,none⟩)]] w (Gh x w):=by
 have HC:=yq (CS x v Bs w hb hc0 hL);have h1000:=hL.1;clear hc0 hL
 go_enter func130,ntmps130
 go_wp2_with (go_at_call 178;refine HC.out.mono ?_;rintro e' w' ⟨v',rfl,hown,hbel⟩;have HO:=yq hown;have HB:=yq hbel;obtain⟨hl0,⟨rfl,hz⟩|⟨g,cap,cur,rfl,hbg,hg,h2,h3,h4,h5⟩⟩:=hown;clear hbel)
 ·obtain rfl:x= []:=eq_nil_of_length_eq_zero hz
  go_wp2_with (go_at_call 179;refine(slices_Sort_int_none none 0 _).mono ?_;rintro e2 w2 ⟨rfl,rfl⟩)
  go_returns
  exact⟨none,0,[],rfl,Nat.le_refl _,.refl _,.nil,⟨by simp,none,0,rfl,.inl rfl⟩,.of_below HB.out⟩
 ·have HS:=yq (Gu (zs:=x) HO.out h1000);have HH:=yq (And.intro hbg h2);clear hg h2 h3 h4 h5 hl0
  go_wp2_with (go_at_call 179;refine(HS.out).mono ?_;rintro e2 w2 ⟨rfl,hg2,hown2⟩)
  go_returns
  have hlen:(x.mergeSort fun x y=>decide (x<=y)).length=x.length:=by simp
  refine⟨some ⟨g,0,none⟩,cap,x.mergeSort fun x y=>decide (x<=y),by rw [hlen];rfl,by rw [hlen];exact HH.out.2,mergeSort_perm _ _,Gv x, ?_,.of_below (Jk HB.out hg2 HH.out.1)⟩;have ho:=hown2;rw [<-hlen]at ho;exact bR.of_row ho (by rw [hlen];exact h1000)
theorem SE{ss:List Int}{m j:Nat}:(ss.drop m).getD j 0=ss.getD (m+j) 0:=by
 rw [getD_eq_getElem?_getD,getElem?_drop,<-getD_eq_getElem?_getD]
theorem Gb{a b c d:Int}(ha:az a b=true)(hb:az c d=true):qi a b c d=(gY a b c d,0):=by
 unfold qi;rw [ha,hb];rfl
theorem F8{op:Int}{x y:Val}(ho:op=7\/op=8\/op=9\/op=10\/op=19\/op=20\/(11<=op/\op<=16))(hr:ag op [x.dim,y.dim]≠0):x.dim≠1/\y.dim≠1:=by
 have h9:op=9\/op=10\/((op=7\/op=8\/op=19\/op=20)\/(11<=op/\op<=16)):=by omega
 rcases h9 with rfl|rfl|h|h
 ·rw [oC]at hr
  (repeat' split at hr)<;>omega
 ·rw [oD]at hr
  (repeat' split at hr)<;>omega
 ·rw [mH _ _ h]at hr
  (repeat' split at hr)<;>omega
 ·rw [oF _ _ h]at hr
  (repeat' split at hr)<;>omega
theorem Val.ok_rng{x:Val}(h:x.ok=true):SG x:=by
 unfold SG I64;by_cases hd:x.dim=1
 ·unfold Val.ok at h;rw [if_pos hd,decide_eq_true_eq]at h;omega
 ·have:=aF (Val.ok_num h hd).2.2.2;omega
def ut(w:World)(v:Value)(l:List (ByteArray × Val)):Prop:=uQ.Lies l w.heap.size w v l.length
theorem ut.below{w w':World}{v:Value}{l:List (ByteArray × Val)}{n:Nat}(h:ut w v l)(hn:w.heap.size<=n)(hb:Below n w w'):ut w' v l:=by
 have h2:=uQ.Lies.below h (hb.mono hn);obtain⟨h0,a,cap,hv,h1⟩:=h2;exact⟨h0,a,cap,hv,h1.imp id fun⟨b,off,ha,hlt,hc⟩=>⟨b,off,ha,Nat.lt_of_lt_of_le hlt hb.size,hc⟩⟩
theorem ut.grows{w w':World}{v:Value}{l:List (ByteArray × Val)}(h:ut w v l)(hg:w.Grows w'):ut w' v l:=h.below (Nat.le_refl _) hg.below
def evC(v:Vw)(y se:Value):Array Value:=#[.int .i64 v.age,.int .i64 v.year,.int .i64 v.children,.int .i64 v.insured,.int .i64 v.worked,.int .i64 v.voluntary,.int .i64 v.service,.int .i64 v.equated,.int .i64 v.raising,.int .i64 v.resident,.int .i64 v.bn,.int .i64 v.bd,y,se]
structure MM(w:World)(E:Nat)(v:Vw)(y:Value)(env:List (ByteArray × Val))(se:Value):Prop where
 blk:w.heap[E]? =some (.cells (evC v y se) 99999 (0,0))
 yr:bR w y v.years
 st:ut w se env
theorem MM.lt{w:World}{E:Nat}{v:Vw}{y:Value}{env:List (ByteArray × Val)}{se:Value}(h:MM w E v y env se):E<w.heap.size:=(Array.getElem?_eq_some_iff.1 h.blk).1
theorem MM.grows{w w':World}{E:Nat}{v:Vw}{y:Value}{env:List (ByteArray × Val)}{se:Value}(h:MM w E v y env se)(hg:w.Grows w'):MM w' E v y env se:=
 ⟨(hg.below.block E h.lt).trans h.blk,h.yr.grows hg,h.st.grows hg⟩
open Go.RowKit Go.Shelf
attribute [local go_sem] Oper.semAt_some
structure pg(B:Nat)(s:ByteArray)(N:Nat)(x:Val)(W:World):Prop where
 nm:W.heap[B]? =some (.cells #[.string s] 9 (0,0))
 res:W.heap[B+1]? =some (.cells #[.int .i64 x.dim,.bool x.yes,.int .i64 x.n,.int .i64 x.d] 41 (0,0))
 size:N<=W.heap.size
theorem pg.own{B N:Nat}{s:ByteArray}{x:Val}{X Y:World}{row:Option Nat}(h:pg B s N x X)(hg:X.grownBy Y row)(hr:∀r,row=some r->∃o:Obj,X.heap[r]? =some o/\o.isCells=false):pg B s N x Y:=
 ⟨(grownBy_keeps_cells hg hr h.nm rfl).trans h.nm,(grownBy_keeps_cells hg hr h.res rfl).trans h.res,Nat.le_trans h.size hg.size⟩
theorem pg.alloc{B N:Nat}{s:ByteArray}{x:Val}{X:World}(h:pg B s N x X)(o:Obj):pg B s N x (X.alloc o):=h.own (World.grownBy_alloc X o none) (fun r e=>by cases e)
theorem pg.below{B N:Nat}{s:ByteArray}{x:Val}{X Y:World}(h:pg B s N x X)(hN:B+2<=X.heap.size)(hb:Below X.heap.size X Y):pg B s Y.heap.size x Y:=
 ⟨(hb.block _ zb).trans h.nm,(hb.block _ zb).trans h.res,Nat.le_refl _⟩
open Go.RowKit Go.ChangeShapes Go.WideShapes Go.Deep
section
variable {H : Type} {enc : TypeId × Value -> H} {w : World}
theorem cPk:(prog).cellsOf 132=3:=by kernel_rfl
theorem BC{fuel:Nat}{cs:List Value}{x:DataW H × List MemPlace}(h:DataW.trod enc prog w 0 (fun _=>true) true fuel 132 cs=some x) :
 ∃y:Int × Int × Int,cs= [.int .i64 y.1,.int .i64 y.2.1,.int .i64 y.2.2]:=by
 obtain⟨xs,n,_,hx,hl,hlen,hF⟩:=DataW.trod_struct underlying132 h;rw [cPk]at hl
 match cs,hl with
 | [c0,c1,c2],_=>
   have k0:=hF 0 _ rfl;have k1:=hF 1 _ rfl;have k2:=hF 2 _ rfl;try simp only [drop_zero,drop_succ_cons,take_succ_cons,take_zero]at k0 k1 k2
   match xs,hlen with
   | [y0,y1,y2],_=>
     obtain⟨n0,rfl,w0⟩:=cZ k0;obtain⟨n1,rfl,w1⟩:=cZ k1;obtain⟨n2,rfl,w2⟩:=cZ k2;exact⟨⟨n0,n1,n2⟩,rfl⟩
theorem AU.of_trod{fuel:Nat}{v:Value}{x:DataW H × List MemPlace}(h:DataW.trod enc prog w 0 (fun _=>true) true fuel 75 [v]=some x):∃l,AU w v l:=by
 rcases open_slice underlying75 h with ⟨hcs,_⟩|⟨a,len,cap,m,n,D,Pl,hcs,_,hl,hm,hmm,hx,hi⟩
 ·simp at hcs;subst hcs;exact⟨[],none,0,rfl,.inl rfl⟩
 ·simp at hcs;subst hcs;simp only [if_true]at hmm;subst hmm
  have each:∀i,i<len->∃y:Int × Int × Int,∀(j:Nat) (u:Value),[Value.int .i64 y.1,.int .i64 y.2.1,.int .i64 y.2.2][j]? =some u->w.cell? ((a.add (i*3)).add j)=some u:=by
   intro i hil;obtain⟨cs',hc,ht⟩:=hi i zb;obtain⟨y,rfl⟩:=BC ht;rw [cPk]at hc;obtain⟨_,hlen',hat⟩:=World.cells?_some hc;refine⟨y,fun j u hu=>?_⟩;have hj:j<3:=(List.getElem?_eq_some_iff.1 hu).1;rw [hat j zb];exact hu
  obtain⟨y,hy⟩:=choose_lt each;refine⟨(List.range len).map y,some a,m,by simp, ?_⟩;by_cases h0:len=0
  ·left;simp [h0]
  ·right;obtain⟨b,off,spot⟩:=a;have hc0:=hy 0 zb;have h1:=hc0 0 _ rfl
   have hspot:spot=none:=by
    have:=World.cell?_spot h1;unfold Addr.add at this
    split at this<;>simp_all
   subst hspot
   have hcell:∀i,i<len->∀(j:Nat) (u:Value),[Value.int .i64 (y i).1,.int .i64 (y i).2.1,.int .i64 (y i).2.2][j]? =some u->w.cell? ⟨b,off+i*3+j,none⟩=some u:=fun i hi j u hu=>by
    have:=hy i hi j u hu;simpa only [AO]using this
   refine⟨b,off,rfl,AA (hcell 0 zb 0 _ rfl),fun i hi=>?_⟩;have hi':i<len:=by simpa using hi
   have e:((List.range len).map y).getD i default=y i:=by simp [getD_eq_getElem?_getD,hi']
   rw [e];exact⟨hcell i hi' 0 _ rfl,hcell i hi' 1 _ rfl,hcell i hi' 2 _ rfl⟩
end
theorem KH{H:Type}{enc:TypeId × Value->H}{W:World}{v:Value}{d:DataW H}{p:List MemPlace}{r:Reach}{b0:Nat}(hv:Value.okWide prog W r b0 75 v)(h:DataW.Trod enc prog W 0 (fun _=>true) true 75 v d p):∃ps,AU W v ps:=by
 obtain⟨fuel,h⟩:=h;obtain⟨a,len,cap,rfl⟩:=okWide_slice underlying75 hv;exact AU.of_trod (v:=.slice a len cap) yZ
end Go.Proofs.YteildlpchhlchaaGreatDoor
