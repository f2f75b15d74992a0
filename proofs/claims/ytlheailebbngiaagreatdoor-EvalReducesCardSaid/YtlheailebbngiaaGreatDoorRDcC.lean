import Derived.Test.YtlheailebbngiaaGreatDoorRExpr
import Derived.Test.YtlheailebbngiaaGreatDoorREvP
import Derived.Test.YtlheailebbngiaaGreatDoorRShelf4
import Derived.Lib.IndexLaws
set_option linter.all false
set_option maxHeartbeats 16000000
set_option maxRecDepth 1000000
namespace Go.Proofs.YtlheailebbngiaaGreatDoor
open Tryz List
open Go.RowKit

theorem oq:∀(l:List UInt8) (c:UInt8),Lib.index l [c]=Lib.indexByte l c
 | [],c=>by simp [Lib.index,Lib.indexByte]
 |b::l,c=>by
  have ih:=oq l c
  have hp:([c]:List UInt8).isPrefixOf (b::l)=(b==c):=by
   simp only [isPrefixOf,Bool.and_true];exact BEq.comm
  unfold Lib.index Lib.indexByte;rw [hp,ih]
def pM(t:ByteArray):ByteArray:=⟨(Lib.cut t.data.toList [46]).1.toArray⟩
def nM(t:ByteArray):ByteArray:=⟨(Lib.cut t.data.toList [46]).2.1.toArray⟩
def oG(t:ByteArray):Bool:=(Lib.cut t.data.toList [46]).2.2
theorem KY{t:ByteArray}{o:Nat}(h:Lib.indexByte t.data.toList 46=o)(ho:o<t.size):pM t=t.extract 0 o/\nM t=t.extract (o+1) t.size/\oG t=true:=by
 have e:Lib.cut t.data.toList [46]=(t.data.toList.take o,t.data.toList.drop (o+1),true):=by
  unfold Lib.cut;rw [oq,h,if_pos ze];simp
 unfold pM nM oG;rw [e];refine⟨?_, ?_,rfl⟩
 ·apply ByteArray.ext;rw [ByteArray.data_extract];apply Array.ext';rw [Array.toList_extract];simp [List.extract]
 ·apply ByteArray.ext;rw [ByteArray.data_extract];apply Array.ext';rw [Array.toList_extract];simp only [List.extract];rw [take_of_length_le];rw [length_drop,Array.length_toList];exact Nat.le_refl _
theorem KZ{t:ByteArray}(h:Lib.indexByte t.data.toList 46= -1):pM t=t/\nM t=⟨#[]⟩/\oG t=false:=by
 have e:Lib.cut t.data.toList [46]=(t.data.toList,[],false):=by
  unfold Lib.cut;rw [oq,h,if_neg ze]
 unfold pM nM oG;rw [e];exact⟨by apply ByteArray.ext;simp,rfl,rfl⟩
theorem JQ(t:ByteArray)(w:World)(ht:t.size<=maxLen):Calls prog 221 #[.string t,.string ⟨#[46]⟩] w fun e w'=>e= .returned (.tuple #[.string (pM t),.string (nM t),.bool (oG t)])/\w.Grows w':=by
 unfold maxLen at ht;have HI:Hid _:=zh (fun w=>stringslite_Index_one t 46 w);have hge:=Lib.indexByte_ge t.data.toList 46;by_cases h:Lib.indexByte t.data.toList 46= -1
 ·have HC:=zh (KZ h);rw [h]at HI;clear h hge
  go_enter func221,ntmps221
  go_wp2_with ((go_at_call 227;(with_reducible refine(HI.out _).mono ?_);rintro e w' ⟨rfl,rfl⟩))
  go_returns
  exact⟨by rw [HC.out.1,HC.out.2.1,HC.out.2.2];rfl,.of_below ag⟩
 ·obtain⟨o,ho⟩:∃o:Nat,Lib.indexByte t.data.toList 46=o:=⟨(Lib.indexByte t.data.toList 46).toNat,by omega⟩
  have hlt:o<t.size:=by
   have:=(Lib.indexByte_some ho).1;have h2:=(List.getElem?_eq_some_iff.1 this).1;simpa using h2
  have HC:=zh (KY ho hlt);rw [ho]at HI;have h1:(o:Int)+1<=t.size:=by omega
  have h2:¬(o:Int)<0:=by omega
  have h3:(o:Int)<=t.size:=by omega
  have e1:(t.extract 0 (o:Int).toNat)=t.extract 0 o:=by rw [Int.toNat_natCast]
  have e2:t.extract ((o:Int)+1).toNat t.size=t.extract (o+1) t.size:=by congr 1
  have E:=zh (And.intro e1 e2);clear e1 e2 h hge ho
  go_enter func221,ntmps221
  go_wp2_with ((go_at_call 227;(with_reducible refine(HI.out _).mono ?_);rintro e w' ⟨rfl,rfl⟩))
  go_quiet (fail)
  go_wp2_with fail
  go_returns
  exact⟨by rw [HC.out.1,HC.out.2.1,HC.out.2.2];first|rfl|(simp;done),.of_below ag⟩
theorem OW(t:ByteArray)(w:World)(ht:t.size<=maxLen):Calls prog 216 #[.string t,.string ⟨#[46]⟩] w fun e w'=>e= .returned (.tuple #[.string (pM t),.string (nM t),.bool (oG t)])/\w.Grows w':=by
 have HI:Hid _:=zh (fun w=>JQ t w ht);generalize pM t=a at *;generalize nM t=b at *;generalize oG t=c at *
 go_enter func216,ntmps216
 go_wp2_with ((go_at_call 221;(with_reducible refine(HI.out _).mono ?_);rintro e w' ⟨rfl,bs,dr,rfl⟩))
 exact rz9

def rM(a b:ByteArray)(pt:Bool):Bool:=pK a.data.toList b.data.toList pt
def Qo(t:ByteArray)(m:Int):Option (Int × Int × Int):=if rM (pM t) (nM t) (oG t)=true then Iw (pM t) (nM t) m else none
theorem NT(a b:ByteArray)(pt:Bool):rM a b pt=(decide (1<=a.size)&&decide (a.size<=9)&&!(decide (1<a.size)&&decide (a.data.toList.head? =some 48))&&!(pt&&(decide (b.size<1) || decide (4<b.size)))):=by
 unfold rM pK;have h1:a.data.toList.length=a.size:=by simp
 have h2:b.data.toList.length=b.size:=by simp
 rw [h1,h2]
theorem head_eq{a:ByteArray}(h:0<a.size):(a.data.toList.head? =some 48)↔((a[0]'h).toNat:Int)=48:=by
 have h2:0<a.data.toList.length:=by simpa using h
 rw [head?_eq_getElem?,getElem?_eq_getElem h2];have e:a.data.toList[0]=a[0]'h:=by simp;rfl
 rw [e];constructor
 ·intro k;simp only [Option.some.injEq]at k;rw [k];rfl
 ·intro k
  congr 1
  apply UInt8.toNat_inj.1;have:(48:UInt8).toNat=48:=rfl;omega
def Aa(a b:ByteArray)(pt:Bool)(m:Int):Option (Int × Int × Int):=if rM a b pt=true then Iw a b m else none
theorem K8{t:ByteArray}(h:oG t=false):(nM t).size=0:=by
 unfold oG Lib.cut at h;unfold nM Lib.cut
 split at h
 ·simp at h
 ·rename_i hc;rw [if_neg hc];rfl
theorem Ov(t a b:ByteArray)(pt:Bool)(m:Int)(w:World)(hpt:pt=false->b.size=0)
 (HC:Hid (∀w,Calls prog 216 #[.string t,.string ⟨#[46]⟩] w fun e w'=>e= .returned (.tuple #[.string a,.string b,.bool pt])/\w.Grows w'))
 (u1 u4 u5 u6 u7 u8 u9 u10 u11 u12 u13 u14 u15 u16 u17 u18 u19 u20 u21 u22 u23 u24 u25 u26 u27 u28 u29 u30 u31 u32 u33 u34 u35 u36 u37 u38 u39 u40 u41 u42 u43 u44 u45 u46 u47 u48 u49 u50 u51 u52 u53 u54 u55 u56 u57 u58 u59 u60 u61 u62 u63 u64 u65 u66 u67 u68 u69 u70 u71 u72 u73 u74 u75 u76 u77 u78 u79 u80 u81 u82 u83 u84 u85 u86 u87 u88 u89 u90 u91 u92 u93 u94 u95 u96 u97 u98 u99 u100 u101 u102 u103 u104 u105 u106 u107 u108 u109 u110 u111 u112 u113 u114 u115 u116 u117 u118 u119 u120 u121 u122 u123 u124 u125 u126 u127 u128 u129 u130 u131 u132 u133 u134 u135 u136 u137 u138 u139 u140 u141:Value) :
 Code.wp prog (tlD (tlD (tlD (f212.body.getD .skip)))) (bodyPost prog f212 (fun e w'=>e= .returned (mM (Aa a b pt m))/\w.Grows w')) {tmps:=#[.string t,u1,.pointer (some ⟨w.heap.size,0,none⟩),.int .i64 m,u4,u5,u6,u7,u8,u9,u10,u11,u12,u13,u14,u15,u16,u17,u18,u19,u20,u21,u22,u23,u24,u25,u26,u27,u28,u29,u30,u31,u32,u33,u34,u35,u36,u37,u38,u39,u40,u41,u42,u43,u44,u45,u46,u47,u48,u49,u50,u51,u52,u53,u54,u55,u56,u57,u58,u59,u60,u61,u62,u63,u64,u65,u66,u67,u68,u69,u70,u71,u72,u73,u74,u75,u76,u77,u78,u79,u80,u81,u82,u83,u84,u85,u86,u87,u88,u89,u90,u91,u92,u93,u94,u95,u96,u97,u98,u99,u100,u101,u102,u103,u104,u105,u106,u107,u108,u109,u110,u111,u112,u113,u114,u115,u116,u117,u118,u119,u120,u121,u122,u123,u124,u125,u126,u127,u128,u129,u130,u131,u132,u133,u134,u135,u136,u137,u138,u139,u140,u141],defers:=[]} (w.alloc (.cells #[.int .i64 0,.int .i64 0] 23)):=by
 have hf:=NT a b pt;have hbad (h:rM a b pt=false):Aa a b pt m=none:=by unfold Aa;rw [h];rfl
 have hgood (h:rM a b pt=true):Aa a b pt m=Iw a b m:=by unfold Aa;rw [h];rfl
 conv=>arg 2;whnf
 apply wp_seq_k;intro K1 hK1;have HK1:=zh hK1;clear hK1
 go_wp2_with ((go_at_call 216;(with_reducible refine(HC.out _).mono ?_);rintro e w' ⟨rfl,bs,dr,rfl⟩))
 clear HC;by_cases s1:1<=a.size
 case neg=>
  have HX:=zh (hbad (by rw [hf,decide_eq_false s1];rfl));have z1:(a.size:Int)<1:=by omega
  clear hf hbad hgood;refine HK1.out _ _ ?_;apply wp_seq_k;intro K2 hK2;have HK2:=zh hK2;clear hK2
  go_wp2_with fail
  go_returns
  exact⟨by rw [HX.out];rfl,.of_below ag⟩
 by_cases s2:a.size<=9
 case neg=>
  have HX:=zh (hbad (by rw [hf,decide_eq_false s2,Bool.and_false];rfl));have z1:(9:Int)<(a.size:Int):=by omega
  clear hf hbad hgood;refine HK1.out _ _ ?_;apply wp_seq_k;intro K2 hK2;have HK2:=zh hK2;clear hK2
  go_wp2_with fail
  go_returns
  exact⟨by rw [HX.out];rfl,.of_below ag⟩
 have h0:0<a.size:=by omega
 have hh:=head_eq h0
 have key (hz:(decide (1<a.size)&&decide (a.data.toList.head? =some 48))=false):rM a b pt=!(pt&&(decide (b.size<1) || decide (4<b.size))):=by
  rw [hf,decide_eq_true s1,decide_eq_true s2,hz];rfl
 by_cases s3:1<a.size
 ·by_cases s4:((a[0]'h0).toNat:Int)=48
  ·have HX:=zh (hbad (by rw [hf,decide_eq_true s3,decide_eq_true (hh.2 s4)];simp));have z1:(1:Int)<(a.size:Int):=by omega
   have z2:(a.size:Int)<=9:=by omega
   clear hf hbad hgood key hh;refine HK1.out _ _ ?_;apply wp_seq_k;intro K2 hK2;have HK2:=zh hK2;clear hK2
   go_wp2_with fail
   go_returns
   exact⟨by rw [HX.out];rfl,.of_below ag⟩
  ·have hz:(decide (1<a.size)&&decide (a.data.toList.head? =some 48))=false:=by rw [decide_eq_false (fun h=>s4 (hh.1 h)),Bool.and_false]
   have hk:=key hz;have s7:(((a[0]'h0).toNat:Int)==48)=false:=by simpa using s4
   have z1:(1:Int)<(a.size:Int):=by omega
   have z2:(a.size:Int)<=9:=by omega
   clear hf key hh hz;cases pt
   ·have HX:=zh (hgood (by rw [hk];rfl));have hb0:=hpt rfl;clear hk hbad hgood hpt;refine HK1.out _ _ ?_;apply wp_seq_k;intro K2 hK2;have HK2:=zh hK2;clear hK2
    go_wp2_with fail
    refine HK2.out _ _ ?_;rw [HX.out];exact yZ a b m w bs _ ze ze _ _ _ _ _ _ _ _ _ _ _ _ _ _ _ _ _ _ _ _ _ _ _ _ _ _ _ _ _ _ _ _ _ _ _ _ _ _ _ _ _ _ _ _ _ _ _ _ _ _ _ _ _ _ _ _ _ _ _ _ _ _ _ _ _ _ _ _ _ _ _ _ _ _ _ _ _ _ _ _ _ _ _ _ _ _ _ _ _ _ _ _ _ _ _ _ _ _ _ _ _ _ _ _ _ _ _ _ _ _ _ _ _ _ _ _ _ _ _ _ _ _ _ _ _ _ _ _ _ _ _ _ _ _ _ _ _ _
   ·clear hpt;by_cases s5:b.size<1
    ·have HX:=zh (hbad (by rw [hk,decide_eq_true s5];rfl));have z3:(b.size:Int)<1:=by omega
     clear hk hbad hgood;refine HK1.out _ _ ?_;apply wp_seq_k;intro K2 hK2;have HK2:=zh hK2;clear hK2
     go_wp2_with fail
     go_returns
     exact⟨by rw [HX.out];rfl,.of_below ag⟩
    ·by_cases s6:4<b.size
     ·have HX:=zh (hbad (by rw [hk,decide_eq_true s6];simp));have z3:(4:Int)<(b.size:Int):=by omega
      clear hk hbad hgood;refine HK1.out _ _ ?_;apply wp_seq_k;intro K2 hK2;have HK2:=zh hK2;clear hK2
      go_wp2_with fail
      go_returns
      exact⟨by rw [HX.out];rfl,.of_below ag⟩
     ·have HX:=zh (hgood (by rw [hk,decide_eq_false s5,decide_eq_false s6];rfl));have z3:(b.size:Int)<=4:=by omega
      have z4:(1:Int)<=(b.size:Int):=by omega
      clear hk hbad hgood;refine HK1.out _ _ ?_;apply wp_seq_k;intro K2 hK2;have HK2:=zh hK2;clear hK2
      go_wp2_with fail
      refine HK2.out _ _ ?_;rw [HX.out];exact yZ a b m w bs _ ze ze _ _ _ _ _ _ _ _ _ _ _ _ _ _ _ _ _ _ _ _ _ _ _ _ _ _ _ _ _ _ _ _ _ _ _ _ _ _ _ _ _ _ _ _ _ _ _ _ _ _ _ _ _ _ _ _ _ _ _ _ _ _ _ _ _ _ _ _ _ _ _ _ _ _ _ _ _ _ _ _ _ _ _ _ _ _ _ _ _ _ _ _ _ _ _ _ _ _ _ _ _ _ _ _ _ _ _ _ _ _ _ _ _ _ _ _ _ _ _ _ _ _ _ _ _ _ _ _ _ _ _ _ _ _ _ _ _ _
 ·have hz:(decide (1<a.size)&&decide (a.data.toList.head? =some 48))=false:=by rw [decide_eq_false s3,Bool.false_and]
  have hk:=key hz;have z1:(a.size:Int)<=1:=by omega
  have z2:(1:Int)<=(a.size:Int):=by omega
  clear hf key hh hz;cases pt
  ·have HX:=zh (hgood (by rw [hk];rfl));have hb0:=hpt rfl;clear hk hbad hgood hpt;refine HK1.out _ _ ?_;apply wp_seq_k;intro K2 hK2;have HK2:=zh hK2;clear hK2
   go_wp2_with fail
   refine HK2.out _ _ ?_;rw [HX.out];exact yZ a b m w bs _ ze ze _ _ _ _ _ _ _ _ _ _ _ _ _ _ _ _ _ _ _ _ _ _ _ _ _ _ _ _ _ _ _ _ _ _ _ _ _ _ _ _ _ _ _ _ _ _ _ _ _ _ _ _ _ _ _ _ _ _ _ _ _ _ _ _ _ _ _ _ _ _ _ _ _ _ _ _ _ _ _ _ _ _ _ _ _ _ _ _ _ _ _ _ _ _ _ _ _ _ _ _ _ _ _ _ _ _ _ _ _ _ _ _ _ _ _ _ _ _ _ _ _ _ _ _ _ _ _ _ _ _ _ _ _ _ _ _ _ _
  ·clear hpt;by_cases s5:b.size<1
   ·have HX:=zh (hbad (by rw [hk,decide_eq_true s5];rfl));have z3:(b.size:Int)<1:=by omega
    clear hk hbad hgood;refine HK1.out _ _ ?_;apply wp_seq_k;intro K2 hK2;have HK2:=zh hK2;clear hK2
    go_wp2_with fail
    go_returns
    exact⟨by rw [HX.out];rfl,.of_below ag⟩
   ·by_cases s6:4<b.size
    ·have HX:=zh (hbad (by rw [hk,decide_eq_true s6];simp));have z3:(4:Int)<(b.size:Int):=by omega
     clear hk hbad hgood;refine HK1.out _ _ ?_;apply wp_seq_k;intro K2 hK2;have HK2:=zh hK2;clear hK2
     go_wp2_with fail
     go_returns
     exact⟨by rw [HX.out];rfl,.of_below ag⟩
    ·have HX:=zh (hgood (by rw [hk,decide_eq_false s5,decide_eq_false s6];rfl));have z3:(b.size:Int)<=4:=by omega
     have z4:(1:Int)<=(b.size:Int):=by omega
     clear hk hbad hgood;refine HK1.out _ _ ?_;apply wp_seq_k;intro K2 hK2;have HK2:=zh hK2;clear hK2
     go_wp2_with fail
     refine HK2.out _ _ ?_;rw [HX.out];exact yZ a b m w bs _ ze ze _ _ _ _ _ _ _ _ _ _ _ _ _ _ _ _ _ _ _ _ _ _ _ _ _ _ _ _ _ _ _ _ _ _ _ _ _ _ _ _ _ _ _ _ _ _ _ _ _ _ _ _ _ _ _ _ _ _ _ _ _ _ _ _ _ _ _ _ _ _ _ _ _ _ _ _ _ _ _ _ _ _ _ _ _ _ _ _ _ _ _ _ _ _ _ _ _ _ _ _ _ _ _ _ _ _ _ _ _ _ _ _ _ _ _ _ _ _ _ _ _ _ _ _ _ _ _ _ _ _ _ _ _ _ _ _ _ _
theorem Oy(t:ByteArray)(m:Int):Qo t m=Ox (Lib.cut t.data.toList [46]).1 (Lib.cut t.data.toList [46]).2.1 (Lib.cut t.data.toList [46]).2.2 m:=by
 unfold Qo rM Iw Ox pM nM oG;simp [ByteArray.size]
theorem oV{s t:ByteArray}{m:Int}(h:kg s.data.toList=(t.data.toList,m)):qO s.data.toList=Qo t m:=by
 unfold qO;rw [h,Oy]
theorem NM{s:ByteArray}{n:Nat}(h:s.size=n+1):s.data.toList.getLast? =some (s[n]' ze):=by
 have h3:s.data.toList.length=s.size:=by simp
 have h2:s.data.toList≠[]:=by
  intro e;rw [e]at h3;simp at h3;omega
 rw [getLast?_eq_some_getLast h2,getLast_eq_getElem]
 congr 1
 have e:s.data.toList.length-1=n:=by omega
 simp only [e];rfl
theorem Ij{s:ByteArray}{n:Nat}(h:s.size=n+1):(s.extract 0 n).data.toList=s.data.toList.dropLast:=by
 rw [ByteArray.data_extract,Array.toList_extract];have h3:s.data.toList.length=s.size:=by simp
 simp only [List.extract,drop_zero,Nat.sub_zero,dropLast_eq_take]
 congr 1
 omega
theorem lG(s:ByteArray)(w:World)(hs:s.size<=maxLen):Calls prog 212 #[.string s] w fun e w'=>e= .returned (mM (qO s.data.toList))/\w.Grows w':=by
 by_cases h0:0<s.size
 ·obtain⟨n,hn⟩:∃n,s.size=n+1:=⟨s.size-1,by omega⟩;have hl:=NM hn;have hd:=Ij hn;have hm:s.size<=9223372036854775807:=by unfold maxLen at hs;omega
  have he:(s.extract 0 n).size<=maxLen:=by rw [ByteArray.size_extract];omega
  have hlt:n<s.size:=by omega
  obtain⟨c,hc⟩:∃c,s[n]'hlt=c:=⟨_,rfl⟩;rw [hc]at hl;have hN:(s.size:Int)=(n:Int)+1:=by omega
  by_cases c3:c=100
  ·have HF:Hid (qO s.data.toList=Aa (pM (s.extract 0 n)) (nM (s.extract 0 n)) (oG (s.extract 0 n)) 3):=zh (oV (by unfold kg;rw [hl,c3,if_pos rfl,hd]));have HE:=zh he;have q1:((c.toNat:Int)==100)=true:=by rw [c3];rfl
   clear he hl hd c3 hs;exact rz8
  ·by_cases c4:c=109
   focus
    have HF:Hid (qO s.data.toList=Aa (pM (s.extract 0 n)) (nM (s.extract 0 n)) (oG (s.extract 0 n)) 4):=zh (oV (by unfold kg;rw [hl,c4,if_neg zo,if_pos rfl,hd]));have HE:=zh he;have q1:((c.toNat:Int)==100)=false:=by rw [c4];rfl
    have q2:((c.toNat:Int)==109)=true:=by rw [c4];rfl
   rotate_left
   focus
    have HF:Hid (qO s.data.toList=Aa (pM s) (nM s) (oG s) 2):=zh (oV (by unfold kg;rw [hl,if_neg (by simpa using c3),if_neg (by simpa using c4)]));have HE:=zh hs
    have q1:((c.toNat:Int)==100)=false:=by
     rw [beq_eq_false_iff_ne];intro k;exact c3 (UInt8.toNat_inj.1 (by have:(100:UInt8).toNat=100:=rfl;omega))
    have q2:((c.toNat:Int)==109)=false:=by
     rw [beq_eq_false_iff_ne];intro k;exact c4 (UInt8.toNat_inj.1 (by have:(109:UInt8).toNat=109:=rfl;omega))
   rotate_left
   all_goals
    clear he hl hd c3 c4 hs;exact rz8
 ·have h1:s.data.toList= []:=by
   have h3:s.data.toList.length=s.size:=by simp
   exact eq_nil_of_length_eq_zero ze
  have HF:Hid (qO s.data.toList=Aa (pM s) (nM s) (oG s) 2):=zh (oV (by rw [h1];rfl));have HE:=zh hs;have hN:(s.size:Int)=0:=by omega
  clear h1 hs;exact rz8
def bK(w:World)(v:Value)(l:List Int):Prop:=
 l.length<=1000/\∃a cap,v= .slice a l.length cap/\(l.length=0\/∃b off,a=some ⟨b,off,none⟩/\b<w.heap.size/\∀i,i<l.length->w.cell? ⟨b,off+i,none⟩=some (.int .i64 (l.getD i 0)))
theorem bK.below{w w':World}{v:Value}{l:List Int}{n:Nat}(h:bK w v l)(hn:w.heap.size<=n)(hb:Below n w w'):bK w' v l:=by
 obtain⟨h0,a,cap,hv,h1⟩:=h;refine⟨h0,a,cap,hv,h1.imp id ?_⟩;rintro⟨b,off,ha,hlt,hc⟩;refine⟨b,off,ha,Nat.lt_of_lt_of_le hlt hb.size,fun i hi=>?_⟩;rw [hb.cell (p:=⟨b,off+i,none⟩) (Nat.lt_of_lt_of_le hlt hn)];exact hc i hi
theorem bK.grows{w w':World}{v:Value}{l:List Int}(h:bK w v l)(hg:w.Grows w'):bK w' v l:=h.below (Nat.le_refl _) hg.below
theorem bK.grow{w:World}{v:Value}{l:List Int}(h:bK w v l)(bs:Array Obj)(d:Nat):bK (w.grow bs d) v l:=h.grows ⟨bs,d,rfl⟩
theorem bK.alloc{w:World}{v:Value}{l:List Int}(h:bK w v l)(o:Obj):bK (w.alloc o) v l:=h.below (Nat.le_refl _) ((Below.refl _ _).alloc (Nat.le_refl _) _)
theorem qb(l:List Int):(List.range l.length).any (fun k=>!decide (0<=l.getD k 0/\l.getD k 0<=1000000000000))=!l.all fun x=>decide (0<=x/\x<=1000000000000):=by
 induction l with
 |nil=>rfl
 |cons p r ih=>
  rw [length_cons,range_succ_eq_map,any_cons,any_map,all_cons,Bool.not_and,<-ih];rfl
theorem FR{l:List Int}{k:Nat}(hk:k<l.length)(hb:¬(0<=l.getD k 0/\l.getD k 0<=1000000000000)):bI l=false:=by
 unfold bI
 have:(l.all fun x=>decide (0<=x/\x<=1000000000000))=false:=by
  have h:=qb l;rw [show(List.range l.length).any (fun k=>!decide (0<=l.getD k 0/\l.getD k 0<=1000000000000))=true from any_eq_true.2 ⟨k,mem_range.2 hk,by rw [decide_eq_false hb];rfl⟩]at h;simpa using h.symm
 rw [this,Bool.and_false]
theorem CW{l:List Int}(hn:l.length<=200)(hg:∀k,k<l.length->0<=l.getD k 0/\l.getD k 0<=1000000000000):bI l=true:=by
 unfold bI;have h:=qb l;rw [show(List.range l.length).any (fun k=>!decide (0<=l.getD k 0/\l.getD k 0<=1000000000000))=false from any_eq_false.2 fun k hk=>by rw [decide_eq_true (hg k (mem_range.1 hk))];simp]at h;rw [decide_eq_true hn,Bool.true_and];simpa using h.symm
def Pb(g:FuncId)(lb:Array Value)(l:List Int)(p:Nat->Bool)(w:World):Prop:=
 ∀k,k<l.length->∀w',w.Grows w'->Calls prog g (#[.int .i64 (l.getD k 0)]++lb) w' fun r w''=>r= .returned (.bool (p k))/\w'.Grows w''
theorem Kt(g:FuncId)(lb:Array Value)(eg:∀args w,(callFunc g args).run prog w= .ok (.enter g args) w)(l:List Int)(v:Value)(p:Nat->Bool)(w:World)(h:bK w v l)(hp:Hid (Pb g lb l p w)) :
 Calls prog 129 #[v,.func (.func g) #[] lb] w fun r w'=>(∃z,r= .returned (.int .i64 z)/\CQ l.length p z)/\w.Grows w':=by
 obtain⟨hlen,a,cap,rfl,hc⟩:=h;have Hc:=zh hc;clear hc
 go_enter func129,ntmps129
 go_wp2_with fail
 go_loopw [5,8] (fun _ v8 wr=>∃k:Nat,k<=l.length/\v8= .int .i64 k/\Hid (∀j,j<k->p j=false)/\w.Grows wr) (fun _ v8 _=>l.length-(intOf v8).toNat)
 case atStart=>exact⟨0,by omega,rfl,zh (fun j hj=>by omega),.refl _⟩
 case round=>
  obtain⟨k,hk,rfl,hno,hgr⟩:=hrel;have HG:=zh hgr;by_cases hlt2:k<l.length
  ·rcases Hc.out with h0|⟨b,off,rfl,hbw,hx⟩
   ·omega
   ·have y0:wr.cell? ⟨b,off+k,none⟩=some (.int .i64 (l.getD k 0)):=by rw [hgr.below.cell (p:=⟨b,off+k,none⟩) hbw];exact hx k hlt2
    clear hx;have d1:(k:Int)<(l.length:Int):=by omega
    have hcall:=hp.out k hlt2 _ hgr;generalize l.getD k 0=dk at *;have HLT:=zh hlt2;clear hgr
    cases hq:p k with
    |true=>
     rw [hq]at hcall;have HQ:=zh hq;clear hq;have HCL:=zh hcall;clear hcall
     go_wp2_with (go_at_fn g;refine HCL.out.mono ?_;rintro e' w' ⟨rfl,hg2⟩;have HG2:=zh hg2;clear hg2)
     go_returns
     exact⟨⟨_,rfl,.inr ⟨k,HLT.out,rfl,HQ.out⟩⟩,World.Grows.trans HG.out HG2.out⟩
    |false=>
     rw [hq]at hcall;have HQ:=zh hq;clear hq;have HCL:=zh hcall;clear hcall
     go_wp2_with (go_at_fn g;refine HCL.out.mono ?_;rintro e' w' ⟨rfl,hg2⟩;have HG2:=zh hg2;clear hg2)
     go_roundw
     case rel=>exact⟨k+1,by omega,by go_num,zh (fun j hj=>by
      by_cases ej:j=k
      ·subst ej;exact HQ.out
      ·exact hno.out j ze),World.Grows.trans HG.out HG2.out⟩
     case measure=>simp [intOf];omega
  ·obtain rfl:k=l.length:=by omega
   clear hgr
   go_wp2_with fail
   go_returns
   exact⟨⟨_,rfl,.inl ⟨rfl,hno.out⟩⟩,HG.out⟩
theorem vR(g:FuncId)(lb:Array Value)(eg:∀args w,(callFunc g args).run prog w= .ok (.enter g args) w)(l:List Int)(v:Value)(p:Nat->Bool)(w:World)(h:bK w v l)(hp:Hid (Pb g lb l p w)) :
 Calls prog 92 #[v,.func (.func g) #[] lb] w fun r w'=>r= .returned (.bool ((List.range l.length).any p))/\w.Grows w':=by
 have HI:=zh (Kt g lb eg l v p w h hp);obtain⟨-,a,cap,rfl,-⟩:=h;clear hp;generalize hX:(List.range l.length).any p=X;have HX:=zh hX;clear hX
 go_enter func92,ntmps92
 go_wp2_with (go_at_call 129;refine HI.out.mono ?_;rintro e' w' ⟨⟨z,rfl,hz⟩,bs2,d2,rfl⟩;have HZ:=zh hz.any;clear hz)
 go_returns
 exact⟨au zW,.of_below ag⟩
theorem IM:∀args w,(callFunc 93 args).run prog w= .ok (.enter 93 args) w:=enters_of func93 zf rfl
theorem Lh(d:Int)(w:World):Calls prog 93 #[.int .i64 d] w fun r w'=>r= .returned (.bool (!decide (0<=d/\d<=1000000000000)))/\w.Grows w':=by
 by_cases h1:d<0
 ·go_enter func93,ntmps93
  exact Gf
 ·by_cases h2:d > 1000000000000
  ·go_enter func93,ntmps93
   exact Gf
  ·go_enter func93,ntmps93
   exact Gf
theorem gX(l:List Int)(v:Value)(w:World)(h:bK w v l):Calls prog 54 #[v] w fun r w'=>r= .returned (.bool (bI l))/\w.Grows w':=by
 have HV:=zh h
 have HCB:Hid (∀w',w.Grows w'->Calls prog 92 #[v,.func (.func 93) #[] #[]] w' fun r w''=>r= .returned (.bool (!l.all fun x=>decide (0<=x/\x<=1000000000000)))/\w'.Grows w''):=
  zh (fun w' hg=>by
   have:=vR 93 #[] IM l v (fun k=>!decide (0<=l.getD k 0/\l.getD k 0<=1000000000000)) w' (HV.out.grows hg) (zh (fun k hk w2 h2=>Lh _ w2));rw [qb]at this
   exact this)
 obtain⟨h1000,a,cap,rfl,-⟩:=h;have HF:Hid (bI l=(decide (l.length<=200)&&l.all fun x=>decide (0<=x/\x<=1000000000000))):=zh rfl;generalize(l.all fun x=>decide (0<=x/\x<=1000000000000))=Q at HCB HF;by_cases hn:(l.length:Int)<=200
 ·cases Q
  all_goals
   go_enter func54,ntmps54
   go_wp2_with (go_at_call 92;refine(HCB.out _ (.of_below ag)).mono ?_;rintro e' w' ⟨rfl,bs2,d2,rfl⟩)
   go_returns
   exact⟨au (by rw [HF.out];simp;try omega),.of_below ag⟩
 ·go_enter func54,ntmps54
  go_wp2_with fail
  go_returns
  exact⟨au (by rw [HF.out,decide_eq_false ze];rfl),.of_below ag⟩
theorem mP(l:List Int)(v:Value)(w:World)(h:bK w v l):Calls prog 56 #[v] w fun r w'=>r= .returned (.bool (bI l))/\w=w':=by
 obtain⟨h1000,a,cap,rfl,hc⟩:=h;have Hc:=zh hc;clear hc;have HBAD:=zh (fun k hk hb=>FR (l:=l) (k:=k) hk hb);have HGOOD:=zh (fun hn hg=>CW (l:=l) hn hg);by_cases hn:(l.length:Int)<=200
 ·go_enter func56,ntmps56
  go_wp2_with fail
  go_loopw [3] (fun v3 wr=>∃k:Nat,k<=l.length/\v3= .int .i64 k/\Hid (∀j,j<k->0<=l.getD j 0/\l.getD j 0<=1000000000000)/\w=wr) (fun v3 _=>l.length-(intOf v3).toNat)
  case atStart=>exact⟨0,by omega,rfl,zh (fun j hj=>by omega),rfl⟩
  case round=>
   obtain⟨k,hk,rfl,hno,rfl⟩:=hrel;by_cases hlt:k<l.length
   ·rcases Hc.out with h0|⟨b,off,rfl,hbw,hx⟩
    ·omega
    have x0:=hx k hlt;have d1:(k:Int)<(l.length:Int):=by omega
    have HKL:=zh hlt;clear hx hlt;obtain⟨dk,hdk⟩:∃dk,l.getD k 0=dk:=⟨_,rfl⟩;rw [hdk]at x0;have HDK:=zh hdk;clear hdk;by_cases h1:dk<0
    ·exact QG
    ·by_cases h2:dk > 1000000000000
     ·exact QG
     ·go_wp2_with fail
      go_roundw
      case rel=>exact⟨k+1,HKL.out,by go_num,zh (fun j hj=>by
       by_cases ej:j=k
       ·subst ej;rw [HDK.out];omega
       ·exact hno.out j ze),zF⟩
      case measure=>simp [intOf];have:=HKL.out;omega
   ·obtain rfl:k=l.length:=by omega
    go_wp2_with fail
    go_returns
    exact⟨au (HGOOD.out ze hno.out).symm,zF⟩
 ·go_enter func56,ntmps56
  go_wp2_with fail
  go_returns
  exact⟨au (by unfold bI;rw [decide_eq_false ze];rfl),zF⟩
open Go.RowKit Go.Shelf Go.Sort Go.Lib
attribute [local go_sem] Oper.semAt_some
def qU(n₀:Nat)(W:World)(v:Value)(l:List Int):Prop:=
 l.length<=1000/\∃a cap,v= .slice a l.length cap/\(l.length=0\/∃b off,a=some ⟨b,off,none⟩/\b<n₀/\∀i,i<l.length->W.cell? ⟨b,off+i,none⟩=some (.int .i64 (l.getD i 0)))
theorem qU.below{n₀:Nat}{W W':World}{v:Value}{l:List Int}(h:qU n₀ W v l)(hb:Below n₀ W W'):qU n₀ W' v l:=by
 obtain⟨h0,a,cap,hv,h1⟩:=h;refine⟨h0,a,cap,hv,h1.imp id ?_⟩;rintro⟨b,off,ha,hlt,hc⟩;exact⟨b,off,ha,hlt,fun i hi=>(hb.cell (p:=⟨b,off+i,none⟩) hlt).trans (hc i hi)⟩
theorem bK.lies{w:World}{v:Value}{l:List Int}(h:bK w v l):qU w.heap.size w v l:=h
theorem Dc(l:List Int)(k:Nat)(hk:k<l.length):l.take (k+1)=l.take k++[l.getD k 0]:=by
 exact Pv
theorem Jt(F:Fence)(n:Nat)(hf:F.fn 98)(hro:F.round=none)(hn:1<=n)(l Bs n₀:Nat)(x:List Int)(v:Value)(J Jx:List Int->World->Prop)
 (hY:∀pre (i:Int) W,J pre W->pre.length<x.length->YieldAt F (n-1) prog l #[.int .i64 i] W fun e W'=>
  (e= .returned (.bool true)/\J (pre++[i]) W'/\Below n₀ W W')\/(e= .returned (.bool false)/\Jx (pre++[i]) W'))
 (W:World) (hBs:W.cell? ⟨Bs,0,none⟩=some v) (hBl:Bs<n₀) (hL:qU n₀ W v x) (h0:J [] W) :
 CallsIn F n prog 98 #[.func (.yield l) #[] #[],.pointer (some ⟨Bs,0,none⟩)] W fun e W'=>(∃v,e= .returned v)/\
  ((∃ys,ys=x/\J ys W')\/(∃pre,(∃k,k<x.length/\pre=x.take (k+1))/\Jx pre W')):=by
 have HL:=zh hL;obtain⟨h1000,a,cap,rfl,-⟩:=hL;refine callsIn_of_wp func98 rfl hf ?_ hro;simp only [ntmps98,size_toArray,length_cons,length_nil,Nat.reduceAdd,Nat.reduceSub,Array.replicate_succ,Array.replicate_zero,push_toArray,append_toArray,nil_append,cons_append]
 gi_wp2
 gi_loopw [7] (fun vi wr=>∃k:Nat,k<=x.length/\vi= .int .i64 k/\J (x.take k) wr/\Below n₀ W wr) (fun vi _=>x.length-(intOf vi).toNat)
 case atStart=>exact⟨0,Nat.zero_le _,rfl,h0,Below.refl _ _⟩
 case round=>
  obtain⟨k,hk,rfl,hJs,hnx⟩:=hrel;by_cases hlt:k<x.length
  ·have hLr:=HL.out.below hnx;obtain⟨-,a',cap',hv,hx⟩:=hLr;simp only [Value.slice.injEq,true_and]at hv;obtain⟨rfl,rfl⟩:=hv;rcases hx with hx|⟨b,off,rfl,hb,hx⟩
   ·omega
   have q0:=hx k hlt;obtain⟨fn,tmps,assign,body,hy,hR⟩:=hY _ (x.getD k 0) wr hJs (by rw [length_take];omega);have HS:=zh (Dc x k hlt);generalize x.getD k 0=z0 at *;have d1:(k:Int)<(x.length:Int):=by omega
   have hlen1:(x.length:Int)<=1000:=by omega
   clear hx hBs h0
   gi_wp2
   refine hR.mono ?_;rintro e W3 (⟨rfl,hJ3,hk3⟩|⟨rfl,hJx3⟩)
   ·gi_wp2
    go_roundw
    case rel=>exact⟨k+1,by omega,by go_num,by rw [HS.out];exact hJ3,hnx.trans hk3⟩
    case measure=>simp [intOf];omega
   ·gi_wp2
    refine bodyPost_ret (results_none rfl _ _ _) rfl ?_;exact⟨⟨_,rfl⟩,.inr ⟨_,⟨k,hlt,HS.out.symm⟩,hJx3⟩⟩
  ·obtain rfl:k=x.length:=by omega
   gi_wp2
   go_end0
   exact⟨⟨_,rfl⟩,.inl ⟨_,take_length,hJs⟩⟩
theorem Mc(F:Fence)(n:Nat)(hf:F.fn 58)(hro:F.round=none)(a:Option Addr)(len cap:Nat)(w:World) :
 CallsIn F n prog 58 #[.slice a len cap] w fun e w'=>e= .returned (.func (.func 98) #[] #[.pointer (some ⟨w.heap.size,0,none⟩)])/\w'=w.alloc (.cells #[.slice a len cap] 24):=by
 refine callsIn_of_wp func58 rfl hf ?_ hro;simp only [ntmps58,size_toArray,length_cons,length_nil,Nat.reduceAdd,Nat.reduceSub,Array.replicate_succ,Array.replicate_zero,push_toArray,append_toArray,nil_append,cons_append]
 gi_wp2
 go_ret
 exact⟨rfl,rfl⟩
theorem C8(F:Fence)(n:Nat)(hf:F.fn 98)(hro:F.round=none)(hn:1<=n)(Bs n₀:Nat)(v:Value)(x:List Int)(w:World)(hBs:Bs<n₀)(hn₀:n₀<=w.heap.size)
 (hc:w.cell? ⟨Bs,0,none⟩=some v) (hL:qU n₀ w v x) :
 SeqStopsK F n prog 98 #[.pointer (some ⟨Bs,0,none⟩)] (fun i:Int=>#[Value.int .i64 i]) (Below n₀) (fun ys=>ys=x) (fun pre=>∃k,k<x.length/\pre=x.take (k+1)) x.length w:=fun l J Jx W hW _ _ hY h0=>
 Jt F n hf hro hn l Bs n₀ x v J Jx hY W ((hW.cell (p:=⟨Bs,0,none⟩) (by show Bs<w.heap.size;omega)).trans hc) hBs (hL.below (hW.mono hn₀)) h0
theorem Bu:(prog.info? 3).map (fun i=>(i.zero,i.size,i.bytes))=some (some (.int .i64 0),1,8):=by kernel_rfl
theorem OL(x:List Int)(v:Value)(Bs:Nat)(w:World)(hb:Bs<w.heap.size)(hc0:w.cell? ⟨Bs,0,none⟩=some v)(hL:bK w v x) :
 CallsIn Fence.wide 5 prog 130 #[.slice none 0 0,.func (.func 98) #[] #[.pointer (some ⟨Bs,0,none⟩)]] w fun e W'=>
  ∃v',e= .returned v'/\W'.ownsRow w.heap.size 3 1 v' x.length (x.map (Value.int .i64))/\Below w.heap.size w W':=by
 obtain⟨i0,hi,hz0,hz1,hz2⟩:=info_parts Bu;have h1000:=hL.1;refine callsIn_of_wp_marks func130 rfl trivial ?_ rfl;simp only [ntmps130,size_toArray,length_cons,length_nil,Nat.reduceAdd,Nat.reduceSub,Array.replicate_succ,Array.replicate_zero,push_toArray,append_toArray,nil_append,cons_append]
 gi_wp2
 have bO:=Boxed.new w 24 (.slice none 0 0);have hB0:Below w.heap.size w (w.alloc (.cells #[.slice none 0 0] 24)):=(Below.refl _ w).alloc (Nat.le_refl _) _
 refine wpIn_rangeFunc_ownG (F:=Fence.wide) rfl ze (gf:=98) (lb:=#[.pointer (some ⟨Bs,0,none⟩)]) rfl trivial (enters_of func98 zf rfl)
  (C8 Fence.wide 4 trivial rfl ze Bs w.heap.size v x _ hb zg ((hB0.cell (p:=⟨Bs,0,none⟩) hb).trans hc0) (hL.lies.below hB0)) belowK_t (belowK_b zg) (Below.refl _ _) (fun _=>rfl)
  (fun pre W=>(∃v,Boxed W w.heap.size 24 v/\W.ownsRow w.heap.size 3 1 v pre.length (pre.map (Value.int .i64))/\True)/\Below w.heap.size w W)
  (fun _ _ _=>False)
  (OwnFrom.and (Own.from (holdsRow_own w.heap.size w.heap.size 24 3 1 (fun pre:List Int=>pre.length) (fun pre=>pre.map (Value.int .i64)) (fun _ _=>True)) _) (ownFrom_below (Nat.le_refl _) zg))
  (fun _ _ _ _ _ hs _ _=>hs)
  ⟨⟨_,bO,World.ownsRow_nil _ _ _ _,trivial⟩,hB0⟩
  (fun z=>{tmps:=#[.slice none 0 0,.func (.func 98) #[] #[.pointer (some ⟨Bs,0,none⟩)],.pointer (some ⟨w.heap.size,0,none⟩),undef,.slice none 0 0,.int .i64 z,.func (.func 98) #[] #[.pointer (some ⟨Bs,0,none⟩)],.int .i64 z,undef,undef,undef,undef,undef],defers:=[]}) ?assign ?body ?done ?stop
 case assign=>
  intro l z W K hK
  gi_wp2
  exact hK
 case body=>
  rintro l pre z W ⟨⟨v2,hv,hrow,-⟩,hB⟩ hlt;have hc:=hv.cell
  gi_wp2_with (gi_at_builtin;refine wpListIn_append_own _ rfl _ _ 24 rfl w.heap.size 3 i0 (.int .i64 0) 1 8 underlying24 hi hz0 hz1 hz2 rfl zo _ _ _ rfl (hrow.alloc _) ⟨W.heap.size,0,none⟩ 1 1 [.int .i64 z] rfl rfl (cell_one_new _ _ _) (by simp [Value.oneCell']) zE ze (by have:=hB.size;simp;omega) ?_;intro v' w1 hown' hgrow _;obtain⟨g',cap',rfl⟩:=ownsRow_succ hown';obtain⟨hv1,hv2,hr2,hk2,hb2⟩:=hv.appended zo hrow hB.size (Nat.le_refl _) hown' hgrow;have hc1:=hv1.cell;have hf1:=hv1.frozen)
  exact⟨hk2.from _,hb2,⟨_,hv2,by simpa using hr2,trivial⟩,hB.trans hb2⟩
 case done=>
  rintro D ys W hD rfl ⟨⟨v2,hv,hrow,-⟩,hB⟩ hK;have hc:=hv.cell
  gi_wp2
  refine⟨by simp,.inl ⟨_,_,rfl,run_takeDeferred hK, ?_⟩⟩;exact⟨_,results_tmp rfl _ _ _,v2,rfl,ownsRow_putObj hrow _ hK rfl,hB.trans (belowK_b (w:=w) (Nat.le_refl _) W D _ _ (by simp at hD;omega) hK rfl rfl)⟩
 case stop=>
  rintro D c pre W _ _ h _;exact h.elim
theorem rY{w:World}{base g n cap:Nat}{e:TypeId}{zs:List Int}(h:w.ownsRow base e 1 (.slice (some ⟨g,0,none⟩) n cap) n (zs.map (Value.int .i64))) :
 ∃cur,zs.length=n/\base<=g/\w.heap[g]? =some (.cells cur e (0,0))/\n<=cap/\cap<=maxLen/\cur.size=cap*1/\cur.toList.take n=zs.map (Value.int .i64):=by
 obtain⟨h0,h1|⟨g',cap',cur,hv,hb,hg,h2,h3,h4,h5⟩⟩:=h
 ·cases h1.1
 ·simp only [Value.slice.injEq,Option.some.injEq,Addr.mk.injEq,and_true,true_and]at hv;obtain⟨rfl,rfl⟩:=hv;exact⟨cur,by simpa using h0,hb,hg,h2,h3,h4,by simpa using h5⟩
theorem F6{base g cap:Nat}{zs:List Int}{w:World}(h:w.ownsRow base 3 1 (.slice (some ⟨g,0,none⟩) zs.length cap) zs.length (zs.map (Value.int .i64)))(hl:zs.length<=1000) :
 Calls prog 97 #[.slice (some ⟨g,0,none⟩) zs.length cap] w fun e w'=>e= .returned (.tuple #[])/\w.grownBy w' (some g)/\
  w'.ownsRow base 3 1 (.slice (some ⟨g,0,none⟩) zs.length cap) zs.length ((zs.mergeSort fun x y=>decide (x<=y)).map (Value.int .i64)):=by
 obtain⟨cur,-,hb,hg,h2,h3,h4,h5⟩:=rY h;refine(slices_Sort_int g 0 cap zs w (holds_of_blockI hg h5) (Array.getElem?_eq_some_iff.1 hg).1 ze).mono ?_;rintro e w' ⟨rfl,n,os,rfl⟩;exact⟨rfl,grownBy_sortedI _,ownsRow_sortedI zg hb hg h2 h3 h4⟩
end Go.Proofs.YtlheailebbngiaaGreatDoor
