import Derived.Test.YtaghhncnicbedaaGreatDoorFAw9R
import Derived.Test.YtaghhncnicbedaaGreatDoorFTyF
import Derived.Test.YtaghhncnicbedaaGreatDoorFK
set_option linter.all false
set_option maxHeartbeats 16000000
set_option maxRecDepth 1000000
namespace Go.Proofs.YtaghhncnicbedaaGreatDoor
open Go.RowKit
theorem row_form''{w:World}{B:Nat}{v:Value}{zs:List Int}(h:w.ownsRow B 3 1 v zs.length (zs.map (Value.int .i64))):∃a c,v= .slice a zs.length c:=by
 exact fz57
theorem row_slice{w:World}{B:Nat}{v:Value}{xs:List Int}(h:w.ownsRow B 3 1 v xs.length (xs.map (Value.int .i64))):∃a c,v= .slice a xs.length c∧(xs.length=0∨∃g,a=some ⟨g,0,none⟩∧g<w.heap.size∧∀j,j<xs.length→w.cell? ⟨g,j,none⟩=some (.int .i64 (xs.getD j 0))):=by
 rcases row_frm h with ⟨rfl,e⟩|⟨g,cap,rfl,-,hg,-⟩
 ·exact⟨none,0,by rw [e],.inl e⟩
 ·exact⟨_,_,rfl,.inr ⟨g,rfl,hg,fun j hj=>by have:=own_get h j hj;rwa [Nat.zero_add]at this⟩⟩
theorem same8_any{w:World}{B B':Nat}{v1 v2:Value}{xs ys:List Int}(h1:w.ownsRow B 3 1 v1 xs.length (xs.map (Value.int .i64)))(h2:w.ownsRow B' 3 1 v2 ys.length (ys.map (Value.int .i64)))(hl:xs.length≤1000) :
 Calls Tryz.prog 97 #[v1,v2] w fun e w'=>e= .returned (.bool (decide (xs=ys)))∧w.Grows w':=by
 obtain⟨a1,c1,rfl,hg1⟩:=row_slice h1
 obtain⟨a2,c2,rfl,hg2⟩:=row_slice h2
 clear h1 h2
 by_cases hle:xs.length=ys.length
 case neg=>
  have HR:Hid (decide (xs=ys)=false):=Lib.hid (decide_eq_false (fun e=>hle (by rw [e])))
  generalize xs.length=p at *
  generalize ys.length=q at *
  have hne:((p:Int)==(q:Int))=false:=by simp;omega
  have hne2:((p:Int)!=(q:Int))=true:=by simp;omega
  clear hg1 hg2 hle
  go_enter Tryz.func97,Tryz.ntmps97
  go_wp2_with fail
  go_returns
  exact⟨by rw [HR.out];rfl,.refl _⟩
 have H1:=Lib.hid hg1
 have H2:=Lib.hid hg2
 have HL:=Lib.hid hle
 rw [←hle]
 clear hg1 hg2 hle
 obtain⟨p,hp⟩:∃p,xs.length=p:=⟨_,rfl⟩
 rw [hp]at H1 HL hl ⊢
 rw [←HL.out]at H2
 have HP:=Lib.hid hp
 clear hp
 go_enter Tryz.func97,Tryz.ntmps97
 go_wp2_with fail
 go_loopw [5] (fun v5 wr=>∃k:Nat,k≤p∧v5= .int .i64 k∧w.Grows wr∧Hid (∀j,j<k→xs.getD j 0=ys.getD j 0)) (fun v5 _=>p-(intOf v5).toNat)
 case atStart=>exact⟨0,by omega,rfl,.refl _,Lib.hid (fun j hj=>by omega)⟩
 case round=>
  obtain⟨k,hk,rfl,hg,HE⟩:=hrel
  have HG:=Lib.hid hg
  by_cases hlt:k<p
  ·rcases H1.out with h0|⟨g1,rfl,hs1,x1⟩
   ·omega
   rcases H2.out with h0|⟨g2,rfl,hs2,x2⟩
   ·omega
   have y1:=(World.cell?_of_block (a:=⟨g1,k,none⟩) (hg.below.block g1 hs1)).trans (x1 k hlt)
   have y2:=(World.cell?_of_block (a:=⟨g2,k,none⟩) (hg.below.block g2 hs2)).trans (x2 k hlt)
   have d1:(k:Int)<(p:Int):=by omega
   have d0:(0:Int)≤(k:Int):=by omega
   have hs1':g1<wr.heap.size:=by have:=hg.below.size;omega
   have hs2':g2<wr.heap.size:=by have:=hg.below.size;omega
   have HLT:=Lib.hid hlt
   obtain⟨a,ha⟩:∃a,xs.getD k 0=a:=⟨_,rfl⟩
   obtain⟨b,hb⟩:∃b,ys.getD k 0=b:=⟨_,rfl⟩
   rw [ha]at y1
   rw [hb]at y2
   have HAB:=Lib.hid (And.intro ha hb)
   clear hg x1 x2 ha hb hlt
   by_cases hab:a=b
   ·have HN:Hid (∀j,j<k+1→xs.getD j 0=ys.getD j 0):=Lib.hid (fun j hj=>by
     by_cases e:j=k
     ·subst e;rw [HAB.out.1,HAB.out.2,hab]
     ·exact HE.out j (by omega))
    subst hab
    go_wp2_with fail
    go_region
    go_wp2_with fail
    go_roundw
    case rel=>exact⟨k+1,HLT.out,by go_num,World.Grows.trans' HG.out growsR,HN⟩
    case measure=>simp [intOf];have:=HLT.out;omega
   ·have HR:Hid (decide (xs=ys)=false):=Lib.hid (decide_eq_false (fun e=>hab (by rw [←HAB.out.1,←HAB.out.2,e])))
    have hab1:(a==b)=false:=by simpa using hab
    have hab2:(a !=b)=true:=by simpa using hab
    clear hab
    go_wp2_with fail
    go_region
    go_wp2_with fail
    go_returns
    exact⟨by rw [HR.out];rfl,World.Grows.trans' HG.out growsR⟩
  ·obtain rfl:k=p:=by omega
   have HR:Hid (decide (xs=ys)=true):=Lib.hid (decide_eq_true (List.ext_getElem (by rw [HP.out,HL.out]) fun j h1 h2=>by
    have:=HE.out j (by rw [HP.out]at h1;omega)
    rw [List.getD_eq_getElem?_getD,List.getD_eq_getElem?_getD,List.getElem?_eq_getElem h1,List.getElem?_eq_getElem h2]at this
    simpa using this))
   clear hlt hk hg
   go_wp2_with fail
   go_returns
   exact⟨by rw [HR.out];rfl,World.Grows.trans' HG.out growsR⟩
def StN(w:World)(N off:Nat)(vs vl:Value):Option (List Int × List Int)→Prop
 |none=>CellsAt w N off [.bool false,.slice none 0 0,.slice none 0 0]
 |some _=>CellsAt w N off [.bool true,vs,vl]
structure WInv(n NS m:Nat)(W0:World)(T:List (Option (List Int × List Int)))(Rs Rl:Nat→Value)(w:World):Prop where
 sz:NS<w.heap.size
 lo:Below NS W0 w
 len:T.length=n+1
 st:∀j,j≤n→StN w NS (j*3) (Rs j) (Rl j) (T.getD j none)
 sf:∀o,w.frozen? ⟨NS,o,none⟩=false
 row:∀j t,T.getD j none=some t→w.ownsRow (NS+1) 3 1 (Rs j) t.1.length (t.1.map (Value.int .i64))∧w.ownsRow (NS+1) 3 1 (Rl j) t.2.length (t.2.map (Value.int .i64))∧t.1.length≤24∧t.2.length=m∧(∀z∈t.1,1≤z)∧(∀z∈t.2,0≤z)
 dl:∀j k t u g,j≠k→T.getD j none=some t→T.getD k none=some u→(Rl j).ownBlock=some g→(Rl k).ownBlock≠some g
 ds:∀j k t u g,T.getD j none=some t→T.getD k none=some u→(Rl j).ownBlock=some g→(Rs k).ownBlock≠some g
def MnP(N off:Nat)(zs ls:List Int)(w:World)(e:Ending)(w':World):Prop:=
 e= .returned (.bool true)∧∃v1 v2,Upd (fun k=>k=N) w w' N off [.bool true,v1,v2]∧w'.ownsRow w.heap.size 3 1 v1 zs.length (zs.map (Value.int .i64))∧w'.ownsRow w.heap.size 3 1 v2 ls.length (ls.map (Value.int .i64))∧∀g,v1.ownBlock=some g→v2.ownBlock≠some g
theorem meet_new(N off B B':Nat)(zs ls:List Int)(vz vl:Value)(w:World)(hN:N<w.heap.size)(hT:CellsAt w N off [.bool false,.slice none 0 0,.slice none 0 0])(hf:∀i,w.frozen? ⟨N,i,none⟩=false)
 (hz:w.ownsRow B 3 1 vz zs.length (zs.map (Value.int .i64))) (hl:w.ownsRow B' 3 1 vl ls.length (ls.map (Value.int .i64))) (hzl:zs.length≤1000) (hll:ls.length≤1000) (hnz:vz.ownBlock≠some N) (hnl:vl.ownBlock≠some N) :
 Calls Tryz.prog 46 #[.pointer (some ⟨N,off,none⟩),vz,vl] w (MnP N off zs ls w):=by
 have HT:=Lib.hid hT
 have HF:=Lib.hid hf
 have c0:w.cell? ⟨N,off,none⟩=some (.bool false):=hT 0 _ rfl
 have c1:w.cell? ⟨N,off+1,none⟩=some (.slice none 0 0):=hT 1 _ rfl
 have c2:w.cell? ⟨N,off+2,none⟩=some (.slice none 0 0):=hT 2 _ rfl
 have f0:=hf off
 have f1:=hf (off+1)
 have f2:=hf (off+2)
 have HZ:Hid (∀W,Mods (fun k=>k=N) w W→W.ownsRow B 3 1 vz zs.length (zs.map (Value.int .i64))):=Lib.hid (fun W hm=>hm.row hz fun k hk e=>hnz (e ▸ hk))
 have HL:Hid (∀W,Mods (fun k=>k=N) w W→W.ownsRow B' 3 1 vl ls.length (ls.map (Value.int .i64))):=Lib.hid (fun W hm=>hm.row hl fun k hk e=>hnl (e ▸ hk))
 have U1:Upd (fun k=>k=N) w (w.setCell ⟨N,off,none⟩ (.bool true)) N off [.bool true,.slice none 0 0,.slice none 0 0]:=(Upd.refl hT).set 0 _ (by simp) rfl
 have HU1:=Lib.hid U1
 clear hz hl hT hf U1 hnz hnl
 go_enter Tryz.func46,Tryz.ntmps46
 go_wp2_with (at_builtin;refine wpList_append_ints rfl _ _ rfl (base:=w.heap.size) (A:=[]) rfl rfl (World.ownsRow_nil _ _ _ _) (HZ.out _ HU1.out.mods) ⟨by simp,hzl⟩ (by simp [World.setCell]) ?_)
 intro v1 w1 hv1 hg1
 obtain⟨a1,k1,rfl⟩:=row_form'' hv1
 have hb1:∀k,k<w.heap.size→w1.heap[k]? =(w.setCell ⟨N,off,none⟩ (.bool true)).heap[k]?:=fun k hk=>hg1.block k (by simpa [World.setCell]using hk) (by simp [Value.ownBlock])
 have hs1:w.heap.size≤w1.heap.size:=by have:=hg1.size;simpa [World.setCell]using this
 have hm1:Mods (fun k=>k=N) (w.setCell ⟨N,off,none⟩ (.bool true)) w1:=⟨hg1.os,hg1.tape,hg1.output,hg1.size,fun k hk _=>hg1.block k hk (by simp [Value.ownBlock])⟩
 have U2:=HU1.out.block hm1 (hb1 N hN)
 have d1:w1.cell? ⟨N,off+1,none⟩=some (.slice none 0 0):=U2.cells 1 _ rfl
 have d2:w1.cell? ⟨N,off+2,none⟩=some (.slice none 0 0):=U2.cells 2 _ rfl
 have e1:w1.frozen? ⟨N,off+1,none⟩=false:=(U2.frz _).trans f1
 have e2:w1.frozen? ⟨N,off+2,none⟩=false:=(U2.frz _).trans f2
 have hN1:N<w1.heap.size:=by omega
 have U3:Upd (fun k=>k=N) w (w1.setCell ⟨N,off+1,none⟩ (.slice a1 zs.length k1)) N off [.bool true,.slice a1 zs.length k1,.slice none 0 0]:=U2.set 1 _ (by simp) rfl
 have HU3:=Lib.hid U3
 have HV1:=Lib.hid hv1
 have HS1:=Lib.hid hs1
 clear hv1 hg1 hb1 hm1 U2 U3 c0 c1 c2 f0 f1 f2
 go_wp2_with (at_builtin;refine wpList_append_ints rfl _ _ rfl (base:=w1.heap.size) (A:=[]) rfl rfl (World.ownsRow_nil _ _ _ _) (HL.out _ HU3.out.mods) ⟨by simp,hll⟩ (by simp [World.setCell]) ?_)
 intro v2 w2 hv2 hg2
 obtain⟨a2,k2,rfl⟩:=row_form'' hv2
 have hb2:∀k,k<w1.heap.size→w2.heap[k]? =(w1.setCell ⟨N,off+1,none⟩ (.slice a1 zs.length k1)).heap[k]?:=fun k hk=>hg2.block k (by simpa [World.setCell]using hk) (by simp [Value.ownBlock])
 have hs2:w1.heap.size≤w2.heap.size:=by have:=hg2.size;simpa [World.setCell]using this
 have hm2:Mods (fun k=>k=N) (w1.setCell ⟨N,off+1,none⟩ (.slice a1 zs.length k1)) w2:=⟨hg2.os,hg2.tape,hg2.output,hg2.size,fun k hk _=>hg2.block k hk (by simp [Value.ownBlock])⟩
 have U4:=HU3.out.block hm2 (hb2 N hN1)
 have g2:w2.cell? ⟨N,off+2,none⟩=some (.slice none 0 0):=U4.cells 2 _ rfl
 have h2:w2.frozen? ⟨N,off+2,none⟩=false:=(U4.frz _).trans (HF.out _)
 have hN2:N<w2.heap.size:=by omega
 have U5:Upd (fun k=>k=N) w (w2.setCell ⟨N,off+2,none⟩ (.slice a2 ls.length k2)) N off [.bool true,.slice a1 zs.length k1,.slice a2 ls.length k2]:=U4.set 2 _ (by simp) rfl
 have hneN:∀k,(Value.slice a1 zs.length k1).ownBlock=some k→w.heap.size≤k∧k<w1.heap.size:=fun k hk=>HV1.out.lt k hk
 have r1:(w2.setCell ⟨N,off+2,none⟩ (.slice a2 ls.length k2)).ownsRow w.heap.size 3 1 (.slice a1 zs.length k1) zs.length (zs.map (Value.int .i64)):=
  Mods.row (P:=fun k=>k=N) (((Mods.setCell (P:=fun k=>k=N) w1 N (off+1) _ rfl).trans hm2).trans (Mods.setCell _ _ _ _ rfl)) HV1.out fun k hk e=>by have:=hneN k hk;omega
 have r2:(w2.setCell ⟨N,off+2,none⟩ (.slice a2 ls.length k2)).ownsRow w.heap.size 3 1 (.slice a2 ls.length k2) ls.length (ls.map (Value.int .i64)):=
  own_lower (Mods.row (P:=fun k=>k=N) (Mods.setCell _ _ _ _ rfl) hv2 fun k hk e=>by have:=(hv2.lt k hk).1;omega) hs1
 have hdis:∀g,(Value.slice a1 zs.length k1).ownBlock=some g→(Value.slice a2 ls.length k2).ownBlock≠some g:=fun g hg e=>by
  have q1:=(hneN g hg).2
  have q2:=(hv2.lt g e).1
  omega
 have HP:=Lib.hid (show MnP N off zs ls w (.returned (.bool true)) (w2.setCell ⟨N,off+2,none⟩ (.slice a2 ls.length k2))from⟨rfl,_,_,U5,r1,r2,hdis⟩)
 clear U4 U5 r1 r2 hdis hneN hm2 hb2 hg2 hv2
 go_wp2_with fail
 go_returns
 exact HP.out
def zipF(a b:Int):Int:=if b=0 then 0 else a
def zipK(t l:List Int)(m k:Nat):List Int:=(List.range m).map fun j=>if j<k then zipF (t.getD j 0) (l.getD j 0)else t.getD j 0
theorem zipK_len(t l:List Int)(m k:Nat):(zipK t l m k).length=m:=by simp [zipK]
theorem zipK_get(t l:List Int)(m k:Nat){j:Nat}(hj:j<m):(zipK t l m k)[j]? =some (if j<k then zipF (t.getD j 0) (l.getD j 0)else t.getD j 0):=by simp [zipK,hj]
theorem zipK_zero{t:List Int}(l:List Int){m:Nat}(h:t.length=m):zipK t l m 0=t:=by
 refine List.ext_getElem? fun j=>?_
 by_cases hj:j<m
 ·rw [zipK_get _ _ _ _ hj,if_neg (by omega),List.getD_eq_getElem?_getD,List.getElem?_eq_getElem (by omega)];rfl
 ·rw [List.getElem?_eq_none (by rw [zipK_len];omega),List.getElem?_eq_none (by omega)]
theorem zipK_all{t l:List Int}{m:Nat}(h:t.length=m)(h':l.length=m):zipK t l m m=List.zipWith (fun a b=>if b=0 then 0 else a) t l:=by
 refine List.ext_getElem? fun j=>?_
 by_cases hj:j<m
 ·rw [zipK_get _ _ _ _ hj,if_pos hj,List.getElem?_zipWith,List.getD_eq_getElem?_getD,List.getD_eq_getElem?_getD,List.getElem?_eq_getElem (by omega),List.getElem?_eq_getElem (by omega)];rfl
 ·rw [List.getElem?_eq_none (by rw [zipK_len];omega),List.getElem?_eq_none (by simp;omega)]
theorem zipK_set(t l:List Int){m k:Nat}(hk:k<m)(h0:l.getD k 0=0):(zipK t l m k).set k 0=zipK t l m (k+1):=by
 refine List.ext_getElem? fun j=>?_
 rw [List.getElem?_set,zipK_len]
 by_cases hj:j<m
 ·rw [zipK_get _ _ _ _ hj,zipK_get _ _ _ _ hj]
  by_cases e:k=j
  ·subst e
   rw [if_pos rfl,if_pos hk,if_pos (by omega),h0];rfl
  ·rw [if_neg e]
   exact fz42
 ·rw [if_neg (by omega),List.getElem?_eq_none (by rw [zipK_len];omega),List.getElem?_eq_none (by rw [zipK_len];omega)]
theorem zipK_skip(t l:List Int){m k:Nat}(hk:k<m)(h0:l.getD k 0≠0):zipK t l m k=zipK t l m (k+1):=by
 refine List.ext_getElem? fun j=>?_
 by_cases hj:j<m
 ·rw [zipK_get _ _ _ _ hj,zipK_get _ _ _ _ hj]
  by_cases e:k=j
  ·subst e
   rw [if_neg (by omega),if_pos (by omega)]
   unfold zipF
   rw [if_neg h0]
  ·exact fz42
 ·rw [List.getElem?_eq_none (by rw [zipK_len];omega),List.getElem?_eq_none (by rw [zipK_len];omega)]
def MoP(B:Nat)(v2:Value)(ts tl zs ls:List Int)(w:World)(e:Ending)(w':World):Prop:=
 e= .returned (.bool (decide (ts=zs)))∧Mods (fun b=>v2.ownBlock=some b) w w'∧w'.ownsRow B 3 1 v2 tl.length ((List.zipWith (fun a b=>if b=0 then 0 else a) tl ls).map (Value.int .i64))
theorem meet_old(N off B B1 B2:Nat)(ts tl zs ls:List Int)(v1 v2 vz vl:Value)(w:World)(hN:N<w.heap.size)(hT:CellsAt w N off [.bool true,v1,v2])
 (r1:w.ownsRow B 3 1 v1 ts.length (ts.map (Value.int .i64))) (r2:w.ownsRow B 3 1 v2 tl.length (tl.map (Value.int .i64))) (hz:w.ownsRow B1 3 1 vz zs.length (zs.map (Value.int .i64))) (hl:w.ownsRow B2 3 1 vl ls.length (ls.map (Value.int .i64)))
 (hlen:ls.length=tl.length) (h24:ts.length≤1000) (hll:tl.length≤1000) (hnN:v2.ownBlock≠some N) (hn1:∀g,v2.ownBlock=some g→v1.ownBlock≠some g) (hnz:∀g,v2.ownBlock=some g→vz.ownBlock≠some g) (hnl:∀g,v2.ownBlock=some g→vl.ownBlock≠some g) :
 Calls Tryz.prog 46 #[.pointer (some ⟨N,off,none⟩),vz,vl] w (MoP B v2 ts tl zs ls w):=by
 have c0:w.cell? ⟨N,off,none⟩=some (.bool true):=hT 0 _ rfl
 have c1:w.cell? ⟨N,off+1,none⟩=some v1:=hT 1 _ rfl
 have c2:w.cell? ⟨N,off+2,none⟩=some v2:=hT 2 _ rfl
 have HSM:Hid (∀W,Mods (fun b=>v2.ownBlock=some b) w W→Calls Tryz.prog 97 #[v1,vz] W fun e w'=>e= .returned (.bool (decide (ts=zs)))∧W.Grows w'):=Lib.hid (fun W hm=>same8_any (hm.row r1 fun k hk e=>hn1 k e hk) (hm.row hz fun k hk e=>hnz k e hk) h24)
 have HLR:Hid (∀W,Mods (fun b=>v2.ownBlock=some b) w W→W.ownsRow B2 3 1 vl ls.length (ls.map (Value.int .i64))):=Lib.hid (fun W hm=>hm.row hl fun k hk e=>hnl k e hk)
 obtain⟨la,lc,hla⟩:=row_form'' hl
 obtain⟨va,vc,hva,hvg⟩:=row_slice r2
 obtain⟨m,hm⟩:∃m,tl.length=m:=⟨_,rfl⟩
 rw [hlen]at hla
 rw [hm]at hla hva hvg hll r2 hlen
 have HM:=Lib.hid (And.intro hm hlen)
 have HR2:=Lib.hid r2
 have HNN:=Lib.hid hnN
 have HVG:Hid (m=0∨∃g,va=some ⟨g,0,none⟩∧g<w.heap.size):=Lib.hid (hvg.imp id fun⟨g,e,hg,_⟩=>⟨g,e,hg⟩)
 have HPO:Hid (∀W W',Mods (fun b=>v2.ownBlock=some b) w W→W.ownsRow B 3 1 v2 m ((zipK tl ls m m).map (Value.int .i64))→W.Grows W'→MoP B v2 ts tl zs ls w (.returned (.bool (decide (ts=zs)))) W'):=Lib.hid (fun W W' h1 h2 hg=>by
  rw [zipK_all HM.out.1 HM.out.2]at h2
  refine⟨rfl,h1.trans (.grows hg), ?_⟩
  rw [HM.out.1]
  exact Mods.row (P:=fun _=>False) (.grows hg) h2 fun _ _ e=>e)
 clear hT r1 r2 hz hl hlen hm hn1 hnz hnl hnN hvg
 generalize decide (ts=zs)=res at *
 obtain⟨v2',hv2'⟩:∃v,v2=v:=⟨_,rfl⟩
 rw [hva]at c2
 rw [hla]
 go_enter Tryz.func46,Tryz.ntmps46
 go_wp2_with fail
 go_loopw [7] (fun v7 wr=>∃k:Nat,k≤m∧v7= .int .i64 k∧Mods (fun b=>v2.ownBlock=some b) w wr∧wr.ownsRow B 3 1 v2 m ((zipK tl ls m k).map (Value.int .i64))) (fun v7 _=>m-(intOf v7).toNat)
 case atStart=>exact⟨0,by omega,rfl,.refl _ _,by rw [zipK_zero _ HM.out.1];exact HR2.out⟩
 case round=>
  obtain⟨k,hk,rfl,hmd,hrow⟩:=hrel
  have HMD:=Lib.hid hmd
  have HROW:=Lib.hid hrow
  have q1:=(hmd.cell hN HNN.out (off+1)).trans c1
  have q2:=(hmd.cell hN HNN.out (off+2)).trans c2
  have hNr:N<wr.heap.size:=Nat.lt_of_lt_of_le hN hmd.size
  by_cases hlt:k<m
  ·have d1:(k:Int)<(m:Int):=by omega
   have d0:(0:Int)≤(k:Int):=by omega
   have hlr:=HLR.out wr hmd
   obtain⟨la',lc',hla',hlg⟩:=row_slice hlr
   rw [HM.out.2]at hla' hlg
   rw [hla]at hla'
   obtain⟨rfl,rfl⟩:la=la'∧lc=lc':=by simpa using hla'
   rcases hlg with h0|⟨gl,rfl,hgl,xl⟩
   ·omega
   have yl:=xl k hlt
   rcases HVG.out with h0|⟨g,rfl,hg⟩
   ·omega
   have hgr:g<wr.heap.size:=Nat.lt_of_lt_of_le hg hmd.size
   have hrow':=hrow
   rw [hva]at hrow'
   have cg:wr.cell? ⟨g,k,none⟩=some (.int .i64 ((zipK tl ls m k).getD k 0)):=by
    have:=own_get hrow' k (by rw [zipK_len];exact hlt)
    rwa [Nat.zero_add]at this
   have fg:wr.frozen? ⟨g,k,none⟩=false:=hrow'.frozenAt k
   have HST:=Lib.hid (hrow'.stored k (.int .i64 0))
   have HVA:=Lib.hid hva
   have HLT:=Lib.hid hlt
   obtain⟨z,hz⟩:∃z,ls.getD k 0=z:=⟨_,rfl⟩
   rw [hz]at yl
   have HZ:=Lib.hid hz
   generalize(zipK tl ls m k).getD k 0=y at *
   clear hmd hrow hrow' hlr hla' xl hz hlt
   by_cases hz0:z=0
   ·subst hz0
    go_wp2_with fail
    go_roundw
    case rel=>exact⟨k+1,HLT.out,by go_num,HMD.out.trans (Mods.setCell _ _ _ _ (by rw [HVA.out];rfl)),by rw [←zipK_set tl ls HLT.out HZ.out,HVA.out,List.map_set];exact HST.out.1⟩
    case measure=>simp [intOf];have:=HLT.out;omega
   ·have hz1:(z==0)=false:=by simpa using hz0
    have HNZ:=Lib.hid hz0
    clear hz0
    go_wp2_with fail
    go_roundw
    case rel=>exact⟨k+1,HLT.out,by go_num,HMD.out,by rw [←zipK_skip tl ls HLT.out (by rw [HZ.out];exact HNZ.out)];exact HROW.out⟩
    case measure=>simp [intOf];have:=HLT.out;omega
  ·obtain rfl:k=m:=by omega
   have HQ:=Lib.hid (fun W (hg:wr.Grows W)=>HSM.out W (HMD.out.trans (.grows hg)))
   have HP:=Lib.hid (fun W' (hg:wr.Grows W')=>HPO.out wr W' HMD.out HROW.out hg)
   clear hmd hrow hlt hk
   go_wp2_with (go_at_call 97;refine(HQ.out _ growsR).mono ?_;rintro e' w2 ⟨rfl,bs,d,rfl⟩)
   go_returns
   exact HP.out _ growsR
theorem oper8_any(op:Int)(w:World):Calls Tryz.prog 57 #[.int .i64 op] w fun e w'=>e= .returned (.int .i64 (opF op))∧w=w':=by
 by_cases h6:op=6
 ·subst h6
  exact fz28
 have b6:(op==6)=false:=by simpa using h6
 by_cases h7:op=7
 ·subst h7
  exact fz28
 have b7:(op==7)=false:=by simpa using h7
 by_cases h8:op=8
 ·subst h8
  exact fz28
 have b8:(op==8)=false:=by simpa using h8
 by_cases h9:9≤op∧op≤18
 ·have e:opF op=op-2:=by unfold opF;rw [if_neg h6,if_neg h7,if_neg h8,if_pos h9]
  rw [e]
  obtain⟨ha,hb⟩:=h9
  clear e h6 h7 h8
  go_enter Tryz.func57,Tryz.ntmps57
  go_wp2_with fail
  go_returns
  exact⟨by
   simp;omega,rfl⟩
 by_cases h19:op=19
 ·subst h19
  exact fz28
 have b19:(op==19)=false:=by simpa using h19
 by_cases h20:op=20
 ·subst h20
  exact fz28
 have b20:(op==20)=false:=by simpa using h20
 have e:opF op=0:=by unfold opF;rw [if_neg h6,if_neg h7,if_neg h8,if_neg h9,if_neg h19,if_neg h20]
 rw [e]
 have hr:op<9∨18<op:=by omega
 clear e h6 h7 h8 h9 h19 h20
 rcases hr with hr|hr
 ·exact fz28
 ·exact fz28
def idmF(a:Int):Int:=if 0≤a∧a<11 then inDs.getD a.toNat 0 else 0
def idmP(a:Int)(w:World)(e:Ending)(w':World):Prop:=e= .returned (.tuple #[.int .i64 (idmF a),.bool (decide (0≤a∧a<11))])∧w.Grows w'
theorem inputDim_any(a:Int)(w:World):Calls Tryz.prog 96 #[.int .i64 a] w (idmP a w):=by
 by_cases h0:a<0
 ·exact fz20
 by_cases h11:11≤a
 ·exact fz20
 obtain⟨k,rfl⟩:∃k:Nat,a=(k:Int):=⟨a.toNat,by omega⟩
 have hk:k<11:=by omega
 have hd:=inDs_inpD hk
 have HI:=Lib.hid (fun w=>Input5_any (inpNm k) w)
 have hne:inpD (inpNm k).toList≠0:=by rw [hd];have:=inDs_rng hk;omega
 rw [decide_eq_true hne,hd]at HI
 have hc:(w.alloc (.cells inpA 9)).cell? ⟨w.heap.size,k,none⟩=some (.string (inpNm k)):=by
  rw [cell_of_row _ _ _ _ _ _ (heap_alloc_new w _)];exact inpA_get k hk
 have HP:Hid (∀w',w.Grows w'→idmP (k:Int) w (.returned (.tuple #[.int .i64 (inDs.getD k 0),.bool true])) w'):=Lib.hid (fun w' hg=>⟨by unfold idmF;rw [if_pos (by omega),decide_eq_true (by omega)];simp,hg⟩)
 clear hd hne h0 h11
 obtain⟨s,hs⟩:∃s,inpNm k=s:=⟨_,rfl⟩
 rw [hs]at hc HI
 obtain⟨z,hz⟩:∃z,inDs.getD k 0=z:=⟨_,rfl⟩
 rw [hz]at HI HP
 clear hs hz
 have d1:(k:Int)<11:=by omega
 go_enter Tryz.func96,Tryz.ntmps96
 go_wp2_with (first
  |(go_at_call 28;refine(Names_any _).mono ?_;rintro e' w' ⟨rfl,rfl⟩)
  |(go_at_call 111;refine(HI.out _).mono ?_;rintro e' w' ⟨rfl,rfl⟩))
 go_returns
 exact HP.out _ growsR
theorem wfF_z{m N i:Nat}{op a n d:Int}(h1:op≠1):wfF m N i ⟨op,a,n,d⟩=(wfF m N i ⟨op,a,0,0⟩&&decide (n=0∧d=0)):=by
 by_cases h:n=0∧d=0
 ·obtain⟨rfl,rfl⟩:=h
  rw [show decide ((0:Int)=0∧(0:Int)=0)=true from rfl,Bool.and_true]
 ·rw [decide_eq_false h,Bool.and_false]
  unfold wfF
  rw [if_neg h1,if_pos h]
theorem operand_any(l:List Ins)(sl:List ByteArray)(vi vs:Value)(i:Nat)(w:World)(hI:InsAt w vi l)(hS:SlAt w vs sl)(hi:i<l.length) :
 Calls Tryz.prog 45 #[.agg #[vi,vs],.int .i64 i] w fun e w'=>e= .returned (.bool (wfF sl.length l.length i (l.getD i default)))∧w.Grows w':=by
 obtain⟨hl6,ai,ci,rfl,hx⟩:=hI
 obtain⟨hs6,-,as',cs',-,rfl,-⟩:=hS
 rcases hx with h0|⟨b,off,rfl,hb,hx⟩
 ·omega
 obtain⟨⟨hn,hd⟩,x0,x1,x2,x3⟩:=hx i hi
 have d1:(i:Int)<(l.length:Int):=by omega
 generalize l.getD i default=x at *
 obtain⟨op,a,n,d⟩:=x
 dsimp only at *
 have HV:=Lib.hid (fun w=>Valid1_any n d w hn.1 hn.2 hd.1 hd.2)
 have HD:=Lib.hid (fun w=>inputDim_any a w)
 have HO:Hid True:=Lib.hid trivial
 unfold idmP at HD
 clear hx hi
 generalize sl.length=m at *
 generalize l.length=N at *
 by_cases h1:op=1
 ·subst h1
  clear hn hd
  by_cases ha:2≤a
  ·by_cases hb4:a≤4
   focus
    have HW:Hid (wfF m N i ⟨1,a,n,d⟩=vfrac n d):=Lib.hid (by unfold wfF;rw [if_pos rfl,decide_eq_true (show a=2∨a=3∨a=4 by omega)];rfl)
    obtain⟨vf,hvf⟩:∃vf,vfrac n d=vf:=⟨_,rfl⟩
    rw [hvf]at HV HW
    clear hvf
   rotate_left
   focus
    have HW:Hid (wfF m N i ⟨1,a,n,d⟩=false):=Lib.hid (by unfold wfF;rw [if_pos rfl,decide_eq_false (show ¬(a=2∨a=3∨a=4)by omega)];rfl)
   rotate_left
   all_goals
    rcases(by omega:(n=0∧d=0)∨(n=0∧d≠0)∨n≠0)with ⟨rfl,rfl⟩|⟨rfl,hd0⟩|hn0
    focus
     go_enter Tryz.func45,Tryz.ntmps45
    rotate_left
    focus
     have hd1:(d==0)=false:=by simpa using hd0
     clear hd0
     go_enter Tryz.func45,Tryz.ntmps45
    rotate_left
    focus
     have hn1:(n==0)=false:=by simpa using hn0
     clear hn0
     go_enter Tryz.func45,Tryz.ntmps45
    rotate_left
    all_goals
     go_wp2_with (first
      |(go_at_call 60;refine(HV.out _).mono ?_;rintro e' w' ⟨rfl,bs,d',rfl⟩)
      |(go_at_call 96;refine(HD.out _).mono ?_;rintro e' w' ⟨rfl,bs,d',rfl⟩)
      |(go_at_call 57;refine(HO.out _).mono ?_;rintro e' w' ⟨rfl,rfl⟩))
     go_returns
     exact⟨by first|(rw [HW.out];first|rfl|(simp [*];done)|(simp;done))|rfl|(simp [*];done),growsR⟩
  ·have HW:Hid (wfF m N i ⟨1,a,n,d⟩=false):=Lib.hid (by unfold wfF;rw [if_pos rfl,decide_eq_false (show ¬(a=2∨a=3∨a=4)by omega)];rfl)
   rcases(by omega:(n=0∧d=0)∨(n=0∧d≠0)∨n≠0)with ⟨rfl,rfl⟩|⟨rfl,hd0⟩|hn0
   focus
    go_enter Tryz.func45,Tryz.ntmps45
   rotate_left
   focus
    have hd1:(d==0)=false:=by simpa using hd0
    clear hd0
    go_enter Tryz.func45,Tryz.ntmps45
   rotate_left
   focus
    have hn1:(n==0)=false:=by simpa using hn0
    clear hn0
    go_enter Tryz.func45,Tryz.ntmps45
   rotate_left
   all_goals
    go_wp2_with (first
     |(go_at_call 60;refine(HV.out _).mono ?_;rintro e' w' ⟨rfl,bs,d',rfl⟩)
     |(go_at_call 96;refine(HD.out _).mono ?_;rintro e' w' ⟨rfl,bs,d',rfl⟩)
     |(go_at_call 57;refine(HO.out _).mono ?_;rintro e' w' ⟨rfl,rfl⟩))
    go_returns
    exact⟨by first|(rw [HW.out];first|rfl|(simp [*];done)|(simp;done))|rfl|(simp [*];done),growsR⟩
 have b1:(op==1)=false:=by simpa using h1
 rw [wfF_z h1]
 obtain⟨z,hz⟩:∃z,decide (n=0∧d=0)=z:=⟨_,rfl⟩
 rw [hz]
 have hzz:(z=true∧n=0∧d=0)∨(z=false∧n=0∧d≠0)∨(z=false∧n≠0):=by
  by_cases c:n=0∧d=0
  ·rw [decide_eq_true c]at hz;exact .inl ⟨hz.symm,c⟩
  ·rw [decide_eq_false c]at hz
   by_cases c1:n=0
   ·exact .inr (.inl ⟨hz.symm,c1,fun e=>c ⟨c1,e⟩⟩)
   ·exact .inr (.inr ⟨hz.symm,c1⟩)
 clear hn hd HV hz
 have HV:Hid True:=Lib.hid trivial
 by_cases h2:op=2
 ·subst h2
  have HW:Hid (wfF m N i ⟨2,a,0,0⟩=decide (0≤a∧a<11)):=Lib.hid rfl
  by_cases ha:0≤a∧a<11
  focus
   rw [decide_eq_true ha]at HW HD
  rotate_left
  focus
   rw [decide_eq_false ha]at HW HD
  rotate_left
  all_goals
   generalize idmF a=q at *
   rcases hzz with ⟨rfl,rfl,rfl⟩|⟨rfl,rfl,hd0⟩|⟨rfl,hn0⟩
   focus
    go_enter Tryz.func45,Tryz.ntmps45
   rotate_left
   focus
    have hd1:(d==0)=false:=by simpa using hd0
    clear hd0
    go_enter Tryz.func45,Tryz.ntmps45
   rotate_left
   focus
    have hn1:(n==0)=false:=by simpa using hn0
    clear hn0
    go_enter Tryz.func45,Tryz.ntmps45
   rotate_left
   all_goals
    go_wp2_with (first
     |(go_at_call 60;refine(HV.out _).mono ?_;rintro e' w' ⟨rfl,bs,d',rfl⟩)
     |(go_at_call 96;refine(HD.out _).mono ?_;rintro e' w' ⟨rfl,bs,d',rfl⟩)
     |(go_at_call 57;refine(HO.out _).mono ?_;rintro e' w' ⟨rfl,rfl⟩))
    go_returns
    exact⟨by first|(rw [HW.out];first|rfl|(simp [*];done)|(simp;done))|rfl|(simp [*];done),growsR⟩
 have b2:(op==2)=false:=by simpa using h2
 by_cases h3:op=3∨op=4
 ·have HW:Hid (wfF m N i ⟨op,a,0,0⟩=decide (0≤a∧a<m)):=Lib.hid (by unfold wfF;rw [if_neg h1,if_neg (by simp),if_neg h2,if_pos h3])
  by_cases ha:0≤a
  ·by_cases hm:a<m
   focus
    rw [decide_eq_true ⟨ha,hm⟩]at HW
   rotate_left
   focus
    rw [decide_eq_false (fun h=>hm h.2)]at HW
   rotate_left
   all_goals
    rcases h3 with rfl|rfl
    ·rcases hzz with ⟨rfl,rfl,rfl⟩|⟨rfl,rfl,hd0⟩|⟨rfl,hn0⟩
     focus
      go_enter Tryz.func45,Tryz.ntmps45
     rotate_left
     focus
      have hd1:(d==0)=false:=by simpa using hd0
      clear hd0
      go_enter Tryz.func45,Tryz.ntmps45
     rotate_left
     focus
      have hn1:(n==0)=false:=by simpa using hn0
      clear hn0
      go_enter Tryz.func45,Tryz.ntmps45
     rotate_left
     all_goals
      go_wp2_with (first
       |(go_at_call 60;refine(HV.out _).mono ?_;rintro e' w' ⟨rfl,bs,d',rfl⟩)
       |(go_at_call 96;refine(HD.out _).mono ?_;rintro e' w' ⟨rfl,bs,d',rfl⟩)
       |(go_at_call 57;refine(HO.out _).mono ?_;rintro e' w' ⟨rfl,rfl⟩))
      go_returns
      exact⟨by first|(rw [HW.out];first|rfl|(simp [*];done)|(simp;done))|rfl|(simp [*];done),growsR⟩
    ·rcases hzz with ⟨rfl,rfl,rfl⟩|⟨rfl,rfl,hd0⟩|⟨rfl,hn0⟩
     focus
      go_enter Tryz.func45,Tryz.ntmps45
     rotate_left
     focus
      have hd1:(d==0)=false:=by simpa using hd0
      clear hd0
      go_enter Tryz.func45,Tryz.ntmps45
     rotate_left
     focus
      have hn1:(n==0)=false:=by simpa using hn0
      clear hn0
      go_enter Tryz.func45,Tryz.ntmps45
     rotate_left
     all_goals
      go_wp2_with (first
       |(go_at_call 60;refine(HV.out _).mono ?_;rintro e' w' ⟨rfl,bs,d',rfl⟩)
       |(go_at_call 96;refine(HD.out _).mono ?_;rintro e' w' ⟨rfl,bs,d',rfl⟩)
       |(go_at_call 57;refine(HO.out _).mono ?_;rintro e' w' ⟨rfl,rfl⟩))
      go_returns
      exact⟨by first|(rw [HW.out];first|rfl|(simp [*];done)|(simp;done))|rfl|(simp [*];done),growsR⟩
  ·rw [decide_eq_false (fun h=>ha h.1)]at HW
   rcases h3 with rfl|rfl
   ·rcases hzz with ⟨rfl,rfl,rfl⟩|⟨rfl,rfl,hd0⟩|⟨rfl,hn0⟩
    focus
     go_enter Tryz.func45,Tryz.ntmps45
    rotate_left
    focus
     have hd1:(d==0)=false:=by simpa using hd0
     clear hd0
     go_enter Tryz.func45,Tryz.ntmps45
    rotate_left
    focus
     have hn1:(n==0)=false:=by simpa using hn0
     clear hn0
     go_enter Tryz.func45,Tryz.ntmps45
    rotate_left
    all_goals
     go_wp2_with (first
      |(go_at_call 60;refine(HV.out _).mono ?_;rintro e' w' ⟨rfl,bs,d',rfl⟩)
      |(go_at_call 96;refine(HD.out _).mono ?_;rintro e' w' ⟨rfl,bs,d',rfl⟩)
      |(go_at_call 57;refine(HO.out _).mono ?_;rintro e' w' ⟨rfl,rfl⟩))
     go_returns
     exact⟨by first|(rw [HW.out];first|rfl|(simp [*];done)|(simp;done))|rfl|(simp [*];done),growsR⟩
   ·rcases hzz with ⟨rfl,rfl,rfl⟩|⟨rfl,rfl,hd0⟩|⟨rfl,hn0⟩
    focus
     go_enter Tryz.func45,Tryz.ntmps45
    rotate_left
    focus
     have hd1:(d==0)=false:=by simpa using hd0
     clear hd0
     go_enter Tryz.func45,Tryz.ntmps45
    rotate_left
    focus
     have hn1:(n==0)=false:=by simpa using hn0
     clear hn0
     go_enter Tryz.func45,Tryz.ntmps45
    rotate_left
    all_goals
     go_wp2_with (first
      |(go_at_call 60;refine(HV.out _).mono ?_;rintro e' w' ⟨rfl,bs,d',rfl⟩)
      |(go_at_call 96;refine(HD.out _).mono ?_;rintro e' w' ⟨rfl,bs,d',rfl⟩)
      |(go_at_call 57;refine(HO.out _).mono ?_;rintro e' w' ⟨rfl,rfl⟩))
     go_returns
     exact⟨by first|(rw [HW.out];first|rfl|(simp [*];done)|(simp;done))|rfl|(simp [*];done),growsR⟩
 have b3:(op==3)=false:=by simp;omega
 have b4:(op==4)=false:=by simp;omega
 by_cases h5:op=5
 ·subst h5
  have HW:Hid (wfF m N i ⟨5,a,0,0⟩=decide (1≤a∧a≤45)):=Lib.hid rfl
  by_cases ha:1≤a
  ·by_cases hm:a≤45
   focus
    rw [decide_eq_true ⟨ha,hm⟩]at HW
   rotate_left
   focus
    rw [decide_eq_false (fun h=>hm h.2)]at HW
   rotate_left
   all_goals
    rcases hzz with ⟨rfl,rfl,rfl⟩|⟨rfl,rfl,hd0⟩|⟨rfl,hn0⟩
    focus
     go_enter Tryz.func45,Tryz.ntmps45
    rotate_left
    focus
     have hd1:(d==0)=false:=by simpa using hd0
     clear hd0
     go_enter Tryz.func45,Tryz.ntmps45
    rotate_left
    focus
     have hn1:(n==0)=false:=by simpa using hn0
     clear hn0
     go_enter Tryz.func45,Tryz.ntmps45
    rotate_left
    all_goals
     go_wp2_with (first
      |(go_at_call 60;refine(HV.out _).mono ?_;rintro e' w' ⟨rfl,bs,d',rfl⟩)
      |(go_at_call 96;refine(HD.out _).mono ?_;rintro e' w' ⟨rfl,bs,d',rfl⟩)
      |(go_at_call 57;refine(HO.out _).mono ?_;rintro e' w' ⟨rfl,rfl⟩))
     go_returns
     exact⟨by first|(rw [HW.out];first|rfl|(simp [*];done)|(simp;done))|rfl|(simp [*];done),growsR⟩
  ·rw [decide_eq_false (fun h=>ha h.1)]at HW
   rcases hzz with ⟨rfl,rfl,rfl⟩|⟨rfl,rfl,hd0⟩|⟨rfl,hn0⟩
   focus
    go_enter Tryz.func45,Tryz.ntmps45
   rotate_left
   focus
    have hd1:(d==0)=false:=by simpa using hd0
    clear hd0
    go_enter Tryz.func45,Tryz.ntmps45
   rotate_left
   focus
    have hn1:(n==0)=false:=by simpa using hn0
    clear hn0
    go_enter Tryz.func45,Tryz.ntmps45
   rotate_left
   all_goals
    go_wp2_with (first
     |(go_at_call 60;refine(HV.out _).mono ?_;rintro e' w' ⟨rfl,bs,d',rfl⟩)
     |(go_at_call 96;refine(HD.out _).mono ?_;rintro e' w' ⟨rfl,bs,d',rfl⟩)
     |(go_at_call 57;refine(HO.out _).mono ?_;rintro e' w' ⟨rfl,rfl⟩))
    go_returns
    exact⟨by first|(rw [HW.out];first|rfl|(simp [*];done)|(simp;done))|rfl|(simp [*];done),growsR⟩
 have b5:(op==5)=false:=by simpa using h5
 by_cases h21:op=21∨op=22
 ·have HW:Hid (wfF m N i ⟨op,a,0,0⟩=decide ((i:Int)<a∧a≤N)):=Lib.hid (by unfold wfF;rw [if_neg h1,if_neg (by simp),if_neg h2,if_neg h3,if_neg h5,if_pos h21])
  by_cases ha:(i:Int)<a
  ·by_cases hm:a≤N
   focus
    rw [decide_eq_true ⟨ha,hm⟩]at HW
   rotate_left
   focus
    rw [decide_eq_false (fun h=>hm h.2)]at HW
   rotate_left
   all_goals
    rcases h21 with rfl|rfl
    ·rcases hzz with ⟨rfl,rfl,rfl⟩|⟨rfl,rfl,hd0⟩|⟨rfl,hn0⟩
     focus
      go_enter Tryz.func45,Tryz.ntmps45
     rotate_left
     focus
      have hd1:(d==0)=false:=by simpa using hd0
      clear hd0
      go_enter Tryz.func45,Tryz.ntmps45
     rotate_left
     focus
      have hn1:(n==0)=false:=by simpa using hn0
      clear hn0
      go_enter Tryz.func45,Tryz.ntmps45
     rotate_left
     all_goals
      go_wp2_with (first
       |(go_at_call 60;refine(HV.out _).mono ?_;rintro e' w' ⟨rfl,bs,d',rfl⟩)
       |(go_at_call 96;refine(HD.out _).mono ?_;rintro e' w' ⟨rfl,bs,d',rfl⟩)
       |(go_at_call 57;refine(HO.out _).mono ?_;rintro e' w' ⟨rfl,rfl⟩))
      go_returns
      exact⟨by first|(rw [HW.out];first|rfl|(simp [*];done)|(simp;done))|rfl|(simp [*];done),growsR⟩
    ·rcases hzz with ⟨rfl,rfl,rfl⟩|⟨rfl,rfl,hd0⟩|⟨rfl,hn0⟩
     focus
      go_enter Tryz.func45,Tryz.ntmps45
     rotate_left
     focus
      have hd1:(d==0)=false:=by simpa using hd0
      clear hd0
      go_enter Tryz.func45,Tryz.ntmps45
     rotate_left
     focus
      have hn1:(n==0)=false:=by simpa using hn0
      clear hn0
      go_enter Tryz.func45,Tryz.ntmps45
     rotate_left
     all_goals
      go_wp2_with (first
       |(go_at_call 60;refine(HV.out _).mono ?_;rintro e' w' ⟨rfl,bs,d',rfl⟩)
       |(go_at_call 96;refine(HD.out _).mono ?_;rintro e' w' ⟨rfl,bs,d',rfl⟩)
       |(go_at_call 57;refine(HO.out _).mono ?_;rintro e' w' ⟨rfl,rfl⟩))
      go_returns
      exact⟨by first|(rw [HW.out];first|rfl|(simp [*];done)|(simp;done))|rfl|(simp [*];done),growsR⟩
  ·rw [decide_eq_false (fun h=>ha h.1)]at HW
   rcases h21 with rfl|rfl
   ·rcases hzz with ⟨rfl,rfl,rfl⟩|⟨rfl,rfl,hd0⟩|⟨rfl,hn0⟩
    focus
     go_enter Tryz.func45,Tryz.ntmps45
    rotate_left
    focus
     have hd1:(d==0)=false:=by simpa using hd0
     clear hd0
     go_enter Tryz.func45,Tryz.ntmps45
    rotate_left
    focus
     have hn1:(n==0)=false:=by simpa using hn0
     clear hn0
     go_enter Tryz.func45,Tryz.ntmps45
    rotate_left
    all_goals
     go_wp2_with (first
      |(go_at_call 60;refine(HV.out _).mono ?_;rintro e' w' ⟨rfl,bs,d',rfl⟩)
      |(go_at_call 96;refine(HD.out _).mono ?_;rintro e' w' ⟨rfl,bs,d',rfl⟩)
      |(go_at_call 57;refine(HO.out _).mono ?_;rintro e' w' ⟨rfl,rfl⟩))
     go_returns
     exact⟨by first|(rw [HW.out];first|rfl|(simp [*];done)|(simp;done))|rfl|(simp [*];done),growsR⟩
   ·rcases hzz with ⟨rfl,rfl,rfl⟩|⟨rfl,rfl,hd0⟩|⟨rfl,hn0⟩
    focus
     go_enter Tryz.func45,Tryz.ntmps45
    rotate_left
    focus
     have hd1:(d==0)=false:=by simpa using hd0
     clear hd0
     go_enter Tryz.func45,Tryz.ntmps45
    rotate_left
    focus
     have hn1:(n==0)=false:=by simpa using hn0
     clear hn0
     go_enter Tryz.func45,Tryz.ntmps45
    rotate_left
    all_goals
     go_wp2_with (first
      |(go_at_call 60;refine(HV.out _).mono ?_;rintro e' w' ⟨rfl,bs,d',rfl⟩)
      |(go_at_call 96;refine(HD.out _).mono ?_;rintro e' w' ⟨rfl,bs,d',rfl⟩)
      |(go_at_call 57;refine(HO.out _).mono ?_;rintro e' w' ⟨rfl,rfl⟩))
     go_returns
     exact⟨by first|(rw [HW.out];first|rfl|(simp [*];done)|(simp;done))|rfl|(simp [*];done),growsR⟩
 have b21:(op==21)=false:=by simp;omega
 have b22:(op==22)=false:=by simp;omega
 by_cases h23:op=23∨op=24
 ·have HW:Hid (wfF m N i ⟨op,a,0,0⟩=decide (a=0)):=Lib.hid (by unfold wfF;rw [if_neg h1,if_neg (by simp),if_neg h2,if_neg h3,if_neg h5,if_neg h21,if_pos h23])
  by_cases ha:a=0
  focus
   rw [decide_eq_true ha]at HW
   subst ha
  rotate_left
  focus
   rw [decide_eq_false ha]at HW
   have a0:(a==0)=false:=by simpa using ha
  rotate_left
  all_goals
   rcases h23 with rfl|rfl
   ·rcases hzz with ⟨rfl,rfl,rfl⟩|⟨rfl,rfl,hd0⟩|⟨rfl,hn0⟩
    focus
     go_enter Tryz.func45,Tryz.ntmps45
    rotate_left
    focus
     have hd1:(d==0)=false:=by simpa using hd0
     clear hd0
     go_enter Tryz.func45,Tryz.ntmps45
    rotate_left
    focus
     have hn1:(n==0)=false:=by simpa using hn0
     clear hn0
     go_enter Tryz.func45,Tryz.ntmps45
    rotate_left
    all_goals
     go_wp2_with (first
      |(go_at_call 60;refine(HV.out _).mono ?_;rintro e' w' ⟨rfl,bs,d',rfl⟩)
      |(go_at_call 96;refine(HD.out _).mono ?_;rintro e' w' ⟨rfl,bs,d',rfl⟩)
      |(go_at_call 57;refine(HO.out _).mono ?_;rintro e' w' ⟨rfl,rfl⟩))
     go_returns
     exact⟨by first|(rw [HW.out];first|rfl|(simp [*];done)|(simp;done))|rfl|(simp [*];done),growsR⟩
   ·rcases hzz with ⟨rfl,rfl,rfl⟩|⟨rfl,rfl,hd0⟩|⟨rfl,hn0⟩
    focus
     go_enter Tryz.func45,Tryz.ntmps45
    rotate_left
    focus
     have hd1:(d==0)=false:=by simpa using hd0
     clear hd0
     go_enter Tryz.func45,Tryz.ntmps45
    rotate_left
    focus
     have hn1:(n==0)=false:=by simpa using hn0
     clear hn0
     go_enter Tryz.func45,Tryz.ntmps45
    rotate_left
    all_goals
     go_wp2_with (first
      |(go_at_call 60;refine(HV.out _).mono ?_;rintro e' w' ⟨rfl,bs,d',rfl⟩)
      |(go_at_call 96;refine(HD.out _).mono ?_;rintro e' w' ⟨rfl,bs,d',rfl⟩)
      |(go_at_call 57;refine(HO.out _).mono ?_;rintro e' w' ⟨rfl,rfl⟩))
     go_returns
     exact⟨by first|(rw [HW.out];first|rfl|(simp [*];done)|(simp;done))|rfl|(simp [*];done),growsR⟩
 have b23:(op==23)=false:=by simp;omega
 have b24:(op==24)=false:=by simp;omega
 have HW:Hid (wfF m N i ⟨op,a,0,0⟩=decide (opF op≠0∧a=0)):=Lib.hid (by unfold wfF;rw [if_neg h1,if_neg (by simp),if_neg h2,if_neg h3,if_neg h5,if_neg h21,if_neg h23])
 clear h1 h2 h3 h5 h21 h23
 obtain⟨q,hq⟩:∃q,opF op=q:=⟨_,rfl⟩
 have HQ:=Lib.hid hq
 clear HO
 have HO:=Lib.hid (fun w=>by have:=oper8_any op w;rw [hq]at this;exact this)
 rw [hq]at HW
 clear hq
 by_cases hq0:q=0
 ·subst hq0
  rw [decide_eq_false (fun h=>h.1 rfl)]at HW
  rcases hzz with ⟨rfl,rfl,rfl⟩|⟨rfl,rfl,hd0⟩|⟨rfl,hn0⟩
  focus
   go_enter Tryz.func45,Tryz.ntmps45
  rotate_left
  focus
   have hd1:(d==0)=false:=by simpa using hd0
   clear hd0
   go_enter Tryz.func45,Tryz.ntmps45
  rotate_left
  focus
   have hn1:(n==0)=false:=by simpa using hn0
   clear hn0
   go_enter Tryz.func45,Tryz.ntmps45
  rotate_left
  all_goals
   go_wp2_with (first
    |(go_at_call 60;refine(HV.out _).mono ?_;rintro e' w' ⟨rfl,bs,d',rfl⟩)
    |(go_at_call 96;refine(HD.out _).mono ?_;rintro e' w' ⟨rfl,bs,d',rfl⟩)
    |(go_at_call 57;refine(HO.out _).mono ?_;rintro e' w' ⟨rfl,rfl⟩))
   go_returns
   exact⟨by first|(rw [HW.out];first|rfl|(simp [*];done)|(simp;done))|rfl|(simp [*];done),growsR⟩
 ·have q0:(q !=0)=true:=by simpa using hq0
  by_cases ha:a=0
  focus
   rw [decide_eq_true ⟨hq0,ha⟩]at HW
   subst ha
   clear hq0
  rotate_left
  focus
   rw [decide_eq_false (fun h=>ha h.2)]at HW
   have a0:(a==0)=false:=by simpa using ha
   clear hq0 ha
  rotate_left
  all_goals
   rcases hzz with ⟨rfl,rfl,rfl⟩|⟨rfl,rfl,hd0⟩|⟨rfl,hn0⟩
   focus
    go_enter Tryz.func45,Tryz.ntmps45
   rotate_left
   focus
    have hd1:(d==0)=false:=by simpa using hd0
    clear hd0
    go_enter Tryz.func45,Tryz.ntmps45
   rotate_left
   focus
    have hn1:(n==0)=false:=by simpa using hn0
    clear hn0
    go_enter Tryz.func45,Tryz.ntmps45
   rotate_left
   all_goals
    go_wp2_with (first
     |(go_at_call 60;refine(HV.out _).mono ?_;rintro e' w' ⟨rfl,bs,d',rfl⟩)
     |(go_at_call 96;refine(HD.out _).mono ?_;rintro e' w' ⟨rfl,bs,d',rfl⟩)
     |(go_at_call 57;refine(HO.out _).mono ?_;rintro e' w' ⟨rfl,rfl⟩))
    go_returns
    exact⟨by first|(rw [HW.out];first|rfl|(simp [*];done)|(simp;done))|rfl|(simp [*];done),growsR⟩
end Go.Proofs.YtaghhncnicbedaaGreatDoor
