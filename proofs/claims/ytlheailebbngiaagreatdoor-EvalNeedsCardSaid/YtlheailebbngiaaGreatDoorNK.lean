import Derived.Test.YtlheailebbngiaaGreatDoorLBase
import Derived.Laws.IdiomCopy
import Derived.JoinedOf
set_option linter.all false
set_option maxHeartbeats 16000000
set_option maxRecDepth 1000000
namespace Go
theorem zh{P:Prop}(h:P):RowKit.Hid P:=h
theorem nz0{p:Prop}(h:p:=by
 go_wp2_with ((first|(go_at_call 47;refine(HI5.out _).mono ?_;rintro e' w' ⟨rfl,rfl⟩)|(go_at_call 194;refine(HN5.out _ (HT1.out.grows growsA)).mono ?_;rintro e' w' ⟨rfl,bs1,d1',rfl⟩)|(go_at_call 109;refine(HDC.out _ _ ((World.heap_grow _ _ _ (by simp)).trans (heap_new _ _ _ (by simp))) growsA).mono ?_;rintro e' w' ⟨rfl,bs2,d2',rfl⟩)|(go_at_call 67;refine(HIF.out _ growsA).mono ?_;rintro e' w' ⟨rfl,bs3,d3',rfl⟩)))
 go_returns
 exact LtPost.bad HC.out (World.Grows.trans' HG.out growsA)):p:=h
theorem nz1{p:Prop}(h:p:=by
 go_wp2_with ((first|(go_at_call 49;refine(HI5.out _).mono ?_;rintro e' w' ⟨rfl,rfl⟩)|(go_at_call 89;refine(HN5.out _).mono ?_;rintro e' w' ⟨rfl,rfl⟩)))
 go_returns
 exact LtCap.bad HC.out (World.Grows.trans' HG.out growsA)):p:=h
theorem nz2{p:Prop}(h:p:=by
 obtain⟨h0,a,cap,hv,h1⟩:=h;refine⟨h0,a,cap,hv,h1.imp id ?_⟩;rintro⟨b,off,ha,hb,hc⟩;have:=hg.below.size
 exact⟨b,off,ha,by omega,fun i hi=>(hc i hi).imp fun u hu=>hu.same hg hb⟩):p:=h
theorem nz3{p:Prop}(h:p:=by
 rw [List.drop_eq_getElem_cons hk,List.getD_eq_getElem?_getD,List.getElem?_eq_getElem hk];rfl):p:=h
theorem nz4{p:Prop}(h:p:=by
 rw [List.take_succ_eq_append_getElem hk,List.getD_eq_getElem?_getD,List.getElem?_eq_getElem hk];rfl):p:=h
end Go
