/-
  Lemmas (part 29) for: the statement.
-/
import Derived.Test.YtphnnbfgiomaoaaGreatDoorFive21
import Derived.Test.YtphnnbfgiomaoaaGreatDoorFive28
set_option linter.all false
namespace Go.V
open Go.N Go.Proofs
set_option maxRecDepth 20000
theorem cVs {bd:Nd->List Rat}{g h:Gr}{keep out:List Int}(T:Tight bd g h keep out) (hk:cEx g keep=true):cJb bd h.nodes out=cJb bd g.nodes keep:=by
 refine List.ext_getElem (by rw [cLq,cLq,T.len]) λi h1 h2=>?_
 rw [cLq] at h1 h2
 obtain ⟨k,e1,e2⟩:=cE7 hk (List.getElem_mem h2)
 obtain ⟨r,e3,e4,e5⟩:=T.keep i h2 k e1
 obtain ⟨h3,e6⟩:=List.getElem?_eq_some_iff.1 e3
 simp only [cJb,List.getElem_map]
 rw [e6,e1,Int.toNat_natCast,Int.toNat_natCast,e5]
theorem cU3 {bs:List Bd}{g h:Gr}{keep out:List Int}(T:Tight (bdB bs) g h keep out) (hg:aC1 g=true):aGc bs h=aGc bs g:=by
 obtain ⟨_,_,q,hq,hql⟩:=aMd hg
 obtain ⟨r,e1,e2,_,e3⟩:=T.loss q hq
 rw [aGc,aGc,e1,hq,Int.toNat_natCast,Int.toNat_natCast,e3]
theorem cRv {bs:List Bd}{g h:Gr}{keep out:List Int}(T:Tight (bdB bs) g h keep out) (hk:cEu g keep=true){steps:Int}(hs:(g.nodes.length:Int)<=steps):cJc bs h out steps=cJc bs g keep steps:=by
 have hg:aC1 g=true:=by simp only [cEu,Bool.and_eq_true] at hk;exact hk.1
 have hkk:cEx g keep=true:=by simp only [cEu,Bool.and_eq_true] at hk;exact hk.2
 have h1:cEu h out=true:=by rw [cEu,T.ok,T.cEx];rfl
 have h2:=T.short
 have h3:(h.nodes.length:Int)<=steps:=by omega
 rw [cJc,cJc,h1,hk,T.bound bs,if_pos rfl,if_pos rfl,if_pos hs,if_pos h3,cVs T hkk,cU3 T hg]
theorem cVr (bd:Nd->List Rat) (l:List Nd) (keep:List Int){i:Nat}(h:i<keep.length):(cJb bd l (keep++keep))[i+keep.length]? =(cJb bd l (keep++keep))[i]? :=by
 simp only [cJb,List.map_append]
 rw [List.getElem?_append_right (by rw [List.length_map];omega),List.getElem?_append_left (by rw [List.length_map];exact h),List.length_map,Nat.add_sub_cancel]
end Go.V
