/-
  Lemmas (part 27) for: the statement.
-/
import Derived.Test.YtphnnbfgiomaoaaGreatDoorFive14
set_option linter.all false
namespace Go.V
open Go.N Go.Proofs
set_option maxRecDepth 20000
def bLo (bs:List Bd) (x:Nd):List Int×List ByteArray:=match bs.find? λb=>decide (b.name=x.name) with
 |some b=>(b.shape,b.data)
 |none=>([],[])
theorem bVt {bs:List Bd}{x:Nd}(h:aDx bs x=true):aEv (bLo bs x).1 (bLo bs x).2=aAs x.shape (bdB bs x):=by
 rcases aNd bs x.name with ⟨hf,_⟩|⟨k,hk,hf,_,_⟩
 · rw [aDx,hf] at h;cases h
 · have hb:=@bTp bs x k hk hf
   rw [aDx,hf] at h
   simp only [Bool.and_eq_true,decide_eq_true_eq] at h
   obtain ⟨_,hd⟩:=hb h
   rw [bLo,hf]
   dsimp only
   rw [aAs,aEv,aAj,<-hd,h.2]
end Go.V
