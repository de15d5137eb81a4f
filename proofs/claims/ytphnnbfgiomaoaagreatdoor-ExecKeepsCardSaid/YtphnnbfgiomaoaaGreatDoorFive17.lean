/-
  Lemmas (part 17) for: the statement.
-/
import Derived.Test.YtphnnbfgiomaoaaGreatDoorFive7
set_option linter.all false
namespace Go.V
open Go.N Go.Proofs
set_option maxRecDepth 20000
def cG3 (n:Nat):List Int:=(List.range n).map λ(k:Nat)=>(k:Int)
theorem cFz (n:Nat):(cG3 n).length=n:=by simp [cG3]
theorem cHb (n:Nat):cG3 (n+1)=cG3 n++[(n:Int)]:=by simp [cG3,List.range_succ]
theorem cFa {i k:Nat}(h:k<i):atZ (cG3 i) k=k:=by rw [cEs (by rw [cFz];exact h)];simp [cG3]
theorem cHw {g:Gr}(hg:aC1 g=true){i:Nat}{x:Nd}(hx:g.nodes[i]? =some x):reN (cG3 i) x=x:=by
 obtain ⟨m,hop,F⟩:=cGn hg hx
 have hm:=aNi hop
 have hp:=cE1 hg hx
 have h3:m=0\/m=1\/m=2:=by omega
 rcases h3 with rfl|rfl|rfl
 · exact re0 hop
 · rw [dP1 hop] at hp
   obtain ⟨k,hk,hki⟩:=hp x.a (by simp)
   rw [re1 hop,hk,cFa hki,<-hk]
 · rw [dP2 hop] at hp
   obtain ⟨k,hk,hki⟩:=hp x.a (by simp)
   obtain ⟨k2,hk2,hki2⟩:=hp x.b (by simp)
   rw [re2 hop,hk,cFa hki,<-hk,hk2,cFa hki2,<-hk2]
end Go.V
namespace Go.V
open Go.N Go.Proofs
set_option maxRecDepth 20000
def cEo (N:Nat->Bool):Nat->Nat
 |0=>0
 |i+1=>cEo N i+(if N i=true then 1 else 0)
theorem cE2 {l:List Nd}{N:Nat->Bool}:∀i,i<=l.length->(cEm l N i).2.length=cEo N i
 |0,_=>rfl
 |i+1,h=>by
  have ih:=cE2 (l:=l) (N:=N) i (by omega)
  have hx:l[i]? =some l[i]:=List.getElem?_eq_getElem (by omega)
  cases hN:N i with
  |true=>rw [cEn (Prod.eta _).symm hx hN];simp [cEo,hN,ih]
  |false=>rw [cEw (Prod.eta _).symm hx hN];simp [cEo,hN,ih]
end Go.V
