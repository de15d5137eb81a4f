/-
  Lemmas (part 23) for: Fold and Eval: FoldKeeps, EvalAll, EvalScale hold for all arguments; no condition.
-/
import Derived.Test.YtanlechpmkpbiaaGreatDoorKeep13
set_option linter.all false
namespace Go.V
open Go.N Go.Proofs
set_option maxRecDepth 20000
theorem bGo {bd:Nd->List Rat}{g:Gr}(hg:aC1 g=true) (x:Nd):∀i,i<=g.nodes.length->aKx bd (g.nodes++[x]) i=aKx bd g.nodes i
 |0,_=>rfl
 |i+1,h=>by
  have hi:i<g.nodes.length:=by omega
  have hx:g.nodes[i]? =some g.nodes[i]:=List.getElem?_eq_getElem hi
  have hx2:(g.nodes++[x])[i]? =some g.nodes[i]:=by rw [List.getElem?_append_left hi];exact hx
  rw [aJt hx2,aJt hx,bGo hg x i (by omega)]
  obtain ⟨o,ho,F⟩:=aIo hg hx
  have hsh:∀p:Int,inR p (g.nodes.take i)=true->aBv (g.nodes++[x]) p=aBv g.nodes p:=λp hp=>by
   obtain ⟨q,hq,h1,h2⟩:=aDq hp
   rw [hq,aAp (by rw [List.length_append];omega),aAp h2,List.getElem_append_left h2]
  have e:bAx bd (g.nodes++[x]) (aKx bd g.nodes i) g.nodes[i]=bAx bd g.nodes (aKx bd g.nodes i) g.nodes[i]:=by
   unfold bAx
   split
   · rfl
   · rw [ho,aFg]
     exact aXn (λh=>⟨hsh _ (F.ia h),rfl⟩) (λh=>⟨hsh _ (F.ib h),rfl⟩)
  rw [e]
theorem aFj {bd:Nd->List Rat}{g:Gr}(hg:aC1 g=true) (x:Nd){j:Nat}(hj:j<g.nodes.length):aAk bd (g.nodes++[x]) j=aAk bd g.nodes j:=by
 have e:=aMp (bd:=bd) (l:=g.nodes++[x]) (i:=g.nodes.length) (j:=(g.nodes++[x]).length) (by simp) (Nat.le_refl _)
 rw [bGo hg x g.nodes.length (Nat.le_refl _)] at e
 rw [aAk,aAk,e,List.getElem?_take_of_lt hj]
end Go.V
