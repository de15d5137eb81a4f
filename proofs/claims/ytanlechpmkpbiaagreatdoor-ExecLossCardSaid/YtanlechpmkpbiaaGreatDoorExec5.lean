/-
  Lemmas (part 5) for: Exec: ExecRuns, ExecSteps, ExecLoss hold for all arguments; no condition.
-/
import Derived.Test.YtanlechpmkpbiaaGreatDoorExec1
import Derived.Test.YtanlechpmkpbiaaGreatDoorExec4
set_option linter.all false
namespace Go.V
open Go.N Go.Proofs
set_option maxRecDepth 20000
theorem cH2 {pl:List Int}{x:Nd}{o:Opc}(ho:x.op=o.str):(0<o.many->(reN pl x).a=atZ pl x.a/\x.a∈cEp x)/\(1<o.many->(reN pl x).b=atZ pl x.b/\x.b∈cEp x)/\(o.many=0->(reN pl x).a=x.a)/\(o.many<2->(reN pl x).b=x.b):=by
 have hp:aBh x.op=some o.many:=by rw [ho,aFw]
 have hm:=aNi hp
 have h3:o.many=0\/o.many=1\/o.many=2:=by omega
 rcases h3 with h|h|h
 · rw [h] at hp
   rw [re0 hp,h]
   exact ⟨λh=>absurd h (by decide),λh=>absurd h (by decide),λ_=>rfl,λ_=>rfl⟩
 · rw [h] at hp
   rw [re1 hp,dP1 hp,h]
   exact ⟨λ_=>⟨rfl,by simp⟩,λh=>absurd h (by decide),λh=>absurd h (by decide),λ_=>rfl⟩
 · rw [h] at hp
   rw [re2 hp,dP2 hp,h]
   exact ⟨λ_=>⟨rfl,by simp⟩,λ_=>⟨rfl,by simp⟩,λh=>absurd h (by decide),λh=>absurd h (by decide)⟩
structure Emb (l out:List Nd) (pl:List Int) (N:Nat->Bool):Prop where
 at_:∀j x,l[j]? =some x->N j=true->∃m:Nat,atZ pl (j:Nat)=(m:Nat)/\out[m]? =some (reN pl x)
 lt:∀j x,l[j]? =some x->N j=true->∀k:Nat,(k:Int)∈cEp x->N k=true/\∀m mk:Nat,atZ pl (j:Nat)=(m:Nat)->atZ pl (k:Nat)=(mk:Nat)->mk<m
 onto:∀m,m<out.length->∃j,j<l.length/\N j=true/\atZ pl (j:Nat)=(m:Nat)
end Go.V
