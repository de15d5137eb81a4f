/-
  Lemmas (part 5) for: the statement.
-/
import Derived.Test.YtphnnbfgiomaoaaGreatDoorFive4
set_option linter.all false
namespace Go.V
open Go.N Go.Proofs
set_option maxRecDepth 20000
variable (gl:Gl)
set_option maxHeartbeats 8000000 in
theorem aSv (l:List Nd) (x:Nd) (o:Opc) (ho:x.op=o.str) (hf:aN8 l x o.many=false) (hx:x.Sm):
 aAc Tryz.prog gl 43 [.ro 8 (aAv l),.agg x.cells] (λy=>y= .tup [.ro 1 [],.bool false]):=by
 obtain ⟨op,a,b,name,shape,k,n,data⟩:=x
 dsimp only at ho
 subst ho
 have hp:=aK4 gl o.str
 have hpz:aIp o.str=(o.many:Int):=by rw [aIp,aFw]
 rw [hpz] at hp
 have hname:=aTw gl name (Nat.lt_of_le_of_lt hx.name (by decide))
 have hlr:(aAv l).length=l.length:=rowN_length l
 have hld:(aCm data).length=data.length:=rowS_length data
 refine aAc.taken ?_
 cases o
 all_goals (refine vgo aAe Tryz.func43 ?_)
 all_goals (repeat' first|refine sV ⟨?_⟩|refine sq (λh=>⟨?_⟩) λh=>⟨?_⟩|fail)
 all_goals first
  |((conv=>whnf);exact ⟨_,aAf (show aC7 .nils (.ro 1 []) from ⟨1,rfl⟩) rfl,rfl⟩)
  |exact (bZ8 hf (by
    clear hf hp hname hx
    constructor
    all_goals (dsimp only [Opc.many,Opc.str])
    all_goals first
     |omega
     |(intro e;first|exact absurd e (by decide)|exact absurd rfl e|assumption|omega|(exact cAe (by omega) (by omega))|(rename_i q;simpa using q)|simp_all))).elim
end Go.V
