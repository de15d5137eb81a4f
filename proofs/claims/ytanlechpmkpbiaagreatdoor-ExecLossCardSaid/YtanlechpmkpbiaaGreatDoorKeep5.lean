/-
  Lemmas (part 5) for: Fold and Eval: FoldKeeps, EvalAll, EvalScale hold for all arguments; no condition.
-/
import Derived.Test.YtanlechpmkpbiaaGreatDoorKeep3
import Derived.Test.YtanlechpmkpbiaaGreatDoorKeep4
import Derived.OpenShut
import Derived.Lay
import Derived.LaidMore
import Derived.ProofKit
import Derived.SevenTiedAt
import Derived.Stop.Joined
import Derived.Stop.LaidErr
import Derived.ChangeOld
import Derived.Carry
import Derived.DataElems
import Derived.Test.YtanlechpmkpbiaaGreatDoorTie
import Derived.Test.YtanlechpmkpbiaaGreatDoorCards
set_option linter.all false
namespace Go.V
open Go.N Go.Proofs
set_option maxRecDepth 20000
variable (gl:Gl)
def bCo:Tab:=[(25,i25),(9,i9),(3,i3),(29,i29),(4,i4),(23,i23),(22,i22),(149,aV9)]
theorem aAe:TOK Tryz.prog bCo:=⟨K25,⟨K9,⟨K3,⟨K29,⟨K4,⟨K23,⟨K22,⟨aXt,trivial⟩⟩⟩⟩⟩⟩⟩⟩
set_option maxHeartbeats 8000000 in
theorem aSv (l:List Nd) (x:Nd) (o:Opc) (ho:x.op=o.str) (hf:aN8 l x o.many=false) (hx:x.Sm):
 aAc Tryz.prog gl 57 [.ro 8 (aAv l),.agg x.cells] (λy=>y= .tup [.ro 1 [],.bool false]):=by
 obtain ⟨op,a,b,name,shape,k,n,data⟩:=x
 dsimp only at ho
 subst ho
 have hp:=aK4 gl o.str
 have hpz:aIp o.str=(o.many:Int):=by rw [aIp,aFw]
 rw [hpz] at hp
 have hname:=aTw gl name (Nat.lt_of_le_of_lt hx.name (by decide))
 have hlr:(aAv l).length=l.length:=rowN_length l
 have hld:(aCm data).length=data.length:=rowS_length data
 refine aAc.taken ?_
 cases o
 all_goals (refine aAa aAe HM Tryz.func57 rfl (by decide +kernel) (by decide +kernel) rfl ?_)
 all_goals (repeat' first|refine sY ⟨?_⟩|(refine sq ?_ ?_<;>refine λh=>⟨?_⟩<;>(first|contradiction|(exfalso;omega)|skip))|fail)
 all_goals first
  |((conv=>whnf);exact ⟨_,aAf (show aC7 .nils (.ro 1 []) from ⟨1,rfl⟩) rfl,rfl⟩)
  |exact (bZ8 hf (by
    clear hf hp hname hx
    constructor
    all_goals (dsimp only [Opc.many,Opc.str])
    all_goals first
     |omega
     |(intro e;first|exact absurd e (by decide)|exact absurd rfl e|assumption|omega|(exact cAe (by omega) (by omega))|(rename_i q;simpa using q)|simp_all))).elim
end Go.V
namespace Go.V
open Go.N Go.Proofs
set_option maxRecDepth 20000
variable (gl:Gl)
set_option maxHeartbeats 8000000 in
theorem aP3 (l:List Nd) (x:Nd) (o:Opc) (ho:x.op=o.str) (hf:aN8 l x o.many=true) (hx:x.Sm) (hl:∀y∈l,y.Sm):
 aAc Tryz.prog gl 57 [.ro 8 (aAv l),.agg x.cells] (λy=>y= .tup [.ro 1 (aAh (bD8 l x).1),.bool (bD8 l x).2]):=by
 rw [bXn (by rw [ho];exact aFw o) hf]
 obtain ⟨op,a,b,name,shape,k,n,data⟩:=x
 dsimp only at ho
 subst ho
 have F:=(aI7 _ _ _).1 hf
 have hp:=aK4 gl o.str
 have hpz:aIp o.str=(o.many:Int):=by rw [aIp,aFw]
 rw [hpz] at hp
 have hname:=aTw gl name (Nat.lt_of_le_of_lt hx.name (by decide))
 have hrs:=aA2 gl shape (Nat.lt_of_le_of_lt hx.shape (by decide))
 have hr0:=aA2 gl [] (by decide)
 have hlr:(aAv l).length=l.length:=rowN_length l
 have hld:(aCm data).length=data.length:=rowS_length data
 have hk:=hx.k
 have hdl:data.length<=1000:=hx.data
 clear hf
 refine aAc.taken ?_
 cases o
 case param=>
  obtain rfl:a=0:=F.a0 rfl
  obtain rfl:b=0:=F.b0 (by decide)
  rw [if_pos (by decide),if_pos (by decide)]
  obtain rfl:k=⟨#[]⟩:=F.k (by dsimp only;decide)
  obtain rfl:n=0:=F.n (by dsimp only;decide)
  obtain rfl:data=[]:=List.length_eq_zero_iff.1 (F.d (by dsimp only;decide))
  rw [show aGy name=true from F.nm rfl] at hname
  rw [aDr .param (s:=shape) rfl rfl (by decide)]
  refine aAa aAe HM Tryz.func57 rfl (by decide +kernel) (by decide +kernel) rfl ?_
  repeat' first|refine sY ⟨?_⟩|(refine sq ?_ ?_<;>refine λh=>⟨?_⟩<;>(first|contradiction|(exfalso;omega)|skip))|fail
  all_goals (conv=>whnf)
  all_goals first|exact ⟨_,aAf rfl rfl,rfl⟩|exact ⟨_,aAf (show aC7 .nils (.ro 1 []) from ⟨1,rfl⟩) rfl,rfl⟩
 case input=>
  obtain rfl:a=0:=F.a0 rfl
  obtain rfl:b=0:=F.b0 (by decide)
  rw [if_pos (by decide),if_pos (by decide)]
  obtain rfl:k=⟨#[]⟩:=F.k (by dsimp only;decide)
  obtain rfl:n=0:=F.n (by dsimp only;decide)
  obtain rfl:data=[]:=List.length_eq_zero_iff.1 (F.d (by dsimp only;decide))
  rw [show aGy name=true from F.nm rfl] at hname
  rw [aDr .input (s:=shape) rfl rfl (by decide)]
  refine aAa aAe HM Tryz.func57 rfl (by decide +kernel) (by decide +kernel) rfl ?_
  repeat' first|refine sY ⟨?_⟩|(refine sq ?_ ?_<;>refine λh=>⟨?_⟩<;>(first|contradiction|(exfalso;omega)|skip))|fail
  all_goals (conv=>whnf)
  all_goals first|exact ⟨_,aAf rfl rfl,rfl⟩|exact ⟨_,aAf (show aC7 .nils (.ro 1 []) from ⟨1,rfl⟩) rfl,rfl⟩
 case relu=>
  obtain ⟨i,rfl,hi⟩:∃i:Nat,a=i/\i<l.length:=aBc (F.ia (by decide))
  obtain rfl:b=0:=F.b0 (by decide)
  rw [if_neg (by decide),if_pos (by decide)]
  dsimp only
  rw [aAp hi]
  obtain ⟨_,_,_,_,_,_,_,g⟩:=aBz hi
  have hA:=(hl _ (List.getElem_mem hi)).shape
  generalize l[i].shape=A at g hA ⊢
  have hra:=aA2 gl A (by omega)
  have hlA:=rowZ_length A
  obtain rfl:name=⟨#[]⟩:=F.nn rfl
  obtain rfl:k=⟨#[]⟩:=F.k (by dsimp only;decide)
  obtain rfl:n=0:=F.n (by dsimp only;decide)
  obtain rfl:data=[]:=List.length_eq_zero_iff.1 (F.d (by dsimp only;decide))
  rw [aDr .relu (s:=A) rfl rfl (by decide)]
  refine aAa aAe HM Tryz.func57 rfl (by decide +kernel) (by decide +kernel) rfl ?_
  repeat' first|refine sY ⟨?_⟩|(refine sq ?_ ?_<;>refine λh=>⟨?_⟩<;>(first|contradiction|(exfalso;omega)|skip))|fail
  all_goals (conv=>whnf)
  all_goals first|exact ⟨_,aAf rfl rfl,rfl⟩|exact ⟨_,aAf (show aC7 .nils (.ro 1 []) from ⟨1,rfl⟩) rfl,rfl⟩
 case abs=>
  obtain ⟨i,rfl,hi⟩:∃i:Nat,a=i/\i<l.length:=aBc (F.ia (by decide))
  obtain rfl:b=0:=F.b0 (by decide)
  rw [if_neg (by decide),if_pos (by decide)]
  dsimp only
  rw [aAp hi]
  obtain ⟨_,_,_,_,_,_,_,g⟩:=aBz hi
  have hA:=(hl _ (List.getElem_mem hi)).shape
  generalize l[i].shape=A at g hA ⊢
  have hra:=aA2 gl A (by omega)
  have hlA:=rowZ_length A
  obtain rfl:name=⟨#[]⟩:=F.nn rfl
  obtain rfl:k=⟨#[]⟩:=F.k (by dsimp only;decide)
  obtain rfl:n=0:=F.n (by dsimp only;decide)
  obtain rfl:data=[]:=List.length_eq_zero_iff.1 (F.d (by dsimp only;decide))
  rw [aDr .abs (s:=A) rfl rfl (by decide)]
  refine aAa aAe HM Tryz.func57 rfl (by decide +kernel) (by decide +kernel) rfl ?_
  repeat' first|refine sY ⟨?_⟩|(refine sq ?_ ?_<;>refine λh=>⟨?_⟩<;>(first|contradiction|(exfalso;omega)|skip))|fail
  all_goals (conv=>whnf)
  all_goals first|exact ⟨_,aAf rfl rfl,rfl⟩|exact ⟨_,aAf (show aC7 .nils (.ro 1 []) from ⟨1,rfl⟩) rfl,rfl⟩
 case step=>
  obtain ⟨i,rfl,hi⟩:∃i:Nat,a=i/\i<l.length:=aBc (F.ia (by decide))
  obtain rfl:b=0:=F.b0 (by decide)
  rw [if_neg (by decide),if_pos (by decide)]
  dsimp only
  rw [aAp hi]
  obtain ⟨_,_,_,_,_,_,_,g⟩:=aBz hi
  have hA:=(hl _ (List.getElem_mem hi)).shape
  generalize l[i].shape=A at g hA ⊢
  have hra:=aA2 gl A (by omega)
  have hlA:=rowZ_length A
  obtain rfl:name=⟨#[]⟩:=F.nn rfl
  obtain rfl:k=⟨#[]⟩:=F.k (by dsimp only;decide)
  obtain rfl:n=0:=F.n (by dsimp only;decide)
  obtain rfl:data=[]:=List.length_eq_zero_iff.1 (F.d (by dsimp only;decide))
  rw [aDr .step (s:=A) rfl rfl (by decide)]
  refine aAa aAe HM Tryz.func57 rfl (by decide +kernel) (by decide +kernel) rfl ?_
  repeat' first|refine sY ⟨?_⟩|(refine sq ?_ ?_<;>refine λh=>⟨?_⟩<;>(first|contradiction|(exfalso;omega)|skip))|fail
  all_goals (conv=>whnf)
  all_goals first|exact ⟨_,aAf rfl rfl,rfl⟩|exact ⟨_,aAf (show aC7 .nils (.ro 1 []) from ⟨1,rfl⟩) rfl,rfl⟩
 case sign=>
  obtain ⟨i,rfl,hi⟩:∃i:Nat,a=i/\i<l.length:=aBc (F.ia (by decide))
  obtain rfl:b=0:=F.b0 (by decide)
  rw [if_neg (by decide),if_pos (by decide)]
  dsimp only
  rw [aAp hi]
  obtain ⟨_,_,_,_,_,_,_,g⟩:=aBz hi
  have hA:=(hl _ (List.getElem_mem hi)).shape
  generalize l[i].shape=A at g hA ⊢
  have hra:=aA2 gl A (by omega)
  have hlA:=rowZ_length A
  obtain rfl:name=⟨#[]⟩:=F.nn rfl
  obtain rfl:k=⟨#[]⟩:=F.k (by dsimp only;decide)
  obtain rfl:n=0:=F.n (by dsimp only;decide)
  obtain rfl:data=[]:=List.length_eq_zero_iff.1 (F.d (by dsimp only;decide))
  rw [aDr .sign (s:=A) rfl rfl (by decide)]
  refine aAa aAe HM Tryz.func57 rfl (by decide +kernel) (by decide +kernel) rfl ?_
  repeat' first|refine sY ⟨?_⟩|(refine sq ?_ ?_<;>refine λh=>⟨?_⟩<;>(first|contradiction|(exfalso;omega)|skip))|fail
  all_goals (conv=>whnf)
  all_goals first|exact ⟨_,aAf rfl rfl,rfl⟩|exact ⟨_,aAf (show aC7 .nils (.ro 1 []) from ⟨1,rfl⟩) rfl,rfl⟩
 case add=>
  obtain ⟨i,rfl,hi⟩:∃i:Nat,a=i/\i<l.length:=aBc (F.ia (by decide))
  obtain ⟨j,rfl,hj⟩:∃i:Nat,b=i/\i<l.length:=aBc (F.ib (by decide))
  rw [if_neg (by decide),if_neg (by decide)]
  dsimp only
  rw [aAp hi,aAp hj]
  obtain ⟨_,_,_,_,_,_,_,g⟩:=aBz hi
  obtain ⟨_,_,_,_,_,_,_,g2⟩:=aBz hj
  have hA:=(hl _ (List.getElem_mem hi)).shape
  have hB:=(hl _ (List.getElem_mem hj)).shape
  generalize l[i].shape=A at g hA ⊢
  generalize l[j].shape=B at g2 hB ⊢
  have hra:=aA2 gl A (by omega)
  have hsame:=aDh gl A B (by omega) (by omega)
  have hlA:=rowZ_length A
  have hlB:=rowZ_length B
  obtain rfl:name=⟨#[]⟩:=F.nn rfl
  obtain rfl:k=⟨#[]⟩:=F.k (by dsimp only;decide)
  obtain rfl:n=0:=F.n (by dsimp only;decide)
  obtain rfl:data=[]:=List.length_eq_zero_iff.1 (F.d (by dsimp only;decide))
  by_cases hAB:A=B
  · rw [aDr .add (s:=A) rfl (by show (A,decide (A=B))=_;rw [decide_eq_true hAB]) (by decide)]
    rw [decide_eq_true hAB] at hsame
    refine aAa aAe HM Tryz.func57 rfl (by decide +kernel) (by decide +kernel) rfl ?_
    repeat' first|refine sY ⟨?_⟩|(refine sq ?_ ?_<;>refine λh=>⟨?_⟩<;>(first|contradiction|(exfalso;omega)|skip))|fail
    all_goals (conv=>whnf)
    all_goals first|exact ⟨_,aAf rfl rfl,rfl⟩|exact ⟨_,aAf (show aC7 .nils (.ro 1 []) from ⟨1,rfl⟩) rfl,rfl⟩
  · rw [aD9]
    rotate_left
    · exact (show decide (A=B)=false from decide_eq_false hAB)
    rw [decide_eq_false hAB] at hsame
    refine aAa aAe HM Tryz.func57 rfl (by decide +kernel) (by decide +kernel) rfl ?_
    repeat' first|refine sY ⟨?_⟩|(refine sq ?_ ?_<;>refine λh=>⟨?_⟩<;>(first|contradiction|(exfalso;omega)|skip))|fail
    all_goals (conv=>whnf)
    all_goals first|exact ⟨_,aAf rfl rfl,rfl⟩|exact ⟨_,aAf (show aC7 .nils (.ro 1 []) from ⟨1,rfl⟩) rfl,rfl⟩
 case sub=>
  obtain ⟨i,rfl,hi⟩:∃i:Nat,a=i/\i<l.length:=aBc (F.ia (by decide))
  obtain ⟨j,rfl,hj⟩:∃i:Nat,b=i/\i<l.length:=aBc (F.ib (by decide))
  rw [if_neg (by decide),if_neg (by decide)]
  dsimp only
  rw [aAp hi,aAp hj]
  obtain ⟨_,_,_,_,_,_,_,g⟩:=aBz hi
  obtain ⟨_,_,_,_,_,_,_,g2⟩:=aBz hj
  have hA:=(hl _ (List.getElem_mem hi)).shape
  have hB:=(hl _ (List.getElem_mem hj)).shape
  generalize l[i].shape=A at g hA ⊢
  generalize l[j].shape=B at g2 hB ⊢
  have hra:=aA2 gl A (by omega)
  have hsame:=aDh gl A B (by omega) (by omega)
  have hlA:=rowZ_length A
  have hlB:=rowZ_length B
  obtain rfl:name=⟨#[]⟩:=F.nn rfl
  obtain rfl:k=⟨#[]⟩:=F.k (by dsimp only;decide)
  obtain rfl:n=0:=F.n (by dsimp only;decide)
  obtain rfl:data=[]:=List.length_eq_zero_iff.1 (F.d (by dsimp only;decide))
  by_cases hAB:A=B
  · rw [aDr .sub (s:=A) rfl (by show (A,decide (A=B))=_;rw [decide_eq_true hAB]) (by decide)]
    rw [decide_eq_true hAB] at hsame
    refine aAa aAe HM Tryz.func57 rfl (by decide +kernel) (by decide +kernel) rfl ?_
    repeat' first|refine sY ⟨?_⟩|(refine sq ?_ ?_<;>refine λh=>⟨?_⟩<;>(first|contradiction|(exfalso;omega)|skip))|fail
    all_goals (conv=>whnf)
    all_goals first|exact ⟨_,aAf rfl rfl,rfl⟩|exact ⟨_,aAf (show aC7 .nils (.ro 1 []) from ⟨1,rfl⟩) rfl,rfl⟩
  · rw [aD9]
    rotate_left
    · exact (show decide (A=B)=false from decide_eq_false hAB)
    rw [decide_eq_false hAB] at hsame
    refine aAa aAe HM Tryz.func57 rfl (by decide +kernel) (by decide +kernel) rfl ?_
    repeat' first|refine sY ⟨?_⟩|(refine sq ?_ ?_<;>refine λh=>⟨?_⟩<;>(first|contradiction|(exfalso;omega)|skip))|fail
    all_goals (conv=>whnf)
    all_goals first|exact ⟨_,aAf rfl rfl,rfl⟩|exact ⟨_,aAf (show aC7 .nils (.ro 1 []) from ⟨1,rfl⟩) rfl,rfl⟩
 case mul=>
  obtain ⟨i,rfl,hi⟩:∃i:Nat,a=i/\i<l.length:=aBc (F.ia (by decide))
  obtain ⟨j,rfl,hj⟩:∃i:Nat,b=i/\i<l.length:=aBc (F.ib (by decide))
  rw [if_neg (by decide),if_neg (by decide)]
  dsimp only
  rw [aAp hi,aAp hj]
  obtain ⟨_,_,_,_,_,_,_,g⟩:=aBz hi
  obtain ⟨_,_,_,_,_,_,_,g2⟩:=aBz hj
  have hA:=(hl _ (List.getElem_mem hi)).shape
  have hB:=(hl _ (List.getElem_mem hj)).shape
  generalize l[i].shape=A at g hA ⊢
  generalize l[j].shape=B at g2 hB ⊢
  have hra:=aA2 gl A (by omega)
  have hsame:=aDh gl A B (by omega) (by omega)
  have hlA:=rowZ_length A
  have hlB:=rowZ_length B
  obtain rfl:name=⟨#[]⟩:=F.nn rfl
  obtain rfl:k=⟨#[]⟩:=F.k (by dsimp only;decide)
  obtain rfl:n=0:=F.n (by dsimp only;decide)
  obtain rfl:data=[]:=List.length_eq_zero_iff.1 (F.d (by dsimp only;decide))
  by_cases hAB:A=B
  · rw [aDr .mul (s:=A) rfl (by show (A,decide (A=B))=_;rw [decide_eq_true hAB]) (by decide)]
    rw [decide_eq_true hAB] at hsame
    refine aAa aAe HM Tryz.func57 rfl (by decide +kernel) (by decide +kernel) rfl ?_
    repeat' first|refine sY ⟨?_⟩|(refine sq ?_ ?_<;>refine λh=>⟨?_⟩<;>(first|contradiction|(exfalso;omega)|skip))|fail
    all_goals (conv=>whnf)
    all_goals first|exact ⟨_,aAf rfl rfl,rfl⟩|exact ⟨_,aAf (show aC7 .nils (.ro 1 []) from ⟨1,rfl⟩) rfl,rfl⟩
  · rw [aD9]
    rotate_left
    · exact (show decide (A=B)=false from decide_eq_false hAB)
    rw [decide_eq_false hAB] at hsame
    refine aAa aAe HM Tryz.func57 rfl (by decide +kernel) (by decide +kernel) rfl ?_
    repeat' first|refine sY ⟨?_⟩|(refine sq ?_ ?_<;>refine λh=>⟨?_⟩<;>(first|contradiction|(exfalso;omega)|skip))|fail
    all_goals (conv=>whnf)
    all_goals first|exact ⟨_,aAf rfl rfl,rfl⟩|exact ⟨_,aAf (show aC7 .nils (.ro 1 []) from ⟨1,rfl⟩) rfl,rfl⟩
 case max=>
  obtain ⟨i,rfl,hi⟩:∃i:Nat,a=i/\i<l.length:=aBc (F.ia (by decide))
  obtain ⟨j,rfl,hj⟩:∃i:Nat,b=i/\i<l.length:=aBc (F.ib (by decide))
  rw [if_neg (by decide),if_neg (by decide)]
  dsimp only
  rw [aAp hi,aAp hj]
  obtain ⟨_,_,_,_,_,_,_,g⟩:=aBz hi
  obtain ⟨_,_,_,_,_,_,_,g2⟩:=aBz hj
  have hA:=(hl _ (List.getElem_mem hi)).shape
  have hB:=(hl _ (List.getElem_mem hj)).shape
  generalize l[i].shape=A at g hA ⊢
  generalize l[j].shape=B at g2 hB ⊢
  have hra:=aA2 gl A (by omega)
  have hsame:=aDh gl A B (by omega) (by omega)
  have hlA:=rowZ_length A
  have hlB:=rowZ_length B
  obtain rfl:name=⟨#[]⟩:=F.nn rfl
  obtain rfl:k=⟨#[]⟩:=F.k (by dsimp only;decide)
  obtain rfl:n=0:=F.n (by dsimp only;decide)
  obtain rfl:data=[]:=List.length_eq_zero_iff.1 (F.d (by dsimp only;decide))
  by_cases hAB:A=B
  · rw [aDr .max (s:=A) rfl (by show (A,decide (A=B))=_;rw [decide_eq_true hAB]) (by decide)]
    rw [decide_eq_true hAB] at hsame
    refine aAa aAe HM Tryz.func57 rfl (by decide +kernel) (by decide +kernel) rfl ?_
    repeat' first|refine sY ⟨?_⟩|(refine sq ?_ ?_<;>refine λh=>⟨?_⟩<;>(first|contradiction|(exfalso;omega)|skip))|fail
    all_goals (conv=>whnf)
    all_goals first|exact ⟨_,aAf rfl rfl,rfl⟩|exact ⟨_,aAf (show aC7 .nils (.ro 1 []) from ⟨1,rfl⟩) rfl,rfl⟩
  · rw [aD9]
    rotate_left
    · exact (show decide (A=B)=false from decide_eq_false hAB)
    rw [decide_eq_false hAB] at hsame
    refine aAa aAe HM Tryz.func57 rfl (by decide +kernel) (by decide +kernel) rfl ?_
    repeat' first|refine sY ⟨?_⟩|(refine sq ?_ ?_<;>refine λh=>⟨?_⟩<;>(first|contradiction|(exfalso;omega)|skip))|fail
    all_goals (conv=>whnf)
    all_goals first|exact ⟨_,aAf rfl rfl,rfl⟩|exact ⟨_,aAf (show aC7 .nils (.ro 1 []) from ⟨1,rfl⟩) rfl,rfl⟩
 case above=>
  obtain ⟨i,rfl,hi⟩:∃i:Nat,a=i/\i<l.length:=aBc (F.ia (by decide))
  obtain ⟨j,rfl,hj⟩:∃i:Nat,b=i/\i<l.length:=aBc (F.ib (by decide))
  rw [if_neg (by decide),if_neg (by decide)]
  dsimp only
  rw [aAp hi,aAp hj]
  obtain ⟨_,_,_,_,_,_,_,g⟩:=aBz hi
  obtain ⟨_,_,_,_,_,_,_,g2⟩:=aBz hj
  have hA:=(hl _ (List.getElem_mem hi)).shape
  have hB:=(hl _ (List.getElem_mem hj)).shape
  generalize l[i].shape=A at g hA ⊢
  generalize l[j].shape=B at g2 hB ⊢
  have hra:=aA2 gl A (by omega)
  have hsame:=aDh gl A B (by omega) (by omega)
  have hlA:=rowZ_length A
  have hlB:=rowZ_length B
  obtain rfl:name=⟨#[]⟩:=F.nn rfl
  obtain rfl:k=⟨#[]⟩:=F.k (by dsimp only;decide)
  obtain rfl:n=0:=F.n (by dsimp only;decide)
  obtain rfl:data=[]:=List.length_eq_zero_iff.1 (F.d (by dsimp only;decide))
  by_cases hAB:A=B
  · rw [aDr .above (s:=A) rfl (by show (A,decide (A=B))=_;rw [decide_eq_true hAB]) (by decide)]
    rw [decide_eq_true hAB] at hsame
    refine aAa aAe HM Tryz.func57 rfl (by decide +kernel) (by decide +kernel) rfl ?_
    repeat' first|refine sY ⟨?_⟩|(refine sq ?_ ?_<;>refine λh=>⟨?_⟩<;>(first|contradiction|(exfalso;omega)|skip))|fail
    all_goals (conv=>whnf)
    all_goals first|exact ⟨_,aAf rfl rfl,rfl⟩|exact ⟨_,aAf (show aC7 .nils (.ro 1 []) from ⟨1,rfl⟩) rfl,rfl⟩
  · rw [aD9]
    rotate_left
    · exact (show decide (A=B)=false from decide_eq_false hAB)
    rw [decide_eq_false hAB] at hsame
    refine aAa aAe HM Tryz.func57 rfl (by decide +kernel) (by decide +kernel) rfl ?_
    repeat' first|refine sY ⟨?_⟩|(refine sq ?_ ?_<;>refine λh=>⟨?_⟩<;>(first|contradiction|(exfalso;omega)|skip))|fail
    all_goals (conv=>whnf)
    all_goals first|exact ⟨_,aAf rfl rfl,rfl⟩|exact ⟨_,aAf (show aC7 .nils (.ro 1 []) from ⟨1,rfl⟩) rfl,rfl⟩
 case sum=>
  obtain ⟨i,rfl,hi⟩:∃i:Nat,a=i/\i<l.length:=aBc (F.ia (by decide))
  obtain rfl:b=0:=F.b0 (by decide)
  rw [if_neg (by decide),if_pos (by decide)]
  dsimp only
  rw [aAp hi]
  obtain ⟨_,_,_,_,_,_,_,g⟩:=aBz hi
  have hA:=(hl _ (List.getElem_mem hi)).shape
  generalize l[i].shape=A at g hA ⊢
  have hra:=aA2 gl A (by omega)
  have hlA:=rowZ_length A
  obtain rfl:name=⟨#[]⟩:=F.nn rfl
  obtain rfl:k=⟨#[]⟩:=F.k (by dsimp only;decide)
  obtain rfl:n=0:=F.n (by dsimp only;decide)
  obtain rfl:data=[]:=List.length_eq_zero_iff.1 (F.d (by dsimp only;decide))
  rw [aDr .sum (s:=[]) rfl rfl (by decide)]
  refine aAa aAe HM Tryz.func57 rfl (by decide +kernel) (by decide +kernel) rfl ?_
  repeat' first|refine sY ⟨?_⟩|(refine sq ?_ ?_<;>refine λh=>⟨?_⟩<;>(first|contradiction|(exfalso;omega)|skip))|fail
  all_goals (conv=>whnf)
  all_goals first|exact ⟨_,aAf rfl rfl,rfl⟩|exact ⟨_,aAf (show aC7 .nils (.ro 1 []) from ⟨1,rfl⟩) rfl,rfl⟩
 case scale=>
  obtain ⟨i,rfl,hi⟩:∃i:Nat,a=i/\i<l.length:=aBc (F.ia (by decide))
  obtain rfl:b=0:=F.b0 (by decide)
  rw [if_neg (by decide),if_pos (by decide)]
  dsimp only
  rw [aAp hi]
  obtain ⟨_,_,_,_,_,_,_,g⟩:=aBz hi
  have hA:=(hl _ (List.getElem_mem hi)).shape
  generalize l[i].shape=A at g hA ⊢
  have hra:=aA2 gl A (by omega)
  have hlA:=rowZ_length A
  obtain rfl:name=⟨#[]⟩:=F.nn rfl
  obtain rfl:n=0:=F.n (by dsimp only;decide)
  obtain rfl:data=[]:=List.length_eq_zero_iff.1 (F.d (by dsimp only;decide))
  have hread:=aEx gl k (Nat.lt_of_le_of_lt hk (by decide))
  cases hr:aBa k
  · rw [hr] at hread
    rw [aD9]
    rotate_left
    · exact (show aBa k=false from hr)
    refine aAa aAe HM Tryz.func57 rfl (by decide +kernel) (by decide +kernel) rfl ?_
    repeat' first|refine sY ⟨?_⟩|(refine sq ?_ ?_<;>refine λh=>⟨?_⟩<;>(first|contradiction|(exfalso;omega)|skip))|fail
    rintro _ ⟨p,q,rfl,_⟩
    repeat' first|refine sY ⟨?_⟩|(refine sq ?_ ?_<;>refine λh=>⟨?_⟩<;>(first|contradiction|(exfalso;omega)|skip))|fail
    all_goals (conv=>whnf)
    all_goals first|exact ⟨_,aAf rfl rfl,rfl⟩|exact ⟨_,aAf (show aC7 .nils (.ro 1 []) from ⟨1,rfl⟩) rfl,rfl⟩
  · rw [hr] at hread
    rw [aDr .scale (s:=A) rfl (by show (A,aBa k)=_;rw [hr]) (by decide)]
    refine aAa aAe HM Tryz.func57 rfl (by decide +kernel) (by decide +kernel) rfl ?_
    repeat' first|refine sY ⟨?_⟩|(refine sq ?_ ?_<;>refine λh=>⟨?_⟩<;>(first|contradiction|(exfalso;omega)|skip))|fail
    rintro _ ⟨p,q,rfl,_⟩
    repeat' first|refine sY ⟨?_⟩|(refine sq ?_ ?_<;>refine λh=>⟨?_⟩<;>(first|contradiction|(exfalso;omega)|skip))|fail
    all_goals (conv=>whnf)
    all_goals first|exact ⟨_,aAf rfl rfl,rfl⟩|exact ⟨_,aAf (show aC7 .nils (.ro 1 []) from ⟨1,rfl⟩) rfl,rfl⟩
 case power=>
  obtain ⟨i,rfl,hi⟩:∃i:Nat,a=i/\i<l.length:=aBc (F.ia (by decide))
  obtain rfl:b=0:=F.b0 (by decide)
  rw [if_neg (by decide),if_pos (by decide)]
  dsimp only
  rw [aAp hi]
  obtain ⟨_,_,_,_,_,_,_,g⟩:=aBz hi
  have hA:=(hl _ (List.getElem_mem hi)).shape
  generalize l[i].shape=A at g hA ⊢
  have hra:=aA2 gl A (by omega)
  have hlA:=rowZ_length A
  obtain rfl:name=⟨#[]⟩:=F.nn rfl
  obtain rfl:k=⟨#[]⟩:=F.k (by dsimp only;decide)
  obtain rfl:data=[]:=List.length_eq_zero_iff.1 (F.d (by dsimp only;decide))
  by_cases hn:0<=n/\n<=6
  · rw [aDr .power (s:=A) rfl (by show (A,decide (0<=n) && decide (n<=6))=_;simp [hn]) (by decide)]
    refine aAa aAe HM Tryz.func57 rfl (by decide +kernel) (by decide +kernel) rfl ?_
    repeat' first|refine sY ⟨?_⟩|(refine sq ?_ ?_<;>refine λh=>⟨?_⟩<;>(first|contradiction|(exfalso;omega)|skip))|fail
    all_goals (conv=>whnf)
    all_goals first|exact ⟨_,aAf rfl rfl,rfl⟩|exact ⟨_,aAf (show aC7 .nils (.ro 1 []) from ⟨1,rfl⟩) rfl,rfl⟩
  · rw [aD9]
    rotate_left
    · exact (show (decide (0<=n) && decide (n<=6))=false by rw [Bool.eq_false_iff];simp only [ne_eq,Bool.and_eq_true,decide_eq_true_eq];exact hn)
    refine aAa aAe HM Tryz.func57 rfl (by decide +kernel) (by decide +kernel) rfl ?_
    repeat' first|refine sY ⟨?_⟩|(refine sq ?_ ?_<;>refine λh=>⟨?_⟩<;>(first|contradiction|(exfalso;omega)|skip))|fail
    all_goals (conv=>whnf)
    all_goals first|exact ⟨_,aAf rfl rfl,rfl⟩|exact ⟨_,aAf (show aC7 .nils (.ro 1 []) from ⟨1,rfl⟩) rfl,rfl⟩
 case transpose=>
  obtain ⟨i,rfl,hi⟩:∃i:Nat,a=i/\i<l.length:=aBc (F.ia (by decide))
  obtain rfl:b=0:=F.b0 (by decide)
  rw [if_neg (by decide),if_pos (by decide)]
  dsimp only
  rw [aAp hi]
  obtain ⟨_,_,_,_,_,_,_,g⟩:=aBz hi
  have hA:=(hl _ (List.getElem_mem hi)).shape
  generalize l[i].shape=A at g hA ⊢
  have hra:=aA2 gl A (by omega)
  have hlA:=rowZ_length A
  obtain rfl:name=⟨#[]⟩:=F.nn rfl
  obtain rfl:k=⟨#[]⟩:=F.k (by dsimp only;decide)
  obtain rfl:n=0:=F.n (by dsimp only;decide)
  obtain rfl:data=[]:=List.length_eq_zero_iff.1 (F.d (by dsimp only;decide))
  by_cases h2:A.length=2
  · obtain ⟨p,q,rfl⟩:=aKw h2
    have hqp:=aA2 gl [q,p] (show 2<_ by decide)
    rw [aDr .transpose (s:=[q,p]) rfl rfl (by decide)]
    refine aAa aAe HM Tryz.func57 rfl (by decide +kernel) (by decide +kernel) rfl ?_
    repeat' first|refine sY ⟨?_⟩|(refine sq ?_ ?_<;>refine λh=>⟨?_⟩<;>(first|contradiction|(exfalso;omega)|skip))|fail
    refine ⟨by decide +kernel,[0,1,3,0,8,24,63,127],by decide +kernel,?_⟩
    repeat' first|refine sY ⟨?_⟩|(refine sq ?_ ?_<;>refine λh=>⟨?_⟩<;>(first|contradiction|(exfalso;omega)|skip))|fail
    all_goals (conv=>whnf)
    all_goals first|exact ⟨_,aAf rfl rfl,rfl⟩|exact ⟨_,aAf (show aC7 .nils (.ro 1 []) from ⟨1,rfl⟩) rfl,rfl⟩
  · rw [aD9]
    rotate_left
    · exact (congrArg Prod.snd (aIm h2))
    refine aAa aAe HM Tryz.func57 rfl (by decide +kernel) (by decide +kernel) rfl ?_
    repeat' first|refine sY ⟨?_⟩|(refine sq ?_ ?_<;>refine λh=>⟨?_⟩<;>(first|contradiction|(exfalso;omega)|skip))|fail
    all_goals (conv=>whnf)
    all_goals first|exact ⟨_,aAf rfl rfl,rfl⟩|exact ⟨_,aAf (show aC7 .nils (.ro 1 []) from ⟨1,rfl⟩) rfl,rfl⟩
 case spread=>
  obtain ⟨i,rfl,hi⟩:∃i:Nat,a=i/\i<l.length:=aBc (F.ia (by decide))
  obtain rfl:b=0:=F.b0 (by decide)
  rw [if_neg (by decide),if_pos (by decide)]
  dsimp only
  rw [aAp hi]
  obtain ⟨_,_,_,_,_,_,_,g⟩:=aBz hi
  have hA:=(hl _ (List.getElem_mem hi)).shape
  generalize l[i].shape=A at g hA ⊢
  have hra:=aA2 gl A (by omega)
  have hlA:=rowZ_length A
  obtain rfl:name=⟨#[]⟩:=F.nn rfl
  obtain rfl:k=⟨#[]⟩:=F.k (by dsimp only;decide)
  obtain rfl:n=0:=F.n (by dsimp only;decide)
  obtain rfl:data=[]:=List.length_eq_zero_iff.1 (F.d (by dsimp only;decide))
  by_cases h0:A.length=0
  · rw [aDr .spread (s:=shape) rfl (by show (shape,decide ((A.length:Int)=0))=_;simp [h0]) (by decide)]
    refine aAa aAe HM Tryz.func57 rfl (by decide +kernel) (by decide +kernel) rfl ?_
    repeat' first|refine sY ⟨?_⟩|(refine sq ?_ ?_<;>refine λh=>⟨?_⟩<;>(first|contradiction|(exfalso;omega)|skip))|fail
    all_goals (conv=>whnf)
    all_goals first|exact ⟨_,aAf rfl rfl,rfl⟩|exact ⟨_,aAf (show aC7 .nils (.ro 1 []) from ⟨1,rfl⟩) rfl,rfl⟩
  · rw [aD9]
    rotate_left
    · exact (show decide ((A.length:Int)=0)=false by simp;simpa using h0)
    refine aAa aAe HM Tryz.func57 rfl (by decide +kernel) (by decide +kernel) rfl ?_
    repeat' first|refine sY ⟨?_⟩|(refine sq ?_ ?_<;>refine λh=>⟨?_⟩<;>(first|contradiction|(exfalso;omega)|skip))|fail
    all_goals (conv=>whnf)
    all_goals first|exact ⟨_,aAf rfl rfl,rfl⟩|exact ⟨_,aAf (show aC7 .nils (.ro 1 []) from ⟨1,rfl⟩) rfl,rfl⟩
 case reshape=>
  obtain ⟨i,rfl,hi⟩:∃i:Nat,a=i/\i<l.length:=aBc (F.ia (by decide))
  obtain rfl:b=0:=F.b0 (by decide)
  rw [if_neg (by decide),if_pos (by decide)]
  dsimp only
  rw [aAp hi]
  obtain ⟨_,_,_,_,_,_,_,g⟩:=aBz hi
  have hA:=(hl _ (List.getElem_mem hi)).shape
  generalize l[i].shape=A at g hA ⊢
  have hra:=aA2 gl A (by omega)
  have hlA:=rowZ_length A
  obtain rfl:name=⟨#[]⟩:=F.nn rfl
  obtain rfl:k=⟨#[]⟩:=F.k (by dsimp only;decide)
  obtain rfl:n=0:=F.n (by dsimp only;decide)
  obtain rfl:data=[]:=List.length_eq_zero_iff.1 (F.d (by dsimp only;decide))
  cases hos:aAl shape
  · rw [bGa]
    rotate_left
    · exact .inr rfl
    · exact (show aAl shape=false from hos)
    rw [hos] at hrs
    refine aAa aAe HM Tryz.func57 rfl (by decide +kernel) (by decide +kernel) rfl ?_
    repeat' first|refine sY ⟨?_⟩|(refine sq ?_ ?_<;>refine λh=>⟨?_⟩<;>(first|contradiction|(exfalso;omega)|skip))|fail
    all_goals (conv=>whnf)
    all_goals first|exact ⟨_,aAf rfl rfl,rfl⟩|exact ⟨_,aAf (show aC7 .nils (.ro 1 []) from ⟨1,rfl⟩) rfl,rfl⟩
  rw [hos] at hrs
  have hz1:=aHm gl shape hos
  have hp1:=aJi shape 1 (λd hd=>(aCs hos d hd).1) (Int.le_refl _)
  cases hoa:aAl A
  · have e:aDj shape≠aDj A:=by simp only [aDj,hos,hoa];intro e;have:aA8 shape=0:=e;unfold aA8 at this;omega
    rw [aD9]
    rotate_left
    · exact (show decide (aDj shape=aDj A)=false from decide_eq_false e)
    rw [hoa] at hra
    refine aAa aAe HM Tryz.func57 rfl (by decide +kernel) (by decide +kernel) rfl ?_
    repeat' first|refine sY ⟨?_⟩|(refine sq ?_ ?_<;>refine λh=>⟨?_⟩<;>(first|contradiction|(exfalso;omega)|skip))|fail
    all_goals (conv=>whnf)
    all_goals first|exact ⟨_,aAf rfl rfl,rfl⟩|exact ⟨_,aAf (show aC7 .nils (.ro 1 []) from ⟨1,rfl⟩) rfl,rfl⟩
  rw [hoa] at hra
  have hz2:=aHm gl A hoa
  by_cases e:aA8 shape=aA8 A
  · rw [bOh (s:=shape) (by show (shape,decide (aDj shape=aDj A))=_;simp [aDj,hos,hoa,e]) hos]
    refine aAa aAe HM Tryz.func57 rfl (by decide +kernel) (by decide +kernel) rfl ?_
    repeat' first|refine sY ⟨?_⟩|(refine sq ?_ ?_<;>refine λh=>⟨?_⟩<;>(first|contradiction|(exfalso;omega)|skip))|fail
    all_goals (conv=>whnf)
    all_goals first|exact ⟨_,aAf rfl rfl,rfl⟩|exact ⟨_,aAf (show aC7 .nils (.ro 1 []) from ⟨1,rfl⟩) rfl,rfl⟩
  · rw [aD9]
    rotate_left
    · exact (show decide (aDj shape=aDj A)=false by simp [aDj,hos,hoa,e])
    refine aAa aAe HM Tryz.func57 rfl (by decide +kernel) (by decide +kernel) rfl ?_
    repeat' first|refine sY ⟨?_⟩|(refine sq ?_ ?_<;>refine λh=>⟨?_⟩<;>(first|contradiction|(exfalso;omega)|skip))|fail
    all_goals (conv=>whnf)
    all_goals first|exact ⟨_,aAf rfl rfl,rfl⟩|exact ⟨_,aAf (show aC7 .nils (.ro 1 []) from ⟨1,rfl⟩) rfl,rfl⟩
 case matmul=>
  obtain ⟨i,rfl,hi⟩:∃i:Nat,a=i/\i<l.length:=aBc (F.ia (by decide))
  obtain ⟨j,rfl,hj⟩:∃i:Nat,b=i/\i<l.length:=aBc (F.ib (by decide))
  rw [if_neg (by decide),if_neg (by decide)]
  dsimp only
  rw [aAp hi,aAp hj]
  obtain ⟨_,_,_,_,_,_,_,g⟩:=aBz hi
  obtain ⟨_,_,_,_,_,_,_,g2⟩:=aBz hj
  have hA:=(hl _ (List.getElem_mem hi)).shape
  have hB:=(hl _ (List.getElem_mem hj)).shape
  generalize l[i].shape=A at g hA ⊢
  generalize l[j].shape=B at g2 hB ⊢
  have hra:=aA2 gl A (by omega)
  have hsame:=aDh gl A B (by omega) (by omega)
  have hlA:=rowZ_length A
  have hlB:=rowZ_length B
  obtain rfl:name=⟨#[]⟩:=F.nn rfl
  obtain rfl:k=⟨#[]⟩:=F.k (by dsimp only;decide)
  obtain rfl:n=0:=F.n (by dsimp only;decide)
  obtain rfl:data=[]:=List.length_eq_zero_iff.1 (F.d (by dsimp only;decide))
  by_cases h2:A.length=2/\B.length=2
  · obtain ⟨ha2,hb2⟩:=h2
    obtain ⟨p,q,rfl⟩:=aKw ha2
    obtain ⟨r,s,rfl⟩:=aKw hb2
    have hps:=aA2 gl [p,s] (show 2<_ by decide)
    by_cases hqr:q=r
    · rw [aDr .matmul (s:=[p,s])]
      rotate_left
      · exact rfl
      · exact if_pos hqr
      · decide
      refine aAa aAe HM Tryz.func57 rfl (by decide +kernel) (by decide +kernel) rfl ?_
      repeat' first|refine sY ⟨?_⟩|(refine sq ?_ ?_<;>refine λh=>⟨?_⟩<;>(first|contradiction|(exfalso;omega)|skip))|fail
      refine ⟨by decide +kernel,[0,1,3,7,15,31,63,127,255,511,1023,2047,511,4607,12799,32767,65535],by decide +kernel,?_⟩
      repeat' first|refine sY ⟨?_⟩|(refine sq ?_ ?_<;>refine λh=>⟨?_⟩<;>(first|contradiction|(exfalso;omega)|skip))|fail
      refine ⟨by decide +kernel,[0,1,3,0,8,24,63,127],by decide +kernel,?_⟩
      repeat' first|refine sY ⟨?_⟩|(refine sq ?_ ?_<;>refine λh=>⟨?_⟩<;>(first|contradiction|(exfalso;omega)|skip))|fail
      all_goals (conv=>whnf)
      all_goals first|exact ⟨_,aAf rfl rfl,rfl⟩|exact ⟨_,aAf (show aC7 .nils (.ro 1 []) from ⟨1,rfl⟩) rfl,rfl⟩
    · rw [aD9]
      rotate_left
      · exact (congrArg Prod.snd (show ofZ ⟨Opc.str .matmul,_,_,_,shape,_,_,_⟩ [p,q] [r,s]=([],false) from if_neg hqr))
      refine aAa aAe HM Tryz.func57 rfl (by decide +kernel) (by decide +kernel) rfl ?_
      repeat' first|refine sY ⟨?_⟩|(refine sq ?_ ?_<;>refine λh=>⟨?_⟩<;>(first|contradiction|(exfalso;omega)|skip))|fail
      refine ⟨by decide +kernel,[0,1,3,7,15,31,63,127,255,511,1023,2047,511,4607,12799,32767,65535],by decide +kernel,?_⟩
      repeat' first|refine sY ⟨?_⟩|(refine sq ?_ ?_<;>refine λh=>⟨?_⟩<;>(first|contradiction|(exfalso;omega)|skip))|fail
      all_goals (conv=>whnf)
      all_goals first|exact ⟨_,aAf rfl rfl,rfl⟩|exact ⟨_,aAf (show aC7 .nils (.ro 1 []) from ⟨1,rfl⟩) rfl,rfl⟩
  · rw [aD9]
    rotate_left
    · exact (congrArg Prod.snd (aKd λh=>h2 ⟨h.1,h.2.1⟩))
    refine aAa aAe HM Tryz.func57 rfl (by decide +kernel) (by decide +kernel) rfl ?_
    repeat' first|refine sY ⟨?_⟩|(refine sq ?_ ?_<;>refine λh=>⟨?_⟩<;>(first|contradiction|(exfalso;omega)|skip))|fail
    refine ⟨by decide +kernel,[0,1,3,7,15,31,63,127,255,511,1023,2047,511,4607,12799,32767,65535],by decide +kernel,?_⟩
    repeat' first|refine sY ⟨?_⟩|(refine sq ?_ ?_<;>refine λh=>⟨?_⟩<;>(first|contradiction|(exfalso;omega)|skip))|fail
    all_goals (conv=>whnf)
    all_goals first|exact ⟨_,aAf rfl rfl,rfl⟩|exact ⟨_,aAf (show aC7 .nils (.ro 1 []) from ⟨1,rfl⟩) rfl,rfl⟩
 case const=>
  obtain rfl:a=0:=F.a0 rfl
  obtain rfl:b=0:=F.b0 (by decide)
  rw [if_pos (by decide),if_pos (by decide)]
  obtain rfl:name=⟨#[]⟩:=F.nn rfl
  obtain rfl:k=⟨#[]⟩:=F.k (by dsimp only;decide)
  obtain rfl:n=0:=F.n (by dsimp only;decide)
  cases hos:aAl shape
  · rw [bGa]
    rotate_left
    · exact .inl rfl
    · exact (show aAl shape=false from hos)
    rw [hos] at hrs
    refine aAa aAe HM Tryz.func57 rfl (by decide +kernel) (by decide +kernel) rfl ?_
    repeat' first|refine sY ⟨?_⟩|(refine sq ?_ ?_<;>refine λh=>⟨?_⟩<;>(first|contradiction|(exfalso;omega)|skip))|fail
    refine ⟨by decide +kernel,[0,1,3,7,15,31,63,15,143,511,1023],by decide +kernel,?_⟩
    repeat' first|refine sY ⟨?_⟩|(refine sq ?_ ?_<;>refine λh=>⟨?_⟩<;>(first|contradiction|(exfalso;omega)|skip))|fail
    all_goals (conv=>whnf)
    all_goals first|exact ⟨_,aAf rfl rfl,rfl⟩|exact ⟨_,aAf (show aC7 .nils (.ro 1 []) from ⟨1,rfl⟩) rfl,rfl⟩
  have hsz:aDj shape=aA8 shape:=by simp [aDj,hos]
  rw [hos] at hrs
  have hz1:=aHm gl shape hos
  by_cases hlen:(data.length:Int)=aA8 shape
  · have hT1:data.any (λd=> !aBa d)=true->aXu ⟨Opc.str .const,0,0,⟨#[]⟩,shape,⟨#[]⟩,0,data⟩ [] []=([],false):=λh=>
     aD9 (show (decide ((data.length:Int)=aDj shape) && !(data.any λd=> !aBa d))=false by rw [h];simp)
    have hT2:data.any (λd=> !aBa d)=false->aXu ⟨Opc.str .const,0,0,⟨#[]⟩,shape,⟨#[]⟩,0,data⟩ [] []=(shape,true):=λh=>
     bOh (by show (shape,decide ((data.length:Int)=aDj shape) && !(data.any λd=> !aBa d))=_;rw [h,hsz,hlen];simp) hos
    generalize aXu ⟨Opc.str .const,0,0,⟨#[]⟩,shape,⟨#[]⟩,0,data⟩ [] []=T at hT1 hT2 ⊢
    refine aAa aAe HM Tryz.func57 rfl (by decide +kernel) (by decide +kernel) rfl ?_
    repeat' first|refine sY ⟨?_⟩|(refine sq ?_ ?_<;>refine λh=>⟨?_⟩<;>(first|contradiction|(exfalso;omega)|skip))|fail
    refine ⟨by decide +kernel,[0,1,3,7,15,31,63,15,143,511,1023],by decide +kernel,?_⟩
    repeat' first|refine sY ⟨?_⟩|(refine sq ?_ ?_<;>refine λh=>⟨?_⟩<;>(first|contradiction|(exfalso;omega)|skip))|fail
    refine ⟨[9,163,164,165],[],λm st=>∃i:Nat,i<=data.length/\m=data.length - i/\(data.take i).any (λd=> !aBa d)=false/\
     st=⟨[(9,.ro 1 (aAh shape)),(163,.ro 1 (aCm data)),(164,.int .i64 ((aCm data).length:Nat)),(165,.int .i64 (i:Nat))],[]⟩,rfl,⟨data.length,0,by omega,rfl,by simp,rfl⟩,?_⟩
    rintro m _ ⟨i,hi,hm,ha,rfl⟩
    rcases Nat.lt_or_ge i data.length with hil|hge
    · have g:=aCd hil
      have hread:=aEx gl data[i] (Nat.lt_of_le_of_lt (hx.each _ (List.getElem_mem hil)) (by decide))
      cases hr:aBa data[i]
      · rw [hr] at hread
        repeat' first|refine sY ⟨?_⟩|(refine sq ?_ ?_<;>refine λh=>⟨?_⟩<;>(first|contradiction|(exfalso;omega)|skip))|fail
        rintro _ ⟨p,q,rfl,_⟩
        repeat' first|refine sY ⟨?_⟩|(refine sq ?_ ?_<;>refine λh=>⟨?_⟩<;>(first|contradiction|(exfalso;omega)|skip))|fail
        all_goals (conv=>whnf)
        exact ⟨_,aAf (show aC7 .nils (.ro 1 []) from ⟨1,rfl⟩) rfl,by rw [hT1 (bCv hil (by simp [hr]))];rfl⟩
      · rw [hr] at hread
        repeat' first|refine sY ⟨?_⟩|(refine sq ?_ ?_<;>refine λh=>⟨?_⟩<;>(first|contradiction|(exfalso;omega)|skip))|fail
        rintro _ ⟨p,q,rfl,_⟩
        repeat' first|refine sY ⟨?_⟩|(refine sq ?_ ?_<;>refine λh=>⟨?_⟩<;>(first|contradiction|(exfalso;omega)|skip))|fail
        exact ⟨[],data.length - (i+1),rfl,by omega,i+1,by omega,rfl,aVj hil ha (by simp [hr]),rfl⟩
    · rw [List.take_of_length_le (by omega)] at ha
      repeat' first|refine sY ⟨?_⟩|(refine sq ?_ ?_<;>refine λh=>⟨?_⟩<;>(first|contradiction|(exfalso;omega)|skip))|fail
      all_goals (conv=>whnf)
      exact ⟨_,aAf rfl rfl,by rw [hT2 ha]⟩
  · rw [aD9]
    rotate_left
    · exact (show (decide ((data.length:Int)=aDj shape) && !(data.any λd=> !aBa d))=false by rw [hsz,decide_eq_false hlen];rfl)
    refine aAa aAe HM Tryz.func57 rfl (by decide +kernel) (by decide +kernel) rfl ?_
    repeat' first|refine sY ⟨?_⟩|(refine sq ?_ ?_<;>refine λh=>⟨?_⟩<;>(first|contradiction|(exfalso;omega)|skip))|fail
    refine ⟨by decide +kernel,[0,1,3,7,15,31,63,15,143,511,1023],by decide +kernel,?_⟩
    repeat' first|refine sY ⟨?_⟩|(refine sq ?_ ?_<;>refine λh=>⟨?_⟩<;>(first|contradiction|(exfalso;omega)|skip))|fail
    all_goals (conv=>whnf)
    all_goals first|exact ⟨_,aAf rfl rfl,rfl⟩|exact ⟨_,aAf (show aC7 .nils (.ro 1 []) from ⟨1,rfl⟩) rfl,rfl⟩
theorem bDo (l:List Nd) (x:Nd) (hx:x.Sm) (hl:∀y∈l,y.Sm):
 aAc Tryz.prog gl 57 [.ro 8 (aAv l),.agg x.cells] (λy=>y= .tup [.ro 1 (aAh (bD8 l x).1),.bool (bD8 l x).2]):=by
 rcases aMe x.op with ⟨o,ho⟩|hn
 · cases hf:aN8 l x o.many with
   |false=>rw [bS1 (by rw [ho];exact aFw o) hf];exact aSv gl l x o ho hf hx
   |true=>exact aP3 gl l x o ho hf hx hl
 · rw [bOg hn]
   have hp:=aK4 gl x.op
   rw [aIp,hn] at hp
   refine aAc.taken ?_
   refine aAa aAe HM Tryz.func57 rfl (by decide +kernel) (by decide +kernel) rfl ?_
   repeat' first|refine sY ⟨?_⟩|(refine sq ?_ ?_<;>refine λh=>⟨?_⟩<;>(first|contradiction|(exfalso;omega)|skip))|fail
   all_goals (conv=>whnf)
   all_goals first|exact ⟨_,aAf rfl rfl,rfl⟩|exact ⟨_,aAf (show aC7 .nils (.ro 1 []) from ⟨1,rfl⟩) rfl,rfl⟩
end Go.V
namespace Go.V
open Go.N Go.Proofs
set_option maxRecDepth 20000
variable (gl:Gl)
def bCp:Tab:=[(31,i31),(29,i29),(25,i25),(3,i3),(22,i22),(23,i23),(9,i9)]
theorem aLk:TOK Tryz.prog bCp:=⟨K31,⟨K29,⟨K25,⟨K3,⟨K22,⟨K23,⟨K9,trivial⟩⟩⟩⟩⟩⟩⟩
def bHw:Tab:=[(25,i25),(9,i9),(3,i3),(22,i22),(4,i4),(23,i23)]
theorem aNq:TOK Tryz.prog bHw:=⟨K25,⟨K9,⟨K3,⟨K22,⟨K4,⟨K23,trivial⟩⟩⟩⟩⟩⟩
def bCl:Tab:=[(31,i31),(3,i3),(29,i29),(25,i25),(4,i4)]
theorem aLj:TOK Tryz.prog bCl:=⟨K31,⟨K3,⟨K29,⟨K25,⟨K4,trivial⟩⟩⟩⟩⟩
def aR6 (s:ByteArray):Bool:=decide (s.size<=30)
def aHz (x:Nd):Bool:=decide (x.shape.length<=10) && decide (x.data.length<=70) && decide (x.k.size<=30) && decide (x.name.size<=30) && x.data.all aR6
def aFh (g:Gr):Bool:=decide (g.nodes.length<=40) && g.nodes.all aHz
theorem bCu {α:Type}{l:List α}{p:α->Bool}{i:Nat}(h:i<l.length) (hp:p l[i]=false):l.all p=false:=List.all_eq_false.2 ⟨_,List.getElem_mem h,by simp [hp]⟩
theorem aOf {α:Type}{l:List α}{p:α->Bool}{i:Nat}(h:i<l.length) (ha:(l.take i).all p=true) (hp:p l[i]=true):(l.take (i+1)).all p=true:=by
 rw [List.take_succ_eq_append_getElem h,List.all_append,ha];simp [hp]
theorem aMn {x:Nd}(h:aHz x=true):x.Sm:=by
 simp only [aHz,Bool.and_eq_true,decide_eq_true_eq,List.all_eq_true] at h
 exact ⟨by omega,by omega,by omega,by omega,λd hd=>by have:=h.2 d hd;simp only [aR6,decide_eq_true_eq] at this;omega⟩
set_option maxHeartbeats 4000000 in
theorem aK5 (g:Gr):aAc Tryz.prog gl 11 [.agg g.cells] (λx=>x= .bool (aFh g)):=by
 obtain ⟨l,loss⟩:=g
 have hl:(aAv l).length=l.length:=rowN_length l
 by_cases h40:l.length<=40
 · have hb:l.all aHz=false->aFh ⟨l,loss⟩=false:=λh=>by simp [aFh,h]
   have ho:l.all aHz=true->aFh ⟨l,loss⟩=true:=λh=>by simp [aFh,h,h40]
   generalize aFh ⟨l,loss⟩=T at hb ho ⊢
   refine aAa aLk HM Tryz.func11 rfl (by decide +kernel) (by decide +kernel) rfl ?_
   repeat' first|refine sY ⟨?_⟩|(refine sq ?_ ?_<;>refine λh=>⟨?_⟩<;>(first|contradiction|(exfalso;omega)|skip))|fail
   refine ⟨[12,13,14],[],λm st=>∃i:Nat,i<=l.length/\m=l.length - i/\(l.take i).all aHz=true/\
    st=⟨[(12,.ro 8 (aAv l)),(13,.int .i64 ((aAv l).length:Nat)),(14,.int .i64 (i:Nat))],[]⟩,rfl,⟨l.length,0,by omega,rfl,rfl,rfl⟩,?_⟩
   rintro m _ ⟨i,hi,hm,ha,rfl⟩
   rcases Nat.lt_or_ge i l.length with hil|hge
   · obtain ⟨x,hx⟩:∃x,x=l[i]:=⟨_,rfl⟩
     have g:(aAv l)[i]? =some x.cells:=by rw [hx];exact aB1 hil
     have hbad:aHz x=false->T=false:=λh=>hb (bCu hil (by rw [<- hx];exact h))
     have hstep:aHz x=true->(l.take (i+1)).all aHz=true:=λh=>aOf hil ha (by rw [<- hx];exact h)
     clear hx
     obtain ⟨op,a,b,name,shape,k,n,data⟩:=x
     have hls:(aAh shape).length=shape.length:=rowZ_length shape
     have hld:(aCm data).length=data.length:=rowS_length data
     by_cases hpre:shape.length<=10/\data.length<=70/\k.size<=30/\name.size<=30
     · obtain ⟨h1,h2,h3,h4⟩:=hpre
       have hb2:data.all aR6=false->T=false:=λh=>hbad (by simp [aHz,h])
       have ho2:data.all aR6=true->(l.take (i+1)).all aHz=true:=λh=>hstep (by simp [aHz,h,h1,h2,h3,h4])
       repeat' first|refine sY ⟨?_⟩|(refine sq ?_ ?_<;>refine λh=>⟨?_⟩<;>(first|contradiction|(exfalso;omega)|skip))|fail
       refine ⟨[12,13,14,41,42,43],[],λm st=>∃j:Nat,j<=data.length/\m=data.length - j/\(data.take j).all aR6=true/\
        st=⟨[(12,.ro 8 (aAv l)),(13,.int .i64 ((aAv l).length:Nat)),(14,.int .i64 (i:Nat)),(41,.ro 1 (aCm data)),(42,.int .i64 ((aCm data).length:Nat)),(43,.int .i64 (j:Nat))],[]⟩,rfl,⟨data.length,0,by omega,rfl,rfl,rfl⟩,?_⟩
       rintro m2 _ ⟨j,hj,hm2,ha2,rfl⟩
       rcases Nat.lt_or_ge j data.length with hjl|hge
       · have g2:=aCd hjl
         by_cases hs:data[j].size<=30
         · repeat' first|refine sY ⟨?_⟩|(refine sq ?_ ?_<;>refine λh=>⟨?_⟩<;>(first|contradiction|(exfalso;omega)|skip))|fail
           exact ⟨[],data.length - (j+1),rfl,by omega,j+1,by omega,rfl,aOf hjl ha2 (by simp [aR6,hs]),rfl⟩
         · rw [hb2 (bCu hjl (by simp [aR6,hs]))]
           repeat' first|refine sY ⟨?_⟩|(refine sq ?_ ?_<;>refine λh=>⟨?_⟩<;>(first|contradiction|(exfalso;omega)|skip))|fail
           all_goals (conv=>whnf)
           rfl
       · rw [List.take_of_length_le (by omega)] at ha2
         repeat' first|refine sY ⟨?_⟩|(refine sq ?_ ?_<;>refine λh=>⟨?_⟩<;>(first|contradiction|(exfalso;omega)|skip))|fail
         exact ⟨[],l.length - (i+1),rfl,by omega,i+1,by omega,rfl,ho2 ha2,rfl⟩
     · rw [hbad (by
        rw [Bool.eq_false_iff];simp only [aHz,ne_eq,Bool.and_eq_true,decide_eq_true_eq];intro e;exact hpre ⟨e.1.1.1.1,e.1.1.1.2,e.1.1.2,e.1.2⟩)]
       repeat' first|refine sY ⟨?_⟩|(refine sq ?_ ?_<;>refine λh=>⟨?_⟩<;>(first|contradiction|(exfalso;omega)|skip))|fail
       all_goals first|((conv=>whnf);rfl)|omega
   · rw [List.take_of_length_le (by omega)] at ha
     rw [ho ha]
     repeat' first|refine sY ⟨?_⟩|(refine sq ?_ ?_<;>refine λh=>⟨?_⟩<;>(first|contradiction|(exfalso;omega)|skip))|fail
     all_goals (conv=>whnf)
     rfl
 · rw [show aFh ⟨l,loss⟩=false by simp [aFh,h40]]
   refine aAa aLk HM Tryz.func11 rfl (by decide +kernel) (by decide +kernel) rfl ?_
   repeat' first|refine sY ⟨?_⟩|(refine sq ?_ ?_<;>refine λh=>⟨?_⟩<;>(first|contradiction|(exfalso;omega)|skip))|fail
   all_goals (conv=>whnf)
   rfl
open Classical in
set_option maxHeartbeats 4000000 in
theorem bH7 (x y:Nd) (hx:x.Sm) (hy:y.Sm):aAc Tryz.prog gl 54 [.agg x.cells,.agg y.cells] (λr=>r= .bool (decide (x=y))):=by
 obtain ⟨op,a,b,name,shape,k,n,data⟩:=x
 obtain ⟨op2,a2,b2,name2,shape2,k2,n2,data2⟩:=y
 have hsame:=aDh gl shape shape2 (Nat.lt_of_le_of_lt hx.shape (by decide)) (Nat.lt_of_le_of_lt hy.shape (by decide))
 have hld:(aCm data).length=data.length:=rowS_length data
 have hld2:(aCm data2).length=data2.length:=rowS_length data2
 have hdl:data.length<=1000:=hx.data
 by_cases hpre:op=op2/\a=a2/\b=b2/\name=name2/\k=k2/\n=n2/\shape=shape2/\data.length=data2.length
 · obtain ⟨rfl,rfl,rfl,rfl,rfl,rfl,rfl,hdd⟩:=hpre
   have hT:decide ((⟨op,a,b,name,shape,k,n,data⟩:Nd)=⟨op,a,b,name,shape,k,n,data2⟩)=decide (data=data2):=by
    rw [Bool.eq_iff_iff,decide_eq_true_eq,decide_eq_true_eq]
    exact ⟨λe=>by injection e,λe=>by rw [e]⟩
   rw [hT]
   rw [decide_eq_true (rfl:shape=shape)] at hsame
   clear hT hx hy
   refine aAa aNq HM Tryz.func54 rfl (by decide +kernel) (by decide +kernel) rfl ?_
   repeat' first|refine sY ⟨?_⟩|(refine sq ?_ ?_<;>refine λh=>⟨?_⟩<;>(first|contradiction|(exfalso;omega)|skip))|fail
   refine ⟨[2,3,5],[0,1],λm st=>∃i:Nat,i<=data.length/\m=data.length - i/\data.take i=data2.take i/\
    st=⟨[(2,.bptr 0 0),(3,.bptr 1 0),(5,.int .i64 (i:Nat))],[.box 25 (Nd.cells ⟨op,a,b,name,shape,k,n,data⟩),.box 25 (Nd.cells ⟨op,a,b,name,shape,k,n,data2⟩)]⟩,rfl,⟨data.length,0,by omega,rfl,rfl,rfl⟩,?_⟩
   rintro m _ ⟨i,hi,hm,ha,rfl⟩
   rcases Nat.lt_or_ge i data.length with hil|hge
   · have hil2:i<data2.length:=by omega
     have g:=aCd hil
     have g2:=aCd hil2
     by_cases he:data[i]=data2[i]
     · repeat' first|refine sY ⟨?_⟩|(refine sq ?_ ?_<;>refine λh=>⟨?_⟩<;>(first|contradiction|(exfalso;omega)|skip))|fail
       refine ⟨by decide +kernel,[0,1,0,7,15,0,32,0,224,480,1023],by decide +kernel,?_⟩
       repeat' first|refine sY ⟨?_⟩|(refine sq ?_ ?_<;>refine λh=>⟨?_⟩<;>(first|contradiction|(exfalso;omega)|skip))|fail
       exact ⟨[0,1],data.length - (i+1),rfl,by omega,i+1,by omega,rfl,aOy hil hil2 ha he,rfl⟩
     · rw [decide_eq_false (λe:data=data2=>he (by subst e;rfl))]
       repeat' first|refine sY ⟨?_⟩|(refine sq ?_ ?_<;>refine λh=>⟨?_⟩<;>(first|contradiction|(exfalso;omega)|skip))|fail
       refine ⟨by decide +kernel,[0,1,0,7,15,0,32,0,224,480,1023],by decide +kernel,?_⟩
       repeat' first|refine sY ⟨?_⟩|(refine sq ?_ ?_<;>refine λh=>⟨?_⟩<;>(first|contradiction|(exfalso;omega)|skip))|fail
       all_goals (conv=>whnf)
       rfl
   · rw [List.take_of_length_le (by omega),List.take_of_length_le (by omega)] at ha
     rw [decide_eq_true ha]
     repeat' first|refine sY ⟨?_⟩|(refine sq ?_ ?_<;>refine λh=>⟨?_⟩<;>(first|contradiction|(exfalso;omega)|skip))|fail
     all_goals (conv=>whnf)
     rfl
 · rw [decide_eq_false (λe=>hpre (by cases e;exact ⟨rfl,rfl,rfl,rfl,rfl,rfl,rfl,rfl⟩))]
   refine aAa aNq HM Tryz.func54 rfl (by decide +kernel) (by decide +kernel) rfl ?_
   repeat' first|refine sY ⟨?_⟩|(refine sq ?_ ?_<;>refine λh=>⟨?_⟩<;>(first|contradiction|(exfalso;omega)|skip))|fail
   all_goals first|((conv=>whnf);rfl)|(clear hsame hx hy;exfalso;apply hpre;simp_all;done)|(clear hsame hx hy;exfalso;apply hpre;simp_all;omega)
theorem Gr.ext' {g h:Gr}(h1:g.loss=h.loss) (h2:g.nodes=h.nodes):g=h:=by cases g;cases h;simp_all
open Classical in
set_option maxHeartbeats 4000000 in
theorem bDm (g h:Gr) (hg:∀x∈g.nodes,x.Sm) (hh:∀x∈h.nodes,x.Sm) (hgl:g.nodes.length<=1000):aAc Tryz.prog gl 26 [.agg g.cells,.agg h.cells] (λr=>r= .bool (decide (g=h))):=by
 obtain ⟨l,p⟩:=g
 obtain ⟨l2,p2⟩:=h
 have hld:(aAv l).length=l.length:=rowN_length l
 have hld2:(aAv l2).length=l2.length:=rowN_length l2
 dsimp only at hg hh hgl
 by_cases hpre:p=p2/\l.length=l2.length
 · obtain ⟨rfl,hdd⟩:=hpre
   have hT:decide ((⟨l,p⟩:Gr)=⟨l2,p⟩)=decide (l=l2):=by
    rw [Bool.eq_iff_iff,decide_eq_true_eq,decide_eq_true_eq]
    exact ⟨λe=>by injection e,λe=>by rw [e]⟩
   rw [hT]
   clear hT
   refine aAa aLj HM Tryz.func26 rfl (by decide +kernel) (by decide +kernel) rfl ?_
   repeat' first|refine sY ⟨?_⟩|(refine sq ?_ ?_<;>refine λh=>⟨?_⟩<;>(first|contradiction|(exfalso;omega)|skip))|fail
   refine ⟨[2,3,5],[0,1],λm st=>∃i:Nat,i<=l.length/\m=l.length - i/\l.take i=l2.take i/\
    st=⟨[(2,.bptr 0 0),(3,.bptr 1 0),(5,.int .i64 (i:Nat))],[.box 31 (Gr.cells ⟨l,p⟩),.box 31 (Gr.cells ⟨l2,p⟩)]⟩,rfl,⟨l.length,0,by omega,rfl,rfl,rfl⟩,?_⟩
   rintro m _ ⟨i,hi,hm,ha,rfl⟩
   rcases Nat.lt_or_ge i l.length with hil|hge
   · have hil2:i<l2.length:=by omega
     have g:=aB1 hil
     have g2:=aB1 hil2
     have hs:=bH7 gl l[i] l2[i] (hg _ (List.getElem_mem hil)) (hh _ (List.getElem_mem hil2))
     by_cases he:l[i]=l2[i]
     · rw [decide_eq_true he] at hs
       repeat' first|refine sY ⟨?_⟩|(refine sq ?_ ?_<;>refine λh=>⟨?_⟩<;>(first|contradiction|(exfalso;omega)|skip))|fail
       refine ⟨by decide +kernel,[0,1,0,7,15,0,32,0,224,480,1023,2047],by decide +kernel,?_⟩
       repeat' first|refine sY ⟨?_⟩|(refine sq ?_ ?_<;>refine λh=>⟨?_⟩<;>(first|contradiction|(exfalso;omega)|skip))|fail
       exact ⟨[0,1],l.length - (i+1),rfl,by omega,i+1,by omega,rfl,aOy hil hil2 ha he,rfl⟩
     · rw [decide_eq_false he] at hs
       rw [decide_eq_false (λe:l=l2=>he (by subst e;rfl))]
       repeat' first|refine sY ⟨?_⟩|(refine sq ?_ ?_<;>refine λh=>⟨?_⟩<;>(first|contradiction|(exfalso;omega)|skip))|fail
       refine ⟨by decide +kernel,[0,1,0,7,15,0,32,0,224,480,1023,2047],by decide +kernel,?_⟩
       repeat' first|refine sY ⟨?_⟩|(refine sq ?_ ?_<;>refine λh=>⟨?_⟩<;>(first|contradiction|(exfalso;omega)|skip))|fail
       all_goals (conv=>whnf)
       rfl
   · rw [List.take_of_length_le (by omega),List.take_of_length_le (by omega)] at ha
     rw [decide_eq_true ha]
     repeat' first|refine sY ⟨?_⟩|(refine sq ?_ ?_<;>refine λh=>⟨?_⟩<;>(first|contradiction|(exfalso;omega)|skip))|fail
     all_goals (conv=>whnf)
     rfl
 · rw [decide_eq_false (λe=>hpre (by cases e;exact ⟨rfl,rfl⟩))]
   refine aAa aLj HM Tryz.func26 rfl (by decide +kernel) (by decide +kernel) rfl ?_
   repeat' first|refine sY ⟨?_⟩|(refine sq ?_ ?_<;>refine λh=>⟨?_⟩<;>(first|contradiction|(exfalso;omega)|skip))|fail
   all_goals first|((conv=>whnf);rfl)|(exfalso;apply hpre;simp_all;done)|(exfalso;apply hpre;simp_all;omega)
end Go.V
namespace Go.V
open Go.N Go.Proofs
set_option maxRecDepth 20000
def bQu:Tab:=[(31,i31),(29,i29),(25,i25),(3,i3),(22,i22),(103,cCr),(4,i4),(9,i9)]
theorem aHi:TOK Tryz.prog bQu:=⟨K31,⟨K29,⟨K25,⟨K3,⟨K22,⟨cC3,⟨K4,⟨K9,trivial⟩⟩⟩⟩⟩⟩⟩⟩
def bCn:Tab:=[(31,i31),(29,i29),(25,i25),(3,i3),(22,i22),(4,i4),(9,i9)]
theorem aEk:TOK Tryz.prog bCn:=⟨K31,⟨K29,⟨K25,⟨K3,⟨K22,⟨K4,⟨K9,trivial⟩⟩⟩⟩⟩⟩⟩
theorem cAn {r:List Int×Bool}{s:List Int}(h:okZ r=some s):aAl s=true:=by
 rw [okZ] at h
 by_cases hh:(r.2 && aAl r.1)=true
 · rw [if_pos hh] at h
   cases h
   rw [Bool.and_eq_true] at hh
   exact hh.2
 · rw [if_neg hh] at h;cases h
theorem aZx {l:List Nd}{x:Nd}{s:List Int}(h:aCu l x=some s):aAl s=true:=by
 cases hp:aBh x.op with
 |none=>rw [aK9 hp] at h;cases h
 |some m=>
  cases hf:aN8 l x m with
  |false=>rw [aEd hp hf] at h;cases h
  |true=>rw [aEo hp hf] at h;exact cAn h
def cBn (kv:List (ByteArray×AV)):List (ByteArray×AV):=kv.map λkx=>(kx.1,ren [0,1] kx.2)
theorem bFs (f:AV->AV) (x:ByteArray) (v:AV):∀l:List (ByteArray×AV),(aXw l x v).map (λkx=>(kx.1,f kx.2))=aXw (l.map λkx=>(kx.1,f kx.2)) x (f v)
 |[]=>rfl
 |(k,w)::r=>by
  unfold aXw
  simp only [List.map_cons]
  split
  · rfl
  · simp only [List.map_cons,bFs f x v r]
theorem bS2 {kv:List (ByteArray×AV)}(h:cBn kv=kv) (x:ByteArray) (e:Int):cBn (aXw kv x (.int .i64 e))=aXw kv x (.int .i64 e):=by
 rw [cBn,bFs,show (kv.map λkx=>(kx.1,ren [0,1] kx.2))=kv from h];simp [ren]
set_option maxHeartbeats 4000000 in
theorem bE1 (g:Gr) (hs:∀x∈g.nodes,x.Sm) (hl:g.nodes.length<=1000):aAc Tryz.prog GL 33 [.agg g.cells] (λr=>r= .bool (aC1 g)):=by
 obtain ⟨l,p⟩:=g
 have hlr:(aAv l).length=l.length:=rowN_length l
 dsimp only at hs hl
 show aAc _ _ _ [.agg [.ro 8 (aAv l),.int .i64 p]] _
 cases hpre:bBc ⟨l,p⟩
 · rw [show aC1 ⟨l,p⟩=false by rw [aC1,hpre];rfl]
   by_cases h1:1<=l.length
   · by_cases h2:l.length<=200
     · cases h3:inR p l
       · have:=aQl h3
         refine aAa aHi HM Tryz.func33 rfl (by decide +kernel) (by decide +kernel) rfl ?_
         repeat' first|refine sY ⟨?_⟩|(refine sq ?_ ?_<;>refine λh=>⟨?_⟩<;>(first|contradiction|(exfalso;omega)|skip))|fail
         all_goals (conv=>whnf)
         all_goals rfl
       · obtain ⟨q,rfl,hq⟩:=aBc h3
         have h4:l[q].shape≠[]:=λe=>by
          simp only [bBc,h1,h2,h3,aAp hq,e] at hpre
          simp at hpre
         obtain ⟨_,_,_,_,_,_,_,g⟩:=aBz hq
         generalize l[q].shape=A at g h4
         have h5:A.length≠0:=λe=>h4 (List.length_eq_zero_iff.1 e)
         have hA:=rowZ_length A
         refine aAa aHi HM Tryz.func33 rfl (by decide +kernel) (by decide +kernel) rfl ?_
         repeat' first|refine sY ⟨?_⟩|(refine sq ?_ ?_<;>refine λh=>⟨?_⟩<;>(first|contradiction|(exfalso;omega)|skip))|fail
         all_goals (conv=>whnf)
         all_goals rfl
     · refine aAa aHi HM Tryz.func33 rfl (by decide +kernel) (by decide +kernel) rfl ?_
       repeat' first|refine sY ⟨?_⟩|(refine sq ?_ ?_<;>refine λh=>⟨?_⟩<;>(first|contradiction|(exfalso;omega)|skip))|fail
       all_goals (conv=>whnf)
       all_goals rfl
   · refine aAa aHi HM Tryz.func33 rfl (by decide +kernel) (by decide +kernel) rfl ?_
     repeat' first|refine sY ⟨?_⟩|(refine sq ?_ ?_<;>refine λh=>⟨?_⟩<;>(first|contradiction|(exfalso;omega)|skip))|fail
     all_goals (conv=>whnf)
     all_goals rfl
 have hpre2:=hpre
 simp only [bBc,Bool.and_eq_true,decide_eq_true_eq] at hpre2
 obtain ⟨⟨⟨h1,h2⟩,h3⟩,h4⟩:=hpre2
 obtain ⟨q,rfl,hq⟩:=aBc h3
 rw [aAp hq] at h4
 obtain ⟨_,_,_,_,_,_,_,g⟩:=aBz hq
 rw [h4] at g
 rw [show aC1 ⟨l,(q:Int)⟩=aHd l l.length by rw [aC1,hpre];rfl]
 clear hpre h3 h4
 refine aAa aHi HM Tryz.func33 rfl (by decide +kernel) (by decide +kernel) rfl ?_
 repeat' first|refine sY ⟨?_⟩|(refine sq ?_ ?_<;>refine λh=>⟨?_⟩<;>(first|contradiction|(exfalso;omega)|skip))|fail
 refine ⟨[1,3,44,45,46],[0,1],λm st=>∃(i:Nat) (kv:List (ByteArray×AV)),i<=l.length/\m=l.length - i/\aHd l i=true/\bPm kv (l.take i)/\cBn kv=kv/\
  st=⟨[(1,.bptr 0 0),(3,.map 1),(44,.ro 8 (aAv l)),(45,.int .i64 ((aAv l).length:Nat)),(46,.int .i64 (i:Nat))],[.box 31 [.ro 8 (aAv l),.int .i64 (q:Nat)],.kv kv]⟩,rfl,
  ⟨l.length,0,[],by omega,rfl,rfl,bNq,rfl,rfl⟩,?_⟩
 rintro m _ ⟨i,kv,hi,hm,ha,hkv,hrk,rfl⟩
 rcases Nat.lt_or_ge i l.length with hil|hge
 · obtain ⟨x,hx⟩:∃x,x=l[i]:=⟨_,rfl⟩
   have g:(aAv l)[i]? =some x.cells:=by rw [hx];exact aB1 hil
   have hnd:bD1 l i=bAf (l.take i) x:=by rw [hx];exact bNy hil
   have hxs:x.Sm:=by rw [hx];exact hs _ (List.getElem_mem hil)
   have htk:l.take (i+1)=l.take i++[x]:=by rw [hx];exact List.take_succ_eq_append_getElem hil
   clear hx
   have hinf:=bRq (l.take i) x hxs (λy hy=>hs y (List.mem_of_mem_take hy)) (by rw [List.length_take];omega)
   have hcl:=bZt (l.take i) x.name
   have hcp:=@bWb (l.take i) x
   have hsn:=@bIt kv (l.take i) x ((bMr (l.take i) x.name:Nat)+1) hkv rfl
   rw [<- htk] at hsn
   have hrs:=bS2 hrk x.name ((bMr (l.take i) x.name:Nat)+1)
   have hmp:=hkv x.name
   rw [List.length_take] at hcl
   generalize bMr (l.take i) x.name=c at hcl hcp hsn hmp hrs
   have hso:=aHl l i
   rw [ha,hnd,bAf,Bool.true_and] at hso
   have hbad:(decide (aCu (l.take i) x=some x.shape) && (l.take i).all (aC9 x))=false->aHd l l.length=false:=λh=>aYx hil (by rw [hnd,bAf];exact h)
   have hnn:x.name=⟨#[]⟩->(l.take i).all (aC9 x)=true:=λe=>by rw [List.all_eq_true];intro y _;simp [aC9,e]
   have hlen1:=hxs.shape
   cases hI:aCu (l.take i) x with
   |none=>
    rw [hbad (by simp [hI])]
    rw [hI] at hinf
    obtain ⟨op,a,b,name,shape,k,n,data⟩:=x
    repeat' first|refine sY ⟨?_⟩|(refine sq ?_ ?_<;>refine λh=>⟨?_⟩<;>(first|contradiction|(exfalso;omega)|skip))|fail
    refine ⟨by decide +kernel,[0,1,0,7,0,31,63,127,127,255,1023],by decide +kernel,?_⟩
    repeat' first|refine sY ⟨?_⟩|(refine sq ?_ ?_<;>refine λh=>⟨?_⟩<;>(first|contradiction|(exfalso;omega)|skip))|fail
    refine ⟨Int.le_refl _,by omega,by omega,aAv (l.take i),aJq l i,?_⟩
    repeat' first|refine sY ⟨?_⟩|(refine sq ?_ ?_<;>refine λh=>⟨?_⟩<;>(first|contradiction|(exfalso;omega)|skip))|fail
    all_goals (conv=>whnf)
    all_goals rfl
   |some s=>
    rw [hI] at hinf hbad hso
    have hs2:s.length<=4:=by
     have:aAl s=true:=aZx hI
     exact aBg this
    have hsm:=aC4 GL s x.shape (by omega) (by omega)
    by_cases hss:s=x.shape
    · rw [decide_eq_true hss] at hsm
      by_cases hn:x.name=⟨#[]⟩
      · have hgo:aHd l (i+1)=true:=hso.trans (by rw [hnn hn,hss];simp)
        obtain ⟨op,a,b,name,shape,k,n,data⟩:=x
        repeat' first|refine sY ⟨?_⟩|(refine sq ?_ ?_<;>refine λh=>⟨?_⟩<;>(first|contradiction|(exfalso;omega)|skip))|fail
        refine ⟨by decide +kernel,[0,1,0,7,0,31,63,127,127,255,1023],by decide +kernel,?_⟩
        repeat' first|refine sY ⟨?_⟩|(refine sq ?_ ?_<;>refine λh=>⟨?_⟩<;>(first|contradiction|(exfalso;omega)|skip))|fail
        refine ⟨Int.le_refl _,by omega,by omega,aAv (l.take i),aJq l i,?_⟩
        repeat' first|refine sY ⟨?_⟩|(refine sq ?_ ?_<;>refine λh=>⟨?_⟩<;>(first|contradiction|(exfalso;omega)|skip))|fail
        all_goals exact ⟨[0,1],l.length - (i+1),rfl,by omega,i+1,_,by omega,rfl,hgo,hsn,hrs,Eq.trans rfl (congrArg (λz=>(⟨[(1,.bptr 0 0),(3,.map 1),(44,.ro 8 (aAv l)),(45,.int .i64 ((aAv l).length:Nat)),(46,.int .i64 ((i+1:Nat):Int))],[.box 31 [.ro 8 (aAv l),.int .i64 (q:Nat)],.kv z]⟩:St)) hrs)⟩
      · by_cases hc:0<c
        · have hT:=hbad (by rw [(hcp hn).1 hc];simp)
          rw [hT]
          obtain ⟨op,a,b,name,shape,k,n,data⟩:=x
          repeat' first|refine sY ⟨?_⟩|(refine sq ?_ ?_<;>refine λh=>⟨?_⟩<;>(first|contradiction|(exfalso;omega)|skip))|fail
          refine ⟨by decide +kernel,[0,1,0,7,0,31,63,127,127,255,1023],by decide +kernel,?_⟩
          repeat' first|refine sY ⟨?_⟩|(refine sq ?_ ?_<;>refine λh=>⟨?_⟩<;>(first|contradiction|(exfalso;omega)|skip))|fail
          refine ⟨Int.le_refl _,by omega,by omega,aAv (l.take i),aJq l i,?_⟩
          repeat' first|refine sY ⟨?_⟩|(refine sq ?_ ?_<;>refine λh=>⟨?_⟩<;>(first|contradiction|(exfalso;omega)|skip))|fail
          all_goals (conv=>whnf)
          all_goals rfl
        · have hall:(l.take i).all (aC9 x)=true:=by
           cases h:(l.take i).all (aC9 x)
           · exact absurd ((hcp hn).2 h) hc
           · rfl
          have hgo:aHd l (i+1)=true:=hso.trans (by rw [hall,hss];simp)
          obtain ⟨op,a,b,name,shape,k,n,data⟩:=x
          repeat' first|refine sY ⟨?_⟩|(refine sq ?_ ?_<;>refine λh=>⟨?_⟩<;>(first|contradiction|(exfalso;omega)|skip))|fail
          refine ⟨by decide +kernel,[0,1,0,7,0,31,63,127,127,255,1023],by decide +kernel,?_⟩
          repeat' first|refine sY ⟨?_⟩|(refine sq ?_ ?_<;>refine λh=>⟨?_⟩<;>(first|contradiction|(exfalso;omega)|skip))|fail
          refine ⟨Int.le_refl _,by omega,by omega,aAv (l.take i),aJq l i,?_⟩
          repeat' first|refine sY ⟨?_⟩|(refine sq ?_ ?_<;>refine λh=>⟨?_⟩<;>(first|contradiction|(exfalso;omega)|skip))|fail
          all_goals exact ⟨[0,1],l.length - (i+1),rfl,by omega,i+1,_,by omega,rfl,hgo,hsn,hrs,Eq.trans rfl (congrArg (λz=>(⟨[(1,.bptr 0 0),(3,.map 1),(44,.ro 8 (aAv l)),(45,.int .i64 ((aAv l).length:Nat)),(46,.int .i64 ((i+1:Nat):Int))],[.box 31 [.ro 8 (aAv l),.int .i64 (q:Nat)],.kv z]⟩:St)) hrs)⟩
    · rw [decide_eq_false hss] at hsm
      rw [hbad (by simp [hss])]
      obtain ⟨op,a,b,name,shape,k,n,data⟩:=x
      repeat' first|refine sY ⟨?_⟩|(refine sq ?_ ?_<;>refine λh=>⟨?_⟩<;>(first|contradiction|(exfalso;omega)|skip))|fail
      refine ⟨by decide +kernel,[0,1,0,7,0,31,63,127,127,255,1023],by decide +kernel,?_⟩
      repeat' first|refine sY ⟨?_⟩|(refine sq ?_ ?_<;>refine λh=>⟨?_⟩<;>(first|contradiction|(exfalso;omega)|skip))|fail
      refine ⟨Int.le_refl _,by omega,by omega,aAv (l.take i),aJq l i,?_⟩
      repeat' first|refine sY ⟨?_⟩|(refine sq ?_ ?_<;>refine λh=>⟨?_⟩<;>(first|contradiction|(exfalso;omega)|skip))|fail
      all_goals (conv=>whnf)
      all_goals rfl
 · have hi2:i=l.length:=by omega
   subst hi2
   rw [ha]
   repeat' first|refine sY ⟨?_⟩|(refine sq ?_ ?_<;>refine λh=>⟨?_⟩<;>(first|contradiction|(exfalso;omega)|skip))|fail
   all_goals (conv=>whnf)
   all_goals rfl
end Go.V
namespace Go.V
open Go.N Go.Proofs
set_option maxRecDepth 20000
variable (gl:Gl)
theorem aNx {l:List Nd}{i j:Nat}(hj:j<i) (hi:i<=l.length):(l.take i)[j]'(by rw [List.length_take];omega)=l[j]:=by simp
set_option maxHeartbeats 4000000 in
theorem bDn (g:Gr) (hs:∀x∈g.nodes,x.Sm) (hl:g.nodes.length<=1000):aAc Tryz.prog gl 28 [.agg g.cells] (λr=>r= .bool (aC1 g)):=by
 obtain ⟨l,p⟩:=g
 have hlr:(aAv l).length=l.length:=rowN_length l
 dsimp only at hs hl
 show aAc _ _ _ [.agg [.ro 8 (aAv l),.int .i64 p]] _
 cases hpre:bBc ⟨l,p⟩
 · rw [show aC1 ⟨l,p⟩=false by rw [aC1,hpre];rfl]
   by_cases h1:1<=l.length
   · by_cases h2:l.length<=200
     · cases h3:inR p l
       · have:=aQl h3
         refine aAa aEk HM Tryz.func28 rfl (by decide +kernel) (by decide +kernel) rfl ?_
         repeat' first|refine sY ⟨?_⟩|(refine sq ?_ ?_<;>refine λh=>⟨?_⟩<;>(first|contradiction|(exfalso;omega)|skip))|fail
         all_goals (conv=>whnf)
         all_goals rfl
       · obtain ⟨q,rfl,hq⟩:=aBc h3
         have h4:l[q].shape≠[]:=λe=>by
          simp only [bBc,h1,h2,h3,aAp hq,e] at hpre
          simp at hpre
         obtain ⟨_,_,_,_,_,_,_,g⟩:=aBz hq
         generalize l[q].shape=A at g h4
         have h5:A.length≠0:=λe=>h4 (List.length_eq_zero_iff.1 e)
         have hA:=rowZ_length A
         refine aAa aEk HM Tryz.func28 rfl (by decide +kernel) (by decide +kernel) rfl ?_
         repeat' first|refine sY ⟨?_⟩|(refine sq ?_ ?_<;>refine λh=>⟨?_⟩<;>(first|contradiction|(exfalso;omega)|skip))|fail
         all_goals (conv=>whnf)
         all_goals rfl
     · refine aAa aEk HM Tryz.func28 rfl (by decide +kernel) (by decide +kernel) rfl ?_
       repeat' first|refine sY ⟨?_⟩|(refine sq ?_ ?_<;>refine λh=>⟨?_⟩<;>(first|contradiction|(exfalso;omega)|skip))|fail
       all_goals (conv=>whnf)
       all_goals rfl
   · refine aAa aEk HM Tryz.func28 rfl (by decide +kernel) (by decide +kernel) rfl ?_
     repeat' first|refine sY ⟨?_⟩|(refine sq ?_ ?_<;>refine λh=>⟨?_⟩<;>(first|contradiction|(exfalso;omega)|skip))|fail
     all_goals (conv=>whnf)
     all_goals rfl
 have hpre2:=hpre
 simp only [bBc,Bool.and_eq_true,decide_eq_true_eq] at hpre2
 obtain ⟨⟨⟨h1,h2⟩,h3⟩,h4⟩:=hpre2
 obtain ⟨q,rfl,hq⟩:=aBc h3
 rw [aAp hq] at h4
 obtain ⟨_,_,_,_,_,_,_,g⟩:=aBz hq
 rw [h4] at g
 rw [show aC1 ⟨l,(q:Int)⟩=aHd l l.length by rw [aC1,hpre];rfl]
 clear hpre h3 h4
 refine aAa aEk HM Tryz.func28 rfl (by decide +kernel) (by decide +kernel) rfl ?_
 repeat' first|refine sY ⟨?_⟩|(refine sq ?_ ?_<;>refine λh=>⟨?_⟩<;>(first|contradiction|(exfalso;omega)|skip))|fail
 refine ⟨[1,3],[0],λm st=>∃(i:Nat),i<=l.length/\m=l.length - i/\aHd l i=true/\
  st=⟨[(1,.bptr 0 0),(3,.int .i64 (i:Nat))],[.box 31 [.ro 8 (aAv l),.int .i64 (q:Nat)]]⟩,rfl,
  ⟨l.length,0,by omega,rfl,rfl,rfl⟩,?_⟩
 rintro m _ ⟨i,hi,hm,ha,rfl⟩
 rcases Nat.lt_or_ge i l.length with hil|hge
 · obtain ⟨x,hx⟩:∃x,x=l[i]:=⟨_,rfl⟩
   have g:(aAv l)[i]? =some x.cells:=by rw [hx];exact aB1 hil
   have hnd:bD1 l i=bAf (l.take i) x:=by rw [hx];exact bNy hil
   have hxs:x.Sm:=by rw [hx];exact hs _ (List.getElem_mem hil)
   clear hx
   have hsh:=bDo gl (l.take i) x hxs (λy hy=>hs y (List.mem_of_mem_take hy))
   have hri:=bIz (l.take i) x
   have hso:=aHl l i
   rw [ha,hnd,bAf,Bool.true_and] at hso
   have hbad:(decide (aCu (l.take i) x=some x.shape) && (l.take i).all (aC9 x))=false->aHd l l.length=false:=λh=>aYx hil (by rw [hnd,bAf];exact h)
   have hlen1:=hxs.shape
   generalize bD8 (l.take i) x=R at hsh hri
   obtain ⟨s,ok⟩:=R
   dsimp only at hsh hri
   cases ok with
   |false=>
    rw [hbad (by
     cases h:aCu (l.take i) x with
     |none=>rfl
     |some s=>rw [h] at hri;exact absurd hri.1 (by simp))]
    obtain ⟨op,a,b,name,shape,k,n,data⟩:=x
    repeat' first|refine sY ⟨?_⟩|(refine sq ?_ ?_<;>refine λh=>⟨?_⟩<;>(first|contradiction|(exfalso;omega)|skip))|fail
    refine ⟨by decide +kernel,[0,1,0,7,0,16,0,112,240,511,1023,2047,2047,4095,16383],by decide +kernel,?_⟩
    repeat' first|refine sY ⟨?_⟩|(refine sq ?_ ?_<;>refine λh=>⟨?_⟩<;>(first|contradiction|(exfalso;omega)|skip))|fail
    refine ⟨Int.le_refl _,by omega,by omega,aAv (l.take i),aJq l i,?_⟩
    repeat' first|refine sY ⟨?_⟩|(refine sq ?_ ?_<;>refine λh=>⟨?_⟩<;>(first|contradiction|(exfalso;omega)|skip))|fail
    all_goals (conv=>whnf)
    all_goals rfl
   |true=>
    have hI:=hri.2 rfl
    have hs2:=aBg (aZx hI)
    have hsm:=aDh gl s x.shape (by omega) (by omega)
    rw [hI] at hbad hso
    by_cases hss:s=x.shape
    · rw [decide_eq_true hss] at hsm
      rw [hss,decide_eq_true rfl,Bool.true_and] at hso hbad
      have hnk:∀k (hk:k<i),aC9 x l[k]=false->aHd l l.length=false:=λk hk h=>hbad (List.all_eq_false.2 ⟨l[k],by
       rw [<- aNx hk hi];exact List.getElem_mem _,by simp [h]⟩)
      have htk:∀k (hk:k<i),((l.take i).take k).all (aC9 x)=true->aC9 x l[k]=true->((l.take i).take (k+1)).all (aC9 x)=true:=λk hk h1 h2=>
       aOf (by rw [List.length_take];omega) h1 (by rw [aNx hk hi];exact h2)
      obtain ⟨op,a,b,name,shape,k,n,data⟩:=x
      repeat' first|refine sY ⟨?_⟩|(refine sq ?_ ?_<;>refine λh=>⟨?_⟩<;>(first|contradiction|(exfalso;omega)|skip))|fail
      refine ⟨by decide +kernel,[0,1,0,7,0,16,0,112,240,511,1023,2047,2047,4095,16383],by decide +kernel,?_⟩
      repeat' first|refine sY ⟨?_⟩|(refine sq ?_ ?_<;>refine λh=>⟨?_⟩<;>(first|contradiction|(exfalso;omega)|skip))|fail
      refine ⟨Int.le_refl _,by omega,by omega,aAv (l.take i),aJq l i,?_⟩
      repeat' first|refine sY ⟨?_⟩|(refine sq ?_ ?_<;>refine λh=>⟨?_⟩<;>(first|contradiction|(exfalso;omega)|skip))|fail
      refine ⟨[1,3,6],[0],λm st=>∃(j:Nat),j<=i/\m=i - j/\((l.take i).take j).all (aC9 ⟨op,a,b,name,shape,k,n,data⟩)=true/\
       st=⟨[(1,.bptr 0 0),(3,.int .i64 (i:Nat)),(6,.int .i64 (j:Nat))],[.box 31 [.ro 8 (aAv l),.int .i64 (q:Nat)]]⟩,rfl,
       ⟨i,0,by omega,rfl,rfl,rfl⟩,?_⟩
      rintro m2 _ ⟨j,hj,hm2,ha2,rfl⟩
      rcases Nat.lt_or_ge j i with hji|hge
      · obtain ⟨y,hy⟩:∃y,y=l[j]:=⟨_,rfl⟩
        have g2:(aAv l)[j]? =some y.cells:=by rw [hy];exact aB1 (by omega)
        have hb:=hnk j hji
        have hg:=htk j hji ha2
        rw [<- hy] at hb hg
        clear hy hnk htk
        obtain ⟨op2,a2,b2,name2,shape2,k2,n2,data2⟩:=y
        simp only [aC9] at hb hg
        by_cases hn:name=⟨#[]⟩
        · have hg:=hg (by simp [hn])
          repeat' first|refine sY ⟨?_⟩|(refine sq ?_ ?_<;>refine λh=>⟨?_⟩<;>(first|contradiction|(exfalso;omega)|skip))|fail
          refine ⟨by decide +kernel,[0,1,0,7,15,31,63,127,255,511,255,2047,4095,8191,255,16639,255,114943,246015,508159,1048575,2097151],by decide +kernel,?_⟩
          repeat' first|refine sY ⟨?_⟩|(refine sq ?_ ?_<;>refine λh=>⟨?_⟩<;>(first|contradiction|(exfalso;omega)|skip))|fail
          exact ⟨[0],i - (j+1),rfl,by omega,j+1,by omega,rfl,hg,rfl⟩
        · by_cases hnn:name2=name
          · have hT:=hb (by simp [hn,hnn])
            rw [hT]
            repeat' first|refine sY ⟨?_⟩|(refine sq ?_ ?_<;>refine λh=>⟨?_⟩<;>(first|contradiction|(exfalso;omega)|skip))|fail
            refine ⟨by decide +kernel,[0,1,0,7,15,31,63,127,255,511,255,2047,4095,8191,255,16639,255,114943,246015,508159,1048575,2097151],by decide +kernel,?_⟩
            repeat' first|refine sY ⟨?_⟩|(refine sq ?_ ?_<;>refine λh=>⟨?_⟩<;>(first|contradiction|(exfalso;omega)|skip))|fail
            all_goals (conv=>whnf)
            all_goals rfl
          · have hg:=hg (by simp [hnn])
            repeat' first|refine sY ⟨?_⟩|(refine sq ?_ ?_<;>refine λh=>⟨?_⟩<;>(first|contradiction|(exfalso;omega)|skip))|fail
            refine ⟨by decide +kernel,[0,1,0,7,15,31,63,127,255,511,255,2047,4095,8191,255,16639,255,114943,246015,508159,1048575,2097151],by decide +kernel,?_⟩
            repeat' first|refine sY ⟨?_⟩|(refine sq ?_ ?_<;>refine λh=>⟨?_⟩<;>(first|contradiction|(exfalso;omega)|skip))|fail
            exact ⟨[0],i - (j+1),rfl,by omega,j+1,by omega,rfl,hg,rfl⟩
      · rw [List.take_of_length_le (l:=l.take i) (by rw [List.length_take];omega)] at ha2
        rw [ha2] at hso
        repeat' first|refine sY ⟨?_⟩|(refine sq ?_ ?_<;>refine λh=>⟨?_⟩<;>(first|contradiction|(exfalso;omega)|skip))|fail
        exact ⟨[0],l.length - (i+1),rfl,by omega,i+1,by omega,rfl,hso,rfl⟩
    · rw [decide_eq_false hss] at hsm
      rw [hbad (by simp [hss])]
      obtain ⟨op,a,b,name,shape,k,n,data⟩:=x
      repeat' first|refine sY ⟨?_⟩|(refine sq ?_ ?_<;>refine λh=>⟨?_⟩<;>(first|contradiction|(exfalso;omega)|skip))|fail
      refine ⟨by decide +kernel,[0,1,0,7,0,16,0,112,240,511,1023,2047,2047,4095,16383],by decide +kernel,?_⟩
      repeat' first|refine sY ⟨?_⟩|(refine sq ?_ ?_<;>refine λh=>⟨?_⟩<;>(first|contradiction|(exfalso;omega)|skip))|fail
      refine ⟨Int.le_refl _,by omega,by omega,aAv (l.take i),aJq l i,?_⟩
      repeat' first|refine sY ⟨?_⟩|(refine sq ?_ ?_<;>refine λh=>⟨?_⟩<;>(first|contradiction|(exfalso;omega)|skip))|fail
      all_goals (conv=>whnf)
      all_goals rfl
 · have hi2:i=l.length:=by omega
   subst hi2
   rw [ha]
   repeat' first|refine sY ⟨?_⟩|(refine sq ?_ ?_<;>refine λh=>⟨?_⟩<;>(first|contradiction|(exfalso;omega)|skip))|fail
   all_goals (conv=>whnf)
   all_goals rfl
end Go.V
namespace Go.V
open Go.N Go.Proofs
set_option maxRecDepth 20000
def cCj (x:Nd) (k:Nat):Bool:=(decide (0<aIp x.op) && decide (x.a=(k:Int))) || (decide (1<aIp x.op) && decide (x.b=(k:Int)))
inductive NeedP (g:Gr) (keep:List Int):Nat->Prop
 |loss {i:Nat}:(i:Int)=g.loss->NeedP g keep i
 |keep {i:Nat}:(i:Int)∈keep->NeedP g keep i
 |name {i:Nat} {x:Nd}:g.nodes[i]? =some x->x.name≠⟨#[]⟩->NeedP g keep i
 |use {i j:Nat} {x:Nd}:i<j->g.nodes[j]? =some x->cCj x i=true->NeedP g keep j->NeedP g keep i
def fB (n:Nat) (F:Nat->Bool):List (List AV):=(List.range n).map λj=>[.bool (F j)]
@[simp] theorem fB_length (n:Nat) (F:Nat->Bool):(fB n F).length=n:=by simp [fB]
theorem bLk {l:List Nd}{n i:Nat}(h:aHd l n=true) (hi:i<n):bD1 l i=true:=List.all_eq_true.1 h i (List.mem_range.2 hi)
theorem bOa {g:Gr}(h:aC1 g=true){i:Nat}{x:Nd}(hx:g.nodes[i]? =some x):bAf (g.nodes.take i) x=true:=by
 simp only [aC1,Bool.and_eq_true] at h
 have h1:=(List.getElem?_eq_some_iff.1 hx).1
 have:=bLk h.2 h1
 rw [bD1,hx] at this
 exact this
theorem aOt {g:Gr}(h:aC1 g=true){i:Nat}{x:Nd}(hx:g.nodes[i]? =some x):aCu (g.nodes.take i) x=some x.shape:=by
 have:=bOa h hx
 simp only [bAf,Bool.and_eq_true,decide_eq_true_eq] at this
 exact this.1
theorem aMd {g:Gr}(h:aC1 g=true):1<=g.nodes.length/\g.nodes.length<=200/\∃q:Nat,g.loss=q/\q<g.nodes.length:=by
 simp only [aC1,bBc,Bool.and_eq_true,decide_eq_true_eq] at h
 exact ⟨h.1.1.1.1,h.1.1.1.2,aBc h.1.1.2⟩
end Go.V
namespace Go.V
open Go.N Go.Proofs
set_option maxRecDepth 20000
end Go.V
namespace Go.V
open Go.N Go.Proofs
set_option maxRecDepth 20000
end Go.V
namespace Go.V
open Go.N Go.Proofs
set_option maxRecDepth 20000
variable (gl:Gl)
end Go.V
namespace Go.V
open Go.N Go.Proofs
set_option maxRecDepth 20000
variable (gl:Gl)
end Go.V
namespace Go.V
open Go.N Go.Proofs
set_option maxRecDepth 20000
end Go.V
namespace Go.V
open Go.RowKit
section
variable {H:Type}(enc:TypeId×Value->H) (P:Program) (w:World)
abbrev SW (w:World):Nat->Prop:=λb=>b<w.heap.size
def aSk (t:TypeId) (n:Nat) (K:List AV->Prop):Prop:=∀(fuel:Nat) (cs:List Value) (x:DataW H×List MemPlace),DataW.trod enc P w 0 (λ_=>true) true fuel t cs=some x->
 ∃xs,K xs/\cs.length=n/\One cs/\aAt (SW w) H0 w xs cs
variable {enc P w}
theorem bOb {t:TypeId}{k:IntKind}(ht:P.underlying t=some (.int k)):aSk enc P w t 1 (λxs=>∃n,xs=[.int k n]):=λfuel cs x h=>by
 obtain ⟨n,rfl,_,_⟩:=DataW.trod_int ht h
 exact ⟨_,⟨n,rfl⟩,rfl,by simp [One,Value.oneCell'],by simp [aAt,aAi]⟩
theorem aUm {t:TypeId}(ht:P.underlying t=some .string):aSk enc P w t 1 (λxs=>∃s,xs=[.str s]):=λfuel cs x h=>by
 obtain ⟨s,rfl,_,_⟩:=DataW.trod_string ht h
 exact ⟨_,⟨s,rfl⟩,rfl,by simp [One,Value.oneCell'],by simp [aAt,aAi]⟩
theorem aQg {α:Type}{Q:Nat->α->Prop}:∀n:Nat,(∀ i,i<n->∃a,Q i a)->∃l:List α,l.length=n/\∀i (h:i<l.length),Q i l[i]
 |0,_=>⟨[],rfl,λi h=>by simp at h⟩
 |n+1,hq=>by
  obtain ⟨l,hl,h⟩:=aQg n λi hi=>hq i (by omega)
  obtain ⟨a,ha⟩:=hq n (by omega)
  refine ⟨l++[a],by simp [hl],λi hi=>?_⟩
  by_cases hin:i<l.length
  · rw [List.getElem_append_left hin];exact h i hin
  · have:i=n:=by simp at hi;omega
    subst this
    rw [List.getElem_append_right (by omega)]
    simpa using ha
theorem bGd {S:Nat->Prop}:∀{es:List (List AV)}{vss:List (List Value)},es.length=vss.length->(∀ i (h1:i<es.length) (h2:i<vss.length),aAt S H0 w es[i] vss[i])->aAr S w es vss
 |[],[],_,_=>by simp [aAr]
 |[],_::_,h,_=>by simp at h
 |_::_,[],h,_=>by simp at h
 |e::es,v::vss,h,hr=>by
  simp only [aAr]
  exact ⟨v,vss,rfl,hr 0 (by simp) (by simp),bGd (by simpa using h) λi h1 h2=>hr (i+1) (by simpa using h1) (by simpa using h2)⟩
theorem aMf {t e:TypeId}{n:Nat}{K:List AV->Prop}(ht:P.underlying t=some (.slice e)) (hc:P.cellsOf e=n) (hn:0<n) (he:aSk enc P w e n K):
 aSk enc P w t 1 (λxs=>∃es,xs=[.ro n es]/\∀c∈es,K c):=λfuel cs x h=>by
 rcases DataW.trod_slice ht h with ⟨rfl,_⟩|⟨a,len,cap,elems,rest,m,_,rfl,_,_,hl,hm,hlen,hel,_⟩
 · refine ⟨_,⟨[],rfl,by simp⟩,rfl,by simp [One,Value.oneCell'],?_⟩
   simp [aAt,aAi]
   exact ⟨none,0,⟨rfl,rfl⟩,Nat.zero_le _⟩
 · rw [hc] at hel
   obtain ⟨l,hll,hq⟩:=aQg (Q:=λi (p:List AV×List Value)=>K p.1/\w.cells? 0 (a.add (i*n)) n=some p.2/\p.2.length=n/\One p.2/\aAt (SW w) H0 w p.1 p.2) len λi hi=>by
    have hi2:=hel i hi
    rw [List.getElem?_eq_getElem (by omega)] at hi2
    obtain ⟨vs,h1,h2⟩:=Option.bind_eq_some_iff.1 hi2
    obtain ⟨xs,k1,k2,k3,k4⟩:=he _ _ _ h2
    exact ⟨(xs,vs),k1,h1,k2,k3,k4⟩
   refine ⟨_,⟨l.map (·.1),rfl,λc hc=>?_⟩,rfl,by simp [One,Value.oneCell'],?_⟩
   · obtain ⟨p,hp,rfl⟩:=List.mem_map.1 hc
     obtain ⟨i,hi,rfl⟩:=List.getElem_of_mem hp
     exact (hq i hi).1
   · simp only [aAt,aAi]
     refine ⟨_,_,rfl,⟨_,_,by rw [List.length_map,hll],by rw [List.length_map,hll];exact hl,hm,?_⟩,rfl⟩
     rcases Nat.eq_zero_or_pos len with h0|h0
     · left;exact List.length_eq_zero_iff.1 (by rw [List.length_map,hll,h0])
     · have hb:a.block<w.heap.size:=by
        have:=World.cells?_block (hq 0 (by omega)).2.1 hn
        simpa [Addr.add] using this
       refine .inr ⟨a,rfl,hb,hb,l.map (·.2),bGd (by simp) λi h1 h2=>?_,λvs hv=>?_,λi vs hv k u hk=>?_⟩
       · simp only [List.getElem_map]
         exact (hq i (by simpa using h1)).2.2.2.2
       · obtain ⟨p,hp,rfl⟩:=List.mem_map.1 hv
         obtain ⟨i,hi,rfl⟩:=List.getElem_of_mem hp
         exact ⟨(hq i hi).2.2.1,(hq i hi).2.2.2.1⟩
       · rw [List.getElem?_map] at hv
         obtain ⟨p,hp,rfl⟩:=Option.map_eq_some_iff.1 hv
         obtain ⟨hi,rfl⟩:=List.getElem?_eq_some_iff.1 hp
         have h1:=(hq i hi).2.1
         have hk2:=(List.getElem?_eq_some_iff.1 hk).1
         have hlen2:=(hq i hi).2.2.1
         have:=(World.cells?_some h1).2.2 k (by omega)
         rw [Addr.add_add] at this
         rw [this,hk]
def bYc:List Field->Nat->List (AV->Prop)->Prop
 |[],_,Ks=>Ks=[]
 |f::fs,i,Ks=>∃K Kr,Ks=K::Kr/\f.offset=i/\P.cellsOf f.type=1/\aSk enc P w f.type 1 (λxs=>∃a,xs=[a]/\K a)/\bYc fs (i+1) Kr
theorem aSk.mono {t:TypeId}{n:Nat}{K K':List AV->Prop}(h:aSk enc P w t n K) (hk:∀xs,K xs->K' xs):aSk enc P w t n K':=λfuel cs x hx=>by
 obtain ⟨xs,k,r⟩:=h fuel cs x hx
 exact ⟨xs,hk xs k,r⟩
def bX5:List (AV->Prop)->List AV->Prop
 |[],xs=>xs=[]
 |K::Ks,xs=>∃x r,xs=x::r/\K x/\bX5 Ks r
theorem aUl:∀(fs:List Field) (i:Nat) (Ks:List (AV->Prop)) (cs:List Value),bYc (enc:=enc) (P:=P) (w:=w) fs i Ks->cs.length=i+fs.length->
 (∀ f∈fs,∃m y,DataW.trod enc P w 0 (λ_=>true) true m f.type ((cs.drop f.offset).take (P.cellsOf f.type))=some y)->∃xs,bX5 Ks xs/\One (cs.drop i)/\aAt (SW w) H0 w xs (cs.drop i)
 |[],i,Ks,cs,hf,hl,_=>by
  simp only [bYc] at hf
  subst hf
  have:cs.drop i=[]:=List.drop_of_length_le (by simp at hl;omega)
  rw [this]
  exact ⟨[],rfl,by simp [One],by simp [aAt]⟩
 |f::fs,i,Ks,cs,hf,hl,ht=>by
  simp only [bYc] at hf
  obtain ⟨K,Kr,rfl,h1,h2,h3,h4⟩:=hf
  have hi:i<cs.length:=by simp at hl;omega
  obtain ⟨xs,a1,a2,a3⟩:=aUl fs (i+1) Kr cs h4 (by simp at hl;omega) (λg hg=>ht g (List.mem_cons_of_mem _ hg))
  obtain ⟨m,y,hy⟩:=ht f List.mem_cons_self
  have e:cs.drop i=cs[i]::cs.drop (i+1):=List.drop_eq_getElem_cons hi
  rw [h1,h2,e] at hy
  obtain ⟨zs,⟨a,rfl,ha⟩,_,k2,k3⟩:=h3 _ _ _ hy
  simp only [List.take_succ_cons,List.take_zero] at k2 k3
  simp only [aAt] at k3
  obtain ⟨v,r,e2,hv,rfl⟩:=k3
  cases e2
  rw [e]
  refine ⟨a::xs,⟨a,xs,rfl,ha,a1⟩,λu hu=>?_,?_⟩
  · rcases List.mem_cons.1 hu with rfl|hu
    · exact k2 _ List.mem_cons_self
    · exact a2 u hu
  · simp only [aAt];exact ⟨_,_,rfl,hv,a3⟩
theorem aNj {t:TypeId}{fs:Array Field}{Ks:List (AV->Prop)}(ht:P.underlying t=some (.struct fs)) (hn:P.cellsOf t=fs.size) (hf:bYc (enc:=enc) (P:=P) (w:=w) fs.toList 0 Ks):
 aSk enc P w t fs.size (bX5 Ks):=λfuel cs x h=>by
 obtain ⟨xs,m,_,_,hl,hlen,hx⟩:=DataW.trod_struct ht h
 obtain ⟨ys,a1,a2,a3⟩:=aUl fs.toList 0 Ks cs hf (by rw [hl,hn];simp) λf hm=>by
  obtain ⟨i,hi,rfl⟩:=List.getElem_of_mem hm
  have:=hx i _ (by rw [Array.getElem?_eq_getElem (by simpa using hi)])
  rw [List.getElem?_eq_getElem (by rw [hlen];simpa using hi)] at this
  exact ⟨m,_,this⟩
 exact ⟨ys,a1,by rw [hl,hn],by simpa using a2,by simpa using a3⟩
theorem aJn {α:Type}{f:α->List AV}:∀{es:List (List AV)},(∀ c∈es,∃a,c=f a)->∃l:List α,es=l.map f
 |[],_=>⟨[],rfl⟩
 |e::es,h=>by
  obtain ⟨a,ha⟩:=h e List.mem_cons_self
  obtain ⟨l,hl⟩:=aJn (es:=es) λc hc=>h c (List.mem_cons_of_mem _ hc)
  exact ⟨a::l,by rw [ha,hl];rfl⟩
theorem aAc.calls {gl:Gl}{f:FuncId}{fn:Func}{c:Code}{args:List AV}{r:AV}{vs:List Value}{v:Value}(h:aAc P gl f args (λx=>x=r)) (hf:P.funcs[f]? =some fn) (hb:fn.body=some c) (hname:(fn.name == "runtime.NumGoroutine")=false)
 (hgl:bJk (SW w) w gl) (hargs:aAt (SW w) H0 w args vs) (hr:∀S b w' v',bGt S b w' r v'->v'=v):
 Calls P f vs.toArray w λe w'=>e= .returned v/\Below w.heap.size w w':=by
 have hne:fn.name≠ "runtime.NumGoroutine" :=by simpa using hname
 have hen:(callFunc f vs.toArray).run P w= .ok (.enter f vs.toArray) w:=by simp [callFunc,hf,hne,hb]
 rcases h (SW w) w vs (λb hb=>hb) hgl hargs with ⟨_,h2⟩|⟨v2,w2,h1,_⟩|⟨row,xs,w2,h1,_⟩
 · refine h2.mono λe w' he=>?_
   obtain ⟨u,rfl,x,rfl,h3,h4⟩:=he
   rw [hr _ _ _ _ h3]
   exact ⟨rfl,h4⟩
 · rw [hen] at h1;cases h1
 · rw [hen] at h1;cases h1
end
end Go.V
namespace Go.Proofs.YtanlechpmkpbiaaGreatDoor
open Go Go.ChangeShapes Go.WideShapes Go.ChangeAt Go.RowKit Go.V
set_option maxRecDepth 100000
def isS (a:AV):Prop:=∃s,a= .str s
def isI (a:AV):Prop:=∃n,a= .int .i64 n
def cAg (a:AV):Prop:=∃es,a= .ro 1 es/\∀c∈es,∃n,c=[.int .i64 n]
def cAf (a:AV):Prop:=∃es,a= .ro 1 es/\∀c∈es,∃s,c=[.str s]
def cB7 (c:List AV):Prop:=∃x:Nd,c=x.cells
def cB8 (a:AV):Prop:=∃es,a= .ro 8 es/\∀c∈es,cB7 c
theorem bXb {c:List AV}(h:bX5 [isS,isI,isI,isS,cAg,isS,isI,cAf] c):cB7 c:=by
 obtain ⟨_,_,rfl,⟨op,rfl⟩,_,_,rfl,⟨a,rfl⟩,_,_,rfl,⟨b,rfl⟩,_,_,rfl,⟨name,rfl⟩,_,_,rfl,⟨es,rfl,h1⟩,_,_,rfl,⟨k,rfl⟩,_,_,rfl,⟨n,rfl⟩,_,_,rfl,⟨es2,rfl,h2⟩,rfl⟩:=h
 obtain ⟨shape,rfl⟩:=aJn (f:=λn=>[AV.int .i64 n]) h1
 obtain ⟨data,rfl⟩:=aJn (f:=λs=>[AV.str s]) h2
 exact ⟨⟨op,a,b,name,shape,k,n,data⟩,rfl⟩
theorem bSf {c:List AV}(h:bX5 [cB8,isI] c):∃g:Gr,c=g.cells:=by
 obtain ⟨_,_,rfl,⟨es,rfl,h1⟩,_,_,rfl,⟨n,rfl⟩,rfl⟩:=h
 obtain ⟨l,rfl⟩:=aJn h1
 exact ⟨⟨l,n⟩,rfl⟩
section
variable {H:Type}{enc:TypeId×Value->H}{W:World}
theorem bSl:aSk enc Go.Proofs.Tryz.prog W 3 1 (λxs=>∃a,xs=[a]/\isI a):=(bOb Tryz.underlying3).mono λxs ⟨n,h⟩=>⟨_,h,n,rfl⟩
theorem bSm:aSk enc Go.Proofs.Tryz.prog W 9 1 (λxs=>∃a,xs=[a]/\isS a):=(aUm Tryz.underlying9).mono λxs ⟨s,h⟩=>⟨_,h,s,rfl⟩
theorem bUa:aSk enc Go.Proofs.Tryz.prog W 22 1 (λxs=>∃a,xs=[a]/\cAg a):=(aMf Tryz.underlying22 (by kernel_rfl) (by decide) (bOb Tryz.underlying3)).mono λxs ⟨es,h,k⟩=>⟨_,h,es,rfl,k⟩
theorem bUb:aSk enc Go.Proofs.Tryz.prog W 23 1 (λxs=>∃a,xs=[a]/\cAf a):=(aMf Tryz.underlying23 (by kernel_rfl) (by decide) (aUm Tryz.underlying9)).mono λxs ⟨es,h,k⟩=>⟨_,h,es,rfl,k⟩
theorem cAm:aSk enc Go.Proofs.Tryz.prog W 25 8 cB7:=
 (aNj Tryz.underlying25 (by kernel_rfl) ⟨isS,_,rfl,rfl,by kernel_rfl,bSm,isI,_,rfl,rfl,by kernel_rfl,bSl,isI,_,rfl,rfl,by kernel_rfl,bSl,isS,_,rfl,rfl,by kernel_rfl,bSm,cAg,_,rfl,rfl,by kernel_rfl,bUa,
   isS,_,rfl,rfl,by kernel_rfl,bSm,isI,_,rfl,rfl,by kernel_rfl,bSl,cAf,_,rfl,rfl,by kernel_rfl,bUb,rfl⟩).mono λxs h=>bXb h
theorem bXc:aSk enc Go.Proofs.Tryz.prog W 29 1 (λxs=>∃a,xs=[a]/\cB8 a):=(aMf Tryz.underlying29 (by kernel_rfl) (by decide) cAm).mono λxs ⟨es,h,k⟩=>⟨_,h,es,rfl,k⟩
theorem bN3:aSk enc Go.Proofs.Tryz.prog W 31 2 (λxs=>∃g:Gr,xs=g.cells):=
 (aNj Tryz.underlying31 (by kernel_rfl) ⟨cB8,_,rfl,rfl,by kernel_rfl,bXc,isI,_,rfl,rfl,by kernel_rfl,bSl,rfl⟩).mono λxs h=>bSf h
end
theorem own:ownKnob Go.Proofs.Tryz.prog.godebug=none:=by kernel_rfl
theorem aLa:laidOutB Go.Proofs.Tryz.prog=true:=by kernel_rfl
theorem cA1 (u:TypeId) (h:Go.Proofs.Tryz.prog.typeName? 3 u=some "*errors.errorString"):u=282:=
 typeName_ptr_named (nm:= "errors.errorString") (by kernel_rfl) (by kernel_rfl) (by decide) u h
theorem bDv {P:Program}{W:World}:∀(k:Nat){L r:List (String×DataW Unit)}{x:String×DataW Unit},L.drop k=x::r->laidMet P L W->laidMet P (x::r) W
 |0,L,r,x,h,hl=>by rw [List.drop_zero] at h;rw [<- h];exact hl
 |k+1,[],r,x,h,hl=>by simp at h
 |k+1,y::L,r,x,h,hl=>bDv k (by simpa using h) (laidMet.tail hl)
theorem bO0 {P:Program}{W:World}{nm:String}{g:Nat}{cs:Array Value}(hn:P.globalNamed nm=some g) (hv:W.var? P nm=some cs):∃e f,W.heap[g]? =some (.cells cs e f):=by
 unfold World.var? at hv
 rw [hn] at hv
 simp only [Option.bind_some] at hv
 split at hv
 · rename_i cs e f hh
   cases hv
   exact ⟨e,f,hh⟩
 · cases hv
theorem bNa {W:World}{nm:String}{s:List UInt8}{r:List (String×DataW Unit)}{g:Nat}(h:laidMet Go.Proofs.Tryz.prog ((nm,.iface "*errors.errorString" (.ptr (.agg [.lit (.string s)])))::r) W) (hn:Go.Proofs.Tryz.prog.globalNamed nm=some g) (ht:(Go.Proofs.Tryz.prog.globals[g]?).map (·.type)=some 84):
 aAi (SW W) H0 W (.rp [.iface 282 .j]) (.pointer (some ⟨g,0,none⟩))/\∃c e f,W.heap[g]? =some (.cells c e f)/\c.size=1:=by
 obtain ⟨a,s,hv,_,_,_⟩:=laid_sentinel h hn ht
  Tryz.underlying84 cA1 Tryz.underlying282 Tryz.underlying302 rfl rfl Tryz.underlying9 (by kernel_rfl) (by kernel_rfl)
 have hc:W.cell? ⟨g,0,none⟩=some (.iface 282 (.pointer (some a))):=by simpa using World.var?_cell hn hv 0
 have hb:=World.block_lt_of_cell? W _ hc
 obtain ⟨e,f,hh⟩:=bO0 hn hv
 refine ⟨?_,_,e,f,hh,rfl⟩
 simp only [aAi]
 refine ⟨_,rfl,hb,hb,[.iface 282 (.pointer (some a))],?_,by simp [Go.V.One,Value.oneCell'],λk u hk=>?_⟩
 · simp [aAt,aAi]
 · rcases k with _|k
   · simp at hk;subst hk;simpa [Addr.add] using hc
   · simp at hk
theorem bWs {W:World}{L:List (String×DataW Unit)}(hL:laidMet Go.Proofs.Tryz.prog L W) (e0:∃k r,L.drop k=("tapewright/rat.errForm",Rows.laid_tapewright_rat_errForm)::r) (e1:∃k r,L.drop k=("tapewright/rat.errZero",Rows.laid_tapewright_rat_errZero)::r):bJk (SW W) W GL:=by
 intro g cs hm
 simp only [GL,List.mem_cons,List.not_mem_nil,or_false,Prod.mk.injEq] at hm
 obtain ⟨rfl,rfl⟩|⟨rfl,rfl⟩:=hm
 · obtain ⟨k,r,e⟩:=e0
   exact bNa (bDv k e hL) (by kernel_rfl) (by kernel_rfl)
 · obtain ⟨k,r,e⟩:=e1
   exact bNa (bDv k e hL) (by kernel_rfl) (by kernel_rfl)
end Go.Proofs.YtanlechpmkpbiaaGreatDoor
