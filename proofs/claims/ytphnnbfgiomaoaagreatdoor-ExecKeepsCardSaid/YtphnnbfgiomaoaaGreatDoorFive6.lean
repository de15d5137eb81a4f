/-
  Lemmas (part 6) for: the statement.
-/
import Derived.Test.YtphnnbfgiomaoaaGreatDoorFive4
set_option linter.all false
namespace Go.V
open Go.N Go.Proofs
set_option maxRecDepth 20000
variable (gl:Gl)
set_option maxHeartbeats 8000000 in
theorem aP3 (l:List Nd) (x:Nd) (o:Opc) (ho:x.op=o.str) (hf:aN8 l x o.many=true) (hx:x.Sm) (hl:∀y∈l,y.Sm):
 aAc Tryz.prog gl 43 [.ro 8 (aAv l),.agg x.cells] (λy=>y= .tup [.ro 1 (aAh (bD8 l x).1),.bool (bD8 l x).2]):=by
 rw [bXn (by rw [ho];exact aFw o) hf]
 obtain ⟨op,a,b,name,shape,k,n,data⟩:=x
 dsimp only at ho
 subst ho
 have F:=(aI7 _ _ _).1 hf
 have hp:=aK4 gl o.str
 have hpz:aIp o.str=(o.many:Int):=by rw [aIp,aFw]
 rw [hpz] at hp
 have hname:=aTw gl name (Nat.lt_of_le_of_lt hx.name (by decide))
 have hrs:=aA2 gl shape (Nat.lt_of_le_of_lt hx.shape (by decide))
 have hr0:=aA2 gl [] (by decide)
 have hlr:(aAv l).length=l.length:=rowN_length l
 have hld:(aCm data).length=data.length:=rowS_length data
 have hk:=hx.k
 have hdl:data.length<=1000:=hx.data
 clear hf
 refine aAc.taken ?_
 cases o
 case param=>
  obtain rfl:a=0:=F.a0 rfl
  obtain rfl:b=0:=F.b0 (by decide)
  rw [if_pos (by decide),if_pos (by decide)]
  obtain rfl:k=⟨#[]⟩:=F.k (by dsimp only;decide)
  obtain rfl:n=0:=F.n (by dsimp only;decide)
  obtain rfl:data=[]:=List.length_eq_zero_iff.1 (F.d (by dsimp only;decide))
  rw [show aGy name=true from F.nm rfl] at hname
  rw [aDr .param (s:=shape) rfl rfl (by decide)]
  refine vgo aAe Tryz.func43 ?_
  repeat' first|refine sV ⟨?_⟩|refine sq (λh=>⟨?_⟩) λh=>⟨?_⟩|fail
  all_goals (conv=>whnf)
  all_goals first|exact ⟨_,aAf rfl rfl,rfl⟩|exact ⟨_,aAf (show aC7 .nils (.ro 1 []) from ⟨1,rfl⟩) rfl,rfl⟩
 case input=>
  obtain rfl:a=0:=F.a0 rfl
  obtain rfl:b=0:=F.b0 (by decide)
  rw [if_pos (by decide),if_pos (by decide)]
  obtain rfl:k=⟨#[]⟩:=F.k (by dsimp only;decide)
  obtain rfl:n=0:=F.n (by dsimp only;decide)
  obtain rfl:data=[]:=List.length_eq_zero_iff.1 (F.d (by dsimp only;decide))
  rw [show aGy name=true from F.nm rfl] at hname
  rw [aDr .input (s:=shape) rfl rfl (by decide)]
  refine vgo aAe Tryz.func43 ?_
  repeat' first|refine sV ⟨?_⟩|refine sq (λh=>⟨?_⟩) λh=>⟨?_⟩|fail
  all_goals (conv=>whnf)
  all_goals first|exact ⟨_,aAf rfl rfl,rfl⟩|exact ⟨_,aAf (show aC7 .nils (.ro 1 []) from ⟨1,rfl⟩) rfl,rfl⟩
 case relu=>
  obtain ⟨i,rfl,hi⟩:∃i:Nat,a=i/\i<l.length:=aBc (F.ia (by decide))
  obtain rfl:b=0:=F.b0 (by decide)
  rw [if_neg (by decide),if_pos (by decide)]
  dsimp only
  rw [aAp hi]
  obtain ⟨_,_,_,_,_,_,_,g⟩:=aBz hi
  have hA:=(hl _ (List.getElem_mem hi)).shape
  generalize l[i].shape=A at g hA ⊢
  have hra:=aA2 gl A (by omega)
  have hlA:=rowZ_length A
  obtain rfl:name=⟨#[]⟩:=F.nn rfl
  obtain rfl:k=⟨#[]⟩:=F.k (by dsimp only;decide)
  obtain rfl:n=0:=F.n (by dsimp only;decide)
  obtain rfl:data=[]:=List.length_eq_zero_iff.1 (F.d (by dsimp only;decide))
  rw [aDr .relu (s:=A) rfl rfl (by decide)]
  refine vgo aAe Tryz.func43 ?_
  repeat' first|refine sV ⟨?_⟩|refine sq (λh=>⟨?_⟩) λh=>⟨?_⟩|fail
  all_goals (conv=>whnf)
  all_goals first|exact ⟨_,aAf rfl rfl,rfl⟩|exact ⟨_,aAf (show aC7 .nils (.ro 1 []) from ⟨1,rfl⟩) rfl,rfl⟩
 case abs=>
  obtain ⟨i,rfl,hi⟩:∃i:Nat,a=i/\i<l.length:=aBc (F.ia (by decide))
  obtain rfl:b=0:=F.b0 (by decide)
  rw [if_neg (by decide),if_pos (by decide)]
  dsimp only
  rw [aAp hi]
  obtain ⟨_,_,_,_,_,_,_,g⟩:=aBz hi
  have hA:=(hl _ (List.getElem_mem hi)).shape
  generalize l[i].shape=A at g hA ⊢
  have hra:=aA2 gl A (by omega)
  have hlA:=rowZ_length A
  obtain rfl:name=⟨#[]⟩:=F.nn rfl
  obtain rfl:k=⟨#[]⟩:=F.k (by dsimp only;decide)
  obtain rfl:n=0:=F.n (by dsimp only;decide)
  obtain rfl:data=[]:=List.length_eq_zero_iff.1 (F.d (by dsimp only;decide))
  rw [aDr .abs (s:=A) rfl rfl (by decide)]
  refine vgo aAe Tryz.func43 ?_
  repeat' first|refine sV ⟨?_⟩|refine sq (λh=>⟨?_⟩) λh=>⟨?_⟩|fail
  all_goals (conv=>whnf)
  all_goals first|exact ⟨_,aAf rfl rfl,rfl⟩|exact ⟨_,aAf (show aC7 .nils (.ro 1 []) from ⟨1,rfl⟩) rfl,rfl⟩
 case step=>
  obtain ⟨i,rfl,hi⟩:∃i:Nat,a=i/\i<l.length:=aBc (F.ia (by decide))
  obtain rfl:b=0:=F.b0 (by decide)
  rw [if_neg (by decide),if_pos (by decide)]
  dsimp only
  rw [aAp hi]
  obtain ⟨_,_,_,_,_,_,_,g⟩:=aBz hi
  have hA:=(hl _ (List.getElem_mem hi)).shape
  generalize l[i].shape=A at g hA ⊢
  have hra:=aA2 gl A (by omega)
  have hlA:=rowZ_length A
  obtain rfl:name=⟨#[]⟩:=F.nn rfl
  obtain rfl:k=⟨#[]⟩:=F.k (by dsimp only;decide)
  obtain rfl:n=0:=F.n (by dsimp only;decide)
  obtain rfl:data=[]:=List.length_eq_zero_iff.1 (F.d (by dsimp only;decide))
  rw [aDr .step (s:=A) rfl rfl (by decide)]
  refine vgo aAe Tryz.func43 ?_
  repeat' first|refine sV ⟨?_⟩|refine sq (λh=>⟨?_⟩) λh=>⟨?_⟩|fail
  all_goals (conv=>whnf)
  all_goals first|exact ⟨_,aAf rfl rfl,rfl⟩|exact ⟨_,aAf (show aC7 .nils (.ro 1 []) from ⟨1,rfl⟩) rfl,rfl⟩
 case sign=>
  obtain ⟨i,rfl,hi⟩:∃i:Nat,a=i/\i<l.length:=aBc (F.ia (by decide))
  obtain rfl:b=0:=F.b0 (by decide)
  rw [if_neg (by decide),if_pos (by decide)]
  dsimp only
  rw [aAp hi]
  obtain ⟨_,_,_,_,_,_,_,g⟩:=aBz hi
  have hA:=(hl _ (List.getElem_mem hi)).shape
  generalize l[i].shape=A at g hA ⊢
  have hra:=aA2 gl A (by omega)
  have hlA:=rowZ_length A
  obtain rfl:name=⟨#[]⟩:=F.nn rfl
  obtain rfl:k=⟨#[]⟩:=F.k (by dsimp only;decide)
  obtain rfl:n=0:=F.n (by dsimp only;decide)
  obtain rfl:data=[]:=List.length_eq_zero_iff.1 (F.d (by dsimp only;decide))
  rw [aDr .sign (s:=A) rfl rfl (by decide)]
  refine vgo aAe Tryz.func43 ?_
  repeat' first|refine sV ⟨?_⟩|refine sq (λh=>⟨?_⟩) λh=>⟨?_⟩|fail
  all_goals (conv=>whnf)
  all_goals first|exact ⟨_,aAf rfl rfl,rfl⟩|exact ⟨_,aAf (show aC7 .nils (.ro 1 []) from ⟨1,rfl⟩) rfl,rfl⟩
 case add=>
  obtain ⟨i,rfl,hi⟩:∃i:Nat,a=i/\i<l.length:=aBc (F.ia (by decide))
  obtain ⟨j,rfl,hj⟩:∃i:Nat,b=i/\i<l.length:=aBc (F.ib (by decide))
  rw [if_neg (by decide),if_neg (by decide)]
  dsimp only
  rw [aAp hi,aAp hj]
  obtain ⟨_,_,_,_,_,_,_,g⟩:=aBz hi
  obtain ⟨_,_,_,_,_,_,_,g2⟩:=aBz hj
  have hA:=(hl _ (List.getElem_mem hi)).shape
  have hB:=(hl _ (List.getElem_mem hj)).shape
  generalize l[i].shape=A at g hA ⊢
  generalize l[j].shape=B at g2 hB ⊢
  have hra:=aA2 gl A (by omega)
  have hsame:=aDh gl A B (by omega) (by omega)
  have hlA:=rowZ_length A
  have hlB:=rowZ_length B
  obtain rfl:name=⟨#[]⟩:=F.nn rfl
  obtain rfl:k=⟨#[]⟩:=F.k (by dsimp only;decide)
  obtain rfl:n=0:=F.n (by dsimp only;decide)
  obtain rfl:data=[]:=List.length_eq_zero_iff.1 (F.d (by dsimp only;decide))
  by_cases hAB:A=B
  · rw [aDr .add (s:=A) rfl (by show (A,decide (A=B))=_;rw [decide_eq_true hAB]) (by decide)]
    rw [decide_eq_true hAB] at hsame
    refine vgo aAe Tryz.func43 ?_
    repeat' first|refine sV ⟨?_⟩|refine sq (λh=>⟨?_⟩) λh=>⟨?_⟩|fail
    all_goals (conv=>whnf)
    all_goals first|exact ⟨_,aAf rfl rfl,rfl⟩|exact ⟨_,aAf (show aC7 .nils (.ro 1 []) from ⟨1,rfl⟩) rfl,rfl⟩
  · rw [aD9]
    rotate_left
    · exact (show decide (A=B)=false from decide_eq_false hAB)
    rw [decide_eq_false hAB] at hsame
    refine vgo aAe Tryz.func43 ?_
    repeat' first|refine sV ⟨?_⟩|refine sq (λh=>⟨?_⟩) λh=>⟨?_⟩|fail
    all_goals (conv=>whnf)
    all_goals first|exact ⟨_,aAf rfl rfl,rfl⟩|exact ⟨_,aAf (show aC7 .nils (.ro 1 []) from ⟨1,rfl⟩) rfl,rfl⟩
 case sub=>
  obtain ⟨i,rfl,hi⟩:∃i:Nat,a=i/\i<l.length:=aBc (F.ia (by decide))
  obtain ⟨j,rfl,hj⟩:∃i:Nat,b=i/\i<l.length:=aBc (F.ib (by decide))
  rw [if_neg (by decide),if_neg (by decide)]
  dsimp only
  rw [aAp hi,aAp hj]
  obtain ⟨_,_,_,_,_,_,_,g⟩:=aBz hi
  obtain ⟨_,_,_,_,_,_,_,g2⟩:=aBz hj
  have hA:=(hl _ (List.getElem_mem hi)).shape
  have hB:=(hl _ (List.getElem_mem hj)).shape
  generalize l[i].shape=A at g hA ⊢
  generalize l[j].shape=B at g2 hB ⊢
  have hra:=aA2 gl A (by omega)
  have hsame:=aDh gl A B (by omega) (by omega)
  have hlA:=rowZ_length A
  have hlB:=rowZ_length B
  obtain rfl:name=⟨#[]⟩:=F.nn rfl
  obtain rfl:k=⟨#[]⟩:=F.k (by dsimp only;decide)
  obtain rfl:n=0:=F.n (by dsimp only;decide)
  obtain rfl:data=[]:=List.length_eq_zero_iff.1 (F.d (by dsimp only;decide))
  by_cases hAB:A=B
  · rw [aDr .sub (s:=A) rfl (by show (A,decide (A=B))=_;rw [decide_eq_true hAB]) (by decide)]
    rw [decide_eq_true hAB] at hsame
    refine vgo aAe Tryz.func43 ?_
    repeat' first|refine sV ⟨?_⟩|refine sq (λh=>⟨?_⟩) λh=>⟨?_⟩|fail
    all_goals (conv=>whnf)
    all_goals first|exact ⟨_,aAf rfl rfl,rfl⟩|exact ⟨_,aAf (show aC7 .nils (.ro 1 []) from ⟨1,rfl⟩) rfl,rfl⟩
  · rw [aD9]
    rotate_left
    · exact (show decide (A=B)=false from decide_eq_false hAB)
    rw [decide_eq_false hAB] at hsame
    refine vgo aAe Tryz.func43 ?_
    repeat' first|refine sV ⟨?_⟩|refine sq (λh=>⟨?_⟩) λh=>⟨?_⟩|fail
    all_goals (conv=>whnf)
    all_goals first|exact ⟨_,aAf rfl rfl,rfl⟩|exact ⟨_,aAf (show aC7 .nils (.ro 1 []) from ⟨1,rfl⟩) rfl,rfl⟩
 case mul=>
  obtain ⟨i,rfl,hi⟩:∃i:Nat,a=i/\i<l.length:=aBc (F.ia (by decide))
  obtain ⟨j,rfl,hj⟩:∃i:Nat,b=i/\i<l.length:=aBc (F.ib (by decide))
  rw [if_neg (by decide),if_neg (by decide)]
  dsimp only
  rw [aAp hi,aAp hj]
  obtain ⟨_,_,_,_,_,_,_,g⟩:=aBz hi
  obtain ⟨_,_,_,_,_,_,_,g2⟩:=aBz hj
  have hA:=(hl _ (List.getElem_mem hi)).shape
  have hB:=(hl _ (List.getElem_mem hj)).shape
  generalize l[i].shape=A at g hA ⊢
  generalize l[j].shape=B at g2 hB ⊢
  have hra:=aA2 gl A (by omega)
  have hsame:=aDh gl A B (by omega) (by omega)
  have hlA:=rowZ_length A
  have hlB:=rowZ_length B
  obtain rfl:name=⟨#[]⟩:=F.nn rfl
  obtain rfl:k=⟨#[]⟩:=F.k (by dsimp only;decide)
  obtain rfl:n=0:=F.n (by dsimp only;decide)
  obtain rfl:data=[]:=List.length_eq_zero_iff.1 (F.d (by dsimp only;decide))
  by_cases hAB:A=B
  · rw [aDr .mul (s:=A) rfl (by show (A,decide (A=B))=_;rw [decide_eq_true hAB]) (by decide)]
    rw [decide_eq_true hAB] at hsame
    refine vgo aAe Tryz.func43 ?_
    repeat' first|refine sV ⟨?_⟩|refine sq (λh=>⟨?_⟩) λh=>⟨?_⟩|fail
    all_goals (conv=>whnf)
    all_goals first|exact ⟨_,aAf rfl rfl,rfl⟩|exact ⟨_,aAf (show aC7 .nils (.ro 1 []) from ⟨1,rfl⟩) rfl,rfl⟩
  · rw [aD9]
    rotate_left
    · exact (show decide (A=B)=false from decide_eq_false hAB)
    rw [decide_eq_false hAB] at hsame
    refine vgo aAe Tryz.func43 ?_
    repeat' first|refine sV ⟨?_⟩|refine sq (λh=>⟨?_⟩) λh=>⟨?_⟩|fail
    all_goals (conv=>whnf)
    all_goals first|exact ⟨_,aAf rfl rfl,rfl⟩|exact ⟨_,aAf (show aC7 .nils (.ro 1 []) from ⟨1,rfl⟩) rfl,rfl⟩
 case max=>
  obtain ⟨i,rfl,hi⟩:∃i:Nat,a=i/\i<l.length:=aBc (F.ia (by decide))
  obtain ⟨j,rfl,hj⟩:∃i:Nat,b=i/\i<l.length:=aBc (F.ib (by decide))
  rw [if_neg (by decide),if_neg (by decide)]
  dsimp only
  rw [aAp hi,aAp hj]
  obtain ⟨_,_,_,_,_,_,_,g⟩:=aBz hi
  obtain ⟨_,_,_,_,_,_,_,g2⟩:=aBz hj
  have hA:=(hl _ (List.getElem_mem hi)).shape
  have hB:=(hl _ (List.getElem_mem hj)).shape
  generalize l[i].shape=A at g hA ⊢
  generalize l[j].shape=B at g2 hB ⊢
  have hra:=aA2 gl A (by omega)
  have hsame:=aDh gl A B (by omega) (by omega)
  have hlA:=rowZ_length A
  have hlB:=rowZ_length B
  obtain rfl:name=⟨#[]⟩:=F.nn rfl
  obtain rfl:k=⟨#[]⟩:=F.k (by dsimp only;decide)
  obtain rfl:n=0:=F.n (by dsimp only;decide)
  obtain rfl:data=[]:=List.length_eq_zero_iff.1 (F.d (by dsimp only;decide))
  by_cases hAB:A=B
  · rw [aDr .max (s:=A) rfl (by show (A,decide (A=B))=_;rw [decide_eq_true hAB]) (by decide)]
    rw [decide_eq_true hAB] at hsame
    refine vgo aAe Tryz.func43 ?_
    repeat' first|refine sV ⟨?_⟩|refine sq (λh=>⟨?_⟩) λh=>⟨?_⟩|fail
    all_goals (conv=>whnf)
    all_goals first|exact ⟨_,aAf rfl rfl,rfl⟩|exact ⟨_,aAf (show aC7 .nils (.ro 1 []) from ⟨1,rfl⟩) rfl,rfl⟩
  · rw [aD9]
    rotate_left
    · exact (show decide (A=B)=false from decide_eq_false hAB)
    rw [decide_eq_false hAB] at hsame
    refine vgo aAe Tryz.func43 ?_
    repeat' first|refine sV ⟨?_⟩|refine sq (λh=>⟨?_⟩) λh=>⟨?_⟩|fail
    all_goals (conv=>whnf)
    all_goals first|exact ⟨_,aAf rfl rfl,rfl⟩|exact ⟨_,aAf (show aC7 .nils (.ro 1 []) from ⟨1,rfl⟩) rfl,rfl⟩
 case above=>
  obtain ⟨i,rfl,hi⟩:∃i:Nat,a=i/\i<l.length:=aBc (F.ia (by decide))
  obtain ⟨j,rfl,hj⟩:∃i:Nat,b=i/\i<l.length:=aBc (F.ib (by decide))
  rw [if_neg (by decide),if_neg (by decide)]
  dsimp only
  rw [aAp hi,aAp hj]
  obtain ⟨_,_,_,_,_,_,_,g⟩:=aBz hi
  obtain ⟨_,_,_,_,_,_,_,g2⟩:=aBz hj
  have hA:=(hl _ (List.getElem_mem hi)).shape
  have hB:=(hl _ (List.getElem_mem hj)).shape
  generalize l[i].shape=A at g hA ⊢
  generalize l[j].shape=B at g2 hB ⊢
  have hra:=aA2 gl A (by omega)
  have hsame:=aDh gl A B (by omega) (by omega)
  have hlA:=rowZ_length A
  have hlB:=rowZ_length B
  obtain rfl:name=⟨#[]⟩:=F.nn rfl
  obtain rfl:k=⟨#[]⟩:=F.k (by dsimp only;decide)
  obtain rfl:n=0:=F.n (by dsimp only;decide)
  obtain rfl:data=[]:=List.length_eq_zero_iff.1 (F.d (by dsimp only;decide))
  by_cases hAB:A=B
  · rw [aDr .above (s:=A) rfl (by show (A,decide (A=B))=_;rw [decide_eq_true hAB]) (by decide)]
    rw [decide_eq_true hAB] at hsame
    refine vgo aAe Tryz.func43 ?_
    repeat' first|refine sV ⟨?_⟩|refine sq (λh=>⟨?_⟩) λh=>⟨?_⟩|fail
    all_goals (conv=>whnf)
    all_goals first|exact ⟨_,aAf rfl rfl,rfl⟩|exact ⟨_,aAf (show aC7 .nils (.ro 1 []) from ⟨1,rfl⟩) rfl,rfl⟩
  · rw [aD9]
    rotate_left
    · exact (show decide (A=B)=false from decide_eq_false hAB)
    rw [decide_eq_false hAB] at hsame
    refine vgo aAe Tryz.func43 ?_
    repeat' first|refine sV ⟨?_⟩|refine sq (λh=>⟨?_⟩) λh=>⟨?_⟩|fail
    all_goals (conv=>whnf)
    all_goals first|exact ⟨_,aAf rfl rfl,rfl⟩|exact ⟨_,aAf (show aC7 .nils (.ro 1 []) from ⟨1,rfl⟩) rfl,rfl⟩
 case sum=>
  obtain ⟨i,rfl,hi⟩:∃i:Nat,a=i/\i<l.length:=aBc (F.ia (by decide))
  obtain rfl:b=0:=F.b0 (by decide)
  rw [if_neg (by decide),if_pos (by decide)]
  dsimp only
  rw [aAp hi]
  obtain ⟨_,_,_,_,_,_,_,g⟩:=aBz hi
  have hA:=(hl _ (List.getElem_mem hi)).shape
  generalize l[i].shape=A at g hA ⊢
  have hra:=aA2 gl A (by omega)
  have hlA:=rowZ_length A
  obtain rfl:name=⟨#[]⟩:=F.nn rfl
  obtain rfl:k=⟨#[]⟩:=F.k (by dsimp only;decide)
  obtain rfl:n=0:=F.n (by dsimp only;decide)
  obtain rfl:data=[]:=List.length_eq_zero_iff.1 (F.d (by dsimp only;decide))
  rw [aDr .sum (s:=[]) rfl rfl (by decide)]
  refine vgo aAe Tryz.func43 ?_
  repeat' first|refine sV ⟨?_⟩|refine sq (λh=>⟨?_⟩) λh=>⟨?_⟩|fail
  all_goals (conv=>whnf)
  all_goals first|exact ⟨_,aAf rfl rfl,rfl⟩|exact ⟨_,aAf (show aC7 .nils (.ro 1 []) from ⟨1,rfl⟩) rfl,rfl⟩
 case scale=>
  obtain ⟨i,rfl,hi⟩:∃i:Nat,a=i/\i<l.length:=aBc (F.ia (by decide))
  obtain rfl:b=0:=F.b0 (by decide)
  rw [if_neg (by decide),if_pos (by decide)]
  dsimp only
  rw [aAp hi]
  obtain ⟨_,_,_,_,_,_,_,g⟩:=aBz hi
  have hA:=(hl _ (List.getElem_mem hi)).shape
  generalize l[i].shape=A at g hA ⊢
  have hra:=aA2 gl A (by omega)
  have hlA:=rowZ_length A
  obtain rfl:name=⟨#[]⟩:=F.nn rfl
  obtain rfl:n=0:=F.n (by dsimp only;decide)
  obtain rfl:data=[]:=List.length_eq_zero_iff.1 (F.d (by dsimp only;decide))
  have hread:=aEx gl k (Nat.lt_of_le_of_lt hk (by decide))
  cases hr:aBa k
  · rw [hr] at hread
    rw [aD9]
    rotate_left
    · exact (show aBa k=false from hr)
    refine vgo aAe Tryz.func43 ?_
    repeat' first|refine sV ⟨?_⟩|refine sq (λh=>⟨?_⟩) λh=>⟨?_⟩|fail
    rintro _ ⟨p,q,rfl,_⟩
    repeat' first|refine sV ⟨?_⟩|refine sq (λh=>⟨?_⟩) λh=>⟨?_⟩|fail
    all_goals (conv=>whnf)
    all_goals first|exact ⟨_,aAf rfl rfl,rfl⟩|exact ⟨_,aAf (show aC7 .nils (.ro 1 []) from ⟨1,rfl⟩) rfl,rfl⟩
  · rw [hr] at hread
    rw [aDr .scale (s:=A) rfl (by show (A,aBa k)=_;rw [hr]) (by decide)]
    refine vgo aAe Tryz.func43 ?_
    repeat' first|refine sV ⟨?_⟩|refine sq (λh=>⟨?_⟩) λh=>⟨?_⟩|fail
    rintro _ ⟨p,q,rfl,_⟩
    repeat' first|refine sV ⟨?_⟩|refine sq (λh=>⟨?_⟩) λh=>⟨?_⟩|fail
    all_goals (conv=>whnf)
    all_goals first|exact ⟨_,aAf rfl rfl,rfl⟩|exact ⟨_,aAf (show aC7 .nils (.ro 1 []) from ⟨1,rfl⟩) rfl,rfl⟩
 case power=>
  obtain ⟨i,rfl,hi⟩:∃i:Nat,a=i/\i<l.length:=aBc (F.ia (by decide))
  obtain rfl:b=0:=F.b0 (by decide)
  rw [if_neg (by decide),if_pos (by decide)]
  dsimp only
  rw [aAp hi]
  obtain ⟨_,_,_,_,_,_,_,g⟩:=aBz hi
  have hA:=(hl _ (List.getElem_mem hi)).shape
  generalize l[i].shape=A at g hA ⊢
  have hra:=aA2 gl A (by omega)
  have hlA:=rowZ_length A
  obtain rfl:name=⟨#[]⟩:=F.nn rfl
  obtain rfl:k=⟨#[]⟩:=F.k (by dsimp only;decide)
  obtain rfl:data=[]:=List.length_eq_zero_iff.1 (F.d (by dsimp only;decide))
  by_cases hn:0<=n/\n<=6
  · rw [aDr .power (s:=A) rfl (by show (A,decide (0<=n) && decide (n<=6))=_;simp [hn]) (by decide)]
    refine vgo aAe Tryz.func43 ?_
    repeat' first|refine sV ⟨?_⟩|refine sq (λh=>⟨?_⟩) λh=>⟨?_⟩|fail
    all_goals (conv=>whnf)
    all_goals first|exact ⟨_,aAf rfl rfl,rfl⟩|exact ⟨_,aAf (show aC7 .nils (.ro 1 []) from ⟨1,rfl⟩) rfl,rfl⟩
  · rw [aD9]
    rotate_left
    · exact (show (decide (0<=n) && decide (n<=6))=false by rw [Bool.eq_false_iff];simp only [ne_eq,Bool.and_eq_true,decide_eq_true_eq];exact hn)
    refine vgo aAe Tryz.func43 ?_
    repeat' first|refine sV ⟨?_⟩|refine sq (λh=>⟨?_⟩) λh=>⟨?_⟩|fail
    all_goals (conv=>whnf)
    all_goals first|exact ⟨_,aAf rfl rfl,rfl⟩|exact ⟨_,aAf (show aC7 .nils (.ro 1 []) from ⟨1,rfl⟩) rfl,rfl⟩
 case transpose=>
  obtain ⟨i,rfl,hi⟩:∃i:Nat,a=i/\i<l.length:=aBc (F.ia (by decide))
  obtain rfl:b=0:=F.b0 (by decide)
  rw [if_neg (by decide),if_pos (by decide)]
  dsimp only
  rw [aAp hi]
  obtain ⟨_,_,_,_,_,_,_,g⟩:=aBz hi
  have hA:=(hl _ (List.getElem_mem hi)).shape
  generalize l[i].shape=A at g hA ⊢
  have hra:=aA2 gl A (by omega)
  have hlA:=rowZ_length A
  obtain rfl:name=⟨#[]⟩:=F.nn rfl
  obtain rfl:k=⟨#[]⟩:=F.k (by dsimp only;decide)
  obtain rfl:n=0:=F.n (by dsimp only;decide)
  obtain rfl:data=[]:=List.length_eq_zero_iff.1 (F.d (by dsimp only;decide))
  by_cases h2:A.length=2
  · obtain ⟨p,q,rfl⟩:=aKw h2
    have hqp:=aA2 gl [q,p] (show 2<_ by decide)
    rw [aDr .transpose (s:=[q,p]) rfl rfl (by decide)]
    refine vgo aAe Tryz.func43 ?_
    repeat' first|refine sV ⟨?_⟩|refine sq (λh=>⟨?_⟩) λh=>⟨?_⟩|fail
    refine ⟨by decide +kernel,[0,1,3,0,8,24,63,127],by decide +kernel,?_⟩
    repeat' first|refine sV ⟨?_⟩|refine sq (λh=>⟨?_⟩) λh=>⟨?_⟩|fail
    all_goals (conv=>whnf)
    all_goals first|exact ⟨_,aAf rfl rfl,rfl⟩|exact ⟨_,aAf (show aC7 .nils (.ro 1 []) from ⟨1,rfl⟩) rfl,rfl⟩
  · rw [aD9]
    rotate_left
    · exact (congrArg Prod.snd (aIm h2))
    refine vgo aAe Tryz.func43 ?_
    repeat' first|refine sV ⟨?_⟩|refine sq (λh=>⟨?_⟩) λh=>⟨?_⟩|fail
    all_goals (conv=>whnf)
    all_goals first|exact ⟨_,aAf rfl rfl,rfl⟩|exact ⟨_,aAf (show aC7 .nils (.ro 1 []) from ⟨1,rfl⟩) rfl,rfl⟩
 case spread=>
  obtain ⟨i,rfl,hi⟩:∃i:Nat,a=i/\i<l.length:=aBc (F.ia (by decide))
  obtain rfl:b=0:=F.b0 (by decide)
  rw [if_neg (by decide),if_pos (by decide)]
  dsimp only
  rw [aAp hi]
  obtain ⟨_,_,_,_,_,_,_,g⟩:=aBz hi
  have hA:=(hl _ (List.getElem_mem hi)).shape
  generalize l[i].shape=A at g hA ⊢
  have hra:=aA2 gl A (by omega)
  have hlA:=rowZ_length A
  obtain rfl:name=⟨#[]⟩:=F.nn rfl
  obtain rfl:k=⟨#[]⟩:=F.k (by dsimp only;decide)
  obtain rfl:n=0:=F.n (by dsimp only;decide)
  obtain rfl:data=[]:=List.length_eq_zero_iff.1 (F.d (by dsimp only;decide))
  by_cases h0:A.length=0
  · rw [aDr .spread (s:=shape) rfl (by show (shape,decide ((A.length:Int)=0))=_;simp [h0]) (by decide)]
    refine vgo aAe Tryz.func43 ?_
    repeat' first|refine sV ⟨?_⟩|refine sq (λh=>⟨?_⟩) λh=>⟨?_⟩|fail
    all_goals (conv=>whnf)
    all_goals first|exact ⟨_,aAf rfl rfl,rfl⟩|exact ⟨_,aAf (show aC7 .nils (.ro 1 []) from ⟨1,rfl⟩) rfl,rfl⟩
  · rw [aD9]
    rotate_left
    · exact (show decide ((A.length:Int)=0)=false by simp;simpa using h0)
    refine vgo aAe Tryz.func43 ?_
    repeat' first|refine sV ⟨?_⟩|refine sq (λh=>⟨?_⟩) λh=>⟨?_⟩|fail
    all_goals (conv=>whnf)
    all_goals first|exact ⟨_,aAf rfl rfl,rfl⟩|exact ⟨_,aAf (show aC7 .nils (.ro 1 []) from ⟨1,rfl⟩) rfl,rfl⟩
 case reshape=>
  obtain ⟨i,rfl,hi⟩:∃i:Nat,a=i/\i<l.length:=aBc (F.ia (by decide))
  obtain rfl:b=0:=F.b0 (by decide)
  rw [if_neg (by decide),if_pos (by decide)]
  dsimp only
  rw [aAp hi]
  obtain ⟨_,_,_,_,_,_,_,g⟩:=aBz hi
  have hA:=(hl _ (List.getElem_mem hi)).shape
  generalize l[i].shape=A at g hA ⊢
  have hra:=aA2 gl A (by omega)
  have hlA:=rowZ_length A
  obtain rfl:name=⟨#[]⟩:=F.nn rfl
  obtain rfl:k=⟨#[]⟩:=F.k (by dsimp only;decide)
  obtain rfl:n=0:=F.n (by dsimp only;decide)
  obtain rfl:data=[]:=List.length_eq_zero_iff.1 (F.d (by dsimp only;decide))
  cases hos:aAl shape
  · rw [bGa]
    rotate_left
    · exact .inr rfl
    · exact (show aAl shape=false from hos)
    rw [hos] at hrs
    refine vgo aAe Tryz.func43 ?_
    repeat' first|refine sV ⟨?_⟩|refine sq (λh=>⟨?_⟩) λh=>⟨?_⟩|fail
    all_goals (conv=>whnf)
    all_goals first|exact ⟨_,aAf rfl rfl,rfl⟩|exact ⟨_,aAf (show aC7 .nils (.ro 1 []) from ⟨1,rfl⟩) rfl,rfl⟩
  rw [hos] at hrs
  have hz1:=aHm gl shape hos
  have hp1:=aJi shape 1 (λd hd=>(aCs hos d hd).1) (Int.le_refl _)
  cases hoa:aAl A
  · have e:aDj shape≠aDj A:=by simp only [aDj,hos,hoa];intro e;have:aA8 shape=0:=e;unfold aA8 at this;omega
    rw [aD9]
    rotate_left
    · exact (show decide (aDj shape=aDj A)=false from decide_eq_false e)
    rw [hoa] at hra
    refine vgo aAe Tryz.func43 ?_
    repeat' first|refine sV ⟨?_⟩|refine sq (λh=>⟨?_⟩) λh=>⟨?_⟩|fail
    all_goals (conv=>whnf)
    all_goals first|exact ⟨_,aAf rfl rfl,rfl⟩|exact ⟨_,aAf (show aC7 .nils (.ro 1 []) from ⟨1,rfl⟩) rfl,rfl⟩
  rw [hoa] at hra
  have hz2:=aHm gl A hoa
  by_cases e:aA8 shape=aA8 A
  · rw [bOh (s:=shape) (by show (shape,decide (aDj shape=aDj A))=_;simp [aDj,hos,hoa,e]) hos]
    refine vgo aAe Tryz.func43 ?_
    repeat' first|refine sV ⟨?_⟩|refine sq (λh=>⟨?_⟩) λh=>⟨?_⟩|fail
    all_goals (conv=>whnf)
    all_goals first|exact ⟨_,aAf rfl rfl,rfl⟩|exact ⟨_,aAf (show aC7 .nils (.ro 1 []) from ⟨1,rfl⟩) rfl,rfl⟩
  · rw [aD9]
    rotate_left
    · exact (show decide (aDj shape=aDj A)=false by simp [aDj,hos,hoa,e])
    refine vgo aAe Tryz.func43 ?_
    repeat' first|refine sV ⟨?_⟩|refine sq (λh=>⟨?_⟩) λh=>⟨?_⟩|fail
    all_goals (conv=>whnf)
    all_goals first|exact ⟨_,aAf rfl rfl,rfl⟩|exact ⟨_,aAf (show aC7 .nils (.ro 1 []) from ⟨1,rfl⟩) rfl,rfl⟩
 case matmul=>
  obtain ⟨i,rfl,hi⟩:∃i:Nat,a=i/\i<l.length:=aBc (F.ia (by decide))
  obtain ⟨j,rfl,hj⟩:∃i:Nat,b=i/\i<l.length:=aBc (F.ib (by decide))
  rw [if_neg (by decide),if_neg (by decide)]
  dsimp only
  rw [aAp hi,aAp hj]
  obtain ⟨_,_,_,_,_,_,_,g⟩:=aBz hi
  obtain ⟨_,_,_,_,_,_,_,g2⟩:=aBz hj
  have hA:=(hl _ (List.getElem_mem hi)).shape
  have hB:=(hl _ (List.getElem_mem hj)).shape
  generalize l[i].shape=A at g hA ⊢
  generalize l[j].shape=B at g2 hB ⊢
  have hra:=aA2 gl A (by omega)
  have hsame:=aDh gl A B (by omega) (by omega)
  have hlA:=rowZ_length A
  have hlB:=rowZ_length B
  obtain rfl:name=⟨#[]⟩:=F.nn rfl
  obtain rfl:k=⟨#[]⟩:=F.k (by dsimp only;decide)
  obtain rfl:n=0:=F.n (by dsimp only;decide)
  obtain rfl:data=[]:=List.length_eq_zero_iff.1 (F.d (by dsimp only;decide))
  by_cases h2:A.length=2/\B.length=2
  · obtain ⟨ha2,hb2⟩:=h2
    obtain ⟨p,q,rfl⟩:=aKw ha2
    obtain ⟨r,s,rfl⟩:=aKw hb2
    have hps:=aA2 gl [p,s] (show 2<_ by decide)
    by_cases hqr:q=r
    · rw [aDr .matmul (s:=[p,s])]
      rotate_left
      · exact rfl
      · exact if_pos hqr
      · decide
      refine vgo aAe Tryz.func43 ?_
      repeat' first|refine sV ⟨?_⟩|refine sq (λh=>⟨?_⟩) λh=>⟨?_⟩|fail
      refine ⟨by decide +kernel,[0,1,3,7,15,31,63,127,255,511,1023,2047,511,4607,12799,32767,65535],by decide +kernel,?_⟩
      repeat' first|refine sV ⟨?_⟩|refine sq (λh=>⟨?_⟩) λh=>⟨?_⟩|fail
      refine ⟨by decide +kernel,[0,1,3,0,8,24,63,127],by decide +kernel,?_⟩
      repeat' first|refine sV ⟨?_⟩|refine sq (λh=>⟨?_⟩) λh=>⟨?_⟩|fail
      all_goals (conv=>whnf)
      all_goals first|exact ⟨_,aAf rfl rfl,rfl⟩|exact ⟨_,aAf (show aC7 .nils (.ro 1 []) from ⟨1,rfl⟩) rfl,rfl⟩
    · rw [aD9]
      rotate_left
      · exact (congrArg Prod.snd (show ofZ ⟨Opc.str .matmul,_,_,_,shape,_,_,_⟩ [p,q] [r,s]=([],false) from if_neg hqr))
      refine vgo aAe Tryz.func43 ?_
      repeat' first|refine sV ⟨?_⟩|refine sq (λh=>⟨?_⟩) λh=>⟨?_⟩|fail
      refine ⟨by decide +kernel,[0,1,3,7,15,31,63,127,255,511,1023,2047,511,4607,12799,32767,65535],by decide +kernel,?_⟩
      repeat' first|refine sV ⟨?_⟩|refine sq (λh=>⟨?_⟩) λh=>⟨?_⟩|fail
      all_goals (conv=>whnf)
      all_goals first|exact ⟨_,aAf rfl rfl,rfl⟩|exact ⟨_,aAf (show aC7 .nils (.ro 1 []) from ⟨1,rfl⟩) rfl,rfl⟩
  · rw [aD9]
    rotate_left
    · exact (congrArg Prod.snd (aKd λh=>h2 ⟨h.1,h.2.1⟩))
    refine vgo aAe Tryz.func43 ?_
    repeat' first|refine sV ⟨?_⟩|refine sq (λh=>⟨?_⟩) λh=>⟨?_⟩|fail
    refine ⟨by decide +kernel,[0,1,3,7,15,31,63,127,255,511,1023,2047,511,4607,12799,32767,65535],by decide +kernel,?_⟩
    repeat' first|refine sV ⟨?_⟩|refine sq (λh=>⟨?_⟩) λh=>⟨?_⟩|fail
    all_goals (conv=>whnf)
    all_goals first|exact ⟨_,aAf rfl rfl,rfl⟩|exact ⟨_,aAf (show aC7 .nils (.ro 1 []) from ⟨1,rfl⟩) rfl,rfl⟩
 case const=>
  obtain rfl:a=0:=F.a0 rfl
  obtain rfl:b=0:=F.b0 (by decide)
  rw [if_pos (by decide),if_pos (by decide)]
  obtain rfl:name=⟨#[]⟩:=F.nn rfl
  obtain rfl:k=⟨#[]⟩:=F.k (by dsimp only;decide)
  obtain rfl:n=0:=F.n (by dsimp only;decide)
  cases hos:aAl shape
  · rw [bGa]
    rotate_left
    · exact .inl rfl
    · exact (show aAl shape=false from hos)
    rw [hos] at hrs
    refine vgo aAe Tryz.func43 ?_
    repeat' first|refine sV ⟨?_⟩|refine sq (λh=>⟨?_⟩) λh=>⟨?_⟩|fail
    refine ⟨by decide +kernel,[0,1,3,7,15,31,63,15,143,511,1023],by decide +kernel,?_⟩
    repeat' first|refine sV ⟨?_⟩|refine sq (λh=>⟨?_⟩) λh=>⟨?_⟩|fail
    all_goals (conv=>whnf)
    all_goals first|exact ⟨_,aAf rfl rfl,rfl⟩|exact ⟨_,aAf (show aC7 .nils (.ro 1 []) from ⟨1,rfl⟩) rfl,rfl⟩
  have hsz:aDj shape=aA8 shape:=by simp [aDj,hos]
  rw [hos] at hrs
  have hz1:=aHm gl shape hos
  by_cases hlen:(data.length:Int)=aA8 shape
  · have hT1:data.any (λd=> !aBa d)=true->aXu ⟨Opc.str .const,0,0,⟨#[]⟩,shape,⟨#[]⟩,0,data⟩ [] []=([],false):=λh=>
     aD9 (show (decide ((data.length:Int)=aDj shape) && !(data.any λd=> !aBa d))=false by rw [h];simp)
    have hT2:data.any (λd=> !aBa d)=false->aXu ⟨Opc.str .const,0,0,⟨#[]⟩,shape,⟨#[]⟩,0,data⟩ [] []=(shape,true):=λh=>
     bOh (by show (shape,decide ((data.length:Int)=aDj shape) && !(data.any λd=> !aBa d))=_;rw [h,hsz,hlen];simp) hos
    generalize aXu ⟨Opc.str .const,0,0,⟨#[]⟩,shape,⟨#[]⟩,0,data⟩ [] []=T at hT1 hT2 ⊢
    refine vgo aAe Tryz.func43 ?_
    repeat' first|refine sV ⟨?_⟩|refine sq (λh=>⟨?_⟩) λh=>⟨?_⟩|fail
    refine ⟨by decide +kernel,[0,1,3,7,15,31,63,15,143,511,1023],by decide +kernel,?_⟩
    repeat' first|refine sV ⟨?_⟩|refine sq (λh=>⟨?_⟩) λh=>⟨?_⟩|fail
    refine ⟨[9,163,164,165],[],λm st=>∃i:Nat,i<=data.length/\m=data.length - i/\(data.take i).any (λd=> !aBa d)=false/\
     st=⟨[(9,.ro 1 (aAh shape)),(163,.ro 1 (aCm data)),(164,.int .i64 ((aCm data).length:Nat)),(165,.int .i64 (i:Nat))],[]⟩,rfl,⟨data.length,0,by omega,rfl,by simp,rfl⟩,?_⟩
    rintro m _ ⟨i,hi,hm,ha,rfl⟩
    rcases Nat.lt_or_ge i data.length with hil|hge
    · have g:=aCd hil
      have hread:=aEx gl data[i] (Nat.lt_of_le_of_lt (hx.each _ (List.getElem_mem hil)) (by decide))
      cases hr:aBa data[i]
      · rw [hr] at hread
        repeat' first|refine sV ⟨?_⟩|refine sq (λh=>⟨?_⟩) λh=>⟨?_⟩|fail
        rintro _ ⟨p,q,rfl,_⟩
        repeat' first|refine sV ⟨?_⟩|refine sq (λh=>⟨?_⟩) λh=>⟨?_⟩|fail
        all_goals (conv=>whnf)
        exact ⟨_,aAf (show aC7 .nils (.ro 1 []) from ⟨1,rfl⟩) rfl,by rw [hT1 (bCv hil (by simp [hr]))];rfl⟩
      · rw [hr] at hread
        repeat' first|refine sV ⟨?_⟩|refine sq (λh=>⟨?_⟩) λh=>⟨?_⟩|fail
        rintro _ ⟨p,q,rfl,_⟩
        repeat' first|refine sV ⟨?_⟩|refine sq (λh=>⟨?_⟩) λh=>⟨?_⟩|fail
        exact ⟨[],data.length - (i+1),rfl,by omega,i+1,by omega,rfl,aVj hil ha (by simp [hr]),rfl⟩
    · rw [List.take_of_length_le (by omega)] at ha
      repeat' first|refine sV ⟨?_⟩|refine sq (λh=>⟨?_⟩) λh=>⟨?_⟩|fail
      all_goals (conv=>whnf)
      exact ⟨_,aAf rfl rfl,by rw [hT2 ha]⟩
  · rw [aD9]
    rotate_left
    · exact (show (decide ((data.length:Int)=aDj shape) && !(data.any λd=> !aBa d))=false by rw [hsz,decide_eq_false hlen];rfl)
    refine vgo aAe Tryz.func43 ?_
    repeat' first|refine sV ⟨?_⟩|refine sq (λh=>⟨?_⟩) λh=>⟨?_⟩|fail
    refine ⟨by decide +kernel,[0,1,3,7,15,31,63,15,143,511,1023],by decide +kernel,?_⟩
    repeat' first|refine sV ⟨?_⟩|refine sq (λh=>⟨?_⟩) λh=>⟨?_⟩|fail
    all_goals (conv=>whnf)
    all_goals first|exact ⟨_,aAf rfl rfl,rfl⟩|exact ⟨_,aAf (show aC7 .nils (.ro 1 []) from ⟨1,rfl⟩) rfl,rfl⟩
end Go.V
