/-
  Lemmas (part 5) for: What fold.Fold makes of any graph is what the document says (FoldMakes, FoldAll, FoldNames, FoldLeaves hold for every graph); no condition.
-/
import Derived.Test.YtndiceggidmgkaaGreatDoorFold3
import Derived.Test.YtndiceggidmgkaaGreatDoorFold4
import Derived.OpenShut
import Derived.Lay
import Derived.LaidMore
import Derived.ProofKit
import Derived.SevenTiedAt
import Derived.Stop.Joined
import Derived.Stop.LaidErr
import Derived.ChangeOld
import Derived.Carry
import Derived.DataElems
import Derived.Test.YtndiceggidmgkaaGreatDoorTie
import Derived.Test.YtndiceggidmgkaaGreatDoorCards
set_option linter.all false
namespace Go.V
open Go.N
set_option maxRecDepth 20000
variable (gl : Gl)
def T_r10_Shape : Tab := [(36, i36), (9, i9), (3, i3), (22, i22), (4, i4), (34, i34), (33, i33), (100, i100)]
theorem TOK_r10_Shape : TOK Go.Proofs.Tryz.prog T_r10_Shape := ⟨K36, ⟨K9, ⟨K3, ⟨K22, ⟨K4, ⟨K34, ⟨K33, ⟨K100, trivial⟩⟩⟩⟩⟩⟩⟩⟩
set_option maxHeartbeats 8000000 in
theorem c_r10_Shape_no (l : List Nd) (x : Nd) (o : Opc) (ho : x.op = o.str) (hf : fitN l x o.many = false) (hx : x.Sm) :
    VCall Go.Proofs.Tryz.prog gl 47 [.ro 8 (rowN l), .agg x.cells] (fun y => y = .tup [.ro 1 [], .bool false]) := by
  obtain ⟨op, a, b, name, shape, k, n, data⟩ := x
  dsimp only at ho
  subst ho
  have hp := c_r10_Parts gl o.str
  have hpz : partsZ o.str = (o.many : Int) := by rw [partsZ, opc_many]
  rw [hpz] at hp
  have hname := c_r08_Name gl name (Nat.lt_of_le_of_lt hx.name (by decide))
  have hlr : (rowN l).length = l.length := rowN_length l
  have hld : (rowS data).length = data.length := rowS_length data
  refine VCall.taken ?_
  cases o
  all_goals (refine vcall_of TOK_r10_Shape HM Go.Proofs.Tryz.func47 rfl (by decide +kernel) (by decide +kernel) rfl ?_)
  all_goals (repeat' first|refine sY ⟨?_⟩|(refine sq ?_ ?_<;>refine fun h=>⟨?_⟩<;>(first|contradiction|(exfalso;omega)|skip))|fail)
  all_goals first
    | ((conv => whnf); exact ⟨_, roTo2 (show RoTo .nils (.ro 1 []) from ⟨1, rfl⟩) rfl, rfl⟩)
    | exact (fit_no hf (by
        clear hf hp hname hx
        constructor
        all_goals (dsimp only [Opc.many, Opc.str])
        all_goals first
          | omega
          | (intro e; first | exact absurd e (by decide) | exact absurd rfl e | assumption | omega | (exact inR_of (by omega) (by omega)) | (rename_i q; simpa using q) | simp_all))).elim
end Go.V
namespace Go.V
open Go.N
set_option maxRecDepth 20000
variable (gl : Gl)
set_option maxHeartbeats 8000000 in
theorem c_r10_Shape_yes (l : List Nd) (x : Nd) (o : Opc) (ho : x.op = o.str) (hf : fitN l x o.many = true) (hx : x.Sm) (hl : ∀ y ∈ l, y.Sm) :
    VCall Go.Proofs.Tryz.prog gl 47 [.ro 8 (rowN l), .agg x.cells] (fun y => y = .tup [.ro 1 (rowZ (refN l x).1), .bool (refN l x).2]) := by
  rw [refN_ok (by rw [ho]; exact opc_many o) hf]
  obtain ⟨op, a, b, name, shape, k, n, data⟩ := x
  dsimp only at ho
  subst ho
  have F := (fit_iff _ _ _).1 hf
  have hp := c_r10_Parts gl o.str
  have hpz : partsZ o.str = (o.many : Int) := by rw [partsZ, opc_many]
  rw [hpz] at hp
  have hname := c_r08_Name gl name (Nat.lt_of_le_of_lt hx.name (by decide))
  have hrs := c_r04_Right gl shape (Nat.lt_of_le_of_lt hx.shape (by decide))
  have hr0 := c_r04_Right gl [] (by decide)
  have hlr : (rowN l).length = l.length := rowN_length l
  have hld : (rowS data).length = data.length := rowS_length data
  have hk := hx.k
  have hdl : data.length ≤ 1000 := hx.data
  clear hf
  refine VCall.taken ?_
  cases o
  case param =>
    obtain rfl : a = 0 := F.a0 rfl
    obtain rfl : b = 0 := F.b0 (by decide)
    rw [if_pos (by decide), if_pos (by decide)]
    obtain rfl : k = ⟨#[]⟩ := F.k (by dsimp only; decide)
    obtain rfl : n = 0 := F.n (by dsimp only; decide)
    obtain rfl : data = [] := List.length_eq_zero_iff.1 (F.d (by dsimp only; decide))
    rw [show isName name = true from F.nm rfl] at hname
    rw [refZ_at .param (s := shape) rfl rfl (by decide)]
    refine vcall_of TOK_r10_Shape HM Go.Proofs.Tryz.func47 rfl (by decide +kernel) (by decide +kernel) rfl ?_
    repeat' first|refine sY ⟨?_⟩|(refine sq ?_ ?_<;>refine fun h=>⟨?_⟩<;>(first|contradiction|(exfalso;omega)|skip))|fail
    all_goals (conv => whnf)
    all_goals first | exact ⟨_, roTo2 rfl rfl, rfl⟩ | exact ⟨_, roTo2 (show RoTo .nils (.ro 1 []) from ⟨1, rfl⟩) rfl, rfl⟩
  case input =>
    obtain rfl : a = 0 := F.a0 rfl
    obtain rfl : b = 0 := F.b0 (by decide)
    rw [if_pos (by decide), if_pos (by decide)]
    obtain rfl : k = ⟨#[]⟩ := F.k (by dsimp only; decide)
    obtain rfl : n = 0 := F.n (by dsimp only; decide)
    obtain rfl : data = [] := List.length_eq_zero_iff.1 (F.d (by dsimp only; decide))
    rw [show isName name = true from F.nm rfl] at hname
    rw [refZ_at .input (s := shape) rfl rfl (by decide)]
    refine vcall_of TOK_r10_Shape HM Go.Proofs.Tryz.func47 rfl (by decide +kernel) (by decide +kernel) rfl ?_
    repeat' first|refine sY ⟨?_⟩|(refine sq ?_ ?_<;>refine fun h=>⟨?_⟩<;>(first|contradiction|(exfalso;omega)|skip))|fail
    all_goals (conv => whnf)
    all_goals first | exact ⟨_, roTo2 rfl rfl, rfl⟩ | exact ⟨_, roTo2 (show RoTo .nils (.ro 1 []) from ⟨1, rfl⟩) rfl, rfl⟩
  case relu =>
    obtain ⟨i, rfl, hi⟩ : ∃ i : Nat, a = i ∧ i < l.length := inR_nat (F.ia (by decide))
    obtain rfl : b = 0 := F.b0 (by decide)
    rw [if_neg (by decide), if_pos (by decide)]
    dsimp only
    rw [shAt_nat hi]
    obtain ⟨_, _, _, _, _, _, _, g⟩ := rowN_sh hi
    have hA := (hl _ (List.getElem_mem hi)).shape
    generalize l[i].shape = A at g hA ⊢
    have hra := c_r04_Right gl A (by omega)
    have hlA := rowZ_length A
    obtain rfl : name = ⟨#[]⟩ := F.nn rfl
    obtain rfl : k = ⟨#[]⟩ := F.k (by dsimp only; decide)
    obtain rfl : n = 0 := F.n (by dsimp only; decide)
    obtain rfl : data = [] := List.length_eq_zero_iff.1 (F.d (by dsimp only; decide))
    rw [refZ_at .relu (s := A) rfl rfl (by decide)]
    refine vcall_of TOK_r10_Shape HM Go.Proofs.Tryz.func47 rfl (by decide +kernel) (by decide +kernel) rfl ?_
    repeat' first|refine sY ⟨?_⟩|(refine sq ?_ ?_<;>refine fun h=>⟨?_⟩<;>(first|contradiction|(exfalso;omega)|skip))|fail
    all_goals (conv => whnf)
    all_goals first | exact ⟨_, roTo2 rfl rfl, rfl⟩ | exact ⟨_, roTo2 (show RoTo .nils (.ro 1 []) from ⟨1, rfl⟩) rfl, rfl⟩
  case abs =>
    obtain ⟨i, rfl, hi⟩ : ∃ i : Nat, a = i ∧ i < l.length := inR_nat (F.ia (by decide))
    obtain rfl : b = 0 := F.b0 (by decide)
    rw [if_neg (by decide), if_pos (by decide)]
    dsimp only
    rw [shAt_nat hi]
    obtain ⟨_, _, _, _, _, _, _, g⟩ := rowN_sh hi
    have hA := (hl _ (List.getElem_mem hi)).shape
    generalize l[i].shape = A at g hA ⊢
    have hra := c_r04_Right gl A (by omega)
    have hlA := rowZ_length A
    obtain rfl : name = ⟨#[]⟩ := F.nn rfl
    obtain rfl : k = ⟨#[]⟩ := F.k (by dsimp only; decide)
    obtain rfl : n = 0 := F.n (by dsimp only; decide)
    obtain rfl : data = [] := List.length_eq_zero_iff.1 (F.d (by dsimp only; decide))
    rw [refZ_at .abs (s := A) rfl rfl (by decide)]
    refine vcall_of TOK_r10_Shape HM Go.Proofs.Tryz.func47 rfl (by decide +kernel) (by decide +kernel) rfl ?_
    repeat' first|refine sY ⟨?_⟩|(refine sq ?_ ?_<;>refine fun h=>⟨?_⟩<;>(first|contradiction|(exfalso;omega)|skip))|fail
    all_goals (conv => whnf)
    all_goals first | exact ⟨_, roTo2 rfl rfl, rfl⟩ | exact ⟨_, roTo2 (show RoTo .nils (.ro 1 []) from ⟨1, rfl⟩) rfl, rfl⟩
  case step =>
    obtain ⟨i, rfl, hi⟩ : ∃ i : Nat, a = i ∧ i < l.length := inR_nat (F.ia (by decide))
    obtain rfl : b = 0 := F.b0 (by decide)
    rw [if_neg (by decide), if_pos (by decide)]
    dsimp only
    rw [shAt_nat hi]
    obtain ⟨_, _, _, _, _, _, _, g⟩ := rowN_sh hi
    have hA := (hl _ (List.getElem_mem hi)).shape
    generalize l[i].shape = A at g hA ⊢
    have hra := c_r04_Right gl A (by omega)
    have hlA := rowZ_length A
    obtain rfl : name = ⟨#[]⟩ := F.nn rfl
    obtain rfl : k = ⟨#[]⟩ := F.k (by dsimp only; decide)
    obtain rfl : n = 0 := F.n (by dsimp only; decide)
    obtain rfl : data = [] := List.length_eq_zero_iff.1 (F.d (by dsimp only; decide))
    rw [refZ_at .step (s := A) rfl rfl (by decide)]
    refine vcall_of TOK_r10_Shape HM Go.Proofs.Tryz.func47 rfl (by decide +kernel) (by decide +kernel) rfl ?_
    repeat' first|refine sY ⟨?_⟩|(refine sq ?_ ?_<;>refine fun h=>⟨?_⟩<;>(first|contradiction|(exfalso;omega)|skip))|fail
    all_goals (conv => whnf)
    all_goals first | exact ⟨_, roTo2 rfl rfl, rfl⟩ | exact ⟨_, roTo2 (show RoTo .nils (.ro 1 []) from ⟨1, rfl⟩) rfl, rfl⟩
  case sign =>
    obtain ⟨i, rfl, hi⟩ : ∃ i : Nat, a = i ∧ i < l.length := inR_nat (F.ia (by decide))
    obtain rfl : b = 0 := F.b0 (by decide)
    rw [if_neg (by decide), if_pos (by decide)]
    dsimp only
    rw [shAt_nat hi]
    obtain ⟨_, _, _, _, _, _, _, g⟩ := rowN_sh hi
    have hA := (hl _ (List.getElem_mem hi)).shape
    generalize l[i].shape = A at g hA ⊢
    have hra := c_r04_Right gl A (by omega)
    have hlA := rowZ_length A
    obtain rfl : name = ⟨#[]⟩ := F.nn rfl
    obtain rfl : k = ⟨#[]⟩ := F.k (by dsimp only; decide)
    obtain rfl : n = 0 := F.n (by dsimp only; decide)
    obtain rfl : data = [] := List.length_eq_zero_iff.1 (F.d (by dsimp only; decide))
    rw [refZ_at .sign (s := A) rfl rfl (by decide)]
    refine vcall_of TOK_r10_Shape HM Go.Proofs.Tryz.func47 rfl (by decide +kernel) (by decide +kernel) rfl ?_
    repeat' first|refine sY ⟨?_⟩|(refine sq ?_ ?_<;>refine fun h=>⟨?_⟩<;>(first|contradiction|(exfalso;omega)|skip))|fail
    all_goals (conv => whnf)
    all_goals first | exact ⟨_, roTo2 rfl rfl, rfl⟩ | exact ⟨_, roTo2 (show RoTo .nils (.ro 1 []) from ⟨1, rfl⟩) rfl, rfl⟩
  case add =>
    obtain ⟨i, rfl, hi⟩ : ∃ i : Nat, a = i ∧ i < l.length := inR_nat (F.ia (by decide))
    obtain ⟨j, rfl, hj⟩ : ∃ i : Nat, b = i ∧ i < l.length := inR_nat (F.ib (by decide))
    rw [if_neg (by decide), if_neg (by decide)]
    dsimp only
    rw [shAt_nat hi, shAt_nat hj]
    obtain ⟨_, _, _, _, _, _, _, g⟩ := rowN_sh hi
    obtain ⟨_, _, _, _, _, _, _, g2⟩ := rowN_sh hj
    have hA := (hl _ (List.getElem_mem hi)).shape
    have hB := (hl _ (List.getElem_mem hj)).shape
    generalize l[i].shape = A at g hA ⊢
    generalize l[j].shape = B at g2 hB ⊢
    have hra := c_r04_Right gl A (by omega)
    have hsame := c_r04_Same gl A B (by omega) (by omega)
    have hlA := rowZ_length A
    have hlB := rowZ_length B
    obtain rfl : name = ⟨#[]⟩ := F.nn rfl
    obtain rfl : k = ⟨#[]⟩ := F.k (by dsimp only; decide)
    obtain rfl : n = 0 := F.n (by dsimp only; decide)
    obtain rfl : data = [] := List.length_eq_zero_iff.1 (F.d (by dsimp only; decide))
    by_cases hAB : A = B
    · rw [refZ_at .add (s := A) rfl (by show (A, decide (A = B)) = _; rw [decide_eq_true hAB]) (by decide)]
      rw [decide_eq_true hAB] at hsame
      refine vcall_of TOK_r10_Shape HM Go.Proofs.Tryz.func47 rfl (by decide +kernel) (by decide +kernel) rfl ?_
      repeat' first|refine sY ⟨?_⟩|(refine sq ?_ ?_<;>refine fun h=>⟨?_⟩<;>(first|contradiction|(exfalso;omega)|skip))|fail
      all_goals (conv => whnf)
      all_goals first | exact ⟨_, roTo2 rfl rfl, rfl⟩ | exact ⟨_, roTo2 (show RoTo .nils (.ro 1 []) from ⟨1, rfl⟩) rfl, rfl⟩
    · rw [refZ_no]
      rotate_left
      · exact (show decide (A = B) = false from decide_eq_false hAB)
      rw [decide_eq_false hAB] at hsame
      refine vcall_of TOK_r10_Shape HM Go.Proofs.Tryz.func47 rfl (by decide +kernel) (by decide +kernel) rfl ?_
      repeat' first|refine sY ⟨?_⟩|(refine sq ?_ ?_<;>refine fun h=>⟨?_⟩<;>(first|contradiction|(exfalso;omega)|skip))|fail
      all_goals (conv => whnf)
      all_goals first | exact ⟨_, roTo2 rfl rfl, rfl⟩ | exact ⟨_, roTo2 (show RoTo .nils (.ro 1 []) from ⟨1, rfl⟩) rfl, rfl⟩
  case sub =>
    obtain ⟨i, rfl, hi⟩ : ∃ i : Nat, a = i ∧ i < l.length := inR_nat (F.ia (by decide))
    obtain ⟨j, rfl, hj⟩ : ∃ i : Nat, b = i ∧ i < l.length := inR_nat (F.ib (by decide))
    rw [if_neg (by decide), if_neg (by decide)]
    dsimp only
    rw [shAt_nat hi, shAt_nat hj]
    obtain ⟨_, _, _, _, _, _, _, g⟩ := rowN_sh hi
    obtain ⟨_, _, _, _, _, _, _, g2⟩ := rowN_sh hj
    have hA := (hl _ (List.getElem_mem hi)).shape
    have hB := (hl _ (List.getElem_mem hj)).shape
    generalize l[i].shape = A at g hA ⊢
    generalize l[j].shape = B at g2 hB ⊢
    have hra := c_r04_Right gl A (by omega)
    have hsame := c_r04_Same gl A B (by omega) (by omega)
    have hlA := rowZ_length A
    have hlB := rowZ_length B
    obtain rfl : name = ⟨#[]⟩ := F.nn rfl
    obtain rfl : k = ⟨#[]⟩ := F.k (by dsimp only; decide)
    obtain rfl : n = 0 := F.n (by dsimp only; decide)
    obtain rfl : data = [] := List.length_eq_zero_iff.1 (F.d (by dsimp only; decide))
    by_cases hAB : A = B
    · rw [refZ_at .sub (s := A) rfl (by show (A, decide (A = B)) = _; rw [decide_eq_true hAB]) (by decide)]
      rw [decide_eq_true hAB] at hsame
      refine vcall_of TOK_r10_Shape HM Go.Proofs.Tryz.func47 rfl (by decide +kernel) (by decide +kernel) rfl ?_
      repeat' first|refine sY ⟨?_⟩|(refine sq ?_ ?_<;>refine fun h=>⟨?_⟩<;>(first|contradiction|(exfalso;omega)|skip))|fail
      all_goals (conv => whnf)
      all_goals first | exact ⟨_, roTo2 rfl rfl, rfl⟩ | exact ⟨_, roTo2 (show RoTo .nils (.ro 1 []) from ⟨1, rfl⟩) rfl, rfl⟩
    · rw [refZ_no]
      rotate_left
      · exact (show decide (A = B) = false from decide_eq_false hAB)
      rw [decide_eq_false hAB] at hsame
      refine vcall_of TOK_r10_Shape HM Go.Proofs.Tryz.func47 rfl (by decide +kernel) (by decide +kernel) rfl ?_
      repeat' first|refine sY ⟨?_⟩|(refine sq ?_ ?_<;>refine fun h=>⟨?_⟩<;>(first|contradiction|(exfalso;omega)|skip))|fail
      all_goals (conv => whnf)
      all_goals first | exact ⟨_, roTo2 rfl rfl, rfl⟩ | exact ⟨_, roTo2 (show RoTo .nils (.ro 1 []) from ⟨1, rfl⟩) rfl, rfl⟩
  case mul =>
    obtain ⟨i, rfl, hi⟩ : ∃ i : Nat, a = i ∧ i < l.length := inR_nat (F.ia (by decide))
    obtain ⟨j, rfl, hj⟩ : ∃ i : Nat, b = i ∧ i < l.length := inR_nat (F.ib (by decide))
    rw [if_neg (by decide), if_neg (by decide)]
    dsimp only
    rw [shAt_nat hi, shAt_nat hj]
    obtain ⟨_, _, _, _, _, _, _, g⟩ := rowN_sh hi
    obtain ⟨_, _, _, _, _, _, _, g2⟩ := rowN_sh hj
    have hA := (hl _ (List.getElem_mem hi)).shape
    have hB := (hl _ (List.getElem_mem hj)).shape
    generalize l[i].shape = A at g hA ⊢
    generalize l[j].shape = B at g2 hB ⊢
    have hra := c_r04_Right gl A (by omega)
    have hsame := c_r04_Same gl A B (by omega) (by omega)
    have hlA := rowZ_length A
    have hlB := rowZ_length B
    obtain rfl : name = ⟨#[]⟩ := F.nn rfl
    obtain rfl : k = ⟨#[]⟩ := F.k (by dsimp only; decide)
    obtain rfl : n = 0 := F.n (by dsimp only; decide)
    obtain rfl : data = [] := List.length_eq_zero_iff.1 (F.d (by dsimp only; decide))
    by_cases hAB : A = B
    · rw [refZ_at .mul (s := A) rfl (by show (A, decide (A = B)) = _; rw [decide_eq_true hAB]) (by decide)]
      rw [decide_eq_true hAB] at hsame
      refine vcall_of TOK_r10_Shape HM Go.Proofs.Tryz.func47 rfl (by decide +kernel) (by decide +kernel) rfl ?_
      repeat' first|refine sY ⟨?_⟩|(refine sq ?_ ?_<;>refine fun h=>⟨?_⟩<;>(first|contradiction|(exfalso;omega)|skip))|fail
      all_goals (conv => whnf)
      all_goals first | exact ⟨_, roTo2 rfl rfl, rfl⟩ | exact ⟨_, roTo2 (show RoTo .nils (.ro 1 []) from ⟨1, rfl⟩) rfl, rfl⟩
    · rw [refZ_no]
      rotate_left
      · exact (show decide (A = B) = false from decide_eq_false hAB)
      rw [decide_eq_false hAB] at hsame
      refine vcall_of TOK_r10_Shape HM Go.Proofs.Tryz.func47 rfl (by decide +kernel) (by decide +kernel) rfl ?_
      repeat' first|refine sY ⟨?_⟩|(refine sq ?_ ?_<;>refine fun h=>⟨?_⟩<;>(first|contradiction|(exfalso;omega)|skip))|fail
      all_goals (conv => whnf)
      all_goals first | exact ⟨_, roTo2 rfl rfl, rfl⟩ | exact ⟨_, roTo2 (show RoTo .nils (.ro 1 []) from ⟨1, rfl⟩) rfl, rfl⟩
  case max =>
    obtain ⟨i, rfl, hi⟩ : ∃ i : Nat, a = i ∧ i < l.length := inR_nat (F.ia (by decide))
    obtain ⟨j, rfl, hj⟩ : ∃ i : Nat, b = i ∧ i < l.length := inR_nat (F.ib (by decide))
    rw [if_neg (by decide), if_neg (by decide)]
    dsimp only
    rw [shAt_nat hi, shAt_nat hj]
    obtain ⟨_, _, _, _, _, _, _, g⟩ := rowN_sh hi
    obtain ⟨_, _, _, _, _, _, _, g2⟩ := rowN_sh hj
    have hA := (hl _ (List.getElem_mem hi)).shape
    have hB := (hl _ (List.getElem_mem hj)).shape
    generalize l[i].shape = A at g hA ⊢
    generalize l[j].shape = B at g2 hB ⊢
    have hra := c_r04_Right gl A (by omega)
    have hsame := c_r04_Same gl A B (by omega) (by omega)
    have hlA := rowZ_length A
    have hlB := rowZ_length B
    obtain rfl : name = ⟨#[]⟩ := F.nn rfl
    obtain rfl : k = ⟨#[]⟩ := F.k (by dsimp only; decide)
    obtain rfl : n = 0 := F.n (by dsimp only; decide)
    obtain rfl : data = [] := List.length_eq_zero_iff.1 (F.d (by dsimp only; decide))
    by_cases hAB : A = B
    · rw [refZ_at .max (s := A) rfl (by show (A, decide (A = B)) = _; rw [decide_eq_true hAB]) (by decide)]
      rw [decide_eq_true hAB] at hsame
      refine vcall_of TOK_r10_Shape HM Go.Proofs.Tryz.func47 rfl (by decide +kernel) (by decide +kernel) rfl ?_
      repeat' first|refine sY ⟨?_⟩|(refine sq ?_ ?_<;>refine fun h=>⟨?_⟩<;>(first|contradiction|(exfalso;omega)|skip))|fail
      all_goals (conv => whnf)
      all_goals first | exact ⟨_, roTo2 rfl rfl, rfl⟩ | exact ⟨_, roTo2 (show RoTo .nils (.ro 1 []) from ⟨1, rfl⟩) rfl, rfl⟩
    · rw [refZ_no]
      rotate_left
      · exact (show decide (A = B) = false from decide_eq_false hAB)
      rw [decide_eq_false hAB] at hsame
      refine vcall_of TOK_r10_Shape HM Go.Proofs.Tryz.func47 rfl (by decide +kernel) (by decide +kernel) rfl ?_
      repeat' first|refine sY ⟨?_⟩|(refine sq ?_ ?_<;>refine fun h=>⟨?_⟩<;>(first|contradiction|(exfalso;omega)|skip))|fail
      all_goals (conv => whnf)
      all_goals first | exact ⟨_, roTo2 rfl rfl, rfl⟩ | exact ⟨_, roTo2 (show RoTo .nils (.ro 1 []) from ⟨1, rfl⟩) rfl, rfl⟩
  case above =>
    obtain ⟨i, rfl, hi⟩ : ∃ i : Nat, a = i ∧ i < l.length := inR_nat (F.ia (by decide))
    obtain ⟨j, rfl, hj⟩ : ∃ i : Nat, b = i ∧ i < l.length := inR_nat (F.ib (by decide))
    rw [if_neg (by decide), if_neg (by decide)]
    dsimp only
    rw [shAt_nat hi, shAt_nat hj]
    obtain ⟨_, _, _, _, _, _, _, g⟩ := rowN_sh hi
    obtain ⟨_, _, _, _, _, _, _, g2⟩ := rowN_sh hj
    have hA := (hl _ (List.getElem_mem hi)).shape
    have hB := (hl _ (List.getElem_mem hj)).shape
    generalize l[i].shape = A at g hA ⊢
    generalize l[j].shape = B at g2 hB ⊢
    have hra := c_r04_Right gl A (by omega)
    have hsame := c_r04_Same gl A B (by omega) (by omega)
    have hlA := rowZ_length A
    have hlB := rowZ_length B
    obtain rfl : name = ⟨#[]⟩ := F.nn rfl
    obtain rfl : k = ⟨#[]⟩ := F.k (by dsimp only; decide)
    obtain rfl : n = 0 := F.n (by dsimp only; decide)
    obtain rfl : data = [] := List.length_eq_zero_iff.1 (F.d (by dsimp only; decide))
    by_cases hAB : A = B
    · rw [refZ_at .above (s := A) rfl (by show (A, decide (A = B)) = _; rw [decide_eq_true hAB]) (by decide)]
      rw [decide_eq_true hAB] at hsame
      refine vcall_of TOK_r10_Shape HM Go.Proofs.Tryz.func47 rfl (by decide +kernel) (by decide +kernel) rfl ?_
      repeat' first|refine sY ⟨?_⟩|(refine sq ?_ ?_<;>refine fun h=>⟨?_⟩<;>(first|contradiction|(exfalso;omega)|skip))|fail
      all_goals (conv => whnf)
      all_goals first | exact ⟨_, roTo2 rfl rfl, rfl⟩ | exact ⟨_, roTo2 (show RoTo .nils (.ro 1 []) from ⟨1, rfl⟩) rfl, rfl⟩
    · rw [refZ_no]
      rotate_left
      · exact (show decide (A = B) = false from decide_eq_false hAB)
      rw [decide_eq_false hAB] at hsame
      refine vcall_of TOK_r10_Shape HM Go.Proofs.Tryz.func47 rfl (by decide +kernel) (by decide +kernel) rfl ?_
      repeat' first|refine sY ⟨?_⟩|(refine sq ?_ ?_<;>refine fun h=>⟨?_⟩<;>(first|contradiction|(exfalso;omega)|skip))|fail
      all_goals (conv => whnf)
      all_goals first | exact ⟨_, roTo2 rfl rfl, rfl⟩ | exact ⟨_, roTo2 (show RoTo .nils (.ro 1 []) from ⟨1, rfl⟩) rfl, rfl⟩
  case sum =>
    obtain ⟨i, rfl, hi⟩ : ∃ i : Nat, a = i ∧ i < l.length := inR_nat (F.ia (by decide))
    obtain rfl : b = 0 := F.b0 (by decide)
    rw [if_neg (by decide), if_pos (by decide)]
    dsimp only
    rw [shAt_nat hi]
    obtain ⟨_, _, _, _, _, _, _, g⟩ := rowN_sh hi
    have hA := (hl _ (List.getElem_mem hi)).shape
    generalize l[i].shape = A at g hA ⊢
    have hra := c_r04_Right gl A (by omega)
    have hlA := rowZ_length A
    obtain rfl : name = ⟨#[]⟩ := F.nn rfl
    obtain rfl : k = ⟨#[]⟩ := F.k (by dsimp only; decide)
    obtain rfl : n = 0 := F.n (by dsimp only; decide)
    obtain rfl : data = [] := List.length_eq_zero_iff.1 (F.d (by dsimp only; decide))
    rw [refZ_at .sum (s := []) rfl rfl (by decide)]
    refine vcall_of TOK_r10_Shape HM Go.Proofs.Tryz.func47 rfl (by decide +kernel) (by decide +kernel) rfl ?_
    repeat' first|refine sY ⟨?_⟩|(refine sq ?_ ?_<;>refine fun h=>⟨?_⟩<;>(first|contradiction|(exfalso;omega)|skip))|fail
    all_goals (conv => whnf)
    all_goals first | exact ⟨_, roTo2 rfl rfl, rfl⟩ | exact ⟨_, roTo2 (show RoTo .nils (.ro 1 []) from ⟨1, rfl⟩) rfl, rfl⟩
  case scale =>
    obtain ⟨i, rfl, hi⟩ : ∃ i : Nat, a = i ∧ i < l.length := inR_nat (F.ia (by decide))
    obtain rfl : b = 0 := F.b0 (by decide)
    rw [if_neg (by decide), if_pos (by decide)]
    dsimp only
    rw [shAt_nat hi]
    obtain ⟨_, _, _, _, _, _, _, g⟩ := rowN_sh hi
    have hA := (hl _ (List.getElem_mem hi)).shape
    generalize l[i].shape = A at g hA ⊢
    have hra := c_r04_Right gl A (by omega)
    have hlA := rowZ_length A
    obtain rfl : name = ⟨#[]⟩ := F.nn rfl
    obtain rfl : n = 0 := F.n (by dsimp only; decide)
    obtain rfl : data = [] := List.length_eq_zero_iff.1 (F.d (by dsimp only; decide))
    have hread := c_r03_Read gl k (Nat.lt_of_le_of_lt hk (by decide))
    cases hr : ratOK k
    · rw [hr] at hread
      rw [refZ_no]
      rotate_left
      · exact (show ratOK k = false from hr)
      refine vcall_of TOK_r10_Shape HM Go.Proofs.Tryz.func47 rfl (by decide +kernel) (by decide +kernel) rfl ?_
      repeat' first|refine sY ⟨?_⟩|(refine sq ?_ ?_<;>refine fun h=>⟨?_⟩<;>(first|contradiction|(exfalso;omega)|skip))|fail
      rintro _ ⟨p, q, rfl, _⟩
      repeat' first|refine sY ⟨?_⟩|(refine sq ?_ ?_<;>refine fun h=>⟨?_⟩<;>(first|contradiction|(exfalso;omega)|skip))|fail
      all_goals (conv => whnf)
      all_goals first | exact ⟨_, roTo2 rfl rfl, rfl⟩ | exact ⟨_, roTo2 (show RoTo .nils (.ro 1 []) from ⟨1, rfl⟩) rfl, rfl⟩
    · rw [hr] at hread
      rw [refZ_at .scale (s := A) rfl (by show (A, ratOK k) = _; rw [hr]) (by decide)]
      refine vcall_of TOK_r10_Shape HM Go.Proofs.Tryz.func47 rfl (by decide +kernel) (by decide +kernel) rfl ?_
      repeat' first|refine sY ⟨?_⟩|(refine sq ?_ ?_<;>refine fun h=>⟨?_⟩<;>(first|contradiction|(exfalso;omega)|skip))|fail
      rintro _ ⟨p, q, rfl, _⟩
      repeat' first|refine sY ⟨?_⟩|(refine sq ?_ ?_<;>refine fun h=>⟨?_⟩<;>(first|contradiction|(exfalso;omega)|skip))|fail
      all_goals (conv => whnf)
      all_goals first | exact ⟨_, roTo2 rfl rfl, rfl⟩ | exact ⟨_, roTo2 (show RoTo .nils (.ro 1 []) from ⟨1, rfl⟩) rfl, rfl⟩
  case power =>
    obtain ⟨i, rfl, hi⟩ : ∃ i : Nat, a = i ∧ i < l.length := inR_nat (F.ia (by decide))
    obtain rfl : b = 0 := F.b0 (by decide)
    rw [if_neg (by decide), if_pos (by decide)]
    dsimp only
    rw [shAt_nat hi]
    obtain ⟨_, _, _, _, _, _, _, g⟩ := rowN_sh hi
    have hA := (hl _ (List.getElem_mem hi)).shape
    generalize l[i].shape = A at g hA ⊢
    have hra := c_r04_Right gl A (by omega)
    have hlA := rowZ_length A
    obtain rfl : name = ⟨#[]⟩ := F.nn rfl
    obtain rfl : k = ⟨#[]⟩ := F.k (by dsimp only; decide)
    obtain rfl : data = [] := List.length_eq_zero_iff.1 (F.d (by dsimp only; decide))
    by_cases hn : 0 ≤ n ∧ n ≤ 6
    · rw [refZ_at .power (s := A) rfl (by show (A, decide (0 ≤ n) && decide (n ≤ 6)) = _; simp [hn]) (by decide)]
      refine vcall_of TOK_r10_Shape HM Go.Proofs.Tryz.func47 rfl (by decide +kernel) (by decide +kernel) rfl ?_
      repeat' first|refine sY ⟨?_⟩|(refine sq ?_ ?_<;>refine fun h=>⟨?_⟩<;>(first|contradiction|(exfalso;omega)|skip))|fail
      all_goals (conv => whnf)
      all_goals first | exact ⟨_, roTo2 rfl rfl, rfl⟩ | exact ⟨_, roTo2 (show RoTo .nils (.ro 1 []) from ⟨1, rfl⟩) rfl, rfl⟩
    · rw [refZ_no]
      rotate_left
      · exact (show (decide (0 ≤ n) && decide (n ≤ 6)) = false by rw [Bool.eq_false_iff]; simp only [ne_eq, Bool.and_eq_true, decide_eq_true_eq]; exact hn)
      refine vcall_of TOK_r10_Shape HM Go.Proofs.Tryz.func47 rfl (by decide +kernel) (by decide +kernel) rfl ?_
      repeat' first|refine sY ⟨?_⟩|(refine sq ?_ ?_<;>refine fun h=>⟨?_⟩<;>(first|contradiction|(exfalso;omega)|skip))|fail
      all_goals (conv => whnf)
      all_goals first | exact ⟨_, roTo2 rfl rfl, rfl⟩ | exact ⟨_, roTo2 (show RoTo .nils (.ro 1 []) from ⟨1, rfl⟩) rfl, rfl⟩
  case transpose =>
    obtain ⟨i, rfl, hi⟩ : ∃ i : Nat, a = i ∧ i < l.length := inR_nat (F.ia (by decide))
    obtain rfl : b = 0 := F.b0 (by decide)
    rw [if_neg (by decide), if_pos (by decide)]
    dsimp only
    rw [shAt_nat hi]
    obtain ⟨_, _, _, _, _, _, _, g⟩ := rowN_sh hi
    have hA := (hl _ (List.getElem_mem hi)).shape
    generalize l[i].shape = A at g hA ⊢
    have hra := c_r04_Right gl A (by omega)
    have hlA := rowZ_length A
    obtain rfl : name = ⟨#[]⟩ := F.nn rfl
    obtain rfl : k = ⟨#[]⟩ := F.k (by dsimp only; decide)
    obtain rfl : n = 0 := F.n (by dsimp only; decide)
    obtain rfl : data = [] := List.length_eq_zero_iff.1 (F.d (by dsimp only; decide))
    by_cases h2 : A.length = 2
    · obtain ⟨p, q, rfl⟩ := two_of h2
      have hqp := c_r04_Right gl [q, p] (show 2 < _ by decide)
      rw [refZ_at .transpose (s := [q, p]) rfl rfl (by decide)]
      refine vcall_of TOK_r10_Shape HM Go.Proofs.Tryz.func47 rfl (by decide +kernel) (by decide +kernel) rfl ?_
      repeat' first|refine sY ⟨?_⟩|(refine sq ?_ ?_<;>refine fun h=>⟨?_⟩<;>(first|contradiction|(exfalso;omega)|skip))|fail
      refine ⟨by decide +kernel, [0, 1, 3, 0, 8, 24, 63, 127], by decide +kernel, ?_⟩
      repeat' first|refine sY ⟨?_⟩|(refine sq ?_ ?_<;>refine fun h=>⟨?_⟩<;>(first|contradiction|(exfalso;omega)|skip))|fail
      all_goals (conv => whnf)
      all_goals first | exact ⟨_, roTo2 rfl rfl, rfl⟩ | exact ⟨_, roTo2 (show RoTo .nils (.ro 1 []) from ⟨1, rfl⟩) rfl, rfl⟩
    · rw [refZ_no]
      rotate_left
      · exact (congrArg Prod.snd (transpose_not h2))
      refine vcall_of TOK_r10_Shape HM Go.Proofs.Tryz.func47 rfl (by decide +kernel) (by decide +kernel) rfl ?_
      repeat' first|refine sY ⟨?_⟩|(refine sq ?_ ?_<;>refine fun h=>⟨?_⟩<;>(first|contradiction|(exfalso;omega)|skip))|fail
      all_goals (conv => whnf)
      all_goals first | exact ⟨_, roTo2 rfl rfl, rfl⟩ | exact ⟨_, roTo2 (show RoTo .nils (.ro 1 []) from ⟨1, rfl⟩) rfl, rfl⟩
  case spread =>
    obtain ⟨i, rfl, hi⟩ : ∃ i : Nat, a = i ∧ i < l.length := inR_nat (F.ia (by decide))
    obtain rfl : b = 0 := F.b0 (by decide)
    rw [if_neg (by decide), if_pos (by decide)]
    dsimp only
    rw [shAt_nat hi]
    obtain ⟨_, _, _, _, _, _, _, g⟩ := rowN_sh hi
    have hA := (hl _ (List.getElem_mem hi)).shape
    generalize l[i].shape = A at g hA ⊢
    have hra := c_r04_Right gl A (by omega)
    have hlA := rowZ_length A
    obtain rfl : name = ⟨#[]⟩ := F.nn rfl
    obtain rfl : k = ⟨#[]⟩ := F.k (by dsimp only; decide)
    obtain rfl : n = 0 := F.n (by dsimp only; decide)
    obtain rfl : data = [] := List.length_eq_zero_iff.1 (F.d (by dsimp only; decide))
    by_cases h0 : A.length = 0
    · rw [refZ_at .spread (s := shape) rfl (by show (shape, decide ((A.length : Int) = 0)) = _; simp [h0]) (by decide)]
      refine vcall_of TOK_r10_Shape HM Go.Proofs.Tryz.func47 rfl (by decide +kernel) (by decide +kernel) rfl ?_
      repeat' first|refine sY ⟨?_⟩|(refine sq ?_ ?_<;>refine fun h=>⟨?_⟩<;>(first|contradiction|(exfalso;omega)|skip))|fail
      all_goals (conv => whnf)
      all_goals first | exact ⟨_, roTo2 rfl rfl, rfl⟩ | exact ⟨_, roTo2 (show RoTo .nils (.ro 1 []) from ⟨1, rfl⟩) rfl, rfl⟩
    · rw [refZ_no]
      rotate_left
      · exact (show decide ((A.length : Int) = 0) = false by simp; simpa using h0)
      refine vcall_of TOK_r10_Shape HM Go.Proofs.Tryz.func47 rfl (by decide +kernel) (by decide +kernel) rfl ?_
      repeat' first|refine sY ⟨?_⟩|(refine sq ?_ ?_<;>refine fun h=>⟨?_⟩<;>(first|contradiction|(exfalso;omega)|skip))|fail
      all_goals (conv => whnf)
      all_goals first | exact ⟨_, roTo2 rfl rfl, rfl⟩ | exact ⟨_, roTo2 (show RoTo .nils (.ro 1 []) from ⟨1, rfl⟩) rfl, rfl⟩
  case reshape =>
    obtain ⟨i, rfl, hi⟩ : ∃ i : Nat, a = i ∧ i < l.length := inR_nat (F.ia (by decide))
    obtain rfl : b = 0 := F.b0 (by decide)
    rw [if_neg (by decide), if_pos (by decide)]
    dsimp only
    rw [shAt_nat hi]
    obtain ⟨_, _, _, _, _, _, _, g⟩ := rowN_sh hi
    have hA := (hl _ (List.getElem_mem hi)).shape
    generalize l[i].shape = A at g hA ⊢
    have hra := c_r04_Right gl A (by omega)
    have hlA := rowZ_length A
    obtain rfl : name = ⟨#[]⟩ := F.nn rfl
    obtain rfl : k = ⟨#[]⟩ := F.k (by dsimp only; decide)
    obtain rfl : n = 0 := F.n (by dsimp only; decide)
    obtain rfl : data = [] := List.length_eq_zero_iff.1 (F.d (by dsimp only; decide))
    cases hos : okShape shape
    · rw [refZ_bad]
      rotate_left
      · exact .inr rfl
      · exact (show okShape shape = false from hos)
      rw [hos] at hrs
      refine vcall_of TOK_r10_Shape HM Go.Proofs.Tryz.func47 rfl (by decide +kernel) (by decide +kernel) rfl ?_
      repeat' first|refine sY ⟨?_⟩|(refine sq ?_ ?_<;>refine fun h=>⟨?_⟩<;>(first|contradiction|(exfalso;omega)|skip))|fail
      all_goals (conv => whnf)
      all_goals first | exact ⟨_, roTo2 rfl rfl, rfl⟩ | exact ⟨_, roTo2 (show RoTo .nils (.ro 1 []) from ⟨1, rfl⟩) rfl, rfl⟩
    rw [hos] at hrs
    have hz1 := c_r04_Size gl shape hos
    have hp1 := prodZ_pos shape 1 (fun d hd => (okShape_dim hos d hd).1) (Int.le_refl _)
    cases hoa : okShape A
    · have e : sizeZ shape ≠ sizeZ A := by simp only [sizeZ, hos, hoa]; intro e; have : prodZ shape = 0 := e; unfold prodZ at this; omega
      rw [refZ_no]
      rotate_left
      · exact (show decide (sizeZ shape = sizeZ A) = false from decide_eq_false e)
      rw [hoa] at hra
      refine vcall_of TOK_r10_Shape HM Go.Proofs.Tryz.func47 rfl (by decide +kernel) (by decide +kernel) rfl ?_
      repeat' first|refine sY ⟨?_⟩|(refine sq ?_ ?_<;>refine fun h=>⟨?_⟩<;>(first|contradiction|(exfalso;omega)|skip))|fail
      all_goals (conv => whnf)
      all_goals first | exact ⟨_, roTo2 rfl rfl, rfl⟩ | exact ⟨_, roTo2 (show RoTo .nils (.ro 1 []) from ⟨1, rfl⟩) rfl, rfl⟩
    rw [hoa] at hra
    have hz2 := c_r04_Size gl A hoa
    by_cases e : prodZ shape = prodZ A
    · rw [refZ_ok (s := shape) (by show (shape, decide (sizeZ shape = sizeZ A)) = _; simp [sizeZ, hos, hoa, e]) hos]
      refine vcall_of TOK_r10_Shape HM Go.Proofs.Tryz.func47 rfl (by decide +kernel) (by decide +kernel) rfl ?_
      repeat' first|refine sY ⟨?_⟩|(refine sq ?_ ?_<;>refine fun h=>⟨?_⟩<;>(first|contradiction|(exfalso;omega)|skip))|fail
      all_goals (conv => whnf)
      all_goals first | exact ⟨_, roTo2 rfl rfl, rfl⟩ | exact ⟨_, roTo2 (show RoTo .nils (.ro 1 []) from ⟨1, rfl⟩) rfl, rfl⟩
    · rw [refZ_no]
      rotate_left
      · exact (show decide (sizeZ shape = sizeZ A) = false by simp [sizeZ, hos, hoa, e])
      refine vcall_of TOK_r10_Shape HM Go.Proofs.Tryz.func47 rfl (by decide +kernel) (by decide +kernel) rfl ?_
      repeat' first|refine sY ⟨?_⟩|(refine sq ?_ ?_<;>refine fun h=>⟨?_⟩<;>(first|contradiction|(exfalso;omega)|skip))|fail
      all_goals (conv => whnf)
      all_goals first | exact ⟨_, roTo2 rfl rfl, rfl⟩ | exact ⟨_, roTo2 (show RoTo .nils (.ro 1 []) from ⟨1, rfl⟩) rfl, rfl⟩
  case matmul =>
    obtain ⟨i, rfl, hi⟩ : ∃ i : Nat, a = i ∧ i < l.length := inR_nat (F.ia (by decide))
    obtain ⟨j, rfl, hj⟩ : ∃ i : Nat, b = i ∧ i < l.length := inR_nat (F.ib (by decide))
    rw [if_neg (by decide), if_neg (by decide)]
    dsimp only
    rw [shAt_nat hi, shAt_nat hj]
    obtain ⟨_, _, _, _, _, _, _, g⟩ := rowN_sh hi
    obtain ⟨_, _, _, _, _, _, _, g2⟩ := rowN_sh hj
    have hA := (hl _ (List.getElem_mem hi)).shape
    have hB := (hl _ (List.getElem_mem hj)).shape
    generalize l[i].shape = A at g hA ⊢
    generalize l[j].shape = B at g2 hB ⊢
    have hra := c_r04_Right gl A (by omega)
    have hsame := c_r04_Same gl A B (by omega) (by omega)
    have hlA := rowZ_length A
    have hlB := rowZ_length B
    obtain rfl : name = ⟨#[]⟩ := F.nn rfl
    obtain rfl : k = ⟨#[]⟩ := F.k (by dsimp only; decide)
    obtain rfl : n = 0 := F.n (by dsimp only; decide)
    obtain rfl : data = [] := List.length_eq_zero_iff.1 (F.d (by dsimp only; decide))
    by_cases h2 : A.length = 2 ∧ B.length = 2
    · obtain ⟨ha2, hb2⟩ := h2
      obtain ⟨p, q, rfl⟩ := two_of ha2
      obtain ⟨r, s, rfl⟩ := two_of hb2
      have hps := c_r04_Right gl [p, s] (show 2 < _ by decide)
      by_cases hqr : q = r
      · rw [refZ_at .matmul (s := [p, s])]
        rotate_left
        · exact rfl
        · exact if_pos hqr
        · decide
        refine vcall_of TOK_r10_Shape HM Go.Proofs.Tryz.func47 rfl (by decide +kernel) (by decide +kernel) rfl ?_
        repeat' first|refine sY ⟨?_⟩|(refine sq ?_ ?_<;>refine fun h=>⟨?_⟩<;>(first|contradiction|(exfalso;omega)|skip))|fail
        refine ⟨by decide +kernel, [0, 1, 3, 7, 15, 31, 63, 127, 255, 511, 1023, 2047, 511, 4607, 12799, 32767, 65535], by decide +kernel, ?_⟩
        repeat' first|refine sY ⟨?_⟩|(refine sq ?_ ?_<;>refine fun h=>⟨?_⟩<;>(first|contradiction|(exfalso;omega)|skip))|fail
        refine ⟨by decide +kernel, [0, 1, 3, 0, 8, 24, 63, 127], by decide +kernel, ?_⟩
        repeat' first|refine sY ⟨?_⟩|(refine sq ?_ ?_<;>refine fun h=>⟨?_⟩<;>(first|contradiction|(exfalso;omega)|skip))|fail
        all_goals (conv => whnf)
        all_goals first | exact ⟨_, roTo2 rfl rfl, rfl⟩ | exact ⟨_, roTo2 (show RoTo .nils (.ro 1 []) from ⟨1, rfl⟩) rfl, rfl⟩
      · rw [refZ_no]
        rotate_left
        · exact (congrArg Prod.snd (show ofZ ⟨Opc.str .matmul, _, _, _, shape, _, _, _⟩ [p, q] [r, s] = ([], false) from if_neg hqr))
        refine vcall_of TOK_r10_Shape HM Go.Proofs.Tryz.func47 rfl (by decide +kernel) (by decide +kernel) rfl ?_
        repeat' first|refine sY ⟨?_⟩|(refine sq ?_ ?_<;>refine fun h=>⟨?_⟩<;>(first|contradiction|(exfalso;omega)|skip))|fail
        refine ⟨by decide +kernel, [0, 1, 3, 7, 15, 31, 63, 127, 255, 511, 1023, 2047, 511, 4607, 12799, 32767, 65535], by decide +kernel, ?_⟩
        repeat' first|refine sY ⟨?_⟩|(refine sq ?_ ?_<;>refine fun h=>⟨?_⟩<;>(first|contradiction|(exfalso;omega)|skip))|fail
        all_goals (conv => whnf)
        all_goals first | exact ⟨_, roTo2 rfl rfl, rfl⟩ | exact ⟨_, roTo2 (show RoTo .nils (.ro 1 []) from ⟨1, rfl⟩) rfl, rfl⟩
    · rw [refZ_no]
      rotate_left
      · exact (congrArg Prod.snd (matmul_not fun h => h2 ⟨h.1, h.2.1⟩))
      refine vcall_of TOK_r10_Shape HM Go.Proofs.Tryz.func47 rfl (by decide +kernel) (by decide +kernel) rfl ?_
      repeat' first|refine sY ⟨?_⟩|(refine sq ?_ ?_<;>refine fun h=>⟨?_⟩<;>(first|contradiction|(exfalso;omega)|skip))|fail
      refine ⟨by decide +kernel, [0, 1, 3, 7, 15, 31, 63, 127, 255, 511, 1023, 2047, 511, 4607, 12799, 32767, 65535], by decide +kernel, ?_⟩
      repeat' first|refine sY ⟨?_⟩|(refine sq ?_ ?_<;>refine fun h=>⟨?_⟩<;>(first|contradiction|(exfalso;omega)|skip))|fail
      all_goals (conv => whnf)
      all_goals first | exact ⟨_, roTo2 rfl rfl, rfl⟩ | exact ⟨_, roTo2 (show RoTo .nils (.ro 1 []) from ⟨1, rfl⟩) rfl, rfl⟩
  case const =>
    obtain rfl : a = 0 := F.a0 rfl
    obtain rfl : b = 0 := F.b0 (by decide)
    rw [if_pos (by decide), if_pos (by decide)]
    obtain rfl : name = ⟨#[]⟩ := F.nn rfl
    obtain rfl : k = ⟨#[]⟩ := F.k (by dsimp only; decide)
    obtain rfl : n = 0 := F.n (by dsimp only; decide)
    cases hos : okShape shape
    · rw [refZ_bad]
      rotate_left
      · exact .inl rfl
      · exact (show okShape shape = false from hos)
      rw [hos] at hrs
      refine vcall_of TOK_r10_Shape HM Go.Proofs.Tryz.func47 rfl (by decide +kernel) (by decide +kernel) rfl ?_
      repeat' first|refine sY ⟨?_⟩|(refine sq ?_ ?_<;>refine fun h=>⟨?_⟩<;>(first|contradiction|(exfalso;omega)|skip))|fail
      refine ⟨by decide +kernel, [0, 1, 3, 7, 15, 31, 63, 15, 143, 511, 1023], by decide +kernel, ?_⟩
      repeat' first|refine sY ⟨?_⟩|(refine sq ?_ ?_<;>refine fun h=>⟨?_⟩<;>(first|contradiction|(exfalso;omega)|skip))|fail
      all_goals (conv => whnf)
      all_goals first | exact ⟨_, roTo2 rfl rfl, rfl⟩ | exact ⟨_, roTo2 (show RoTo .nils (.ro 1 []) from ⟨1, rfl⟩) rfl, rfl⟩
    have hsz : sizeZ shape = prodZ shape := by simp [sizeZ, hos]
    rw [hos] at hrs
    have hz1 := c_r04_Size gl shape hos
    by_cases hlen : (data.length : Int) = prodZ shape
    · have hT1 : data.any (fun d => !ratOK d) = true → refZ ⟨Opc.str .const, 0, 0, ⟨#[]⟩, shape, ⟨#[]⟩, 0, data⟩ [] [] = ([], false) := fun h =>
        refZ_no (show (decide ((data.length : Int) = sizeZ shape) && !(data.any fun d => !ratOK d)) = false by rw [h]; simp)
      have hT2 : data.any (fun d => !ratOK d) = false → refZ ⟨Opc.str .const, 0, 0, ⟨#[]⟩, shape, ⟨#[]⟩, 0, data⟩ [] [] = (shape, true) := fun h =>
        refZ_ok (by show (shape, decide ((data.length : Int) = sizeZ shape) && !(data.any fun d => !ratOK d)) = _; rw [h, hsz, hlen]; simp) hos
      generalize refZ ⟨Opc.str .const, 0, 0, ⟨#[]⟩, shape, ⟨#[]⟩, 0, data⟩ [] [] = T at hT1 hT2 ⊢
      refine vcall_of TOK_r10_Shape HM Go.Proofs.Tryz.func47 rfl (by decide +kernel) (by decide +kernel) rfl ?_
      repeat' first|refine sY ⟨?_⟩|(refine sq ?_ ?_<;>refine fun h=>⟨?_⟩<;>(first|contradiction|(exfalso;omega)|skip))|fail
      refine ⟨by decide +kernel, [0, 1, 3, 7, 15, 31, 63, 15, 143, 511, 1023], by decide +kernel, ?_⟩
      repeat' first|refine sY ⟨?_⟩|(refine sq ?_ ?_<;>refine fun h=>⟨?_⟩<;>(first|contradiction|(exfalso;omega)|skip))|fail
      refine ⟨[9, 163, 164, 165], [], fun m st => ∃ i : Nat, i ≤ data.length ∧ m = data.length - i ∧ (data.take i).any (fun d => !ratOK d) = false ∧
        st = ⟨[(9, .ro 1 (rowZ shape)), (163, .ro 1 (rowS data)), (164, .int .i64 ((rowS data).length : Nat)), (165, .int .i64 (i : Nat))], []⟩, rfl, ⟨data.length, 0, by omega, rfl, by simp, rfl⟩, ?_⟩
      rintro m _ ⟨i, hi, hm, ha, rfl⟩
      rcases Nat.lt_or_ge i data.length with hil | hge
      · have g := rowS_get hil
        have hread := c_r03_Read gl data[i] (Nat.lt_of_le_of_lt (hx.each _ (List.getElem_mem hil)) (by decide))
        cases hr : ratOK data[i]
        · rw [hr] at hread
          repeat' first|refine sY ⟨?_⟩|(refine sq ?_ ?_<;>refine fun h=>⟨?_⟩<;>(first|contradiction|(exfalso;omega)|skip))|fail
          rintro _ ⟨p, q, rfl, _⟩
          repeat' first|refine sY ⟨?_⟩|(refine sq ?_ ?_<;>refine fun h=>⟨?_⟩<;>(first|contradiction|(exfalso;omega)|skip))|fail
          all_goals (conv => whnf)
          exact ⟨_, roTo2 (show RoTo .nils (.ro 1 []) from ⟨1, rfl⟩) rfl, by rw [hT1 (any_bad hil (by simp [hr]))]; rfl⟩
        · rw [hr] at hread
          repeat' first|refine sY ⟨?_⟩|(refine sq ?_ ?_<;>refine fun h=>⟨?_⟩<;>(first|contradiction|(exfalso;omega)|skip))|fail
          rintro _ ⟨p, q, rfl, _⟩
          repeat' first|refine sY ⟨?_⟩|(refine sq ?_ ?_<;>refine fun h=>⟨?_⟩<;>(first|contradiction|(exfalso;omega)|skip))|fail
          exact ⟨[], data.length - (i + 1), rfl, by omega, i + 1, by omega, rfl, any_snoc hil ha (by simp [hr]), rfl⟩
      · rw [List.take_of_length_le (by omega)] at ha
        repeat' first|refine sY ⟨?_⟩|(refine sq ?_ ?_<;>refine fun h=>⟨?_⟩<;>(first|contradiction|(exfalso;omega)|skip))|fail
        all_goals (conv => whnf)
        exact ⟨_, roTo2 rfl rfl, by rw [hT2 ha]⟩
    · rw [refZ_no]
      rotate_left
      · exact (show (decide ((data.length : Int) = sizeZ shape) && !(data.any fun d => !ratOK d)) = false by rw [hsz, decide_eq_false hlen]; rfl)
      refine vcall_of TOK_r10_Shape HM Go.Proofs.Tryz.func47 rfl (by decide +kernel) (by decide +kernel) rfl ?_
      repeat' first|refine sY ⟨?_⟩|(refine sq ?_ ?_<;>refine fun h=>⟨?_⟩<;>(first|contradiction|(exfalso;omega)|skip))|fail
      refine ⟨by decide +kernel, [0, 1, 3, 7, 15, 31, 63, 15, 143, 511, 1023], by decide +kernel, ?_⟩
      repeat' first|refine sY ⟨?_⟩|(refine sq ?_ ?_<;>refine fun h=>⟨?_⟩<;>(first|contradiction|(exfalso;omega)|skip))|fail
      all_goals (conv => whnf)
      all_goals first | exact ⟨_, roTo2 rfl rfl, rfl⟩ | exact ⟨_, roTo2 (show RoTo .nils (.ro 1 []) from ⟨1, rfl⟩) rfl, rfl⟩
theorem c_r10_Shape (l : List Nd) (x : Nd) (hx : x.Sm) (hl : ∀ y ∈ l, y.Sm) :
    VCall Go.Proofs.Tryz.prog gl 47 [.ro 8 (rowN l), .agg x.cells] (fun y => y = .tup [.ro 1 (rowZ (refN l x).1), .bool (refN l x).2]) := by
  rcases opc_cases x.op with ⟨o, ho⟩ | hn
  · cases hf : fitN l x o.many with
    | false => rw [refN_bad (by rw [ho]; exact opc_many o) hf]; exact c_r10_Shape_no gl l x o ho hf hx
    | true => exact c_r10_Shape_yes gl l x o ho hf hx hl
  · rw [refN_none hn]
    have hp := c_r10_Parts gl x.op
    rw [partsZ, hn] at hp
    refine VCall.taken ?_
    refine vcall_of TOK_r10_Shape HM Go.Proofs.Tryz.func47 rfl (by decide +kernel) (by decide +kernel) rfl ?_
    repeat' first|refine sY ⟨?_⟩|(refine sq ?_ ?_<;>refine fun h=>⟨?_⟩<;>(first|contradiction|(exfalso;omega)|skip))|fail
    all_goals (conv => whnf)
    all_goals first | exact ⟨_, roTo2 rfl rfl, rfl⟩ | exact ⟨_, roTo2 (show RoTo .nils (.ro 1 []) from ⟨1, rfl⟩) rfl, rfl⟩
end Go.V
namespace Go.V
open Go.N
set_option maxRecDepth 20000
variable (gl : Gl)
def T_r10_Small : Tab := [(24, i24), (22, i22), (36, i36), (3, i3), (33, i33), (34, i34), (9, i9)]
theorem TOK_r10_Small : TOK Go.Proofs.Tryz.prog T_r10_Small := ⟨K24, ⟨K22, ⟨K36, ⟨K3, ⟨K33, ⟨K34, ⟨K9, trivial⟩⟩⟩⟩⟩⟩⟩
def T_r10_Same : Tab := [(36, i36), (9, i9), (3, i3), (33, i33), (4, i4), (34, i34)]
theorem TOK_r10_Same : TOK Go.Proofs.Tryz.prog T_r10_Same := ⟨K36, ⟨K9, ⟨K3, ⟨K33, ⟨K4, ⟨K34, trivial⟩⟩⟩⟩⟩⟩
def T_r10_Equal : Tab := [(24, i24), (3, i3), (22, i22), (36, i36), (4, i4)]
theorem TOK_r10_Equal : TOK Go.Proofs.Tryz.prog T_r10_Equal := ⟨K24, ⟨K3, ⟨K22, ⟨K36, ⟨K4, trivial⟩⟩⟩⟩⟩
def smallS (s : ByteArray) : Bool := decide (s.size ≤ 30)
def smallN (x : Nd) : Bool := decide (x.shape.length ≤ 10) && decide (x.data.length ≤ 70) && decide (x.k.size ≤ 30) && decide (x.name.size ≤ 30) && x.data.all smallS
def smallG (g : Gr) : Bool := decide (g.nodes.length ≤ 40) && g.nodes.all smallN
theorem all_bad {α : Type} {l : List α} {p : α → Bool} {i : Nat} (h : i < l.length) (hp : p l[i] = false) : l.all p = false := List.all_eq_false.2 ⟨_, List.getElem_mem h, by simp [hp]⟩
theorem all_snoc {α : Type} {l : List α} {p : α → Bool} {i : Nat} (h : i < l.length) (ha : (l.take i).all p = true) (hp : p l[i] = true) : (l.take (i + 1)).all p = true := by
  rw [List.take_succ_eq_append_getElem h, List.all_append, ha]; simp [hp]
theorem smallN_sm {x : Nd} (h : smallN x = true) : x.Sm := by
  simp only [smallN, Bool.and_eq_true, decide_eq_true_eq, List.all_eq_true] at h
  exact ⟨by omega, by omega, by omega, by omega, fun d hd => by have := h.2 d hd; simp only [smallS, decide_eq_true_eq] at this; omega⟩
set_option maxHeartbeats 4000000 in
theorem c_r10_Small (g : Gr) : VCall Go.Proofs.Tryz.prog gl 15 [.agg g.cells] (fun x => x = .bool (smallG g)) := by
  obtain ⟨l, loss⟩ := g
  have hl : (rowN l).length = l.length := rowN_length l
  by_cases h40 : l.length ≤ 40
  · have hb : l.all smallN = false → smallG ⟨l, loss⟩ = false := fun h => by simp [smallG, h]
    have ho : l.all smallN = true → smallG ⟨l, loss⟩ = true := fun h => by simp [smallG, h, h40]
    generalize smallG ⟨l, loss⟩ = T at hb ho ⊢
    refine vcall_of TOK_r10_Small HM Go.Proofs.Tryz.func15 rfl (by decide +kernel) (by decide +kernel) rfl ?_
    repeat' first|refine sY ⟨?_⟩|(refine sq ?_ ?_<;>refine fun h=>⟨?_⟩<;>(first|contradiction|(exfalso;omega)|skip))|fail
    refine ⟨[12, 13, 14], [], fun m st => ∃ i : Nat, i ≤ l.length ∧ m = l.length - i ∧ (l.take i).all smallN = true ∧
      st = ⟨[(12, .ro 8 (rowN l)), (13, .int .i64 ((rowN l).length : Nat)), (14, .int .i64 (i : Nat))], []⟩, rfl, ⟨l.length, 0, by omega, rfl, rfl, rfl⟩, ?_⟩
    rintro m _ ⟨i, hi, hm, ha, rfl⟩
    rcases Nat.lt_or_ge i l.length with hil | hge
    · obtain ⟨x, hx⟩ : ∃ x, x = l[i] := ⟨_, rfl⟩
      have g : (rowN l)[i]? = some x.cells := by rw [hx]; exact rowN_get hil
      have hbad : smallN x = false → T = false := fun h => hb (all_bad hil (by rw [← hx]; exact h))
      have hstep : smallN x = true → (l.take (i + 1)).all smallN = true := fun h => all_snoc hil ha (by rw [← hx]; exact h)
      clear hx
      obtain ⟨op, a, b, name, shape, k, n, data⟩ := x
      have hls : (rowZ shape).length = shape.length := rowZ_length shape
      have hld : (rowS data).length = data.length := rowS_length data
      by_cases hpre : shape.length ≤ 10 ∧ data.length ≤ 70 ∧ k.size ≤ 30 ∧ name.size ≤ 30
      · obtain ⟨h1, h2, h3, h4⟩ := hpre
        have hb2 : data.all smallS = false → T = false := fun h => hbad (by simp [smallN, h])
        have ho2 : data.all smallS = true → (l.take (i + 1)).all smallN = true := fun h => hstep (by simp [smallN, h, h1, h2, h3, h4])
        repeat' first|refine sY ⟨?_⟩|(refine sq ?_ ?_<;>refine fun h=>⟨?_⟩<;>(first|contradiction|(exfalso;omega)|skip))|fail
        refine ⟨[12, 13, 14, 41, 42, 43], [], fun m st => ∃ j : Nat, j ≤ data.length ∧ m = data.length - j ∧ (data.take j).all smallS = true ∧
          st = ⟨[(12, .ro 8 (rowN l)), (13, .int .i64 ((rowN l).length : Nat)), (14, .int .i64 (i : Nat)), (41, .ro 1 (rowS data)), (42, .int .i64 ((rowS data).length : Nat)), (43, .int .i64 (j : Nat))], []⟩, rfl, ⟨data.length, 0, by omega, rfl, rfl, rfl⟩, ?_⟩
        rintro m2 _ ⟨j, hj, hm2, ha2, rfl⟩
        rcases Nat.lt_or_ge j data.length with hjl | hge
        · have g2 := rowS_get hjl
          by_cases hs : data[j].size ≤ 30
          · repeat' first|refine sY ⟨?_⟩|(refine sq ?_ ?_<;>refine fun h=>⟨?_⟩<;>(first|contradiction|(exfalso;omega)|skip))|fail
            exact ⟨[], data.length - (j + 1), rfl, by omega, j + 1, by omega, rfl, all_snoc hjl ha2 (by simp [smallS, hs]), rfl⟩
          · rw [hb2 (all_bad hjl (by simp [smallS, hs]))]
            repeat' first|refine sY ⟨?_⟩|(refine sq ?_ ?_<;>refine fun h=>⟨?_⟩<;>(first|contradiction|(exfalso;omega)|skip))|fail
            all_goals (conv => whnf)
            rfl
        · rw [List.take_of_length_le (by omega)] at ha2
          repeat' first|refine sY ⟨?_⟩|(refine sq ?_ ?_<;>refine fun h=>⟨?_⟩<;>(first|contradiction|(exfalso;omega)|skip))|fail
          exact ⟨[], l.length - (i + 1), rfl, by omega, i + 1, by omega, rfl, ho2 ha2, rfl⟩
      · rw [hbad (by
          rw [Bool.eq_false_iff]; simp only [smallN, ne_eq, Bool.and_eq_true, decide_eq_true_eq]; intro e; exact hpre ⟨e.1.1.1.1, e.1.1.1.2, e.1.1.2, e.1.2⟩)]
        repeat' first|refine sY ⟨?_⟩|(refine sq ?_ ?_<;>refine fun h=>⟨?_⟩<;>(first|contradiction|(exfalso;omega)|skip))|fail
        all_goals first | ((conv => whnf); rfl) | omega
    · rw [List.take_of_length_le (by omega)] at ha
      rw [ho ha]
      repeat' first|refine sY ⟨?_⟩|(refine sq ?_ ?_<;>refine fun h=>⟨?_⟩<;>(first|contradiction|(exfalso;omega)|skip))|fail
      all_goals (conv => whnf)
      rfl
  · rw [show smallG ⟨l, loss⟩ = false by simp [smallG, h40]]
    refine vcall_of TOK_r10_Small HM Go.Proofs.Tryz.func15 rfl (by decide +kernel) (by decide +kernel) rfl ?_
    repeat' first|refine sY ⟨?_⟩|(refine sq ?_ ?_<;>refine fun h=>⟨?_⟩<;>(first|contradiction|(exfalso;omega)|skip))|fail
    all_goals (conv => whnf)
    rfl
open Classical in
set_option maxHeartbeats 4000000 in
theorem c_r10_Same (x y : Nd) (hx : x.Sm) (hy : y.Sm) : VCall Go.Proofs.Tryz.prog gl 23 [.agg x.cells, .agg y.cells] (fun r => r = .bool (decide (x = y))) := by
  obtain ⟨op, a, b, name, shape, k, n, data⟩ := x
  obtain ⟨op2, a2, b2, name2, shape2, k2, n2, data2⟩ := y
  have hsame := c_r04_Same gl shape shape2 (Nat.lt_of_le_of_lt hx.shape (by decide)) (Nat.lt_of_le_of_lt hy.shape (by decide))
  have hld : (rowS data).length = data.length := rowS_length data
  have hld2 : (rowS data2).length = data2.length := rowS_length data2
  have hdl : data.length ≤ 1000 := hx.data
  by_cases hpre : op = op2 ∧ a = a2 ∧ b = b2 ∧ name = name2 ∧ k = k2 ∧ n = n2 ∧ shape = shape2 ∧ data.length = data2.length
  · obtain ⟨rfl, rfl, rfl, rfl, rfl, rfl, rfl, hdd⟩ := hpre
    have hT : decide ((⟨op, a, b, name, shape, k, n, data⟩ : Nd) = ⟨op, a, b, name, shape, k, n, data2⟩) = decide (data = data2) := by
      rw [Bool.eq_iff_iff, decide_eq_true_eq, decide_eq_true_eq]
      exact ⟨fun e => by injection e, fun e => by rw [e]⟩
    rw [hT]
    rw [decide_eq_true (rfl : shape = shape)] at hsame
    clear hT hx hy
    refine vcall_of TOK_r10_Same HM Go.Proofs.Tryz.func23 rfl (by decide +kernel) (by decide +kernel) rfl ?_
    repeat' first|refine sY ⟨?_⟩|(refine sq ?_ ?_<;>refine fun h=>⟨?_⟩<;>(first|contradiction|(exfalso;omega)|skip))|fail
    refine ⟨[2, 3, 5], [0, 1], fun m st => ∃ i : Nat, i ≤ data.length ∧ m = data.length - i ∧ data.take i = data2.take i ∧
      st = ⟨[(2, .bptr 0 0), (3, .bptr 1 0), (5, .int .i64 (i : Nat))], [.box 36 (Nd.cells ⟨op, a, b, name, shape, k, n, data⟩), .box 36 (Nd.cells ⟨op, a, b, name, shape, k, n, data2⟩)]⟩, rfl, ⟨data.length, 0, by omega, rfl, rfl, rfl⟩, ?_⟩
    rintro m _ ⟨i, hi, hm, ha, rfl⟩
    rcases Nat.lt_or_ge i data.length with hil | hge
    · have hil2 : i < data2.length := by omega
      have g := rowS_get hil
      have g2 := rowS_get hil2
      by_cases he : data[i] = data2[i]
      · repeat' first|refine sY ⟨?_⟩|(refine sq ?_ ?_<;>refine fun h=>⟨?_⟩<;>(first|contradiction|(exfalso;omega)|skip))|fail
        refine ⟨by decide +kernel, [0, 1, 0, 7, 15, 0, 32, 0, 224, 480, 1023], by decide +kernel, ?_⟩
        repeat' first|refine sY ⟨?_⟩|(refine sq ?_ ?_<;>refine fun h=>⟨?_⟩<;>(first|contradiction|(exfalso;omega)|skip))|fail
        exact ⟨[0, 1], data.length - (i + 1), rfl, by omega, i + 1, by omega, rfl, take_ext hil hil2 ha he, rfl⟩
      · rw [decide_eq_false (fun e : data = data2 => he (by subst e; rfl))]
        repeat' first|refine sY ⟨?_⟩|(refine sq ?_ ?_<;>refine fun h=>⟨?_⟩<;>(first|contradiction|(exfalso;omega)|skip))|fail
        refine ⟨by decide +kernel, [0, 1, 0, 7, 15, 0, 32, 0, 224, 480, 1023], by decide +kernel, ?_⟩
        repeat' first|refine sY ⟨?_⟩|(refine sq ?_ ?_<;>refine fun h=>⟨?_⟩<;>(first|contradiction|(exfalso;omega)|skip))|fail
        all_goals (conv => whnf)
        rfl
    · rw [List.take_of_length_le (by omega), List.take_of_length_le (by omega)] at ha
      rw [decide_eq_true ha]
      repeat' first|refine sY ⟨?_⟩|(refine sq ?_ ?_<;>refine fun h=>⟨?_⟩<;>(first|contradiction|(exfalso;omega)|skip))|fail
      all_goals (conv => whnf)
      rfl
  · rw [decide_eq_false (fun e => hpre (by cases e; exact ⟨rfl, rfl, rfl, rfl, rfl, rfl, rfl, rfl⟩))]
    refine vcall_of TOK_r10_Same HM Go.Proofs.Tryz.func23 rfl (by decide +kernel) (by decide +kernel) rfl ?_
    repeat' first|refine sY ⟨?_⟩|(refine sq ?_ ?_<;>refine fun h=>⟨?_⟩<;>(first|contradiction|(exfalso;omega)|skip))|fail
    all_goals first | ((conv => whnf); rfl) | (clear hsame hx hy; exfalso; apply hpre; simp_all; done) | (clear hsame hx hy; exfalso; apply hpre; simp_all; omega)
theorem Gr.ext' {g h : Gr} (h1 : g.loss = h.loss) (h2 : g.nodes = h.nodes) : g = h := by cases g; cases h; simp_all
open Classical in
set_option maxHeartbeats 4000000 in
theorem c_r10_Equal (g h : Gr) (hg : ∀ x ∈ g.nodes, x.Sm) (hh : ∀ x ∈ h.nodes, x.Sm) (hgl : g.nodes.length ≤ 1000) : VCall Go.Proofs.Tryz.prog gl 20 [.agg g.cells, .agg h.cells] (fun r => r = .bool (decide (g = h))) := by
  obtain ⟨l, p⟩ := g
  obtain ⟨l2, p2⟩ := h
  have hld : (rowN l).length = l.length := rowN_length l
  have hld2 : (rowN l2).length = l2.length := rowN_length l2
  dsimp only at hg hh hgl
  by_cases hpre : p = p2 ∧ l.length = l2.length
  · obtain ⟨rfl, hdd⟩ := hpre
    have hT : decide ((⟨l, p⟩ : Gr) = ⟨l2, p⟩) = decide (l = l2) := by
      rw [Bool.eq_iff_iff, decide_eq_true_eq, decide_eq_true_eq]
      exact ⟨fun e => by injection e, fun e => by rw [e]⟩
    rw [hT]
    clear hT
    refine vcall_of TOK_r10_Equal HM Go.Proofs.Tryz.func20 rfl (by decide +kernel) (by decide +kernel) rfl ?_
    repeat' first|refine sY ⟨?_⟩|(refine sq ?_ ?_<;>refine fun h=>⟨?_⟩<;>(first|contradiction|(exfalso;omega)|skip))|fail
    refine ⟨[2, 3, 5], [0, 1], fun m st => ∃ i : Nat, i ≤ l.length ∧ m = l.length - i ∧ l.take i = l2.take i ∧
      st = ⟨[(2, .bptr 0 0), (3, .bptr 1 0), (5, .int .i64 (i : Nat))], [.box 24 (Gr.cells ⟨l, p⟩), .box 24 (Gr.cells ⟨l2, p⟩)]⟩, rfl, ⟨l.length, 0, by omega, rfl, rfl, rfl⟩, ?_⟩
    rintro m _ ⟨i, hi, hm, ha, rfl⟩
    rcases Nat.lt_or_ge i l.length with hil | hge
    · have hil2 : i < l2.length := by omega
      have g := rowN_get hil
      have g2 := rowN_get hil2
      have hs := c_r10_Same gl l[i] l2[i] (hg _ (List.getElem_mem hil)) (hh _ (List.getElem_mem hil2))
      by_cases he : l[i] = l2[i]
      · rw [decide_eq_true he] at hs
        repeat' first|refine sY ⟨?_⟩|(refine sq ?_ ?_<;>refine fun h=>⟨?_⟩<;>(first|contradiction|(exfalso;omega)|skip))|fail
        refine ⟨by decide +kernel, [0, 1, 0, 7, 15, 0, 32, 0, 224, 480, 1023, 2047], by decide +kernel, ?_⟩
        repeat' first|refine sY ⟨?_⟩|(refine sq ?_ ?_<;>refine fun h=>⟨?_⟩<;>(first|contradiction|(exfalso;omega)|skip))|fail
        exact ⟨[0, 1], l.length - (i + 1), rfl, by omega, i + 1, by omega, rfl, take_ext hil hil2 ha he, rfl⟩
      · rw [decide_eq_false he] at hs
        rw [decide_eq_false (fun e : l = l2 => he (by subst e; rfl))]
        repeat' first|refine sY ⟨?_⟩|(refine sq ?_ ?_<;>refine fun h=>⟨?_⟩<;>(first|contradiction|(exfalso;omega)|skip))|fail
        refine ⟨by decide +kernel, [0, 1, 0, 7, 15, 0, 32, 0, 224, 480, 1023, 2047], by decide +kernel, ?_⟩
        repeat' first|refine sY ⟨?_⟩|(refine sq ?_ ?_<;>refine fun h=>⟨?_⟩<;>(first|contradiction|(exfalso;omega)|skip))|fail
        all_goals (conv => whnf)
        rfl
    · rw [List.take_of_length_le (by omega), List.take_of_length_le (by omega)] at ha
      rw [decide_eq_true ha]
      repeat' first|refine sY ⟨?_⟩|(refine sq ?_ ?_<;>refine fun h=>⟨?_⟩<;>(first|contradiction|(exfalso;omega)|skip))|fail
      all_goals (conv => whnf)
      rfl
  · rw [decide_eq_false (fun e => hpre (by cases e; exact ⟨rfl, rfl⟩))]
    refine vcall_of TOK_r10_Equal HM Go.Proofs.Tryz.func20 rfl (by decide +kernel) (by decide +kernel) rfl ?_
    repeat' first|refine sY ⟨?_⟩|(refine sq ?_ ?_<;>refine fun h=>⟨?_⟩<;>(first|contradiction|(exfalso;omega)|skip))|fail
    all_goals first | ((conv => whnf); rfl) | (exfalso; apply hpre; simp_all; done) | (exfalso; apply hpre; simp_all; omega)
end Go.V
namespace Go.V
open Go.N
set_option maxRecDepth 20000
def T_gRight : Tab := [(24, i24), (22, i22), (36, i36), (3, i3), (33, i33), (97, i97), (4, i4), (9, i9)]
theorem TOK_gRight : TOK Go.Proofs.Tryz.prog T_gRight := ⟨K24, ⟨K22, ⟨K36, ⟨K3, ⟨K33, ⟨K97, ⟨K4, ⟨K9, trivial⟩⟩⟩⟩⟩⟩⟩⟩
def T_r10_Right : Tab := [(24, i24), (22, i22), (36, i36), (3, i3), (33, i33), (4, i4), (9, i9)]
theorem TOK_r10_Right : TOK Go.Proofs.Tryz.prog T_r10_Right := ⟨K24, ⟨K22, ⟨K36, ⟨K3, ⟨K33, ⟨K4, ⟨K9, trivial⟩⟩⟩⟩⟩⟩⟩
theorem okZ_sh {r : List Int × Bool} {s : List Int} (h : okZ r = some s) : okShape s = true := by
  rw [okZ] at h
  by_cases hh : (r.2 && okShape r.1) = true
  · rw [if_pos hh] at h
    cases h
    rw [Bool.and_eq_true] at hh
    exact hh.2
  · rw [if_neg hh] at h; cases h
theorem inferN_sh {l : List Nd} {x : Nd} {s : List Int} (h : inferN l x = some s) : okShape s = true := by
  cases hp : opParts x.op with
  | none => rw [inferN_none hp] at h; cases h
  | some m =>
    cases hf : fitN l x m with
    | false => rw [inferN_bad hp hf] at h; cases h
    | true => rw [inferN_ok hp hf] at h; exact okZ_sh h
def renK (kv : List (ByteArray × AV)) : List (ByteArray × AV) := kv.map fun kx => (kx.1, ren [0, 1] kx.2)
theorem map_setK (f : AV → AV) (x : ByteArray) (v : AV) : ∀ l : List (ByteArray × AV), (setK l x v).map (fun kx => (kx.1, f kx.2)) = setK (l.map fun kx => (kx.1, f kx.2)) x (f v)
  | [] => rfl
  | (k, w) :: r => by
    unfold setK
    simp only [List.map_cons]
    split
    · rfl
    · simp only [List.map_cons, map_setK f x v r]
theorem renK_set {kv : List (ByteArray × AV)} (h : renK kv = kv) (x : ByteArray) (e : Int) : renK (setK kv x (.int .i64 e)) = setK kv x (.int .i64 e) := by
  rw [renK, map_setK, show (kv.map fun kx => (kx.1, ren [0, 1] kx.2)) = kv from h]; simp [ren]
set_option maxHeartbeats 4000000 in
theorem c_gRight (g : Gr) (hs : ∀ x ∈ g.nodes, x.Sm) (hl : g.nodes.length ≤ 1000) : VCall Go.Proofs.Tryz.prog GL 44 [.agg g.cells] (fun r => r = .bool (grOK g)) := by
  obtain ⟨l, p⟩ := g
  have hlr : (rowN l).length = l.length := rowN_length l
  dsimp only at hs hl
  show VCall _ _ _ [.agg [.ro 8 (rowN l), .int .i64 p]] _
  cases hpre : preG ⟨l, p⟩
  · rw [show grOK ⟨l, p⟩ = false by rw [grOK, hpre]; rfl]
    by_cases h1 : 1 ≤ l.length
    · by_cases h2 : l.length ≤ 200
      · cases h3 : inR p l
        · have := inR_not h3
          refine vcall_of TOK_gRight HM Go.Proofs.Tryz.func44 rfl (by decide +kernel) (by decide +kernel) rfl ?_
          repeat' first|refine sY ⟨?_⟩|(refine sq ?_ ?_<;>refine fun h=>⟨?_⟩<;>(first|contradiction|(exfalso;omega)|skip))|fail
          all_goals (conv => whnf)
          all_goals rfl
        · obtain ⟨q, rfl, hq⟩ := inR_nat h3
          have h4 : l[q].shape ≠ [] := fun e => by
            simp only [preG, h1, h2, h3, shAt_nat hq, e] at hpre
            simp at hpre
          obtain ⟨_, _, _, _, _, _, _, g⟩ := rowN_sh hq
          generalize l[q].shape = A at g h4
          have h5 : A.length ≠ 0 := fun e => h4 (List.length_eq_zero_iff.1 e)
          have hA := rowZ_length A
          refine vcall_of TOK_gRight HM Go.Proofs.Tryz.func44 rfl (by decide +kernel) (by decide +kernel) rfl ?_
          repeat' first|refine sY ⟨?_⟩|(refine sq ?_ ?_<;>refine fun h=>⟨?_⟩<;>(first|contradiction|(exfalso;omega)|skip))|fail
          all_goals (conv => whnf)
          all_goals rfl
      · refine vcall_of TOK_gRight HM Go.Proofs.Tryz.func44 rfl (by decide +kernel) (by decide +kernel) rfl ?_
        repeat' first|refine sY ⟨?_⟩|(refine sq ?_ ?_<;>refine fun h=>⟨?_⟩<;>(first|contradiction|(exfalso;omega)|skip))|fail
        all_goals (conv => whnf)
        all_goals rfl
    · refine vcall_of TOK_gRight HM Go.Proofs.Tryz.func44 rfl (by decide +kernel) (by decide +kernel) rfl ?_
      repeat' first|refine sY ⟨?_⟩|(refine sq ?_ ?_<;>refine fun h=>⟨?_⟩<;>(first|contradiction|(exfalso;omega)|skip))|fail
      all_goals (conv => whnf)
      all_goals rfl
  have hpre2 := hpre
  simp only [preG, Bool.and_eq_true, decide_eq_true_eq] at hpre2
  obtain ⟨⟨⟨h1, h2⟩, h3⟩, h4⟩ := hpre2
  obtain ⟨q, rfl, hq⟩ := inR_nat h3
  rw [shAt_nat hq] at h4
  obtain ⟨_, _, _, _, _, _, _, g⟩ := rowN_sh hq
  rw [h4] at g
  rw [show grOK ⟨l, (q : Int)⟩ = allTo l l.length by rw [grOK, hpre]; rfl]
  clear hpre h3 h4
  refine vcall_of TOK_gRight HM Go.Proofs.Tryz.func44 rfl (by decide +kernel) (by decide +kernel) rfl ?_
  repeat' first|refine sY ⟨?_⟩|(refine sq ?_ ?_<;>refine fun h=>⟨?_⟩<;>(first|contradiction|(exfalso;omega)|skip))|fail
  refine ⟨[1, 3, 44, 45, 46], [0, 1], fun m st => ∃ (i : Nat) (kv : List (ByteArray × AV)), i ≤ l.length ∧ m = l.length - i ∧ allTo l i = true ∧ MapOK kv (l.take i) ∧ renK kv = kv ∧
    st = ⟨[(1, .bptr 0 0), (3, .map 1), (44, .ro 8 (rowN l)), (45, .int .i64 ((rowN l).length : Nat)), (46, .int .i64 (i : Nat))], [.box 24 [.ro 8 (rowN l), .int .i64 (q : Nat)], .kv kv]⟩, rfl,
    ⟨l.length, 0, [], by omega, rfl, rfl, mapOK_nil, rfl, rfl⟩, ?_⟩
  rintro m _ ⟨i, kv, hi, hm, ha, hkv, hrk, rfl⟩
  rcases Nat.lt_or_ge i l.length with hil | hge
  · obtain ⟨x, hx⟩ : ∃ x, x = l[i] := ⟨_, rfl⟩
    have g : (rowN l)[i]? = some x.cells := by rw [hx]; exact rowN_get hil
    have hnd : ndAt l i = ndOK (l.take i) x := by rw [hx]; exact ndAt_lt hil
    have hxs : x.Sm := by rw [hx]; exact hs _ (List.getElem_mem hil)
    have htk : l.take (i + 1) = l.take i ++ [x] := by rw [hx]; exact List.take_succ_eq_append_getElem hil
    clear hx
    have hinf := c_gInfer (l.take i) x hxs (fun y hy => hs y (List.mem_of_mem_take hy)) (by rw [List.length_take]; omega)
    have hcl := cnt_le (l.take i) x.name
    have hcp := @cnt_pos (l.take i) x
    have hsn := @mapOK_snoc kv (l.take i) x ((cntN (l.take i) x.name : Nat) + 1) hkv rfl
    rw [← htk] at hsn
    have hrs := renK_set hrk x.name ((cntN (l.take i) x.name : Nat) + 1)
    have hmp := hkv x.name
    rw [List.length_take] at hcl
    generalize cntN (l.take i) x.name = c at hcl hcp hsn hmp hrs
    have hso := allTo_succ l i
    rw [ha, hnd, ndOK, Bool.true_and] at hso
    have hbad : (decide (inferN (l.take i) x = some x.shape) && (l.take i).all (newName x)) = false → allTo l l.length = false := fun h => allTo_bad hil (by rw [hnd, ndOK]; exact h)
    have hnn : x.name = ⟨#[]⟩ → (l.take i).all (newName x) = true := fun e => by rw [List.all_eq_true]; intro y _; simp [newName, e]
    have hlen1 := hxs.shape
    cases hI : inferN (l.take i) x with
    | none =>
      rw [hbad (by simp [hI])]
      rw [hI] at hinf
      obtain ⟨op, a, b, name, shape, k, n, data⟩ := x
      repeat' first|refine sY ⟨?_⟩|(refine sq ?_ ?_<;>refine fun h=>⟨?_⟩<;>(first|contradiction|(exfalso;omega)|skip))|fail
      refine ⟨by decide +kernel, [0, 1, 0, 7, 0, 31, 63, 127, 127, 255, 1023], by decide +kernel, ?_⟩
      repeat' first|refine sY ⟨?_⟩|(refine sq ?_ ?_<;>refine fun h=>⟨?_⟩<;>(first|contradiction|(exfalso;omega)|skip))|fail
      refine ⟨Int.le_refl _, by omega, by omega, rowN (l.take i), sl_take l i, ?_⟩
      repeat' first|refine sY ⟨?_⟩|(refine sq ?_ ?_<;>refine fun h=>⟨?_⟩<;>(first|contradiction|(exfalso;omega)|skip))|fail
      all_goals (conv => whnf)
      all_goals rfl
    | some s =>
      rw [hI] at hinf hbad hso
      have hs2 : s.length ≤ 4 := by
        have : okShape s = true := inferN_sh hI
        exact okShape_len this
      have hsm := c_shape_Same GL s x.shape (by omega) (by omega)
      by_cases hss : s = x.shape
      · rw [decide_eq_true hss] at hsm
        by_cases hn : x.name = ⟨#[]⟩
        · have hgo : allTo l (i + 1) = true := hso.trans (by rw [hnn hn, hss]; simp)
          obtain ⟨op, a, b, name, shape, k, n, data⟩ := x
          repeat' first|refine sY ⟨?_⟩|(refine sq ?_ ?_<;>refine fun h=>⟨?_⟩<;>(first|contradiction|(exfalso;omega)|skip))|fail
          refine ⟨by decide +kernel, [0, 1, 0, 7, 0, 31, 63, 127, 127, 255, 1023], by decide +kernel, ?_⟩
          repeat' first|refine sY ⟨?_⟩|(refine sq ?_ ?_<;>refine fun h=>⟨?_⟩<;>(first|contradiction|(exfalso;omega)|skip))|fail
          refine ⟨Int.le_refl _, by omega, by omega, rowN (l.take i), sl_take l i, ?_⟩
          repeat' first|refine sY ⟨?_⟩|(refine sq ?_ ?_<;>refine fun h=>⟨?_⟩<;>(first|contradiction|(exfalso;omega)|skip))|fail
          all_goals exact ⟨[0, 1], l.length - (i + 1), rfl, by omega, i + 1, _, by omega, rfl, hgo, hsn, hrs, Eq.trans rfl (congrArg (fun z => (⟨[(1, .bptr 0 0), (3, .map 1), (44, .ro 8 (rowN l)), (45, .int .i64 ((rowN l).length : Nat)), (46, .int .i64 ((i + 1 : Nat) : Int))], [.box 24 [.ro 8 (rowN l), .int .i64 (q : Nat)], .kv z]⟩ : St)) hrs)⟩
        · by_cases hc : 0 < c
          · have hT := hbad (by rw [(hcp hn).1 hc]; simp)
            rw [hT]
            obtain ⟨op, a, b, name, shape, k, n, data⟩ := x
            repeat' first|refine sY ⟨?_⟩|(refine sq ?_ ?_<;>refine fun h=>⟨?_⟩<;>(first|contradiction|(exfalso;omega)|skip))|fail
            refine ⟨by decide +kernel, [0, 1, 0, 7, 0, 31, 63, 127, 127, 255, 1023], by decide +kernel, ?_⟩
            repeat' first|refine sY ⟨?_⟩|(refine sq ?_ ?_<;>refine fun h=>⟨?_⟩<;>(first|contradiction|(exfalso;omega)|skip))|fail
            refine ⟨Int.le_refl _, by omega, by omega, rowN (l.take i), sl_take l i, ?_⟩
            repeat' first|refine sY ⟨?_⟩|(refine sq ?_ ?_<;>refine fun h=>⟨?_⟩<;>(first|contradiction|(exfalso;omega)|skip))|fail
            all_goals (conv => whnf)
            all_goals rfl
          · have hall : (l.take i).all (newName x) = true := by
              cases h : (l.take i).all (newName x)
              · exact absurd ((hcp hn).2 h) hc
              · rfl
            have hgo : allTo l (i + 1) = true := hso.trans (by rw [hall, hss]; simp)
            obtain ⟨op, a, b, name, shape, k, n, data⟩ := x
            repeat' first|refine sY ⟨?_⟩|(refine sq ?_ ?_<;>refine fun h=>⟨?_⟩<;>(first|contradiction|(exfalso;omega)|skip))|fail
            refine ⟨by decide +kernel, [0, 1, 0, 7, 0, 31, 63, 127, 127, 255, 1023], by decide +kernel, ?_⟩
            repeat' first|refine sY ⟨?_⟩|(refine sq ?_ ?_<;>refine fun h=>⟨?_⟩<;>(first|contradiction|(exfalso;omega)|skip))|fail
            refine ⟨Int.le_refl _, by omega, by omega, rowN (l.take i), sl_take l i, ?_⟩
            repeat' first|refine sY ⟨?_⟩|(refine sq ?_ ?_<;>refine fun h=>⟨?_⟩<;>(first|contradiction|(exfalso;omega)|skip))|fail
            all_goals exact ⟨[0, 1], l.length - (i + 1), rfl, by omega, i + 1, _, by omega, rfl, hgo, hsn, hrs, Eq.trans rfl (congrArg (fun z => (⟨[(1, .bptr 0 0), (3, .map 1), (44, .ro 8 (rowN l)), (45, .int .i64 ((rowN l).length : Nat)), (46, .int .i64 ((i + 1 : Nat) : Int))], [.box 24 [.ro 8 (rowN l), .int .i64 (q : Nat)], .kv z]⟩ : St)) hrs)⟩
      · rw [decide_eq_false hss] at hsm
        rw [hbad (by simp [hss])]
        obtain ⟨op, a, b, name, shape, k, n, data⟩ := x
        repeat' first|refine sY ⟨?_⟩|(refine sq ?_ ?_<;>refine fun h=>⟨?_⟩<;>(first|contradiction|(exfalso;omega)|skip))|fail
        refine ⟨by decide +kernel, [0, 1, 0, 7, 0, 31, 63, 127, 127, 255, 1023], by decide +kernel, ?_⟩
        repeat' first|refine sY ⟨?_⟩|(refine sq ?_ ?_<;>refine fun h=>⟨?_⟩<;>(first|contradiction|(exfalso;omega)|skip))|fail
        refine ⟨Int.le_refl _, by omega, by omega, rowN (l.take i), sl_take l i, ?_⟩
        repeat' first|refine sY ⟨?_⟩|(refine sq ?_ ?_<;>refine fun h=>⟨?_⟩<;>(first|contradiction|(exfalso;omega)|skip))|fail
        all_goals (conv => whnf)
        all_goals rfl
  · have hi2 : i = l.length := by omega
    subst hi2
    rw [ha]
    repeat' first|refine sY ⟨?_⟩|(refine sq ?_ ?_<;>refine fun h=>⟨?_⟩<;>(first|contradiction|(exfalso;omega)|skip))|fail
    all_goals (conv => whnf)
    all_goals rfl
end Go.V
namespace Go.V
open Go.N
set_option maxRecDepth 20000
variable (gl : Gl)
theorem newName_take {l : List Nd} {i j : Nat} (hj : j < i) (hi : i ≤ l.length) : (l.take i)[j]'(by rw [List.length_take]; omega) = l[j] := by simp
set_option maxHeartbeats 4000000 in
theorem c_r10_Right (g : Gr) (hs : ∀ x ∈ g.nodes, x.Sm) (hl : g.nodes.length ≤ 1000) : VCall Go.Proofs.Tryz.prog gl 19 [.agg g.cells] (fun r => r = .bool (grOK g)) := by
  obtain ⟨l, p⟩ := g
  have hlr : (rowN l).length = l.length := rowN_length l
  dsimp only at hs hl
  show VCall _ _ _ [.agg [.ro 8 (rowN l), .int .i64 p]] _
  cases hpre : preG ⟨l, p⟩
  · rw [show grOK ⟨l, p⟩ = false by rw [grOK, hpre]; rfl]
    by_cases h1 : 1 ≤ l.length
    · by_cases h2 : l.length ≤ 200
      · cases h3 : inR p l
        · have := inR_not h3
          refine vcall_of TOK_r10_Right HM Go.Proofs.Tryz.func19 rfl (by decide +kernel) (by decide +kernel) rfl ?_
          repeat' first|refine sY ⟨?_⟩|(refine sq ?_ ?_<;>refine fun h=>⟨?_⟩<;>(first|contradiction|(exfalso;omega)|skip))|fail
          all_goals (conv => whnf)
          all_goals rfl
        · obtain ⟨q, rfl, hq⟩ := inR_nat h3
          have h4 : l[q].shape ≠ [] := fun e => by
            simp only [preG, h1, h2, h3, shAt_nat hq, e] at hpre
            simp at hpre
          obtain ⟨_, _, _, _, _, _, _, g⟩ := rowN_sh hq
          generalize l[q].shape = A at g h4
          have h5 : A.length ≠ 0 := fun e => h4 (List.length_eq_zero_iff.1 e)
          have hA := rowZ_length A
          refine vcall_of TOK_r10_Right HM Go.Proofs.Tryz.func19 rfl (by decide +kernel) (by decide +kernel) rfl ?_
          repeat' first|refine sY ⟨?_⟩|(refine sq ?_ ?_<;>refine fun h=>⟨?_⟩<;>(first|contradiction|(exfalso;omega)|skip))|fail
          all_goals (conv => whnf)
          all_goals rfl
      · refine vcall_of TOK_r10_Right HM Go.Proofs.Tryz.func19 rfl (by decide +kernel) (by decide +kernel) rfl ?_
        repeat' first|refine sY ⟨?_⟩|(refine sq ?_ ?_<;>refine fun h=>⟨?_⟩<;>(first|contradiction|(exfalso;omega)|skip))|fail
        all_goals (conv => whnf)
        all_goals rfl
    · refine vcall_of TOK_r10_Right HM Go.Proofs.Tryz.func19 rfl (by decide +kernel) (by decide +kernel) rfl ?_
      repeat' first|refine sY ⟨?_⟩|(refine sq ?_ ?_<;>refine fun h=>⟨?_⟩<;>(first|contradiction|(exfalso;omega)|skip))|fail
      all_goals (conv => whnf)
      all_goals rfl
  have hpre2 := hpre
  simp only [preG, Bool.and_eq_true, decide_eq_true_eq] at hpre2
  obtain ⟨⟨⟨h1, h2⟩, h3⟩, h4⟩ := hpre2
  obtain ⟨q, rfl, hq⟩ := inR_nat h3
  rw [shAt_nat hq] at h4
  obtain ⟨_, _, _, _, _, _, _, g⟩ := rowN_sh hq
  rw [h4] at g
  rw [show grOK ⟨l, (q : Int)⟩ = allTo l l.length by rw [grOK, hpre]; rfl]
  clear hpre h3 h4
  refine vcall_of TOK_r10_Right HM Go.Proofs.Tryz.func19 rfl (by decide +kernel) (by decide +kernel) rfl ?_
  repeat' first|refine sY ⟨?_⟩|(refine sq ?_ ?_<;>refine fun h=>⟨?_⟩<;>(first|contradiction|(exfalso;omega)|skip))|fail
  refine ⟨[1, 3], [0], fun m st => ∃ (i : Nat), i ≤ l.length ∧ m = l.length - i ∧ allTo l i = true ∧
    st = ⟨[(1, .bptr 0 0), (3, .int .i64 (i : Nat))], [.box 24 [.ro 8 (rowN l), .int .i64 (q : Nat)]]⟩, rfl,
    ⟨l.length, 0, by omega, rfl, rfl, rfl⟩, ?_⟩
  rintro m _ ⟨i, hi, hm, ha, rfl⟩
  rcases Nat.lt_or_ge i l.length with hil | hge
  · obtain ⟨x, hx⟩ : ∃ x, x = l[i] := ⟨_, rfl⟩
    have g : (rowN l)[i]? = some x.cells := by rw [hx]; exact rowN_get hil
    have hnd : ndAt l i = ndOK (l.take i) x := by rw [hx]; exact ndAt_lt hil
    have hxs : x.Sm := by rw [hx]; exact hs _ (List.getElem_mem hil)
    clear hx
    have hsh := c_r10_Shape gl (l.take i) x hxs (fun y hy => hs y (List.mem_of_mem_take hy))
    have hri := refN_infer (l.take i) x
    have hso := allTo_succ l i
    rw [ha, hnd, ndOK, Bool.true_and] at hso
    have hbad : (decide (inferN (l.take i) x = some x.shape) && (l.take i).all (newName x)) = false → allTo l l.length = false := fun h => allTo_bad hil (by rw [hnd, ndOK]; exact h)
    have hlen1 := hxs.shape
    generalize refN (l.take i) x = R at hsh hri
    obtain ⟨s, ok⟩ := R
    dsimp only at hsh hri
    cases ok with
    | false =>
      rw [hbad (by
        cases h : inferN (l.take i) x with
        | none => rfl
        | some s => rw [h] at hri; exact absurd hri.1 (by simp))]
      obtain ⟨op, a, b, name, shape, k, n, data⟩ := x
      repeat' first|refine sY ⟨?_⟩|(refine sq ?_ ?_<;>refine fun h=>⟨?_⟩<;>(first|contradiction|(exfalso;omega)|skip))|fail
      refine ⟨by decide +kernel, [0, 1, 0, 7, 0, 16, 0, 112, 240, 511, 1023, 2047, 2047, 4095, 16383], by decide +kernel, ?_⟩
      repeat' first|refine sY ⟨?_⟩|(refine sq ?_ ?_<;>refine fun h=>⟨?_⟩<;>(first|contradiction|(exfalso;omega)|skip))|fail
      refine ⟨Int.le_refl _, by omega, by omega, rowN (l.take i), sl_take l i, ?_⟩
      repeat' first|refine sY ⟨?_⟩|(refine sq ?_ ?_<;>refine fun h=>⟨?_⟩<;>(first|contradiction|(exfalso;omega)|skip))|fail
      all_goals (conv => whnf)
      all_goals rfl
    | true =>
      have hI := hri.2 rfl
      have hs2 := okShape_len (inferN_sh hI)
      have hsm := c_r04_Same gl s x.shape (by omega) (by omega)
      rw [hI] at hbad hso
      by_cases hss : s = x.shape
      · rw [decide_eq_true hss] at hsm
        rw [hss, decide_eq_true rfl, Bool.true_and] at hso hbad
        have hnk : ∀ k (hk : k < i), newName x l[k] = false → allTo l l.length = false := fun k hk h => hbad (List.all_eq_false.2 ⟨l[k], by
          rw [← newName_take hk hi]; exact List.getElem_mem _, by simp [h]⟩)
        have htk : ∀ k (hk : k < i), ((l.take i).take k).all (newName x) = true → newName x l[k] = true → ((l.take i).take (k + 1)).all (newName x) = true := fun k hk h1 h2 =>
          all_snoc (by rw [List.length_take]; omega) h1 (by rw [newName_take hk hi]; exact h2)
        obtain ⟨op, a, b, name, shape, k, n, data⟩ := x
        repeat' first|refine sY ⟨?_⟩|(refine sq ?_ ?_<;>refine fun h=>⟨?_⟩<;>(first|contradiction|(exfalso;omega)|skip))|fail
        refine ⟨by decide +kernel, [0, 1, 0, 7, 0, 16, 0, 112, 240, 511, 1023, 2047, 2047, 4095, 16383], by decide +kernel, ?_⟩
        repeat' first|refine sY ⟨?_⟩|(refine sq ?_ ?_<;>refine fun h=>⟨?_⟩<;>(first|contradiction|(exfalso;omega)|skip))|fail
        refine ⟨Int.le_refl _, by omega, by omega, rowN (l.take i), sl_take l i, ?_⟩
        repeat' first|refine sY ⟨?_⟩|(refine sq ?_ ?_<;>refine fun h=>⟨?_⟩<;>(first|contradiction|(exfalso;omega)|skip))|fail
        refine ⟨[1, 3, 6], [0], fun m st => ∃ (j : Nat), j ≤ i ∧ m = i - j ∧ ((l.take i).take j).all (newName ⟨op, a, b, name, shape, k, n, data⟩) = true ∧
          st = ⟨[(1, .bptr 0 0), (3, .int .i64 (i : Nat)), (6, .int .i64 (j : Nat))], [.box 24 [.ro 8 (rowN l), .int .i64 (q : Nat)]]⟩, rfl,
          ⟨i, 0, by omega, rfl, rfl, rfl⟩, ?_⟩
        rintro m2 _ ⟨j, hj, hm2, ha2, rfl⟩
        rcases Nat.lt_or_ge j i with hji | hge
        · obtain ⟨y, hy⟩ : ∃ y, y = l[j] := ⟨_, rfl⟩
          have g2 : (rowN l)[j]? = some y.cells := by rw [hy]; exact rowN_get (by omega)
          have hb := hnk j hji
          have hg := htk j hji ha2
          rw [← hy] at hb hg
          clear hy hnk htk
          obtain ⟨op2, a2, b2, name2, shape2, k2, n2, data2⟩ := y
          simp only [newName] at hb hg
          by_cases hn : name = ⟨#[]⟩
          · have hg := hg (by simp [hn])
            repeat' first|refine sY ⟨?_⟩|(refine sq ?_ ?_<;>refine fun h=>⟨?_⟩<;>(first|contradiction|(exfalso;omega)|skip))|fail
            refine ⟨by decide +kernel, [0, 1, 0, 7, 15, 31, 63, 127, 255, 511, 255, 2047, 4095, 8191, 255, 16639, 255, 114943, 246015, 508159, 1048575, 2097151], by decide +kernel, ?_⟩
            repeat' first|refine sY ⟨?_⟩|(refine sq ?_ ?_<;>refine fun h=>⟨?_⟩<;>(first|contradiction|(exfalso;omega)|skip))|fail
            exact ⟨[0], i - (j + 1), rfl, by omega, j + 1, by omega, rfl, hg, rfl⟩
          · by_cases hnn : name2 = name
            · have hT := hb (by simp [hn, hnn])
              rw [hT]
              repeat' first|refine sY ⟨?_⟩|(refine sq ?_ ?_<;>refine fun h=>⟨?_⟩<;>(first|contradiction|(exfalso;omega)|skip))|fail
              refine ⟨by decide +kernel, [0, 1, 0, 7, 15, 31, 63, 127, 255, 511, 255, 2047, 4095, 8191, 255, 16639, 255, 114943, 246015, 508159, 1048575, 2097151], by decide +kernel, ?_⟩
              repeat' first|refine sY ⟨?_⟩|(refine sq ?_ ?_<;>refine fun h=>⟨?_⟩<;>(first|contradiction|(exfalso;omega)|skip))|fail
              all_goals (conv => whnf)
              all_goals rfl
            · have hg := hg (by simp [hnn])
              repeat' first|refine sY ⟨?_⟩|(refine sq ?_ ?_<;>refine fun h=>⟨?_⟩<;>(first|contradiction|(exfalso;omega)|skip))|fail
              refine ⟨by decide +kernel, [0, 1, 0, 7, 15, 31, 63, 127, 255, 511, 255, 2047, 4095, 8191, 255, 16639, 255, 114943, 246015, 508159, 1048575, 2097151], by decide +kernel, ?_⟩
              repeat' first|refine sY ⟨?_⟩|(refine sq ?_ ?_<;>refine fun h=>⟨?_⟩<;>(first|contradiction|(exfalso;omega)|skip))|fail
              exact ⟨[0], i - (j + 1), rfl, by omega, j + 1, by omega, rfl, hg, rfl⟩
        · rw [List.take_of_length_le (l := l.take i) (by rw [List.length_take]; omega)] at ha2
          rw [ha2] at hso
          repeat' first|refine sY ⟨?_⟩|(refine sq ?_ ?_<;>refine fun h=>⟨?_⟩<;>(first|contradiction|(exfalso;omega)|skip))|fail
          exact ⟨[0], l.length - (i + 1), rfl, by omega, i + 1, by omega, rfl, hso, rfl⟩
      · rw [decide_eq_false hss] at hsm
        rw [hbad (by simp [hss])]
        obtain ⟨op, a, b, name, shape, k, n, data⟩ := x
        repeat' first|refine sY ⟨?_⟩|(refine sq ?_ ?_<;>refine fun h=>⟨?_⟩<;>(first|contradiction|(exfalso;omega)|skip))|fail
        refine ⟨by decide +kernel, [0, 1, 0, 7, 0, 16, 0, 112, 240, 511, 1023, 2047, 2047, 4095, 16383], by decide +kernel, ?_⟩
        repeat' first|refine sY ⟨?_⟩|(refine sq ?_ ?_<;>refine fun h=>⟨?_⟩<;>(first|contradiction|(exfalso;omega)|skip))|fail
        refine ⟨Int.le_refl _, by omega, by omega, rowN (l.take i), sl_take l i, ?_⟩
        repeat' first|refine sY ⟨?_⟩|(refine sq ?_ ?_<;>refine fun h=>⟨?_⟩<;>(first|contradiction|(exfalso;omega)|skip))|fail
        all_goals (conv => whnf)
        all_goals rfl
  · have hi2 : i = l.length := by omega
    subst hi2
    rw [ha]
    repeat' first|refine sY ⟨?_⟩|(refine sq ?_ ?_<;>refine fun h=>⟨?_⟩<;>(first|contradiction|(exfalso;omega)|skip))|fail
    all_goals (conv => whnf)
    all_goals rfl
end Go.V
namespace Go.V
open Go.N
set_option maxRecDepth 20000
def usesN (x : Nd) (k : Nat) : Bool := (decide (0 < partsZ x.op) && decide (x.a = (k : Int))) || (decide (1 < partsZ x.op) && decide (x.b = (k : Int)))
inductive NeedP (g : Gr) (keep : List Int) : Nat → Prop
  | loss {i : Nat} : (i : Int) = g.loss → NeedP g keep i
  | keep {i : Nat} : (i : Int) ∈ keep → NeedP g keep i
  | name {i : Nat} {x : Nd} : g.nodes[i]? = some x → x.name ≠ ⟨#[]⟩ → NeedP g keep i
  | use {i j : Nat} {x : Nd} : i < j → g.nodes[j]? = some x → usesN x i = true → NeedP g keep j → NeedP g keep i
def fB (n : Nat) (F : Nat → Bool) : List (List AV) := (List.range n).map fun j => [.bool (F j)]
@[simp] theorem fB_length (n : Nat) (F : Nat → Bool) : (fB n F).length = n := by simp [fB]
theorem allTo_get {l : List Nd} {n i : Nat} (h : allTo l n = true) (hi : i < n) : ndAt l i = true := List.all_eq_true.1 h i (List.mem_range.2 hi)
theorem ok_node {g : Gr} (h : grOK g = true) {i : Nat} {x : Nd} (hx : g.nodes[i]? = some x) : ndOK (g.nodes.take i) x = true := by
  simp only [grOK, Bool.and_eq_true] at h
  have h1 := (List.getElem?_eq_some_iff.1 hx).1
  have := allTo_get h.2 h1
  rw [ndAt, hx] at this
  exact this
theorem ok_infer {g : Gr} (h : grOK g = true) {i : Nat} {x : Nd} (hx : g.nodes[i]? = some x) : inferN (g.nodes.take i) x = some x.shape := by
  have := ok_node h hx
  simp only [ndOK, Bool.and_eq_true, decide_eq_true_eq] at this
  exact this.1
theorem ok_pre {g : Gr} (h : grOK g = true) : 1 ≤ g.nodes.length ∧ g.nodes.length ≤ 200 ∧ ∃ q : Nat, g.loss = q ∧ q < g.nodes.length := by
  simp only [grOK, preG, Bool.and_eq_true, decide_eq_true_eq] at h
  exact ⟨h.1.1.1.1, h.1.1.1.2, inR_nat h.1.1.2⟩
end Go.V
namespace Go.V
open Go.N
set_option maxRecDepth 20000
end Go.V
namespace Go.V
open Go.N
set_option maxRecDepth 20000
theorem rowN_snoc (l : List Nd) (x : Nd) {c : List AV} (h : c = x.cells) : rowN (l ++ [x]) = (rowN l).take (rowN l).length ++ [c] := by rw [List.take_length, h]; simp [rowN]
end Go.V
namespace Go.V
open Go.N
set_option maxRecDepth 20000
variable (gl : Gl)
end Go.V
namespace Go.V
open Go.N
set_option maxRecDepth 20000
variable (gl : Gl)
end Go.V
namespace Go.V
open Go.N
set_option maxRecDepth 20000
end Go.V
namespace Go.V
open Go.RowKit
section
variable {H : Type} (enc : TypeId × Value → H) (P : Program) (w : World)
abbrev SW (w : World) : Nat → Prop := fun b => b < w.heap.size
def OpnT (t : TypeId) (n : Nat) (K : List AV → Prop) : Prop := ∀ (fuel : Nat) (cs : List Value) (x : DataW H × List MemPlace), DataW.trod enc P w 0 (fun _ => true) true fuel t cs = some x →
  ∃ xs, K xs ∧ cs.length = n ∧ One cs ∧ RepL (SW w) H0 w xs cs
variable {enc P w}
theorem opn_int {t : TypeId} {k : IntKind} (ht : P.underlying t = some (.int k)) : OpnT enc P w t 1 (fun xs => ∃ n, xs = [.int k n]) := fun fuel cs x h => by
  obtain ⟨n, rfl, _, _⟩ := DataW.trod_int ht h
  exact ⟨_, ⟨n, rfl⟩, rfl, by simp [One, Value.oneCell'], by simp [RepL, RepV]⟩
theorem opn_string {t : TypeId} (ht : P.underlying t = some .string) : OpnT enc P w t 1 (fun xs => ∃ s, xs = [.str s]) := fun fuel cs x h => by
  obtain ⟨s, rfl, _, _⟩ := DataW.trod_string ht h
  exact ⟨_, ⟨s, rfl⟩, rfl, by simp [One, Value.oneCell'], by simp [RepL, RepV]⟩
theorem exists_list {α : Type} {Q : Nat → α → Prop} : ∀ n : Nat, (∀ i, i < n → ∃ a, Q i a) → ∃ l : List α, l.length = n ∧ ∀ i (h : i < l.length), Q i l[i]
  | 0, _ => ⟨[], rfl, fun i h => by simp at h⟩
  | n + 1, hq => by
    obtain ⟨l, hl, h⟩ := exists_list n fun i hi => hq i (by omega)
    obtain ⟨a, ha⟩ := hq n (by omega)
    refine ⟨l ++ [a], by simp [hl], fun i hi => ?_⟩
    by_cases hin : i < l.length
    · rw [List.getElem_append_left hin]; exact h i hin
    · have : i = n := by simp at hi; omega
      subst this
      rw [List.getElem_append_right (by omega)]
      simpa using ha
theorem repLL_of {S : Nat → Prop} : ∀ {es : List (List AV)} {vss : List (List Value)}, es.length = vss.length → (∀ i (h1 : i < es.length) (h2 : i < vss.length), RepL S H0 w es[i] vss[i]) → RepLL S w es vss
  | [], [], _, _ => by simp [RepLL]
  | [], _ :: _, h, _ => by simp at h
  | _ :: _, [], h, _ => by simp at h
  | e :: es, v :: vss, h, hr => by
    simp only [RepLL]
    exact ⟨v, vss, rfl, hr 0 (by simp) (by simp), repLL_of (by simpa using h) fun i h1 h2 => hr (i + 1) (by simpa using h1) (by simpa using h2)⟩
theorem opn_slice {t e : TypeId} {n : Nat} {K : List AV → Prop} (ht : P.underlying t = some (.slice e)) (hc : P.cellsOf e = n) (hn : 0 < n) (he : OpnT enc P w e n K) :
    OpnT enc P w t 1 (fun xs => ∃ es, xs = [.ro n es] ∧ ∀ c ∈ es, K c) := fun fuel cs x h => by
  rcases DataW.trod_slice ht h with ⟨rfl, _⟩ | ⟨a, len, cap, elems, rest, m, _, rfl, _, _, hl, hm, hlen, hel, _⟩
  · refine ⟨_, ⟨[], rfl, by simp⟩, rfl, by simp [One, Value.oneCell'], ?_⟩
    simp [RepL, RepV]
    exact ⟨none, 0, ⟨rfl, rfl⟩, Nat.zero_le _⟩
  · rw [hc] at hel
    obtain ⟨l, hll, hq⟩ := exists_list (Q := fun i (p : List AV × List Value) => K p.1 ∧ w.cells? 0 (a.add (i * n)) n = some p.2 ∧ p.2.length = n ∧ One p.2 ∧ RepL (SW w) H0 w p.1 p.2) len fun i hi => by
      have hi2 := hel i hi
      rw [List.getElem?_eq_getElem (by omega)] at hi2
      obtain ⟨vs, h1, h2⟩ := Option.bind_eq_some_iff.1 hi2
      obtain ⟨xs, k1, k2, k3, k4⟩ := he _ _ _ h2
      exact ⟨(xs, vs), k1, h1, k2, k3, k4⟩
    refine ⟨_, ⟨l.map (·.1), rfl, fun c hc => ?_⟩, rfl, by simp [One, Value.oneCell'], ?_⟩
    · obtain ⟨p, hp, rfl⟩ := List.mem_map.1 hc
      obtain ⟨i, hi, rfl⟩ := List.getElem_of_mem hp
      exact (hq i hi).1
    · simp only [RepL, RepV]
      refine ⟨_, _, rfl, ⟨_, _, by rw [List.length_map, hll], by rw [List.length_map, hll]; exact hl, hm, ?_⟩, rfl⟩
      rcases Nat.eq_zero_or_pos len with h0 | h0
      · left; exact List.length_eq_zero_iff.1 (by rw [List.length_map, hll, h0])
      · have hb : a.block < w.heap.size := by
          have := World.cells?_block (hq 0 (by omega)).2.1 hn
          simpa [Addr.add] using this
        refine .inr ⟨a, rfl, hb, hb, l.map (·.2), repLL_of (by simp) fun i h1 h2 => ?_, fun vs hv => ?_, fun i vs hv k u hk => ?_⟩
        · simp only [List.getElem_map]
          exact (hq i (by simpa using h1)).2.2.2.2
        · obtain ⟨p, hp, rfl⟩ := List.mem_map.1 hv
          obtain ⟨i, hi, rfl⟩ := List.getElem_of_mem hp
          exact ⟨(hq i hi).2.2.1, (hq i hi).2.2.2.1⟩
        · rw [List.getElem?_map] at hv
          obtain ⟨p, hp, rfl⟩ := Option.map_eq_some_iff.1 hv
          obtain ⟨hi, rfl⟩ := List.getElem?_eq_some_iff.1 hp
          have h1 := (hq i hi).2.1
          have hk2 := (List.getElem?_eq_some_iff.1 hk).1
          have hlen2 := (hq i hi).2.2.1
          have := (World.cells?_some h1).2.2 k (by omega)
          rw [Addr.add_add] at this
          rw [this, hk]
def FldK : List Field → Nat → List (AV → Prop) → Prop
  | [], _, Ks => Ks = []
  | f :: fs, i, Ks => ∃ K Kr, Ks = K :: Kr ∧ f.offset = i ∧ P.cellsOf f.type = 1 ∧ OpnT enc P w f.type 1 (fun xs => ∃ a, xs = [a] ∧ K a) ∧ FldK fs (i + 1) Kr
theorem OpnT.mono {t : TypeId} {n : Nat} {K K' : List AV → Prop} (h : OpnT enc P w t n K) (hk : ∀ xs, K xs → K' xs) : OpnT enc P w t n K' := fun fuel cs x hx => by
  obtain ⟨xs, k, r⟩ := h fuel cs x hx
  exact ⟨xs, hk xs k, r⟩
def AllK : List (AV → Prop) → List AV → Prop
  | [], xs => xs = []
  | K :: Ks, xs => ∃ x r, xs = x :: r ∧ K x ∧ AllK Ks r
theorem opn_fields : ∀ (fs : List Field) (i : Nat) (Ks : List (AV → Prop)) (cs : List Value), FldK (enc := enc) (P := P) (w := w) fs i Ks → cs.length = i + fs.length →
    (∀ f ∈ fs, ∃ m y, DataW.trod enc P w 0 (fun _ => true) true m f.type ((cs.drop f.offset).take (P.cellsOf f.type)) = some y) → ∃ xs, AllK Ks xs ∧ One (cs.drop i) ∧ RepL (SW w) H0 w xs (cs.drop i)
  | [], i, Ks, cs, hf, hl, _ => by
    simp only [FldK] at hf
    subst hf
    have : cs.drop i = [] := List.drop_of_length_le (by simp at hl; omega)
    rw [this]
    exact ⟨[], rfl, by simp [One], by simp [RepL]⟩
  | f :: fs, i, Ks, cs, hf, hl, ht => by
    simp only [FldK] at hf
    obtain ⟨K, Kr, rfl, h1, h2, h3, h4⟩ := hf
    have hi : i < cs.length := by simp at hl; omega
    obtain ⟨xs, a1, a2, a3⟩ := opn_fields fs (i + 1) Kr cs h4 (by simp at hl; omega) (fun g hg => ht g (List.mem_cons_of_mem _ hg))
    obtain ⟨m, y, hy⟩ := ht f List.mem_cons_self
    have e : cs.drop i = cs[i] :: cs.drop (i + 1) := List.drop_eq_getElem_cons hi
    rw [h1, h2, e] at hy
    obtain ⟨zs, ⟨a, rfl, ha⟩, _, k2, k3⟩ := h3 _ _ _ hy
    simp only [List.take_succ_cons, List.take_zero] at k2 k3
    simp only [RepL] at k3
    obtain ⟨v, r, e2, hv, rfl⟩ := k3
    cases e2
    rw [e]
    refine ⟨a :: xs, ⟨a, xs, rfl, ha, a1⟩, fun u hu => ?_, ?_⟩
    · rcases List.mem_cons.1 hu with rfl | hu
      · exact k2 _ List.mem_cons_self
      · exact a2 u hu
    · simp only [RepL]; exact ⟨_, _, rfl, hv, a3⟩
theorem opn_struct {t : TypeId} {fs : Array Field} {Ks : List (AV → Prop)} (ht : P.underlying t = some (.struct fs)) (hn : P.cellsOf t = fs.size) (hf : FldK (enc := enc) (P := P) (w := w) fs.toList 0 Ks) :
    OpnT enc P w t fs.size (AllK Ks) := fun fuel cs x h => by
  obtain ⟨xs, m, _, _, hl, hlen, hx⟩ := DataW.trod_struct ht h
  obtain ⟨ys, a1, a2, a3⟩ := opn_fields fs.toList 0 Ks cs hf (by rw [hl, hn]; simp) fun f hm => by
    obtain ⟨i, hi, rfl⟩ := List.getElem_of_mem hm
    have := hx i _ (by rw [Array.getElem?_eq_getElem (by simpa using hi)])
    rw [List.getElem?_eq_getElem (by rw [hlen]; simpa using hi)] at this
    exact ⟨m, _, this⟩
  exact ⟨ys, a1, by rw [hl, hn], by simpa using a2, by simpa using a3⟩
theorem rows_of {α : Type} {f : α → List AV} : ∀ {es : List (List AV)}, (∀ c ∈ es, ∃ a, c = f a) → ∃ l : List α, es = l.map f
  | [], _ => ⟨[], rfl⟩
  | e :: es, h => by
    obtain ⟨a, ha⟩ := h e List.mem_cons_self
    obtain ⟨l, hl⟩ := rows_of (es := es) fun c hc => h c (List.mem_cons_of_mem _ hc)
    exact ⟨a :: l, by rw [ha, hl]; rfl⟩
theorem VCall.calls {gl : Gl} {f : FuncId} {fn : Func} {c : Code} {args : List AV} {r : AV} {vs : List Value} {v : Value} (h : VCall P gl f args (fun x => x = r)) (hf : P.funcs[f]? = some fn) (hb : fn.body = some c) (hname : (fn.name == "runtime.NumGoroutine") = false)
    (hgl : GlOK (SW w) w gl) (hargs : RepL (SW w) H0 w args vs) (hr : ∀ S b w' v', ResOK S b w' r v' → v' = v) :
    Calls P f vs.toArray w fun e w' => e = .returned v ∧ Below w.heap.size w w' := by
  have hne : fn.name ≠ "runtime.NumGoroutine" := by simpa using hname
  have hen : (callFunc f vs.toArray).run P w = .ok (.enter f vs.toArray) w := by simp [callFunc, hf, hne, hb]
  rcases h (SW w) w vs (fun b hb => hb) hgl hargs with ⟨_, h2⟩ | ⟨v2, w2, h1, _⟩ | ⟨row, xs, w2, h1, _⟩
  · refine h2.mono fun e w' he => ?_
    obtain ⟨u, rfl, x, rfl, h3, h4⟩ := he
    rw [hr _ _ _ _ h3]
    exact ⟨rfl, h4⟩
  · rw [hen] at h1; cases h1
  · rw [hen] at h1; cases h1
end
end Go.V
namespace Go.Proofs.YtndiceggidmgkaaGreatDoor
open Go Go.ChangeShapes Go.WideShapes Go.ChangeAt Go.RowKit Go.V
set_option maxRecDepth 100000
def isS (a : AV) : Prop := ∃ s, a = .str s
def isI (a : AV) : Prop := ∃ n, a = .int .i64 n
def isZs (a : AV) : Prop := ∃ es, a = .ro 1 es ∧ ∀ c ∈ es, ∃ n, c = [.int .i64 n]
def isSs (a : AV) : Prop := ∃ es, a = .ro 1 es ∧ ∀ c ∈ es, ∃ s, c = [.str s]
def isNd (c : List AV) : Prop := ∃ x : Nd, c = x.cells
def isNs (a : AV) : Prop := ∃ es, a = .ro 8 es ∧ ∀ c ∈ es, isNd c
theorem node_of {c : List AV} (h : AllK [isS, isI, isI, isS, isZs, isS, isI, isSs] c) : isNd c := by
  obtain ⟨_, _, rfl, ⟨op, rfl⟩, _, _, rfl, ⟨a, rfl⟩, _, _, rfl, ⟨b, rfl⟩, _, _, rfl, ⟨name, rfl⟩, _, _, rfl, ⟨es, rfl, h1⟩, _, _, rfl, ⟨k, rfl⟩, _, _, rfl, ⟨n, rfl⟩, _, _, rfl, ⟨es2, rfl, h2⟩, rfl⟩ := h
  obtain ⟨shape, rfl⟩ := rows_of (f := fun n => [AV.int .i64 n]) h1
  obtain ⟨data, rfl⟩ := rows_of (f := fun s => [AV.str s]) h2
  exact ⟨⟨op, a, b, name, shape, k, n, data⟩, rfl⟩
theorem graph_of {c : List AV} (h : AllK [isNs, isI] c) : ∃ g : Gr, c = g.cells := by
  obtain ⟨_, _, rfl, ⟨es, rfl, h1⟩, _, _, rfl, ⟨n, rfl⟩, rfl⟩ := h
  obtain ⟨l, rfl⟩ := rows_of h1
  exact ⟨⟨l, n⟩, rfl⟩
section
variable {H : Type} {enc : TypeId × Value → H} {W : World}
theorem o_int : OpnT enc Go.Proofs.Tryz.prog W 3 1 (fun xs => ∃ a, xs = [a] ∧ isI a) := (opn_int Tryz.underlying3).mono fun xs ⟨n, h⟩ => ⟨_, h, n, rfl⟩
theorem o_str : OpnT enc Go.Proofs.Tryz.prog W 9 1 (fun xs => ∃ a, xs = [a] ∧ isS a) := (opn_string Tryz.underlying9).mono fun xs ⟨s, h⟩ => ⟨_, h, s, rfl⟩
theorem o_ints : OpnT enc Go.Proofs.Tryz.prog W 33 1 (fun xs => ∃ a, xs = [a] ∧ isZs a) := (opn_slice Tryz.underlying33 (by kernel_rfl) (by decide) (opn_int Tryz.underlying3)).mono fun xs ⟨es, h, k⟩ => ⟨_, h, es, rfl, k⟩
theorem o_strs : OpnT enc Go.Proofs.Tryz.prog W 34 1 (fun xs => ∃ a, xs = [a] ∧ isSs a) := (opn_slice Tryz.underlying34 (by kernel_rfl) (by decide) (opn_string Tryz.underlying9)).mono fun xs ⟨es, h, k⟩ => ⟨_, h, es, rfl, k⟩
theorem o_node : OpnT enc Go.Proofs.Tryz.prog W 36 8 isNd :=
  (opn_struct Tryz.underlying36 (by kernel_rfl) ⟨isS, _, rfl, rfl, by kernel_rfl, o_str, isI, _, rfl, rfl, by kernel_rfl, o_int, isI, _, rfl, rfl, by kernel_rfl, o_int, isS, _, rfl, rfl, by kernel_rfl, o_str, isZs, _, rfl, rfl, by kernel_rfl, o_ints,
    isS, _, rfl, rfl, by kernel_rfl, o_str, isI, _, rfl, rfl, by kernel_rfl, o_int, isSs, _, rfl, rfl, by kernel_rfl, o_strs, rfl⟩).mono fun xs h => node_of h
theorem o_nodes : OpnT enc Go.Proofs.Tryz.prog W 22 1 (fun xs => ∃ a, xs = [a] ∧ isNs a) := (opn_slice Tryz.underlying22 (by kernel_rfl) (by decide) o_node).mono fun xs ⟨es, h, k⟩ => ⟨_, h, es, rfl, k⟩
theorem o_graph : OpnT enc Go.Proofs.Tryz.prog W 24 2 (fun xs => ∃ g : Gr, xs = g.cells) :=
  (opn_struct Tryz.underlying24 (by kernel_rfl) ⟨isNs, _, rfl, rfl, by kernel_rfl, o_nodes, isI, _, rfl, rfl, by kernel_rfl, o_int, rfl⟩).mono fun xs h => graph_of h
end
theorem own : ownKnob Go.Proofs.Tryz.prog.godebug = none := by kernel_rfl
theorem laidOut : laidOutB Go.Proofs.Tryz.prog = true := by kernel_rfl
theorem rowErr (u : TypeId) (h : Go.Proofs.Tryz.prog.typeName? 3 u = some "*errors.errorString") : u = 262 :=
  typeName_ptr_named (nm := "errors.errorString") (by kernel_rfl) (by kernel_rfl) (by decide) u h
theorem laid_in {P : Program} {W : World} : ∀ (k : Nat) {L r : List (String × DataW Unit)} {x : String × DataW Unit}, L.drop k = x :: r → laidMet P L W → laidMet P (x :: r) W
  | 0, L, r, x, h, hl => by rw [List.drop_zero] at h; rw [← h]; exact hl
  | k + 1, [], r, x, h, hl => by simp at h
  | k + 1, y :: L, r, x, h, hl => laid_in k (by simpa using h) (laidMet.tail hl)
theorem var_block {P : Program} {W : World} {nm : String} {g : Nat} {cs : Array Value} (hn : P.globalNamed nm = some g) (hv : W.var? P nm = some cs) : ∃ e f, W.heap[g]? = some (.cells cs e f) := by
  unfold World.var? at hv
  rw [hn] at hv
  simp only [Option.bind_some] at hv
  split at hv
  · rename_i cs e f hh
    cases hv
    exact ⟨e, f, hh⟩
  · cases hv
theorem gl_sent {W : World} {nm : String} {s : List UInt8} {r : List (String × DataW Unit)} {g : Nat} (h : laidMet Go.Proofs.Tryz.prog ((nm, .iface "*errors.errorString" (.ptr (.agg [.lit (.string s)]))) :: r) W) (hn : Go.Proofs.Tryz.prog.globalNamed nm = some g) (ht : (Go.Proofs.Tryz.prog.globals[g]?).map (·.type) = some 85) :
    RepV (SW W) H0 W (.rp [.iface 262 .j]) (.pointer (some ⟨g, 0, none⟩)) ∧ ∃ c e f, W.heap[g]? = some (.cells c e f) ∧ c.size = 1 := by
  obtain ⟨a, s, hv, _, _, _⟩ := laid_sentinel h hn ht
    Tryz.underlying85 rowErr Tryz.underlying262 Tryz.underlying282 rfl rfl Tryz.underlying9 (by kernel_rfl) (by kernel_rfl)
  have hc : W.cell? ⟨g, 0, none⟩ = some (.iface 262 (.pointer (some a))) := by simpa using World.var?_cell hn hv 0
  have hb := World.block_lt_of_cell? W _ hc
  obtain ⟨e, f, hh⟩ := var_block hn hv
  refine ⟨?_, _, e, f, hh, rfl⟩
  simp only [RepV]
  refine ⟨_, rfl, hb, hb, [.iface 262 (.pointer (some a))], ?_, by simp [Go.V.One, Value.oneCell'], fun k u hk => ?_⟩
  · simp [RepL, RepV]
  · rcases k with _ | k
    · simp at hk; subst hk; simpa [Addr.add] using hc
    · simp at hk
theorem gl_of {W : World} {L : List (String × DataW Unit)} (hL : laidMet Go.Proofs.Tryz.prog L W) (e0 : ∃ k r, L.drop k = ("tapewright/rat.errForm", Rows.laid_tapewright_rat_errForm) :: r) (e1 : ∃ k r, L.drop k = ("tapewright/rat.errZero", Rows.laid_tapewright_rat_errZero) :: r) : GlOK (SW W) W GL := by
  intro g cs hm
  simp only [GL, List.mem_cons, List.not_mem_nil, or_false, Prod.mk.injEq] at hm
  obtain ⟨rfl, rfl⟩ | ⟨rfl, rfl⟩ := hm
  · obtain ⟨k, r, e⟩ := e0
    exact gl_sent (laid_in k e hL) (by kernel_rfl) (by kernel_rfl)
  · obtain ⟨k, r, e⟩ := e1
    exact gl_sent (laid_in k e hL) (by kernel_rfl) (by kernel_rfl)
end Go.Proofs.YtndiceggidmgkaaGreatDoor
