/-
  Lemmas (part 1) for: EvalNode, EvalSums, EvalBehind and EvalOrder hold for all arguments; no condition.
-/
import Derived.Test.YtndiceggidmgkaaGreatDoorFold10
import Derived.Test.YtndiceggidmgkaaGreatDoorFold8
set_option linter.all false
namespace Go.V
open Go.N
def i47 : TI := ⟨.slice 62, 1, 24, (.slice none 0 0), [3]⟩
theorem K47 : TFact Go.Proofs.Tryz.prog 47 i47 := ⟨info_of Go.Proofs.Tryz.type47 rfl, by decide +kernel, by decide +kernel⟩
def i51 : TI := ⟨.slice 40, 1, 24, (.slice none 0 0), [2]⟩
theorem K51 : TFact Go.Proofs.Tryz.prog 51 i51 := ⟨info_of Go.Proofs.Tryz.type51 rfl, by decide +kernel, by decide +kernel⟩
def i62 : TI := ⟨.strc [(0, 1, false), (1, 2, true)], 3, 64, (.agg #[(.string .empty), (.slice none 0 0), (.slice none 0 0)]), [0, 1, 1]⟩
theorem K62 : TFact Go.Proofs.Tryz.prog 62 i62 := ⟨info_of Go.Proofs.Tryz.type62 rfl, by decide +kernel, by decide +kernel⟩
def i120 : TI := ⟨.fn, 1, 8, .nilFunc, [0]⟩
theorem K120 : TFact Go.Proofs.Tryz.prog 120 i120 := ⟨info_of Go.Proofs.Tryz.type120 rfl, by decide +kernel, by decide +kernel⟩
theorem sum_one (x : Rat) : sumR [x] = x := by rw [sumR, List.foldl_cons, List.foldl_nil, Rat.zero_add]
end Go.V
namespace Go.V
open Go.N
set_option maxRecDepth 20000
def T_r05_EqualT : Tab := [(40, i40), (33, i33), (3, i3), (4, i4), (34, i34), (9, i9)]
theorem TOK_r05_EqualT : TOK Go.Proofs.Tryz.prog T_r05_EqualT := ⟨K40, ⟨K33, ⟨K3, ⟨K4, ⟨K34, ⟨K9, trivial⟩⟩⟩⟩⟩⟩
def T_r05_SmallT : Tab := [(40, i40), (33, i33), (3, i3), (34, i34), (9, i9)]
theorem TOK_r05_SmallT : TOK Go.Proofs.Tryz.prog T_r05_SmallT := ⟨K40, ⟨K33, ⟨K3, ⟨K34, ⟨K9, trivial⟩⟩⟩⟩⟩
def smallT (s : List Int) (l : List ByteArray) : Bool := decide (s.length ≤ 10) && (decide (l.length ≤ 70) && l.all fun x => decide (x.size ≤ 40))
set_option maxHeartbeats 1000000 in
theorem c_r05_Small (s : List Int) (l : List ByteArray) : VCall Go.Proofs.Tryz.prog GL 24 [tenA s l] (fun y => y = .bool (smallT s l)) := by
  have hs := rowZ_length s
  have hl := rowS_length l
  unfold tenA
  by_cases h1 : s.length ≤ 10
  case neg =>
    rw [show smallT s l = false by rw [smallT, decide_eq_false h1]; rfl]
    refine vcall_of TOK_r05_SmallT HM Go.Proofs.Tryz.func24 rfl (by decide +kernel) (by decide +kernel) rfl ?_
    repeat' first|refine sY ⟨?_⟩|(refine sq ?_ ?_<;>refine fun h=>⟨?_⟩<;>(first|contradiction|(exfalso;omega)|skip))|fail
    all_goals (conv => whnf)
    all_goals rfl
  by_cases h2 : l.length ≤ 70
  case neg =>
    rw [show smallT s l = false by rw [smallT, decide_eq_false h2]; simp]
    refine vcall_of TOK_r05_SmallT HM Go.Proofs.Tryz.func24 rfl (by decide +kernel) (by decide +kernel) rfl ?_
    repeat' first|refine sY ⟨?_⟩|(refine sq ?_ ?_<;>refine fun h=>⟨?_⟩<;>(first|contradiction|(exfalso;omega)|skip))|fail
    all_goals (conv => whnf)
    all_goals rfl
  rw [show smallT s l = l.all fun x => decide (x.size ≤ 40) by rw [smallT, decide_eq_true h1, decide_eq_true h2]; rfl]
  refine vcall_of TOK_r05_SmallT HM Go.Proofs.Tryz.func24 rfl (by decide +kernel) (by decide +kernel) rfl ?_
  repeat' first|refine sY ⟨?_⟩|(refine sq ?_ ?_<;>refine fun h=>⟨?_⟩<;>(first|contradiction|(exfalso;omega)|skip))|fail
  refine ⟨[1, 3], [0], fun m st => ∃ i : Nat, i ≤ l.length ∧ m = l.length - i ∧ (∀ j (h : j < l.length), j < i → l[j].size ≤ 40) ∧ st = ⟨[(1, .bptr 0 0), (3, .int .i64 (i : Nat))], [.box 40 [.ro 1 (rowZ s), .ro 1 (rowS l)]]⟩, rfl, ⟨l.length, 0, by omega, rfl, fun j h h0 => absurd h0 (Nat.not_lt_zero _), rfl⟩, ?_⟩
  rintro m _ ⟨i, hi, hm, hall, rfl⟩
  rcases Nat.lt_or_ge i l.length with hil | hge
  · have g := rowS_get hil
    by_cases h4 : l[i].size ≤ 40
    · have hx : ∀ j (h : j < l.length), j < i + 1 → l[j].size ≤ 40 := fun j h hj => (Nat.lt_succ_iff_lt_or_eq.1 hj).elim (hall j h) (fun e => by subst e; exact h4)
      generalize l[i] = x at g h4
      repeat' first|refine sY ⟨?_⟩|(refine sq ?_ ?_<;>refine fun h=>⟨?_⟩<;>(first|contradiction|(exfalso;omega)|skip))|fail
      all_goals exact ⟨[0], l.length - (i + 1), rfl, by omega, i + 1, by omega, rfl, hx, rfl⟩
    · have e : (l.all fun x => decide (x.size ≤ 40)) = false := by
        rw [List.all_eq_false]; exact ⟨l[i], List.getElem_mem hil, by simpa using h4⟩
      generalize (l.all fun x => decide (x.size ≤ 40)) = b at e
      subst e
      generalize l[i] = x at g h4
      repeat' first|refine sY ⟨?_⟩|(refine sq ?_ ?_<;>refine fun h=>⟨?_⟩<;>(first|contradiction|(exfalso;omega)|skip))|fail
      all_goals (conv => whnf)
      all_goals rfl
  · have e : (l.all fun x => decide (x.size ≤ 40)) = true := by
      rw [List.all_eq_true]; intro x hx
      obtain ⟨j, hj, rfl⟩ := List.getElem_of_mem hx
      exact decide_eq_true (hall j hj (by omega))
    generalize (l.all fun x => decide (x.size ≤ 40)) = b at e
    subst e
    repeat' first|refine sY ⟨?_⟩|(refine sq ?_ ?_<;>refine fun h=>⟨?_⟩<;>(first|contradiction|(exfalso;omega)|skip))|fail
    all_goals (conv => whnf)
    all_goals rfl
open Classical in
set_option maxHeartbeats 1000000 in
theorem c_r05_Equal (s t : List Int) (l k : List ByteArray) (hs1 : s.length ≤ 1000) (ht1 : t.length ≤ 1000) (hl1 : l.length ≤ 1000) : VCall Go.Proofs.Tryz.prog GL 26 [tenA s l, tenA t k] (fun y => y = .bool (decide (s = t) && decide (l = k))) := by
  have hl := rowS_length l
  have hk := rowS_length k
  have hsm := c_r04_Same GL s t (by omega) (by omega)
  unfold tenA
  by_cases h1 : s = t
  case neg =>
    rw [decide_eq_false h1] at hsm
    rw [show (decide (s = t) && decide (l = k)) = false by rw [decide_eq_false h1]; rfl]
    refine vcall_of TOK_r05_EqualT HM Go.Proofs.Tryz.func26 rfl (by decide +kernel) (by decide +kernel) rfl ?_
    repeat' first|refine sY ⟨?_⟩|(refine sq ?_ ?_<;>refine fun h=>⟨?_⟩<;>(first|contradiction|(exfalso;omega)|skip))|fail
    all_goals (conv => whnf)
    all_goals rfl
  rw [decide_eq_true h1] at hsm
  rw [show (decide (s = t) && decide (l = k)) = decide (l = k) by rw [decide_eq_true h1]; rfl]
  by_cases h2 : l.length = k.length
  case neg =>
    rw [show decide (l = k) = false from decide_eq_false (fun e => h2 (by rw [e]))]
    refine vcall_of TOK_r05_EqualT HM Go.Proofs.Tryz.func26 rfl (by decide +kernel) (by decide +kernel) rfl ?_
    repeat' first|refine sY ⟨?_⟩|(refine sq ?_ ?_<;>refine fun h=>⟨?_⟩<;>(first|contradiction|(exfalso;omega)|skip))|fail
    all_goals (conv => whnf)
    all_goals rfl
  refine vcall_of TOK_r05_EqualT HM Go.Proofs.Tryz.func26 rfl (by decide +kernel) (by decide +kernel) rfl ?_
  repeat' first|refine sY ⟨?_⟩|(refine sq ?_ ?_<;>refine fun h=>⟨?_⟩<;>(first|contradiction|(exfalso;omega)|skip))|fail
  refine ⟨[2, 3, 5], [0, 1], fun m st => ∃ i : Nat, i ≤ l.length ∧ m = l.length - i ∧ l.take i = k.take i ∧ st = ⟨[(2, .bptr 0 0), (3, .bptr 1 0), (5, .int .i64 (i : Nat))], [.box 40 [.ro 1 (rowZ s), .ro 1 (rowS l)], .box 40 [.ro 1 (rowZ t), .ro 1 (rowS k)]]⟩, rfl, ⟨l.length, 0, by omega, rfl, rfl, rfl⟩, ?_⟩
  rintro m _ ⟨i, hi, hm, htk, rfl⟩
  rcases Nat.lt_or_ge i l.length with hil | hge
  · have g := rowS_get hil
    have g2 := rowS_get (l := k) (k := i) (by omega)
    by_cases h4 : l[i] = k[i]'(by omega)
    · have hx : l.take (i + 1) = k.take (i + 1) := by rw [List.take_succ_eq_append_getElem hil, List.take_succ_eq_append_getElem (by omega), htk, h4]
      generalize l[i] = x at g h4
      generalize k[i]'(by omega) = y at g2 h4
      repeat' first|refine sY ⟨?_⟩|(refine sq ?_ ?_<;>refine fun h=>⟨?_⟩<;>(first|contradiction|(exfalso;omega)|skip))|fail
      refine ⟨by decide +kernel, [0, 1, 0, 7, 15, 0, 32, 0, 224, 480, 1023], by decide +kernel, ?_⟩
      repeat' first|refine sY ⟨?_⟩|(refine sq ?_ ?_<;>refine fun h=>⟨?_⟩<;>(first|contradiction|(exfalso;omega)|skip))|fail
      all_goals exact ⟨[0, 1], l.length - (i + 1), rfl, by omega, i + 1, by omega, rfl, hx, rfl⟩
    · have e : decide (l = k) = false := decide_eq_false (fun e => h4 (by subst e; rfl))
      generalize decide (l = k) = b at e
      subst e
      generalize l[i] = x at g h4
      generalize k[i]'(by omega) = y at g2 h4
      repeat' first|refine sY ⟨?_⟩|(refine sq ?_ ?_<;>refine fun h=>⟨?_⟩<;>(first|contradiction|(exfalso;omega)|skip))|fail
      refine ⟨by decide +kernel, [0, 1, 0, 7, 15, 0, 32, 0, 224, 480, 1023], by decide +kernel, ?_⟩
      repeat' first|refine sY ⟨?_⟩|(refine sq ?_ ?_<;>refine fun h=>⟨?_⟩<;>(first|contradiction|(exfalso;omega)|skip))|fail
      all_goals (conv => whnf)
      all_goals rfl
  · have e : decide (l = k) = true := by
      rw [List.take_of_length_le (by omega), List.take_of_length_le (by omega)] at htk
      exact decide_eq_true htk
    generalize decide (l = k) = b at e
    subst e
    repeat' first|refine sY ⟨?_⟩|(refine sq ?_ ?_<;>refine fun h=>⟨?_⟩<;>(first|contradiction|(exfalso;omega)|skip))|fail
    all_goals (conv => whnf)
    all_goals rfl
end Go.V
