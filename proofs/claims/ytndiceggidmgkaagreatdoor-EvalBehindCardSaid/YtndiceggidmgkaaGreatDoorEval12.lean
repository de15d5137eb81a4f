/-
  Lemmas (part 12) for: EvalNode, EvalSums, EvalBehind and EvalOrder hold for all arguments; no condition.
-/
import Derived.Test.YtndiceggidmgkaaGreatDoorEval3
set_option linter.all false
namespace Go.V
open Go.N
set_option maxRecDepth 20000
def T_EvalBehind : Tab := [(24, i24), (36, i36), (22, i22), (3, i3), (4, i4), (47, i47), (62, i62), (49, i49), (65, i65), (28, i28), (51, i51), (40, i40)]
theorem TOK_EvalBehind : TOK Go.Proofs.Tryz.prog T_EvalBehind := ⟨K24, ⟨K36, ⟨K22, ⟨K3, ⟨K4, ⟨K47, ⟨K62, ⟨K49, ⟨K65, ⟨K28, ⟨K51, ⟨K40, trivial⟩⟩⟩⟩⟩⟩⟩⟩⟩⟩⟩⟩
theorem wList_app (l : List Nd) (x : Nd) : ∀ i, i ≤ l.length → wList (l ++ [x]) i = wList l i
  | 0, _ => rfl
  | i + 1, h => by
    have hi : i < l.length := by omega
    rw [wList_step (by rw [List.length_append]; omega), wList_step hi, wList_app l x i (by omega), List.getElem_append_left hi]
    have e : ∀ y : Nd, wShape (l ++ [x]) i y = wShape l i y := fun y => by
      unfold wShape
      by_cases hc : 0 ≤ y.a ∧ y.a < i
      · rw [if_pos hc, if_pos hc]
        obtain ⟨q, hq⟩ : ∃ q : Nat, y.a = q := ⟨y.a.toNat, by omega⟩
        rw [hq, shAt_nat (by rw [List.length_append]; omega), shAt_nat (by omega), List.getElem_append_left (by omega)]
      · rw [if_neg hc, if_neg hc]
    rw [wNode, wNode, e]
theorem calmZ_app {l : List Nd} {x : Nd} {bs : List Bd} (h : calmZ (l ++ [x]) bs ≤ 400) : calmZ l bs ≤ 400 := by
  refine Int.le_trans ?_ h
  have h1 : calmS l ≤ calmS (l ++ [x]) := by
    rw [calmS, calmS, List.foldl_append, List.foldl_cons, List.foldl_nil]; omega
  have h2 : calmB (calmS l) bs ≤ calmB (calmS (l ++ [x])) bs := by
    have key : ∀ (bs : List Bd) (m n : Nat), m ≤ n → calmB m bs ≤ calmB n bs := fun bs => by
      induction bs with
      | nil => intro m n h; exact h
      | cons b bs ih => intro m n h; exact ih (max m (lngN b.data)) (max n (lngN b.data)) (by omega)
    exact key bs _ _ h1
  have h3 : maxL (wList l l.length) ≤ maxL (wList (l ++ [x]) (l ++ [x]).length) := by
    rw [show (l ++ [x]).length = l.length + 1 by simp, wList_step (by simp), wList_app l x _ (Nat.le_refl _), maxL_snoc]
    split <;> omega
  have h4 := maxL_in (wList_in (l := l) l.length (Nat.le_refl _))
  unfold calmZ
  exact Int.mul_le_mul (by omega) (by omega) (by omega) (by omega)
theorem vals_app {bd : Nd → List Rat} {g : Gr} (hg : grOK g = true) (x : Nd) : ∀ i, i ≤ g.nodes.length → vals bd (g.nodes ++ [x]) i = vals bd g.nodes i
  | 0, _ => rfl
  | i + 1, h => by
    have hi : i < g.nodes.length := by omega
    have hx : g.nodes[i]? = some g.nodes[i] := List.getElem?_eq_getElem hi
    have hx2 : (g.nodes ++ [x])[i]? = some g.nodes[i] := by rw [List.getElem?_append_left hi]; exact hx
    rw [vals_step hx2, vals_step hx, vals_app hg x i (by omega)]
    obtain ⟨o, ho, F⟩ := ok_opc hg hx
    have hsh : ∀ p : Int, inR p (g.nodes.take i) = true → shAt (g.nodes ++ [x]) p = shAt g.nodes p := fun p hp => by
      obtain ⟨q, hq, h1, h2⟩ := part_of hp
      rw [hq, shAt_nat (by rw [List.length_append]; omega), shAt_nat h2, List.getElem_append_left h2]
    have e : valN bd (g.nodes ++ [x]) (vals bd g.nodes i) g.nodes[i] = valN bd g.nodes (vals bd g.nodes i) g.nodes[i] := by
      unfold valN
      split
      · rfl
      · rw [ho, opcOf_str]
        exact valO_any (fun h => ⟨hsh _ (F.ia h), rfl⟩) (fun h => ⟨hsh _ (F.ib h), rfl⟩)
    rw [e]
theorem valAt_app {bd : Nd → List Rat} {g : Gr} (hg : grOK g = true) (x : Nd) {j : Nat} (hj : j < g.nodes.length) : valAt bd (g.nodes ++ [x]) j = valAt bd g.nodes j := by
  have e := vals_take (bd := bd) (l := g.nodes ++ [x]) (i := g.nodes.length) (j := (g.nodes ++ [x]).length) (by simp) (Nat.le_refl _)
  rw [vals_app hg x g.nodes.length (Nat.le_refl _)] at e
  rw [valAt, valAt, e, List.getElem?_take_of_lt hj]
theorem rowTs_app {bd : Nd → List Rat} {g : Gr} (hg : grOK g = true) (x : Nd) : rowTs bd (g.nodes ++ [x]) g.nodes.length = rowTs bd g.nodes g.nodes.length := by
  unfold rowTs
  refine List.map_congr_left fun j hj => ?_
  have hj := List.mem_range.1 hj
  rw [tcE, tcE, valAt_app hg x hj, shAt_nat (by rw [List.length_append]; omega), shAt_nat hj, List.getElem_append_left hj]
theorem eAll_two (bs : List Bd) (g : Gr) (hs : ∀ x ∈ g.nodes, x.Sm) (hl : g.nodes.length ≤ 1000) (hbl : bs.length ≤ 1000) (hbs : ∀ b ∈ bs, b.Sm) (hG : grOK g = true → GoodV (bdB bs) g.nodes) :
    (∃ e : Int, ¬ e = 0 ∧ VCall Go.Proofs.Tryz.prog GL 31 [.agg g.cells, .ro 3 (rowBd bs)] (fun y => y = .tup [.ro 2 [], .int .i64 e])) ∨
    (grOK g = true ∧ allOKB bs g.nodes = true ∧ VCall Go.Proofs.Tryz.prog GL 31 [.agg g.cells, .ro 3 (rowBd bs)] (fun y => y = .tup [.ro 2 (rowTs (bdB bs) g.nodes g.nodes.length), .int .i64 0])) := by
  have h := c_eAll bs g hs hl hbl hbs hG
  cases hok : grOK g
  · rw [hok, if_neg (by simp)] at h
    exact .inl ⟨1, by decide, h⟩
  rw [hok, if_pos rfl] at h
  cases ha : allOKB bs g.nodes
  · rw [ha, if_neg (by simp)] at h
    exact .inl ⟨10, by decide, h⟩
  rw [ha, if_pos rfl] at h
  exact .inr ⟨rfl, rfl, h⟩
set_option maxHeartbeats 8000000 in
open Classical in
theorem c_EvalBehind (g : Gr) (x : Nd) (bs : List Bd) (hbb : bs.length * 64 ≤ 140737488351232) (hgb : g.nodes.length * 120 ≤ 140737488351232) : VCall Go.Proofs.Tryz.prog GL 9 [.agg g.cells, .agg x.cells, .ro 3 (rowBd bs)] (fun r => r = .bool true) := by
  have haw := c_awake12
  obtain ⟨l, p⟩ := g
  dsimp only at hgb
  have hsm := c_r10_Small GL ⟨l ++ [x], p⟩
  have hrf := c_refs bs hbb
  have hsb := c_r12_Small bs
  have hlr := rowN_length l
  have hbr := rowBd_length bs
  have hsn : rowN (l ++ [x]) = List.take (rowN l).length (rowN l) ++ [[.str x.op, .int .i64 x.a, .int .i64 x.b, .str x.name, .ro 1 (rowZ x.shape), .str x.k, .int .i64 x.n, .ro 1 (rowS x.data)]] := rowN_snoc l x rfl
  replace hsm : VCall Go.Proofs.Tryz.prog GL 15 [.agg [.ro 8 (rowN (l ++ [x])), .int .i64 p]] (fun y => y = .bool (smallG ⟨l ++ [x], p⟩)) := hsm
  show VCall _ _ _ [.agg [.ro 8 (rowN l), .int .i64 p], .agg [.str x.op, .int .i64 x.a, .int .i64 x.b, .str x.name, .ro 1 (rowZ x.shape), .str x.k, .int .i64 x.n, .ro 1 (rowS x.data)], .ro 3 (rowBd bs)] _
  cases hS : smallG ⟨l ++ [x], p⟩
  · rw [hS] at hsm
    generalize rowN (l ++ [x]) = r at hsm hsn
    rw [own_all2 r rfl] at hsm
    generalize x.op = op at *; generalize x.a = A at *; generalize x.b = B at *; generalize x.name = name at *; generalize x.shape = s at *; generalize x.k = k at *; generalize x.n = n at *; generalize x.data = d at *
    refine vcall_of TOK_EvalBehind HM Go.Proofs.Tryz.func9 rfl (by decide +kernel) (by decide +kernel) rfl ?_
    repeat' first|refine sY ⟨?_⟩|(refine sq ?_ ?_<;>refine fun h=>⟨?_⟩<;>(first|contradiction|(exfalso;omega)|skip))|fail
    refine ⟨by decide +kernel, [0, 0, 2, 7, 0, 16, 63, 0, 128, 511, 0, 2047], by decide +kernel, ?_⟩
    repeat' first|refine sY ⟨?_⟩|(refine sq ?_ ?_<;>refine fun h=>⟨?_⟩<;>(first|contradiction|(exfalso;omega)|skip))|fail
    conv => whnf
    refine ⟨Nat.le_refl _, (show (0 + (rowN l).length) * 120 ≤ 140737488355328 by omega), rowN l, rfl, ?_⟩
    repeat' first|refine sY ⟨?_⟩|(refine sq ?_ ?_<;>refine fun h=>⟨?_⟩<;>(first|contradiction|(exfalso;omega)|skip))|fail
    conv => whnf
    refine ⟨Nat.le_refl _, (show ((rowN l).length + 1) * 120 ≤ 140737488355328 by omega), r, hsn, ?_⟩
    repeat' first|refine sY ⟨?_⟩|(refine sq ?_ ?_<;>refine fun h=>⟨?_⟩<;>(first|contradiction|(exfalso;omega)|skip))|fail
    refine ⟨by decide +kernel, [0, 1, 3, 7, 15, 31, 63, 127, 255, 511, 1023, 1023, 3071, 8191, 16383, 32767], by decide +kernel, ?_⟩
    repeat' first|refine sY ⟨?_⟩|(refine sq ?_ ?_<;>refine fun h=>⟨?_⟩<;>(first|contradiction|(exfalso;omega)|skip))|fail
    all_goals (conv => whnf)
    all_goals rfl
  rw [hS] at hsm
  simp only [smallG, Bool.and_eq_true, decide_eq_true_eq, List.all_eq_true] at hS
  obtain ⟨hl, hs⟩ := hS
  have hs := fun x hx => smallN_sm (hs x hx)
  have hl1 : l.length ≤ 39 := by rw [List.length_append] at hl; simp at hl; omega
  have hs1 : ∀ y ∈ l, y.Sm := fun y hy => hs y (List.mem_append_left _ hy)
  cases hB : smallBs bs
  · rw [hB] at hsb
    generalize rowN (l ++ [x]) = r at hsm hsn
    rw [own_all2 r rfl] at hsm
    generalize x.op = op at *; generalize x.a = A at *; generalize x.b = B at *; generalize x.name = name at *; generalize x.shape = s at *; generalize x.k = k at *; generalize x.n = n at *; generalize x.data = d at *
    refine vcall_of TOK_EvalBehind HM Go.Proofs.Tryz.func9 rfl (by decide +kernel) (by decide +kernel) rfl ?_
    repeat' first|refine sY ⟨?_⟩|(refine sq ?_ ?_<;>refine fun h=>⟨?_⟩<;>(first|contradiction|(exfalso;omega)|skip))|fail
    refine ⟨by decide +kernel, [0, 0, 2, 7, 0, 16, 63, 0, 128, 511, 0, 2047], by decide +kernel, ?_⟩
    repeat' first|refine sY ⟨?_⟩|(refine sq ?_ ?_<;>refine fun h=>⟨?_⟩<;>(first|contradiction|(exfalso;omega)|skip))|fail
    conv => whnf
    refine ⟨Nat.le_refl _, (show (0 + (rowN l).length) * 120 ≤ 140737488355328 by omega), rowN l, rfl, ?_⟩
    repeat' first|refine sY ⟨?_⟩|(refine sq ?_ ?_<;>refine fun h=>⟨?_⟩<;>(first|contradiction|(exfalso;omega)|skip))|fail
    conv => whnf
    refine ⟨Nat.le_refl _, (show ((rowN l).length + 1) * 120 ≤ 140737488355328 by omega), r, hsn, ?_⟩
    repeat' first|refine sY ⟨?_⟩|(refine sq ?_ ?_<;>refine fun h=>⟨?_⟩<;>(first|contradiction|(exfalso;omega)|skip))|fail
    refine ⟨by decide +kernel, [0, 1, 3, 7, 15, 31, 63, 127, 255, 511, 1023, 1023, 3071, 8191, 16383, 32767], by decide +kernel, ?_⟩
    repeat' first|refine sY ⟨?_⟩|(refine sq ?_ ?_<;>refine fun h=>⟨?_⟩<;>(first|contradiction|(exfalso;omega)|skip))|fail
    all_goals (conv => whnf)
    all_goals rfl
  rw [hB] at hsb
  obtain ⟨hbl, hbs⟩ := smallBs_sm hB
  have hcm := c_Calm (l ++ [x]) p bs (by omega) hs (by omega) hbs
  by_cases hC : calmZ (l ++ [x]) bs ≤ 400
  case neg =>
    rw [decide_eq_false hC] at hcm
    generalize rowN (l ++ [x]) = r at hsm hsn hcm
    rw [own_all2 r rfl] at hsm hcm
    generalize x.op = op at *; generalize x.a = A at *; generalize x.b = B at *; generalize x.name = name at *; generalize x.shape = s at *; generalize x.k = k at *; generalize x.n = n at *; generalize x.data = d at *
    refine vcall_of TOK_EvalBehind HM Go.Proofs.Tryz.func9 rfl (by decide +kernel) (by decide +kernel) rfl ?_
    repeat' first|refine sY ⟨?_⟩|(refine sq ?_ ?_<;>refine fun h=>⟨?_⟩<;>(first|contradiction|(exfalso;omega)|skip))|fail
    refine ⟨by decide +kernel, [0, 0, 2, 7, 0, 16, 63, 0, 128, 511, 0, 2047], by decide +kernel, ?_⟩
    repeat' first|refine sY ⟨?_⟩|(refine sq ?_ ?_<;>refine fun h=>⟨?_⟩<;>(first|contradiction|(exfalso;omega)|skip))|fail
    conv => whnf
    refine ⟨Nat.le_refl _, (show (0 + (rowN l).length) * 120 ≤ 140737488355328 by omega), rowN l, rfl, ?_⟩
    repeat' first|refine sY ⟨?_⟩|(refine sq ?_ ?_<;>refine fun h=>⟨?_⟩<;>(first|contradiction|(exfalso;omega)|skip))|fail
    conv => whnf
    refine ⟨Nat.le_refl _, (show ((rowN l).length + 1) * 120 ≤ 140737488355328 by omega), r, hsn, ?_⟩
    repeat' first|refine sY ⟨?_⟩|(refine sq ?_ ?_<;>refine fun h=>⟨?_⟩<;>(first|contradiction|(exfalso;omega)|skip))|fail
    refine ⟨by decide +kernel, [0, 1, 3, 7, 15, 31, 63, 127, 255, 511, 1023, 1023, 3071, 8191, 16383, 32767], by decide +kernel, ?_⟩
    repeat' first|refine sY ⟨?_⟩|(refine sq ?_ ?_<;>refine fun h=>⟨?_⟩<;>(first|contradiction|(exfalso;omega)|skip))|fail
    all_goals (conv => whnf)
    all_goals rfl
  rw [decide_eq_true hC] at hcm
  have hf1 := eAll_two bs ⟨l, p⟩ hs1 (by dsimp only; omega) (by omega) hbs (fun h => calm_good h hs1 bs hbs (calmZ_app hC))
  have hf2 := eAll_two bs ⟨l ++ [x], p⟩ hs (by dsimp only; omega) (by omega) hbs (fun h => calm_good h hs bs hbs hC)
  dsimp only at hf1 hf2
  have hgv := fun h => calm_given (g := ⟨l, p⟩) h hs1 bs hbs (calmZ_app hC)
  have hra := fun h => rowTs_app (bd := bdB bs) (g := ⟨l, p⟩) h x
  have hlen2 : (l ++ [x]).length = l.length + 1 := by simp
  rw [hlen2, rowTs_succ] at hf2
  dsimp only at hra hgv
  rcases hf1 with ⟨e1, he1, hf1⟩ | ⟨hg, hA, hf1⟩
  · rcases hf2 with ⟨e2, he2, hf2⟩ | ⟨_, _, hf2⟩
    · replace hf2 : VCall Go.Proofs.Tryz.prog GL 31 [.agg [.ro 8 (rowN (l ++ [x])), .int .i64 p], .ro 3 (rowBd bs)] (fun y => y = .tup [.ro 2 [], .int .i64 e2]) := hf2
      replace hcm : VCall Go.Proofs.Tryz.prog GL 16 [.agg [.ro 8 (rowN (l ++ [x])), .int .i64 p], .ro 3 (rowBd bs), .int .i64 1] (fun y => y = .bool true) := hcm
      generalize rowN (l ++ [x]) = r at hsm hsn hcm hf2
      rw [own_all2 r rfl] at hsm hcm hf2
      generalize x.op = op at *; generalize x.a = A at *; generalize x.b = B at *; generalize x.name = name at *; generalize x.shape = s at *; generalize x.k = k at *; generalize x.n = n at *; generalize x.data = d at *
      refine vcall_of TOK_EvalBehind HM Go.Proofs.Tryz.func9 rfl (by decide +kernel) (by decide +kernel) rfl ?_
      repeat' first|refine sY ⟨?_⟩|(refine sq ?_ ?_<;>refine fun h=>⟨?_⟩<;>(first|contradiction|(exfalso;omega)|skip))|fail
      refine ⟨by decide +kernel, [0, 0, 2, 7, 0, 16, 63, 0, 128, 511, 0, 2047], by decide +kernel, ?_⟩
      repeat' first|refine sY ⟨?_⟩|(refine sq ?_ ?_<;>refine fun h=>⟨?_⟩<;>(first|contradiction|(exfalso;omega)|skip))|fail
      conv => whnf
      refine ⟨Nat.le_refl _, (show (0 + (rowN l).length) * 120 ≤ 140737488355328 by omega), rowN l, rfl, ?_⟩
      repeat' first|refine sY ⟨?_⟩|(refine sq ?_ ?_<;>refine fun h=>⟨?_⟩<;>(first|contradiction|(exfalso;omega)|skip))|fail
      conv => whnf
      refine ⟨Nat.le_refl _, (show ((rowN l).length + 1) * 120 ≤ 140737488355328 by omega), r, hsn, ?_⟩
      repeat' first|refine sY ⟨?_⟩|(refine sq ?_ ?_<;>refine fun h=>⟨?_⟩<;>(first|contradiction|(exfalso;omega)|skip))|fail
      refine ⟨by decide +kernel, [0, 1, 3, 7, 15, 31, 63, 127, 255, 511, 1023, 1023, 3071, 8191, 16383, 32767], by decide +kernel, ?_⟩
      repeat' first|refine sY ⟨?_⟩|(refine sq ?_ ?_<;>refine fun h=>⟨?_⟩<;>(first|contradiction|(exfalso;omega)|skip))|fail
      all_goals (conv => whnf)
      all_goals rfl
    · replace hf2 : VCall Go.Proofs.Tryz.prog GL 31 [.agg [.ro 8 (rowN (l ++ [x])), .int .i64 p], .ro 3 (rowBd bs)] (fun y => y = .tup [.ro 2 (rowTs (bdB bs) (l ++ [x]) l.length ++ [tcE (bdB bs) (l ++ [x]) l.length]), .int .i64 0]) := hf2
      replace hcm : VCall Go.Proofs.Tryz.prog GL 16 [.agg [.ro 8 (rowN (l ++ [x])), .int .i64 p], .ro 3 (rowBd bs), .int .i64 1] (fun y => y = .bool true) := hcm
      generalize rowN (l ++ [x]) = r at hsm hsn hcm hf2
      rw [own_all2 r rfl] at hsm hcm hf2
      generalize tcE (bdB bs) (l ++ [x]) l.length = tc at hf2
      generalize rowTs (bdB bs) (l ++ [x]) l.length = R at hf2
      generalize x.op = op at *; generalize x.a = A at *; generalize x.b = B at *; generalize x.name = name at *; generalize x.shape = s at *; generalize x.k = k at *; generalize x.n = n at *; generalize x.data = d at *
      cases R
      · refine vcall_of TOK_EvalBehind HM Go.Proofs.Tryz.func9 rfl (by decide +kernel) (by decide +kernel) rfl ?_
        repeat' first|refine sY ⟨?_⟩|(refine sq ?_ ?_<;>refine fun h=>⟨?_⟩<;>(first|contradiction|(exfalso;omega)|skip))|fail
        refine ⟨by decide +kernel, [0, 0, 2, 7, 0, 16, 63, 0, 128, 511, 0, 2047], by decide +kernel, ?_⟩
        repeat' first|refine sY ⟨?_⟩|(refine sq ?_ ?_<;>refine fun h=>⟨?_⟩<;>(first|contradiction|(exfalso;omega)|skip))|fail
        conv => whnf
        refine ⟨Nat.le_refl _, (show (0 + (rowN l).length) * 120 ≤ 140737488355328 by omega), rowN l, rfl, ?_⟩
        repeat' first|refine sY ⟨?_⟩|(refine sq ?_ ?_<;>refine fun h=>⟨?_⟩<;>(first|contradiction|(exfalso;omega)|skip))|fail
        conv => whnf
        refine ⟨Nat.le_refl _, (show ((rowN l).length + 1) * 120 ≤ 140737488355328 by omega), r, hsn, ?_⟩
        repeat' first|refine sY ⟨?_⟩|(refine sq ?_ ?_<;>refine fun h=>⟨?_⟩<;>(first|contradiction|(exfalso;omega)|skip))|fail
        refine ⟨by decide +kernel, [0, 1, 3, 7, 15, 31, 63, 127, 255, 511, 1023, 1023, 3071, 8191, 16383, 32767], by decide +kernel, ?_⟩
        repeat' first|refine sY ⟨?_⟩|(refine sq ?_ ?_<;>refine fun h=>⟨?_⟩<;>(first|contradiction|(exfalso;omega)|skip))|fail
        all_goals (conv => whnf)
        all_goals rfl
      · refine vcall_of TOK_EvalBehind HM Go.Proofs.Tryz.func9 rfl (by decide +kernel) (by decide +kernel) rfl ?_
        repeat' first|refine sY ⟨?_⟩|(refine sq ?_ ?_<;>refine fun h=>⟨?_⟩<;>(first|contradiction|(exfalso;omega)|skip))|fail
        refine ⟨by decide +kernel, [0, 0, 2, 7, 0, 16, 63, 0, 128, 511, 0, 2047], by decide +kernel, ?_⟩
        repeat' first|refine sY ⟨?_⟩|(refine sq ?_ ?_<;>refine fun h=>⟨?_⟩<;>(first|contradiction|(exfalso;omega)|skip))|fail
        conv => whnf
        refine ⟨Nat.le_refl _, (show (0 + (rowN l).length) * 120 ≤ 140737488355328 by omega), rowN l, rfl, ?_⟩
        repeat' first|refine sY ⟨?_⟩|(refine sq ?_ ?_<;>refine fun h=>⟨?_⟩<;>(first|contradiction|(exfalso;omega)|skip))|fail
        conv => whnf
        refine ⟨Nat.le_refl _, (show ((rowN l).length + 1) * 120 ≤ 140737488355328 by omega), r, hsn, ?_⟩
        repeat' first|refine sY ⟨?_⟩|(refine sq ?_ ?_<;>refine fun h=>⟨?_⟩<;>(first|contradiction|(exfalso;omega)|skip))|fail
        refine ⟨by decide +kernel, [0, 1, 3, 7, 15, 31, 63, 127, 255, 511, 1023, 1023, 3071, 8191, 16383, 32767], by decide +kernel, ?_⟩
        repeat' first|refine sY ⟨?_⟩|(refine sq ?_ ?_<;>refine fun h=>⟨?_⟩<;>(first|contradiction|(exfalso;omega)|skip))|fail
        all_goals (conv => whnf)
        all_goals rfl
  rcases hf2 with ⟨e2, he2, hf2⟩ | ⟨_, _, hf2⟩
  · replace hf2 : VCall Go.Proofs.Tryz.prog GL 31 [.agg [.ro 8 (rowN (l ++ [x])), .int .i64 p], .ro 3 (rowBd bs)] (fun y => y = .tup [.ro 2 [], .int .i64 e2]) := hf2
    replace hcm : VCall Go.Proofs.Tryz.prog GL 16 [.agg [.ro 8 (rowN (l ++ [x])), .int .i64 p], .ro 3 (rowBd bs), .int .i64 1] (fun y => y = .bool true) := hcm
    generalize rowN (l ++ [x]) = r at hsm hsn hcm hf2
    rw [own_all2 r rfl] at hsm hcm hf2
    generalize x.op = op at *; generalize x.a = A at *; generalize x.b = B at *; generalize x.name = name at *; generalize x.shape = s at *; generalize x.k = k at *; generalize x.n = n at *; generalize x.data = d at *
    refine vcall_of TOK_EvalBehind HM Go.Proofs.Tryz.func9 rfl (by decide +kernel) (by decide +kernel) rfl ?_
    repeat' first|refine sY ⟨?_⟩|(refine sq ?_ ?_<;>refine fun h=>⟨?_⟩<;>(first|contradiction|(exfalso;omega)|skip))|fail
    refine ⟨by decide +kernel, [0, 0, 2, 7, 0, 16, 63, 0, 128, 511, 0, 2047], by decide +kernel, ?_⟩
    repeat' first|refine sY ⟨?_⟩|(refine sq ?_ ?_<;>refine fun h=>⟨?_⟩<;>(first|contradiction|(exfalso;omega)|skip))|fail
    conv => whnf
    refine ⟨Nat.le_refl _, (show (0 + (rowN l).length) * 120 ≤ 140737488355328 by omega), rowN l, rfl, ?_⟩
    repeat' first|refine sY ⟨?_⟩|(refine sq ?_ ?_<;>refine fun h=>⟨?_⟩<;>(first|contradiction|(exfalso;omega)|skip))|fail
    conv => whnf
    refine ⟨Nat.le_refl _, (show ((rowN l).length + 1) * 120 ≤ 140737488355328 by omega), r, hsn, ?_⟩
    repeat' first|refine sY ⟨?_⟩|(refine sq ?_ ?_<;>refine fun h=>⟨?_⟩<;>(first|contradiction|(exfalso;omega)|skip))|fail
    refine ⟨by decide +kernel, [0, 1, 3, 7, 15, 31, 63, 127, 255, 511, 1023, 1023, 3071, 8191, 16383, 32767], by decide +kernel, ?_⟩
    repeat' first|refine sY ⟨?_⟩|(refine sq ?_ ?_<;>refine fun h=>⟨?_⟩<;>(first|contradiction|(exfalso;omega)|skip))|fail
    all_goals (conv => whnf)
    all_goals rfl
  replace hf2 : VCall Go.Proofs.Tryz.prog GL 31 [.agg [.ro 8 (rowN (l ++ [x])), .int .i64 p], .ro 3 (rowBd bs)] (fun y => y = .tup [.ro 2 (rowTs (bdB bs) (l ++ [x]) l.length ++ [tcE (bdB bs) (l ++ [x]) l.length]), .int .i64 0]) := hf2
  replace hcm : VCall Go.Proofs.Tryz.prog GL 16 [.agg [.ro 8 (rowN (l ++ [x])), .int .i64 p], .ro 3 (rowBd bs), .int .i64 1] (fun y => y = .bool true) := hcm
  generalize rowN (l ++ [x]) = r at hsm hsn hcm hf2
  rw [own_all2 r rfl] at hsm hcm hf2
  have hra := hra hg
  rw [hra] at hf2
  have hgv := hgv hg
  have hsv := fun {i : Nat} {y : Nd} => @hi_small (bdB bs) l _ hgv i y
  have hgt := fun {j : Nat} (h : j < l.length) => rowTs_get (bd := bdB bs) (l := l) h
  have htl := rowTs_len (bdB bs) l l.length
  have h1 := (ok_pre hg).1
  dsimp only at h1
  generalize tcE (bdB bs) (l ++ [x]) l.length = tc at hf2
  generalize bdB bs = bd at hf1 hf2 hsv hgt htl
  generalize x.op = op at *; generalize x.a = A at *; generalize x.b = B at *; generalize x.name = name at *; generalize x.shape = s at *; generalize x.k = k at *; generalize x.n = n at *; generalize x.data = d at *
  have hR : ∃ c cs, rowTs bd l l.length ++ [tc] = c :: cs ∧ (c :: cs).length = l.length + 1 ∧ ∀ j, j < l.length → (c :: cs)[j]? = some (tcE bd l j) := by
    cases hc : rowTs bd l l.length with
    | nil => rw [hc] at htl; simp at htl; omega
    | cons c cs =>
      refine ⟨c, cs ++ [tc], rfl, ?_, fun j hj => ?_⟩
      · rw [← List.cons_append, List.length_append, ← hc, htl]; rfl
      · rw [← List.cons_append, ← hc, List.getElem?_append_left (by rw [htl]; exact hj)]; exact hgt hj
  obtain ⟨c, cs, hR, hcl, hcg⟩ := hR
  rw [hR] at hf2
  clear hR
  refine vcall_of TOK_EvalBehind HM Go.Proofs.Tryz.func9 rfl (by decide +kernel) (by decide +kernel) rfl ?_
  repeat' first|refine sY ⟨?_⟩|(refine sq ?_ ?_<;>refine fun h=>⟨?_⟩<;>(first|contradiction|(exfalso;omega)|skip))|fail
  refine ⟨by decide +kernel, [0, 0, 2, 7, 0, 16, 63, 0, 128, 511, 0, 2047], by decide +kernel, ?_⟩
  repeat' first|refine sY ⟨?_⟩|(refine sq ?_ ?_<;>refine fun h=>⟨?_⟩<;>(first|contradiction|(exfalso;omega)|skip))|fail
  conv => whnf
  refine ⟨Nat.le_refl _, (show (0 + (rowN l).length) * 120 ≤ 140737488355328 by omega), rowN l, rfl, ?_⟩
  repeat' first|refine sY ⟨?_⟩|(refine sq ?_ ?_<;>refine fun h=>⟨?_⟩<;>(first|contradiction|(exfalso;omega)|skip))|fail
  conv => whnf
  refine ⟨Nat.le_refl _, (show ((rowN l).length + 1) * 120 ≤ 140737488355328 by omega), r, hsn, ?_⟩
  repeat' first|refine sY ⟨?_⟩|(refine sq ?_ ?_<;>refine fun h=>⟨?_⟩<;>(first|contradiction|(exfalso;omega)|skip))|fail
  refine ⟨by decide +kernel, [0, 1, 3, 7, 15, 31, 63, 127, 255, 511, 1023, 1023, 3071, 8191, 16383, 32767], by decide +kernel, ?_⟩
  repeat' first|refine sY ⟨?_⟩|(refine sq ?_ ?_<;>refine fun h=>⟨?_⟩<;>(first|contradiction|(exfalso;omega)|skip))|fail
  refine ⟨[8, 10, 66, 67], [], fun m st => ∃ i : Nat, i ≤ l.length ∧ m = l.length - i ∧
    st = ⟨[(8, .ro 2 (rowTs bd l l.length)), (10, .ro 2 (c :: cs)), (66, .int .i64 ((rowTs bd l l.length).length : Nat)), (67, .int .i64 (i : Nat))], []⟩, rfl, ⟨l.length, 0, by omega, rfl, rfl⟩, ?_⟩
  rintro m _ ⟨i, hi, hm, rfl⟩
  rcases Nat.lt_or_ge i l.length with hil | hge
  · have hx : l[i]? = some l[i] := List.getElem?_eq_getElem hil
    obtain ⟨hvt, _⟩ := hsv hx
    have hE := c_r05_Equal l[i].shape l[i].shape ((valAt bd l i).map ratB) ((valAt bd l i).map ratB) (by have := hvt.sl; omega) (by have := hvt.sl; omega) (by rw [List.length_map]; have := hvt.vl; omega)
    rw [decide_eq_true rfl, decide_eq_true rfl, Bool.and_true] at hE
    have ga : (rowTs bd l l.length)[i]? = some [.ro 1 (rowZ l[i].shape), .ro 1 (rowR (valAt bd l i))] := by rw [hgt hil, tcE, shAt_nat hil]
    have gb : (c :: cs)[i]? = some [.ro 1 (rowZ l[i].shape), .ro 1 (rowR (valAt bd l i))] := by rw [hcg i hil, tcE, shAt_nat hil]
    clear hvt hx
    generalize valAt bd l i = V at hE ga gb
    generalize l[i].shape = sh at hE ga gb
    unfold tenA at hE
    unfold rowR at ga gb
    repeat' first|refine sY ⟨?_⟩|(refine sq ?_ ?_<;>refine fun h=>⟨?_⟩<;>(first|contradiction|(exfalso;omega)|skip))|fail
    refine ⟨by decide +kernel, [0, 0, 3, 7, 0, 0, 48, 112, 255, 511], by decide +kernel, ?_⟩
    repeat' first|refine sY ⟨?_⟩|(refine sq ?_ ?_<;>refine fun h=>⟨?_⟩<;>(first|contradiction|(exfalso;omega)|skip))|fail
    all_goals exact ⟨[], l.length - (i + 1), rfl, by omega, i + 1, by omega, rfl, rfl⟩
  · repeat' first|refine sY ⟨?_⟩|(refine sq ?_ ?_<;>refine fun h=>⟨?_⟩<;>(first|contradiction|(exfalso;omega)|skip))|fail
    all_goals (conv => whnf)
    all_goals rfl
end Go.V
