/-
  Lemmas (part 16) for: EvalNode, EvalSums, EvalBehind and EvalOrder hold for all arguments; no condition.
-/
import Derived.Test.YtndiceggidmgkaaGreatDoorEval3
set_option linter.all false
namespace Go.V
open Go.N
set_option maxRecDepth 20000
def T_EvalOrder : Tab := [(24, i24), (40, i40), (4, i4), (47, i47), (62, i62), (49, i49), (65, i65), (3, i3), (22, i22), (36, i36), (9, i9), (28, i28), (51, i51)]
theorem TOK_EvalOrder : TOK Go.Proofs.Tryz.prog T_EvalOrder := ⟨K24, ⟨K40, ⟨K4, ⟨K47, ⟨K62, ⟨K49, ⟨K65, ⟨K3, ⟨K22, ⟨K36, ⟨K9, ⟨K28, ⟨K51, trivial⟩⟩⟩⟩⟩⟩⟩⟩⟩⟩⟩⟩⟩
def lonelyB : ByteArray := ⟨#[108, 111, 110, 101, 108, 121]⟩
def moreB (bs : List Bd) (b0 : Bd) (s : List Int) (d : List ByteArray) : List Bd := ⟨lonelyB, s, d⟩ :: ((b0 :: bs) ++ [⟨b0.name, s, d⟩])
theorem find_more (bs : List Bd) (b0 : Bd) (s : List Int) (d : List ByteArray) {n : ByteArray} (hn : n ≠ lonelyB) : (moreB bs b0 s d).find? (fun b => decide (b.name = n)) = (b0 :: bs).find? (fun b => decide (b.name = n)) := by
  have h1 : (moreB bs b0 s d).find? (fun b => decide (b.name = n)) = ((b0 :: bs) ++ [(⟨b0.name, s, d⟩ : Bd)]).find? (fun b => decide (b.name = n)) := by
    rw [moreB, List.find?_cons_of_neg]
    have : ¬ lonelyB = n := fun e => hn e.symm
    simpa using this
  rw [h1, List.find?_append]
  cases hf : (b0 :: bs).find? (fun b => decide (b.name = n)) with
  | some b => rfl
  | none =>
    have := List.find?_eq_none.1 hf b0 List.mem_cons_self
    rw [Option.none_or, List.find?_cons_of_neg (by simpa using this)]; rfl
theorem bnd_more (bs : List Bd) (b0 : Bd) (s : List Int) (d : List ByteArray) {x : Nd} (hn : x.name ≠ lonelyB) : bndOK (moreB bs b0 s d) x = bndOK (b0 :: bs) x ∧ bdB (moreB bs b0 s d) x = bdB (b0 :: bs) x := by
  constructor
  · rw [bndOK, bndOK, find_more bs b0 s d hn]
  · rw [bdB, bdB, find_more bs b0 s d hn]
theorem vals_more {bs : List Bd} {b0 : Bd} {s : List Int} {d : List ByteArray} {l : List Nd} (hl : ∀ x ∈ l, x.name ≠ lonelyB) : ∀ i, i ≤ l.length → vals (bdB (moreB bs b0 s d)) l i = vals (bdB (b0 :: bs)) l i
  | 0, _ => rfl
  | i + 1, h => by
    have hx : l[i]? = some l[i] := List.getElem?_eq_getElem (by omega)
    rw [vals_step hx, vals_step hx, vals_more hl i (by omega)]
    have e : valN (bdB (moreB bs b0 s d)) l (vals (bdB (b0 :: bs)) l i) l[i] = valN (bdB (b0 :: bs)) l (vals (bdB (b0 :: bs)) l i) l[i] := by
      unfold valN
      split
      · exact (bnd_more bs b0 s d (hl _ (List.getElem_mem _))).2
      · rfl
    rw [e]
theorem valAt_more {bs : List Bd} {b0 : Bd} {s : List Int} {d : List ByteArray} {l : List Nd} (hl : ∀ x ∈ l, x.name ≠ lonelyB) (j : Nat) : valAt (bdB (moreB bs b0 s d)) l j = valAt (bdB (b0 :: bs)) l j := by
  rw [valAt, valAt, vals_more hl _ (Nat.le_refl _)]
theorem rowTs_more {bs : List Bd} {b0 : Bd} {s : List Int} {d : List ByteArray} {l : List Nd} (hl : ∀ x ∈ l, x.name ≠ lonelyB) (n : Nat) : rowTs (bdB (moreB bs b0 s d)) l n = rowTs (bdB (b0 :: bs)) l n := by
  unfold rowTs
  refine List.map_congr_left fun j _ => ?_
  rw [tcE, tcE, valAt_more hl]
theorem good_more {bs : List Bd} {b0 : Bd} {s : List Int} {d : List ByteArray} {l : List Nd} (hl : ∀ x ∈ l, x.name ≠ lonelyB) (G : GoodV (bdB (b0 :: bs)) l) : GoodV (bdB (moreB bs b0 s d)) l := fun j x o hx ho hn sa a sb b ha hb => by
  rw [valAt_more hl]
  exact G j x o hx ho hn sa a sb b (fun h => by rw [← valAt_more (s := s) (d := d) hl]; exact ha h) (fun h => by rw [← valAt_more (s := s) (d := d) hl]; exact hb h)
theorem all_more {bs : List Bd} {b0 : Bd} {s : List Int} {d : List ByteArray} {l : List Nd} (hl : ∀ x ∈ l, x.name ≠ lonelyB) : allOKB (moreB bs b0 s d) l = allOKB (b0 :: bs) l := by
  rw [allOKB, allOKB, Bool.eq_iff_iff, List.all_eq_true, List.all_eq_true]
  exact ⟨fun h x hx => by have := h x hx; rwa [(bnd_more bs b0 s d (hl x hx)).1] at this, fun h x hx => by rw [(bnd_more bs b0 s d (hl x hx)).1]; exact h x hx⟩
set_option maxHeartbeats 8000000 in
open Classical in
theorem c_EvalOrder (g : Gr) (bs : List Bd) (s : List Int) (d : List ByteArray) (hbb : bs.length * 64 ≤ 140737488351232) : VCall Go.Proofs.Tryz.prog GL 11 [.agg g.cells, .ro 3 (rowBd bs), .agg [.ro 1 (rowZ s), .ro 1 (rowS d)]] (fun r => r = .bool true) := by
  have haw := c_awake12
  obtain ⟨l, p⟩ := g
  show VCall _ _ _ [.agg [.ro 8 (rowN l), .int .i64 p], .ro 3 (rowBd bs), _] _
  have hsm := c_r10_Small GL ⟨l, p⟩
  have hrf := c_refs bs hbb
  have hsb := c_r12_Small bs
  have hst := c_r05_Small s d
  unfold tenA at hst
  have hlr := rowN_length l
  have hbr := rowBd_length bs
  cases hS : smallG ⟨l, p⟩
  · rw [hS] at hsm
    refine vcall_of TOK_EvalOrder HM Go.Proofs.Tryz.func11 rfl (by decide +kernel) (by decide +kernel) rfl ?_
    repeat' first|refine sY ⟨?_⟩|(refine sq ?_ ?_<;>refine fun h=>⟨?_⟩<;>(first|contradiction|(exfalso;omega)|skip))|fail
    refine ⟨by decide +kernel, [0, 1, 3, 7, 15, 31, 63, 127, 255, 511, 1023, 1023, 3071, 8191, 16383, 32767, 65535, 131071, 262143, 524287, 1048575, 2097151, 4194303, 8388607, 16777215, 33554431, 67108863, 134217727, 268435455, 536870911, 1073741823], by decide +kernel, ?_⟩
    repeat' first|refine sY ⟨?_⟩|(refine sq ?_ ?_<;>refine fun h=>⟨?_⟩<;>(first|contradiction|(exfalso;omega)|skip))|fail
    all_goals (conv => whnf)
    all_goals rfl
  rw [hS] at hsm
  simp only [smallG, Bool.and_eq_true, decide_eq_true_eq, List.all_eq_true] at hS
  obtain ⟨hl, hs⟩ := hS
  have hs := fun x hx => smallN_sm (hs x hx)
  cases hB : smallBs bs
  · rw [hB] at hsb
    refine vcall_of TOK_EvalOrder HM Go.Proofs.Tryz.func11 rfl (by decide +kernel) (by decide +kernel) rfl ?_
    repeat' first|refine sY ⟨?_⟩|(refine sq ?_ ?_<;>refine fun h=>⟨?_⟩<;>(first|contradiction|(exfalso;omega)|skip))|fail
    refine ⟨by decide +kernel, [0, 1, 3, 7, 15, 31, 63, 127, 255, 511, 1023, 1023, 3071, 8191, 16383, 32767, 65535, 131071, 262143, 524287, 1048575, 2097151, 4194303, 8388607, 16777215, 33554431, 67108863, 134217727, 268435455, 536870911, 1073741823], by decide +kernel, ?_⟩
    repeat' first|refine sY ⟨?_⟩|(refine sq ?_ ?_<;>refine fun h=>⟨?_⟩<;>(first|contradiction|(exfalso;omega)|skip))|fail
    all_goals (conv => whnf)
    all_goals rfl
  rw [hB] at hsb
  obtain ⟨hbl, hbs⟩ := smallBs_sm hB
  have hcm := c_Calm l p bs (by omega) hs (by omega) hbs
  by_cases hC : calmZ l bs ≤ 400
  case neg =>
    rw [decide_eq_false hC] at hcm
    refine vcall_of TOK_EvalOrder HM Go.Proofs.Tryz.func11 rfl (by decide +kernel) (by decide +kernel) rfl ?_
    repeat' first|refine sY ⟨?_⟩|(refine sq ?_ ?_<;>refine fun h=>⟨?_⟩<;>(first|contradiction|(exfalso;omega)|skip))|fail
    refine ⟨by decide +kernel, [0, 1, 3, 7, 15, 31, 63, 127, 255, 511, 1023, 1023, 3071, 8191, 16383, 32767, 65535, 131071, 262143, 524287, 1048575, 2097151, 4194303, 8388607, 16777215, 33554431, 67108863, 134217727, 268435455, 536870911, 1073741823], by decide +kernel, ?_⟩
    repeat' first|refine sY ⟨?_⟩|(refine sq ?_ ?_<;>refine fun h=>⟨?_⟩<;>(first|contradiction|(exfalso;omega)|skip))|fail
    all_goals (conv => whnf)
    all_goals rfl
  rw [decide_eq_true hC] at hcm
  by_cases h10 : bs.length ≤ 10
  case neg =>
    refine vcall_of TOK_EvalOrder HM Go.Proofs.Tryz.func11 rfl (by decide +kernel) (by decide +kernel) rfl ?_
    repeat' first|refine sY ⟨?_⟩|(refine sq ?_ ?_<;>refine fun h=>⟨?_⟩<;>(first|contradiction|(exfalso;omega)|skip))|fail
    refine ⟨by decide +kernel, [0, 1, 3, 7, 15, 31, 63, 127, 255, 511, 1023, 1023, 3071, 8191, 16383, 32767, 65535, 131071, 262143, 524287, 1048575, 2097151, 4194303, 8388607, 16777215, 33554431, 67108863, 134217727, 268435455, 536870911, 1073741823], by decide +kernel, ?_⟩
    repeat' first|refine sY ⟨?_⟩|(refine sq ?_ ?_<;>refine fun h=>⟨?_⟩<;>(first|contradiction|(exfalso;omega)|skip))|fail
    all_goals (conv => whnf)
    all_goals rfl
  cases hT : smallT s d
  · rw [hT] at hst
    refine vcall_of TOK_EvalOrder HM Go.Proofs.Tryz.func11 rfl (by decide +kernel) (by decide +kernel) rfl ?_
    repeat' first|refine sY ⟨?_⟩|(refine sq ?_ ?_<;>refine fun h=>⟨?_⟩<;>(first|contradiction|(exfalso;omega)|skip))|fail
    refine ⟨by decide +kernel, [0, 1, 3, 7, 15, 31, 63, 127, 255, 511, 1023, 1023, 3071, 8191, 16383, 32767, 65535, 131071, 262143, 524287, 1048575, 2097151, 4194303, 8388607, 16777215, 33554431, 67108863, 134217727, 268435455, 536870911, 1073741823], by decide +kernel, ?_⟩
    repeat' first|refine sY ⟨?_⟩|(refine sq ?_ ?_<;>refine fun h=>⟨?_⟩<;>(first|contradiction|(exfalso;omega)|skip))|fail
    all_goals (conv => whnf)
    all_goals rfl
  rw [hT] at hst
  rcases bs with _ | ⟨b0, bs⟩
  · refine vcall_of TOK_EvalOrder HM Go.Proofs.Tryz.func11 rfl (by decide +kernel) (by decide +kernel) rfl ?_
    repeat' first|refine sY ⟨?_⟩|(refine sq ?_ ?_<;>refine fun h=>⟨?_⟩<;>(first|contradiction|(exfalso;omega)|skip))|fail
    refine ⟨by decide +kernel, [0, 1, 3, 7, 15, 31, 63, 127, 255, 511, 1023, 1023, 3071, 8191, 16383, 32767, 65535, 131071, 262143, 524287, 1048575, 2097151, 4194303, 8388607, 16777215, 33554431, 67108863, 134217727, 268435455, 536870911, 1073741823], by decide +kernel, ?_⟩
    repeat' first|refine sY ⟨?_⟩|(refine sq ?_ ?_<;>refine fun h=>⟨?_⟩<;>(first|contradiction|(exfalso;omega)|skip))|fail
    all_goals (conv => whnf)
    all_goals rfl
  have htsm : (⟨lonelyB, s, d⟩ : Bd).Sm ∧ ∀ n : ByteArray, n.size ≤ 1000 → (⟨n, s, d⟩ : Bd).Sm := by
    simp only [smallT, Bool.and_eq_true, decide_eq_true_eq, List.all_eq_true] at hT
    have hk : ∀ n : ByteArray, n.size ≤ 1000 → (⟨n, s, d⟩ : Bd).Sm := fun n hn => ⟨hn, (show s.length ≤ 1000 by omega), (show d.length ≤ 1000 by omega), fun z hz => by have := hT.2.2 z hz; omega⟩
    exact ⟨hk _ (by decide), hk⟩
  have hmsm : ∀ b ∈ moreB bs b0 s d, b.Sm := fun b hb => by
    simp only [moreB, List.mem_cons, List.mem_append, List.mem_singleton, List.not_mem_nil, or_false] at hb
    rcases hb with rfl | (rfl | hb) | rfl
    · exact htsm.1
    · exact hbs _ List.mem_cons_self
    · exact hbs _ (List.mem_cons_of_mem _ hb)
    · exact htsm.2 _ (hbs b0 List.mem_cons_self).name
  have hsn2 : rowBd ((b0 :: bs) ++ [⟨b0.name, s, d⟩]) = List.take (rowBd (b0 :: bs)).length (rowBd (b0 :: bs)) ++ [[.str b0.name, .ro 1 (rowZ s), .ro 1 (rowS d)]] := by
    rw [List.take_length]; unfold rowBd; rw [List.map_append]; rfl
  have hb9 : bs.length ≤ 9 := by simpa using h10
  have hln2 : (rowBd ((b0 :: bs) ++ [⟨b0.name, s, d⟩])).length = bs.length + 2 := by rw [rowBd_length]; simp
  have hsn3 : rowBd (moreB bs b0 s d) = List.take 1 [[.str lonelyB, .ro 1 (rowZ s), .ro 1 (rowS d)]] ++ List.take (rowBd ((b0 :: bs) ++ [⟨b0.name, s, d⟩])).length (List.drop 0 (rowBd ((b0 :: bs) ++ [⟨b0.name, s, d⟩]))) := by
    rw [List.drop_zero, List.take_length]; rfl
  have hml : (moreB bs b0 s d).length ≤ 1000 := by simp [moreB] at h10 ⊢; omega
  have hf1 := c_eAll (b0 :: bs) ⟨l, p⟩ hs (by dsimp only; omega) (by omega) hbs (fun h => calm_good h hs (b0 :: bs) hbs hC)
  have hf2 : (∀ x ∈ l, x.name ≠ lonelyB) → VCall Go.Proofs.Tryz.prog GL 31 [.agg [.ro 8 (rowN l), .int .i64 p], .ro 3 (rowBd (moreB bs b0 s d))]
      (fun y => y = if grOK ⟨l, p⟩ = true then (if allOKB (b0 :: bs) l = true then .tup [.ro 2 (rowTs (bdB (b0 :: bs)) l l.length), .int .i64 0] else .tup [.ro 2 [], .int .i64 10]) else .tup [.ro 2 [], .int .i64 1]) := fun h => by
    have := c_eAll (moreB bs b0 s d) ⟨l, p⟩ hs (by dsimp only; omega) hml hmsm (fun hg => good_more h (calm_good hg hs (b0 :: bs) hbs hC))
    dsimp only at this
    rw [all_more h, rowTs_more h] at this
    exact this
  have hgv := fun h => calm_given (g := ⟨l, p⟩) h hs (b0 :: bs) hbs hC
  dsimp only at hgv hf1
  obtain ⟨R, e, hf1, hf2, hR⟩ : ∃ (R : List (List AV)) (e : Int), VCall Go.Proofs.Tryz.prog GL 31 [.agg [.ro 8 (rowN l), .int .i64 p], .ro 3 (rowBd (b0 :: bs))] (fun y => y = .tup [.ro 2 R, .int .i64 e]) ∧
      ((∀ x ∈ l, x.name ≠ lonelyB) → VCall Go.Proofs.Tryz.prog GL 31 [.agg [.ro 8 (rowN l), .int .i64 p], .ro 3 (rowBd (moreB bs b0 s d))] (fun y => y = .tup [.ro 2 R, .int .i64 e])) ∧
      R.length ≤ 1000 ∧ ∀ j, j < R.length → ∃ sh V, R[j]? = some [.ro 1 (rowZ sh), .ro 1 (rowR V)] ∧ VT sh V := by
    cases hg : grOK ⟨l, p⟩
    · rw [hg, if_neg (by simp)] at hf1
      simp only [hg, Bool.false_eq_true, if_false] at hf2
      exact ⟨[], 1, hf1, hf2, by decide, fun j h => absurd h (by simp)⟩
    · rw [hg, if_pos rfl] at hf1
      simp only [hg, if_true] at hf2
      cases ha : allOKB (b0 :: bs) l
      · rw [ha, if_neg (by simp)] at hf1
        simp only [ha, Bool.false_eq_true, if_false] at hf2
        exact ⟨[], 10, hf1, hf2, by decide, fun j h => absurd h (by simp)⟩
      · rw [ha, if_pos rfl] at hf1
        simp only [ha, if_true] at hf2
        refine ⟨_, 0, hf1, hf2, by rw [rowTs_len]; omega, fun j h => ?_⟩
        rw [rowTs_len] at h
        exact ⟨_, _, rowTs_get h, by rw [shAt_nat h]; exact (hi_small (hgv hg) (List.getElem?_eq_getElem h)).1⟩
  obtain ⟨hRl, hR⟩ := hR
  cases R
  · refine vcall_of TOK_EvalOrder HM Go.Proofs.Tryz.func11 rfl (by decide +kernel) (by decide +kernel) rfl ?_
    repeat' first|refine sY ⟨?_⟩|(refine sq ?_ ?_<;>refine fun h=>⟨?_⟩<;>(first|contradiction|(exfalso;omega)|skip))|fail
    refine ⟨by decide +kernel, [0, 1, 3, 7, 15, 31, 63, 127, 255, 511, 1023, 1023, 3071, 8191, 16383, 32767, 65535, 131071, 262143, 524287, 1048575, 2097151, 4194303, 8388607, 16777215, 33554431, 67108863, 134217727, 268435455, 536870911, 1073741823], by decide +kernel, ?_⟩
    repeat' first|refine sY ⟨?_⟩|(refine sq ?_ ?_<;>refine fun h=>⟨?_⟩<;>(first|contradiction|(exfalso;omega)|skip))|fail
    refine ⟨[1, 3, 5, 48, 49, 50], [0, 1], fun m st => ∃ i : Nat, i ≤ l.length ∧ m = l.length - i ∧ (∀ j (h : j < l.length), j < i → l[j].name ≠ lonelyB) ∧
      st = ⟨[(1, .ro 3 (rowBd (b0 :: bs))), (3, .bptr 0 0), (5, .bptr 1 0), (48, .ro 8 (rowN l)), (49, .int .i64 ((rowN l).length : Nat)), (50, .int .i64 (i : Nat))], [.box 24 [.ro 8 (rowN l), .int .i64 p], .box 40 [.ro 1 (rowZ s), .ro 1 (rowS d)]]⟩, rfl, ⟨l.length, 0, by omega, rfl, fun j h h0 => absurd h0 (Nat.not_lt_zero _), rfl⟩, ?_⟩
    rintro m _ ⟨i, hi, hm, hnl, rfl⟩
    rcases Nat.lt_or_ge i l.length with hil | hge
    · have g1 := rowN_get hil
      by_cases hn : l[i].name = lonelyB
      · generalize l[i] = x at g1 hn
        obtain ⟨op, A, B, name, sx, k, n, dx⟩ := x
        dsimp only at hn
        subst hn
        repeat' first|refine sY ⟨?_⟩|(refine sq ?_ ?_<;>refine fun h=>⟨?_⟩<;>(first|contradiction|(exfalso;omega)|skip))|fail
        all_goals (conv => whnf)
        all_goals rfl
      · have hnx : ∀ j (h : j < l.length), j < i + 1 → l[j].name ≠ lonelyB := fun j h hj => (Nat.lt_succ_iff_lt_or_eq.1 hj).elim (hnl j h) (fun e => by subst e; exact hn)
        generalize l[i] = x at g1 hn
        obtain ⟨op, A, B, name, sx, k, n, dx⟩ := x
        dsimp only at hn
        unfold lonelyB at hn
        repeat' first|refine sY ⟨?_⟩|(refine sq ?_ ?_<;>refine fun h=>⟨?_⟩<;>(first|contradiction|(exfalso;omega)|skip))|fail
        all_goals exact ⟨[0, 1], l.length - (i + 1), rfl, by omega, i + 1, by omega, rfl, hnx, rfl⟩
    · have hf2 := hf2 fun x hx => by
        obtain ⟨j, hj, rfl⟩ := List.getElem_of_mem hx
        exact hnl j hj (by omega)
      have hml2 := rowBd_length (moreB bs b0 s d)
      generalize rowBd (moreB bs b0 s d) = r at hf2 hsn3 hml2
      rw [own_all2 r rfl] at hf2
      repeat' first|refine sY ⟨?_⟩|(refine sq ?_ ?_<;>refine fun h=>⟨?_⟩<;>(first|contradiction|(exfalso;omega)|skip))|fail
      refine ⟨by decide +kernel, [0, 1, 3, 0, 0, 24, 0, 64, 192, 448, 0, 1984, 4032, 8184, 16383, 32767], by decide +kernel, ?_⟩
      repeat' first|refine sY ⟨?_⟩|(refine sq ?_ ?_<;>refine fun h=>⟨?_⟩<;>(first|contradiction|(exfalso;omega)|skip))|fail
      conv => whnf
      refine ⟨Nat.le_refl _, (show (0 + (rowBd (b0 :: bs)).length) * 64 ≤ 140737488355328 by omega), rowBd (b0 :: bs), rfl, ?_⟩
      repeat' first|refine sY ⟨?_⟩|(refine sq ?_ ?_<;>refine fun h=>⟨?_⟩<;>(first|contradiction|(exfalso;omega)|skip))|fail
      conv => whnf
      refine ⟨Nat.le_refl _, (show ((rowBd (b0 :: bs)).length + 1) * 64 ≤ 140737488355328 by omega), rowBd ((b0 :: bs) ++ [⟨b0.name, s, d⟩]), hsn2, ?_⟩
      repeat' first|refine sY ⟨?_⟩|(refine sq ?_ ?_<;>refine fun h=>⟨?_⟩<;>(first|contradiction|(exfalso;omega)|skip))|fail
      conv => whnf
      refine ⟨Nat.le_refl _, (show (1 + (List.take (rowBd ((b0 :: bs) ++ [⟨b0.name, s, d⟩])).length (List.drop 0 (rowBd ((b0 :: bs) ++ [⟨b0.name, s, d⟩])))).length) * 64 ≤ 140737488355328 by rw [List.drop_zero, List.take_length, hln2]; omega), r, hsn3, ?_⟩
      repeat' first|refine sY ⟨?_⟩|(refine sq ?_ ?_<;>refine fun h=>⟨?_⟩<;>(first|contradiction|(exfalso;omega)|skip))|fail
      refine ⟨[10, 12, 97, 98], [], fun m st => ∃ i : Nat, i ≤ (([] : List (List AV))).length ∧ m = (([] : List (List AV))).length - i ∧
        st = ⟨[(10, .ro 2 ([] : List (List AV))), (12, .ro 2 ([] : List (List AV))), (97, .int .i64 ((([] : List (List AV))).length : Nat)), (98, .int .i64 (i : Nat))], []⟩, rfl, ⟨_, 0, by omega, rfl, rfl⟩, ?_⟩
      rintro m2 _ ⟨i2, hi2, hm2, rfl⟩
      rcases Nat.lt_or_ge i2 (([] : List (List AV))).length with h2 | h2
      · exact absurd h2 (Nat.not_lt_zero _)
      · repeat' first|refine sY ⟨?_⟩|(refine sq ?_ ?_<;>refine fun h=>⟨?_⟩<;>(first|contradiction|(exfalso;omega)|skip))|fail
        all_goals (conv => whnf)
        all_goals rfl
  · rename_i rc rcs
    refine vcall_of TOK_EvalOrder HM Go.Proofs.Tryz.func11 rfl (by decide +kernel) (by decide +kernel) rfl ?_
    repeat' first|refine sY ⟨?_⟩|(refine sq ?_ ?_<;>refine fun h=>⟨?_⟩<;>(first|contradiction|(exfalso;omega)|skip))|fail
    refine ⟨by decide +kernel, [0, 1, 3, 7, 15, 31, 63, 127, 255, 511, 1023, 1023, 3071, 8191, 16383, 32767, 65535, 131071, 262143, 524287, 1048575, 2097151, 4194303, 8388607, 16777215, 33554431, 67108863, 134217727, 268435455, 536870911, 1073741823], by decide +kernel, ?_⟩
    repeat' first|refine sY ⟨?_⟩|(refine sq ?_ ?_<;>refine fun h=>⟨?_⟩<;>(first|contradiction|(exfalso;omega)|skip))|fail
    refine ⟨[1, 3, 5, 48, 49, 50], [0, 1], fun m st => ∃ i : Nat, i ≤ l.length ∧ m = l.length - i ∧ (∀ j (h : j < l.length), j < i → l[j].name ≠ lonelyB) ∧
      st = ⟨[(1, .ro 3 (rowBd (b0 :: bs))), (3, .bptr 0 0), (5, .bptr 1 0), (48, .ro 8 (rowN l)), (49, .int .i64 ((rowN l).length : Nat)), (50, .int .i64 (i : Nat))], [.box 24 [.ro 8 (rowN l), .int .i64 p], .box 40 [.ro 1 (rowZ s), .ro 1 (rowS d)]]⟩, rfl, ⟨l.length, 0, by omega, rfl, fun j h h0 => absurd h0 (Nat.not_lt_zero _), rfl⟩, ?_⟩
    rintro m _ ⟨i, hi, hm, hnl, rfl⟩
    rcases Nat.lt_or_ge i l.length with hil | hge
    · have g1 := rowN_get hil
      by_cases hn : l[i].name = lonelyB
      · generalize l[i] = x at g1 hn
        obtain ⟨op, A, B, name, sx, k, n, dx⟩ := x
        dsimp only at hn
        subst hn
        repeat' first|refine sY ⟨?_⟩|(refine sq ?_ ?_<;>refine fun h=>⟨?_⟩<;>(first|contradiction|(exfalso;omega)|skip))|fail
        all_goals (conv => whnf)
        all_goals rfl
      · have hnx : ∀ j (h : j < l.length), j < i + 1 → l[j].name ≠ lonelyB := fun j h hj => (Nat.lt_succ_iff_lt_or_eq.1 hj).elim (hnl j h) (fun e => by subst e; exact hn)
        generalize l[i] = x at g1 hn
        obtain ⟨op, A, B, name, sx, k, n, dx⟩ := x
        dsimp only at hn
        unfold lonelyB at hn
        repeat' first|refine sY ⟨?_⟩|(refine sq ?_ ?_<;>refine fun h=>⟨?_⟩<;>(first|contradiction|(exfalso;omega)|skip))|fail
        all_goals exact ⟨[0, 1], l.length - (i + 1), rfl, by omega, i + 1, by omega, rfl, hnx, rfl⟩
    · have hf2 := hf2 fun x hx => by
        obtain ⟨j, hj, rfl⟩ := List.getElem_of_mem hx
        exact hnl j hj (by omega)
      have hml2 := rowBd_length (moreB bs b0 s d)
      generalize rowBd (moreB bs b0 s d) = r at hf2 hsn3 hml2
      rw [own_all2 r rfl] at hf2
      repeat' first|refine sY ⟨?_⟩|(refine sq ?_ ?_<;>refine fun h=>⟨?_⟩<;>(first|contradiction|(exfalso;omega)|skip))|fail
      refine ⟨by decide +kernel, [0, 1, 3, 0, 0, 24, 0, 64, 192, 448, 0, 1984, 4032, 8184, 16383, 32767], by decide +kernel, ?_⟩
      repeat' first|refine sY ⟨?_⟩|(refine sq ?_ ?_<;>refine fun h=>⟨?_⟩<;>(first|contradiction|(exfalso;omega)|skip))|fail
      conv => whnf
      refine ⟨Nat.le_refl _, (show (0 + (rowBd (b0 :: bs)).length) * 64 ≤ 140737488355328 by omega), rowBd (b0 :: bs), rfl, ?_⟩
      repeat' first|refine sY ⟨?_⟩|(refine sq ?_ ?_<;>refine fun h=>⟨?_⟩<;>(first|contradiction|(exfalso;omega)|skip))|fail
      conv => whnf
      refine ⟨Nat.le_refl _, (show ((rowBd (b0 :: bs)).length + 1) * 64 ≤ 140737488355328 by omega), rowBd ((b0 :: bs) ++ [⟨b0.name, s, d⟩]), hsn2, ?_⟩
      repeat' first|refine sY ⟨?_⟩|(refine sq ?_ ?_<;>refine fun h=>⟨?_⟩<;>(first|contradiction|(exfalso;omega)|skip))|fail
      conv => whnf
      refine ⟨Nat.le_refl _, (show (1 + (List.take (rowBd ((b0 :: bs) ++ [⟨b0.name, s, d⟩])).length (List.drop 0 (rowBd ((b0 :: bs) ++ [⟨b0.name, s, d⟩])))).length) * 64 ≤ 140737488355328 by rw [List.drop_zero, List.take_length, hln2]; omega), r, hsn3, ?_⟩
      repeat' first|refine sY ⟨?_⟩|(refine sq ?_ ?_<;>refine fun h=>⟨?_⟩<;>(first|contradiction|(exfalso;omega)|skip))|fail
      refine ⟨[10, 12, 97, 98], [], fun m st => ∃ i : Nat, i ≤ ((rc :: rcs)).length ∧ m = ((rc :: rcs)).length - i ∧
        st = ⟨[(10, .ro 2 (rc :: rcs)), (12, .ro 2 (rc :: rcs)), (97, .int .i64 (((rc :: rcs)).length : Nat)), (98, .int .i64 (i : Nat))], []⟩, rfl, ⟨_, 0, by omega, rfl, rfl⟩, ?_⟩
      rintro m2 _ ⟨i2, hi2, hm2, rfl⟩
      rcases Nat.lt_or_ge i2 ((rc :: rcs)).length with h2 | h2
      · obtain ⟨sh, V, gR, hvt⟩ := hR i2 h2
        have hE := c_r05_Equal sh sh (V.map ratB) (V.map ratB) (by have := hvt.sl; omega) (by have := hvt.sl; omega) (by rw [List.length_map]; have := hvt.vl; omega)
        rw [decide_eq_true rfl, decide_eq_true rfl, Bool.and_true] at hE
        clear hvt
        unfold tenA at hE
        unfold rowR at gR
        repeat' first|refine sY ⟨?_⟩|(refine sq ?_ ?_<;>refine fun h=>⟨?_⟩<;>(first|contradiction|(exfalso;omega)|skip))|fail
        refine ⟨by decide +kernel, [0, 0, 3, 7, 0, 0, 48, 112, 255, 511], by decide +kernel, ?_⟩
        repeat' first|refine sY ⟨?_⟩|(refine sq ?_ ?_<;>refine fun h=>⟨?_⟩<;>(first|contradiction|(exfalso;omega)|skip))|fail
        all_goals exact ⟨[], (rc :: rcs).length - (i2 + 1), rfl, by omega, i2 + 1, by omega, rfl, rfl⟩
      · repeat' first|refine sY ⟨?_⟩|(refine sq ?_ ?_<;>refine fun h=>⟨?_⟩<;>(first|contradiction|(exfalso;omega)|skip))|fail
        all_goals (conv => whnf)
        all_goals rfl
end Go.V
