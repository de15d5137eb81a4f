/-
  Lemmas (part 8) for: EvalNode, EvalSums, EvalBehind and EvalOrder hold for all arguments; no condition.
-/
import Derived.Test.YtndiceggidmgkaaGreatDoorEval3
set_option linter.all false
namespace Go.V
open Go.N
set_option maxRecDepth 20000
def T_EvalSums : Tab := [(24, i24), (4, i4), (47, i47), (62, i62), (49, i49), (65, i65), (3, i3), (28, i28), (51, i51), (40, i40), (22, i22), (36, i36), (9, i9)]
theorem TOK_EvalSums : TOK Go.Proofs.Tryz.prog T_EvalSums := ⟨K24, ⟨K4, ⟨K47, ⟨K62, ⟨K49, ⟨K65, ⟨K3, ⟨K28, ⟨K51, ⟨K40, ⟨K22, ⟨K36, ⟨K9, trivial⟩⟩⟩⟩⟩⟩⟩⟩⟩⟩⟩⟩⟩
theorem sum_from : ∀ (l : List Rat) (c : Rat), l.foldl (· + ·) c = c + sumR l
  | [], c => by rw [sumR_nil]; exact (Rat.add_zero c).symm
  | x :: l, c => by
    have h : sumR (x :: l) = x + sumR l := by show List.foldl (· + ·) 0 (x :: l) = _; rw [List.foldl_cons, Rat.zero_add, sum_from l x]
    rw [List.foldl_cons, sum_from l (c + x), h, Rat.add_assoc]
theorem sumR_cons (x : Rat) (l : List Rat) : sumR (x :: l) = x + sumR l := by show List.foldl (· + ·) 0 (x :: l) = _; rw [List.foldl_cons, Rat.zero_add, sum_from l x]
theorem sum_add : ∀ {a b : List Rat}, a.length = b.length → sumR (List.zipWith (fun x y => x + y) a b) = sumR a + sumR b
  | [], [], _ => by rw [List.zipWith_nil_left, sumR_nil, Rat.add_zero]
  | [], _ :: _, h => by simp at h
  | _ :: _, [], h => by simp at h
  | x :: a, y :: b, h => by
    have ih := sum_add (a := a) (b := b) (by simpa using h)
    rw [List.zipWith_cons_cons, sumR_cons, sumR_cons, sumR_cons, ih, Rat.add_assoc, Rat.add_assoc, ← Rat.add_assoc y, Rat.add_comm y (sumR a), Rat.add_assoc]
theorem sum_sub : ∀ {a b : List Rat}, a.length = b.length → sumR (List.zipWith (fun x y => x - y) a b) = sumR a - sumR b
  | [], [], _ => by rw [List.zipWith_nil_left, sumR_nil]; decide +kernel
  | [], _ :: _, h => by simp at h
  | _ :: _, [], h => by simp at h
  | x :: a, y :: b, h => by
    have ih := sum_sub (a := a) (b := b) (by simpa using h)
    rw [List.zipWith_cons_cons, sumR_cons, sumR_cons, sumR_cons, ih]
    grind
theorem sum_rs {v : List Rat} (h : ∀ y ∈ v, MM y ≤ 10 ^ 400) (hl : v.length ≤ 64) : ∀ k, k ≤ v.length → RS (sumR (v.take k)) :=
  sum_pow (E := 400) 25600 h (Nat.le_trans (Nat.mul_le_mul_right 400 hl) (by decide)) (by decide) (by decide)
set_option maxHeartbeats 8000000 in
open Classical in
theorem c_EvalSums (g : Gr) (bs : List Bd) (hbb : bs.length * 64 ≤ 140737488351232) : VCall Go.Proofs.Tryz.prog GL 12 [.agg g.cells, .ro 3 (rowBd bs)] (fun r => r = .bool true) := by
  have haw := c_awake12
  obtain ⟨l, p⟩ := g
  show VCall _ _ _ [.agg [.ro 8 (rowN l), .int .i64 p], .ro 3 (rowBd bs)] _
  have hsm := c_r10_Small GL ⟨l, p⟩
  have hrf := c_refs bs hbb
  have hsb := c_r12_Small bs
  have hlr := rowN_length l
  have hbr := rowBd_length bs
  cases hS : smallG ⟨l, p⟩
  · rw [hS] at hsm
    refine vcall_of TOK_EvalSums HM Go.Proofs.Tryz.func12 rfl (by decide +kernel) (by decide +kernel) rfl ?_
    repeat' first|refine sY ⟨?_⟩|(refine sq ?_ ?_<;>refine fun h=>⟨?_⟩<;>(first|contradiction|(exfalso;omega)|skip))|fail
    refine ⟨by decide +kernel, [0, 1, 3, 7, 15, 31, 63, 127, 255, 511, 1023, 1023, 3071, 8191, 16383, 32767], by decide +kernel, ?_⟩
    repeat' first|refine sY ⟨?_⟩|(refine sq ?_ ?_<;>refine fun h=>⟨?_⟩<;>(first|contradiction|(exfalso;omega)|skip))|fail
    all_goals (conv => whnf)
    all_goals rfl
  rw [hS] at hsm
  simp only [smallG, Bool.and_eq_true, decide_eq_true_eq, List.all_eq_true] at hS
  obtain ⟨hl, hs⟩ := hS
  have hs := fun x hx => smallN_sm (hs x hx)
  cases hB : smallBs bs
  · rw [hB] at hsb
    refine vcall_of TOK_EvalSums HM Go.Proofs.Tryz.func12 rfl (by decide +kernel) (by decide +kernel) rfl ?_
    repeat' first|refine sY ⟨?_⟩|(refine sq ?_ ?_<;>refine fun h=>⟨?_⟩<;>(first|contradiction|(exfalso;omega)|skip))|fail
    refine ⟨by decide +kernel, [0, 1, 3, 7, 15, 31, 63, 127, 255, 511, 1023, 1023, 3071, 8191, 16383, 32767], by decide +kernel, ?_⟩
    repeat' first|refine sY ⟨?_⟩|(refine sq ?_ ?_<;>refine fun h=>⟨?_⟩<;>(first|contradiction|(exfalso;omega)|skip))|fail
    all_goals (conv => whnf)
    all_goals rfl
  rw [hB] at hsb
  obtain ⟨hbl, hbs⟩ := smallBs_sm hB
  have hcm := c_Calm l p bs (by omega) hs (by omega) hbs
  by_cases hC : calmZ l bs ≤ 400
  case neg =>
    rw [decide_eq_false hC] at hcm
    refine vcall_of TOK_EvalSums HM Go.Proofs.Tryz.func12 rfl (by decide +kernel) (by decide +kernel) rfl ?_
    repeat' first|refine sY ⟨?_⟩|(refine sq ?_ ?_<;>refine fun h=>⟨?_⟩<;>(first|contradiction|(exfalso;omega)|skip))|fail
    refine ⟨by decide +kernel, [0, 1, 3, 7, 15, 31, 63, 127, 255, 511, 1023, 1023, 3071, 8191, 16383, 32767], by decide +kernel, ?_⟩
    repeat' first|refine sY ⟨?_⟩|(refine sq ?_ ?_<;>refine fun h=>⟨?_⟩<;>(first|contradiction|(exfalso;omega)|skip))|fail
    all_goals (conv => whnf)
    all_goals rfl
  rw [decide_eq_true hC] at hcm
  have hf := c_eAll bs ⟨l, p⟩ hs (by dsimp only; omega) (by omega) hbs (fun h => calm_good h hs bs hbs hC)
  have hR := c_r10_Right GL ⟨l, p⟩ hs (by dsimp only; omega)
  cases hg : grOK ⟨l, p⟩
  · rw [hg, if_neg (by simp)] at hf
    rw [hg] at hR
    refine vcall_of TOK_EvalSums HM Go.Proofs.Tryz.func12 rfl (by decide +kernel) (by decide +kernel) rfl ?_
    repeat' first|refine sY ⟨?_⟩|(refine sq ?_ ?_<;>refine fun h=>⟨?_⟩<;>(first|contradiction|(exfalso;omega)|skip))|fail
    refine ⟨by decide +kernel, [0, 1, 3, 7, 15, 31, 63, 127, 255, 511, 1023, 1023, 3071, 8191, 16383, 32767], by decide +kernel, ?_⟩
    repeat' first|refine sY ⟨?_⟩|(refine sq ?_ ?_<;>refine fun h=>⟨?_⟩<;>(first|contradiction|(exfalso;omega)|skip))|fail
    all_goals (conv => whnf)
    all_goals rfl
  rw [hg, if_pos rfl] at hf
  rw [hg] at hR
  cases hA : allOKB bs l
  · dsimp only at hf
    rw [hA, if_neg (by simp)] at hf
    refine vcall_of TOK_EvalSums HM Go.Proofs.Tryz.func12 rfl (by decide +kernel) (by decide +kernel) rfl ?_
    repeat' first|refine sY ⟨?_⟩|(refine sq ?_ ?_<;>refine fun h=>⟨?_⟩<;>(first|contradiction|(exfalso;omega)|skip))|fail
    refine ⟨by decide +kernel, [0, 1, 3, 7, 15, 31, 63, 127, 255, 511, 1023, 1023, 3071, 8191, 16383, 32767], by decide +kernel, ?_⟩
    repeat' first|refine sY ⟨?_⟩|(refine sq ?_ ?_<;>refine fun h=>⟨?_⟩<;>(first|contradiction|(exfalso;omega)|skip))|fail
    all_goals (conv => whnf)
    all_goals rfl
  dsimp only at hf
  rw [hA, if_pos rfl] at hf
  have hG := calm_good hg hs bs hbs hC
  have hGi := calm_given hg hs bs hbs hC
  dsimp only at hG hGi
  have hpt := fun {i : Nat} {x : Nd} => @eval_parts2 (bdB bs) ⟨l, p⟩ hg hG i x
  have hnm := fun {i : Nat} {x : Nd} (hx : l[i]? = some x) => @ok_named ⟨l, p⟩ hg i x hx
  have hsv := fun {i : Nat} {x : Nd} => @hi_small (bdB bs) l _ hGi i x
  have htot : ∀ j (h : j < l.length), RS (sumR (valAt (bdB bs) l j)) ∧ VCall Go.Proofs.Tryz.prog GL 36 [.agg (tcE (bdB bs) l j)] (fun y => y = .tup [.str (ratB (sumR (valAt (bdB bs) l j))), .int .i64 0]) := fun j h => by
    obtain ⟨hvt, hmm⟩ := hsv (List.getElem?_eq_getElem h)
    have hp := sum_rs hmm hvt.vl.2
    refine ⟨by have := hp _ (Nat.le_refl _); rwa [List.take_length] at this, ?_⟩
    rw [← tenR_tcE (List.getElem?_eq_getElem h)]
    exact c_tSum hvt hp
  have hlen : ∀ j (h : j < l.length), (((valAt (bdB bs) l j).length : Nat) : Int) = prodZ l[j].shape := fun j h => (hsv (List.getElem?_eq_getElem h)).1.len
  generalize bdB bs = bd at hf hpt hsv htot hlen
  have htl := rowTs_len bd l l.length
  have hgt := fun {j : Nat} (h : j < l.length) => rowTs_get (bd := bd) (l := l) h
  refine vcall_of TOK_EvalSums HM Go.Proofs.Tryz.func12 rfl (by decide +kernel) (by decide +kernel) rfl ?_
  repeat' first|refine sY ⟨?_⟩|(refine sq ?_ ?_<;>refine fun h=>⟨?_⟩<;>(first|contradiction|(exfalso;omega)|skip))|fail
  refine ⟨by decide +kernel, [0, 1, 3, 7, 15, 31, 63, 127, 255, 511, 1023, 1023, 3071, 8191, 16383, 32767], by decide +kernel, ?_⟩
  repeat' first|refine sY ⟨?_⟩|(refine sq ?_ ?_<;>refine fun h=>⟨?_⟩<;>(first|contradiction|(exfalso;omega)|skip))|fail
  refine ⟨[5, 59, 60, 61], [], fun m st => ∃ i : Nat, i ≤ l.length ∧ m = l.length - i ∧
    st = ⟨[(5, .ro 2 (rowTs bd l l.length)), (59, .ro 8 (rowN l)), (60, .int .i64 ((rowN l).length : Nat)), (61, .int .i64 (i : Nat))], []⟩, rfl, ⟨l.length, 0, by omega, rfl, rfl⟩, ?_⟩
  rintro m _ ⟨i, hi, hm, rfl⟩
  rcases Nat.lt_or_ge i l.length with hil | hge
  · have hx : l[i]? = some l[i] := List.getElem?_eq_getElem hil
    have g1 := rowN_get hil
    by_cases hop : l[i].op = sSum ∨ l[i].op = sAdd ∨ l[i].op = sSub
    · have hn : l[i].name = ⟨#[]⟩ := (hnm hx).2 (by rcases hop with h | h | h <;> (rw [h]; decide))
      obtain ⟨o, ho, p1, q1, hp, hq, hp2, hq2, hfit⟩ := hpt hx hn
      dsimp only at hfit hp2 hq2
      obtain ⟨_, ti⟩ := htot i hil
      obtain ⟨ra, ta⟩ := htot p1 hp2
      obtain ⟨rb, tb⟩ := htot q1 hq2
      have la := hlen p1 hp2
      have lb := hlen q1 hq2
      rw [← shAt_nat hp2] at la
      rw [← shAt_nat hq2] at lb
      have ga : (rowTs bd l l.length)[p1]? = some (tcE bd l p1) := hgt hp2
      have gb : (rowTs bd l l.length)[q1]? = some (tcE bd l q1) := hgt hq2
      have gi : (rowTs bd l l.length)[i]? = some (tcE bd l i) := hgt hil
      unfold tcE at ti ta tb ga gb gi
      have hadd := c_RAdd ra rb
      have hsub := c_RSub ra rb
      clear hx
      generalize valAt bd l i = V at hfit ti gi
      generalize valAt bd l p1 = Va at hfit ta ga la ra hadd hsub
      generalize valAt bd l q1 = Vb at hfit tb gb lb rb hadd hsub
      generalize shAt l (p1 : Nat) = sha at hfit ta ga la
      generalize shAt l (q1 : Nat) = shb at hfit tb gb lb
      generalize shAt l (i : Nat) = shi at ti gi
      generalize l[i] = x at g1 hn ho hp hq hfit hop
      obtain ⟨op, A, B, name, s, k, n, d⟩ := x
      dsimp only at hn ho hp hq hfit hop
      subst hp hq
      rcases hop with h | h | h
      · rw [h] at ho
        have e := congrArg opcOf ho
        rw [opcOf_str, show opcOf sSum = .sum from rfl] at e
        subst e
        have hV : sumR V = sumR Va := by cases hfit; exact sum_one _
        rw [hV] at ti
        subst h
        clear ho
        repeat' first|refine sY ⟨?_⟩|(refine sq ?_ ?_<;>refine fun h=>⟨?_⟩<;>(first|contradiction|(exfalso;omega)|skip))|fail
        all_goals exact ⟨[], l.length - (i + 1), rfl, by omega, i + 1, by omega, rfl, rfl⟩
      · rw [h] at ho
        have e := congrArg opcOf ho
        rw [opcOf_str, show opcOf sAdd = .add from rfl] at e
        subst e
        have hV : sumR V = sumR Va + sumR Vb := by cases hfit; exact sum_add (by omega)
        rw [← hV] at hadd
        subst h
        clear ho
        repeat' first|refine sY ⟨?_⟩|(refine sq ?_ ?_<;>refine fun h=>⟨?_⟩<;>(first|contradiction|(exfalso;omega)|skip))|fail
        all_goals exact ⟨[], l.length - (i + 1), rfl, by omega, i + 1, by omega, rfl, rfl⟩
      · rw [h] at ho
        have e := congrArg opcOf ho
        rw [opcOf_str, show opcOf sSub = .sub from rfl] at e
        subst e
        have hV : sumR V = sumR Va - sumR Vb := by cases hfit; exact sum_sub (by omega)
        rw [← hV] at hsub
        subst h
        clear ho
        repeat' first|refine sY ⟨?_⟩|(refine sq ?_ ?_<;>refine fun h=>⟨?_⟩<;>(first|contradiction|(exfalso;omega)|skip))|fail
        all_goals exact ⟨[], l.length - (i + 1), rfl, by omega, i + 1, by omega, rfl, rfl⟩
    · generalize l[i] = x at g1 hop
      obtain ⟨op, A, B, name, s, k, n, d⟩ := x
      dsimp only at hop
      have k1 : ¬ op = sSum := fun h => hop (.inl h)
      have k2 : ¬ op = sAdd := fun h => hop (.inr (.inl h))
      have k3 : ¬ op = sSub := fun h => hop (.inr (.inr h))
      repeat' first|refine sY ⟨?_⟩|(refine sq ?_ ?_<;>refine fun h=>⟨?_⟩<;>(first|contradiction|(exfalso;omega)|skip))|fail
      all_goals exact ⟨[], l.length - (i + 1), rfl, by omega, i + 1, by omega, rfl, rfl⟩
  · repeat' first|refine sY ⟨?_⟩|(refine sq ?_ ?_<;>refine fun h=>⟨?_⟩<;>(first|contradiction|(exfalso;omega)|skip))|fail
    all_goals (conv => whnf)
    all_goals rfl
end Go.V
