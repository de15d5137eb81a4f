/-
  Lemmas (part 3) for: EvalNode, EvalSums, EvalBehind and EvalOrder hold for all arguments; no condition.
-/
import Derived.Test.YtndiceggidmgkaaGreatDoorEval1
import Derived.Test.YtndiceggidmgkaaGreatDoorEval2
set_option linter.all false
namespace Go.V
open Go.N
set_option maxRecDepth 20000
def T_EvalNode : Tab := [(24, i24), (4, i4), (47, i47), (62, i62), (49, i49), (65, i65), (3, i3), (28, i28), (51, i51), (40, i40), (22, i22), (36, i36), (9, i9)]
theorem TOK_EvalNode : TOK Go.Proofs.Tryz.prog T_EvalNode := ⟨K24, ⟨K4, ⟨K47, ⟨K62, ⟨K49, ⟨K65, ⟨K3, ⟨K28, ⟨K51, ⟨K40, ⟨K22, ⟨K36, ⟨K9, trivial⟩⟩⟩⟩⟩⟩⟩⟩⟩⟩⟩⟩⟩
theorem own_all2 (r : List (List AV)) {n : Nat} (h : n = r.length) : r = List.take n (List.drop 0 r) := by rw [h, List.drop_zero, List.take_length]
theorem eval_parts2 {bd : Nd → List Rat} {g : Gr} (hg : grOK g = true) (G : GoodV bd g.nodes) {i : Nat} {x : Nd} (hx : g.nodes[i]? = some x) (hn : x.name = ⟨#[]⟩) :
    ∃ o : Opc, x.op = o.str ∧ ∃ p q : Nat, x.a = (p : Nat) ∧ x.b = (q : Nat) ∧ p < g.nodes.length ∧ q < g.nodes.length ∧
      FitV o x.shape x.k x.n x.data (shAt g.nodes (p : Nat)) (valAt bd g.nodes p) (shAt g.nodes (q : Nat)) (valAt bd g.nodes q) (valAt bd g.nodes i) := by
  have hi := (List.getElem?_eq_some_iff.1 hx).1
  obtain ⟨o, ho, p, q, hp, hq, hcase⟩ := eval_parts hg G hx hn
  refine ⟨o, ho, p, q, hp, hq, ?_⟩
  rcases hcase with ⟨h0, hp0, hq0, hc, hfit⟩ | ⟨h1, h2, hfit⟩
  · have hm : o = .const := by
      rw [ho] at hc
      have := congrArg opcOf hc
      rwa [opcOf_str, show opcOf sConst = .const from rfl] at this
    subst hm
    exact ⟨by omega, by omega, hfit.any (fun h => absurd h (by decide)) (fun h => absurd h (by decide))⟩
  · exact ⟨by omega, by omega, hfit⟩
theorem hi_small {bd : Nd → List Rat} {l : List Nd} {c : Nat} (G : Given bd l c) {j : Nat} {x : Nd} (hx : l[j]? = some x) : VT x.shape (valAt bd l j) ∧ ∀ y ∈ valAt bd l j, MM y ≤ 10 ^ 400 := by
  have H := hi_all G j x hx
  have hw := G.w j (List.getElem?_eq_some_iff.1 hx).1
  have hwi := wAt_in l j
  have hm : ∀ z ∈ valAt bd l j, MM z ≤ 10 ^ 400 := fun z hz => by
    refine Nat.le_trans (H.mm z hz) (ten_mono (a := c * (wAt l j).toNat) (b := 400) ?_)
    have e : ((wAt l j).toNat : Int) = wAt l j := Int.toNat_of_nonneg (by omega)
    rw [← e, ← Int.natCast_mul] at hw; omega
  exact ⟨⟨H.ok, H.len, fun y hy => RS_of (hm y hy) (by decide)⟩, hm⟩
set_option maxHeartbeats 8000000 in
open Classical in
theorem c_EvalNode (g : Gr) (bs : List Bd) (hbb : bs.length * 64 ≤ 140737488351232) : VCall Go.Proofs.Tryz.prog GL 8 [.agg g.cells, .ro 3 (rowBd bs)] (fun r => r = .bool true) := by
  have haw := c_awake12
  obtain ⟨l, p⟩ := g
  show VCall _ _ _ [.agg [.ro 8 (rowN l), .int .i64 p], .ro 3 (rowBd bs)] _
  have hsm := c_r10_Small GL ⟨l, p⟩
  have hrf := c_refs bs hbb
  have hsb := c_r12_Small bs
  have hlr := rowN_length l
  have hbr := rowBd_length bs
  cases hS : smallG ⟨l, p⟩
  · rw [hS] at hsm
    refine vcall_of TOK_EvalNode HM Go.Proofs.Tryz.func8 rfl (by decide +kernel) (by decide +kernel) rfl ?_
    repeat' first|refine sY ⟨?_⟩|(refine sq ?_ ?_<;>refine fun h=>⟨?_⟩<;>(first|contradiction|(exfalso;omega)|skip))|fail
    refine ⟨by decide +kernel, [0, 1, 3, 7, 15, 31, 63, 127, 255, 511, 1023, 1023, 3071, 8191, 16383, 32767], by decide +kernel, ?_⟩
    repeat' first|refine sY ⟨?_⟩|(refine sq ?_ ?_<;>refine fun h=>⟨?_⟩<;>(first|contradiction|(exfalso;omega)|skip))|fail
    all_goals (conv => whnf)
    all_goals rfl
  rw [hS] at hsm
  simp only [smallG, Bool.and_eq_true, decide_eq_true_eq, List.all_eq_true] at hS
  obtain ⟨hl, hs⟩ := hS
  have hs := fun x hx => smallN_sm (hs x hx)
  cases hB : smallBs bs
  · rw [hB] at hsb
    refine vcall_of TOK_EvalNode HM Go.Proofs.Tryz.func8 rfl (by decide +kernel) (by decide +kernel) rfl ?_
    repeat' first|refine sY ⟨?_⟩|(refine sq ?_ ?_<;>refine fun h=>⟨?_⟩<;>(first|contradiction|(exfalso;omega)|skip))|fail
    refine ⟨by decide +kernel, [0, 1, 3, 7, 15, 31, 63, 127, 255, 511, 1023, 1023, 3071, 8191, 16383, 32767], by decide +kernel, ?_⟩
    repeat' first|refine sY ⟨?_⟩|(refine sq ?_ ?_<;>refine fun h=>⟨?_⟩<;>(first|contradiction|(exfalso;omega)|skip))|fail
    all_goals (conv => whnf)
    all_goals rfl
  rw [hB] at hsb
  obtain ⟨hbl, hbs⟩ := smallBs_sm hB
  have hcm := c_Calm l p bs (by omega) hs (by omega) hbs
  by_cases hC : calmZ l bs ≤ 400
  case neg =>
    rw [decide_eq_false hC] at hcm
    refine vcall_of TOK_EvalNode HM Go.Proofs.Tryz.func8 rfl (by decide +kernel) (by decide +kernel) rfl ?_
    repeat' first|refine sY ⟨?_⟩|(refine sq ?_ ?_<;>refine fun h=>⟨?_⟩<;>(first|contradiction|(exfalso;omega)|skip))|fail
    refine ⟨by decide +kernel, [0, 1, 3, 7, 15, 31, 63, 127, 255, 511, 1023, 1023, 3071, 8191, 16383, 32767], by decide +kernel, ?_⟩
    repeat' first|refine sY ⟨?_⟩|(refine sq ?_ ?_<;>refine fun h=>⟨?_⟩<;>(first|contradiction|(exfalso;omega)|skip))|fail
    all_goals (conv => whnf)
    all_goals rfl
  rw [decide_eq_true hC] at hcm
  have hf := c_eAll bs ⟨l, p⟩ hs (by dsimp only; omega) (by omega) hbs (fun h => calm_good h hs bs hbs hC)
  have hR := c_r10_Right GL ⟨l, p⟩ hs (by dsimp only; omega)
  cases hg : grOK ⟨l, p⟩
  · rw [hg, if_neg (by simp)] at hf
    rw [hg] at hR
    refine vcall_of TOK_EvalNode HM Go.Proofs.Tryz.func8 rfl (by decide +kernel) (by decide +kernel) rfl ?_
    repeat' first|refine sY ⟨?_⟩|(refine sq ?_ ?_<;>refine fun h=>⟨?_⟩<;>(first|contradiction|(exfalso;omega)|skip))|fail
    refine ⟨by decide +kernel, [0, 1, 3, 7, 15, 31, 63, 127, 255, 511, 1023, 1023, 3071, 8191, 16383, 32767], by decide +kernel, ?_⟩
    repeat' first|refine sY ⟨?_⟩|(refine sq ?_ ?_<;>refine fun h=>⟨?_⟩<;>(first|contradiction|(exfalso;omega)|skip))|fail
    all_goals (conv => whnf)
    all_goals rfl
  rw [hg, if_pos rfl] at hf
  rw [hg] at hR
  cases hA : allOKB bs l
  · dsimp only at hf
    rw [hA, if_neg (by simp)] at hf
    refine vcall_of TOK_EvalNode HM Go.Proofs.Tryz.func8 rfl (by decide +kernel) (by decide +kernel) rfl ?_
    repeat' first|refine sY ⟨?_⟩|(refine sq ?_ ?_<;>refine fun h=>⟨?_⟩<;>(first|contradiction|(exfalso;omega)|skip))|fail
    refine ⟨by decide +kernel, [0, 1, 3, 7, 15, 31, 63, 127, 255, 511, 1023, 1023, 3071, 8191, 16383, 32767], by decide +kernel, ?_⟩
    repeat' first|refine sY ⟨?_⟩|(refine sq ?_ ?_<;>refine fun h=>⟨?_⟩<;>(first|contradiction|(exfalso;omega)|skip))|fail
    all_goals (conv => whnf)
    all_goals rfl
  dsimp only at hf
  rw [hA, if_pos rfl] at hf
  have hG := calm_good hg hs bs hbs hC
  have hGi := calm_given hg hs bs hbs hC
  dsimp only at hG hGi
  have hpt := fun {i : Nat} {x : Nd} => @eval_parts2 (bdB bs) ⟨l, p⟩ hg hG i x
  have hsv := fun {i : Nat} {x : Nd} => @hi_small (bdB bs) l _ hGi i x
  generalize bdB bs = bd at hf hpt hsv
  have htl := rowTs_len bd l l.length
  have hgt := fun {j : Nat} (h : j < l.length) => rowTs_get (bd := bd) (l := l) h
  refine vcall_of TOK_EvalNode HM Go.Proofs.Tryz.func8 rfl (by decide +kernel) (by decide +kernel) rfl ?_
  repeat' first|refine sY ⟨?_⟩|(refine sq ?_ ?_<;>refine fun h=>⟨?_⟩<;>(first|contradiction|(exfalso;omega)|skip))|fail
  refine ⟨by decide +kernel, [0, 1, 3, 7, 15, 31, 63, 127, 255, 511, 1023, 1023, 3071, 8191, 16383, 32767], by decide +kernel, ?_⟩
  repeat' first|refine sY ⟨?_⟩|(refine sq ?_ ?_<;>refine fun h=>⟨?_⟩<;>(first|contradiction|(exfalso;omega)|skip))|fail
  refine ⟨[5, 54, 55, 56], [], fun m st => ∃ i : Nat, i ≤ l.length ∧ m = l.length - i ∧
    st = ⟨[(5, .ro 2 (rowTs bd l l.length)), (54, .ro 8 (rowN l)), (55, .int .i64 ((rowN l).length : Nat)), (56, .int .i64 (i : Nat))], []⟩, rfl, ⟨l.length, 0, by omega, rfl, rfl⟩, ?_⟩
  rintro m _ ⟨i, hi, hm, rfl⟩
  rcases Nat.lt_or_ge i l.length with hil | hge
  · have hx : l[i]? = some l[i] := List.getElem?_eq_getElem hil
    have g1 := rowN_get hil
    by_cases hn : l[i].name = ⟨#[]⟩
    · obtain ⟨o, ho, p1, q1, hp, hq, hp2, hq2, hfit⟩ := hpt hx hn
      obtain ⟨hvt, _⟩ := hsv hx
      have hE := c_r05_Equal l[i].shape l[i].shape ((valAt bd l i).map ratB) ((valAt bd l i).map ratB) (by have := hvt.sl; omega) (by have := hvt.sl; omega) (by rw [List.length_map]; have := hvt.vl; omega)
      rw [decide_eq_true rfl, decide_eq_true rfl, Bool.and_true] at hE
      have ga : (rowTs bd l l.length)[p1]? = some [.ro 1 (rowZ (shAt l (p1 : Nat))), .ro 1 (rowR (valAt bd l p1))] := hgt hp2
      have gb : (rowTs bd l l.length)[q1]? = some [.ro 1 (rowZ (shAt l (q1 : Nat))), .ro 1 (rowR (valAt bd l q1))] := hgt hq2
      have gi : (rowTs bd l l.length)[i]? = some [.ro 1 (rowZ l[i].shape), .ro 1 (rowR (valAt bd l i))] := by rw [hgt hil, tcE, shAt_nat hil]
      clear hvt hx
      dsimp only at hfit
      generalize valAt bd l i = V at hfit hE gi
      generalize l[i] = x at g1 hn ho hp hq hfit hE gi
      obtain ⟨op, A, B, name, s, k, n, d⟩ := x
      dsimp only at hn ho hp hq hfit hE gi
      subst hn ho hp hq
      have hnode := c_eNode ((p1 : Nat) : Int) ((q1 : Nat) : Int) ⟨#[]⟩ hfit
      unfold nodeC tenR at hnode
      unfold tenA at hE
      unfold rowR at hnode ga gb gi
      repeat' first|refine sY ⟨?_⟩|(refine sq ?_ ?_<;>refine fun h=>⟨?_⟩<;>(first|contradiction|(exfalso;omega)|skip))|fail
      refine ⟨by decide +kernel, [0, 0, 0, 4, 14, 30, 0, 0, 128, 448, 960, 2047, 4095, 8191, 8191, 0, 49151, 131071], by decide +kernel, ?_⟩
      repeat' first|refine sY ⟨?_⟩|(refine sq ?_ ?_<;>refine fun h=>⟨?_⟩<;>(first|contradiction|(exfalso;omega)|skip))|fail
      refine ⟨by decide +kernel, [0, 1, 3, 7, 7, 7, 55, 119, 255, 511, 1023], by decide +kernel, ?_⟩
      repeat' first|refine sY ⟨?_⟩|(refine sq ?_ ?_<;>refine fun h=>⟨?_⟩<;>(first|contradiction|(exfalso;omega)|skip))|fail
      all_goals exact ⟨[], l.length - (i + 1), rfl, by omega, i + 1, by omega, rfl, rfl⟩
    · generalize l[i] = x at g1 hn
      obtain ⟨op, A, B, name, s, k, n, d⟩ := x
      dsimp only at hn
      repeat' first|refine sY ⟨?_⟩|(refine sq ?_ ?_<;>refine fun h=>⟨?_⟩<;>(first|contradiction|(exfalso;omega)|skip))|fail
      all_goals exact ⟨[], l.length - (i + 1), rfl, by omega, i + 1, by omega, rfl, rfl⟩
  · repeat' first|refine sY ⟨?_⟩|(refine sq ?_ ?_<;>refine fun h=>⟨?_⟩<;>(first|contradiction|(exfalso;omega)|skip))|fail
    all_goals (conv => whnf)
    all_goals rfl
end Go.V
