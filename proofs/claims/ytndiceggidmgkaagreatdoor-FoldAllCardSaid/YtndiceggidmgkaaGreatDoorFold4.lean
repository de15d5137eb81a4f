/-
  Lemmas (part 4) for: What fold.Fold makes of any graph is what the document says (FoldMakes, FoldAll, FoldNames, FoldLeaves hold for every graph); no condition.
-/
import Derived.Test.YtndiceggidmgkaaGreatDoorFold3
set_option linter.all false
namespace Go.V
open Go.N
variable (gl : Gl)
def T_gparts : Tab := [(9, i9)]
theorem TOK_gparts : TOK Go.Proofs.Tryz.prog T_gparts := ⟨K9, trivial⟩
def T_r10_Parts : Tab := [(34, i34), (9, i9), (3, i3)]
theorem TOK_r10_Parts : TOK Go.Proofs.Tryz.prog T_r10_Parts := ⟨K34, ⟨K9, ⟨K3, trivial⟩⟩⟩
theorem c_lexName (s : ByteArray) (hs : s.size < 1000000) : VCall Go.Proofs.Tryz.prog gl 160 [.str s] (fun x => x = .bool (isName s)) := by
  refine vcall_of TOK_lexName HM Go.Proofs.Tryz.func160 rfl (by decide +kernel) (by decide +kernel) rfl ?_
  rcases Nat.eq_zero_or_pos s.size with h0 | h0
  · rw [eq_empty h0]
    repeat' first|refine sX ⟨?_⟩|(refine sp ?_ ?_<;>refine fun h=>⟨?_⟩)|fail
    conv => whnf
    exact congrArg AV.bool isName_empty.symm
  have hl := Go.N.len_toList s
  have hne : ¬ s = ⟨#[]⟩ := fun e => by rw [e] at h0; exact absurd h0 (by decide)
  have h1 : 0 < s.toList.length := by omega
  have hi := isName_iff h1
  have hT := c_sTrim gl s hs (by omega)
  repeat' first|refine sX ⟨?_⟩|(refine sp ?_ ?_<;>refine fun h=>⟨?_⟩)|fail
  all_goals first | exact absurd (by assumption) hne | skip
  · conv => whnf
    exact congrArg AV.bool (Eq.symm (Bool.eq_false_iff.2 fun hh => by have := hi.1 hh; omega))
  · conv => whnf
    exact congrArg AV.bool (Eq.symm (Bool.eq_false_iff.2 fun hh => by have := hi.1 hh; omega))
  · conv => whnf
    exact congrArg AV.bool (Eq.symm (Bool.eq_false_iff.2 fun hh => by have := hi.1 hh; omega))
  conv => whnf
  refine .inl ⟨_, hT, ?_⟩
  rintro _ ⟨r, rfl, hr⟩
  have e : decide (r = ⟨#[]⟩) = isName s := by
    rw [Bool.eq_iff_iff, decide_eq_true_eq, hr, hi]
    constructor
    · intro hh; exact ⟨by omega, hh, by omega, by omega⟩
    · intro hh; exact hh.2.1
  repeat' first|refine sX ⟨?_⟩|(refine sp ?_ ?_<;>refine fun h=>⟨?_⟩)|fail
  conv => whnf
  exact congrArg AV.bool e
set_option maxHeartbeats 1000000 in
theorem c_r08_Name (s : ByteArray) (hs : s.size < 1000000) : VCall Go.Proofs.Tryz.prog gl 68 [.str s] (fun x => x = .bool (isName s)) := by
  refine vcall_of TOK_r08_Name HM Go.Proofs.Tryz.func68 rfl (by decide +kernel) (by decide +kernel) rfl ?_
  have hl := Go.N.len_toList s
  repeat' first|refine sX ⟨?_⟩|(refine sp ?_ ?_<;>refine fun h=>⟨?_⟩)|fail
  refine ⟨[0, 3], [], fun m st => ∃ i : Nat, i ≤ s.toList.length ∧ m = s.toList.length - i ∧ (s.toList.take i).all nameC = true ∧ (∀ h : 0 < s.toList.length, 0 < i → 97 ≤ s.toList[0].toNat ∧ s.toList[0].toNat ≤ 122) ∧
    st = ⟨[(0, .str s), (3, .int .i64 (i : Nat))], []⟩, rfl, ⟨s.toList.length, 0, by omega, rfl, by simp, by omega, rfl⟩, ?_⟩
  rintro m _ ⟨i, hi, hm, ha, hd, rfl⟩
  rcases Nat.lt_or_ge i s.toList.length with hil | hge
  · have h1 : 0 < s.toList.length := by omega
    have hn := isName_iff h1
    have hd := hd h1
    by_cases hbad : nameC s.toList[i] = true ∧ (i = 0 → 97 ≤ s.toList[i].toNat ∧ s.toList[i].toNat ≤ 122)
    · obtain ⟨hb1, hb2⟩ := hbad
      have hb3 := hb1
      simp only [nameC, Bool.or_eq_true, decide_eq_true_eq] at hb3
      have go : ∃ i' : Nat, i' ≤ s.toList.length ∧ s.toList.length - (i + 1) = s.toList.length - i' ∧ (s.toList.take i').all nameC = true ∧ (∀ h : 0 < s.toList.length, 0 < i' → 97 ≤ s.toList[0].toNat ∧ s.toList[0].toNat ≤ 122) ∧
          (⟨[(0, .str s), (3, .int .i64 ((i : Int) + 1))], []⟩ : St) = ⟨[(0, .str s), (3, .int .i64 (i' : Nat))], []⟩ :=
        ⟨i + 1, by omega, rfl, by rw [List.take_succ_eq_append_getElem hil, List.all_append, ha]; simp [hb1], fun h _ => by
          rcases Nat.eq_zero_or_pos i with h0 | h0
          · subst h0; exact hb2 rfl
          · exact hd h0, rfl⟩
      repeat' first|refine sX ⟨?_⟩|(refine sp ?_ ?_<;>refine fun h=>⟨?_⟩)|fail
      all_goals try omega
      all_goals exact ⟨[], s.toList.length - (i + 1), rfl, by omega, go⟩
    · have hf : isName s = false := Bool.eq_false_iff.2 fun hh => hbad ⟨List.all_eq_true.1 (hn.1 hh).2.1 _ (List.getElem_mem hil), fun e => by subst e; exact (hn.1 hh).2.2⟩
      rw [hf]
      have hb3 : ¬ (97 ≤ s.toList[i].toNat ∧ s.toList[i].toNat ≤ 122) ∧ (i = 0 ∨ ¬ (48 ≤ s.toList[i].toNat ∧ s.toList[i].toNat ≤ 57)) := by
        simp only [nameC, Bool.or_eq_true, decide_eq_true_eq] at hbad
        omega
      repeat' first|refine sX ⟨?_⟩|(refine sp ?_ ?_<;>refine fun h=>⟨?_⟩)|fail
      all_goals try omega
      all_goals (conv => whnf)
      all_goals rfl
  · rw [List.take_of_length_le (by omega)] at ha
    rcases Nat.eq_zero_or_pos s.size with h0 | h0
    · rw [eq_empty h0, isName_empty]
      repeat' first|refine sX ⟨?_⟩|(refine sp ?_ ?_<;>refine fun h=>⟨?_⟩)|fail
      all_goals try omega
      all_goals (conv => whnf)
      all_goals rfl
    have h1 : 0 < s.toList.length := by omega
    have hn := isName_iff h1
    have hd := hd h1 (by omega)
    repeat' first|refine sX ⟨?_⟩|(refine sp ?_ ?_<;>refine fun h=>⟨?_⟩)|fail
    all_goals try omega
    · conv => whnf
      refine congrArg AV.bool ?_
      rw [Bool.eq_iff_iff, hn, decide_eq_true_eq]
      constructor
      · intro hh; exact ⟨by omega, ha, hd⟩
      · intro hh; omega
end Go.V
namespace Go.V
open Go.N
variable (gl : Gl)
theorem c_gparts (s : ByteArray) : VCall Go.Proofs.Tryz.prog gl 123 [.str s] (fun x => x = .tup [.int .i64 (partsN s : Nat), .bool (opParts s).isSome]) := by
  rcases opc_cases s with ⟨o, rfl⟩ | hn
  · refine vcall_of TOK_gparts HM Go.Proofs.Tryz.func123 rfl (by decide +kernel) (by decide +kernel) rfl ?_
    cases o
    all_goals (repeat' first|refine sX ⟨?_⟩|(refine sp ?_ ?_<;>refine fun h=>⟨?_⟩)|fail)
    all_goals (conv => whnf)
    all_goals rfl
  · have e1 : partsN s = 0 := by rw [partsN, hn]; rfl
    rw [e1, hn]
    refine vcall_of TOK_gparts HM Go.Proofs.Tryz.func123 rfl (by decide +kernel) (by decide +kernel) rfl ?_
    repeat' first|refine sX ⟨?_⟩|(refine sp ?_ ?_<;>refine fun h=>⟨?_⟩)|fail
    all_goals first | exact absurd hn (by rw [h]; decide) | skip
    conv => whnf
    rfl
set_option maxHeartbeats 2000000 in
theorem c_r10_Parts (s : ByteArray) : VCall Go.Proofs.Tryz.prog gl 27 [.str s] (fun x => x = .int .i64 (partsZ s)) := by
  refine vcall_of TOK_r10_Parts HM Go.Proofs.Tryz.func27 rfl (by decide +kernel) (by decide +kernel) rfl ?_
  repeat' first|refine sX ⟨?_⟩|(refine sp ?_ ?_<;>refine fun h=>⟨?_⟩)|fail
  refine ⟨[0, 9, 10, 11], [0], fun m st => ∃ i q : Nat, q = 3 ∧ i ≤ ops0.length ∧ m = ops0.length - i ∧ inOps s (ops0.take i) = false ∧ st = ⟨[(0, .str s), (9, .own 0 0 3), (10, .int .i64 (q : Nat)), (11, .int .i64 (i : Nat))], [.row false 9 1 (rowS ops0)]⟩, rfl, ⟨ops0.length, 0, 3, rfl, by decide, rfl, rfl, rfl⟩, ?_⟩
  rintro m _ ⟨i, q, hq, hi, hm, ha, rfl⟩
  have hL : ops0.length = 3 := rfl
  rcases Nat.lt_or_ge i ops0.length with hil | hge
  · have g : (rowS ops0)[0 + i]? = some [.str ops0[i]] := by rw [Nat.zero_add]; exact rowS_get hil
    have ha' : s = ops0[i] ∨ inOps s (ops0.take (i + 1)) = false := by
      rw [List.take_succ_eq_append_getElem hil]
      by_cases e : s = ops0[i]
      · exact .inl e
      · right; simp only [inOps, List.any_append] at ha ⊢; rw [ha]; simp [e]
    repeat' first|refine sX ⟨?_⟩|(refine sp ?_ ?_<;>refine fun h=>⟨?_⟩)|fail
    all_goals try omega
    · conv => whnf
      have hin : inOps s ops0 = true := List.any_eq_true.2 ⟨_, List.getElem_mem hil, by rw [decide_eq_true_eq]; exact h.symm⟩
      exact congrArg (AV.int .i64) (by simp [partsZ, opParts,  hin])
    · refine ⟨[0], ops0.length - (i + 1), rfl, by omega, i + 1, q, hq, by omega, rfl, ?_, rfl⟩
      rcases ha' with e | e
      · exact absurd e.symm h
      · exact e
  rw [List.take_of_length_le (by omega)] at ha
  have hi3 : i = 3 := by omega
  subst hi3
  repeat' first|refine sX ⟨?_⟩|(refine sp ?_ ?_<;>refine fun h=>⟨?_⟩)|fail
  all_goals try omega
  have h0 := ha
  refine ⟨[0, 19, 20, 21], [1], fun m st => ∃ i q : Nat, q = 10 ∧ i ≤ ops1.length ∧ m = ops1.length - i ∧ inOps s (ops1.take i) = false ∧ st = ⟨[(0, .str s), (19, .own 0 0 10), (20, .int .i64 (q : Nat)), (21, .int .i64 (i : Nat))], [.row false 9 1 (rowS ops1)]⟩, rfl, ⟨ops1.length, 0, 10, rfl, by decide, rfl, rfl, rfl⟩, ?_⟩
  rintro m _ ⟨i, q, hq, hi, hm, ha, rfl⟩
  have hL : ops1.length = 10 := rfl
  rcases Nat.lt_or_ge i ops1.length with hil | hge
  · have g : (rowS ops1)[0 + i]? = some [.str ops1[i]] := by rw [Nat.zero_add]; exact rowS_get hil
    have ha' : s = ops1[i] ∨ inOps s (ops1.take (i + 1)) = false := by
      rw [List.take_succ_eq_append_getElem hil]
      by_cases e : s = ops1[i]
      · exact .inl e
      · right; simp only [inOps, List.any_append] at ha ⊢; rw [ha]; simp [e]
    repeat' first|refine sX ⟨?_⟩|(refine sp ?_ ?_<;>refine fun h=>⟨?_⟩)|fail
    all_goals try omega
    · conv => whnf
      have hin : inOps s ops1 = true := List.any_eq_true.2 ⟨_, List.getElem_mem hil, by rw [decide_eq_true_eq]; exact h.symm⟩
      exact congrArg (AV.int .i64) (by simp [partsZ, opParts, h0,  hin])
    · refine ⟨[0], ops1.length - (i + 1), rfl, by omega, i + 1, q, hq, by omega, rfl, ?_, rfl⟩
      rcases ha' with e | e
      · exact absurd e.symm h
      · exact e
  rw [List.take_of_length_le (by omega)] at ha
  have hi3 : i = 10 := by omega
  subst hi3
  repeat' first|refine sX ⟨?_⟩|(refine sp ?_ ?_<;>refine fun h=>⟨?_⟩)|fail
  all_goals try omega
  have h1 := ha
  refine ⟨[0, 29, 30, 31], [1], fun m st => ∃ i q : Nat, q = 6 ∧ i ≤ ops2.length ∧ m = ops2.length - i ∧ inOps s (ops2.take i) = false ∧ st = ⟨[(0, .str s), (29, .own 0 0 6), (30, .int .i64 (q : Nat)), (31, .int .i64 (i : Nat))], [.row false 9 1 (rowS ops2)]⟩, rfl, ⟨ops2.length, 0, 6, rfl, by decide, rfl, rfl, rfl⟩, ?_⟩
  rintro m _ ⟨i, q, hq, hi, hm, ha, rfl⟩
  have hL : ops2.length = 6 := rfl
  rcases Nat.lt_or_ge i ops2.length with hil | hge
  · have g : (rowS ops2)[0 + i]? = some [.str ops2[i]] := by rw [Nat.zero_add]; exact rowS_get hil
    have ha' : s = ops2[i] ∨ inOps s (ops2.take (i + 1)) = false := by
      rw [List.take_succ_eq_append_getElem hil]
      by_cases e : s = ops2[i]
      · exact .inl e
      · right; simp only [inOps, List.any_append] at ha ⊢; rw [ha]; simp [e]
    repeat' first|refine sX ⟨?_⟩|(refine sp ?_ ?_<;>refine fun h=>⟨?_⟩)|fail
    all_goals try omega
    · conv => whnf
      have hin : inOps s ops2 = true := List.any_eq_true.2 ⟨_, List.getElem_mem hil, by rw [decide_eq_true_eq]; exact h.symm⟩
      exact congrArg (AV.int .i64) (by simp [partsZ, opParts, h0, h1,  hin])
    · refine ⟨[0], ops2.length - (i + 1), rfl, by omega, i + 1, q, hq, by omega, rfl, ?_, rfl⟩
      rcases ha' with e | e
      · exact absurd e.symm h
      · exact e
  rw [List.take_of_length_le (by omega)] at ha
  have hi3 : i = 6 := by omega
  subst hi3
  repeat' first|refine sX ⟨?_⟩|(refine sp ?_ ?_<;>refine fun h=>⟨?_⟩)|fail
  all_goals try omega
  conv => whnf
  exact congrArg (AV.int .i64) (by simp [partsZ, opParts, h0, h1, ha])
end Go.V
namespace Go.V
open Go.N
variable (gl : Gl)
def T_gbare : Tab := [(36, i36), (9, i9), (3, i3), (4, i4), (34, i34)]
theorem TOK_gbare : TOK Go.Proofs.Tryz.prog T_gbare := ⟨K36, ⟨K9, ⟨K3, ⟨K4, ⟨K34, trivial⟩⟩⟩⟩⟩
set_option maxHeartbeats 4000000 in
theorem c_gbare (x : Nd) (m : Nat) (hx : x.Sm) (hm : m ≤ 2) : VCall Go.Proofs.Tryz.prog gl 124 [.agg x.cells, .int .i64 (m : Nat)] (fun y => y = .bool (bareOK x m)) := by
  obtain ⟨op, a, b, name, shape, k, n, data⟩ := x
  have hname := c_lexName gl name (Nat.lt_of_le_of_lt hx.name (by decide))
  have hlen : (rowS data).length = data.length := rowS_length data
  simp only [bareOK]
  generalize isName name = nm at hname ⊢
  by_cases h1 : op = sParam
  · subst h1
    rw [show namedOp sParam = true from rfl, show decide (sParam = sScale) = false from rfl, show decide (sParam = sPower) = false from rfl, show decide (sParam = sConst) = false from rfl]
    refine vcall_of TOK_gbare HM Go.Proofs.Tryz.func124 rfl (by decide +kernel) (by decide +kernel) rfl ?_
    repeat' first|refine sY ⟨?_⟩|(refine sq ?_ ?_<;>refine fun h=>⟨?_⟩<;>(first|contradiction|(exfalso;omega)|skip))|fail
    all_goals (conv => whnf)
    all_goals (clear hname hx)
    all_goals simp_all [one]
  by_cases h2 : op = sInput
  · subst h2
    rw [show namedOp sInput = true from rfl, show decide (sInput = sScale) = false from rfl, show decide (sInput = sPower) = false from rfl, show decide (sInput = sConst) = false from rfl]
    refine vcall_of TOK_gbare HM Go.Proofs.Tryz.func124 rfl (by decide +kernel) (by decide +kernel) rfl ?_
    repeat' first|refine sY ⟨?_⟩|(refine sq ?_ ?_<;>refine fun h=>⟨?_⟩<;>(first|contradiction|(exfalso;omega)|skip))|fail
    all_goals (conv => whnf)
    all_goals (clear hname hx)
    all_goals simp_all [one]
  by_cases h3 : op = sScale
  · subst h3
    rw [show namedOp sScale = false from rfl, show decide (sScale = sScale) = true from rfl, show decide (sScale = sPower) = false from rfl, show decide (sScale = sConst) = false from rfl]
    refine vcall_of TOK_gbare HM Go.Proofs.Tryz.func124 rfl (by decide +kernel) (by decide +kernel) rfl ?_
    repeat' first|refine sY ⟨?_⟩|(refine sq ?_ ?_<;>refine fun h=>⟨?_⟩<;>(first|contradiction|(exfalso;omega)|skip))|fail
    all_goals (conv => whnf)
    all_goals (clear hname hx)
    all_goals simp_all [one]
  by_cases h4 : op = sPower
  · subst h4
    rw [show namedOp sPower = false from rfl, show decide (sPower = sScale) = false from rfl, show decide (sPower = sPower) = true from rfl, show decide (sPower = sConst) = false from rfl]
    refine vcall_of TOK_gbare HM Go.Proofs.Tryz.func124 rfl (by decide +kernel) (by decide +kernel) rfl ?_
    repeat' first|refine sY ⟨?_⟩|(refine sq ?_ ?_<;>refine fun h=>⟨?_⟩<;>(first|contradiction|(exfalso;omega)|skip))|fail
    all_goals (conv => whnf)
    all_goals (clear hname hx)
    all_goals simp_all [one]
  by_cases h5 : op = sConst
  · subst h5
    rw [show namedOp sConst = false from rfl, show decide (sConst = sScale) = false from rfl, show decide (sConst = sPower) = false from rfl, show decide (sConst = sConst) = true from rfl]
    refine vcall_of TOK_gbare HM Go.Proofs.Tryz.func124 rfl (by decide +kernel) (by decide +kernel) rfl ?_
    repeat' first|refine sY ⟨?_⟩|(refine sq ?_ ?_<;>refine fun h=>⟨?_⟩<;>(first|contradiction|(exfalso;omega)|skip))|fail
    all_goals (conv => whnf)
    all_goals (clear hname hx)
    all_goals simp_all [one]
  rw [show namedOp op = false by rw [namedOp, decide_eq_false h1, decide_eq_false h2]; rfl, decide_eq_false h3, decide_eq_false h4, decide_eq_false h5]
  refine vcall_of TOK_gbare HM Go.Proofs.Tryz.func124 rfl (by decide +kernel) (by decide +kernel) rfl ?_
  repeat' first|refine sY ⟨?_⟩|(refine sq ?_ ?_<;>refine fun h=>⟨?_⟩<;>(first|contradiction|(exfalso;omega)|skip))|fail
  all_goals (conv => whnf)
  all_goals (clear hname hx)
  all_goals simp_all [one]
end Go.V
namespace Go.V
open Go.N
set_option maxRecDepth 20000
def T_gof : Tab := [(36, i36), (9, i9), (33, i33), (34, i34), (3, i3), (56, i56), (4, i4)]
theorem TOK_gof : TOK Go.Proofs.Tryz.prog T_gof := ⟨K36, ⟨K9, ⟨K33, ⟨K34, ⟨K3, ⟨K56, ⟨K4, trivial⟩⟩⟩⟩⟩⟩⟩
def T_gof1 : Tab := [(9, i9), (4, i4)]
theorem TOK_gof1 : TOK Go.Proofs.Tryz.prog T_gof1 := ⟨K9, ⟨K4, trivial⟩⟩
theorem c_gof1 (s : ByteArray) (hs : s.size < 190000) : VCall Go.Proofs.Tryz.prog GL 161 [.str s] (fun x => x = .bool (!ratOK s)) := by
  have hr := c_RRight s hs
  refine vcall_of TOK_gof1 HM Go.Proofs.Tryz.func161 rfl (by decide +kernel) (by decide +kernel) rfl ?_
  repeat' first|refine sY ⟨?_⟩|(refine sq ?_ ?_<;>refine fun h=>⟨?_⟩<;>(first|contradiction|(exfalso;omega)|skip))|fail
  conv => whnf
  rfl
set_option maxHeartbeats 4000000 in
theorem c_gof (x : Nd) (a b : List Int) (hx : x.Sm) (ha : a.length ≤ 1000) (hb : b.length ≤ 1000) :
    VCall Go.Proofs.Tryz.prog GL 125 [.agg x.cells, .ro 1 (rowZ a), .ro 1 (rowZ b)] (fun y => y = .tup [.ro 1 (rowZ (ofZ x a b).1), .bool (ofZ x a b).2]) := by
  obtain ⟨op, na, nb, name, shape, k, n, data⟩ := x
  have hsz := c_shape_Size GL shape (Nat.lt_of_le_of_lt hx.shape (by decide))
  have hsza := c_shape_Size GL a (by omega)
  have hsame := c_shape_Same GL a b (by omega) (by omega)
  have hrk := c_RRight k (Nat.lt_of_le_of_lt hx.k (by decide))
  have hcf := c_ContainsFuncS GL 161 data (fun d => !ratOK d) (Nat.lt_of_le_of_lt hx.data (by decide)) (fun d hd => c_gof1 d (Nat.lt_of_le_of_lt (hx.each d hd) (by decide)))
  have hla : (rowZ a).length = a.length := rowZ_length a
  have hlb : (rowZ b).length = b.length := rowZ_length b
  have hld : (rowS data).length = data.length := rowS_length data
  refine VCall.taken ?_
  rcases opc_cases op with ⟨o, rfl⟩ | hn
  · cases o
    case const =>
      rw [show ofZ ⟨Opc.str .const, na, nb, name, shape, k, n, data⟩ a b = (shape, decide ((data.length : Int) = sizeZ shape) && !(data.any fun d => !ratOK d)) from rfl]
      rw [← rowS_length]
      refine vcall_of TOK_gof HM Go.Proofs.Tryz.func125 rfl (by decide +kernel) (by decide +kernel) rfl ?_
      repeat' first|refine sY ⟨?_⟩|(refine sq ?_ ?_<;>refine fun h=>⟨?_⟩<;>(first|contradiction|(exfalso;omega)|skip))|fail
      refine ⟨by decide +kernel, [0, 1, 0, 4, 12, 0, 32, 96, 252, 508, 1020, 2044, 4092, 8188, 16380, 8191, 65535], by decide +kernel, ?_⟩
      repeat' first|refine sY ⟨?_⟩|(refine sq ?_ ?_<;>refine fun h=>⟨?_⟩<;>(first|contradiction|(exfalso;omega)|skip))|fail
      all_goals (conv => whnf)
      all_goals first | exact ⟨_, roTo2 rfl rfl, rfl⟩ | exact ⟨_, roTo2 ⟨1, rfl⟩ rfl, rfl⟩ | exact ⟨_, roTo2 rfl (congrArg AV.bool (by simp [h])), rfl⟩
    case add =>
      refine vcall_of TOK_gof HM Go.Proofs.Tryz.func125 rfl (by decide +kernel) (by decide +kernel) rfl ?_
      repeat' first|refine sY ⟨?_⟩|(refine sq ?_ ?_<;>refine fun h=>⟨?_⟩<;>(first|contradiction|(exfalso;omega)|skip))|fail
      all_goals (conv => whnf)
      all_goals first | exact ⟨_, roTo2 rfl rfl, rfl⟩ | exact ⟨_, roTo2 ⟨1, rfl⟩ rfl, rfl⟩ | exact ⟨_, roTo2 rfl (congrArg AV.bool (by simp [h])), rfl⟩
    case sub =>
      refine vcall_of TOK_gof HM Go.Proofs.Tryz.func125 rfl (by decide +kernel) (by decide +kernel) rfl ?_
      repeat' first|refine sY ⟨?_⟩|(refine sq ?_ ?_<;>refine fun h=>⟨?_⟩<;>(first|contradiction|(exfalso;omega)|skip))|fail
      all_goals (conv => whnf)
      all_goals first | exact ⟨_, roTo2 rfl rfl, rfl⟩ | exact ⟨_, roTo2 ⟨1, rfl⟩ rfl, rfl⟩ | exact ⟨_, roTo2 rfl (congrArg AV.bool (by simp [h])), rfl⟩
    case mul =>
      refine vcall_of TOK_gof HM Go.Proofs.Tryz.func125 rfl (by decide +kernel) (by decide +kernel) rfl ?_
      repeat' first|refine sY ⟨?_⟩|(refine sq ?_ ?_<;>refine fun h=>⟨?_⟩<;>(first|contradiction|(exfalso;omega)|skip))|fail
      all_goals (conv => whnf)
      all_goals first | exact ⟨_, roTo2 rfl rfl, rfl⟩ | exact ⟨_, roTo2 ⟨1, rfl⟩ rfl, rfl⟩ | exact ⟨_, roTo2 rfl (congrArg AV.bool (by simp [h])), rfl⟩
    case max =>
      refine vcall_of TOK_gof HM Go.Proofs.Tryz.func125 rfl (by decide +kernel) (by decide +kernel) rfl ?_
      repeat' first|refine sY ⟨?_⟩|(refine sq ?_ ?_<;>refine fun h=>⟨?_⟩<;>(first|contradiction|(exfalso;omega)|skip))|fail
      all_goals (conv => whnf)
      all_goals first | exact ⟨_, roTo2 rfl rfl, rfl⟩ | exact ⟨_, roTo2 ⟨1, rfl⟩ rfl, rfl⟩ | exact ⟨_, roTo2 rfl (congrArg AV.bool (by simp [h])), rfl⟩
    case above =>
      refine vcall_of TOK_gof HM Go.Proofs.Tryz.func125 rfl (by decide +kernel) (by decide +kernel) rfl ?_
      repeat' first|refine sY ⟨?_⟩|(refine sq ?_ ?_<;>refine fun h=>⟨?_⟩<;>(first|contradiction|(exfalso;omega)|skip))|fail
      all_goals (conv => whnf)
      all_goals first | exact ⟨_, roTo2 rfl rfl, rfl⟩ | exact ⟨_, roTo2 ⟨1, rfl⟩ rfl, rfl⟩ | exact ⟨_, roTo2 rfl (congrArg AV.bool (by simp [h])), rfl⟩
    case relu =>
      refine vcall_of TOK_gof HM Go.Proofs.Tryz.func125 rfl (by decide +kernel) (by decide +kernel) rfl ?_
      repeat' first|refine sY ⟨?_⟩|(refine sq ?_ ?_<;>refine fun h=>⟨?_⟩<;>(first|contradiction|(exfalso;omega)|skip))|fail
      all_goals (conv => whnf)
      all_goals first | exact ⟨_, roTo2 rfl rfl, rfl⟩ | exact ⟨_, roTo2 ⟨1, rfl⟩ rfl, rfl⟩ | exact ⟨_, roTo2 rfl (congrArg AV.bool (by simp [h])), rfl⟩
    case abs =>
      refine vcall_of TOK_gof HM Go.Proofs.Tryz.func125 rfl (by decide +kernel) (by decide +kernel) rfl ?_
      repeat' first|refine sY ⟨?_⟩|(refine sq ?_ ?_<;>refine fun h=>⟨?_⟩<;>(first|contradiction|(exfalso;omega)|skip))|fail
      all_goals (conv => whnf)
      all_goals first | exact ⟨_, roTo2 rfl rfl, rfl⟩ | exact ⟨_, roTo2 ⟨1, rfl⟩ rfl, rfl⟩ | exact ⟨_, roTo2 rfl (congrArg AV.bool (by simp [h])), rfl⟩
    case step =>
      refine vcall_of TOK_gof HM Go.Proofs.Tryz.func125 rfl (by decide +kernel) (by decide +kernel) rfl ?_
      repeat' first|refine sY ⟨?_⟩|(refine sq ?_ ?_<;>refine fun h=>⟨?_⟩<;>(first|contradiction|(exfalso;omega)|skip))|fail
      all_goals (conv => whnf)
      all_goals first | exact ⟨_, roTo2 rfl rfl, rfl⟩ | exact ⟨_, roTo2 ⟨1, rfl⟩ rfl, rfl⟩ | exact ⟨_, roTo2 rfl (congrArg AV.bool (by simp [h])), rfl⟩
    case sign =>
      refine vcall_of TOK_gof HM Go.Proofs.Tryz.func125 rfl (by decide +kernel) (by decide +kernel) rfl ?_
      repeat' first|refine sY ⟨?_⟩|(refine sq ?_ ?_<;>refine fun h=>⟨?_⟩<;>(first|contradiction|(exfalso;omega)|skip))|fail
      all_goals (conv => whnf)
      all_goals first | exact ⟨_, roTo2 rfl rfl, rfl⟩ | exact ⟨_, roTo2 ⟨1, rfl⟩ rfl, rfl⟩ | exact ⟨_, roTo2 rfl (congrArg AV.bool (by simp [h])), rfl⟩
    case scale =>
      refine vcall_of TOK_gof HM Go.Proofs.Tryz.func125 rfl (by decide +kernel) (by decide +kernel) rfl ?_
      repeat' first|refine sY ⟨?_⟩|(refine sq ?_ ?_<;>refine fun h=>⟨?_⟩<;>(first|contradiction|(exfalso;omega)|skip))|fail
      all_goals (conv => whnf)
      all_goals first | exact ⟨_, roTo2 rfl rfl, rfl⟩ | exact ⟨_, roTo2 ⟨1, rfl⟩ rfl, rfl⟩ | exact ⟨_, roTo2 rfl (congrArg AV.bool (by simp [h])), rfl⟩
    case sum =>
      refine vcall_of TOK_gof HM Go.Proofs.Tryz.func125 rfl (by decide +kernel) (by decide +kernel) rfl ?_
      repeat' first|refine sY ⟨?_⟩|(refine sq ?_ ?_<;>refine fun h=>⟨?_⟩<;>(first|contradiction|(exfalso;omega)|skip))|fail
      all_goals (conv => whnf)
      all_goals first | exact ⟨_, roTo2 rfl rfl, rfl⟩ | exact ⟨_, roTo2 ⟨1, rfl⟩ rfl, rfl⟩ | exact ⟨_, roTo2 rfl (congrArg AV.bool (by simp [h])), rfl⟩
    case param =>
      refine vcall_of TOK_gof HM Go.Proofs.Tryz.func125 rfl (by decide +kernel) (by decide +kernel) rfl ?_
      repeat' first|refine sY ⟨?_⟩|(refine sq ?_ ?_<;>refine fun h=>⟨?_⟩<;>(first|contradiction|(exfalso;omega)|skip))|fail
      all_goals (conv => whnf)
      all_goals first | exact ⟨_, roTo2 rfl rfl, rfl⟩ | exact ⟨_, roTo2 ⟨1, rfl⟩ rfl, rfl⟩ | exact ⟨_, roTo2 rfl (congrArg AV.bool (by simp [h])), rfl⟩
    case input =>
      refine vcall_of TOK_gof HM Go.Proofs.Tryz.func125 rfl (by decide +kernel) (by decide +kernel) rfl ?_
      repeat' first|refine sY ⟨?_⟩|(refine sq ?_ ?_<;>refine fun h=>⟨?_⟩<;>(first|contradiction|(exfalso;omega)|skip))|fail
      all_goals (conv => whnf)
      all_goals first | exact ⟨_, roTo2 rfl rfl, rfl⟩ | exact ⟨_, roTo2 ⟨1, rfl⟩ rfl, rfl⟩ | exact ⟨_, roTo2 rfl (congrArg AV.bool (by simp [h])), rfl⟩
    case power =>
      rw [show ofZ ⟨Opc.str .power, na, nb, name, shape, k, n, data⟩ a b = (a, decide (0 ≤ n) && decide (n ≤ 6)) from rfl]
      refine vcall_of TOK_gof HM Go.Proofs.Tryz.func125 rfl (by decide +kernel) (by decide +kernel) rfl ?_
      repeat' first|refine sY ⟨?_⟩|(refine sq ?_ ?_<;>refine fun h=>⟨?_⟩<;>(first|contradiction|(exfalso;omega)|skip))|fail
      refine ⟨by decide +kernel, [0, 0, 2, 6, 14, 30, 62, 126, 254, 31, 1023], by decide +kernel, ?_⟩
      repeat' first|refine sY ⟨?_⟩|(refine sq ?_ ?_<;>refine fun h=>⟨?_⟩<;>(first|contradiction|(exfalso;omega)|skip))|fail
      all_goals (conv => whnf)
      all_goals first | exact ⟨_, roTo2 rfl rfl, rfl⟩ | exact ⟨_, roTo2 ⟨1, rfl⟩ rfl, rfl⟩ | exact ⟨_, roTo2 rfl (congrArg AV.bool (by simp [h])), rfl⟩
    case reshape =>
      refine vcall_of TOK_gof HM Go.Proofs.Tryz.func125 rfl (by decide +kernel) (by decide +kernel) rfl ?_
      repeat' first|refine sY ⟨?_⟩|(refine sq ?_ ?_<;>refine fun h=>⟨?_⟩<;>(first|contradiction|(exfalso;omega)|skip))|fail
      refine ⟨by decide +kernel, [0, 1, 0, 4, 12, 0, 60, 124, 127, 511], by decide +kernel, ?_⟩
      repeat' first|refine sY ⟨?_⟩|(refine sq ?_ ?_<;>refine fun h=>⟨?_⟩<;>(first|contradiction|(exfalso;omega)|skip))|fail
      all_goals (conv => whnf)
      all_goals first | exact ⟨_, roTo2 rfl rfl, rfl⟩ | exact ⟨_, roTo2 ⟨1, rfl⟩ rfl, rfl⟩ | exact ⟨_, roTo2 rfl (congrArg AV.bool (by simp [h])), rfl⟩
    case spread =>
      rw [show ofZ ⟨Opc.str .spread, na, nb, name, shape, k, n, data⟩ a b = (shape, decide ((a.length : Int) = 0)) from rfl]
      rw [← rowZ_length]
      refine vcall_of TOK_gof HM Go.Proofs.Tryz.func125 rfl (by decide +kernel) (by decide +kernel) rfl ?_
      repeat' first|refine sY ⟨?_⟩|(refine sq ?_ ?_<;>refine fun h=>⟨?_⟩<;>(first|contradiction|(exfalso;omega)|skip))|fail
      all_goals (conv => whnf)
      all_goals first | exact ⟨_, roTo2 rfl rfl, rfl⟩ | exact ⟨_, roTo2 ⟨1, rfl⟩ rfl, rfl⟩ | exact ⟨_, roTo2 rfl (congrArg AV.bool (by simp [h])), rfl⟩
    case transpose =>
      by_cases h2 : a.length = 2
      · obtain ⟨p, q, rfl⟩ := two_of h2
        refine vcall_of TOK_gof HM Go.Proofs.Tryz.func125 rfl (by decide +kernel) (by decide +kernel) rfl ?_
        repeat' first|refine sY ⟨?_⟩|(refine sq ?_ ?_<;>refine fun h=>⟨?_⟩<;>(first|contradiction|(exfalso;omega)|skip))|fail
        refine ⟨by decide +kernel, [0, 1, 3, 0, 8, 24, 63, 127, 255], by decide +kernel, ?_⟩
        repeat' first|refine sY ⟨?_⟩|(refine sq ?_ ?_<;>refine fun h=>⟨?_⟩<;>(first|contradiction|(exfalso;omega)|skip))|fail
        all_goals (conv => whnf)
        all_goals first | exact ⟨_, roTo2 rfl rfl, rfl⟩ | exact ⟨_, roTo2 ⟨1, rfl⟩ rfl, rfl⟩ | exact ⟨_, roTo2 rfl (congrArg AV.bool (by simp [h])), rfl⟩
      · rw [show ofZ ⟨Opc.str .transpose, na, nb, name, shape, k, n, data⟩ a b = _ from transpose_not h2]
        refine vcall_of TOK_gof HM Go.Proofs.Tryz.func125 rfl (by decide +kernel) (by decide +kernel) rfl ?_
        repeat' first|refine sY ⟨?_⟩|(refine sq ?_ ?_<;>refine fun h=>⟨?_⟩<;>(first|contradiction|(exfalso;omega)|skip))|fail
        all_goals (conv => whnf)
        all_goals first | exact ⟨_, roTo2 rfl rfl, rfl⟩ | exact ⟨_, roTo2 ⟨1, rfl⟩ rfl, rfl⟩ | exact ⟨_, roTo2 rfl (congrArg AV.bool (by simp [h])), rfl⟩
    case matmul =>
      by_cases h2 : a.length = 2 ∧ b.length = 2
      · obtain ⟨ha2, hb2⟩ := h2
        obtain ⟨p, q, rfl⟩ := two_of ha2
        obtain ⟨r, s, rfl⟩ := two_of hb2
        by_cases hqr : q = r
        · rw [show ofZ ⟨Opc.str .matmul, na, nb, name, shape, k, n, data⟩ [p, q] [r, s] = ([p, s], true) from if_pos hqr]
          refine vcall_of TOK_gof HM Go.Proofs.Tryz.func125 rfl (by decide +kernel) (by decide +kernel) rfl ?_
          repeat' first|refine sY ⟨?_⟩|(refine sq ?_ ?_<;>refine fun h=>⟨?_⟩<;>(first|contradiction|(exfalso;omega)|skip))|fail
          refine ⟨by decide +kernel, [0, 1, 3, 7, 15, 31, 63, 127, 255, 511, 1023, 2047, 511, 4607, 12799, 32767, 65535], by decide +kernel, ?_⟩
          repeat' first|refine sY ⟨?_⟩|(refine sq ?_ ?_<;>refine fun h=>⟨?_⟩<;>(first|contradiction|(exfalso;omega)|skip))|fail
          refine ⟨by decide +kernel, [0, 1, 3, 0, 8, 24, 63, 127, 255], by decide +kernel, ?_⟩
          repeat' first|refine sY ⟨?_⟩|(refine sq ?_ ?_<;>refine fun h=>⟨?_⟩<;>(first|contradiction|(exfalso;omega)|skip))|fail
          all_goals (conv => whnf)
          all_goals first | exact ⟨_, roTo2 rfl rfl, rfl⟩ | exact ⟨_, roTo2 ⟨1, rfl⟩ rfl, rfl⟩ | exact ⟨_, roTo2 rfl (congrArg AV.bool (by simp [h])), rfl⟩
        · rw [show ofZ ⟨Opc.str .matmul, na, nb, name, shape, k, n, data⟩ [p, q] [r, s] = ([], false) from if_neg hqr]
          refine vcall_of TOK_gof HM Go.Proofs.Tryz.func125 rfl (by decide +kernel) (by decide +kernel) rfl ?_
          repeat' first|refine sY ⟨?_⟩|(refine sq ?_ ?_<;>refine fun h=>⟨?_⟩<;>(first|contradiction|(exfalso;omega)|skip))|fail
          refine ⟨by decide +kernel, [0, 1, 3, 7, 15, 31, 63, 127, 255, 511, 1023, 2047, 511, 4607, 12799, 32767, 65535], by decide +kernel, ?_⟩
          repeat' first|refine sY ⟨?_⟩|(refine sq ?_ ?_<;>refine fun h=>⟨?_⟩<;>(first|contradiction|(exfalso;omega)|skip))|fail
          all_goals (conv => whnf)
          all_goals first | exact ⟨_, roTo2 rfl rfl, rfl⟩ | exact ⟨_, roTo2 ⟨1, rfl⟩ rfl, rfl⟩ | exact ⟨_, roTo2 rfl (congrArg AV.bool (by simp [h])), rfl⟩
      · rw [show ofZ ⟨Opc.str .matmul, na, nb, name, shape, k, n, data⟩ a b = _ from matmul_not fun h => h2 ⟨h.1, h.2.1⟩]
        refine vcall_of TOK_gof HM Go.Proofs.Tryz.func125 rfl (by decide +kernel) (by decide +kernel) rfl ?_
        repeat' first|refine sY ⟨?_⟩|(refine sq ?_ ?_<;>refine fun h=>⟨?_⟩<;>(first|contradiction|(exfalso;omega)|skip))|fail
        refine ⟨by decide +kernel, [0, 1, 3, 7, 15, 31, 63, 127, 255, 511, 1023, 2047, 511, 4607, 12799, 32767, 65535], by decide +kernel, ?_⟩
        repeat' first|refine sY ⟨?_⟩|(refine sq ?_ ?_<;>refine fun h=>⟨?_⟩<;>(first|contradiction|(exfalso;omega)|skip))|fail
        all_goals (conv => whnf)
        all_goals first | exact ⟨_, roTo2 rfl rfl, rfl⟩ | exact ⟨_, roTo2 ⟨1, rfl⟩ rfl, rfl⟩ | exact ⟨_, roTo2 rfl (congrArg AV.bool (by simp [h])), rfl⟩
  · rw [ofZ_none hn]
    have kk := opc_none hn
    have k0 : ¬ op = sConst := kk .const
    have k1 : ¬ op = sAdd := kk .add
    have k2 : ¬ op = sSub := kk .sub
    have k3 : ¬ op = sMul := kk .mul
    have k4 : ¬ op = sMax := kk .max
    have k5 : ¬ op = sAbove := kk .above
    have k6 : ¬ op = sMatmul := kk .matmul
    have k7 : ¬ op = sRelu := kk .relu
    have k8 : ¬ op = sAbs := kk .abs
    have k9 : ¬ op = sStep := kk .step
    have k10 : ¬ op = sSign := kk .sign
    have k11 : ¬ op = sScale := kk .scale
    have k12 : ¬ op = sPower := kk .power
    have k13 : ¬ op = sTranspose := kk .transpose
    have k14 : ¬ op = sSum := kk .sum
    have k15 : ¬ op = sReshape := kk .reshape
    have k16 : ¬ op = sSpread := kk .spread
    refine vcall_of TOK_gof HM Go.Proofs.Tryz.func125 rfl (by decide +kernel) (by decide +kernel) rfl ?_
    repeat' first|refine sY ⟨?_⟩|(refine sq ?_ ?_<;>refine fun h=>⟨?_⟩<;>(first|contradiction|(exfalso;omega)|skip))|fail
    all_goals (conv => whnf)
    all_goals first | exact ⟨_, roTo2 rfl rfl, rfl⟩ | exact ⟨_, roTo2 ⟨1, rfl⟩ rfl, rfl⟩ | exact ⟨_, roTo2 rfl (congrArg AV.bool (by simp [h])), rfl⟩
end Go.V
namespace Go.V
open Go.N
set_option maxRecDepth 20000
def T_gInfer : Tab := [(36, i36), (9, i9), (4, i4), (3, i3), (22, i22), (33, i33)]
theorem TOK_gInfer : TOK Go.Proofs.Tryz.prog T_gInfer := ⟨K36, ⟨K9, ⟨K4, ⟨K3, ⟨K22, ⟨K33, trivial⟩⟩⟩⟩⟩⟩
theorem c_CloneR (gl : Gl) (l : List Int) (hll : l.length < 1000000) : VCall Go.Proofs.Tryz.prog gl 82 [.ro 1 (rowZ l)] (fun x => x = .ro 1 (rowZ l)) :=
  VCall.taken ((c_CloneI gl l hll).mono fun x hx => by
    rcases hx with rfl | ⟨rfl, rfl⟩
    · exact ⟨_, rfl, rfl⟩
    · exact ⟨_, (show RoTo .nils (.ro 1 []) from ⟨1, rfl⟩), rfl⟩)
theorem z1 {s : List Int} {ok : Bool} (h : (!ok) = true) : okZ (s, ok) = none := by simp at h; simp [okZ, h]
theorem z2 {s : List Int} {ok : Bool} (h : (!okShape s) = true) : okZ (s, ok) = none := by simp at h; simp [okZ, h]
theorem z3 {s : List Int} {ok : Bool} (h1 : (!ok) = false) (h : (!okShape s) = false) : okZ (s, ok) = some s := by simp at h h1; simp [okZ, h, h1]
set_option maxHeartbeats 4000000 in
theorem c_gInfer (l : List Nd) (x : Nd) (hx : x.Sm) (hl : ∀ y ∈ l, y.Sm) (hll : l.length ≤ 1000) :
    VCall Go.Proofs.Tryz.prog GL 67 [.ro 8 (rowN l), .agg x.cells] (fun y => y = .tup [.ro 1 (rowZ ((inferN l x).getD [])), .bool (inferN l x).isSome]) := by
  obtain ⟨op, a, b, name, shape, k, n, data⟩ := x
  have hp := c_gparts GL op
  have hlr : (rowN l).length = l.length := rowN_length l
  refine VCall.taken ?_
  cases hop : opParts op with
  | none =>
    rw [inferN_none hop]
    rw [partsN, hop] at hp
    refine vcall_of TOK_gInfer HM Go.Proofs.Tryz.func67 rfl (by decide +kernel) (by decide +kernel) rfl ?_
    repeat' first|refine sY ⟨?_⟩|(refine sq ?_ ?_<;>refine fun h=>⟨?_⟩<;>(first|contradiction|(exfalso;omega)|skip))|fail
    all_goals (conv => whnf)
    all_goals exact ⟨_, roTo2 (show RoTo .nils (.ro 1 []) from ⟨1, rfl⟩) rfl, rfl⟩
  | some m =>
    rw [partsN, hop] at hp
    have hm := opParts_le hop
    have hb := c_gbare GL ⟨op, a, b, name, shape, k, n, data⟩ m hx hm
    have hfe : fitN l ⟨op, a, b, name, shape, k, n, data⟩ m = (bareOK ⟨op, a, b, name, shape, k, n, data⟩ m && ((decide (m = 0) || inR a l) && (decide (m < 2) || inR b l))) := rfl
    cases hbr : bareOK ⟨op, a, b, name, shape, k, n, data⟩ m with
    | false =>
      rw [inferN_bad hop (by rw [hfe, hbr]; rfl)]
      rw [hbr] at hb
      refine vcall_of TOK_gInfer HM Go.Proofs.Tryz.func67 rfl (by decide +kernel) (by decide +kernel) rfl ?_
      repeat' first|refine sY ⟨?_⟩|(refine sq ?_ ?_<;>refine fun h=>⟨?_⟩<;>(first|contradiction|(exfalso;omega)|skip))|fail
      all_goals (conv => whnf)
      all_goals exact ⟨_, roTo2 (show RoTo .nils (.ro 1 []) from ⟨1, rfl⟩) rfl, rfl⟩
    | true =>
      rw [hbr] at hb hfe
      have h3 : m = 0 ∨ m = 1 ∨ m = 2 := by omega
      rcases h3 with rfl | rfl | rfl
      · have hf : fitN l ⟨op, a, b, name, shape, k, n, data⟩ 0 = true := hfe
        rw [inferN_ok hop hf]
        rw [if_pos rfl, if_pos (by omega)]
        have hof := c_gof ⟨op, a, b, name, shape, k, n, data⟩ [] [] hx (by simp) (by simp)
        have hlen := ofZ_len (x := ⟨op, a, b, name, shape, k, n, data⟩) (a := []) (b := []) hx (by simp) (by simp)
        generalize ofZ ⟨op, a, b, name, shape, k, n, data⟩ [] [] = r at hof hlen ⊢
        obtain ⟨s, ok⟩ := r
        have hsr := c_shape_Right GL s (by dsimp only at hlen; omega)
        have hcl := c_CloneR GL s (by dsimp only at hlen; omega)
        dsimp only at hof
        refine vcall_of TOK_gInfer HM Go.Proofs.Tryz.func67 rfl (by decide +kernel) (by decide +kernel) rfl ?_
        repeat' first|refine sY ⟨?_⟩|(refine sq ?_ ?_<;>refine fun h=>⟨?_⟩<;>(first|contradiction|(exfalso;omega)|skip))|fail
        all_goals (conv => whnf)
        all_goals first | exact ⟨_, roTo2 (show RoTo .nils (.ro 1 []) from ⟨1, rfl⟩) rfl, by rw [z1 h]; rfl⟩ | exact ⟨_, roTo2 (show RoTo .nils (.ro 1 []) from ⟨1, rfl⟩) rfl, by rw [z2 h]; rfl⟩ | exact ⟨_, roTo2 rfl rfl, by rw [z3 (by assumption) h]; rfl⟩
      · cases ha : inR a l with
        | false =>
          rw [inferN_bad hop (by rw [hfe, ha]; rfl)]
          have := inR_not ha
          refine vcall_of TOK_gInfer HM Go.Proofs.Tryz.func67 rfl (by decide +kernel) (by decide +kernel) rfl ?_
          repeat' first|refine sY ⟨?_⟩|(refine sq ?_ ?_<;>refine fun h=>⟨?_⟩<;>(first|contradiction|(exfalso;omega)|skip))|fail
          all_goals (conv => whnf)
          all_goals exact ⟨_, roTo2 (show RoTo .nils (.ro 1 []) from ⟨1, rfl⟩) rfl, rfl⟩
        | true =>
          have hf : fitN l ⟨op, a, b, name, shape, k, n, data⟩ 1 = true := by rw [hfe, ha]; rfl
          obtain ⟨i, hi1, hi2⟩ := inR_nat ha
          subst hi1
          have g := rowN_get hi2
          have hs := (hl _ (List.getElem_mem hi2)).shape
          rw [inferN_ok hop hf]
          rw [if_neg (by omega), if_pos (by omega)]; dsimp only; rw [shAt_nat hi2]
          have hof := c_gof ⟨op, (i : Int), b, name, shape, k, n, data⟩ l[i].shape [] hx (by assumption) (by simp)
          have hlen := ofZ_len (x := ⟨op, (i : Int), b, name, shape, k, n, data⟩) (a := l[i].shape) (b := []) hx (by assumption) (by simp)
          generalize ofZ ⟨op, (i : Int), b, name, shape, k, n, data⟩ l[i].shape [] = r at hof hlen ⊢
          obtain ⟨s, ok⟩ := r
          have hsr := c_shape_Right GL s (by dsimp only at hlen; omega)
          have hcl := c_CloneR GL s (by dsimp only at hlen; omega)
          dsimp only at hof
          refine vcall_of TOK_gInfer HM Go.Proofs.Tryz.func67 rfl (by decide +kernel) (by decide +kernel) rfl ?_
          repeat' first|refine sY ⟨?_⟩|(refine sq ?_ ?_<;>refine fun h=>⟨?_⟩<;>(first|contradiction|(exfalso;omega)|skip))|fail
          all_goals (conv => whnf)
          all_goals first | exact ⟨_, roTo2 (show RoTo .nils (.ro 1 []) from ⟨1, rfl⟩) rfl, by rw [z1 h]; rfl⟩ | exact ⟨_, roTo2 (show RoTo .nils (.ro 1 []) from ⟨1, rfl⟩) rfl, by rw [z2 h]; rfl⟩ | exact ⟨_, roTo2 rfl rfl, by rw [z3 (by assumption) h]; rfl⟩
      · cases ha : inR a l with
        | false =>
          rw [inferN_bad hop (by rw [hfe, ha]; rfl)]
          have := inR_not ha
          refine vcall_of TOK_gInfer HM Go.Proofs.Tryz.func67 rfl (by decide +kernel) (by decide +kernel) rfl ?_
          repeat' first|refine sY ⟨?_⟩|(refine sq ?_ ?_<;>refine fun h=>⟨?_⟩<;>(first|contradiction|(exfalso;omega)|skip))|fail
          all_goals (conv => whnf)
          all_goals exact ⟨_, roTo2 (show RoTo .nils (.ro 1 []) from ⟨1, rfl⟩) rfl, rfl⟩
        | true =>
          obtain ⟨i, hi1, hi2⟩ := inR_nat ha
          subst hi1
          cases hbn : inR b l with
          | false =>
            rw [inferN_bad hop (by rw [hfe, ha, hbn]; rfl)]
            have := inR_not hbn
            refine vcall_of TOK_gInfer HM Go.Proofs.Tryz.func67 rfl (by decide +kernel) (by decide +kernel) rfl ?_
            repeat' first|refine sY ⟨?_⟩|(refine sq ?_ ?_<;>refine fun h=>⟨?_⟩<;>(first|contradiction|(exfalso;omega)|skip))|fail
            all_goals (conv => whnf)
            all_goals exact ⟨_, roTo2 (show RoTo .nils (.ro 1 []) from ⟨1, rfl⟩) rfl, rfl⟩
          | true =>
            have hf : fitN l ⟨op, (i : Int), b, name, shape, k, n, data⟩ 2 = true := by rw [hfe, ha, hbn]; rfl
            obtain ⟨j, hj1, hj2⟩ := inR_nat hbn
            subst hj1
            have g := rowN_get hi2
            have g2 := rowN_get hj2
            have hs := (hl _ (List.getElem_mem hi2)).shape
            have hs2 := (hl _ (List.getElem_mem hj2)).shape
            rw [inferN_ok hop hf]
            rw [if_neg (by omega), if_neg (by omega)]; dsimp only; rw [shAt_nat hi2, shAt_nat hj2]
            have hof := c_gof ⟨op, (i : Int), (j : Int), name, shape, k, n, data⟩ l[i].shape l[j].shape hx (by exact hs) (by exact hs2)
            have hlen := ofZ_len (x := ⟨op, (i : Int), (j : Int), name, shape, k, n, data⟩) (a := l[i].shape) (b := l[j].shape) hx (by exact hs) (by exact hs2)
            generalize ofZ ⟨op, (i : Int), (j : Int), name, shape, k, n, data⟩ l[i].shape l[j].shape = r at hof hlen ⊢
            obtain ⟨s, ok⟩ := r
            have hsr := c_shape_Right GL s (by dsimp only at hlen; omega)
            have hcl := c_CloneR GL s (by dsimp only at hlen; omega)
            dsimp only at hof
            refine vcall_of TOK_gInfer HM Go.Proofs.Tryz.func67 rfl (by decide +kernel) (by decide +kernel) rfl ?_
            repeat' first|refine sY ⟨?_⟩|(refine sq ?_ ?_<;>refine fun h=>⟨?_⟩<;>(first|contradiction|(exfalso;omega)|skip))|fail
            all_goals (conv => whnf)
            all_goals first | exact ⟨_, roTo2 (show RoTo .nils (.ro 1 []) from ⟨1, rfl⟩) rfl, by rw [z1 h]; rfl⟩ | exact ⟨_, roTo2 (show RoTo .nils (.ro 1 []) from ⟨1, rfl⟩) rfl, by rw [z2 h]; rfl⟩ | exact ⟨_, roTo2 rfl rfl, by rw [z3 (by assumption) h]; rfl⟩
end Go.V
