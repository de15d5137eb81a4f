/-
  Lemmas (part 8) for: What fold.Fold makes of any graph is what the document says (FoldMakes, FoldAll, FoldNames, FoldLeaves hold for every graph); no condition.
-/
import Derived.Test.YtndiceggidmgkaaGreatDoorFold3
set_option linter.all false
namespace Go.V
open Go.N
set_option maxRecDepth 20000
def T_r12_between : Tab := [(3, i3)]
theorem TOK_r12_between : TOK Go.Proofs.Tryz.prog T_r12_between := ⟨K3, trivial⟩
def T_r12_longest : Tab := [(34, i34), (9, i9), (3, i3)]
theorem TOK_r12_longest : TOK Go.Proofs.Tryz.prog T_r12_longest := ⟨K34, ⟨K9, ⟨K3, trivial⟩⟩⟩
def T_r12_part : Tab := [(3, i3), (33, i33)]
theorem TOK_r12_part : TOK Go.Proofs.Tryz.prog T_r12_part := ⟨K3, ⟨K33, trivial⟩⟩
def T_r12_many : Tab := [(33, i33), (3, i3)]
theorem TOK_r12_many : TOK Go.Proofs.Tryz.prog T_r12_many := ⟨K33, ⟨K3, trivial⟩⟩
def betw (n m : Int) : Int := if n < 1 then 1 else if m < n then m else n
theorem betw_in (n m : Int) (hm : 1 ≤ m) : 1 ≤ betw n m ∧ betw n m ≤ m := by unfold betw; split <;> (try split) <;> omega
theorem c_between (n m : Int) : VCall Go.Proofs.Tryz.prog GL 41 [.int .i64 n, .int .i64 m] (fun y => y = .int .i64 (betw n m)) := by
  by_cases h1 : n < 1
  · rw [betw, if_pos h1]
    refine vcall_of TOK_r12_between HM Go.Proofs.Tryz.func41 rfl (by decide +kernel) (by decide +kernel) rfl ?_
    repeat' first|refine sY ⟨?_⟩|(refine sq ?_ ?_<;>refine fun h=>⟨?_⟩<;>(first|contradiction|(exfalso;omega)|skip))|fail
    all_goals (conv => whnf)
    all_goals rfl
  · by_cases h2 : m < n
    · rw [betw, if_neg h1, if_pos h2]
      refine vcall_of TOK_r12_between HM Go.Proofs.Tryz.func41 rfl (by decide +kernel) (by decide +kernel) rfl ?_
      repeat' first|refine sY ⟨?_⟩|(refine sq ?_ ?_<;>refine fun h=>⟨?_⟩<;>(first|contradiction|(exfalso;omega)|skip))|fail
      all_goals (conv => whnf)
      all_goals rfl
    · rw [betw, if_neg h1, if_neg h2]
      refine vcall_of TOK_r12_between HM Go.Proofs.Tryz.func41 rfl (by decide +kernel) (by decide +kernel) rfl ?_
      repeat' first|refine sY ⟨?_⟩|(refine sq ?_ ?_<;>refine fun h=>⟨?_⟩<;>(first|contradiction|(exfalso;omega)|skip))|fail
      all_goals (conv => whnf)
      all_goals rfl
def partZw (w : List Int) (i : Int) : Int := if 0 ≤ i ∧ i.toNat < w.length then w[i.toNat]?.getD 1 else 1
theorem c_part (w : List Int) (i : Int) (hw : w.length ≤ 1000) : VCall Go.Proofs.Tryz.prog GL 65 [.ro 1 (rowZ w), .int .i64 i] (fun y => y = .int .i64 (partZw w i)) := by
  have hl := rowZ_length w
  by_cases h : 0 ≤ i ∧ i.toNat < w.length
  · obtain ⟨j, rfl⟩ : ∃ j : Nat, i = j := ⟨i.toNat, by omega⟩
    have hj : j < w.length := by simpa using h.2
    have e : partZw w j = w[j] := by rw [partZw, if_pos h, Int.toNat_natCast, List.getElem?_eq_getElem hj]; rfl
    have g := rowZ_get hj
    rw [e]
    generalize w[j] = x at g
    refine vcall_of TOK_r12_part HM Go.Proofs.Tryz.func65 rfl (by decide +kernel) (by decide +kernel) rfl ?_
    repeat' first|refine sY ⟨?_⟩|(refine sq ?_ ?_<;>refine fun h=>⟨?_⟩<;>(first|contradiction|(exfalso;omega)|skip))|fail
    all_goals (conv => whnf)
    all_goals rfl
  · have e : partZw w i = 1 := by rw [partZw, if_neg h]
    rw [e]
    by_cases h0 : i < 0
    · refine vcall_of TOK_r12_part HM Go.Proofs.Tryz.func65 rfl (by decide +kernel) (by decide +kernel) rfl ?_
      repeat' first|refine sY ⟨?_⟩|(refine sq ?_ ?_<;>refine fun h=>⟨?_⟩<;>(first|contradiction|(exfalso;omega)|skip))|fail
      all_goals (conv => whnf)
      all_goals rfl
    · have h1 : (w.length : Int) ≤ i := by omega
      refine vcall_of TOK_r12_part HM Go.Proofs.Tryz.func65 rfl (by decide +kernel) (by decide +kernel) rfl ?_
      repeat' first|refine sY ⟨?_⟩|(refine sq ?_ ?_<;>refine fun h=>⟨?_⟩<;>(first|contradiction|(exfalso;omega)|skip))|fail
      all_goals (conv => whnf)
      all_goals rfl
def manyZ (s : List Int) : Int := (s.take 5).foldl (fun n d => betw (n * betw d 64) 64) 1
theorem manyZ_step {s : List Int} {i : Nat} (h : i < s.length) (h5 : i < 5) : manyZ (s.take (i + 1)) = betw (manyZ (s.take i) * betw s[i] 64) 64 := by
  rw [manyZ, manyZ, List.take_take, List.take_take, Nat.min_eq_right (by omega), Nat.min_eq_right (by omega), List.take_succ_eq_append_getElem h, List.foldl_append]; rfl
theorem manyZ_in (s : List Int) : 1 ≤ manyZ s ∧ manyZ s ≤ 64 := by
  unfold manyZ
  generalize s.take 5 = l
  have : ∀ (l : List Int) (b : Int), 1 ≤ b ∧ b ≤ 64 → 1 ≤ l.foldl (fun n d => betw (n * betw d 64) 64) b ∧ l.foldl (fun n d => betw (n * betw d 64) 64) b ≤ 64 := fun l => by
    induction l with
    | nil => intro b h; exact h
    | cons x l ih => intro b h; exact ih _ (betw_in _ 64 (by decide))
  exact this l 1 (by decide)
set_option maxHeartbeats 1000000 in
theorem c_many (s : List Int) (hs : s.length ≤ 1000) : VCall Go.Proofs.Tryz.prog GL 66 [.ro 1 (rowZ s)] (fun y => y = .int .i64 (manyZ s)) := by
  have hl := rowZ_length s
  refine vcall_of TOK_r12_many HM Go.Proofs.Tryz.func66 rfl (by decide +kernel) (by decide +kernel) rfl ?_
  repeat' first|refine sY ⟨?_⟩|(refine sq ?_ ?_<;>refine fun h=>⟨?_⟩<;>(first|contradiction|(exfalso;omega)|skip))|fail
  refine ⟨[0, 3, 4], [], fun m st => ∃ i : Nat, i ≤ s.length ∧ i ≤ 5 ∧ m = 5 - i ∧ st = ⟨[(0, .ro 1 (rowZ s)), (3, .int .i64 (manyZ (s.take i))), (4, .int .i64 (i : Nat))], []⟩, rfl, ⟨5, 0, by omega, by omega, rfl, rfl⟩, ?_⟩
  rintro m _ ⟨i, hi, hi5, hm, rfl⟩
  by_cases hc : i < s.length ∧ i < 5
  · obtain ⟨hil, h5⟩ := hc
    have g := rowZ_get hil
    have hst := manyZ_step hil h5
    have hb1 := c_between s[i] 64
    have hb2 := c_between (manyZ (s.take i) * betw s[i] 64) 64
    rw [← hst] at hb2
    have hx := betw_in s[i] 64 (by decide)
    have hy := manyZ_in (s.take i)
    generalize s[i] = d at g hb1 hb2 hx
    generalize betw d 64 = e at hb1 hb2 hx
    have hmul : 0 ≤ manyZ (s.take i) * e ∧ manyZ (s.take i) * e ≤ 4096 := by
      generalize manyZ (s.take i) = n at hy
      exact ⟨Int.mul_nonneg (by omega) (by omega), by have := Int.mul_le_mul hy.2 hx.2 (by omega) (by omega : (0 : Int) ≤ 64); omega⟩
    repeat' first|refine sY ⟨?_⟩|(refine sq ?_ ?_<;>refine fun h=>⟨?_⟩<;>(first|contradiction|(exfalso;omega)|skip))|fail
    all_goals exact ⟨[], 5 - (i + 1), rfl, by omega, i + 1, by omega, by omega, rfl, rfl⟩
  · have e : manyZ (s.take i) = manyZ s := by
      rw [manyZ, manyZ, List.take_take]
      congr 1
      rcases Nat.lt_or_ge i 5 with h | h
      · rw [Nat.min_eq_right (by omega), List.take_of_length_le (by omega), List.take_of_length_le (by omega)]
      · rw [Nat.min_eq_left h]
    rw [e]
    by_cases h5 : i < 5
    · have hge : s.length ≤ i := by omega
      repeat' first|refine sY ⟨?_⟩|(refine sq ?_ ?_<;>refine fun h=>⟨?_⟩<;>(first|contradiction|(exfalso;omega)|skip))|fail
      all_goals (conv => whnf)
      all_goals rfl
    · by_cases hil : i < s.length
      · repeat' first|refine sY ⟨?_⟩|(refine sq ?_ ?_<;>refine fun h=>⟨?_⟩<;>(first|contradiction|(exfalso;omega)|skip))|fail
        all_goals (conv => whnf)
        all_goals rfl
      · repeat' first|refine sY ⟨?_⟩|(refine sq ?_ ?_<;>refine fun h=>⟨?_⟩<;>(first|contradiction|(exfalso;omega)|skip))|fail
        all_goals (conv => whnf)
        all_goals rfl
def lngN (l : List ByteArray) : Nat := l.foldl (fun n s => if n < s.size then s.size else n) 1
theorem lngN_step {l : List ByteArray} {i : Nat} (h : i < l.length) : lngN (l.take (i + 1)) = if lngN (l.take i) < l[i].size then l[i].size else lngN (l.take i) := by
  rw [lngN, List.take_succ_eq_append_getElem h, List.foldl_append]; rfl
set_option maxHeartbeats 1000000 in
theorem c_longest (l : List ByteArray) (hl : l.length ≤ 1000) (hs : ∀ x ∈ l, x.size ≤ 1000000) : VCall Go.Proofs.Tryz.prog GL 42 [.ro 1 (rowS l)] (fun y => y = .int .i64 (lngN l : Nat)) := by
  have hll := rowS_length l
  refine vcall_of TOK_r12_longest HM Go.Proofs.Tryz.func42 rfl (by decide +kernel) (by decide +kernel) rfl ?_
  repeat' first|refine sY ⟨?_⟩|(refine sq ?_ ?_<;>refine fun h=>⟨?_⟩<;>(first|contradiction|(exfalso;omega)|skip))|fail
  refine ⟨[0, 3, 4], [], fun m st => ∃ i : Nat, i ≤ l.length ∧ m = l.length - i ∧ st = ⟨[(0, .ro 1 (rowS l)), (3, .int .i64 (lngN (l.take i) : Nat)), (4, .int .i64 (i : Nat))], []⟩, rfl, ⟨l.length, 0, by omega, rfl, rfl⟩, ?_⟩
  rintro m _ ⟨i, hi, hm, rfl⟩
  rcases Nat.lt_or_ge i l.length with hil | hge
  · have g := rowS_get hil
    have hst := lngN_step hil
    generalize l[i] = x at g hst
    by_cases hlt : lngN (l.take i) < x.size
    · rw [if_pos hlt] at hst
      repeat' first|refine sY ⟨?_⟩|(refine sq ?_ ?_<;>refine fun h=>⟨?_⟩<;>(first|contradiction|(exfalso;omega)|skip))|fail
      all_goals exact ⟨[], l.length - (i + 1), rfl, by omega, i + 1, by omega, rfl, Eq.trans rfl (congrArg (fun z : Nat => (⟨[(0, .ro 1 (rowS l)), (3, .int .i64 (z : Nat)), (4, .int .i64 ((i + 1 : Nat) : Int))], []⟩ : St)) hst.symm)⟩
    · rw [if_neg hlt] at hst
      repeat' first|refine sY ⟨?_⟩|(refine sq ?_ ?_<;>refine fun h=>⟨?_⟩<;>(first|contradiction|(exfalso;omega)|skip))|fail
      all_goals exact ⟨[], l.length - (i + 1), rfl, by omega, i + 1, by omega, rfl, Eq.trans rfl (congrArg (fun z : Nat => (⟨[(0, .ro 1 (rowS l)), (3, .int .i64 (z : Nat)), (4, .int .i64 ((i + 1 : Nat) : Int))], []⟩ : St)) hst.symm)⟩
  · have e : l.take i = l := List.take_of_length_le (by omega)
    rw [e]
    repeat' first|refine sY ⟨?_⟩|(refine sq ?_ ?_<;>refine fun h=>⟨?_⟩<;>(first|contradiction|(exfalso;omega)|skip))|fail
    all_goals (conv => whnf)
    all_goals rfl
end Go.V
namespace Go.V
open Go.N
set_option maxRecDepth 20000
def wRaw (op : ByteArray) (xa xb : Int) (s : List Int) (n : Int) : Int :=
  if op = sParam ∨ op = sInput ∨ op = sConst ∨ op = sAbove ∨ op = sStep ∨ op = sSign then 1
  else if op = sAdd ∨ op = sSub ∨ op = sMul ∨ op = sMax then xa + xb
  else if op = sMatmul then (if s.length = 2 then betw (s[1]?.getD 1) 64 else 1) * (xa + xb)
  else if op = sSum then manyZ s * xa
  else if op = sScale then xa + 1
  else if op = sPower then xa * betw n 6
  else xa
def wShape (l : List Nd) (i : Nat) (x : Nd) : List Int := if 0 ≤ x.a ∧ x.a < i then shAt l x.a else []
def wNode (l : List Nd) (w : List Int) (i : Nat) (x : Nd) : Int := betw (wRaw x.op (partZw w x.a) (partZw w x.b) (wShape l i x) x.n) 100000
def wList (l : List Nd) : Nat → List Int
  | 0 => []
  | i + 1 => match l[i]? with
    | none => wList l i
    | some x => wList l i ++ [wNode l (wList l i) i x]
def maxL (w : List Int) : Int := w.foldl (fun m x => if m < x then x else m) 1
theorem maxL_snoc (w : List Int) (x : Int) : maxL (w ++ [x]) = if maxL w < x then x else maxL w := by rw [maxL, List.foldl_append]; rfl
theorem wList_step {l : List Nd} {i : Nat} (h : i < l.length) : wList l (i + 1) = wList l i ++ [wNode l (wList l i) i l[i]] := by simp only [wList, List.getElem?_eq_getElem h]
theorem wList_len {l : List Nd} : ∀ i, i ≤ l.length → (wList l i).length = i
  | 0, _ => rfl
  | i + 1, h => by rw [wList_step (by omega), List.length_append, wList_len i (by omega)]; rfl
theorem wList_in {l : List Nd} : ∀ i, i ≤ l.length → ∀ x ∈ wList l i, 1 ≤ x ∧ x ≤ 100000
  | 0, _, x, hx => by simp [wList] at hx
  | i + 1, h, x, hx => by
    rw [wList_step (by omega), List.mem_append, List.mem_singleton] at hx
    rcases hx with hx | rfl
    · exact wList_in i (by omega) x hx
    · exact betw_in _ _ (by decide)
theorem partZw_in {w : List Int} (h : ∀ x ∈ w, 1 ≤ x ∧ x ≤ 100000) (i : Int) : 1 ≤ partZw w i ∧ partZw w i ≤ 100000 := by
  unfold partZw
  split
  · rename_i hi
    rw [List.getElem?_eq_getElem hi.2]
    exact h _ (List.getElem_mem _)
  · omega
theorem wRaw_in {op : ByteArray} {xa xb : Int} {s : List Int} {n : Int} (ha : 1 ≤ xa ∧ xa ≤ 100000) (hb : 1 ≤ xb ∧ xb ≤ 100000) : 1 ≤ wRaw op xa xb s n ∧ wRaw op xa xb s n ≤ 12800000 := by
  have hm := manyZ_in s
  have hn := betw_in n 6 (by decide)
  have hk : 1 ≤ (if s.length = 2 then betw (s[1]?.getD 1) 64 else 1) ∧ (if s.length = 2 then betw (s[1]?.getD 1) 64 else 1) ≤ 64 := by
    split
    · exact betw_in _ 64 (by decide)
    · omega
  generalize hkk : (if s.length = 2 then betw (s[1]?.getD 1) 64 else 1) = kk at hk
  have mulb : ∀ p q P Q : Int, 1 ≤ p → p ≤ P → 1 ≤ q → q ≤ Q → 1 ≤ p * q ∧ p * q ≤ P * Q := fun p q P Q h1 h2 h3 h4 => by
    constructor
    · have := Int.mul_le_mul h1 h3 (by omega) (by omega); simpa using this
    · exact Int.mul_le_mul h2 h4 (by omega) (by omega)
  have m1 := mulb kk (xa + xb) 64 200000 hk.1 hk.2 (by omega) (by omega)
  have m2 := mulb (manyZ s) xa 64 100000 hm.1 hm.2 ha.1 ha.2
  have m3 := mulb xa (betw n 6) 100000 6 ha.1 ha.2 hn.1 hn.2
  unfold wRaw
  rw [hkk]
  repeat' split
  all_goals omega
def wRawO (o : Opc) (xa xb : Int) (s : List Int) (n : Int) : Int := match o with
  | .param | .input | .const | .above | .step | .sign => 1
  | .add | .sub | .mul | .max => xa + xb
  | .matmul => (if s.length = 2 then betw (s[1]?.getD 1) 64 else 1) * (xa + xb)
  | .sum => manyZ s * xa
  | .scale => xa + 1
  | .power => xa * betw n 6
  | _ => xa
theorem wRaw_str (o : Opc) (xa xb : Int) (s : List Int) (n : Int) : wRaw o.str xa xb s n = wRawO o xa xb s n := by
  unfold wRaw
  cases o
  all_goals first | rfl | simp [Opc.str, wRawO]
theorem maxL_in {w : List Int} (h : ∀ x ∈ w, 1 ≤ x ∧ x ≤ 100000) : 1 ≤ maxL w ∧ maxL w ≤ 100000 := by
  have : ∀ (l : List Int) (b : Int), 1 ≤ b ∧ b ≤ 100000 → (∀ x ∈ l, 1 ≤ x ∧ x ≤ 100000) → 1 ≤ l.foldl (fun m x => if m < x then x else m) b ∧ l.foldl (fun m x => if m < x then x else m) b ≤ 100000 := fun l => by
    induction l with
    | nil => intro b hb _; exact hb
    | cons x l ih =>
      intro b hb hx
      refine ih _ ?_ fun y hy => hx y (List.mem_cons_of_mem _ hy)
      have := hx x List.mem_cons_self
      dsimp only
      split <;> omega
  exact this w 1 (by decide) h
end Go.V
namespace Go.V
open Go.N
set_option maxRecDepth 20000
def T_r12_DegreeW : Tab := [(24, i24), (22, i22), (36, i36), (3, i3), (33, i33), (9, i9)]
theorem TOK_r12_DegreeW : TOK Go.Proofs.Tryz.prog T_r12_DegreeW := ⟨K24, ⟨K22, ⟨K36, ⟨K3, ⟨K33, ⟨K9, trivial⟩⟩⟩⟩⟩⟩
theorem betw1 : betw 1 100000 = 1 := by decide
theorem rowZ_snocU (pl : List Int) (v : Int) : rowZ (pl ++ [v]) = (rowZ pl).take (rowZ pl).length ++ [[.int .i64 v]] := by rw [List.take_length]; simp [rowZ]
theorem betw_rec (x y : Int) (h1 : 1 ≤ x) (hxy : x = y) : @Decidable.rec (x < 1) (fun _ => Int) (fun _ => if 100000 < y then 100000 else y) (fun _ => 1) (Int.decLt x 1) = betw y 100000 := by
  subst hxy
  cases Int.decLt x 1 with
  | isFalse h => show (if 100000 < x then 100000 else x) = _; rw [betw, if_neg h]
  | isTrue h => omega
theorem own_allZ (w : List Int) : rowZ w = List.take (rowZ w).length (List.drop 0 (rowZ w)) := by rw [List.drop_zero, List.take_length]
set_option maxHeartbeats 40000000 in
theorem c_Degree (l : List Nd) (p : Int) (hl : l.length ≤ 1000) (hsm : ∀ x ∈ l, x.Sm) : VCall Go.Proofs.Tryz.prog GL 43 [.agg [.ro 8 (rowN l), .int .i64 p]] (fun y => y = .int .i64 (maxL (wList l l.length))) := by
  have hlr := rowN_length l
  refine vcall_of TOK_r12_DegreeW HM Go.Proofs.Tryz.func43 rfl (by decide +kernel) (by decide +kernel) rfl ?_
  repeat' first|refine sY ⟨?_⟩|(refine sq ?_ ?_<;>refine fun h=>⟨?_⟩<;>(first|contradiction|(exfalso;omega)|skip))|fail
  refine ⟨[1, 3, 4, 5], [0], fun m st => ∃ i : Nat, i ≤ l.length ∧ m = l.length - i ∧
    ((i = 0 ∧ st = ⟨[(1, .bptr 0 0), (3, .nils), (4, .int .i64 (maxL (wList l i))), (5, .int .i64 (i : Nat))], [.box 24 [.ro 8 (rowN l), .int .i64 p]]⟩) ∨
    (0 < i ∧ st = ⟨[(1, .bptr 0 0), (3, .own 1 0 (rowZ (wList l i)).length), (4, .int .i64 (maxL (wList l i))), (5, .int .i64 (i : Nat))], [.box 24 [.ro 8 (rowN l), .int .i64 p], .row false 3 1 (rowZ (wList l i))]⟩)), rfl, ⟨l.length, 0, by omega, rfl, .inl ⟨rfl, rfl⟩⟩, ?_⟩
  rintro m _ ⟨i, hi, hm, hst⟩
  rcases Nat.lt_or_ge i l.length with hil | hge
  · have hwl := wList_len (l := l) i hi
    have hwi := wList_in (l := l) i hi
    have g : (rowN l)[i]? = some (l[i]).cells := rowN_get hil
    have hstep := wList_step hil
    have hW : wNode l (wList l i) i l[i] = betw (wRaw l[i].op (partZw (wList l i) l[i].a) (partZw (wList l i) l[i].b) (wShape l i l[i]) l[i].n) 100000 := rfl
    have hws : wShape l i l[i] = if 0 ≤ l[i].a ∧ l[i].a < i then shAt l l[i].a else [] := rfl
    generalize l[i] = x at g hstep hW hws
    obtain ⟨op, a, b, name, shape, k, n, data⟩ := x
    dsimp only at hW hws
    have hmx := maxL_snoc (wList l i) (wNode l (wList l i) i ⟨op, a, b, name, shape, k, n, data⟩)
    rw [← hstep] at hmx
    have hxa := partZw_in hwi a
    have hxb := partZw_in hwi b
    have hpa := c_part (wList l i) a (by omega)
    have hpb := c_part (wList l i) b (by omega)
    have hM := maxL_in hwi
    generalize wShape l i ⟨op, a, b, name, shape, k, n, data⟩ = s at hW hws
    have hb := c_between (wRaw op (partZw (wList l i) a) (partZw (wList l i) b) s n) 100000
    have hrw := wRaw_in (op := op) (s := s) (n := n) hxa hxb
    have hWin := betw_in (wRaw op (partZw (wList l i) a) (partZw (wList l i) b) s n) 100000 (by decide)
    clear hb
    rw [← hW] at hWin
    generalize wNode l (wList l i) i ⟨op, a, b, name, shape, k, n, data⟩ = W at hstep hmx hWin hW
    clear hwi
    generalize partZw (wList l i) a = xa at hxa hpa hW hrw
    generalize partZw (wList l i) b = xb at hxb hpb hW hrw
    have hn6' := betw_in n 6 (by decide)
    have hm' := manyZ_in s
    have p2 : 1 ≤ manyZ s * xa ∧ manyZ s * xa ≤ 6400000 := by
      generalize manyZ s = q at hm'
      exact ⟨by have := Int.mul_le_mul hm'.1 hxa.1 (by omega) (by omega); simpa using this, by have := Int.mul_le_mul hm'.2 hxa.2 (by omega) (by omega : (0 : Int) ≤ 64); omega⟩
    have p3 : 1 ≤ xa * betw n 6 ∧ xa * betw n 6 ≤ 600000 := by
      generalize betw n 6 = q at hn6'
      exact ⟨by have := Int.mul_le_mul hxa.1 hn6'.1 (by omega) (by omega); simpa using this, by have := Int.mul_le_mul hxa.2 hn6'.2 (by omega) (by omega : (0 : Int) ≤ 100000); omega⟩
    have hbw1 := betw1
    have p1 : 1 ≤ 1 * (xa + xb) ∧ 1 * (xa + xb) ≤ 200000 := by omega
    have hsl : s.length ≤ 1000 := by
      rw [hws]
      split
      · rename_i h
        obtain ⟨ja, rfl⟩ : ∃ ja : Nat, a = ja := ⟨a.toNat, by omega⟩
        rw [shAt_nat (by omega)]
        exact (hsm _ (List.getElem_mem _)).shape
      · decide
    have hmn := c_many s hsl
    have hn6 := c_between n 6
    have hn6i := betw_in n 6 (by decide)
    have hmni := manyZ_in s
    generalize maxL (wList l i) = M at hmx hM hst
    have hw0 : i = 0 → wList l i = [] := fun h => by subst h; rfl
    generalize wList l i = w at hstep hpa hpb hwl hst hw0
    have hrl := rowZ_length w
    clear hsl
    by_cases hc : 0 ≤ a ∧ a < i
    · obtain ⟨ja, rfl⟩ : ∃ ja : Nat, a = ja := ⟨a.toNat, by omega⟩
      have hja : ja < l.length := by omega
      rw [if_pos hc, shAt_nat hja] at hws
      obtain ⟨o1, a1, b1, n1, k1, m1, d1, g2⟩ := rowN_sh hja
      rw [← hws] at g2
      clear hws
      have hrs := rowZ_length s
      rcases hst with ⟨h0, rfl⟩ | ⟨h0, rfl⟩
      · omega
      rw [own_allZ w] at hpa hpb
      by_cases hs2 : s.length = 2
      · obtain ⟨d0, d1', rfl⟩ : ∃ x y, s = [x, y] := by
          match s, hs2 with
          | [x, y], _ => exact ⟨x, y, rfl⟩
        have hb1 := c_between d1' 64
        have ek : (if ([d0, d1'] : List Int).length = 2 then betw (([d0, d1'] : List Int)[1]?.getD 1) 64 else 1) = betw d1' 64 := rfl
        have hb1i := betw_in d1' 64 (by decide)
        have p4 : 1 ≤ betw d1' 64 * (xa + xb) ∧ betw d1' 64 * (xa + xb) ≤ 12800000 := by
          generalize betw d1' 64 = q at hb1i
          exact ⟨by have := Int.mul_le_mul hb1i.1 (show 1 ≤ xa + xb by omega) (by omega) (by omega); omega, by have := Int.mul_le_mul hb1i.2 (show xa + xb ≤ 200000 by omega) (by omega) (by omega); omega⟩
        repeat' first|refine sY ⟨?_⟩|(refine sq ?_ ?_<;>refine fun h=>⟨?_⟩<;>(first|contradiction|(exfalso;omega)|skip))|fail
        all_goals (conv => whnf)
        all_goals refine .inl ⟨_, c_between _ 100000, ?_⟩
        all_goals rintro _ rfl
        all_goals (repeat' first|refine sY ⟨?_⟩|(refine sq ?_ ?_<;>refine fun h=>⟨?_⟩<;>(first|contradiction|(exfalso;omega)|skip))|fail)
        all_goals first
          | (
            conv => whnf
            refine ⟨Nat.le_of_ble_eq_true rfl, fun h => Nat.succ_ne_zero _ (congrArg List.length h), ?_⟩
            repeat' first|refine sY ⟨?_⟩|(refine sq ?_ ?_<;>refine fun h=>⟨?_⟩<;>(first|contradiction|(exfalso;omega)|skip))|fail)
          | (
            refine ⟨Nat.le_refl _, (show ((rowZ w).length + 1) * 8 ≤ 140737488355328 by omega), _, rowZ_snocU w _, ?_⟩
            repeat' first|refine sY ⟨?_⟩|(refine sq ?_ ?_<;>refine fun h=>⟨?_⟩<;>(first|contradiction|(exfalso;omega)|skip))|fail)
        all_goals refine ⟨[0, 4], l.length - (i + 1), rfl, by omega, i + 1, by omega, rfl, .inr ⟨by omega, Eq.trans rfl (congrArg (fun z : List Int × Int => (⟨[(1, .bptr 0 0), (3, .own 1 0 (rowZ z.1).length), (4, .int .i64 z.2), (5, .int .i64 ((i + 1 : Nat) : Int))], [.box 24 [.ro 8 (rowN l), .int .i64 p], .row false 3 1 (rowZ z.1)]⟩ : St)) (show (w ++ [_], _) = (wList l (i + 1), maxL (wList l (i + 1))) from ?_))⟩⟩
        all_goals rw [hmx, hstep, hW]
        all_goals simp [wRaw, betw1, *]
        all_goals first
          | rfl
          | omega
          | (intro hh; omega)
          | (intro hh; contradiction)
          | (rw [Int.one_mul] at h; rw [if_pos h]; exact betw_rec _ _ (by omega) (Int.one_mul _))
          | (rw [Int.one_mul] at h; intro h2; exact absurd h2 h)
      · have ek : (if s.length = 2 then betw (s[1]?.getD 1) 64 else 1) = 1 := if_neg hs2
        repeat' first|refine sY ⟨?_⟩|(refine sq ?_ ?_<;>refine fun h=>⟨?_⟩<;>(first|contradiction|(exfalso;omega)|skip))|fail
        all_goals (conv => whnf)
        all_goals refine .inl ⟨_, c_between _ 100000, ?_⟩
        all_goals rintro _ rfl
        all_goals (repeat' first|refine sY ⟨?_⟩|(refine sq ?_ ?_<;>refine fun h=>⟨?_⟩<;>(first|contradiction|(exfalso;omega)|skip))|fail)
        all_goals first
          | (
            conv => whnf
            refine ⟨Nat.le_of_ble_eq_true rfl, fun h => Nat.succ_ne_zero _ (congrArg List.length h), ?_⟩
            repeat' first|refine sY ⟨?_⟩|(refine sq ?_ ?_<;>refine fun h=>⟨?_⟩<;>(first|contradiction|(exfalso;omega)|skip))|fail)
          | (
            refine ⟨Nat.le_refl _, (show ((rowZ w).length + 1) * 8 ≤ 140737488355328 by omega), _, rowZ_snocU w _, ?_⟩
            repeat' first|refine sY ⟨?_⟩|(refine sq ?_ ?_<;>refine fun h=>⟨?_⟩<;>(first|contradiction|(exfalso;omega)|skip))|fail)
        all_goals refine ⟨[0, 4], l.length - (i + 1), rfl, by omega, i + 1, by omega, rfl, .inr ⟨by omega, Eq.trans rfl (congrArg (fun z : List Int × Int => (⟨[(1, .bptr 0 0), (3, .own 1 0 (rowZ z.1).length), (4, .int .i64 z.2), (5, .int .i64 ((i + 1 : Nat) : Int))], [.box 24 [.ro 8 (rowN l), .int .i64 p], .row false 3 1 (rowZ z.1)]⟩ : St)) (show (w ++ [_], _) = (wList l (i + 1), maxL (wList l (i + 1))) from ?_))⟩⟩
        all_goals rw [hmx, hstep, hW]
        all_goals simp [wRaw, betw1, *]
        all_goals first
          | rfl
          | omega
          | (intro hh; omega)
          | (intro hh; contradiction)
          | (rw [Int.one_mul] at h; rw [if_pos h]; exact betw_rec _ _ (by omega) (Int.one_mul _))
          | (rw [Int.one_mul] at h; intro h2; exact absurd h2 h)
    · rw [if_neg hc] at hws
      subst hws
      have ek : (if ([] : List Int).length = 2 then betw (([] : List Int)[1]?.getD 1) 64 else 1) = 1 := rfl
      rcases (by omega : a < 0 ∨ (0 ≤ a ∧ (i : Int) ≤ a)) with ha | ha
      · rcases hst with ⟨h0, rfl⟩ | ⟨h0, rfl⟩
        · have := hw0 h0
          subst this
          repeat' first|refine sY ⟨?_⟩|(refine sq ?_ ?_<;>refine fun h=>⟨?_⟩<;>(first|contradiction|(exfalso;omega)|skip))|fail
          all_goals (conv => whnf)
          all_goals refine .inl ⟨_, c_between _ 100000, ?_⟩
          all_goals rintro _ rfl
          all_goals (repeat' first|refine sY ⟨?_⟩|(refine sq ?_ ?_<;>refine fun h=>⟨?_⟩<;>(first|contradiction|(exfalso;omega)|skip))|fail)
          all_goals first
            | (
              conv => whnf
              refine ⟨Nat.le_of_ble_eq_true rfl, fun h => Nat.succ_ne_zero _ (congrArg List.length h), ?_⟩
              repeat' first|refine sY ⟨?_⟩|(refine sq ?_ ?_<;>refine fun h=>⟨?_⟩<;>(first|contradiction|(exfalso;omega)|skip))|fail)
            | (
              refine ⟨Nat.le_refl _, (show ((rowZ w).length + 1) * 8 ≤ 140737488355328 by omega), _, rowZ_snocU w _, ?_⟩
              repeat' first|refine sY ⟨?_⟩|(refine sq ?_ ?_<;>refine fun h=>⟨?_⟩<;>(first|contradiction|(exfalso;omega)|skip))|fail)
          all_goals refine ⟨[0, 3], l.length - (i + 1), rfl, by omega, i + 1, by omega, rfl, .inr ⟨by omega, Eq.trans rfl (congrArg (fun z : List Int × Int => (⟨[(1, .bptr 0 0), (3, .own 1 0 (rowZ z.1).length), (4, .int .i64 z.2), (5, .int .i64 ((i + 1 : Nat) : Int))], [.box 24 [.ro 8 (rowN l), .int .i64 p], .row false 3 1 (rowZ z.1)]⟩ : St)) (show (([] : List Int) ++ [_], _) = (wList l (i + 1), maxL (wList l (i + 1))) from ?_))⟩⟩
          all_goals rw [hmx, hstep, hW]
          all_goals simp [wRaw, betw1, *]
          all_goals first
            | rfl
            | omega
            | (intro hh; omega)
            | (intro hh; contradiction)
            | (rw [Int.one_mul] at h; rw [if_pos h]; exact betw_rec _ _ (by omega) (Int.one_mul _))
            | (rw [Int.one_mul] at h; intro h2; exact absurd h2 h)
        · rw [own_allZ w] at hpa hpb
          repeat' first|refine sY ⟨?_⟩|(refine sq ?_ ?_<;>refine fun h=>⟨?_⟩<;>(first|contradiction|(exfalso;omega)|skip))|fail
          all_goals (conv => whnf)
          all_goals refine .inl ⟨_, c_between _ 100000, ?_⟩
          all_goals rintro _ rfl
          all_goals (repeat' first|refine sY ⟨?_⟩|(refine sq ?_ ?_<;>refine fun h=>⟨?_⟩<;>(first|contradiction|(exfalso;omega)|skip))|fail)
          all_goals first
            | (
              conv => whnf
              refine ⟨Nat.le_of_ble_eq_true rfl, fun h => Nat.succ_ne_zero _ (congrArg List.length h), ?_⟩
              repeat' first|refine sY ⟨?_⟩|(refine sq ?_ ?_<;>refine fun h=>⟨?_⟩<;>(first|contradiction|(exfalso;omega)|skip))|fail)
            | (
              refine ⟨Nat.le_refl _, (show ((rowZ w).length + 1) * 8 ≤ 140737488355328 by omega), _, rowZ_snocU w _, ?_⟩
              repeat' first|refine sY ⟨?_⟩|(refine sq ?_ ?_<;>refine fun h=>⟨?_⟩<;>(first|contradiction|(exfalso;omega)|skip))|fail)
          all_goals refine ⟨[0, 4], l.length - (i + 1), rfl, by omega, i + 1, by omega, rfl, .inr ⟨by omega, Eq.trans rfl (congrArg (fun z : List Int × Int => (⟨[(1, .bptr 0 0), (3, .own 1 0 (rowZ z.1).length), (4, .int .i64 z.2), (5, .int .i64 ((i + 1 : Nat) : Int))], [.box 24 [.ro 8 (rowN l), .int .i64 p], .row false 3 1 (rowZ z.1)]⟩ : St)) (show (w ++ [_], _) = (wList l (i + 1), maxL (wList l (i + 1))) from ?_))⟩⟩
          all_goals rw [hmx, hstep, hW]
          all_goals simp [wRaw, betw1, *]
          all_goals first
            | rfl
            | omega
            | (intro hh; omega)
            | (intro hh; contradiction)
            | (rw [Int.one_mul] at h; rw [if_pos h]; exact betw_rec _ _ (by omega) (Int.one_mul _))
            | (rw [Int.one_mul] at h; intro h2; exact absurd h2 h)
      · rcases hst with ⟨h0, rfl⟩ | ⟨h0, rfl⟩
        · have := hw0 h0
          subst this
          repeat' first|refine sY ⟨?_⟩|(refine sq ?_ ?_<;>refine fun h=>⟨?_⟩<;>(first|contradiction|(exfalso;omega)|skip))|fail
          all_goals (conv => whnf)
          all_goals refine .inl ⟨_, c_between _ 100000, ?_⟩
          all_goals rintro _ rfl
          all_goals (repeat' first|refine sY ⟨?_⟩|(refine sq ?_ ?_<;>refine fun h=>⟨?_⟩<;>(first|contradiction|(exfalso;omega)|skip))|fail)
          all_goals first
            | (
              conv => whnf
              refine ⟨Nat.le_of_ble_eq_true rfl, fun h => Nat.succ_ne_zero _ (congrArg List.length h), ?_⟩
              repeat' first|refine sY ⟨?_⟩|(refine sq ?_ ?_<;>refine fun h=>⟨?_⟩<;>(first|contradiction|(exfalso;omega)|skip))|fail)
            | (
              refine ⟨Nat.le_refl _, (show ((rowZ w).length + 1) * 8 ≤ 140737488355328 by omega), _, rowZ_snocU w _, ?_⟩
              repeat' first|refine sY ⟨?_⟩|(refine sq ?_ ?_<;>refine fun h=>⟨?_⟩<;>(first|contradiction|(exfalso;omega)|skip))|fail)
          all_goals refine ⟨[0, 3], l.length - (i + 1), rfl, by omega, i + 1, by omega, rfl, .inr ⟨by omega, Eq.trans rfl (congrArg (fun z : List Int × Int => (⟨[(1, .bptr 0 0), (3, .own 1 0 (rowZ z.1).length), (4, .int .i64 z.2), (5, .int .i64 ((i + 1 : Nat) : Int))], [.box 24 [.ro 8 (rowN l), .int .i64 p], .row false 3 1 (rowZ z.1)]⟩ : St)) (show (([] : List Int) ++ [_], _) = (wList l (i + 1), maxL (wList l (i + 1))) from ?_))⟩⟩
          all_goals rw [hmx, hstep, hW]
          all_goals simp [wRaw, betw1, *]
          all_goals first
            | rfl
            | omega
            | (intro hh; omega)
            | (intro hh; contradiction)
            | (rw [Int.one_mul] at h; rw [if_pos h]; exact betw_rec _ _ (by omega) (Int.one_mul _))
            | (rw [Int.one_mul] at h; intro h2; exact absurd h2 h)
        · rw [own_allZ w] at hpa hpb
          repeat' first|refine sY ⟨?_⟩|(refine sq ?_ ?_<;>refine fun h=>⟨?_⟩<;>(first|contradiction|(exfalso;omega)|skip))|fail
          all_goals (conv => whnf)
          all_goals refine .inl ⟨_, c_between _ 100000, ?_⟩
          all_goals rintro _ rfl
          all_goals (repeat' first|refine sY ⟨?_⟩|(refine sq ?_ ?_<;>refine fun h=>⟨?_⟩<;>(first|contradiction|(exfalso;omega)|skip))|fail)
          all_goals first
            | (
              conv => whnf
              refine ⟨Nat.le_of_ble_eq_true rfl, fun h => Nat.succ_ne_zero _ (congrArg List.length h), ?_⟩
              repeat' first|refine sY ⟨?_⟩|(refine sq ?_ ?_<;>refine fun h=>⟨?_⟩<;>(first|contradiction|(exfalso;omega)|skip))|fail)
            | (
              refine ⟨Nat.le_refl _, (show ((rowZ w).length + 1) * 8 ≤ 140737488355328 by omega), _, rowZ_snocU w _, ?_⟩
              repeat' first|refine sY ⟨?_⟩|(refine sq ?_ ?_<;>refine fun h=>⟨?_⟩<;>(first|contradiction|(exfalso;omega)|skip))|fail)
          all_goals refine ⟨[0, 4], l.length - (i + 1), rfl, by omega, i + 1, by omega, rfl, .inr ⟨by omega, Eq.trans rfl (congrArg (fun z : List Int × Int => (⟨[(1, .bptr 0 0), (3, .own 1 0 (rowZ z.1).length), (4, .int .i64 z.2), (5, .int .i64 ((i + 1 : Nat) : Int))], [.box 24 [.ro 8 (rowN l), .int .i64 p], .row false 3 1 (rowZ z.1)]⟩ : St)) (show (w ++ [_], _) = (wList l (i + 1), maxL (wList l (i + 1))) from ?_))⟩⟩
          all_goals rw [hmx, hstep, hW]
          all_goals simp [wRaw, betw1, *]
          all_goals first
            | rfl
            | omega
            | (intro hh; omega)
            | (intro hh; contradiction)
            | (rw [Int.one_mul] at h; rw [if_pos h]; exact betw_rec _ _ (by omega) (Int.one_mul _))
            | (rw [Int.one_mul] at h; intro h2; exact absurd h2 h)
  · obtain rfl : i = l.length := by omega
    rcases hst with ⟨h0, rfl⟩ | ⟨h0, rfl⟩
    · repeat' first|refine sY ⟨?_⟩|(refine sq ?_ ?_<;>refine fun h=>⟨?_⟩<;>(first|contradiction|(exfalso;omega)|skip))|fail
      all_goals (conv => whnf)
      all_goals rfl
    · repeat' first|refine sY ⟨?_⟩|(refine sq ?_ ?_<;>refine fun h=>⟨?_⟩<;>(first|contradiction|(exfalso;omega)|skip))|fail
      all_goals (conv => whnf)
      all_goals rfl
end Go.V
