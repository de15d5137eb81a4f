/-
  Lemmas (part 9) for: What fold.Fold makes of any graph is what the document says (FoldMakes, FoldAll, FoldNames, FoldLeaves hold for every graph); no condition.
-/
import Derived.Test.YtndiceggidmgkaaGreatDoorFold3
import Derived.Test.YtndiceggidmgkaaGreatDoorFold4
set_option linter.all false
namespace Go.V
open Go.N
def intB (n : Int) : ByteArray := if n < 0 then minusB ++ decB n.natAbs else decB n.natAbs
theorem minus_toList (s : ByteArray) : (minusB ++ s).toList = 45 :: s.toList := by
  rw [ByteArray.toList_eq, ByteArray.toList_eq]; simp [ByteArray.data_append]
theorem decB_nom (n : Nat) : hasP (decB n) minusB = false := by
  rw [hasP_minus, decide_eq_false_iff_not, decB_toList]
  intro e
  have h1 := List.all_eq_true.1 (dec_dig n) 45 (List.mem_of_getElem? e)
  simp [isDig] at h1
theorem hasP_intB (n : Int) : hasP (intB n) minusB = decide (n < 0) := by
  unfold intB
  split
  · rename_i h
    rw [hasP_minus, minus_toList, decide_eq_true h]; rfl
  · rename_i h
    rw [decB_nom, decide_eq_false h]
theorem trimP_minus (s : ByteArray) : trimP (minusB ++ s) minusB = s := by
  have h : hasP (minusB ++ s) minusB = true := by rw [hasP_minus, minus_toList]; rfl
  rw [trimP, if_pos h]
  refine toList_inj ?_
  rw [ByteArray.toList_eq, ByteArray.toList_eq, ByteArray.data_extract, Array.toList_extract, ByteArray.size_append]
  simp only [ByteArray.data_append, show minusB.size = 1 from rfl, Array.toList_append, Nat.add_comm 1, Nat.add_sub_cancel]
  show List.take s.size s.data.toList = _
  exact List.take_length
theorem trimP_intB (n : Int) : trimP (intB n) minusB = decB n.natAbs := by
  unfold intB
  split
  · exact trimP_minus _
  · rw [trimP, decB_nom, if_neg (by simp)]
theorem absW_intB (n : Int) : absW (intB n) = n.natAbs := by rw [absW, trimP_intB, dval_decB]
theorem isWhole_intB (n : Int) : isWhole (intB n) = true := by
  rw [isWhole, trimP_intB, decB_toList, isNat_dec, Bool.true_and, Bool.not_eq_true', decide_eq_false_iff_not]
  intro h
  have h1 := (minus_zero (intB n)).2 h
  rw [hasP_intB, trimP_intB, zero_decB, decB_inj, decide_eq_true_eq] at h1
  omega
theorem intB_of {s : ByteArray} (h : isWhole s = true) : ∃ n : Int, s = intB n := by
  have L := low_of (n := 1) h
  cases hm : hasP s minusB
  · refine ⟨(absW s : Nat), ?_⟩
    rw [intB, if_neg (by omega), Int.natAbs_natCast]
    have := L.tr
    rwa [trimP, hm, if_neg (by simp)] at this
  · refine ⟨-(absW s : Nat), ?_⟩
    have h0 := L.neg hm
    rw [intB, if_pos (by omega), Int.natAbs_neg, Int.natAbs_natCast, ← L.tr]
    refine toList_inj ?_
    rw [minus_toList, trimP, if_pos hm]
    have h1 := hm
    rw [hasP_minus, decide_eq_true_eq] at h1
    rw [ByteArray.toList_eq] at h1 ⊢
    rw [ByteArray.toList_eq, ByteArray.data_extract, Array.toList_extract]
    have hs : s.size = s.data.toList.length := rfl
    rw [hs]
    revert h1
    generalize s.data.toList = l
    intro h1
    cases l with
    | nil => simp at h1
    | cons c l => simp at h1; subst h1; simp [show minusB.size = 1 from rfl]
theorem intB_inj {a b : Int} : intB a = intB b ↔ a = b := by
  refine ⟨fun h => ?_, fun h => h ▸ rfl⟩
  have h1 := hasP_intB a
  have h2 := trimP_intB a
  rw [h, hasP_intB] at h1
  rw [h, trimP_intB, decB_inj] at h2
  have : (b < 0) ↔ (a < 0) := by simpa using h1
  omega
theorem intB_ne (n : Int) : intB n ≠ ⟨#[]⟩ := fun h => by
  have := trimP_intB n
  rw [h] at this
  have h2 : (trimP ⟨#[]⟩ minusB).toList = [] := by rw [show trimP ⟨#[]⟩ minusB = ⟨#[]⟩ by decide +kernel, ByteArray.toList_eq]
  rw [this, decB_toList] at h2
  exact dec_ne _ h2
theorem intB_size (n : Int) : (intB n).size ≤ (dec n.natAbs).length + 1 := by
  unfold intB
  split
  · rw [ByteArray.size_append, decB_size, show minusB.size = 1 from rfl]; omega
  · rw [decB_size]; omega
theorem intB_nat (n : Nat) : intB (n : Int) = decB n := by rw [intB, if_neg (by omega), Int.natAbs_natCast]
theorem lowP_intB (n : Int) {d : Nat} (hd : d ≠ 0) : lowP (intB n) d = intB (mkRat n d).num := by
  have hg0 : 0 < Nat.gcd n.natAbs d := Nat.gcd_pos_of_pos_right _ (by omega)
  rw [lowP, absW_intB, hasP_intB, Rat.num_mkRat, if_neg hd, Nat.gcd_comm d]
  have hdv : ((Nat.gcd n.natAbs d : Nat) : Int) ∣ n := Int.ofNat_dvd_left.2 (Nat.gcd_dvd_left _ _)
  obtain ⟨k, hk⟩ := hdv
  generalize Nat.gcd n.natAbs d = g at hg0 hk ⊢
  have hq : n / (g : Int) = k := by rw [hk]; exact Int.mul_ediv_cancel_left _ (by omega)
  have hn : n.natAbs / g = k.natAbs := by rw [hk, Int.natAbs_mul, Int.natAbs_natCast]; exact Nat.mul_div_cancel_left _ hg0
  rw [hq, hn, intB]
  have hs : n < 0 ↔ k < 0 := by
    rw [hk]
    constructor
    · intro h
      rcases (by omega : k < 0 ∨ 0 ≤ k) with h2 | h2
      · exact h2
      · have := Int.mul_nonneg (show (0 : Int) ≤ g by omega) h2; omega
    · intro h; exact Int.mul_neg_of_pos_of_neg (by omega) h
  by_cases h : n < 0
  · rw [if_pos (by simpa using h), if_pos (hs.1 h)]
  · rw [if_neg (by simpa using h), if_neg (fun e => h (hs.2 e))]
theorem lowQ_intB (n : Int) {d : Nat} (hd : d ≠ 0) : lowQ (intB n) d = decB (mkRat n d).den := by
  rw [lowQ, absW_intB, Rat.den_mkRat, if_neg hd, Nat.gcd_comm d]
def ratB (x : Rat) : ByteArray := pairT (intB x.num) (decB x.den)
theorem ixOf_none {c : UInt8} : ∀ {l : List UInt8}, c ∉ l → ixOf c l = none
  | [], _ => rfl
  | x :: l, h => by
    simp only [List.mem_cons, not_or] at h
    simp only [ixOf]
    rw [if_neg (fun e => h.1 e.symm), ixOf_none h.2]; rfl
theorem ixOf_mid {c : UInt8} : ∀ {l r : List UInt8}, c ∉ l → ixOf c (l ++ c :: r) = some l.length
  | [], r, _ => by simp [ixOf]
  | x :: l, r, h => by
    simp only [List.mem_cons, not_or] at h
    simp only [ixOf, List.cons_append]
    rw [if_neg (fun e => h.1 e.symm), ixOf_mid h.2]; rfl
theorem dec_noslash (n : Nat) : (47 : UInt8) ∉ dec n := fun h => by
  have h1 := List.all_eq_true.1 (dec_dig n) 47 h
  simp [isDig] at h1
theorem intB_noslash (n : Int) : (47 : UInt8) ∉ (intB n).toList := by
  unfold intB
  split
  · rw [minus_toList, decB_toList]; simp only [List.mem_cons, not_or]; exact ⟨by decide, dec_noslash _⟩
  · rw [decB_toList]; exact dec_noslash _
theorem cutP_ratB (x : Rat) : cutP (ratB x) = if x.den = 1 then (intB x.num, ⟨#[]⟩, false) else (intB x.num, decB x.den, true) := by
  unfold ratB pairT
  by_cases h : x.den = 1
  · rw [h, if_pos one_decB.symm, if_pos rfl, cutP, ixOf_none (intB_noslash _)]
  · rw [if_neg (fun e => h (decB_inj.1 (e.trans one_decB))), if_neg h, cutP]
    have e : (intB x.num ++ slashB ++ decB x.den).toList = (intB x.num).toList ++ 47 :: (decB x.den).toList := by
      rw [ByteArray.toList_eq, ByteArray.toList_eq, ByteArray.toList_eq]; simp [ByteArray.data_append]
    rw [e, ixOf_mid (intB_noslash _)]
    simp [mk_toList]
theorem ratOK_ratB (x : Rat) : ratOK (ratB x) = true ∧ lowP (cutP (ratB x)).1 (ratN (ratB x)) = intB x.num ∧ lowQ (cutP (ratB x)).1 (ratN (ratB x)) = decB x.den := by
  have hq : ratQ (ratB x) = decB x.den := by
    rw [ratQ, cutP_ratB]
    by_cases h : x.den = 1
    · rw [if_pos h, h]; exact one_decB
    · rw [if_neg h, if_pos rfl]
  have hn : ratN (ratB x) = x.den := by rw [ratN, hq, dval_decB]
  have h1 : (cutP (ratB x)).1 = intB x.num := by rw [cutP_ratB]; split <;> rfl
  have hp := lowP_intB x.num x.den_nz
  have hq2 := lowQ_intB x.num x.den_nz
  rw [Rat.mkRat_self] at hp hq2
  rw [h1, hn]
  refine ⟨?_, hp, hq2⟩
  rw [ratOK, ratOK1, h1, hn, hp, hq2, isWhole_intB, hq, decB_toList, isNat_dec, cutP_ratB]
  have h0 : decB x.den ≠ ⟨#[48]⟩ := fun e => x.den_nz (decB_inj.1 (e.trans zero_decB))
  rw [decide_eq_false h0]
  by_cases h : x.den = 1
  · rw [if_pos h]; simp [ratB]
  · rw [if_neg h, decide_eq_false (fun e => h (decB_inj.1 (e.trans one_decB)))]; simp [ratB]
theorem ratB_of {s : ByteArray} (h : ratOK s = true) : ∃ x, s = ratB x := by
  simp only [ratOK, ratOK1, Bool.and_eq_true, decide_eq_true_eq, Bool.not_eq_true', decide_eq_false_iff_not] at h
  obtain ⟨⟨⟨⟨h1, h2⟩, h3⟩, _⟩, h4⟩ := h
  obtain ⟨n, hn⟩ := intB_of h1
  have hd : ratN s ≠ 0 := fun e => h3 (by
    have := of_isNat h2
    rw [this, show dval (ratQ s).toList = 0 from e, zero_decB])
  rw [hn, lowP_intB n hd, lowQ_intB n hd] at h4
  exact ⟨mkRat n (ratN s), h4.symm⟩
theorem ratB_inj {x y : Rat} : ratB x = ratB y ↔ x = y := by
  refine ⟨fun h => ?_, fun h => h ▸ rfl⟩
  have h1 := ratOK_ratB x
  have h2 := ratOK_ratB y
  rw [h] at h1
  exact Rat.ext (intB_inj.1 (h1.2.1.symm.trans h2.2.1)) (decB_inj.1 (h1.2.2.symm.trans h2.2.2))
def ht (x : Rat) : Nat := max x.num.natAbs x.den
theorem ht_pos (x : Rat) : 0 < ht x := by have := x.den_pos; unfold ht; omega
theorem ht_mkRat (n : Int) {d : Nat} (hd : d ≠ 0) : ht (mkRat n d) ≤ max n.natAbs d := by
  unfold ht
  rw [Rat.num_mkRat, Rat.den_mkRat, if_neg hd, if_neg hd]
  have h1 : d / d.gcd n.natAbs ≤ d := Nat.div_le_self _ _
  have h2 : (n / (d.gcd n.natAbs : Nat)).natAbs ≤ n.natAbs := by
    rw [Int.natAbs_ediv_of_dvd (Int.ofNat_dvd_left.2 (Nat.gcd_dvd_right _ _)), Int.natAbs_natCast]; exact Nat.div_le_self _ _
  omega
theorem ht_le {x : Rat} {B : Nat} : ht x ≤ B ↔ x.num.natAbs ≤ B ∧ x.den ≤ B := by unfold ht; omega
theorem ht_add (x y : Rat) : ht (x + y) ≤ 2 * (ht x * ht y) := by
  rw [Rat.add_def']
  refine Nat.le_trans (ht_mkRat _ (Nat.mul_ne_zero x.den_nz y.den_nz)) ?_
  obtain ⟨h1, h2⟩ := ht_le.1 (Nat.le_refl (ht x))
  obtain ⟨h3, h4⟩ := ht_le.1 (Nat.le_refl (ht y))
  have e1 : (x.num * (y.den : Int)).natAbs ≤ ht x * ht y := by rw [Int.natAbs_mul, Int.natAbs_natCast]; exact Nat.mul_le_mul h1 h4
  have e2 : (y.num * (x.den : Int)).natAbs ≤ ht x * ht y := by rw [Int.natAbs_mul, Int.natAbs_natCast, Nat.mul_comm]; exact Nat.mul_le_mul h2 h3
  have e3 : x.den * y.den ≤ ht x * ht y := Nat.mul_le_mul h2 h4
  omega
theorem ht_neg (x : Rat) : ht (-x) = ht x := by unfold ht; rw [Rat.neg_num, Rat.neg_den, Int.natAbs_neg]
theorem ht_sub (x y : Rat) : ht (x - y) ≤ 2 * (ht x * ht y) := by rw [Rat.sub_eq_add_neg, ← ht_neg y]; exact ht_add _ _
theorem ht_mul (x y : Rat) : ht (x * y) ≤ ht x * ht y := by
  rw [Rat.mul_def']
  refine Nat.le_trans (ht_mkRat _ (Nat.mul_ne_zero x.den_nz y.den_nz)) ?_
  obtain ⟨h1, h2⟩ := ht_le.1 (Nat.le_refl (ht x))
  obtain ⟨h3, h4⟩ := ht_le.1 (Nat.le_refl (ht y))
  have e1 : (x.num * y.num).natAbs ≤ ht x * ht y := by rw [Int.natAbs_mul]; exact Nat.mul_le_mul h1 h3
  have e3 : x.den * y.den ≤ ht x * ht y := Nat.mul_le_mul h2 h4
  omega
end Go.V
namespace Go.V
open Go.N
def MM (x : Rat) : Nat := 2 * ht x
theorem MM_two (x : Rat) : 2 ≤ MM x := by have := ht_pos x; unfold MM; omega
theorem MM_zero : MM 0 = 2 := rfl
theorem MM_one : MM 1 = 2 := rfl
theorem MM_add (x y : Rat) : MM (x + y) ≤ MM x * MM y := by
  have := ht_add x y
  unfold MM
  rw [show 2 * ht x * (2 * ht y) = 2 * (2 * (ht x * ht y)) by rw [Nat.mul_assoc, Nat.mul_left_comm (ht x)]]
  omega
theorem MM_sub (x y : Rat) : MM (x - y) ≤ MM x * MM y := by
  have := ht_sub x y
  unfold MM
  rw [show 2 * ht x * (2 * ht y) = 2 * (2 * (ht x * ht y)) by rw [Nat.mul_assoc, Nat.mul_left_comm (ht x)]]
  omega
theorem MM_neg (x : Rat) : MM (-x) = MM x := by unfold MM; rw [ht_neg]
theorem MM_mul (x y : Rat) : MM (x * y) ≤ MM x * MM y := by
  have := ht_mul x y
  unfold MM
  rw [show 2 * ht x * (2 * ht y) = 2 * (2 * (ht x * ht y)) by rw [Nat.mul_assoc, Nat.mul_left_comm (ht x)]]
  omega
def sumR (l : List Rat) : Rat := l.foldl (· + ·) 0
theorem sumR_nil : sumR [] = 0 := rfl
theorem sumR_snoc (l : List Rat) (x : Rat) : sumR (l ++ [x]) = sumR l + x := by simp [sumR]
theorem sumR_take {l : List Rat} {k : Nat} (h : k < l.length) : sumR (l.take (k + 1)) = sumR (l.take k) + l[k] := by rw [List.take_succ_eq_append_getElem h, sumR_snoc]
theorem MM_sum {A : Nat} {l : List Rat} (h : ∀ x ∈ l, MM x ≤ A) (h2 : 2 ≤ A) : ∀ k, k ≤ l.length → 0 < k → MM (sumR (l.take k)) ≤ A ^ k
  | 0, _, h0 => absurd h0 (Nat.lt_irrefl _)
  | 1, h1, _ => by
    rw [sumR_take (k := 0) (by omega), List.take_zero, sumR_nil, Rat.zero_add, Nat.pow_one]
    exact h _ (List.getElem_mem _)
  | k + 2, h1, _ => by
    rw [sumR_take (k := k + 1) (by omega), Nat.pow_succ]
    exact Nat.le_trans (MM_add _ _) (Nat.mul_le_mul (MM_sum h h2 (k + 1) (by omega) (by omega)) (h _ (List.getElem_mem _)))
theorem MM_sum_top {A C : Nat} {l : List Rat} (h : ∀ x ∈ l, MM x ≤ A) (hC : A ^ l.length ≤ C) (h2 : 2 ≤ C) (k : Nat) (hk : k ≤ l.length) : MM (sumR (l.take k)) ≤ C := by
  rcases k with _ | k
  · rw [List.take_zero, sumR_nil, MM_zero]; exact h2
  · have hA : 2 ≤ A := Nat.le_trans (MM_two _) (h _ (List.getElem_mem (by omega : k < l.length)))
    exact Nat.le_trans (MM_sum h hA _ hk (by omega)) (Nat.le_trans (Nat.pow_le_pow_right (by omega) hk) hC)
theorem MM_pow {A : Nat} {x : Rat} (h : MM x ≤ A) : ∀ k, 0 < k → MM (x ^ k) ≤ A ^ k
  | 0, h0 => absurd h0 (Nat.lt_irrefl _)
  | 1, _ => by rw [Rat.pow_one, Nat.pow_one]; exact h
  | k + 2, _ => by
    rw [Rat.pow_succ, Nat.pow_succ]
    exact Nat.le_trans (MM_mul _ _) (Nat.mul_le_mul (MM_pow h (k + 1) (by omega)) h)
theorem MM_pow_top {A C n : Nat} {x : Rat} (h : MM x ≤ A) (hC : A ^ n ≤ C) (h2 : 2 ≤ C) (k : Nat) (hk : k ≤ n) : MM (x ^ k) ≤ C := by
  rcases k with _ | k
  · rw [Rat.pow_zero, MM_one]; exact h2
  · exact Nat.le_trans (MM_pow h _ (by omega)) (Nat.le_trans (Nat.pow_le_pow_right (by have := MM_two x; omega) hk) hC)
@[irreducible] def TOP : Nat := 10 ^ 30000
theorem TOP_two : 2 ≤ TOP := by unfold TOP; decide +kernel
structure RS (x : Rat) : Prop where
  top : MM x ≤ TOP
theorem dec_top {n : Nat} (h : 2 * n ≤ TOP) : (dec n).length ≤ 30000 := by
  rw [dec_length_lt _ _ (by omega)]
  have : 0 < TOP := by have := TOP_two; omega
  have e : TOP = 10 ^ 30000 := by unfold TOP; rfl
  rw [← e]; omega
theorem RS.num {x : Rat} (h : RS x) : (dec x.num.natAbs).length ≤ 30000 := dec_top (by have := h.top; unfold MM ht at this; omega)
theorem RS.den {x : Rat} (h : RS x) : (dec x.den).length ≤ 30000 := dec_top (by have := h.top; unfold MM ht at this; omega)
theorem RS.neg {x : Rat} (h : RS x) : RS (-x) := ⟨by rw [MM_neg]; exact h.top⟩
theorem RS_zero : RS 0 := ⟨by rw [MM_zero]; exact TOP_two⟩
theorem RS_one : RS 1 := ⟨by rw [MM_one]; exact TOP_two⟩
theorem pairT_size (p q : ByteArray) : (pairT p q).size ≤ p.size + 1 + q.size := by
  unfold pairT
  split
  · omega
  · rw [ByteArray.size_append, ByteArray.size_append, show slashB.size = 1 from rfl]; omega
theorem ratB_size (x : Rat) : (ratB x).size ≤ (dec x.num.natAbs).length + 2 + (dec x.den).length := by
  have h1 := pairT_size (intB x.num) (decB x.den)
  have h2 := intB_size x.num
  rw [decB_size] at h1
  unfold ratB; omega
theorem RS.size {x : Rat} (h : RS x) : (ratB x).size ≤ 60002 := by have := h.num; have := h.den; have := ratB_size x; omega
theorem ratB_num (x : Rat) : (dec x.num.natAbs).length ≤ (ratB x).size := by
  have h : (dec x.num.natAbs).length ≤ (intB x.num).size := by
    unfold intB; split
    · rw [ByteArray.size_append, decB_size]; omega
    · rw [decB_size]; omega
  unfold ratB pairT
  split
  · exact h
  · rw [ByteArray.size_append, ByteArray.size_append]; omega
theorem ratB_den (x : Rat) : x.den = 1 ∨ (dec x.den).length ≤ (ratB x).size := by
  by_cases h : x.den = 1
  · exact .inl h
  · right
    unfold ratB pairT
    rw [if_neg (fun e => h (decB_inj.1 (e.trans one_decB))), ByteArray.size_append, decB_size]; omega
theorem ratB_pos (x : Rat) : 0 < (ratB x).size := by
  have := ratB_num x
  have := List.length_pos_iff.2 (dec_ne x.num.natAbs)
  omega
theorem MM_size {x : Rat} {n : Nat} (h : (ratB x).size ≤ n) : MM x ≤ 10 ^ (2 * n) := by
  have h0 := ratB_pos x
  have h1 : x.num.natAbs < 10 ^ n := (dec_length_lt _ _ (by omega)).1 (Nat.le_trans (ratB_num x) h)
  have h2 : x.den ≤ 10 ^ n := by
    rcases ratB_den x with e | e
    · rw [e]; exact Nat.one_le_pow _ _ (by omega)
    · exact Nat.le_of_lt ((dec_length_lt _ _ (by omega)).1 (Nat.le_trans e h))
  have h3 : ht x ≤ 10 ^ n := ht_le.2 ⟨Nat.le_of_lt h1, h2⟩
  have h4 : 2 ≤ 10 ^ n := Nat.le_trans (by decide) (Nat.pow_le_pow_right (by omega) (by omega : 1 ≤ n))
  unfold MM
  rw [Nat.two_mul n, Nat.pow_add]
  exact Nat.mul_le_mul h4 h3
noncomputable def ratV (s : ByteArray) : Rat := open Classical in if h : ∃ x, s = ratB x then h.choose else 0
theorem ratV_ratB (x : Rat) : ratV (ratB x) = x := by
  have h : ∃ y, ratB x = ratB y := ⟨x, rfl⟩
  rw [ratV, dif_pos h]
  exact (ratB_inj.1 h.choose_spec).symm
theorem ratB_ratV {s : ByteArray} (h : ratOK s = true) : ratB (ratV s) = s := by
  obtain ⟨x, rfl⟩ := ratB_of h
  rw [ratV_ratB]
def rowR (v : List Rat) : List (List AV) := rowS (v.map ratB)
theorem rowR_length (v : List Rat) : (rowR v).length = v.length := by unfold rowR; rw [rowS_length, List.length_map]
end Go.V
namespace Go.V
open Go.N
set_option maxRecDepth 20000
variable (gl : Gl)
def T_nadd : Tab := [(171, i171), (210, i210), (3, i3), (207, i207)]
theorem TOK_nadd : TOK Go.Proofs.Tryz.prog T_nadd := ⟨K171, ⟨K210, ⟨K3, ⟨K207, trivial⟩⟩⟩⟩
def T_nmul : Tab := [(171, i171), (210, i210), (3, i3), (207, i207)]
theorem TOK_nmul : TOK Go.Proofs.Tryz.prog T_nmul := ⟨K171, ⟨K210, ⟨K3, ⟨K207, trivial⟩⟩⟩⟩
def T_NAdd : Tab := [(9, i9), (4, i4), (171, i171), (210, i210)]
theorem TOK_NAdd : TOK Go.Proofs.Tryz.prog T_NAdd := ⟨K9, ⟨K4, ⟨K171, ⟨K210, trivial⟩⟩⟩⟩
def T_NSub : Tab := [(9, i9), (4, i4), (171, i171), (210, i210), (3, i3)]
theorem TOK_NSub : TOK Go.Proofs.Tryz.prog T_NSub := ⟨K9, ⟨K4, ⟨K171, ⟨K210, ⟨K3, trivial⟩⟩⟩⟩⟩
def T_NMul : Tab := [(9, i9), (4, i4), (171, i171), (210, i210)]
theorem TOK_NMul : TOK Go.Proofs.Tryz.prog T_NMul := ⟨K9, ⟨K4, ⟨K171, ⟨K210, trivial⟩⟩⟩⟩
def T_NCompare : Tab := [(9, i9), (4, i4), (171, i171), (210, i210)]
theorem TOK_NCompare : TOK Go.Proofs.Tryz.prog T_NCompare := ⟨K9, ⟨K4, ⟨K171, ⟨K210, trivial⟩⟩⟩⟩
theorem shr32' (n : Nat) {a : Int} (h : a = n) : ((n / 4294967296 : Nat) : Int) = Int.fdiv a (2 ^ (min (Int.toNat 32) (IntKind.bits .u64))) := by rw [h]; exact shr32 n
set_option maxHeartbeats 2000000 in
theorem c_nadd (l l2 : List Nat) (hs : small l) (hs2 : small l2) (hl : l.length < 1000000) (hl2 : l2.length < 1000000) : VCall Go.Proofs.Tryz.prog gl 194 [.ro 1 (limbs l), .ro 1 (limbs l2)] (fun x => x = .fr 210 1 (limbs (lim (lval l + lval l2)))) := by
  have hlen : (limbs l).length = l.length := limbs_length l
  have hlen2 : (limbs l2).length = l2.length := limbs_length l2
  by_cases hlt : l.length < l2.length
  · refine vcall_of TOK_nadd HM Go.Proofs.Tryz.func194 rfl (by decide +kernel) (by decide +kernel) rfl ?_
    repeat' first|refine sY ⟨?_⟩|(refine sq ?_ ?_<;>refine fun h=>⟨?_⟩<;>(first|contradiction|(exfalso;omega)|skip))|fail
    refine ⟨by omega, by omega, by omega, (show (((limbs l2).length : Int) + 1) * 4 ≤ _ by omega), 0, rfl, ?_⟩
    repeat' first|refine sX ⟨?_⟩|(refine sp ?_ ?_<;>refine fun h=>⟨?_⟩)|fail
    refine ⟨[1, 5, 6, 20, 21, 22], [0], fun k st => ∃ (i : Nat) (o : List Nat) (c : Nat), i ≤ l2.length ∧ k = l2.length - i ∧ o.length = i ∧ small o ∧ c < 4294967296 ∧ bv BB o + BB ^ i * c = bv BB (l2.take i) + bv BB (l.take i) ∧
      st = ⟨[(1, .ro 1 (limbs l)), (5, .own 0 0 (limbs o).length), (6, .int .u64 c), (20, .ro 1 (limbs l2)), (21, .int .i64 ((limbs l2).length : Nat)), (22, .int .i64 (i : Nat))], [.row false 210 1 (limbs o)]⟩, rfl,
      ⟨l2.length, 0, [], 0, by omega, rfl, rfl, by simp [small], by omega, by simp [bv], rfl⟩, ?_⟩
    rintro k _ ⟨i, o, c, hi, hk, ho, hso, hc, hv, rfl⟩
    rcases Nat.lt_or_ge i l2.length with hil | hge
    · have hx : l2[i] < 4294967296 := hs2 l2[i] (List.getElem_mem hil)
      have hol : (limbs o).length = i := by rw [limbs_length]; exact ho
      have g1 : (limbs l2)[i]? = some [.int .u32 ((l2[i] : Nat) : Int)] := limbs_get hil
      rcases Nat.lt_or_ge i l.length with hi2 | hg2
      · have hx2 : l[i] < 4294967296 := hs l[i] (List.getElem_mem hi2)
        have g2 : (limbs l)[i]? = some [.int .u32 ((l[i] : Nat) : Int)] := limbs_get hi2
        repeat' first|refine sY ⟨?_⟩|(refine sq ?_ ?_<;>refine fun h=>⟨?_⟩<;>(first|contradiction|(exfalso;omega)|skip))|fail
        have he : ((c : Int) + ((l2[i] : Nat) : Int) + ((l[i] : Nat) : Int)) % 4294967296 = (((c + l2[i] + l[i]) % 4294967296 : Nat) : Int) := by omega
        refine ⟨Nat.le_refl _, (show ((limbs o).length + 1) * 4 ≤ _ by omega), _, limbs_snoc' o _ he, ?_⟩
        repeat' first|refine sX ⟨?_⟩|(refine sp ?_ ?_<;>refine fun h=>⟨?_⟩)|fail
        refine ⟨by decide, _, shr32' (c + l2[i] + l[i]) (by omega), ?_⟩
        repeat' first|refine sX ⟨?_⟩|(refine sp ?_ ?_<;>refine fun h=>⟨?_⟩)|fail
        refine ⟨[2], l2.length - (i + 1), rfl, by omega, i + 1, o ++ [(c + l2[i] + l[i]) % 4294967296], (c + l2[i] + l[i]) / 4294967296, by omega, rfl, by simp [ho], small_append hso (by simp [small, BB]; omega), by omega, ?_, rfl⟩
        have := add_digit BB (x := l2[i]) (d := l[i]) ho hv
        rw [bv_take_succ BB hil, bv_take_succ BB hi2]
        exact this
      · repeat' first|refine sY ⟨?_⟩|(refine sq ?_ ?_<;>refine fun h=>⟨?_⟩<;>(first|contradiction|(exfalso;omega)|skip))|fail
        have he : ((c : Int) + ((l2[i] : Nat) : Int)) % 4294967296 = (((c + l2[i] + 0) % 4294967296 : Nat) : Int) := by omega
        refine ⟨Nat.le_refl _, (show ((limbs o).length + 1) * 4 ≤ _ by omega), _, limbs_snoc' o _ he, ?_⟩
        repeat' first|refine sX ⟨?_⟩|(refine sp ?_ ?_<;>refine fun h=>⟨?_⟩)|fail
        refine ⟨by decide, _, shr32' (c + l2[i] + 0) (by omega), ?_⟩
        repeat' first|refine sX ⟨?_⟩|(refine sp ?_ ?_<;>refine fun h=>⟨?_⟩)|fail
        refine ⟨[2], l2.length - (i + 1), rfl, by omega, i + 1, o ++ [(c + l2[i] + 0) % 4294967296], (c + l2[i] + 0) / 4294967296, by omega, rfl, by simp [ho], small_append hso (by simp [small, BB]; omega), by omega, ?_, rfl⟩
        have := add_digit BB (x := l2[i]) (d := 0) ho hv
        rw [bv_take_succ BB hil, take_more BB hg2]
        exact this
    · have hol : (limbs o).length = i := by rw [limbs_length]; exact ho
      repeat' first|refine sY ⟨?_⟩|(refine sq ?_ ?_<;>refine fun h=>⟨?_⟩<;>(first|contradiction|(exfalso;omega)|skip))|fail
      have he : (c : Int) % 4294967296 = (c : Nat) := by omega
      refine ⟨Nat.le_refl _, (show ((limbs o).length + 1) * 4 ≤ _ by omega), _, limbs_snoc' o _ he, ?_⟩
      repeat' first|refine sY ⟨?_⟩|(refine sq ?_ ?_<;>refine fun h=>⟨?_⟩<;>(first|contradiction|(exfalso;omega)|skip))|fail
      have hso2 : small (o ++ [c]) := small_append hso (by simp [small, BB]; omega)
      conv => whnf
      refine .inr ⟨[2], rfl, _, c_trimH gl (o ++ [c]) hso2 (by simp; omega), ?_⟩
      rintro _ _ ⟨rfl, hpre, rfl⟩
      repeat' first|refine sY ⟨?_⟩|(refine sq ?_ ?_<;>refine fun h=>⟨?_⟩<;>(first|contradiction|(exfalso;omega)|skip))|fail
      conv => whnf
      refine .inr (.inl ?_)
      have e1 : i = l2.length := by omega
      have e2 : lval (o ++ [c]) = lval l + lval l2 := by
        rw [lval_bv, lval_bv, lval_bv, bv_snoc, ho, hv, e1, List.take_length, List.take_of_length_le (by omega)]; omega
      show AV.fr _ _ ((limbs (o ++ [c])).take (lim (lval (o ++ [c]))).length) = _
      rw [limbs_take, ← hpre, e2]
  · refine vcall_of TOK_nadd HM Go.Proofs.Tryz.func194 rfl (by decide +kernel) (by decide +kernel) rfl ?_
    repeat' first|refine sY ⟨?_⟩|(refine sq ?_ ?_<;>refine fun h=>⟨?_⟩<;>(first|contradiction|(exfalso;omega)|skip))|fail
    refine ⟨by omega, by omega, by omega, (show (((limbs l).length : Int) + 1) * 4 ≤ _ by omega), 0, rfl, ?_⟩
    repeat' first|refine sX ⟨?_⟩|(refine sp ?_ ?_<;>refine fun h=>⟨?_⟩)|fail
    refine ⟨[1, 5, 6, 20, 21, 22], [0], fun k st => ∃ (i : Nat) (o : List Nat) (c : Nat), i ≤ l.length ∧ k = l.length - i ∧ o.length = i ∧ small o ∧ c < 4294967296 ∧ bv BB o + BB ^ i * c = bv BB (l.take i) + bv BB (l2.take i) ∧
      st = ⟨[(1, .ro 1 (limbs l2)), (5, .own 0 0 (limbs o).length), (6, .int .u64 c), (20, .ro 1 (limbs l)), (21, .int .i64 ((limbs l).length : Nat)), (22, .int .i64 (i : Nat))], [.row false 210 1 (limbs o)]⟩, rfl,
      ⟨l.length, 0, [], 0, by omega, rfl, rfl, by simp [small], by omega, by simp [bv], rfl⟩, ?_⟩
    rintro k _ ⟨i, o, c, hi, hk, ho, hso, hc, hv, rfl⟩
    rcases Nat.lt_or_ge i l.length with hil | hge
    · have hx : l[i] < 4294967296 := hs l[i] (List.getElem_mem hil)
      have hol : (limbs o).length = i := by rw [limbs_length]; exact ho
      have g1 : (limbs l)[i]? = some [.int .u32 ((l[i] : Nat) : Int)] := limbs_get hil
      rcases Nat.lt_or_ge i l2.length with hi2 | hg2
      · have hx2 : l2[i] < 4294967296 := hs2 l2[i] (List.getElem_mem hi2)
        have g2 : (limbs l2)[i]? = some [.int .u32 ((l2[i] : Nat) : Int)] := limbs_get hi2
        repeat' first|refine sY ⟨?_⟩|(refine sq ?_ ?_<;>refine fun h=>⟨?_⟩<;>(first|contradiction|(exfalso;omega)|skip))|fail
        have he : ((c : Int) + ((l[i] : Nat) : Int) + ((l2[i] : Nat) : Int)) % 4294967296 = (((c + l[i] + l2[i]) % 4294967296 : Nat) : Int) := by omega
        refine ⟨Nat.le_refl _, (show ((limbs o).length + 1) * 4 ≤ _ by omega), _, limbs_snoc' o _ he, ?_⟩
        repeat' first|refine sX ⟨?_⟩|(refine sp ?_ ?_<;>refine fun h=>⟨?_⟩)|fail
        refine ⟨by decide, _, shr32' (c + l[i] + l2[i]) (by omega), ?_⟩
        repeat' first|refine sX ⟨?_⟩|(refine sp ?_ ?_<;>refine fun h=>⟨?_⟩)|fail
        refine ⟨[2], l.length - (i + 1), rfl, by omega, i + 1, o ++ [(c + l[i] + l2[i]) % 4294967296], (c + l[i] + l2[i]) / 4294967296, by omega, rfl, by simp [ho], small_append hso (by simp [small, BB]; omega), by omega, ?_, rfl⟩
        have := add_digit BB (x := l[i]) (d := l2[i]) ho hv
        rw [bv_take_succ BB hil, bv_take_succ BB hi2]
        exact this
      · repeat' first|refine sY ⟨?_⟩|(refine sq ?_ ?_<;>refine fun h=>⟨?_⟩<;>(first|contradiction|(exfalso;omega)|skip))|fail
        have he : ((c : Int) + ((l[i] : Nat) : Int)) % 4294967296 = (((c + l[i] + 0) % 4294967296 : Nat) : Int) := by omega
        refine ⟨Nat.le_refl _, (show ((limbs o).length + 1) * 4 ≤ _ by omega), _, limbs_snoc' o _ he, ?_⟩
        repeat' first|refine sX ⟨?_⟩|(refine sp ?_ ?_<;>refine fun h=>⟨?_⟩)|fail
        refine ⟨by decide, _, shr32' (c + l[i] + 0) (by omega), ?_⟩
        repeat' first|refine sX ⟨?_⟩|(refine sp ?_ ?_<;>refine fun h=>⟨?_⟩)|fail
        refine ⟨[2], l.length - (i + 1), rfl, by omega, i + 1, o ++ [(c + l[i] + 0) % 4294967296], (c + l[i] + 0) / 4294967296, by omega, rfl, by simp [ho], small_append hso (by simp [small, BB]; omega), by omega, ?_, rfl⟩
        have := add_digit BB (x := l[i]) (d := 0) ho hv
        rw [bv_take_succ BB hil, take_more BB hg2]
        exact this
    · have hol : (limbs o).length = i := by rw [limbs_length]; exact ho
      repeat' first|refine sY ⟨?_⟩|(refine sq ?_ ?_<;>refine fun h=>⟨?_⟩<;>(first|contradiction|(exfalso;omega)|skip))|fail
      have he : (c : Int) % 4294967296 = (c : Nat) := by omega
      refine ⟨Nat.le_refl _, (show ((limbs o).length + 1) * 4 ≤ _ by omega), _, limbs_snoc' o _ he, ?_⟩
      repeat' first|refine sY ⟨?_⟩|(refine sq ?_ ?_<;>refine fun h=>⟨?_⟩<;>(first|contradiction|(exfalso;omega)|skip))|fail
      have hso2 : small (o ++ [c]) := small_append hso (by simp [small, BB]; omega)
      conv => whnf
      refine .inr ⟨[2], rfl, _, c_trimH gl (o ++ [c]) hso2 (by simp; omega), ?_⟩
      rintro _ _ ⟨rfl, hpre, rfl⟩
      repeat' first|refine sY ⟨?_⟩|(refine sq ?_ ?_<;>refine fun h=>⟨?_⟩<;>(first|contradiction|(exfalso;omega)|skip))|fail
      conv => whnf
      refine .inr (.inl ?_)
      have e1 : i = l.length := by omega
      have e2 : lval (o ++ [c]) = lval l + lval l2 := by
        rw [lval_bv, lval_bv, lval_bv, bv_snoc, ho, hv, e1, List.take_length, List.take_of_length_le (by omega)]
      show AV.fr _ _ ((limbs (o ++ [c])).take (lim (lval (o ++ [c]))).length) = _
      rw [limbs_take, ← hpre, e2]
theorem c_nadd2 (m n : Nat) (hl : (lim m).length < 1000000) (hl2 : (lim n).length < 1000000) : VCall Go.Proofs.Tryz.prog gl 194 [.ro 1 (limbs (lim m)), .ro 1 (limbs (lim n))] (fun x => x = .ro 1 (limbs (lim (m + n)))) := by
  have h := c_nadd gl (lim m) (lim n) (lim_small m) (lim_small n) hl hl2
  rw [lval_lim, lval_lim] at h
  exact VCall.taken (h.mono fun x hx => ⟨_, by rw [hx]; rfl, rfl⟩)
theorem c_nsub2 (m n : Nat) (hl : (lim m).length < 1000000) (hmn : n ≤ m) : VCall Go.Proofs.Tryz.prog gl 195 [.ro 1 (limbs (lim m)), .ro 1 (limbs (lim n))] (fun x => x = .ro 1 (limbs (lim (m - n)))) := by
  have h := c_sub gl (lim m) (lim n) (lim_small m) (lim_small n) hl (lim_mono hmn) (by rw [lval_lim, lval_lim]; exact hmn)
  rw [lval_lim, lval_lim] at h
  refine VCall.taken (h.mono fun x hx => ?_)
  rcases hx with rfl | ⟨h0, rfl⟩
  · exact ⟨_, rfl, rfl⟩
  · have : m = 0 := by have := lim_len_zero m; rw [h0] at this; simpa using this
    subst this
    exact ⟨_, rfl, by rw [Nat.zero_sub, lim_zero]⟩
set_option maxHeartbeats 4000000 in
theorem c_nmul (l l2 : List Nat) (hs : small l) (hs2 : small l2) (hl : l.length < 1000000) (hl2 : l2.length < 1000000) : VCall Go.Proofs.Tryz.prog gl 193 [.ro 1 (limbs l), .ro 1 (limbs l2)] (fun x => x = .ro 1 (limbs (lim (lval l * lval l2)))) := by
  refine VCall.taken ?_
  have hlen : (limbs l).length = l.length := limbs_length l
  have hlen2 : (limbs l2).length = l2.length := limbs_length l2
  refine vcall_of TOK_nmul HM Go.Proofs.Tryz.func193 rfl (by decide +kernel) (by decide +kernel) rfl ?_
  repeat' first|refine sY ⟨?_⟩|(refine sq ?_ ?_<;>refine fun h=>⟨?_⟩<;>(first|contradiction|(exfalso;omega)|skip))|fail
  refine ⟨by omega, Int.le_refl _, by omega, (show ((((limbs l).length : Nat) : Int) + ((limbs l2).length : Nat)) * 4 ≤ _ by omega), l.length + l2.length, by omega, ?_⟩
  repeat' first|refine sY ⟨?_⟩|(refine sq ?_ ?_<;>refine fun h=>⟨?_⟩<;>(first|contradiction|(exfalso;omega)|skip))|fail
  have hrep : List.replicate (l.length + l2.length) [AV.int .u32 0] = limbs (List.replicate (l.length + l2.length) 0) := by simp [limbs]
  refine ⟨[1, 5, 17, 18, 19], [0], fun m st => ∃ (i : Nat) (o : List Nat), i ≤ l.length ∧ m = l.length - i ∧ Mul1 BB l l2 i o ∧
    st = ⟨[(1, .ro 1 (limbs l2)), (5, .own 0 0 (l.length + l2.length)), (17, .ro 1 (limbs l)), (18, .int .i64 ((limbs l).length : Nat)), (19, .int .i64 (i : Nat))], [.row false 210 1 (limbs o)]⟩, rfl,
    ⟨l.length, 0, _, by omega, rfl, mul_start (by decide) l l2, Eq.trans rfl (congrArg (fun z : List (List AV) => (⟨[(1, .ro 1 (limbs l2)), (5, .own 0 0 (l.length + l2.length)), (17, .ro 1 (limbs l)), (18, .int .i64 ((limbs l).length : Nat)), (19, .int .i64 ((0 : Nat) : Int))], [.row false 210 1 z]⟩ : St)) hrep)⟩, ?_⟩
  rintro m _ ⟨i, o, hi, hm, h1, rfl⟩
  rcases Nat.lt_or_ge i l.length with hil | hge
  · have hx : l[i] < 4294967296 := hs l[i] (List.getElem_mem hil)
    have gx : (limbs l)[i]? = some [.int .u32 ((l[i] : Nat) : Int)] := limbs_get hil
    repeat' first|refine sY ⟨?_⟩|(refine sq ?_ ?_<;>refine fun h=>⟨?_⟩<;>(first|contradiction|(exfalso;omega)|skip))|fail
    refine ⟨[1, 5, 6, 7, 8, 17, 18, 19, 24, 25, 26], [0], fun m st => ∃ (k : Nat) (o : List Nat) (c : Nat), k ≤ l2.length ∧ m = l2.length - k ∧ Mul2 BB l l2 i k o c ∧
      st = ⟨[(1, .ro 1 (limbs l2)), (5, .own 0 0 (l.length + l2.length)), (6, .int .i64 (i : Nat)), (7, .int .u32 ((l[i] : Nat) : Int)), (8, .int .u64 (c : Nat)), (17, .ro 1 (limbs l)), (18, .int .i64 ((limbs l).length : Nat)), (19, .int .i64 (i : Nat)),
        (24, .ro 1 (limbs l2)), (25, .int .i64 ((limbs l2).length : Nat)), (26, .int .i64 (k : Nat))], [.row false 210 1 (limbs o)]⟩, rfl,
      ⟨l2.length, 0, o, 0, by omega, rfl, mul_in (by decide) h1, rfl⟩, ?_⟩
    clear h1
    rintro m2 _ ⟨k, o, c, hk, hm2, h2, rfl⟩
    have hol := h2.len
    have hc : c < 4294967296 := h2.cl
    rcases Nat.lt_or_ge k l2.length with hkl | hkge
    · have hy : l2[k] < 4294967296 := hs2 l2[k] (List.getElem_mem hkl)
      have gy : (limbs l2)[k]? = some [.int .u32 ((l2[k] : Nat) : Int)] := limbs_get hkl
      have ho : i + k < o.length := by omega
      have hd : o[i + k] < 4294967296 := h2.lt o[i + k] (List.getElem_mem ho)
      have go : (limbs o)[0 + (i + k)]? = some [.int .u32 ((o[i + k] : Nat) : Int)] := by rw [Nat.zero_add]; exact limbs_get ho
      have hst := mul_step h2 hil hkl hx hy ho
      have hml := mul_lt hc hd hx hy
      have hcast : (l[i] : Int) * (l2[k] : Int) = ((l[i] * l2[k] : Nat) : Int) := by simp
      generalize hP : l[i] * l2[k] = p at hst hml hcast
      have hp1 : (0 : Int) ≤ (l[i] : Int) * (l2[k] : Int) := by omega
      have hp2 : (l[i] : Int) * (l2[k] : Int) ≤ 18446744065119617025 := by
        have : l[i] * l2[k] ≤ 4294967295 * 4294967295 := Nat.mul_le_mul (by omega) (by omega)
        omega
      repeat' first|refine sY ⟨?_⟩|(refine sq ?_ ?_<;>refine fun h=>⟨?_⟩<;>(first|contradiction|(exfalso;omega)|skip))|fail
      refine ⟨i + k, by omega, by omega, ?_⟩
      repeat' first|refine sY ⟨?_⟩|(refine sq ?_ ?_<;>refine fun h=>⟨?_⟩<;>(first|contradiction|(exfalso;omega)|skip))|fail
      have he : ((c : Int) + ((o[i + k] : Int) + (l[i] : Int) * (l2[k] : Int))) % 4294967296 = (((c + (o[i + k] + p)) % 4294967296 : Nat) : Int) := by rw [hcast]; omega
      have hset : (limbs o).set (0 + (i + k)) [.int .u32 (((c : Int) + ((o[i + k] : Int) + (l[i] : Int) * (l2[k] : Int))) % 4294967296)] = limbs (o.set (i + k) ((c + (o[i + k] + p)) % 4294967296)) := by rw [Nat.zero_add]; exact limbs_set o (i + k) _ he
      refine ⟨i + k, by omega, by omega, ?_⟩
      repeat' first|refine sY ⟨?_⟩|(refine sq ?_ ?_<;>refine fun h=>⟨?_⟩<;>(first|contradiction|(exfalso;omega)|skip))|fail
      refine ⟨by decide, _, shr32' (c + (o[i + k] + p)) (by rw [hcast]; omega), ?_⟩
      repeat' first|refine sY ⟨?_⟩|(refine sq ?_ ?_<;>refine fun h=>⟨?_⟩<;>(first|contradiction|(exfalso;omega)|skip))|fail
      refine ⟨[0], l2.length - (k + 1), rfl, by omega, k + 1, _, _, by omega, rfl, hst, ?_⟩
      refine Eq.trans rfl (congrArg (fun z : List (List AV) => (⟨[(1, .ro 1 (limbs l2)), (5, .own 0 0 (l.length + l2.length)), (6, .int .i64 (i : Nat)), (7, .int .u32 ((l[i] : Nat) : Int)), (8, .int .u64 (((c + (o[i + k] + p)) / 4294967296 : Nat) : Int)), (17, .ro 1 (limbs l)), (18, .int .i64 ((limbs l).length : Nat)), (19, .int .i64 (i : Nat)),
        (24, .ro 1 (limbs l2)), (25, .int .i64 ((limbs l2).length : Nat)), (26, .int .i64 ((k + 1 : Nat) : Int))], [.row false 210 1 z]⟩ : St)) hset)
    · obtain rfl : k = l2.length := by omega
      have h3 := mul_out h2 hil (by omega)
      have he : (c : Int) % 4294967296 = ((c : Nat) : Int) := by omega
      have hset : (limbs o).set (0 + (i + l2.length)) [.int .u32 ((c : Int) % 4294967296)] = limbs (o.set (i + l2.length) c) := by rw [Nat.zero_add]; exact limbs_set o (i + l2.length) _ he
      have go : (limbs o)[0 + (i + l2.length)]? = some [.int .u32 ((o[i + l2.length]'(by omega) : Nat) : Int)] := by rw [Nat.zero_add]; exact limbs_get (by omega)
      repeat' first|refine sY ⟨?_⟩|(refine sq ?_ ?_<;>refine fun h=>⟨?_⟩<;>(first|contradiction|(exfalso;omega)|skip))|fail
      refine ⟨i + l2.length, by omega, by omega, ?_⟩
      repeat' first|refine sY ⟨?_⟩|(refine sq ?_ ?_<;>refine fun h=>⟨?_⟩<;>(first|contradiction|(exfalso;omega)|skip))|fail
      refine ⟨[0], l.length - (i + 1), rfl, by omega, i + 1, _, by omega, rfl, h3, ?_⟩
      refine Eq.trans rfl (congrArg (fun z : List (List AV) => (⟨[(1, .ro 1 (limbs l2)), (5, .own 0 0 (l.length + l2.length)), (17, .ro 1 (limbs l)), (18, .int .i64 ((limbs l).length : Nat)), (19, .int .i64 ((i + 1 : Nat) : Int))], [.row false 210 1 z]⟩ : St)) hset)
  · obtain rfl : i = l.length := by omega
    have hv := mul_end h1
    rw [← lval_bv, ← lval_bv, ← lval_bv] at hv
    have hol := h1.len
    repeat' first|refine sY ⟨?_⟩|(refine sq ?_ ?_<;>refine fun h=>⟨?_⟩<;>(first|contradiction|(exfalso;omega)|skip))|fail
    conv => whnf
    have ht := c_trimH gl o h1.lt (by omega)
    rw [limbs_length, hol] at ht
    refine .inr ⟨[0], rfl, _, ht, ?_⟩
    rintro _ _ ⟨rfl, hpre, rfl⟩
    repeat' first|refine sY ⟨?_⟩|(refine sq ?_ ?_<;>refine fun h=>⟨?_⟩<;>(first|contradiction|(exfalso;omega)|skip))|fail
    conv => whnf
    refine .inr (.inl ⟨_, rfl, ?_⟩)
    show AV.ro 1 ((limbs o).take (lim (lval o)).length) = _
    rw [limbs_take, ← hpre, hv]
theorem dec_add {m n k : Nat} (hk : 0 < k) (hm : (dec m).length ≤ k) (hn : (dec n).length ≤ k) : (dec (m + n)).length ≤ k + 1 := by
  have h1 := (dec_length_lt m k hk).1 hm
  have h2 := (dec_length_lt n k hk).1 hn
  exact (dec_length_lt (m + n) _ (by omega)).2 (by rw [Nat.pow_succ]; generalize 10 ^ k = q at h1 h2 ⊢; omega)
theorem dec_mul {m n k j : Nat} (hk : 0 < k) (hj : 0 < j) (hm : (dec m).length ≤ k) (hn : (dec n).length ≤ j) : (dec (m * n)).length ≤ k + j := by
  have h1 := (dec_length_lt m k hk).1 hm
  have h2 := (dec_length_lt n j hj).1 hn
  exact (dec_length_lt (m * n) _ (by omega)).2 (by rw [Nat.pow_add]; exact Nat.mul_lt_mul'' h1 h2)
theorem c_NAdd (m n : Nat) (hm : (dec m).length ≤ 100000) (hn : (dec n).length ≤ 100000) : VCall Go.Proofs.Tryz.prog gl 155 [.str (decB m), .str (decB n)] (fun x => x = .tup [.str (decB (m + n)), .int .i64 0]) := by
  have hb := c_Nboth2 gl m n (by omega) (by omega)
  have hlm := lim_le_dec m
  have hln := lim_le_dec n
  have ha := c_nadd2 gl m n (by omega) (by omega)
  have ht := c_text gl (m + n) (by have := dec_add (by omega) hm hn; omega)
  refine vcall_of TOK_NAdd HM Go.Proofs.Tryz.func155 rfl (by decide +kernel) (by decide +kernel) rfl ?_
  repeat' first|refine sY ⟨?_⟩|(refine sq ?_ ?_<;>refine fun h=>⟨?_⟩<;>(first|contradiction|(exfalso;omega)|skip))|fail
  conv => whnf
  rfl
theorem c_NMul (m n : Nat) (hm : (dec m).length ≤ 100000) (hn : (dec n).length ≤ 100000) : VCall Go.Proofs.Tryz.prog gl 154 [.str (decB m), .str (decB n)] (fun x => x = .tup [.str (decB (m * n)), .int .i64 0]) := by
  have hb := c_Nboth2 gl m n (by omega) (by omega)
  have hlm := lim_le_dec m
  have hln := lim_le_dec n
  have ha := c_nmul gl (lim m) (lim n) (lim_small m) (lim_small n) (by omega) (by omega)
  rw [lval_lim, lval_lim] at ha
  have ht := c_text gl (m * n) (by have := dec_mul (by omega) (by omega) hm hn; omega)
  refine vcall_of TOK_NMul HM Go.Proofs.Tryz.func154 rfl (by decide +kernel) (by decide +kernel) rfl ?_
  repeat' first|refine sY ⟨?_⟩|(refine sq ?_ ?_<;>refine fun h=>⟨?_⟩<;>(first|contradiction|(exfalso;omega)|skip))|fail
  conv => whnf
  rfl
theorem c_NSub (m n : Nat) (hmn : n ≤ m) (hm : (dec m).length ≤ 100000) (hn : (dec n).length ≤ 100000) : VCall Go.Proofs.Tryz.prog gl 157 [.str (decB m), .str (decB n)] (fun x => x = .tup [.str (decB (m - n)), .int .i64 0]) := by
  have hb := c_Nboth2 gl m n (by omega) (by omega)
  have hlm := lim_le_dec m
  have hln := lim_le_dec n
  have ha := c_nsub2 gl m n (by omega) hmn
  have hc := c_compare gl m n (by omega) (by omega)
  have hge := (cmpN_ge (m := m)).2 hmn
  have ht := c_text gl (m - n) (by have := dec_mono (Nat.sub_le m n); omega)
  refine vcall_of TOK_NSub HM Go.Proofs.Tryz.func157 rfl (by decide +kernel) (by decide +kernel) rfl ?_
  repeat' first|refine sY ⟨?_⟩|(refine sq ?_ ?_<;>refine fun h=>⟨?_⟩<;>(first|contradiction|(exfalso;omega)|skip))|fail
  conv => whnf
  rfl
theorem c_NCompare (m n : Nat) (hm : (dec m).length ≤ 100000) (hn : (dec n).length ≤ 100000) : VCall Go.Proofs.Tryz.prog gl 156 [.str (decB m), .str (decB n)] (fun x => x = .tup [.int .i64 (cmpN m n), .int .i64 0]) := by
  have hb := c_Nboth2 gl m n (by omega) (by omega)
  have hlm := lim_le_dec m
  have hln := lim_le_dec n
  have hc := c_compare gl m n (by omega) (by omega)
  refine vcall_of TOK_NCompare HM Go.Proofs.Tryz.func156 rfl (by decide +kernel) (by decide +kernel) rfl ?_
  repeat' first|refine sY ⟨?_⟩|(refine sq ?_ ?_<;>refine fun h=>⟨?_⟩<;>(first|contradiction|(exfalso;omega)|skip))|fail
  conv => whnf
  rfl
end Go.V
namespace Go.V
open Go.N
set_option maxRecDepth 20000
variable (gl : Gl)
def T_r01_Add : Tab := [(9, i9), (3, i3), (33, i33)]
theorem TOK_r01_Add : TOK Go.Proofs.Tryz.prog T_r01_Add := ⟨K9, ⟨K3, ⟨K33, trivial⟩⟩⟩
def T_r01_Mul : Tab := [(9, i9), (3, i3), (33, i33)]
theorem TOK_r01_Mul : TOK Go.Proofs.Tryz.prog T_r01_Mul := ⟨K9, ⟨K3, ⟨K33, trivial⟩⟩⟩
theorem rem10 (n : Nat) {a : Int} (h : a = n) : ((n % 10 : Nat) : Int) = Int.tmod a 10 := by rw [h]; exact Int.ofNat_tmod n 10
theorem quo10 (n : Nat) {a : Int} (h : a = n) (hn : n < 1000000) : ((n / 10 : Nat) : Int) = IntKind.wrap .i64 (Int.tdiv a 10) := by
  rw [h, show Int.tdiv (n : Int) 10 = ((n / 10 : Nat) : Int) from (Int.ofNat_tdiv n 10).symm]
  exact wi64 (by omega) (by omega)
set_option maxHeartbeats 2000000 in
theorem c_r01_Add (m n : Nat) (hm : (dec m).length ≤ 100000) (hn : (dec n).length ≤ 100000) : VCall Go.Proofs.Tryz.prog gl 168 [.str (decB m), .str (decB n)] (fun x => x = .str (decB (m + n))) := by
  have hz := decB_size m
  have hz2 := decB_size n
  have hp1 := List.length_pos_iff.2 (dec_ne m)
  have hp2 := List.length_pos_iff.2 (dec_ne n)
  refine vcall_of TOK_r01_Add HM Go.Proofs.Tryz.func168 rfl (by decide +kernel) (by decide +kernel) rfl ?_
  repeat' first|refine sY ⟨?_⟩|(refine sq ?_ ?_<;>refine fun h=>⟨?_⟩<;>(first|contradiction|(exfalso;omega)|skip))|fail
  refine ⟨[0, 1, 5, 6, 7], [], fun k st => ∃ (i : Nat) (L : List Nat) (c : Nat), i ≤ (dec m).length + (dec n).length ∧ k = (dec m).length + (dec n).length - i ∧ L.length = i ∧ (∀ x ∈ L, x < 10) ∧ c ≤ 1 ∧ bv 10 L + 10 ^ i * c = m % 10 ^ i + n % 10 ^ i ∧
    ((i = 0 ∧ L = [] ∧ st = ⟨[(0, .str (decB m)), (1, .str (decB n)), (5, .nils), (6, .int .i64 (c : Nat)), (7, .int .i64 (i : Nat))], []⟩) ∨
    (st = ⟨[(0, .str (decB m)), (1, .str (decB n)), (5, .own 0 0 (ints L).length), (6, .int .i64 (c : Nat)), (7, .int .i64 (i : Nat))], [.row false 3 1 (ints L)]⟩)), rfl,
    ⟨(dec m).length + (dec n).length, 0, [], 0, by omega, rfl, rfl, by simp, by omega, by simp [bv, Nat.mod_one], .inl ⟨rfl, rfl, rfl⟩⟩, ?_⟩
  rintro k _ ⟨i, L, c, hi, hk, hLi, hL, hc, hs, ⟨hi0, hL0, rfl⟩ | rfl⟩
  · have h1 := dig_lt m i
    have h2 := dig_lt n i
    have hd1 := c_r01_digit gl m i (by omega) (by omega)
    have hd2 := c_r01_digit gl n i (by omega) (by omega)
    have ld : ∀ x, x < 10 → ∀ y ∈ L ++ [x], y < 10 := fun x hx y hy => by
      simp only [List.mem_append, List.mem_singleton] at hy
      rcases hy with hy | rfl
      · exact hL y hy
      · exact hx
    repeat' first|refine sY ⟨?_⟩|(refine sq ?_ ?_<;>refine fun h=>⟨?_⟩<;>(first|contradiction|(exfalso;omega)|skip))|fail
    refine ⟨by decide, _, rem10 (c + (dig m i + dig n i)) (by omega), ?_⟩
    repeat' first|refine sY ⟨?_⟩|(refine sq ?_ ?_<;>refine fun h=>⟨?_⟩<;>(first|contradiction|(exfalso;omega)|skip))|fail
    refine ⟨Nat.le_of_ble_eq_true rfl, List.cons_ne_nil _ _, ?_⟩
    repeat' first|refine sY ⟨?_⟩|(refine sq ?_ ?_<;>refine fun h=>⟨?_⟩<;>(first|contradiction|(exfalso;omega)|skip))|fail
    refine ⟨by decide, _, quo10 (c + (dig m i + dig n i)) (by omega) (by omega), ?_⟩
    repeat' first|refine sY ⟨?_⟩|(refine sq ?_ ?_<;>refine fun h=>⟨?_⟩<;>(first|contradiction|(exfalso;omega)|skip))|fail
    refine ⟨[1], (dec m).length + (dec n).length - (i + 1), rfl, by omega, i + 1, L ++ [(c + (dig m i + dig n i)) % 10], (c + (dig m i + dig n i)) / 10, by omega, rfl, by simp [hLi], ld _ (by omega), by omega, ?_, .inr ?_⟩
    · have := add_digit 10 (x := dig m i) (d := dig n i) hLi hs
      rw [mod_succ, mod_succ, ← this, Nat.add_assoc c]
    have he : ints (L ++ [(c + (dig m i + dig n i)) % 10]) = [[.int .i64 (((c + (dig m i + dig n i)) % 10 : Nat) : Int)]] := by rw [hL0]; rfl
    exact Eq.trans rfl (congrArg (fun r : List (List AV) => (⟨[(0, .str (decB m)), (1, .str (decB n)), (5, .own 0 0 r.length), (6, .int .i64 (((c + (dig m i + dig n i)) / 10 : Nat) : Int)), (7, .int .i64 ((i + 1 : Nat) : Int))], [.row false 3 1 r]⟩ : St)) he.symm)
  · rcases Nat.lt_or_ge i ((dec m).length + (dec n).length) with hil | hge
    · have hol : (ints L).length = i := by rw [ints_length]; exact hLi
      have h1 := dig_lt m i
      have h2 := dig_lt n i
      have hd1 := c_r01_digit gl m i (by omega) (by omega)
      have hd2 := c_r01_digit gl n i (by omega) (by omega)
      have ld : ∀ x, x < 10 → ∀ y ∈ L ++ [x], y < 10 := fun x hx y hy => by
        simp only [List.mem_append, List.mem_singleton] at hy
        rcases hy with hy | rfl
        · exact hL y hy
        · exact hx
      repeat' first|refine sY ⟨?_⟩|(refine sq ?_ ?_<;>refine fun h=>⟨?_⟩<;>(first|contradiction|(exfalso;omega)|skip))|fail
      refine ⟨by decide, _, rem10 (c + (dig m i + dig n i)) (by omega), ?_⟩
      repeat' first|refine sY ⟨?_⟩|(refine sq ?_ ?_<;>refine fun h=>⟨?_⟩<;>(first|contradiction|(exfalso;omega)|skip))|fail
      refine ⟨Nat.le_refl _, (show ((ints L).length + 1) * 8 ≤ _ by omega), _, ints_snoc L ((c + (dig m i + dig n i)) % 10), ?_⟩
      repeat' first|refine sY ⟨?_⟩|(refine sq ?_ ?_<;>refine fun h=>⟨?_⟩<;>(first|contradiction|(exfalso;omega)|skip))|fail
      refine ⟨by decide, _, quo10 (c + (dig m i + dig n i)) (by omega) (by omega), ?_⟩
      repeat' first|refine sY ⟨?_⟩|(refine sq ?_ ?_<;>refine fun h=>⟨?_⟩<;>(first|contradiction|(exfalso;omega)|skip))|fail
      refine ⟨[2], (dec m).length + (dec n).length - (i + 1), rfl, by omega, i + 1, L ++ [(c + (dig m i + dig n i)) % 10], (c + (dig m i + dig n i)) / 10, by omega, rfl, by simp [hLi], ld _ (by omega), by omega, ?_, .inr ?_⟩
      · have := add_digit 10 (x := dig m i) (d := dig n i) hLi hs
        rw [mod_succ, mod_succ, ← this, Nat.add_assoc c]
      rfl
    · have hi2 : i = (dec m).length + (dec n).length := by omega
      have hlm : m < 10 ^ i := (dec_length_lt m _ (by omega)).1 (by omega)
      have hln : n < 10 ^ i := (dec_length_lt n _ (by omega)).1 (by omega)
      have hmn : m + n < 10 ^ i := (dec_length_lt (m + n) _ (by omega)).1 (by
        rcases Nat.le_total (dec m).length (dec n).length with g | g
        · have := dec_add (m := m) (n := n) hp2 g (Nat.le_refl _); omega
        · have := dec_add (m := m) (n := n) hp1 (Nat.le_refl _) g; omega)
      rw [Nat.mod_eq_of_lt hlm, Nat.mod_eq_of_lt hln] at hs
      have hc0 : c = 0 := by
        rcases Nat.lt_or_ge c 1 with h | h
        · omega
        · obtain rfl : c = 1 := by omega
          omega
      subst hc0
      have e : lsum L = m + n := by rw [lsum_bv]; omega
      have hcall := c_r01_of gl L hL (by omega)
      rw [← List.take_length (l := ints L), ← List.drop_zero (l := ints L), e] at hcall
      repeat' first|refine sY ⟨?_⟩|(refine sq ?_ ?_<;>refine fun h=>⟨?_⟩<;>(first|contradiction|(exfalso;omega)|skip))|fail
      conv => whnf
      rfl
def digs (m : Nat) : List Nat := (List.range (dec m).length).map (dig m)
theorem digs_len (m : Nat) : (digs m).length = (dec m).length := by simp [digs]
theorem digs_get {m i : Nat} (h : i < (digs m).length) : (digs m)[i] = dig m i := by simp [digs]
theorem digs_bv (m : Nat) : bv 10 (digs m) = m := by
  have : ∀ k, bv 10 ((List.range k).map (dig m)) = m % 10 ^ k := fun k => by
    induction k with
    | zero => simp [bv, Nat.mod_one]
    | succ k ih => rw [List.range_succ, List.map_append, List.map_cons, List.map_nil, bv_snoc, ih, List.length_map, List.length_range, mod_succ]
  rw [digs, this, Nat.mod_eq_of_lt (lt_pow_len m)]
set_option maxHeartbeats 4000000 in
theorem c_r01_Mul (m n : Nat) (hm : (dec m).length ≤ 100000) (hn : (dec n).length ≤ 100000) : VCall Go.Proofs.Tryz.prog gl 171 [.str (decB m), .str (decB n)] (fun x => x = .str (decB (m * n))) := by
  have hz := decB_size m
  have hz2 := decB_size n
  have hxl := digs_len m
  have hyl := digs_len n
  refine vcall_of TOK_r01_Mul HM Go.Proofs.Tryz.func171 rfl (by decide +kernel) (by decide +kernel) rfl ?_
  repeat' first|refine sY ⟨?_⟩|(refine sq ?_ ?_<;>refine fun h=>⟨?_⟩<;>(first|contradiction|(exfalso;omega)|skip))|fail
  refine ⟨by omega, Int.le_refl _, by omega, (show ((((decB m).size : Nat) : Int) + ((decB n).size : Nat)) * 8 ≤ _ by omega), (dec m).length + (dec n).length, by omega, ?_⟩
  repeat' first|refine sY ⟨?_⟩|(refine sq ?_ ?_<;>refine fun h=>⟨?_⟩<;>(first|contradiction|(exfalso;omega)|skip))|fail
  have hrep : List.replicate ((dec m).length + (dec n).length) [AV.int .i64 0] = ints (List.replicate ((digs m).length + (digs n).length) 0) := by rw [hxl, hyl]; simp [ints]
  refine ⟨[0, 1, 5, 6], [0], fun k st => ∃ (i : Nat) (o : List Nat), i ≤ (dec m).length ∧ k = (dec m).length - i ∧ Mul1 10 (digs m) (digs n) i o ∧
    st = ⟨[(0, .str (decB m)), (1, .str (decB n)), (5, .own 0 0 ((dec m).length + (dec n).length)), (6, .int .i64 (i : Nat))], [.row false 3 1 (ints o)]⟩, rfl,
    ⟨(dec m).length, 0, _, by omega, rfl, mul_start (by decide) _ _, Eq.trans rfl (congrArg (fun z : List (List AV) => (⟨[(0, .str (decB m)), (1, .str (decB n)), (5, .own 0 0 ((dec m).length + (dec n).length)), (6, .int .i64 ((0 : Nat) : Int))], [.row false 3 1 z]⟩ : St)) hrep)⟩, ?_⟩
  rintro k _ ⟨i, o, hi, hk, h1, rfl⟩
  rcases Nat.lt_or_ge i (dec m).length with hil | hge
  · have hx : dig m i < 10 := dig_lt m i
    repeat' first|refine sY ⟨?_⟩|(refine sq ?_ ?_<;>refine fun h=>⟨?_⟩<;>(first|contradiction|(exfalso;omega)|skip))|fail
    refine ⟨[0, 1, 5, 6, 7, 8], [0], fun k st => ∃ (j : Nat) (o : List Nat) (c : Nat), j ≤ (dec n).length ∧ k = (dec n).length - j ∧ Mul2 10 (digs m) (digs n) i j o c ∧
      st = ⟨[(0, .str (decB m)), (1, .str (decB n)), (5, .own 0 0 ((dec m).length + (dec n).length)), (6, .int .i64 (i : Nat)), (7, .int .i64 (c : Nat)), (8, .int .i64 (j : Nat))], [.row false 3 1 (ints o)]⟩, rfl,
      ⟨(dec n).length, 0, o, 0, by omega, rfl, mul_in (by decide) h1, rfl⟩, ?_⟩
    clear h1
    rintro k2 _ ⟨j, o, c, hj, hk2, h2, rfl⟩
    have hol := h2.len
    have hc : c < 10 := h2.cl
    rcases Nat.lt_or_ge j (dec n).length with hjl | hjge
    · have hy : dig n j < 10 := dig_lt n j
      have ho : i + j < o.length := by omega
      have hd : o[i + j] < 10 := h2.lt o[i + j] (List.getElem_mem ho)
      have go : (ints o)[0 + (i + j)]? = some [.int .i64 ((o[i + j] : Nat) : Int)] := by rw [Nat.zero_add]; exact ints_get ho
      have hst := mul_step h2 (by omega) (by omega) (by rw [digs_get]; exact hx) (by rw [digs_get]; exact hy) ho
      rw [digs_get, digs_get] at hst
      have hpl : dig m i * dig n j ≤ 9 * 9 := Nat.mul_le_mul (by omega) (by omega)
      have hcast : (dig m i : Int) * (dig n j : Int) = ((dig m i * dig n j : Nat) : Int) := by simp
      generalize hP : dig m i * dig n j = p at hst hpl hcast
      have hp1 : (0 : Int) ≤ (dig m i : Int) * (dig n j : Int) := by omega
      have hp2 : (dig m i : Int) * (dig n j : Int) ≤ 81 := by omega
      have hd1 := c_r01_digit gl m i (by omega) (by omega)
      have hd2 := c_r01_digit gl n j (by omega) (by omega)
      repeat' first|refine sY ⟨?_⟩|(refine sq ?_ ?_<;>refine fun h=>⟨?_⟩<;>(first|contradiction|(exfalso;omega)|skip))|fail
      refine ⟨by decide +kernel, [0, 0, 0, 0, 12, 30, 62, 0, 0, 384, 0, 0, 3968, 8064, 16382, 32767, 65535], by decide +kernel, ?_⟩
      repeat' first|refine sY ⟨?_⟩|(refine sq ?_ ?_<;>refine fun h=>⟨?_⟩<;>(first|contradiction|(exfalso;omega)|skip))|fail
      refine ⟨i + j, by omega, by omega, ?_⟩
      repeat' first|refine sY ⟨?_⟩|(refine sq ?_ ?_<;>refine fun h=>⟨?_⟩<;>(first|contradiction|(exfalso;omega)|skip))|fail
      refine ⟨by decide, _, rem10 (c + (o[i + j] + p)) (by rw [hcast]; omega), ?_⟩
      repeat' first|refine sY ⟨?_⟩|(refine sq ?_ ?_<;>refine fun h=>⟨?_⟩<;>(first|contradiction|(exfalso;omega)|skip))|fail
      refine ⟨i + j, by omega, by omega, ?_⟩
      repeat' first|refine sY ⟨?_⟩|(refine sq ?_ ?_<;>refine fun h=>⟨?_⟩<;>(first|contradiction|(exfalso;omega)|skip))|fail
      refine ⟨by decide, _, quo10 (c + (o[i + j] + p)) (by rw [hcast]; omega) (by omega), ?_⟩
      repeat' first|refine sY ⟨?_⟩|(refine sq ?_ ?_<;>refine fun h=>⟨?_⟩<;>(first|contradiction|(exfalso;omega)|skip))|fail
      refine ⟨[0], (dec n).length - (j + 1), rfl, by omega, j + 1, _, _, by omega, rfl, hst, ?_⟩
      have hset : (ints o).set (0 + (i + j)) [.int .i64 (((c + (o[i + j] + p)) % 10 : Nat) : Int)] = ints (o.set (i + j) ((c + (o[i + j] + p)) % 10)) := by rw [Nat.zero_add]; simp [ints, List.map_set]
      exact Eq.trans rfl (congrArg (fun z : List (List AV) => (⟨[(0, .str (decB m)), (1, .str (decB n)), (5, .own 0 0 ((dec m).length + (dec n).length)), (6, .int .i64 (i : Nat)), (7, .int .i64 (((c + (o[i + j] + p)) / 10 : Nat) : Int)), (8, .int .i64 ((j + 1 : Nat) : Int))], [.row false 3 1 z]⟩ : St)) hset)
    · obtain rfl : j = (dec n).length := by omega
      rw [← hyl] at h2
      have h3 := mul_out h2 (by omega) (by omega)
      rw [hyl] at h3
      have go : (ints o)[0 + (i + (dec n).length)]? = some [.int .i64 ((o[i + (dec n).length]'(by omega) : Nat) : Int)] := by rw [Nat.zero_add]; exact ints_get (by omega)
      repeat' first|refine sY ⟨?_⟩|(refine sq ?_ ?_<;>refine fun h=>⟨?_⟩<;>(first|contradiction|(exfalso;omega)|skip))|fail
      refine ⟨i + (dec n).length, by omega, by omega, ?_⟩
      repeat' first|refine sY ⟨?_⟩|(refine sq ?_ ?_<;>refine fun h=>⟨?_⟩<;>(first|contradiction|(exfalso;omega)|skip))|fail
      refine ⟨[0], (dec m).length - (i + 1), rfl, by omega, i + 1, _, by omega, rfl, h3, ?_⟩
      have hset : (ints o).set (0 + (i + (dec n).length)) [.int .i64 (c : Int)] = ints (o.set (i + (dec n).length) c) := by rw [Nat.zero_add]; simp [ints, List.map_set]
      exact Eq.trans rfl (congrArg (fun z : List (List AV) => (⟨[(0, .str (decB m)), (1, .str (decB n)), (5, .own 0 0 ((dec m).length + (dec n).length)), (6, .int .i64 ((i + 1 : Nat) : Int))], [.row false 3 1 z]⟩ : St)) hset)
  · obtain rfl : i = (dec m).length := by omega
    rw [← hxl] at h1
    have hv := mul_end h1
    rw [digs_bv, digs_bv, ← lsum_bv] at hv
    have hol := h1.len
    have hcall := c_r01_of gl o h1.lt (by omega)
    rw [hv] at hcall
    have e : ints o = List.take ((dec m).length + (dec n).length) (List.drop 0 (ints o)) := by rw [List.drop_zero, List.take_of_length_le (by rw [ints_length]; omega)]
    rw [e] at hcall
    repeat' first|refine sY ⟨?_⟩|(refine sq ?_ ?_<;>refine fun h=>⟨?_⟩<;>(first|contradiction|(exfalso;omega)|skip))|fail
    conv => whnf
    rfl
end Go.V
namespace Go.V
open Go.N
set_option maxRecDepth 20000
variable (gl : Gl)
def T_Wboth : Tab := [(138, i138), (9, i9)]
theorem TOK_Wboth : TOK Go.Proofs.Tryz.prog T_Wboth := ⟨K138, ⟨K9, trivial⟩⟩
def T_Wsum : Tab := [(138, i138), (4, i4), (9, i9), (3, i3)]
theorem TOK_Wsum : TOK Go.Proofs.Tryz.prog T_Wsum := ⟨K138, ⟨K4, ⟨K9, ⟨K3, trivial⟩⟩⟩⟩
def T_WAdd : Tab := [(9, i9), (138, i138), (4, i4)]
theorem TOK_WAdd : TOK Go.Proofs.Tryz.prog T_WAdd := ⟨K9, ⟨K138, ⟨K4, trivial⟩⟩⟩
def T_WSub : Tab := [(9, i9), (138, i138), (4, i4)]
theorem TOK_WSub : TOK Go.Proofs.Tryz.prog T_WSub := ⟨K9, ⟨K138, ⟨K4, trivial⟩⟩⟩
def T_WMul : Tab := [(9, i9), (138, i138), (4, i4)]
theorem TOK_WMul : TOK Go.Proofs.Tryz.prog T_WMul := ⟨K9, ⟨K138, ⟨K4, trivial⟩⟩⟩
def T_WSign : Tab := [(9, i9), (138, i138), (4, i4)]
theorem TOK_WSign : TOK Go.Proofs.Tryz.prog T_WSign := ⟨K9, ⟨K138, ⟨K4, trivial⟩⟩⟩
def T_r02_NegI : Tab := [(9, i9), (3, i3)]
theorem TOK_r02_NegI : TOK Go.Proofs.Tryz.prog T_r02_NegI := ⟨K9, ⟨K3, trivial⟩⟩
def T_r02_Add : Tab := [(9, i9), (3, i3)]
theorem TOK_r02_Add : TOK Go.Proofs.Tryz.prog T_r02_Add := ⟨K9, ⟨K3, trivial⟩⟩
def T_r02_Mul : Tab := [(9, i9), (3, i3)]
theorem TOK_r02_Mul : TOK Go.Proofs.Tryz.prog T_r02_Mul := ⟨K9, ⟨K3, trivial⟩⟩
def sg (a : Int) : Int := if a < 0 then -1 else if a = 0 then 0 else 1
def snum (m : Bool) (k : Nat) : Int := if m = true then -(k : Int) else k
theorem snum_abs (a : Int) : snum (decide (a < 0)) a.natAbs = a := by
  unfold snum
  by_cases h : a < 0
  · rw [decide_eq_true h, if_pos rfl]; omega
  · rw [decide_eq_false h, if_neg (by simp)]; omega
theorem numT (m : Bool) (k : Nat) : (if m = true ∧ decB k ≠ decB 0 then minusB ++ decB k else decB k) = intB (snum m k) := by
  have hd : decB k ≠ decB 0 ↔ k ≠ 0 := by rw [ne_eq, decB_inj]
  cases m
  · rw [if_neg (by simp)]
    show _ = intB (k : Int)
    rw [intB_nat]
  · show _ = intB (-(k : Int))
    by_cases h0 : k = 0
    · subst h0; rw [if_neg (by simp)]; exact (intB_nat 0).symm
    · rw [if_pos ⟨rfl, hd.2 h0⟩, intB, if_pos (by omega), Int.natAbs_neg, Int.natAbs_natCast]
theorem c_Wtext2 (m : Bool) (k : Nat) (hk : (dec k).length < 9000000) : VCall Go.Proofs.Tryz.prog gl 114 [.agg [.bool m, .str (decB k)]] (fun x => x = .str (intB (snum m k))) := by
  have h := c_Wtext gl m (decB k) (by rw [decB_size]; omega)
  rwa [numT] at h
theorem c_Wread2 (a : Int) (ha : (dec a.natAbs).length < 9000000) : VCall Go.Proofs.Tryz.prog gl 144 [.str (intB a)] (fun x => x = .tup [.agg [.bool (decide (a < 0)), .str (decB a.natAbs)], .bool true]) := by
  have hs := intB_size a
  have h := c_Wread gl (intB a) (by omega)
  rwa [hasP_intB, trimP_intB, isWhole_intB] at h
theorem c_Wboth (a b : Int) (ha : (dec a.natAbs).length < 9000000) (hb : (dec b.natAbs).length < 9000000) :
    VCall Go.Proofs.Tryz.prog gl 112 [.str (intB a), .str (intB b)] (fun x => x = .tup [.agg [.bool (decide (a < 0)), .str (decB a.natAbs)], .agg [.bool (decide (b < 0)), .str (decB b.natAbs)], .bool true]) := by
  have h1 := c_Wread2 gl a ha
  have h2 := c_Wread2 gl b hb
  refine vcall_of TOK_Wboth HM Go.Proofs.Tryz.func112 rfl (by decide +kernel) (by decide +kernel) rfl ?_
  repeat' first|refine sY ⟨?_⟩|(refine sq ?_ ?_<;>refine fun h=>⟨?_⟩<;>(first|contradiction|(exfalso;omega)|skip))|fail
  refine ⟨by decide +kernel, [0, 0, 0, 4, 12, 28, 13, 79, 255], by decide +kernel, ?_⟩
  repeat' first|refine sY ⟨?_⟩|(refine sq ?_ ?_<;>refine fun h=>⟨?_⟩<;>(first|contradiction|(exfalso;omega)|skip))|fail
  conv => whnf
  rfl
def sumM (p q : Bool) (m n : Nat) : Bool := if p = q then p else if m < n then q else p
def sumK (p q : Bool) (m n : Nat) : Nat := if p = q then m + n else if m < n then n - m else m - n
theorem snum_sum (p q : Bool) (m n : Nat) : snum (sumM p q m n) (sumK p q m n) = snum p m + snum q n := by
  by_cases h : m < n <;> cases p <;> cases q <;> simp [snum, sumM, sumK, h] <;> omega
theorem sumK_le (p q : Bool) (m n : Nat) : sumK p q m n ≤ m + n := by unfold sumK; split <;> (try split) <;> omega
set_option maxHeartbeats 2000000 in
theorem c_Wsum (p q : Bool) (m n : Nat) (hm : (dec m).length ≤ 100000) (hn : (dec n).length ≤ 100000) :
    VCall Go.Proofs.Tryz.prog gl 113 [.agg [.bool p, .str (decB m)], .agg [.bool q, .str (decB n)]] (fun x => x = .agg [.bool (sumM p q m n), .str (decB (sumK p q m n))]) := by
  have hc := c_NCompare gl m n hm hn
  cases p <;> cases q
  · have h := c_NAdd gl m n hm hn
    show VCall _ _ _ _ (fun x => x = .agg [.bool false, .str (decB (m + n))])
    refine vcall_of TOK_Wsum HM Go.Proofs.Tryz.func113 rfl (by decide +kernel) (by decide +kernel) rfl ?_
    repeat' first|refine sY ⟨?_⟩|(refine sq ?_ ?_<;>refine fun h=>⟨?_⟩<;>(first|contradiction|(exfalso;omega)|skip))|fail
    conv => whnf
    rfl
  · by_cases hlt : m < n
    · have h := c_NSub gl n m (by omega) hn hm
      rw [cmpN_lt hlt] at hc
      have e1 : sumM false true m n = true := by unfold sumM; rw [if_neg (by simp), if_pos hlt]
      have e2 : sumK false true m n = n - m := by unfold sumK; rw [if_neg (by simp), if_pos hlt]
      rw [e1, e2]
      refine vcall_of TOK_Wsum HM Go.Proofs.Tryz.func113 rfl (by decide +kernel) (by decide +kernel) rfl ?_
      repeat' first|refine sY ⟨?_⟩|(refine sq ?_ ?_<;>refine fun h=>⟨?_⟩<;>(first|contradiction|(exfalso;omega)|skip))|fail
      conv => whnf
      rfl
    · have h := c_NSub gl m n (by omega) hm hn
      have hge := (cmpN_ge (m := m) (n := n)).2 (by omega)
      have e1 : sumM false true m n = false := by unfold sumM; rw [if_neg (by simp), if_neg hlt]
      have e2 : sumK false true m n = m - n := by unfold sumK; rw [if_neg (by simp), if_neg hlt]
      rw [e1, e2]
      refine vcall_of TOK_Wsum HM Go.Proofs.Tryz.func113 rfl (by decide +kernel) (by decide +kernel) rfl ?_
      repeat' first|refine sY ⟨?_⟩|(refine sq ?_ ?_<;>refine fun h=>⟨?_⟩<;>(first|contradiction|(exfalso;omega)|skip))|fail
      conv => whnf
      rfl
  · by_cases hlt : m < n
    · have h := c_NSub gl n m (by omega) hn hm
      rw [cmpN_lt hlt] at hc
      have e1 : sumM true false m n = false := by unfold sumM; rw [if_neg (by simp), if_pos hlt]
      have e2 : sumK true false m n = n - m := by unfold sumK; rw [if_neg (by simp), if_pos hlt]
      rw [e1, e2]
      refine vcall_of TOK_Wsum HM Go.Proofs.Tryz.func113 rfl (by decide +kernel) (by decide +kernel) rfl ?_
      repeat' first|refine sY ⟨?_⟩|(refine sq ?_ ?_<;>refine fun h=>⟨?_⟩<;>(first|contradiction|(exfalso;omega)|skip))|fail
      conv => whnf
      rfl
    · have h := c_NSub gl m n (by omega) hm hn
      have hge := (cmpN_ge (m := m) (n := n)).2 (by omega)
      have e1 : sumM true false m n = true := by unfold sumM; rw [if_neg (by simp), if_neg hlt]
      have e2 : sumK true false m n = m - n := by unfold sumK; rw [if_neg (by simp), if_neg hlt]
      rw [e1, e2]
      refine vcall_of TOK_Wsum HM Go.Proofs.Tryz.func113 rfl (by decide +kernel) (by decide +kernel) rfl ?_
      repeat' first|refine sY ⟨?_⟩|(refine sq ?_ ?_<;>refine fun h=>⟨?_⟩<;>(first|contradiction|(exfalso;omega)|skip))|fail
      conv => whnf
      rfl
  · have h := c_NAdd gl m n hm hn
    show VCall _ _ _ _ (fun x => x = .agg [.bool true, .str (decB (m + n))])
    refine vcall_of TOK_Wsum HM Go.Proofs.Tryz.func113 rfl (by decide +kernel) (by decide +kernel) rfl ?_
    repeat' first|refine sY ⟨?_⟩|(refine sq ?_ ?_<;>refine fun h=>⟨?_⟩<;>(first|contradiction|(exfalso;omega)|skip))|fail
    conv => whnf
    rfl
theorem c_WAdd (a b : Int) (ha : (dec a.natAbs).length ≤ 100000) (hb : (dec b.natAbs).length ≤ 100000) : VCall Go.Proofs.Tryz.prog gl 58 [.str (intB a), .str (intB b)] (fun x => x = .tup [.str (intB (a + b)), .int .i64 0]) := by
  have h1 := c_Wboth gl a b (by omega) (by omega)
  have h2 := c_Wsum gl (decide (a < 0)) (decide (b < 0)) a.natAbs b.natAbs ha hb
  have h3 := c_Wtext2 gl (sumM (decide (a < 0)) (decide (b < 0)) a.natAbs b.natAbs) (sumK (decide (a < 0)) (decide (b < 0)) a.natAbs b.natAbs) (by
    have := dec_mono (sumK_le (decide (a < 0)) (decide (b < 0)) a.natAbs b.natAbs)
    have := dec_add (by omega) ha hb
    omega)
  rw [snum_sum, snum_abs, snum_abs] at h3
  refine vcall_of TOK_WAdd HM Go.Proofs.Tryz.func58 rfl (by decide +kernel) (by decide +kernel) rfl ?_
  repeat' first|refine sY ⟨?_⟩|(refine sq ?_ ?_<;>refine fun h=>⟨?_⟩<;>(first|contradiction|(exfalso;omega)|skip))|fail
  conv => whnf
  rfl
theorem snum_not (a : Int) : snum (!decide (a < 0)) a.natAbs = -a := by
  unfold snum
  by_cases h : a < 0
  · rw [decide_eq_true h]; simp; omega
  · rw [decide_eq_false h]; simp; omega
theorem c_WSub (a b : Int) (ha : (dec a.natAbs).length ≤ 100000) (hb : (dec b.natAbs).length ≤ 100000) : VCall Go.Proofs.Tryz.prog gl 61 [.str (intB a), .str (intB b)] (fun x => x = .tup [.str (intB (a - b)), .int .i64 0]) := by
  have h1 := c_Wboth gl a b (by omega) (by omega)
  have h2 := c_Wsum gl (decide (a < 0)) (!decide (b < 0)) a.natAbs b.natAbs ha hb
  have h3 := c_Wtext2 gl (sumM (decide (a < 0)) (!decide (b < 0)) a.natAbs b.natAbs) (sumK (decide (a < 0)) (!decide (b < 0)) a.natAbs b.natAbs) (by
    have := dec_mono (sumK_le (decide (a < 0)) (!decide (b < 0)) a.natAbs b.natAbs)
    have := dec_add (by omega) ha hb
    omega)
  rw [snum_sum, snum_abs, snum_not, ← Int.sub_eq_add_neg] at h3
  refine vcall_of TOK_WSub HM Go.Proofs.Tryz.func61 rfl (by decide +kernel) (by decide +kernel) rfl ?_
  repeat' first|refine sY ⟨?_⟩|(refine sq ?_ ?_<;>refine fun h=>⟨?_⟩<;>(first|contradiction|(exfalso;omega)|skip))|fail
  conv => whnf
  rfl
theorem mul_neg1 {a b : Int} (ha : a < 0) (hb : ¬ b < 0) : snum true (a.natAbs * b.natAbs) = a * b := by
  obtain ⟨k, rfl⟩ : ∃ k : Nat, a = -(k : Int) := ⟨a.natAbs, by omega⟩
  obtain ⟨j, rfl⟩ : ∃ j : Nat, b = j := ⟨b.natAbs, by omega⟩
  simp [snum, Int.natAbs_neg, Int.neg_mul]
theorem mul_neg2 {a b : Int} (ha : ¬ a < 0) (hb : b < 0) : snum true (a.natAbs * b.natAbs) = a * b := by rw [Nat.mul_comm, Int.mul_comm]; exact mul_neg1 hb ha
theorem mul_pos1 {a b : Int} (h : a < 0 ↔ b < 0) : snum false (a.natAbs * b.natAbs) = a * b := by
  by_cases ha : a < 0
  · obtain ⟨k, rfl⟩ : ∃ k : Nat, a = -(k : Int) := ⟨a.natAbs, by omega⟩
    obtain ⟨j, rfl⟩ : ∃ j : Nat, b = -(j : Int) := ⟨b.natAbs, by have := h.1 ha; omega⟩
    simp [snum, Int.natAbs_neg, Int.neg_mul_neg]
  · obtain ⟨k, rfl⟩ : ∃ k : Nat, a = k := ⟨a.natAbs, by omega⟩
    obtain ⟨j, rfl⟩ : ∃ j : Nat, b = j := ⟨b.natAbs, by have := fun e => ha (h.2 e); omega⟩
    simp [snum]
set_option maxHeartbeats 2000000 in
theorem c_WMul (a b : Int) (ha : (dec a.natAbs).length ≤ 100000) (hb : (dec b.natAbs).length ≤ 100000) : VCall Go.Proofs.Tryz.prog gl 111 [.str (intB a), .str (intB b)] (fun x => x = .tup [.str (intB (a * b)), .int .i64 0]) := by
  have h1 := c_Wboth gl a b (by omega) (by omega)
  have h2 := c_NMul gl a.natAbs b.natAbs ha hb
  have hd := dec_mul (by omega) (by omega) ha hb
  have ht := c_Wtext2 gl true (a.natAbs * b.natAbs) (by omega)
  have hf := c_Wtext2 gl false (a.natAbs * b.natAbs) (by omega)
  by_cases sa : a < 0 <;> by_cases sb : b < 0
  · rw [decide_eq_true sa, decide_eq_true sb] at h1
    rw [mul_pos1 ⟨fun _ => sb, fun _ => sa⟩] at hf
    refine vcall_of TOK_WMul HM Go.Proofs.Tryz.func111 rfl (by decide +kernel) (by decide +kernel) rfl ?_
    repeat' first|refine sY ⟨?_⟩|(refine sq ?_ ?_<;>refine fun h=>⟨?_⟩<;>(first|contradiction|(exfalso;omega)|skip))|fail
    conv => whnf
    rfl
  · rw [decide_eq_true sa, decide_eq_false sb] at h1
    rw [mul_neg1 sa sb] at ht
    refine vcall_of TOK_WMul HM Go.Proofs.Tryz.func111 rfl (by decide +kernel) (by decide +kernel) rfl ?_
    repeat' first|refine sY ⟨?_⟩|(refine sq ?_ ?_<;>refine fun h=>⟨?_⟩<;>(first|contradiction|(exfalso;omega)|skip))|fail
    conv => whnf
    rfl
  · rw [decide_eq_false sa, decide_eq_true sb] at h1
    rw [mul_neg2 sa sb] at ht
    refine vcall_of TOK_WMul HM Go.Proofs.Tryz.func111 rfl (by decide +kernel) (by decide +kernel) rfl ?_
    repeat' first|refine sY ⟨?_⟩|(refine sq ?_ ?_<;>refine fun h=>⟨?_⟩<;>(first|contradiction|(exfalso;omega)|skip))|fail
    conv => whnf
    rfl
  · rw [decide_eq_false sa, decide_eq_false sb] at h1
    rw [mul_pos1 ⟨fun h => absurd h sa, fun h => absurd h sb⟩] at hf
    refine vcall_of TOK_WMul HM Go.Proofs.Tryz.func111 rfl (by decide +kernel) (by decide +kernel) rfl ?_
    repeat' first|refine sY ⟨?_⟩|(refine sq ?_ ?_<;>refine fun h=>⟨?_⟩<;>(first|contradiction|(exfalso;omega)|skip))|fail
    conv => whnf
    rfl
theorem c_WSign (a : Int) (ha : (dec a.natAbs).length ≤ 100000) : VCall Go.Proofs.Tryz.prog gl 218 [.str (intB a)] (fun x => x = .tup [.int .i64 (sg a), .int .i64 0]) := by
  have h1 := c_Wread2 gl a (by omega)
  have hz : decB a.natAbs = ⟨#[48]⟩ ↔ a = 0 := by rw [zero_decB, decB_inj]; omega
  rcases (by omega : a < 0 ∨ a = 0 ∨ 0 < a) with h | h | h
  · rw [decide_eq_true h] at h1
    rw [show sg a = -1 by unfold sg; rw [if_pos h]]
    refine vcall_of TOK_WSign HM Go.Proofs.Tryz.func218 rfl (by decide +kernel) (by decide +kernel) rfl ?_
    repeat' first|refine sY ⟨?_⟩|(refine sq ?_ ?_<;>refine fun h=>⟨?_⟩<;>(first|contradiction|(exfalso;omega)|skip))|fail
    conv => whnf
    rfl
  · subst h
    have h0 : decB (Int.natAbs 0) = ⟨#[48]⟩ := hz.2 rfl
    refine vcall_of TOK_WSign HM Go.Proofs.Tryz.func218 rfl (by decide +kernel) (by decide +kernel) rfl ?_
    repeat' first|refine sY ⟨?_⟩|(refine sq ?_ ?_<;>refine fun h=>⟨?_⟩<;>(first|contradiction|(exfalso;omega)|skip))|fail
    all_goals (conv => whnf)
    all_goals rfl
  · have h0 : ¬ decB a.natAbs = ⟨#[48]⟩ := fun e => by have := hz.1 e; omega
    rw [decide_eq_false (by omega)] at h1
    rw [show sg a = 1 by unfold sg; rw [if_neg (by omega), if_neg (by omega)]]
    refine vcall_of TOK_WSign HM Go.Proofs.Tryz.func218 rfl (by decide +kernel) (by decide +kernel) rfl ?_
    repeat' first|refine sY ⟨?_⟩|(refine sq ?_ ?_<;>refine fun h=>⟨?_⟩<;>(first|contradiction|(exfalso;omega)|skip))|fail
    all_goals (conv => whnf)
    all_goals rfl
theorem c_r02_Sign2 (a : Int) (ha : (dec a.natAbs).length ≤ 100000) : VCall Go.Proofs.Tryz.prog gl 163 [.str (intB a)] (fun x => x = .int .i64 (sg a)) := by
  have hs := intB_size a
  have h0 : 0 < (intB a).size := by
    rcases Nat.eq_zero_or_pos (intB a).size with h | h
    · exact absurd (toList_inj (by rw [ByteArray.toList_eq, ByteArray.toList_eq]; exact List.length_eq_zero_iff.1 h)) (intB_ne a)
    · exact h
  have h := c_r02_Sign gl (intB a) (by omega) h0
  have e : (if hasP (intB a) minusB = true then (-1 : Int) else if intB a = decB 0 then 0 else 1) = sg a := by
    rw [hasP_intB, ← intB_nat 0, show ((0 : Nat) : Int) = 0 from rfl]
    unfold sg
    simp only [decide_eq_true_eq, intB_inj]
  rwa [e] at h
theorem c_r02_Size2 (a : Int) (ha : (dec a.natAbs).length ≤ 100000) : VCall Go.Proofs.Tryz.prog gl 162 [.str (intB a)] (fun x => x = .str (decB a.natAbs)) := by
  have hs := intB_size a
  have h := c_r02_Size gl (intB a) (by omega)
  rwa [trimP_intB] at h
theorem c_r02_of2 (k : Nat) (n : Int) (hk : (dec k).length ≤ 300000) : VCall Go.Proofs.Tryz.prog gl 167 [.str (decB k), .int .i64 n] (fun x => x = .str (intB (snum (decide (n < 0)) k))) := by
  have h := c_r02_of gl (decB k) n (by rw [decB_size]; omega)
  have e := numT (decide (n < 0)) k
  simp only [decide_eq_true_eq] at e
  rwa [e] at h
theorem c_r02_Neg (a : Int) (ha : (dec a.natAbs).length ≤ 100000) : VCall Go.Proofs.Tryz.prog gl 164 [.str (intB a)] (fun x => x = .str (intB (-a))) := by
  have h1 := c_r02_Size2 gl a ha
  have h2 := c_r02_Sign2 gl a ha
  have h3 := c_r02_of2 gl a.natAbs (0 - sg a) (by omega)
  have hs : -1 ≤ sg a ∧ sg a ≤ 1 := by unfold sg; split <;> (try split) <;> omega
  have e : snum (decide (0 - sg a < 0)) a.natAbs = -a := by
    unfold sg snum
    by_cases h : a < 0
    · rw [if_pos h]; simp; omega
    · rw [if_neg h]
      by_cases h0 : a = 0
      · subst h0; simp
      · rw [if_neg h0]; simp; omega
  rw [e] at h3
  refine vcall_of TOK_r02_NegI HM Go.Proofs.Tryz.func164 rfl (by decide +kernel) (by decide +kernel) rfl ?_
  repeat' first|refine sY ⟨?_⟩|(refine sq ?_ ?_<;>refine fun h=>⟨?_⟩<;>(first|contradiction|(exfalso;omega)|skip))|fail
  conv => whnf
  rfl
theorem snum_sg (a : Int) (k : Nat) (h : snum (decide (sg a < 0)) k = snum (decide (a < 0)) k → True) : decide (sg a < 0) = decide (a < 0) := by
  unfold sg
  by_cases h : a < 0
  · rw [if_pos h, decide_eq_true h]; rfl
  · rw [if_neg h, decide_eq_false h]
    split <;> rfl
theorem sg_lt (a : Int) : decide (sg a < 0) = decide (a < 0) := snum_sg a 0 (fun _ => trivial)
set_option maxHeartbeats 2000000 in
theorem c_r02_Mul (a b : Int) (ha : (dec a.natAbs).length ≤ 100000) (hb : (dec b.natAbs).length ≤ 100000) : VCall Go.Proofs.Tryz.prog gl 134 [.str (intB a), .str (intB b)] (fun x => x = .str (intB (a * b))) := by
  have h1 := c_r02_Size2 gl a ha
  have h2 := c_r02_Size2 gl b hb
  have h3 := c_r02_Sign2 gl a ha
  have h4 := c_r02_Sign2 gl b hb
  have h5 := c_r01_Mul gl a.natAbs b.natAbs ha hb
  have hd := dec_mul (by omega) (by omega) ha hb
  have h6 := c_r02_of2 gl (a.natAbs * b.natAbs) (sg a * sg b) (by omega)
  have e : snum (decide (sg a * sg b < 0)) (a.natAbs * b.natAbs) = a * b := by
    rcases (by omega : a < 0 ∨ a = 0 ∨ 0 < a) with h | h | h <;> rcases (by omega : b < 0 ∨ b = 0 ∨ 0 < b) with g | g | g
    · rw [show sg a = -1 by unfold sg; rw [if_pos h], show sg b = -1 by unfold sg; rw [if_pos g]]; exact mul_pos1 ⟨fun _ => g, fun _ => h⟩
    · subst g; simp [snum]
    · rw [show sg a = -1 by unfold sg; rw [if_pos h], show sg b = 1 by unfold sg; rw [if_neg (by omega), if_neg (by omega)]]; exact mul_neg1 h (by omega)
    · subst h; simp [snum]
    · subst h; simp [snum]
    · subst h; simp [snum]
    · rw [show sg b = -1 by unfold sg; rw [if_pos g], show sg a = 1 by unfold sg; rw [if_neg (by omega), if_neg (by omega)]]; exact mul_neg2 (by omega) g
    · subst g; simp [snum]
    · rw [show sg a = 1 by unfold sg; rw [if_neg (by omega), if_neg (by omega)], show sg b = 1 by unfold sg; rw [if_neg (by omega), if_neg (by omega)]]; exact mul_pos1 ⟨fun h => by omega, fun h => by omega⟩
  rw [e] at h6
  have hs : -1 ≤ sg a ∧ sg a ≤ 1 := by unfold sg; split <;> (try split) <;> omega
  have hs2 : -1 ≤ sg b ∧ sg b ≤ 1 := by unfold sg; split <;> (try split) <;> omega
  have hs3 : -1 ≤ sg a * sg b ∧ sg a * sg b ≤ 1 := by
    have : (sg a = -1 ∨ sg a = 0 ∨ sg a = 1) := by omega
    rcases this with e | e | e <;> rw [e] <;> omega
  refine vcall_of TOK_r02_Mul HM Go.Proofs.Tryz.func134 rfl (by decide +kernel) (by decide +kernel) rfl ?_
  repeat' first|refine sY ⟨?_⟩|(refine sq ?_ ?_<;>refine fun h=>⟨?_⟩<;>(first|contradiction|(exfalso;omega)|skip))|fail
  all_goals (conv => whnf)
  all_goals rfl
set_option maxHeartbeats 4000000 in
theorem c_r02_Add (a b : Int) (ha : (dec a.natAbs).length ≤ 100000) (hb : (dec b.natAbs).length ≤ 100000) : VCall Go.Proofs.Tryz.prog gl 133 [.str (intB a), .str (intB b)] (fun x => x = .str (intB (a + b))) := by
  have h1 := c_r02_Size2 gl a ha
  have h2 := c_r02_Size2 gl b hb
  have h3 := c_r02_Sign2 gl a ha
  have h4 := c_r02_Sign2 gl b hb
  have h5 := c_r01_Add gl a.natAbs b.natAbs ha hb
  have hd := dec_add (by omega) ha hb
  have hc := c_r01_Compare gl a.natAbs b.natAbs (by omega) (by omega)
  rcases (by omega : a < 0 ∨ a = 0 ∨ 0 < a) with h | h | h <;> rcases (by omega : b < 0 ∨ b = 0 ∨ 0 < b) with g | g | g
  · have sa : sg a = -1 := by unfold sg; rw [if_pos h]
    have sb : sg b = -1 := by unfold sg; rw [if_pos g]
    have hf := c_r02_of2 gl (a.natAbs + b.natAbs) (sg a + sg b) (by omega)
    rw [show snum (decide (sg a + sg b < 0)) (a.natAbs + b.natAbs) = a + b by rw [sa, sb]; simp [snum]; omega] at hf
    rw [sa] at h3 hf
    rw [sb] at h4 hf
    refine vcall_of TOK_r02_Add HM Go.Proofs.Tryz.func133 rfl (by decide +kernel) (by decide +kernel) rfl ?_
    repeat' first|refine sY ⟨?_⟩|(refine sq ?_ ?_<;>refine fun h=>⟨?_⟩<;>(first|contradiction|(exfalso;omega)|skip))|fail
    all_goals (conv => whnf)
    all_goals rfl
  · have sa : sg a = -1 := by unfold sg; rw [if_pos h]
    have sb : sg b = 0 := by unfold sg; rw [if_neg (by omega), if_pos g]
    have hf := c_r02_of2 gl (a.natAbs + b.natAbs) (sg a + sg b) (by omega)
    rw [show snum (decide (sg a + sg b < 0)) (a.natAbs + b.natAbs) = a + b by rw [sa, sb]; simp [snum]; omega] at hf
    rw [sa] at h3 hf
    rw [sb] at h4 hf
    refine vcall_of TOK_r02_Add HM Go.Proofs.Tryz.func133 rfl (by decide +kernel) (by decide +kernel) rfl ?_
    repeat' first|refine sY ⟨?_⟩|(refine sq ?_ ?_<;>refine fun h=>⟨?_⟩<;>(first|contradiction|(exfalso;omega)|skip))|fail
    all_goals (conv => whnf)
    all_goals rfl
  · have sa : sg a = -1 := by unfold sg; rw [if_pos h]
    have sb : sg b = 1 := by unfold sg; rw [if_neg (by omega), if_neg (by omega)]
    rcases Nat.lt_or_ge a.natAbs b.natAbs with hlt | hge
    · rw [cmpN_lt hlt] at hc
      have hs := c_r01_Sub gl b.natAbs a.natAbs (by omega) (by omega)
      have hf := c_r02_of2 gl (b.natAbs - a.natAbs) (sg b) (by have := dec_mono (Nat.sub_le b.natAbs a.natAbs); omega)
      rw [show snum (decide (sg b < 0)) (b.natAbs - a.natAbs) = a + b by rw [sb]; simp [snum]; omega] at hf
      rw [sa] at h3
      rw [sb] at h4 hf
      refine vcall_of TOK_r02_Add HM Go.Proofs.Tryz.func133 rfl (by decide +kernel) (by decide +kernel) rfl ?_
      repeat' first|refine sY ⟨?_⟩|(refine sq ?_ ?_<;>refine fun h=>⟨?_⟩<;>(first|contradiction|(exfalso;omega)|skip))|fail
      all_goals (conv => whnf)
      all_goals rfl
    · have hcg := (cmpN_ge (m := a.natAbs) (n := b.natAbs)).2 hge
      have hs := c_r01_Sub gl a.natAbs b.natAbs hge (by omega)
      have hf := c_r02_of2 gl (a.natAbs - b.natAbs) (sg a) (by have := dec_mono (Nat.sub_le a.natAbs b.natAbs); omega)
      rw [show snum (decide (sg a < 0)) (a.natAbs - b.natAbs) = a + b by rw [sa]; simp [snum]; omega] at hf
      rw [sa] at h3 hf
      rw [sb] at h4
      refine vcall_of TOK_r02_Add HM Go.Proofs.Tryz.func133 rfl (by decide +kernel) (by decide +kernel) rfl ?_
      repeat' first|refine sY ⟨?_⟩|(refine sq ?_ ?_<;>refine fun h=>⟨?_⟩<;>(first|contradiction|(exfalso;omega)|skip))|fail
      all_goals (conv => whnf)
      all_goals rfl
  · have sa : sg a = 0 := by unfold sg; rw [if_neg (by omega), if_pos h]
    have sb : sg b = -1 := by unfold sg; rw [if_pos g]
    have hf := c_r02_of2 gl (a.natAbs + b.natAbs) (sg a + sg b) (by omega)
    rw [show snum (decide (sg a + sg b < 0)) (a.natAbs + b.natAbs) = a + b by rw [sa, sb]; simp [snum]; omega] at hf
    rw [sa] at h3 hf
    rw [sb] at h4 hf
    refine vcall_of TOK_r02_Add HM Go.Proofs.Tryz.func133 rfl (by decide +kernel) (by decide +kernel) rfl ?_
    repeat' first|refine sY ⟨?_⟩|(refine sq ?_ ?_<;>refine fun h=>⟨?_⟩<;>(first|contradiction|(exfalso;omega)|skip))|fail
    all_goals (conv => whnf)
    all_goals rfl
  · have sa : sg a = 0 := by unfold sg; rw [if_neg (by omega), if_pos h]
    have sb : sg b = 0 := by unfold sg; rw [if_neg (by omega), if_pos g]
    have hf := c_r02_of2 gl (a.natAbs + b.natAbs) (sg a + sg b) (by omega)
    rw [show snum (decide (sg a + sg b < 0)) (a.natAbs + b.natAbs) = a + b by rw [sa, sb]; simp [snum]; omega] at hf
    rw [sa] at h3 hf
    rw [sb] at h4 hf
    refine vcall_of TOK_r02_Add HM Go.Proofs.Tryz.func133 rfl (by decide +kernel) (by decide +kernel) rfl ?_
    repeat' first|refine sY ⟨?_⟩|(refine sq ?_ ?_<;>refine fun h=>⟨?_⟩<;>(first|contradiction|(exfalso;omega)|skip))|fail
    all_goals (conv => whnf)
    all_goals rfl
  · have sa : sg a = 0 := by unfold sg; rw [if_neg (by omega), if_pos h]
    have sb : sg b = 1 := by unfold sg; rw [if_neg (by omega), if_neg (by omega)]
    have hf := c_r02_of2 gl (a.natAbs + b.natAbs) (sg a + sg b) (by omega)
    rw [show snum (decide (sg a + sg b < 0)) (a.natAbs + b.natAbs) = a + b by rw [sa, sb]; simp [snum]; omega] at hf
    rw [sa] at h3 hf
    rw [sb] at h4 hf
    refine vcall_of TOK_r02_Add HM Go.Proofs.Tryz.func133 rfl (by decide +kernel) (by decide +kernel) rfl ?_
    repeat' first|refine sY ⟨?_⟩|(refine sq ?_ ?_<;>refine fun h=>⟨?_⟩<;>(first|contradiction|(exfalso;omega)|skip))|fail
    all_goals (conv => whnf)
    all_goals rfl
  · have sa : sg a = 1 := by unfold sg; rw [if_neg (by omega), if_neg (by omega)]
    have sb : sg b = -1 := by unfold sg; rw [if_pos g]
    rcases Nat.lt_or_ge a.natAbs b.natAbs with hlt | hge
    · rw [cmpN_lt hlt] at hc
      have hs := c_r01_Sub gl b.natAbs a.natAbs (by omega) (by omega)
      have hf := c_r02_of2 gl (b.natAbs - a.natAbs) (sg b) (by have := dec_mono (Nat.sub_le b.natAbs a.natAbs); omega)
      rw [show snum (decide (sg b < 0)) (b.natAbs - a.natAbs) = a + b by rw [sb]; simp [snum]; omega] at hf
      rw [sa] at h3
      rw [sb] at h4 hf
      refine vcall_of TOK_r02_Add HM Go.Proofs.Tryz.func133 rfl (by decide +kernel) (by decide +kernel) rfl ?_
      repeat' first|refine sY ⟨?_⟩|(refine sq ?_ ?_<;>refine fun h=>⟨?_⟩<;>(first|contradiction|(exfalso;omega)|skip))|fail
      all_goals (conv => whnf)
      all_goals rfl
    · have hcg := (cmpN_ge (m := a.natAbs) (n := b.natAbs)).2 hge
      have hs := c_r01_Sub gl a.natAbs b.natAbs hge (by omega)
      have hf := c_r02_of2 gl (a.natAbs - b.natAbs) (sg a) (by have := dec_mono (Nat.sub_le a.natAbs b.natAbs); omega)
      rw [show snum (decide (sg a < 0)) (a.natAbs - b.natAbs) = a + b by rw [sa]; simp [snum]; omega] at hf
      rw [sa] at h3 hf
      rw [sb] at h4
      refine vcall_of TOK_r02_Add HM Go.Proofs.Tryz.func133 rfl (by decide +kernel) (by decide +kernel) rfl ?_
      repeat' first|refine sY ⟨?_⟩|(refine sq ?_ ?_<;>refine fun h=>⟨?_⟩<;>(first|contradiction|(exfalso;omega)|skip))|fail
      all_goals (conv => whnf)
      all_goals rfl
  · have sa : sg a = 1 := by unfold sg; rw [if_neg (by omega), if_neg (by omega)]
    have sb : sg b = 0 := by unfold sg; rw [if_neg (by omega), if_pos g]
    have hf := c_r02_of2 gl (a.natAbs + b.natAbs) (sg a + sg b) (by omega)
    rw [show snum (decide (sg a + sg b < 0)) (a.natAbs + b.natAbs) = a + b by rw [sa, sb]; simp [snum]; omega] at hf
    rw [sa] at h3 hf
    rw [sb] at h4 hf
    refine vcall_of TOK_r02_Add HM Go.Proofs.Tryz.func133 rfl (by decide +kernel) (by decide +kernel) rfl ?_
    repeat' first|refine sY ⟨?_⟩|(refine sq ?_ ?_<;>refine fun h=>⟨?_⟩<;>(first|contradiction|(exfalso;omega)|skip))|fail
    all_goals (conv => whnf)
    all_goals rfl
  · have sa : sg a = 1 := by unfold sg; rw [if_neg (by omega), if_neg (by omega)]
    have sb : sg b = 1 := by unfold sg; rw [if_neg (by omega), if_neg (by omega)]
    have hf := c_r02_of2 gl (a.natAbs + b.natAbs) (sg a + sg b) (by omega)
    rw [show snum (decide (sg a + sg b < 0)) (a.natAbs + b.natAbs) = a + b by rw [sa, sb]; simp [snum]; omega] at hf
    rw [sa] at h3 hf
    rw [sb] at h4 hf
    refine vcall_of TOK_r02_Add HM Go.Proofs.Tryz.func133 rfl (by decide +kernel) (by decide +kernel) rfl ?_
    repeat' first|refine sY ⟨?_⟩|(refine sq ?_ ?_<;>refine fun h=>⟨?_⟩<;>(first|contradiction|(exfalso;omega)|skip))|fail
    all_goals (conv => whnf)
    all_goals rfl
end Go.V
namespace Go.V
open Go.N
set_option maxRecDepth 20000
def T_Rboth : Tab := [(9, i9), (83, i83), (85, i85)]
theorem TOK_Rboth : TOK Go.Proofs.Tryz.prog T_Rboth := ⟨K9, ⟨K83, ⟨K85, trivial⟩⟩⟩
def T_Rtold : Tab := [(83, i83), (85, i85)]
theorem TOK_Rtold : TOK Go.Proofs.Tryz.prog T_Rtold := ⟨K83, ⟨K85, trivial⟩⟩
def T_Rtimes : Tab := [(9, i9)]
theorem TOK_Rtimes : TOK Go.Proofs.Tryz.prog T_Rtimes := ⟨K9, trivial⟩
def T_RAdd1 : Tab := [(83, i83), (9, i9)]
theorem TOK_RAdd1 : TOK Go.Proofs.Tryz.prog T_RAdd1 := ⟨K83, ⟨K9, trivial⟩⟩
def T_RSub1 : Tab := [(83, i83), (9, i9)]
theorem TOK_RSub1 : TOK Go.Proofs.Tryz.prog T_RSub1 := ⟨K83, ⟨K9, trivial⟩⟩
def T_RMul1 : Tab := [(83, i83), (9, i9)]
theorem TOK_RMul1 : TOK Go.Proofs.Tryz.prog T_RMul1 := ⟨K83, ⟨K9, trivial⟩⟩
def T_RAdd : Tab := [(9, i9), (91, i91)]
theorem TOK_RAdd : TOK Go.Proofs.Tryz.prog T_RAdd := ⟨K9, ⟨K91, trivial⟩⟩
def T_RSub : Tab := [(9, i9), (91, i91)]
theorem TOK_RSub : TOK Go.Proofs.Tryz.prog T_RSub := ⟨K9, ⟨K91, trivial⟩⟩
def T_RMul : Tab := [(9, i9), (91, i91)]
theorem TOK_RMul : TOK Go.Proofs.Tryz.prog T_RMul := ⟨K9, ⟨K91, trivial⟩⟩
def T_RNeg : Tab := [(9, i9)]
theorem TOK_RNeg : TOK Go.Proofs.Tryz.prog T_RNeg := ⟨K9, trivial⟩
def T_RPower : Tab := [(9, i9), (83, i83), (85, i85), (3, i3)]
theorem TOK_RPower : TOK Go.Proofs.Tryz.prog T_RPower := ⟨K9, ⟨K83, ⟨K85, ⟨K3, trivial⟩⟩⟩⟩
def T_RSign : Tab := [(9, i9), (83, i83), (85, i85)]
theorem TOK_RSign : TOK Go.Proofs.Tryz.prog T_RSign := ⟨K9, ⟨K83, ⟨K85, trivial⟩⟩⟩
def T_RCompare : Tab := [(9, i9), (28, i28)]
theorem TOK_RCompare : TOK Go.Proofs.Tryz.prog T_RCompare := ⟨K9, ⟨K28, trivial⟩⟩
def T_r03_Add : Tab := [(100, i100), (9, i9)]
theorem TOK_r03_Add : TOK Go.Proofs.Tryz.prog T_r03_Add := ⟨K100, ⟨K9, trivial⟩⟩
def T_r03_Mul : Tab := [(100, i100), (9, i9)]
theorem TOK_r03_Mul : TOK Go.Proofs.Tryz.prog T_r03_Mul := ⟨K100, ⟨K9, trivial⟩⟩
def T_r03_Neg : Tab := [(100, i100), (9, i9)]
theorem TOK_r03_Neg : TOK Go.Proofs.Tryz.prog T_r03_Neg := ⟨K100, ⟨K9, trivial⟩⟩
def T_r03_Power : Tab := [(100, i100), (3, i3)]
theorem TOK_r03_Power : TOK Go.Proofs.Tryz.prog T_r03_Power := ⟨K100, ⟨K3, trivial⟩⟩
def ratA (x : Rat) : AV := .agg [.str (intB x.num), .str (decB x.den)]
theorem ratB_zero : ratB 0 = ⟨#[48]⟩ := by decide +kernel
theorem ratB_one : ratB 1 = ⟨#[49]⟩ := by decide +kernel
theorem c_Rread2 {x : Rat} (hx : RS x) : VCall Go.Proofs.Tryz.prog GL 52 [.str (ratB x)] (fun v => v = .tup [ratA x, .nili]) := by
  have h := c_Rread (ratB x) (by have := hx.size; omega)
  obtain ⟨h1, h2, h3⟩ := ratOK_ratB x
  rw [if_pos h1, h2, h3] at h
  exact h
theorem c_Rtimes (a b : Int) (ha : (dec a.natAbs).length ≤ 100000) (hb : (dec b.natAbs).length ≤ 100000) : VCall Go.Proofs.Tryz.prog GL 56 [.str (intB a), .str (intB b)] (fun v => v = .str (intB (a * b))) := by
  have h := c_WMul GL a b ha hb
  refine vcall_of TOK_Rtimes HM Go.Proofs.Tryz.func56 rfl (by decide +kernel) (by decide +kernel) rfl ?_
  repeat' first|refine sY ⟨?_⟩|(refine sq ?_ ?_<;>refine fun h=>⟨?_⟩<;>(first|contradiction|(exfalso;omega)|skip))|fail
  all_goals (conv => whnf)
  all_goals rfl
theorem c_RtimesN (a : Int) (n : Nat) (ha : (dec a.natAbs).length ≤ 100000) (hn : (dec n).length ≤ 100000) : VCall Go.Proofs.Tryz.prog GL 56 [.str (intB a), .str (decB n)] (fun v => v = .str (intB (a * n))) := by
  have h := c_Rtimes a n ha (by rw [Int.natAbs_natCast]; exact hn)
  rwa [intB_nat] at h
theorem c_RtimesNN (m n : Nat) (hm : (dec m).length ≤ 100000) (hn : (dec n).length ≤ 100000) : VCall Go.Proofs.Tryz.prog GL 56 [.str (decB m), .str (decB n)] (fun v => v = .str (decB (m * n))) := by
  have h := c_Rtimes m n (by rw [Int.natAbs_natCast]; exact hm) (by rw [Int.natAbs_natCast]; exact hn)
  rwa [intB_nat, intB_nat, ← Int.natCast_mul, intB_nat] at h
theorem c_Rlow2 (n : Int) (d : Nat) (hd : d ≠ 0) (hn : (dec n.natAbs).length ≤ 100000) (hdl : (dec d).length ≤ 100000) : VCall Go.Proofs.Tryz.prog GL 55 [.str (intB n), .str (decB d)] (fun v => v = .tup [ratA (mkRat n d), .nili]) := by
  have hs := intB_size n
  have h := c_Rlowest GL (intB n) d (isWhole_intB n) hd (by omega) (by omega)
  rwa [lowP_intB n hd, lowQ_intB n hd] at h
theorem c_Rtold (r : Rat) (h1 : (dec r.num.natAbs).length ≤ 100000) (h2 : (dec r.den).length ≤ 100000) : VCall Go.Proofs.Tryz.prog GL 105 [ratA r, .nili] (fun v => v = .tup [.str (ratB r), .int .i64 0]) := by
  have hs := intB_size r.num
  have h := c_Rtext GL (intB r.num) (decB r.den) (by omega) (by rw [decB_size]; omega)
  refine vcall_of TOK_Rtold HM Go.Proofs.Tryz.func105 rfl (by decide +kernel) (by decide +kernel) rfl ?_
  repeat' first|refine sY ⟨?_⟩|(refine sq ?_ ?_<;>refine fun h=>⟨?_⟩<;>(first|contradiction|(exfalso;omega)|skip))|fail
  all_goals (conv => whnf)
  all_goals rfl
theorem c_Rboth (f : FuncId) {x y : Rat} (r : Rat) (hx : RS x) (hy : RS y) (h1 : (dec r.num.natAbs).length ≤ 100000) (h2 : (dec r.den).length ≤ 100000)
    (hf : VCall Go.Proofs.Tryz.prog GL f [ratA x, ratA y] (fun v => v = .tup [ratA r, .nili])) : VCall Go.Proofs.Tryz.prog GL 53 [.str (ratB x), .str (ratB y), .fn f []] (fun v => v = .tup [.str (ratB r), .int .i64 0]) := by
  have hr1 := c_Rread2 hx
  have hr2 := c_Rread2 hy
  have ht := c_Rtold r h1 h2
  refine vcall_of TOK_Rboth HM Go.Proofs.Tryz.func53 rfl (by decide +kernel) (by decide +kernel) rfl ?_
  repeat' first|refine sY ⟨?_⟩|(refine sq ?_ ?_<;>refine fun h=>⟨?_⟩<;>(first|contradiction|(exfalso;omega)|skip))|fail
  all_goals (conv => whnf)
  all_goals rfl
theorem dec_mul' {m n k j : Nat} (hm : (dec m).length ≤ k) (hn : (dec n).length ≤ j) : (dec (m * n)).length ≤ k + j := by
  have := List.length_pos_iff.2 (dec_ne m)
  have := List.length_pos_iff.2 (dec_ne n)
  exact dec_mul (by omega) (by omega) hm hn
theorem low_dec (n : Int) {d : Nat} (hd : d ≠ 0) {k : Nat} (hn : (dec n.natAbs).length ≤ k) (hdl : (dec d).length ≤ k) : (dec (mkRat n d).num.natAbs).length ≤ k ∧ (dec (mkRat n d).den).length ≤ k := by
  constructor
  · rw [Rat.num_mkRat, if_neg hd]
    refine Nat.le_trans (dec_mono ?_) hn
    rw [Int.natAbs_ediv_of_dvd (Int.ofNat_dvd_left.2 (Nat.gcd_dvd_right _ _)), Int.natAbs_natCast]; exact Nat.div_le_self _ _
  · rw [Rat.den_mkRat, if_neg hd]
    exact Nat.le_trans (dec_mono (Nat.div_le_self _ _)) hdl
theorem abs_add_dec {a b : Int} {k : Nat} (hk : 0 < k) (ha : (dec a.natAbs).length ≤ k) (hb : (dec b.natAbs).length ≤ k) : (dec (a + b).natAbs).length ≤ k + 1 :=
  Nat.le_trans (dec_mono (Int.natAbs_add_le a b)) (dec_add hk ha hb)
theorem abs_sub_dec {a b : Int} {k : Nat} (hk : 0 < k) (ha : (dec a.natAbs).length ≤ k) (hb : (dec b.natAbs).length ≤ k) : (dec (a - b).natAbs).length ≤ k + 1 := by
  rw [Int.sub_eq_add_neg]; exact abs_add_dec hk ha (by rw [Int.natAbs_neg]; exact hb)
theorem abs_mul_dec {a b : Int} {k j : Nat} (ha : (dec a.natAbs).length ≤ k) (hb : (dec b.natAbs).length ≤ j) : (dec (a * b).natAbs).length ≤ k + j := by
  rw [Int.natAbs_mul]; exact dec_mul' ha hb
theorem abs_mulN_dec {a : Int} {n : Nat} {k j : Nat} (ha : (dec a.natAbs).length ≤ k) (hn : (dec n).length ≤ j) : (dec (a * (n : Int)).natAbs).length ≤ k + j := abs_mul_dec ha (by rw [Int.natAbs_natCast]; exact hn)
theorem c_RAdd {x y : Rat} (hx : RS x) (hy : RS y) : VCall Go.Proofs.Tryz.prog GL 35 [.str (ratB x), .str (ratB y)] (fun v => v = .tup [.str (ratB (x + y)), .int .i64 0]) := by
  have n1 := hx.num
  have n2 := hx.den
  have n3 := hy.num
  have n4 := hy.den
  have hd0 : x.den * y.den ≠ 0 := Nat.mul_ne_zero x.den_nz y.den_nz
  have hq := dec_mul' n2 n4
  have hp1 := abs_mulN_dec n1 n4
  have hp2 := abs_mulN_dec n3 n2
  have ht1 := c_RtimesN x.num y.den (by omega) (by omega)
  have ht2 := c_RtimesN y.num x.den (by omega) (by omega)
  have ht3 := c_RtimesNN x.den y.den (by omega) (by omega)
  have ha := c_WAdd GL (x.num * y.den) (y.num * x.den) (by omega) (by omega)
  have hs := abs_add_dec (by omega) hp1 hp2
  have hl := c_Rlow2 (x.num * y.den + y.num * x.den) (x.den * y.den) hd0 (by omega) (by omega)
  have e := low_dec (x.num * y.den + y.num * x.den) hd0 hs (Nat.le_trans hq (by omega))
  rw [← Rat.add_def'] at hl e
  have hf : VCall Go.Proofs.Tryz.prog GL 57 [ratA x, ratA y] (fun v => v = .tup [ratA (x + y), .nili]) := by
    unfold ratA
    refine vcall_of TOK_RAdd1 HM Go.Proofs.Tryz.func57 rfl (by decide +kernel) (by decide +kernel) rfl ?_
    repeat' first|refine sY ⟨?_⟩|(refine sq ?_ ?_<;>refine fun h=>⟨?_⟩<;>(first|contradiction|(exfalso;omega)|skip))|fail
    refine ⟨by decide +kernel, [0, 1, 0, 4, 15, 0, 32, 0, 128, 511, 1023, 2047, 4095, 4095, 8191, 32767], by decide +kernel, ?_⟩
    repeat' first|refine sY ⟨?_⟩|(refine sq ?_ ?_<;>refine fun h=>⟨?_⟩<;>(first|contradiction|(exfalso;omega)|skip))|fail
    all_goals (conv => whnf)
    all_goals rfl
  have h := c_Rboth 57 (x + y) hx hy (by omega) (by omega) hf
  refine vcall_of TOK_RAdd HM Go.Proofs.Tryz.func35 rfl (by decide +kernel) (by decide +kernel) rfl ?_
  repeat' first|refine sY ⟨?_⟩|(refine sq ?_ ?_<;>refine fun h=>⟨?_⟩<;>(first|contradiction|(exfalso;omega)|skip))|fail
  all_goals (conv => whnf)
  all_goals rfl
theorem c_RSub {x y : Rat} (hx : RS x) (hy : RS y) : VCall Go.Proofs.Tryz.prog GL 37 [.str (ratB x), .str (ratB y)] (fun v => v = .tup [.str (ratB (x - y)), .int .i64 0]) := by
  have n1 := hx.num
  have n2 := hx.den
  have n3 := hy.num
  have n4 := hy.den
  have hd0 : x.den * y.den ≠ 0 := Nat.mul_ne_zero x.den_nz y.den_nz
  have hq := dec_mul' n2 n4
  have hp1 := abs_mulN_dec n1 n4
  have hp2 := abs_mulN_dec n3 n2
  have ht1 := c_RtimesN x.num y.den (by omega) (by omega)
  have ht2 := c_RtimesN y.num x.den (by omega) (by omega)
  have ht3 := c_RtimesNN x.den y.den (by omega) (by omega)
  have ha := c_WSub GL (x.num * y.den) (y.num * x.den) (by omega) (by omega)
  have hs := abs_sub_dec (by omega) hp1 hp2
  have hl := c_Rlow2 (x.num * y.den - y.num * x.den) (x.den * y.den) hd0 (by omega) (by omega)
  have e := low_dec (x.num * y.den - y.num * x.den) hd0 hs (Nat.le_trans hq (by omega))
  rw [← Rat.sub_def'] at hl e
  have hf : VCall Go.Proofs.Tryz.prog GL 60 [ratA x, ratA y] (fun v => v = .tup [ratA (x - y), .nili]) := by
    unfold ratA
    refine vcall_of TOK_RSub1 HM Go.Proofs.Tryz.func60 rfl (by decide +kernel) (by decide +kernel) rfl ?_
    repeat' first|refine sY ⟨?_⟩|(refine sq ?_ ?_<;>refine fun h=>⟨?_⟩<;>(first|contradiction|(exfalso;omega)|skip))|fail
    refine ⟨by decide +kernel, [0, 1, 0, 4, 15, 0, 32, 0, 128, 511, 1023, 2047, 4095, 4095, 8191, 32767], by decide +kernel, ?_⟩
    repeat' first|refine sY ⟨?_⟩|(refine sq ?_ ?_<;>refine fun h=>⟨?_⟩<;>(first|contradiction|(exfalso;omega)|skip))|fail
    all_goals (conv => whnf)
    all_goals rfl
  have h := c_Rboth 60 (x - y) hx hy (by omega) (by omega) hf
  refine vcall_of TOK_RSub HM Go.Proofs.Tryz.func37 rfl (by decide +kernel) (by decide +kernel) rfl ?_
  repeat' first|refine sY ⟨?_⟩|(refine sq ?_ ?_<;>refine fun h=>⟨?_⟩<;>(first|contradiction|(exfalso;omega)|skip))|fail
  all_goals (conv => whnf)
  all_goals rfl
theorem c_RMul {x y : Rat} (hx : RS x) (hy : RS y) : VCall Go.Proofs.Tryz.prog GL 34 [.str (ratB x), .str (ratB y)] (fun v => v = .tup [.str (ratB (x * y)), .int .i64 0]) := by
  have n1 := hx.num
  have n2 := hx.den
  have n3 := hy.num
  have n4 := hy.den
  have hd0 : x.den * y.den ≠ 0 := Nat.mul_ne_zero x.den_nz y.den_nz
  have hq := dec_mul' n2 n4
  have hp := abs_mul_dec n1 n3
  have ht1 := c_Rtimes x.num y.num (by omega) (by omega)
  have ht3 := c_RtimesNN x.den y.den (by omega) (by omega)
  have hl := c_Rlow2 (x.num * y.num) (x.den * y.den) hd0 (by omega) (by omega)
  have e := low_dec (x.num * y.num) hd0 hp hq
  rw [← Rat.mul_def'] at hl e
  have hf : VCall Go.Proofs.Tryz.prog GL 54 [ratA x, ratA y] (fun v => v = .tup [ratA (x * y), .nili]) := by
    unfold ratA
    refine vcall_of TOK_RMul1 HM Go.Proofs.Tryz.func54 rfl (by decide +kernel) (by decide +kernel) rfl ?_
    repeat' first|refine sY ⟨?_⟩|(refine sq ?_ ?_<;>refine fun h=>⟨?_⟩<;>(first|contradiction|(exfalso;omega)|skip))|fail
    refine ⟨by decide +kernel, [0, 1, 0, 4, 15, 0, 32, 0, 128, 511, 1023, 2047, 2047, 8191, 16383], by decide +kernel, ?_⟩
    repeat' first|refine sY ⟨?_⟩|(refine sq ?_ ?_<;>refine fun h=>⟨?_⟩<;>(first|contradiction|(exfalso;omega)|skip))|fail
    all_goals (conv => whnf)
    all_goals rfl
  have h := c_Rboth 54 (x * y) hx hy (by omega) (by omega) hf
  refine vcall_of TOK_RMul HM Go.Proofs.Tryz.func34 rfl (by decide +kernel) (by decide +kernel) rfl ?_
  repeat' first|refine sY ⟨?_⟩|(refine sq ?_ ?_<;>refine fun h=>⟨?_⟩<;>(first|contradiction|(exfalso;omega)|skip))|fail
  all_goals (conv => whnf)
  all_goals rfl
theorem c_RNeg {x : Rat} (hx : RS x) : VCall Go.Proofs.Tryz.prog GL 201 [.str (ratB x)] (fun v => v = .tup [.str (ratB (-x)), .int .i64 0]) := by
  have h := c_RSub RS_zero hx
  rw [show (0 : Rat) - x = -x by rw [Rat.sub_eq_add_neg, Rat.zero_add], ratB_zero] at h
  refine vcall_of TOK_RNeg HM Go.Proofs.Tryz.func201 rfl (by decide +kernel) (by decide +kernel) rfl ?_
  repeat' first|refine sY ⟨?_⟩|(refine sq ?_ ?_<;>refine fun h=>⟨?_⟩<;>(first|contradiction|(exfalso;omega)|skip))|fail
  all_goals (conv => whnf)
  all_goals rfl
theorem c_RSign {x : Rat} (hx : RS x) : VCall Go.Proofs.Tryz.prog GL 200 [.str (ratB x)] (fun v => v = .tup [.int .i64 (sg x.num), .int .i64 0]) := by
  have h := c_Rread2 hx
  have h2 := c_WSign GL x.num (by have := hx.num; omega)
  refine vcall_of TOK_RSign HM Go.Proofs.Tryz.func200 rfl (by decide +kernel) (by decide +kernel) rfl ?_
  repeat' first|refine sY ⟨?_⟩|(refine sq ?_ ?_<;>refine fun h=>⟨?_⟩<;>(first|contradiction|(exfalso;omega)|skip))|fail
  all_goals (conv => whnf)
  all_goals rfl
theorem c_RCompare {x y : Rat} (hx : RS x) (hy : RS y) (hd : RS (x - y)) : VCall Go.Proofs.Tryz.prog GL 172 [.str (ratB x), .str (ratB y)] (fun v => v = .tup [.int .i64 (sg (x - y).num), .int .i64 0]) := by
  have h := c_RSub hx hy
  have h2 := c_RSign hd
  refine vcall_of TOK_RCompare HM Go.Proofs.Tryz.func172 rfl (by decide +kernel) (by decide +kernel) rfl ?_
  repeat' first|refine sY ⟨?_⟩|(refine sq ?_ ?_<;>refine fun h=>⟨?_⟩<;>(first|contradiction|(exfalso;omega)|skip))|fail
  all_goals (conv => whnf)
  all_goals rfl
set_option maxHeartbeats 1000000 in
theorem c_RPower {x : Rat} (n : Nat) (hn : n ≤ 6) (hp : ∀ k, k ≤ n → RS (x ^ k)) (hx : RS x) : VCall Go.Proofs.Tryz.prog GL 141 [.str (ratB x), .int .i64 (n : Nat)] (fun v => v = .tup [.str (ratB (x ^ n)), .int .i64 0]) := by
  have h := c_Rread2 hx
  refine vcall_of TOK_RPower HM Go.Proofs.Tryz.func141 rfl (by decide +kernel) (by decide +kernel) rfl ?_
  repeat' first|refine sY ⟨?_⟩|(refine sq ?_ ?_<;>refine fun h=>⟨?_⟩<;>(first|contradiction|(exfalso;omega)|skip))|fail
  refine ⟨[0, 8, 24, 25], [], fun k st => ∃ i : Nat, i ≤ n ∧ k = n - i ∧ st = ⟨[(0, .str (ratB x)), (8, .str (ratB (x ^ i))), (24, .int .i64 (n : Nat)), (25, .int .i64 (i : Nat))], []⟩, rfl,
    ⟨n, 0, by omega, rfl, Eq.trans rfl (congrArg (fun z : ByteArray => (⟨[(0, .str (ratB x)), (8, .str z), (24, .int .i64 (n : Nat)), (25, .int .i64 ((0 : Nat) : Int))], []⟩ : St)) (show (⟨#[49]⟩ : ByteArray) = ratB (x ^ 0) by rw [Rat.pow_zero, ratB_one]))⟩, ?_⟩
  rintro k _ ⟨i, hi, hk, rfl⟩
  rcases Nat.lt_or_ge i n with hil | hge
  · have hm := c_RMul (hp i (by omega)) hx
    rw [← Rat.pow_succ] at hm
    repeat' first|refine sY ⟨?_⟩|(refine sq ?_ ?_<;>refine fun h=>⟨?_⟩<;>(first|contradiction|(exfalso;omega)|skip))|fail
    all_goals exact ⟨[], n - (i + 1), rfl, by omega, i + 1, by omega, rfl, rfl⟩
  · obtain rfl : i = n := by omega
    repeat' first|refine sY ⟨?_⟩|(refine sq ?_ ?_<;>refine fun h=>⟨?_⟩<;>(first|contradiction|(exfalso;omega)|skip))|fail
    all_goals (conv => whnf)
    all_goals rfl
theorem c_r03_Low2 (n : Int) (d : Nat) (hd : d ≠ 0) (hn : (dec n.natAbs).length ≤ 100000) (hdl : (dec d).length ≤ 100000) : VCall Go.Proofs.Tryz.prog GL 128 [.str (intB n), .str (decB d)] (fun v => v = ratA (mkRat n d)) := by
  have hs := intB_size n
  have h := c_r03_Lowest GL (intB n) d (isWhole_intB n) hd (by omega) (by omega)
  rwa [lowP_intB n hd, lowQ_intB n hd] at h
theorem c_r03_Text2 {x : Rat} (hx : RS x) : VCall Go.Proofs.Tryz.prog GL 129 [ratA x] (fun v => v = .str (ratB x)) := by
  have hs := intB_size x.num
  have h1 := hx.num
  have h2 := hx.den
  exact c_r03_Text GL (intB x.num) (decB x.den) (by omega) (by rw [decB_size]; omega)
theorem c_r03_Read2 {x : Rat} (hx : RS x) : VCall Go.Proofs.Tryz.prog GL 71 [.str (ratB x)] (fun v => v = .tup [ratA x, .bool true]) := by
  obtain ⟨h1, h2, h3⟩ := ratOK_ratB x
  refine (c_r03_Read GL (ratB x) (by have := hx.size; omega)).mono fun v ⟨p, q, e, h⟩ => ?_
  obtain ⟨rfl, rfl⟩ := h h1
  rw [e, h1, h2, h3]; rfl
theorem c_r02_MulN (a : Int) (n : Nat) (ha : (dec a.natAbs).length ≤ 100000) (hn : (dec n).length ≤ 100000) : VCall Go.Proofs.Tryz.prog GL 134 [.str (intB a), .str (decB n)] (fun v => v = .str (intB (a * n))) := by
  have h := c_r02_Mul GL a n ha (by rw [Int.natAbs_natCast]; exact hn)
  rwa [intB_nat] at h
theorem c_r02_MulNN (m n : Nat) (hm : (dec m).length ≤ 100000) (hn : (dec n).length ≤ 100000) : VCall Go.Proofs.Tryz.prog GL 134 [.str (decB m), .str (decB n)] (fun v => v = .str (decB (m * n))) := by
  have h := c_r02_Mul GL m n (by rw [Int.natAbs_natCast]; exact hm) (by rw [Int.natAbs_natCast]; exact hn)
  rwa [intB_nat, intB_nat, ← Int.natCast_mul, intB_nat] at h
theorem c_r03_Add {x y : Rat} (hx : RS x) (hy : RS y) : VCall Go.Proofs.Tryz.prog GL 78 [ratA x, ratA y] (fun v => v = ratA (x + y)) := by
  have n1 := hx.num
  have n2 := hx.den
  have n3 := hy.num
  have n4 := hy.den
  have hd0 : x.den * y.den ≠ 0 := Nat.mul_ne_zero x.den_nz y.den_nz
  have hq := dec_mul' n2 n4
  have hp1 := abs_mulN_dec n1 n4
  have hp2 := abs_mulN_dec n3 n2
  have ht1 := c_r02_MulN x.num y.den (by omega) (by omega)
  have ht2 := c_r02_MulN y.num x.den (by omega) (by omega)
  have ht3 := c_r02_MulNN x.den y.den (by omega) (by omega)
  have ha := c_r02_Add GL (x.num * y.den) (y.num * x.den) (by omega) (by omega)
  have hs := abs_add_dec (by omega) hp1 hp2
  have hl := c_r03_Low2 (x.num * y.den + y.num * x.den) (x.den * y.den) hd0 (by omega) (by omega)
  rw [← Rat.add_def'] at hl
  unfold ratA
  refine vcall_of TOK_r03_Add HM Go.Proofs.Tryz.func78 rfl (by decide +kernel) (by decide +kernel) rfl ?_
  repeat' first|refine sY ⟨?_⟩|(refine sq ?_ ?_<;>refine fun h=>⟨?_⟩<;>(first|contradiction|(exfalso;omega)|skip))|fail
  refine ⟨by decide +kernel, [0, 1, 0, 4, 15, 0, 32, 0, 128, 511, 1023, 0, 2048, 0, 8192, 32767, 65535, 131071], by decide +kernel, ?_⟩
  repeat' first|refine sY ⟨?_⟩|(refine sq ?_ ?_<;>refine fun h=>⟨?_⟩<;>(first|contradiction|(exfalso;omega)|skip))|fail
  all_goals (conv => whnf)
  all_goals rfl
theorem c_r03_Mul {x y : Rat} (hx : RS x) (hy : RS y) : VCall Go.Proofs.Tryz.prog GL 79 [ratA x, ratA y] (fun v => v = ratA (x * y)) := by
  have n1 := hx.num
  have n2 := hx.den
  have n3 := hy.num
  have n4 := hy.den
  have hd0 : x.den * y.den ≠ 0 := Nat.mul_ne_zero x.den_nz y.den_nz
  have hq := dec_mul' n2 n4
  have hp := abs_mul_dec n1 n3
  have ht1 := c_r02_Mul GL x.num y.num (by omega) (by omega)
  have ht3 := c_r02_MulNN x.den y.den (by omega) (by omega)
  have hl := c_r03_Low2 (x.num * y.num) (x.den * y.den) hd0 (by omega) (by omega)
  rw [← Rat.mul_def'] at hl
  unfold ratA
  refine vcall_of TOK_r03_Mul HM Go.Proofs.Tryz.func79 rfl (by decide +kernel) (by decide +kernel) rfl ?_
  repeat' first|refine sY ⟨?_⟩|(refine sq ?_ ?_<;>refine fun h=>⟨?_⟩<;>(first|contradiction|(exfalso;omega)|skip))|fail
  refine ⟨by decide +kernel, [0, 1, 0, 4, 15, 0, 32, 0, 128, 511, 1023, 2047], by decide +kernel, ?_⟩
  repeat' first|refine sY ⟨?_⟩|(refine sq ?_ ?_<;>refine fun h=>⟨?_⟩<;>(first|contradiction|(exfalso;omega)|skip))|fail
  all_goals (conv => whnf)
  all_goals rfl
theorem c_r03_Neg {x : Rat} (hx : RS x) : VCall Go.Proofs.Tryz.prog GL 130 [ratA x] (fun v => v = ratA (-x)) := by
  have n1 := hx.num
  have h := c_r02_Neg GL x.num (by omega)
  unfold ratA
  refine vcall_of TOK_r03_Neg HM Go.Proofs.Tryz.func130 rfl (by decide +kernel) (by decide +kernel) rfl ?_
  repeat' first|refine sY ⟨?_⟩|(refine sq ?_ ?_<;>refine fun h=>⟨?_⟩<;>(first|contradiction|(exfalso;omega)|skip))|fail
  refine ⟨by decide +kernel, [0, 1, 3, 0, 8, 31, 63], by decide +kernel, ?_⟩
  repeat' first|refine sY ⟨?_⟩|(refine sq ?_ ?_<;>refine fun h=>⟨?_⟩<;>(first|contradiction|(exfalso;omega)|skip))|fail
  all_goals (conv => whnf)
  all_goals rfl
set_option maxHeartbeats 1000000 in
theorem c_r03_Power {x : Rat} (n : Nat) (hn : n ≤ 6) (hp : ∀ k, k ≤ n → RS (x ^ k)) (hx : RS x) : VCall Go.Proofs.Tryz.prog GL 80 [ratA x, .int .i64 (n : Nat)] (fun v => v = ratA (x ^ n)) := by
  unfold ratA
  refine vcall_of TOK_r03_Power HM Go.Proofs.Tryz.func80 rfl (by decide +kernel) (by decide +kernel) rfl ?_
  repeat' first|refine sY ⟨?_⟩|(refine sq ?_ ?_<;>refine fun h=>⟨?_⟩<;>(first|contradiction|(exfalso;omega)|skip))|fail
  refine ⟨[1, 2, 4, 5, 6], [0, 1, 2], fun k st => ∃ i : Nat, i ≤ n ∧ k = n - i ∧ st = ⟨[(1, .int .i64 (n : Nat)), (2, .bptr 0 0), (4, .bptr 1 0), (5, .bptr 2 0), (6, .int .i64 (i : Nat))],
      [.box 100 [.str (intB x.num), .str (decB x.den)], .box 100 [.str ⟨#[]⟩, .str ⟨#[]⟩], .box 100 [.str (intB (x ^ i).num), .str (decB (x ^ i).den)]]⟩, rfl,
    ⟨n, 0, by omega, rfl, Eq.trans rfl (congrArg (fun z : ByteArray × ByteArray => (⟨[(1, .int .i64 (n : Nat)), (2, .bptr 0 0), (4, .bptr 1 0), (5, .bptr 2 0), (6, .int .i64 ((0 : Nat) : Int))],
      [.box 100 [.str (intB x.num), .str (decB x.den)], .box 100 [.str ⟨#[]⟩, .str ⟨#[]⟩], .box 100 [.str z.1, .str z.2]]⟩ : St)) (show ((⟨#[49]⟩, ⟨#[49]⟩) : ByteArray × ByteArray) = (intB (x ^ 0).num, decB (x ^ 0).den) by rw [Rat.pow_zero]; decide +kernel))⟩, ?_⟩
  rintro k _ ⟨i, hi, hk, rfl⟩
  rcases Nat.lt_or_ge i n with hil | hge
  · have hm := c_r03_Mul (hp i (by omega)) hx
    rw [← Rat.pow_succ] at hm
    repeat' first|refine sY ⟨?_⟩|(refine sq ?_ ?_<;>refine fun h=>⟨?_⟩<;>(first|contradiction|(exfalso;omega)|skip))|fail
    all_goals exact ⟨[0, 1, 2], n - (i + 1), rfl, by omega, i + 1, by omega, rfl, rfl⟩
  · obtain rfl : i = n := by omega
    repeat' first|refine sY ⟨?_⟩|(refine sq ?_ ?_<;>refine fun h=>⟨?_⟩<;>(first|contradiction|(exfalso;omega)|skip))|fail
    all_goals (conv => whnf)
    all_goals rfl
end Go.V
namespace Go.V
open Go.N
set_option maxRecDepth 20000
def T_tRight : Tab := [(40, i40), (33, i33), (3, i3), (34, i34), (9, i9), (56, i56), (4, i4)]
theorem TOK_tRight : TOK Go.Proofs.Tryz.prog T_tRight := ⟨K40, ⟨K33, ⟨K3, ⟨K34, ⟨K9, ⟨K56, ⟨K4, trivial⟩⟩⟩⟩⟩⟩⟩
def T_tRight1 : Tab := [(9, i9), (4, i4)]
theorem TOK_tRight1 : TOK Go.Proofs.Tryz.prog T_tRight1 := ⟨K9, ⟨K4, trivial⟩⟩
def T_teach : Tab := [(40, i40), (33, i33), (3, i3), (34, i34), (9, i9), (28, i28)]
theorem TOK_teach : TOK Go.Proofs.Tryz.prog T_teach := ⟨K40, ⟨K33, ⟨K3, ⟨K34, ⟨K9, ⟨K28, trivial⟩⟩⟩⟩⟩⟩
def T_tScale : Tab := [(40, i40), (9, i9), (4, i4), (146, i146)]
theorem TOK_tScale : TOK Go.Proofs.Tryz.prog T_tScale := ⟨K40, ⟨K9, ⟨K4, ⟨K146, trivial⟩⟩⟩⟩
def T_tScale1 : Tab := [(9, i9)]
theorem TOK_tScale1 : TOK Go.Proofs.Tryz.prog T_tScale1 := ⟨K9, trivial⟩
def T_tPower : Tab := [(40, i40), (3, i3), (4, i4), (146, i146)]
theorem TOK_tPower : TOK Go.Proofs.Tryz.prog T_tPower := ⟨K40, ⟨K3, ⟨K4, ⟨K146, trivial⟩⟩⟩⟩
def T_tPower1 : Tab := [(3, i3), (9, i9)]
theorem TOK_tPower1 : TOK Go.Proofs.Tryz.prog T_tPower1 := ⟨K3, ⟨K9, trivial⟩⟩
def T_tSum : Tab := [(40, i40), (4, i4), (34, i34), (9, i9), (3, i3)]
theorem TOK_tSum : TOK Go.Proofs.Tryz.prog T_tSum := ⟨K40, ⟨K4, ⟨K34, ⟨K9, ⟨K3, trivial⟩⟩⟩⟩⟩
structure VT (s : List Int) (v : List Rat) : Prop where
  ok : okShape s = true
  len : (v.length : Int) = prodZ s
  rs : ∀ x ∈ v, RS x
theorem VT.sl {s : List Int} {v : List Rat} (h : VT s v) : s.length ≤ 4 := okShape_len h.ok
theorem VT.vl {s : List Int} {v : List Rat} (h : VT s v) : 1 ≤ v.length ∧ v.length ≤ 64 := by
  have h1 := okShape_mid h.ok s.length
  rw [List.take_length, ← h.len] at h1
  omega
def tenA (s : List Int) (l : List ByteArray) : AV := .agg [.ro 1 (rowZ s), .ro 1 (rowS l)]
def tenR (s : List Int) (v : List Rat) : AV := .agg [.ro 1 (rowZ s), .ro 1 (rowR v)]
def okT (s : List Int) (l : List ByteArray) : Bool := okShape s && (decide ((l.length : Int) = sizeZ s) && !(l.any fun x => !ratOK x))
theorem c_tRight1 (s : ByteArray) (hs : s.size < 190000) : VCall Go.Proofs.Tryz.prog GL 118 [.str s] (fun x => x = .bool (!ratOK s)) := by
  have hr := c_RRight s hs
  refine vcall_of TOK_tRight1 HM Go.Proofs.Tryz.func118 rfl (by decide +kernel) (by decide +kernel) rfl ?_
  repeat' first|refine sY ⟨?_⟩|(refine sq ?_ ?_<;>refine fun h=>⟨?_⟩<;>(first|contradiction|(exfalso;omega)|skip))|fail
  all_goals (conv => whnf)
  all_goals rfl
theorem c_tRight (s : List Int) (l : List ByteArray) (hsl : s.length ≤ 1000) (hl : l.length ≤ 1000) (hs : ∀ x ∈ l, x.size < 190000) : VCall Go.Proofs.Tryz.prog GL 59 [tenA s l] (fun x => x = .bool (okT s l)) := by
  have h1 := c_shape_Right GL s (by omega)
  have h2 := c_shape_Size GL s (by omega)
  have h3 := c_ContainsFuncS GL 118 l (fun x => !ratOK x) (by omega) (fun x hx => c_tRight1 x (hs x hx))
  have hlr := rowS_length l
  unfold tenA
  cases ho : okShape s
  · have e : okT s l = false := by rw [okT, ho]; rfl
    rw [ho] at h1
    rw [e]
    refine vcall_of TOK_tRight HM Go.Proofs.Tryz.func59 rfl (by decide +kernel) (by decide +kernel) rfl ?_
    repeat' first|refine sY ⟨?_⟩|(refine sq ?_ ?_<;>refine fun h=>⟨?_⟩<;>(first|contradiction|(exfalso;omega)|skip))|fail
    refine ⟨by decide +kernel, [0, 1, 3, 7, 15, 31, 63, 15, 143, 399, 1023, 2047, 4095, 8191, 16383, 32767, 65535, 131071, 262143], by decide +kernel, ?_⟩
    repeat' first|refine sY ⟨?_⟩|(refine sq ?_ ?_<;>refine fun h=>⟨?_⟩<;>(first|contradiction|(exfalso;omega)|skip))|fail
    all_goals (conv => whnf)
    all_goals rfl
  · rw [ho] at h1
    by_cases hz : (l.length : Int) = sizeZ s
    · have e : okT s l = !(l.any fun x => !ratOK x) := by rw [okT, ho, decide_eq_true hz]; rfl
      rw [e]
      generalize (l.any fun x => !ratOK x) = b at h3
      cases b
      · refine vcall_of TOK_tRight HM Go.Proofs.Tryz.func59 rfl (by decide +kernel) (by decide +kernel) rfl ?_
        repeat' first|refine sY ⟨?_⟩|(refine sq ?_ ?_<;>refine fun h=>⟨?_⟩<;>(first|contradiction|(exfalso;omega)|skip))|fail
        refine ⟨by decide +kernel, [0, 1, 3, 7, 15, 31, 63, 15, 143, 399, 1023, 2047, 4095, 8191, 16383, 32767, 65535, 131071, 262143], by decide +kernel, ?_⟩
        repeat' first|refine sY ⟨?_⟩|(refine sq ?_ ?_<;>refine fun h=>⟨?_⟩<;>(first|contradiction|(exfalso;omega)|skip))|fail
        all_goals (conv => whnf)
        all_goals rfl
      · refine vcall_of TOK_tRight HM Go.Proofs.Tryz.func59 rfl (by decide +kernel) (by decide +kernel) rfl ?_
        repeat' first|refine sY ⟨?_⟩|(refine sq ?_ ?_<;>refine fun h=>⟨?_⟩<;>(first|contradiction|(exfalso;omega)|skip))|fail
        refine ⟨by decide +kernel, [0, 1, 3, 7, 15, 31, 63, 15, 143, 399, 1023, 2047, 4095, 8191, 16383, 32767, 65535, 131071, 262143], by decide +kernel, ?_⟩
        repeat' first|refine sY ⟨?_⟩|(refine sq ?_ ?_<;>refine fun h=>⟨?_⟩<;>(first|contradiction|(exfalso;omega)|skip))|fail
        all_goals (conv => whnf)
        all_goals rfl
    · have e : okT s l = false := by rw [okT, ho, decide_eq_false hz]; rfl
      rw [e]
      refine vcall_of TOK_tRight HM Go.Proofs.Tryz.func59 rfl (by decide +kernel) (by decide +kernel) rfl ?_
      repeat' first|refine sY ⟨?_⟩|(refine sq ?_ ?_<;>refine fun h=>⟨?_⟩<;>(first|contradiction|(exfalso;omega)|skip))|fail
      refine ⟨by decide +kernel, [0, 1, 3, 7, 15, 31, 63, 15, 143, 399, 1023, 2047, 4095, 8191, 16383, 32767, 65535, 131071, 262143], by decide +kernel, ?_⟩
      repeat' first|refine sY ⟨?_⟩|(refine sq ?_ ?_<;>refine fun h=>⟨?_⟩<;>(first|contradiction|(exfalso;omega)|skip))|fail
      all_goals (conv => whnf)
      all_goals rfl
theorem okT_rat {s : List Int} {v : List Rat} (h1 : okShape s = true) (h2 : (v.length : Int) = prodZ s) : okT s (v.map ratB) = true := by
  rw [okT, h1, sizeZ, if_pos h1, List.length_map, decide_eq_true h2]
  simp only [Bool.true_and, Bool.not_eq_true', List.any_eq_false, List.mem_map]
  rintro x ⟨y, _, rfl⟩
  simp [(ratOK_ratB y).1]
theorem c_tRightV {s : List Int} {v : List Rat} (h : VT s v) : VCall Go.Proofs.Tryz.prog GL 59 [tenR s v] (fun x => x = .bool true) := by
  have hc := c_tRight s (v.map ratB) (by have := h.sl; omega) (by rw [List.length_map]; have := h.vl; omega) (fun x hx => by
    obtain ⟨y, hy, rfl⟩ := List.mem_map.1 hx
    have := (h.rs y hy).size; omega)
  rw [okT_rat h.ok h.len] at hc
  exact hc
theorem rowR_get {v : List Rat} {k : Nat} (h : k < v.length) : (rowR v)[k]? = some [.str (ratB v[k])] := by simp [rowR, rowS, h]
theorem rowR_snoc {r : List Rat} {i : Nat} (h : i < r.length) : rowR (r.take (i + 1)) = List.take (rowR (r.take i)).length (rowR (r.take i)) ++ [[.str (ratB r[i])]] := by
  rw [List.take_length, List.take_succ_eq_append_getElem h]; unfold rowR rowS; rw [List.map_append, List.map_append]; rfl
theorem rowR_one {r : List Rat} (h : 0 < r.length) : rowR (r.take 1) = [[.str (ratB r[0])]] := by
  rw [List.take_succ_eq_append_getElem h]; simp [rowR, rowS]
def TF (s : List Int) (v : List Rat) (x : AV) : Prop := x = .agg [.fr 3 1 (rowZ s), .fr 9 1 (rowR v)] ∨ (s = [] ∧ x = .agg [.nils, .fr 9 1 (rowR v)])
set_option maxHeartbeats 1000000 in
theorem c_teach1 (f : FuncId) (a : List AV) (s : List Int) (v r : List Rat) (hs : s.length ≤ 1000) (hv : 1 ≤ v.length ∧ v.length ≤ 1000) (hr : r.length = v.length)
    (hc : ∀ i (h : i < v.length), VCall Go.Proofs.Tryz.prog GL f [.int .i64 (i : Nat), .str (ratB v[i]), .rp a] (fun y => y = .tup [.str (ratB (r[i]'(by omega))), .int .i64 0])) :
    VCall Go.Proofs.Tryz.prog GL 119 [tenR s v, .fn f [.rp a]] (fun y => ∃ x, TF s r x ∧ y = .tup [x, .int .i64 0]) := by
  have hvl := rowR_length v
  have hcl := c_CloneI GL s (by omega)
  refine vcall_of TOK_teach HM Go.Proofs.Tryz.func119 rfl (by decide +kernel) (by decide +kernel) rfl ?_
  repeat' first|refine sY ⟨?_⟩|(refine sq ?_ ?_<;>refine fun h=>⟨?_⟩<;>(first|contradiction|(exfalso;omega)|skip))|fail
  conv => whnf
  rintro _ (rfl | ⟨hs0, rfl⟩)
  · repeat' first|refine sY ⟨?_⟩|(refine sq ?_ ?_<;>refine fun h=>⟨?_⟩<;>(first|contradiction|(exfalso;omega)|skip))|fail
    refine ⟨[1, 2, 4, 6, 16, 17, 18], [0, 1, 3, 2], fun m st => ∃ i : Nat, i ≤ v.length ∧ m = v.length - i ∧
      ((i = 0 ∧ st = ⟨[(1, .fn f [.rp a]), (2, .bptr 0 0), (4, .bptr 1 0), (6, .bptr 2 0), (16, .ro 1 (rowR v)), (17, .int .i64 ((rowR v).length : Nat)), (18, .int .i64 (i : Nat))],
        [.box 40 [.ro 1 (rowZ s), .ro 1 (rowR v)], .box 40 [.nils, .nils], .box 40 [.own 3 0 (rowZ s).length, .nils], .row false 3 1 (rowZ s)]⟩) ∨
      (0 < i ∧ st = ⟨[(1, .fn f [.rp a]), (2, .bptr 0 0), (4, .bptr 1 0), (6, .bptr 2 0), (16, .ro 1 (rowR v)), (17, .int .i64 ((rowR v).length : Nat)), (18, .int .i64 (i : Nat))],
        [.box 40 [.ro 1 (rowZ s), .ro 1 (rowR v)], .box 40 [.nils, .nils], .box 40 [.own 3 0 (rowZ s).length, .own 4 0 (rowR (r.take i)).length], .row false 3 1 (rowZ s), .row false 9 1 (rowR (r.take i))]⟩)), rfl, ⟨v.length, 0, by omega, rfl, .inl ⟨rfl, rfl⟩⟩, ?_⟩
    rintro m _ ⟨i, hi, hm, hst⟩
    have hol : (rowR (r.take i)).length = i := by rw [rowR_length, List.length_take]; omega
    rcases Nat.lt_or_ge i v.length with hil | hge
    · have g : (rowR v)[i]? = some [.str (ratB v[i])] := rowR_get hil
      have hci := hc i hil
      rcases hst with ⟨rfl, rfl⟩ | ⟨h0, rfl⟩
      · repeat' first|refine sY ⟨?_⟩|(refine sq ?_ ?_<;>refine fun h=>⟨?_⟩<;>(first|contradiction|(exfalso;omega)|skip))|fail
        conv => whnf
        refine ⟨Nat.le_of_ble_eq_true rfl, fun h => Nat.succ_ne_zero _ (congrArg List.length h), ?_⟩
        repeat' first|refine sY ⟨?_⟩|(refine sq ?_ ?_<;>refine fun h=>⟨?_⟩<;>(first|contradiction|(exfalso;omega)|skip))|fail
        refine ⟨[0, 1, 2, 3, 5], v.length - (0 + 1), rfl, by omega, 0 + 1, by omega, rfl, .inr ⟨by omega, ?_⟩⟩
        exact Eq.trans rfl (congrArg (fun z : List (List AV) => (⟨[(1, .fn f [.rp a]), (2, .bptr 0 0), (4, .bptr 1 0), (6, .bptr 2 0), (16, .ro 1 (rowR v)), (17, .int .i64 ((rowR v).length : Nat)), (18, .int .i64 ((0 + 1 : Nat) : Int))],
          [.box 40 [.ro 1 (rowZ s), .ro 1 (rowR v)], .box 40 [.nils, .nils], .box 40 [.own 3 0 (rowZ s).length, .own 4 0 z.length], .row false 3 1 (rowZ s), .row false 9 1 z]⟩ : St)) (rowR_one (by omega)).symm)
      · repeat' first|refine sY ⟨?_⟩|(refine sq ?_ ?_<;>refine fun h=>⟨?_⟩<;>(first|contradiction|(exfalso;omega)|skip))|fail
        refine ⟨Nat.le_refl _, (show ((rowR (r.take i)).length + 1) * 16 ≤ 140737488355328 by omega), _, rowR_snoc (by omega), ?_⟩
        repeat' first|refine sY ⟨?_⟩|(refine sq ?_ ?_<;>refine fun h=>⟨?_⟩<;>(first|contradiction|(exfalso;omega)|skip))|fail
        all_goals exact ⟨[0, 1, 2, 3, 6], v.length - (i + 1), rfl, by omega, i + 1, by omega, rfl, .inr ⟨by omega, rfl⟩⟩
    · rcases hst with ⟨rfl, rfl⟩ | ⟨h0, rfl⟩
      · exact absurd hge (by omega)
      · repeat' first|refine sY ⟨?_⟩|(refine sq ?_ ?_<;>refine fun h=>⟨?_⟩<;>(first|contradiction|(exfalso;omega)|skip))|fail
        conv => whnf
        have e : r.take i = r := List.take_of_length_le (by omega)
        rw [e]
        exact ⟨_, .inl rfl, rfl⟩
  · repeat' first|refine sY ⟨?_⟩|(refine sq ?_ ?_<;>refine fun h=>⟨?_⟩<;>(first|contradiction|(exfalso;omega)|skip))|fail
    refine ⟨[1, 2, 4, 6, 16, 17, 18], [0, 1, 2], fun m st => ∃ i : Nat, i ≤ v.length ∧ m = v.length - i ∧
      ((i = 0 ∧ st = ⟨[(1, .fn f [.rp a]), (2, .bptr 0 0), (4, .bptr 1 0), (6, .bptr 2 0), (16, .ro 1 (rowR v)), (17, .int .i64 ((rowR v).length : Nat)), (18, .int .i64 (i : Nat))],
        [.box 40 [.ro 1 (rowZ s), .ro 1 (rowR v)], .box 40 [.nils, .nils], .box 40 [.nils, .nils]]⟩) ∨
      (0 < i ∧ st = ⟨[(1, .fn f [.rp a]), (2, .bptr 0 0), (4, .bptr 1 0), (6, .bptr 2 0), (16, .ro 1 (rowR v)), (17, .int .i64 ((rowR v).length : Nat)), (18, .int .i64 (i : Nat))],
        [.box 40 [.ro 1 (rowZ s), .ro 1 (rowR v)], .box 40 [.nils, .nils], .box 40 [.nils, .own 3 0 (rowR (r.take i)).length], .row false 9 1 (rowR (r.take i))]⟩)), rfl, ⟨v.length, 0, by omega, rfl, .inl ⟨rfl, rfl⟩⟩, ?_⟩
    rintro m _ ⟨i, hi, hm, hst⟩
    have hol : (rowR (r.take i)).length = i := by rw [rowR_length, List.length_take]; omega
    rcases Nat.lt_or_ge i v.length with hil | hge
    · have g : (rowR v)[i]? = some [.str (ratB v[i])] := rowR_get hil
      have hci := hc i hil
      rcases hst with ⟨rfl, rfl⟩ | ⟨h0, rfl⟩
      · repeat' first|refine sY ⟨?_⟩|(refine sq ?_ ?_<;>refine fun h=>⟨?_⟩<;>(first|contradiction|(exfalso;omega)|skip))|fail
        conv => whnf
        refine ⟨Nat.le_of_ble_eq_true rfl, fun h => Nat.succ_ne_zero _ (congrArg List.length h), ?_⟩
        repeat' first|refine sY ⟨?_⟩|(refine sq ?_ ?_<;>refine fun h=>⟨?_⟩<;>(first|contradiction|(exfalso;omega)|skip))|fail
        refine ⟨[0, 1, 2, 4], v.length - (0 + 1), rfl, by omega, 0 + 1, by omega, rfl, .inr ⟨by omega, ?_⟩⟩
        exact Eq.trans rfl (congrArg (fun z : List (List AV) => (⟨[(1, .fn f [.rp a]), (2, .bptr 0 0), (4, .bptr 1 0), (6, .bptr 2 0), (16, .ro 1 (rowR v)), (17, .int .i64 ((rowR v).length : Nat)), (18, .int .i64 ((0 + 1 : Nat) : Int))],
          [.box 40 [.ro 1 (rowZ s), .ro 1 (rowR v)], .box 40 [.nils, .nils], .box 40 [.nils, .own 3 0 z.length], .row false 9 1 z]⟩ : St)) (rowR_one (by omega)).symm)
      · repeat' first|refine sY ⟨?_⟩|(refine sq ?_ ?_<;>refine fun h=>⟨?_⟩<;>(first|contradiction|(exfalso;omega)|skip))|fail
        refine ⟨Nat.le_refl _, (show ((rowR (r.take i)).length + 1) * 16 ≤ 140737488355328 by omega), _, rowR_snoc (by omega), ?_⟩
        repeat' first|refine sY ⟨?_⟩|(refine sq ?_ ?_<;>refine fun h=>⟨?_⟩<;>(first|contradiction|(exfalso;omega)|skip))|fail
        all_goals exact ⟨[0, 1, 2, 5], v.length - (i + 1), rfl, by omega, i + 1, by omega, rfl, .inr ⟨by omega, rfl⟩⟩
    · rcases hst with ⟨rfl, rfl⟩ | ⟨h0, rfl⟩
      · exact absurd hge (by omega)
      · repeat' first|refine sY ⟨?_⟩|(refine sq ?_ ?_<;>refine fun h=>⟨?_⟩<;>(first|contradiction|(exfalso;omega)|skip))|fail
        conv => whnf
        have e : r.take i = r := List.take_of_length_le (by omega)
        rw [e]
        exact ⟨_, .inr ⟨hs0, rfl⟩, rfl⟩
set_option maxHeartbeats 1000000 in
theorem c_teach2 (f : FuncId) (a b : List AV) (s : List Int) (v r : List Rat) (hs : s.length ≤ 1000) (hv : 1 ≤ v.length ∧ v.length ≤ 1000) (hr : r.length = v.length)
    (hc : ∀ i (h : i < v.length), VCall Go.Proofs.Tryz.prog GL f [.int .i64 (i : Nat), .str (ratB v[i]), .rp a, .rp b] (fun y => y = .tup [.str (ratB (r[i]'(by omega))), .int .i64 0])) :
    VCall Go.Proofs.Tryz.prog GL 119 [tenR s v, .fn f [.rp a, .rp b]] (fun y => ∃ x, TF s r x ∧ y = .tup [x, .int .i64 0]) := by
  have hvl := rowR_length v
  have hcl := c_CloneI GL s (by omega)
  refine vcall_of TOK_teach HM Go.Proofs.Tryz.func119 rfl (by decide +kernel) (by decide +kernel) rfl ?_
  repeat' first|refine sY ⟨?_⟩|(refine sq ?_ ?_<;>refine fun h=>⟨?_⟩<;>(first|contradiction|(exfalso;omega)|skip))|fail
  conv => whnf
  rintro _ (rfl | ⟨hs0, rfl⟩)
  · repeat' first|refine sY ⟨?_⟩|(refine sq ?_ ?_<;>refine fun h=>⟨?_⟩<;>(first|contradiction|(exfalso;omega)|skip))|fail
    refine ⟨[1, 2, 4, 6, 16, 17, 18], [0, 1, 3, 2], fun m st => ∃ i : Nat, i ≤ v.length ∧ m = v.length - i ∧
      ((i = 0 ∧ st = ⟨[(1, .fn f [.rp a, .rp b]), (2, .bptr 0 0), (4, .bptr 1 0), (6, .bptr 2 0), (16, .ro 1 (rowR v)), (17, .int .i64 ((rowR v).length : Nat)), (18, .int .i64 (i : Nat))],
        [.box 40 [.ro 1 (rowZ s), .ro 1 (rowR v)], .box 40 [.nils, .nils], .box 40 [.own 3 0 (rowZ s).length, .nils], .row false 3 1 (rowZ s)]⟩) ∨
      (0 < i ∧ st = ⟨[(1, .fn f [.rp a, .rp b]), (2, .bptr 0 0), (4, .bptr 1 0), (6, .bptr 2 0), (16, .ro 1 (rowR v)), (17, .int .i64 ((rowR v).length : Nat)), (18, .int .i64 (i : Nat))],
        [.box 40 [.ro 1 (rowZ s), .ro 1 (rowR v)], .box 40 [.nils, .nils], .box 40 [.own 3 0 (rowZ s).length, .own 4 0 (rowR (r.take i)).length], .row false 3 1 (rowZ s), .row false 9 1 (rowR (r.take i))]⟩)), rfl, ⟨v.length, 0, by omega, rfl, .inl ⟨rfl, rfl⟩⟩, ?_⟩
    rintro m _ ⟨i, hi, hm, hst⟩
    have hol : (rowR (r.take i)).length = i := by rw [rowR_length, List.length_take]; omega
    rcases Nat.lt_or_ge i v.length with hil | hge
    · have g : (rowR v)[i]? = some [.str (ratB v[i])] := rowR_get hil
      have hci := hc i hil
      rcases hst with ⟨rfl, rfl⟩ | ⟨h0, rfl⟩
      · repeat' first|refine sY ⟨?_⟩|(refine sq ?_ ?_<;>refine fun h=>⟨?_⟩<;>(first|contradiction|(exfalso;omega)|skip))|fail
        conv => whnf
        refine ⟨Nat.le_of_ble_eq_true rfl, fun h => Nat.succ_ne_zero _ (congrArg List.length h), ?_⟩
        repeat' first|refine sY ⟨?_⟩|(refine sq ?_ ?_<;>refine fun h=>⟨?_⟩<;>(first|contradiction|(exfalso;omega)|skip))|fail
        refine ⟨[0, 1, 2, 3, 5], v.length - (0 + 1), rfl, by omega, 0 + 1, by omega, rfl, .inr ⟨by omega, ?_⟩⟩
        exact Eq.trans rfl (congrArg (fun z : List (List AV) => (⟨[(1, .fn f [.rp a, .rp b]), (2, .bptr 0 0), (4, .bptr 1 0), (6, .bptr 2 0), (16, .ro 1 (rowR v)), (17, .int .i64 ((rowR v).length : Nat)), (18, .int .i64 ((0 + 1 : Nat) : Int))],
          [.box 40 [.ro 1 (rowZ s), .ro 1 (rowR v)], .box 40 [.nils, .nils], .box 40 [.own 3 0 (rowZ s).length, .own 4 0 z.length], .row false 3 1 (rowZ s), .row false 9 1 z]⟩ : St)) (rowR_one (by omega)).symm)
      · repeat' first|refine sY ⟨?_⟩|(refine sq ?_ ?_<;>refine fun h=>⟨?_⟩<;>(first|contradiction|(exfalso;omega)|skip))|fail
        refine ⟨Nat.le_refl _, (show ((rowR (r.take i)).length + 1) * 16 ≤ 140737488355328 by omega), _, rowR_snoc (by omega), ?_⟩
        repeat' first|refine sY ⟨?_⟩|(refine sq ?_ ?_<;>refine fun h=>⟨?_⟩<;>(first|contradiction|(exfalso;omega)|skip))|fail
        all_goals exact ⟨[0, 1, 2, 3, 6], v.length - (i + 1), rfl, by omega, i + 1, by omega, rfl, .inr ⟨by omega, rfl⟩⟩
    · rcases hst with ⟨rfl, rfl⟩ | ⟨h0, rfl⟩
      · exact absurd hge (by omega)
      · repeat' first|refine sY ⟨?_⟩|(refine sq ?_ ?_<;>refine fun h=>⟨?_⟩<;>(first|contradiction|(exfalso;omega)|skip))|fail
        conv => whnf
        have e : r.take i = r := List.take_of_length_le (by omega)
        rw [e]
        exact ⟨_, .inl rfl, rfl⟩
  · repeat' first|refine sY ⟨?_⟩|(refine sq ?_ ?_<;>refine fun h=>⟨?_⟩<;>(first|contradiction|(exfalso;omega)|skip))|fail
    refine ⟨[1, 2, 4, 6, 16, 17, 18], [0, 1, 2], fun m st => ∃ i : Nat, i ≤ v.length ∧ m = v.length - i ∧
      ((i = 0 ∧ st = ⟨[(1, .fn f [.rp a, .rp b]), (2, .bptr 0 0), (4, .bptr 1 0), (6, .bptr 2 0), (16, .ro 1 (rowR v)), (17, .int .i64 ((rowR v).length : Nat)), (18, .int .i64 (i : Nat))],
        [.box 40 [.ro 1 (rowZ s), .ro 1 (rowR v)], .box 40 [.nils, .nils], .box 40 [.nils, .nils]]⟩) ∨
      (0 < i ∧ st = ⟨[(1, .fn f [.rp a, .rp b]), (2, .bptr 0 0), (4, .bptr 1 0), (6, .bptr 2 0), (16, .ro 1 (rowR v)), (17, .int .i64 ((rowR v).length : Nat)), (18, .int .i64 (i : Nat))],
        [.box 40 [.ro 1 (rowZ s), .ro 1 (rowR v)], .box 40 [.nils, .nils], .box 40 [.nils, .own 3 0 (rowR (r.take i)).length], .row false 9 1 (rowR (r.take i))]⟩)), rfl, ⟨v.length, 0, by omega, rfl, .inl ⟨rfl, rfl⟩⟩, ?_⟩
    rintro m _ ⟨i, hi, hm, hst⟩
    have hol : (rowR (r.take i)).length = i := by rw [rowR_length, List.length_take]; omega
    rcases Nat.lt_or_ge i v.length with hil | hge
    · have g : (rowR v)[i]? = some [.str (ratB v[i])] := rowR_get hil
      have hci := hc i hil
      rcases hst with ⟨rfl, rfl⟩ | ⟨h0, rfl⟩
      · repeat' first|refine sY ⟨?_⟩|(refine sq ?_ ?_<;>refine fun h=>⟨?_⟩<;>(first|contradiction|(exfalso;omega)|skip))|fail
        conv => whnf
        refine ⟨Nat.le_of_ble_eq_true rfl, fun h => Nat.succ_ne_zero _ (congrArg List.length h), ?_⟩
        repeat' first|refine sY ⟨?_⟩|(refine sq ?_ ?_<;>refine fun h=>⟨?_⟩<;>(first|contradiction|(exfalso;omega)|skip))|fail
        refine ⟨[0, 1, 2, 4], v.length - (0 + 1), rfl, by omega, 0 + 1, by omega, rfl, .inr ⟨by omega, ?_⟩⟩
        exact Eq.trans rfl (congrArg (fun z : List (List AV) => (⟨[(1, .fn f [.rp a, .rp b]), (2, .bptr 0 0), (4, .bptr 1 0), (6, .bptr 2 0), (16, .ro 1 (rowR v)), (17, .int .i64 ((rowR v).length : Nat)), (18, .int .i64 ((0 + 1 : Nat) : Int))],
          [.box 40 [.ro 1 (rowZ s), .ro 1 (rowR v)], .box 40 [.nils, .nils], .box 40 [.nils, .own 3 0 z.length], .row false 9 1 z]⟩ : St)) (rowR_one (by omega)).symm)
      · repeat' first|refine sY ⟨?_⟩|(refine sq ?_ ?_<;>refine fun h=>⟨?_⟩<;>(first|contradiction|(exfalso;omega)|skip))|fail
        refine ⟨Nat.le_refl _, (show ((rowR (r.take i)).length + 1) * 16 ≤ 140737488355328 by omega), _, rowR_snoc (by omega), ?_⟩
        repeat' first|refine sY ⟨?_⟩|(refine sq ?_ ?_<;>refine fun h=>⟨?_⟩<;>(first|contradiction|(exfalso;omega)|skip))|fail
        all_goals exact ⟨[0, 1, 2, 5], v.length - (i + 1), rfl, by omega, i + 1, by omega, rfl, .inr ⟨by omega, rfl⟩⟩
    · rcases hst with ⟨rfl, rfl⟩ | ⟨h0, rfl⟩
      · exact absurd hge (by omega)
      · repeat' first|refine sY ⟨?_⟩|(refine sq ?_ ?_<;>refine fun h=>⟨?_⟩<;>(first|contradiction|(exfalso;omega)|skip))|fail
        conv => whnf
        have e : r.take i = r := List.take_of_length_le (by omega)
        rw [e]
        exact ⟨_, .inr ⟨hs0, rfl⟩, rfl⟩
theorem flat_rowR {e sz : Nat} (v : List Rat) : Flat (.fr e sz (rowR v)) := by
  simp only [Flat, rowR, rowS, List.mem_map]
  rintro cs ⟨x, _, rfl⟩
  simp [FlatL, Flat]
theorem flat_rowZ {e sz : Nat} (l : List Int) : Flat (.fr e sz (rowZ l)) := by
  simp only [Flat, rowZ, List.mem_map]
  rintro cs ⟨x, _, rfl⟩
  simp [FlatL, Flat]
theorem flat_TF {s : List Int} {v : List Rat} {x : AV} (h : TF s v x) : Flat (.tup [x, .int .i64 0]) := by
  rcases h with rfl | ⟨_, rfl⟩
  · have h1 := flat_rowZ (e := 3) (sz := 1) s
    have h2 := flat_rowR (e := 9) (sz := 1) v
    simp only [Flat, FlatL] at h1 h2 ⊢; exact ⟨⟨h1, h2, trivial⟩, trivial, trivial⟩
  · have h2 := flat_rowR (e := 9) (sz := 1) v
    simp only [Flat, FlatL] at h2 ⊢; exact ⟨⟨trivial, h2, trivial⟩, trivial, trivial⟩
theorem c_tScale1 (i : Int) {x k : Rat} (hx : RS x) (hk : RS k) : VCall Go.Proofs.Tryz.prog GL 139 [.int .i64 i, .str (ratB x), .rp [.str (ratB k)]] (fun y => y = .tup [.str (ratB (x * k)), .int .i64 0]) := by
  have h := c_RMul hx hk
  refine vcall_of TOK_tScale1 HM Go.Proofs.Tryz.func139 rfl (by decide +kernel) (by decide +kernel) rfl ?_
  repeat' first|refine sY ⟨?_⟩|(refine sq ?_ ?_<;>refine fun h=>⟨?_⟩<;>(first|contradiction|(exfalso;omega)|skip))|fail
  all_goals (conv => whnf)
  all_goals rfl
theorem c_RRightV {k : Rat} (hk : RS k) : VCall Go.Proofs.Tryz.prog GL 32 [.str (ratB k)] (fun x => x = .bool true) := by
  have h := c_RRight (ratB k) (by have := hk.size; omega)
  rwa [(ratOK_ratB k).1] at h
theorem c_tScale {s : List Int} {v : List Rat} {k : Rat} (h : VT s v) (hk : RS k) : VCall Go.Proofs.Tryz.prog GL 91 [tenR s v, .str (ratB k)] (fun y => y = .tup [tenR s (v.map fun x => x * k), .int .i64 0]) := by
  have h1 := c_tRightV h
  have h2 := c_RRightV hk
  have h4 := c_teach1 139 [.str (ratB k)] s v (v.map fun x => x * k) (by have := h.sl; omega) (by have := h.vl; omega) (by simp)
    (fun i hi => by rw [List.getElem_map]; exact c_tScale1 _ (h.rs _ (List.getElem_mem hi)) hk)
  refine VCall.taken ?_
  refine vcall_of TOK_tScale HM Go.Proofs.Tryz.func91 rfl (by decide +kernel) (by decide +kernel) rfl ?_
  repeat' first|refine sY ⟨?_⟩|(refine sq ?_ ?_<;>refine fun h=>⟨?_⟩<;>(first|contradiction|(exfalso;omega)|skip))|fail
  conv => whnf
  rintro _ ⟨z, hz, rfl⟩
  have hfl := flat_TF hz
  rcases hz with rfl | ⟨hs0, rfl⟩
  · conv => whnf
    refine ⟨false, hfl, ?_⟩
    repeat' first|refine sY ⟨?_⟩|(refine sq ?_ ?_<;>refine fun h=>⟨?_⟩<;>(first|contradiction|(exfalso;omega)|skip))|fail
    conv => whnf
    exact ⟨_, roTo2 (roToA rfl rfl) rfl, rfl⟩
  · conv => whnf
    refine ⟨false, hfl, ?_⟩
    repeat' first|refine sY ⟨?_⟩|(refine sq ?_ ?_<;>refine fun h=>⟨?_⟩<;>(first|contradiction|(exfalso;omega)|skip))|fail
    conv => whnf
    exact ⟨_, roTo2 (roToA (show RoTo .nils (.ro 1 (rowZ s)) from ⟨1, by rw [hs0]; rfl⟩) rfl) rfl, rfl⟩
theorem c_tPower1 (i : Int) {x : Rat} (n : Nat) (hn : n ≤ 6) (hx : RS x) (hp : ∀ k, k ≤ n → RS (x ^ k)) : VCall Go.Proofs.Tryz.prog GL 140 [.int .i64 i, .str (ratB x), .rp [.int .i64 (n : Nat)]] (fun y => y = .tup [.str (ratB (x ^ n)), .int .i64 0]) := by
  have h := c_RPower n hn hp hx
  refine vcall_of TOK_tPower1 HM Go.Proofs.Tryz.func140 rfl (by decide +kernel) (by decide +kernel) rfl ?_
  repeat' first|refine sY ⟨?_⟩|(refine sq ?_ ?_<;>refine fun h=>⟨?_⟩<;>(first|contradiction|(exfalso;omega)|skip))|fail
  all_goals (conv => whnf)
  all_goals rfl
theorem c_tPower {s : List Int} {v : List Rat} (n : Nat) (hn : n ≤ 6) (h : VT s v) (hp : ∀ x ∈ v, ∀ k, k ≤ n → RS (x ^ k)) : VCall Go.Proofs.Tryz.prog GL 92 [tenR s v, .int .i64 (n : Nat)] (fun y => y = .tup [tenR s (v.map fun x => x ^ n), .int .i64 0]) := by
  have h1 := c_tRightV h
  have h4 := c_teach1 140 [.int .i64 (n : Nat)] s v (v.map fun x => x ^ n) (by have := h.sl; omega) (by have := h.vl; omega) (by simp)
    (fun i hi => by rw [List.getElem_map]; exact c_tPower1 _ n hn (h.rs _ (List.getElem_mem hi)) (hp _ (List.getElem_mem hi)))
  refine VCall.taken ?_
  refine vcall_of TOK_tPower HM Go.Proofs.Tryz.func92 rfl (by decide +kernel) (by decide +kernel) rfl ?_
  repeat' first|refine sY ⟨?_⟩|(refine sq ?_ ?_<;>refine fun h=>⟨?_⟩<;>(first|contradiction|(exfalso;omega)|skip))|fail
  conv => whnf
  rintro _ ⟨z, hz, rfl⟩
  have hfl := flat_TF hz
  rcases hz with rfl | ⟨hs0, rfl⟩
  · conv => whnf
    refine ⟨false, hfl, ?_⟩
    repeat' first|refine sY ⟨?_⟩|(refine sq ?_ ?_<;>refine fun h=>⟨?_⟩<;>(first|contradiction|(exfalso;omega)|skip))|fail
    conv => whnf
    exact ⟨_, roTo2 (roToA rfl rfl) rfl, rfl⟩
  · conv => whnf
    refine ⟨false, hfl, ?_⟩
    repeat' first|refine sY ⟨?_⟩|(refine sq ?_ ?_<;>refine fun h=>⟨?_⟩<;>(first|contradiction|(exfalso;omega)|skip))|fail
    conv => whnf
    exact ⟨_, roTo2 (roToA (show RoTo .nils (.ro 1 (rowZ s)) from ⟨1, by rw [hs0]; rfl⟩) rfl) rfl, rfl⟩
set_option maxHeartbeats 1000000 in
theorem c_tSum {s : List Int} {v : List Rat} (h : VT s v) (hs : ∀ k, k ≤ v.length → RS (sumR (v.take k))) : VCall Go.Proofs.Tryz.prog GL 36 [tenR s v] (fun y => y = .tup [.str (ratB (sumR v)), .int .i64 0]) := by
  have h1 := c_tRightV h
  have hvl := rowR_length v
  have hv := h.vl
  have hrs := h.rs
  unfold tenR at h1 ⊢
  refine vcall_of TOK_tSum HM Go.Proofs.Tryz.func36 rfl (by decide +kernel) (by decide +kernel) rfl ?_
  repeat' first|refine sY ⟨?_⟩|(refine sq ?_ ?_<;>refine fun h=>⟨?_⟩<;>(first|contradiction|(exfalso;omega)|skip))|fail
  refine ⟨[4, 11, 12, 13], [], fun m st => ∃ i : Nat, i ≤ v.length ∧ m = v.length - i ∧ st = ⟨[(4, .str (ratB (sumR (v.take i)))), (11, .ro 1 (rowR v)), (12, .int .i64 ((rowR v).length : Nat)), (13, .int .i64 (i : Nat))], []⟩, rfl,
    ⟨v.length, 0, by omega, rfl, Eq.trans rfl (congrArg (fun z : ByteArray => (⟨[(4, .str z), (11, .ro 1 (rowR v)), (12, .int .i64 ((rowR v).length : Nat)), (13, .int .i64 ((0 : Nat) : Int))], []⟩ : St)) (show (⟨#[48]⟩ : ByteArray) = ratB (sumR (v.take 0)) by rw [List.take_zero, sumR_nil, ratB_zero]))⟩, ?_⟩
  rintro m _ ⟨i, hi, hm, rfl⟩
  rcases Nat.lt_or_ge i v.length with hil | hge
  · have g : (rowR v)[i]? = some [.str (ratB v[i])] := rowR_get hil
    have ha := c_RAdd (hs i hi) (hrs v[i] (List.getElem_mem hil))
    rw [← sumR_take hil] at ha
    repeat' first|refine sY ⟨?_⟩|(refine sq ?_ ?_<;>refine fun h=>⟨?_⟩<;>(first|contradiction|(exfalso;omega)|skip))|fail
    all_goals exact ⟨[], v.length - (i + 1), rfl, by omega, i + 1, by omega, rfl, rfl⟩
  · have e : v.take i = v := List.take_of_length_le (by omega)
    rw [e]
    repeat' first|refine sY ⟨?_⟩|(refine sq ?_ ?_<;>refine fun h=>⟨?_⟩<;>(first|contradiction|(exfalso;omega)|skip))|fail
    all_goals (conv => whnf)
    all_goals rfl
end Go.V
namespace Go.V
open Go.N
set_option maxRecDepth 20000
def T_kOne : Tab := [(9, i9), (160, i160), (3, i3), (34, i34)]
theorem TOK_kOne : TOK Go.Proofs.Tryz.prog T_kOne := ⟨K9, ⟨K160, ⟨K3, ⟨K34, trivial⟩⟩⟩⟩
def T_kEach : Tab := [(40, i40), (4, i4), (33, i33), (3, i3), (34, i34), (9, i9), (160, i160)]
theorem TOK_kEach : TOK Go.Proofs.Tryz.prog T_kEach := ⟨K40, ⟨K4, ⟨K33, ⟨K3, ⟨K34, ⟨K9, ⟨K160, trivial⟩⟩⟩⟩⟩⟩⟩
def T_kRelu : Tab := [(40, i40), (160, i160)]
theorem TOK_kRelu : TOK Go.Proofs.Tryz.prog T_kRelu := ⟨K40, ⟨K160, trivial⟩⟩
def T_kAbs : Tab := [(40, i40), (160, i160)]
theorem TOK_kAbs : TOK Go.Proofs.Tryz.prog T_kAbs := ⟨K40, ⟨K160, trivial⟩⟩
def T_kStep : Tab := [(40, i40), (160, i160)]
theorem TOK_kStep : TOK Go.Proofs.Tryz.prog T_kStep := ⟨K40, ⟨K160, trivial⟩⟩
def T_kSign : Tab := [(40, i40), (160, i160)]
theorem TOK_kSign : TOK Go.Proofs.Tryz.prog T_kSign := ⟨K40, ⟨K160, trivial⟩⟩
def T_kBoth : Tab := [(40, i40), (4, i4), (33, i33), (3, i3), (34, i34), (9, i9)]
theorem TOK_kBoth : TOK Go.Proofs.Tryz.prog T_kBoth := ⟨K40, ⟨K4, ⟨K33, ⟨K3, ⟨K34, ⟨K9, trivial⟩⟩⟩⟩⟩⟩
def T_kMax : Tab := [(40, i40), (158, i158)]
theorem TOK_kMax : TOK Go.Proofs.Tryz.prog T_kMax := ⟨K40, ⟨K158, trivial⟩⟩
def T_kMax1 : Tab := []
theorem TOK_kMax1 : TOK Go.Proofs.Tryz.prog T_kMax1 := trivial
def T_kAbove : Tab := [(40, i40), (158, i158)]
theorem TOK_kAbove : TOK Go.Proofs.Tryz.prog T_kAbove := ⟨K40, ⟨K158, trivial⟩⟩
def T_kAbove1 : Tab := []
theorem TOK_kAbove1 : TOK Go.Proofs.Tryz.prog T_kAbove1 := trivial
def reluR (x : Rat) : Rat := if 0 < x.num then x else 0
def absR (x : Rat) : Rat := if 0 ≤ x.num then x else -x
def stepR (x : Rat) : Rat := if 0 < x.num then 1 else 0
def signR (x : Rat) : Rat := if x.num < 0 then -1 else if x.num = 0 then 0 else 1
def maxR (x y : Rat) : Rat := if 0 ≤ (x - y).num then x else y
def aboveR (x y : Rat) : Rat := if 0 ≤ (x - y).num then 1 else 0
theorem ratB_neg1 : ratB (-1) = ⟨#[45, 49]⟩ := by decide +kernel
theorem c_kRelu1 {x : Rat} (hx : RS x) : VCall Go.Proofs.Tryz.prog GL 173 [.int .i64 0, .str (ratB x)] (fun y => y = .str (ratB (reluR x))) := by
  have h := c_RSign hx
  rcases (by omega : x.num < 0 ∨ x.num = 0 ∨ 0 < x.num) with g | g | g
  · rw [show sg x.num = -1 by unfold sg; rw [if_pos g]] at h
    rw [reluR, if_neg (by omega), ratB_zero]
    refine vcall_of TOK_kOne HM Go.Proofs.Tryz.func173 rfl (by decide +kernel) (by decide +kernel) rfl ?_
    repeat' first|refine sY ⟨?_⟩|(refine sq ?_ ?_<;>refine fun h=>⟨?_⟩<;>(first|contradiction|(exfalso;omega)|skip))|fail
    all_goals (conv => whnf)
    all_goals rfl
  · rw [show sg x.num = 0 by unfold sg; rw [if_neg (by omega), if_pos g]] at h
    rw [reluR, if_neg (by omega), ratB_zero]
    refine vcall_of TOK_kOne HM Go.Proofs.Tryz.func173 rfl (by decide +kernel) (by decide +kernel) rfl ?_
    repeat' first|refine sY ⟨?_⟩|(refine sq ?_ ?_<;>refine fun h=>⟨?_⟩<;>(first|contradiction|(exfalso;omega)|skip))|fail
    all_goals (conv => whnf)
    all_goals rfl
  · rw [show sg x.num = 1 by unfold sg; rw [if_neg (by omega), if_neg (by omega)]] at h
    rw [reluR, if_pos (by omega)]
    refine vcall_of TOK_kOne HM Go.Proofs.Tryz.func173 rfl (by decide +kernel) (by decide +kernel) rfl ?_
    repeat' first|refine sY ⟨?_⟩|(refine sq ?_ ?_<;>refine fun h=>⟨?_⟩<;>(first|contradiction|(exfalso;omega)|skip))|fail
    all_goals (conv => whnf)
    all_goals rfl
theorem c_kAbs1 {x : Rat} (hx : RS x) : VCall Go.Proofs.Tryz.prog GL 173 [.int .i64 2, .str (ratB x)] (fun y => y = .str (ratB (absR x))) := by
  have h := c_RSign hx
  have hn := c_RNeg hx
  rcases (by omega : x.num < 0 ∨ x.num = 0 ∨ 0 < x.num) with g | g | g
  · rw [show sg x.num = -1 by unfold sg; rw [if_pos g]] at h
    rw [absR, if_neg (by omega)]
    refine vcall_of TOK_kOne HM Go.Proofs.Tryz.func173 rfl (by decide +kernel) (by decide +kernel) rfl ?_
    repeat' first|refine sY ⟨?_⟩|(refine sq ?_ ?_<;>refine fun h=>⟨?_⟩<;>(first|contradiction|(exfalso;omega)|skip))|fail
    all_goals (conv => whnf)
    all_goals rfl
  · rw [show sg x.num = 0 by unfold sg; rw [if_neg (by omega), if_pos g]] at h
    rw [absR, if_pos (by omega)]
    refine vcall_of TOK_kOne HM Go.Proofs.Tryz.func173 rfl (by decide +kernel) (by decide +kernel) rfl ?_
    repeat' first|refine sY ⟨?_⟩|(refine sq ?_ ?_<;>refine fun h=>⟨?_⟩<;>(first|contradiction|(exfalso;omega)|skip))|fail
    all_goals (conv => whnf)
    all_goals rfl
  · rw [show sg x.num = 1 by unfold sg; rw [if_neg (by omega), if_neg (by omega)]] at h
    rw [absR, if_pos (by omega)]
    refine vcall_of TOK_kOne HM Go.Proofs.Tryz.func173 rfl (by decide +kernel) (by decide +kernel) rfl ?_
    repeat' first|refine sY ⟨?_⟩|(refine sq ?_ ?_<;>refine fun h=>⟨?_⟩<;>(first|contradiction|(exfalso;omega)|skip))|fail
    all_goals (conv => whnf)
    all_goals rfl
set_option maxHeartbeats 1000000 in
theorem c_kStep1 {x : Rat} (hx : RS x) : VCall Go.Proofs.Tryz.prog GL 173 [.int .i64 1, .str (ratB x)] (fun y => y = .str (ratB (stepR x))) := by
  have h := c_RSign hx
  rcases (by omega : x.num < 0 ∨ x.num = 0 ∨ 0 < x.num) with g | g | g
  · rw [show sg x.num = -1 by unfold sg; rw [if_pos g]] at h
    rw [stepR, if_neg (by omega), ratB_zero]
    refine vcall_of TOK_kOne HM Go.Proofs.Tryz.func173 rfl (by decide +kernel) (by decide +kernel) rfl ?_
    repeat' first|refine sY ⟨?_⟩|(refine sq ?_ ?_<;>refine fun h=>⟨?_⟩<;>(first|contradiction|(exfalso;omega)|skip))|fail
    refine ⟨1, by decide, by decide, ?_⟩
    repeat' first|refine sY ⟨?_⟩|(refine sq ?_ ?_<;>refine fun h=>⟨?_⟩<;>(first|contradiction|(exfalso;omega)|skip))|fail
    refine ⟨_, rfl, ?_⟩
    repeat' first|refine sY ⟨?_⟩|(refine sq ?_ ?_<;>refine fun h=>⟨?_⟩<;>(first|contradiction|(exfalso;omega)|skip))|fail
    all_goals (conv => whnf)
    all_goals rfl
  · rw [show sg x.num = 0 by unfold sg; rw [if_neg (by omega), if_pos g]] at h
    rw [stepR, if_neg (by omega), ratB_zero]
    refine vcall_of TOK_kOne HM Go.Proofs.Tryz.func173 rfl (by decide +kernel) (by decide +kernel) rfl ?_
    repeat' first|refine sY ⟨?_⟩|(refine sq ?_ ?_<;>refine fun h=>⟨?_⟩<;>(first|contradiction|(exfalso;omega)|skip))|fail
    refine ⟨1, by decide, by decide, ?_⟩
    repeat' first|refine sY ⟨?_⟩|(refine sq ?_ ?_<;>refine fun h=>⟨?_⟩<;>(first|contradiction|(exfalso;omega)|skip))|fail
    refine ⟨_, rfl, ?_⟩
    repeat' first|refine sY ⟨?_⟩|(refine sq ?_ ?_<;>refine fun h=>⟨?_⟩<;>(first|contradiction|(exfalso;omega)|skip))|fail
    all_goals (conv => whnf)
    all_goals rfl
  · rw [show sg x.num = 1 by unfold sg; rw [if_neg (by omega), if_neg (by omega)]] at h
    rw [stepR, if_pos (by omega), ratB_one]
    refine vcall_of TOK_kOne HM Go.Proofs.Tryz.func173 rfl (by decide +kernel) (by decide +kernel) rfl ?_
    repeat' first|refine sY ⟨?_⟩|(refine sq ?_ ?_<;>refine fun h=>⟨?_⟩<;>(first|contradiction|(exfalso;omega)|skip))|fail
    refine ⟨2, by decide, by decide, ?_⟩
    repeat' first|refine sY ⟨?_⟩|(refine sq ?_ ?_<;>refine fun h=>⟨?_⟩<;>(first|contradiction|(exfalso;omega)|skip))|fail
    refine ⟨_, rfl, ?_⟩
    repeat' first|refine sY ⟨?_⟩|(refine sq ?_ ?_<;>refine fun h=>⟨?_⟩<;>(first|contradiction|(exfalso;omega)|skip))|fail
    all_goals (conv => whnf)
    all_goals rfl
set_option maxHeartbeats 1000000 in
theorem c_kSign1 {x : Rat} (hx : RS x) : VCall Go.Proofs.Tryz.prog GL 173 [.int .i64 3, .str (ratB x)] (fun y => y = .str (ratB (signR x))) := by
  have h := c_RSign hx
  rcases (by omega : x.num < 0 ∨ x.num = 0 ∨ 0 < x.num) with g | g | g
  · rw [show sg x.num = -1 by unfold sg; rw [if_pos g]] at h
    rw [signR, if_pos g, ratB_neg1]
    refine vcall_of TOK_kOne HM Go.Proofs.Tryz.func173 rfl (by decide +kernel) (by decide +kernel) rfl ?_
    repeat' first|refine sY ⟨?_⟩|(refine sq ?_ ?_<;>refine fun h=>⟨?_⟩<;>(first|contradiction|(exfalso;omega)|skip))|fail
    refine ⟨0, by decide, by decide, ?_⟩
    repeat' first|refine sY ⟨?_⟩|(refine sq ?_ ?_<;>refine fun h=>⟨?_⟩<;>(first|contradiction|(exfalso;omega)|skip))|fail
    refine ⟨_, rfl, ?_⟩
    repeat' first|refine sY ⟨?_⟩|(refine sq ?_ ?_<;>refine fun h=>⟨?_⟩<;>(first|contradiction|(exfalso;omega)|skip))|fail
    all_goals (conv => whnf)
    all_goals rfl
  · rw [show sg x.num = 0 by unfold sg; rw [if_neg (by omega), if_pos g]] at h
    rw [signR, if_neg (by omega), if_pos g, ratB_zero]
    refine vcall_of TOK_kOne HM Go.Proofs.Tryz.func173 rfl (by decide +kernel) (by decide +kernel) rfl ?_
    repeat' first|refine sY ⟨?_⟩|(refine sq ?_ ?_<;>refine fun h=>⟨?_⟩<;>(first|contradiction|(exfalso;omega)|skip))|fail
    refine ⟨1, by decide, by decide, ?_⟩
    repeat' first|refine sY ⟨?_⟩|(refine sq ?_ ?_<;>refine fun h=>⟨?_⟩<;>(first|contradiction|(exfalso;omega)|skip))|fail
    refine ⟨_, rfl, ?_⟩
    repeat' first|refine sY ⟨?_⟩|(refine sq ?_ ?_<;>refine fun h=>⟨?_⟩<;>(first|contradiction|(exfalso;omega)|skip))|fail
    all_goals (conv => whnf)
    all_goals rfl
  · rw [show sg x.num = 1 by unfold sg; rw [if_neg (by omega), if_neg (by omega)]] at h
    rw [signR, if_neg (by omega), if_neg (by omega), ratB_one]
    refine vcall_of TOK_kOne HM Go.Proofs.Tryz.func173 rfl (by decide +kernel) (by decide +kernel) rfl ?_
    repeat' first|refine sY ⟨?_⟩|(refine sq ?_ ?_<;>refine fun h=>⟨?_⟩<;>(first|contradiction|(exfalso;omega)|skip))|fail
    refine ⟨2, by decide, by decide, ?_⟩
    repeat' first|refine sY ⟨?_⟩|(refine sq ?_ ?_<;>refine fun h=>⟨?_⟩<;>(first|contradiction|(exfalso;omega)|skip))|fail
    refine ⟨_, rfl, ?_⟩
    repeat' first|refine sY ⟨?_⟩|(refine sq ?_ ?_<;>refine fun h=>⟨?_⟩<;>(first|contradiction|(exfalso;omega)|skip))|fail
    all_goals (conv => whnf)
    all_goals rfl
set_option maxHeartbeats 2000000 in
theorem c_kEach (k : Int) (F : Rat → Rat) {s : List Int} {v : List Rat} (h : VT s v) (hc : ∀ x, RS x → VCall Go.Proofs.Tryz.prog GL 173 [.int .i64 k, .str (ratB x)] (fun y => y = .str (ratB (F x)))) :
    VCall Go.Proofs.Tryz.prog GL 138 [.int .i64 k, tenR s v] (fun y => y = .tup [tenR s (v.map F), .int .i64 0]) := by
  have h1 := c_tRightV h
  have hv := h.vl
  have hrs := h.rs
  have hvl := rowR_length v
  have hcl := c_CloneR GL s (by have := h.sl; omega)
  unfold tenR at h1
  refine VCall.taken ?_
  show VCall _ _ _ _ (fun x => ∃ y, RoTo x y ∧ y = .tup [tenR s (v.map F), .int .i64 0])
  obtain ⟨r, hr⟩ : ∃ r, r = v.map F := ⟨_, rfl⟩
  rw [← hr]
  have hrl : r.length = v.length := by rw [hr, List.length_map]
  have hrg : ∀ i (hi : i < v.length), r[i]'(by omega) = F v[i] := fun i hi => by subst hr; exact List.getElem_map _
  clear hr
  refine vcall_of TOK_kEach HM Go.Proofs.Tryz.func138 rfl (by decide +kernel) (by decide +kernel) rfl ?_
  repeat' first|refine sY ⟨?_⟩|(refine sq ?_ ?_<;>refine fun h=>⟨?_⟩<;>(first|contradiction|(exfalso;omega)|skip))|fail
  refine ⟨[0, 4, 6, 18, 19, 20], [1, 2], fun m st => ∃ i : Nat, i ≤ v.length ∧ m = v.length - i ∧
    ((i = 0 ∧ st = ⟨[(0, .int .i64 k), (4, .bptr 0 0), (6, .bptr 1 0), (18, .ro 1 (rowR v)), (19, .int .i64 ((rowR v).length : Nat)), (20, .int .i64 (i : Nat))],
      [.box 40 [.nils, .nils], .box 40 [.ro 1 (rowZ s), .nils]]⟩) ∨
    (0 < i ∧ st = ⟨[(0, .int .i64 k), (4, .bptr 0 0), (6, .bptr 1 0), (18, .ro 1 (rowR v)), (19, .int .i64 ((rowR v).length : Nat)), (20, .int .i64 (i : Nat))],
      [.box 40 [.nils, .nils], .box 40 [.ro 1 (rowZ s), .own 2 0 (rowR (r.take i)).length], .row false 9 1 (rowR (r.take i))]⟩)), rfl, ⟨v.length, 0, by omega, rfl, .inl ⟨rfl, rfl⟩⟩, ?_⟩
  rintro m _ ⟨i, hi, hm, hst⟩
  have hol : (rowR (r.take i)).length = i := by rw [rowR_length, List.length_take]; omega
  rcases Nat.lt_or_ge i v.length with hil | hge
  · have g : (rowR v)[i]? = some [.str (ratB v[i])] := rowR_get hil
    have hci := hc v[i] (hrs _ (List.getElem_mem hil))
    rw [← hrg i hil] at hci
    rcases hst with ⟨rfl, rfl⟩ | ⟨h0, rfl⟩
    · repeat' first|refine sY ⟨?_⟩|(refine sq ?_ ?_<;>refine fun h=>⟨?_⟩<;>(first|contradiction|(exfalso;omega)|skip))|fail
      refine ⟨by decide +kernel, [0, 1, 0, 0, 12, 28, 63, 127, 255], by decide +kernel, ?_⟩
      repeat' first|refine sY ⟨?_⟩|(refine sq ?_ ?_<;>refine fun h=>⟨?_⟩<;>(first|contradiction|(exfalso;omega)|skip))|fail
      conv => whnf
      refine ⟨Nat.le_of_ble_eq_true rfl, fun h => Nat.succ_ne_zero _ (congrArg List.length h), ?_⟩
      repeat' first|refine sY ⟨?_⟩|(refine sq ?_ ?_<;>refine fun h=>⟨?_⟩<;>(first|contradiction|(exfalso;omega)|skip))|fail
      refine ⟨[0, 1, 3], v.length - (0 + 1), rfl, by omega, 0 + 1, by omega, rfl, .inr ⟨by omega, ?_⟩⟩
      exact Eq.trans rfl (congrArg (fun z : List (List AV) => (⟨[(0, .int .i64 k), (4, .bptr 0 0), (6, .bptr 1 0), (18, .ro 1 (rowR v)), (19, .int .i64 ((rowR v).length : Nat)), (20, .int .i64 ((0 + 1 : Nat) : Int))],
        [.box 40 [.nils, .nils], .box 40 [.ro 1 (rowZ s), .own 2 0 z.length], .row false 9 1 z]⟩ : St)) (rowR_one (by omega)).symm)
    · repeat' first|refine sY ⟨?_⟩|(refine sq ?_ ?_<;>refine fun h=>⟨?_⟩<;>(first|contradiction|(exfalso;omega)|skip))|fail
      refine ⟨by decide +kernel, [0, 1, 0, 0, 12, 28, 63, 127, 255], by decide +kernel, ?_⟩
      repeat' first|refine sY ⟨?_⟩|(refine sq ?_ ?_<;>refine fun h=>⟨?_⟩<;>(first|contradiction|(exfalso;omega)|skip))|fail
      refine ⟨Nat.le_refl _, (show ((rowR (r.take i)).length + 1) * 16 ≤ 140737488355328 by omega), _, rowR_snoc (by omega), ?_⟩
      repeat' first|refine sY ⟨?_⟩|(refine sq ?_ ?_<;>refine fun h=>⟨?_⟩<;>(first|contradiction|(exfalso;omega)|skip))|fail
      all_goals exact ⟨[0, 1, 4], v.length - (i + 1), rfl, by omega, i + 1, by omega, rfl, .inr ⟨by omega, rfl⟩⟩
  · rcases hst with ⟨rfl, rfl⟩ | ⟨h0, rfl⟩
    · exact absurd hge (by omega)
    · repeat' first|refine sY ⟨?_⟩|(refine sq ?_ ?_<;>refine fun h=>⟨?_⟩<;>(first|contradiction|(exfalso;omega)|skip))|fail
      conv => whnf
      have e : r.take i = r := List.take_of_length_le (by omega)
      rw [e]
      exact ⟨_, roTo2 (roToA rfl rfl) rfl, rfl⟩
theorem c_kRelu {s : List Int} {v : List Rat} (h : VT s v) : VCall Go.Proofs.Tryz.prog GL 87 [tenR s v] (fun y => y = .tup [tenR s (v.map reluR), .int .i64 0]) := by
  have hc := c_kEach 0 reluR h (fun x hx => c_kRelu1 hx)
  refine vcall_of TOK_kRelu HM Go.Proofs.Tryz.func87 rfl (by decide +kernel) (by decide +kernel) rfl ?_
  repeat' first|refine sY ⟨?_⟩|(refine sq ?_ ?_<;>refine fun h=>⟨?_⟩<;>(first|contradiction|(exfalso;omega)|skip))|fail
  all_goals (conv => whnf)
  all_goals rfl
theorem c_kAbs {s : List Int} {v : List Rat} (h : VT s v) : VCall Go.Proofs.Tryz.prog GL 88 [tenR s v] (fun y => y = .tup [tenR s (v.map absR), .int .i64 0]) := by
  have hc := c_kEach 2 absR h (fun x hx => c_kAbs1 hx)
  refine vcall_of TOK_kAbs HM Go.Proofs.Tryz.func88 rfl (by decide +kernel) (by decide +kernel) rfl ?_
  repeat' first|refine sY ⟨?_⟩|(refine sq ?_ ?_<;>refine fun h=>⟨?_⟩<;>(first|contradiction|(exfalso;omega)|skip))|fail
  all_goals (conv => whnf)
  all_goals rfl
theorem c_kStep {s : List Int} {v : List Rat} (h : VT s v) : VCall Go.Proofs.Tryz.prog GL 89 [tenR s v] (fun y => y = .tup [tenR s (v.map stepR), .int .i64 0]) := by
  have hc := c_kEach 1 stepR h (fun x hx => c_kStep1 hx)
  refine vcall_of TOK_kStep HM Go.Proofs.Tryz.func89 rfl (by decide +kernel) (by decide +kernel) rfl ?_
  repeat' first|refine sY ⟨?_⟩|(refine sq ?_ ?_<;>refine fun h=>⟨?_⟩<;>(first|contradiction|(exfalso;omega)|skip))|fail
  all_goals (conv => whnf)
  all_goals rfl
theorem c_kSign {s : List Int} {v : List Rat} (h : VT s v) : VCall Go.Proofs.Tryz.prog GL 90 [tenR s v] (fun y => y = .tup [tenR s (v.map signR), .int .i64 0]) := by
  have hc := c_kEach 3 signR h (fun x hx => c_kSign1 hx)
  refine vcall_of TOK_kSign HM Go.Proofs.Tryz.func90 rfl (by decide +kernel) (by decide +kernel) rfl ?_
  repeat' first|refine sY ⟨?_⟩|(refine sq ?_ ?_<;>refine fun h=>⟨?_⟩<;>(first|contradiction|(exfalso;omega)|skip))|fail
  all_goals (conv => whnf)
  all_goals rfl
set_option maxHeartbeats 4000000 in
theorem c_kBoth (f : FuncId) (G : Rat → Rat → Bool → Rat) {s : List Int} {a b : List Rat} (ha : VT s a) (hb : VT s b) (hd : ∀ i (h : i < a.length), RS (a[i] - b[i]'(by have := ha.len; have := hb.len; omega)))
    (hc : ∀ x y c, VCall Go.Proofs.Tryz.prog GL f [.str (ratB x), .str (ratB y), .bool c] (fun z => z = .str (ratB (G x y c)))) :
    VCall Go.Proofs.Tryz.prog GL 135 [tenR s a, tenR s b, .fn f []] (fun y => y = .tup [tenR s (List.zipWith (fun x y => G x y (decide (0 ≤ (x - y).num))) a b), .int .i64 0]) := by
  have h1 := c_tRightV ha
  have h2 := c_tRightV hb
  have h3 := c_shape_Same GL s s (by have := ha.sl; omega) (by have := ha.sl; omega)
  rw [decide_eq_true rfl] at h3
  have hv := ha.vl
  have hl : b.length = a.length := by have := ha.len; have := hb.len; omega
  have hvl := rowR_length a
  have hbl := rowR_length b
  have hcl := c_CloneR GL s (by have := ha.sl; omega)
  unfold tenR at h1 h2
  refine VCall.taken ?_
  obtain ⟨r, hr⟩ : ∃ r, r = List.zipWith (fun x y => G x y (decide (0 ≤ (x - y).num))) a b := ⟨_, rfl⟩
  rw [← hr]
  have hrl : r.length = a.length := by rw [hr, List.length_zipWith]; omega
  have hrg : ∀ i (hi : i < a.length), r[i]'(by omega) = G a[i] (b[i]'(by omega)) (decide (0 ≤ (a[i] - b[i]'(by omega)).num)) := fun i hi => by subst hr; exact List.getElem_zipWith ..
  clear hr
  refine vcall_of TOK_kBoth HM Go.Proofs.Tryz.func135 rfl (by decide +kernel) (by decide +kernel) rfl ?_
  repeat' first|refine sY ⟨?_⟩|(refine sq ?_ ?_<;>refine fun h=>⟨?_⟩<;>(first|contradiction|(exfalso;omega)|skip))|fail
  refine ⟨[2, 4, 6, 8, 36, 37, 38], [1, 2, 3], fun m st => ∃ i : Nat, i ≤ a.length ∧ m = a.length - i ∧
    ((i = 0 ∧ st = ⟨[(2, .fn f []), (4, .bptr 0 0), (6, .bptr 1 0), (8, .bptr 2 0), (36, .ro 1 (rowR a)), (37, .int .i64 ((rowR a).length : Nat)), (38, .int .i64 (i : Nat))],
      [.box 40 [.ro 1 (rowZ s), .ro 1 (rowR b)], .box 40 [.nils, .nils], .box 40 [.ro 1 (rowZ s), .nils]]⟩) ∨
    (0 < i ∧ st = ⟨[(2, .fn f []), (4, .bptr 0 0), (6, .bptr 1 0), (8, .bptr 2 0), (36, .ro 1 (rowR a)), (37, .int .i64 ((rowR a).length : Nat)), (38, .int .i64 (i : Nat))],
      [.box 40 [.ro 1 (rowZ s), .ro 1 (rowR b)], .box 40 [.nils, .nils], .box 40 [.ro 1 (rowZ s), .own 3 0 (rowR (r.take i)).length], .row false 9 1 (rowR (r.take i))]⟩)), rfl, ⟨a.length, 0, by omega, rfl, .inl ⟨rfl, rfl⟩⟩, ?_⟩
  rintro m _ ⟨i, hi, hm, hst⟩
  have hol : (rowR (r.take i)).length = i := by rw [rowR_length, List.length_take]; omega
  rcases Nat.lt_or_ge i a.length with hil | hge
  · have g : (rowR a)[i]? = some [.str (ratB a[i])] := rowR_get hil
    have g2 : (rowR b)[i]? = some [.str (ratB (b[i]'(by omega)))] := rowR_get (by omega)
    rcases hst with ⟨rfl, rfl⟩ | ⟨h0, rfl⟩
    · have hcm := c_RCompare (ha.rs a[0] (List.getElem_mem hil)) (hb.rs (b[0]'(by omega)) (List.getElem_mem _)) (hd 0 hil)
      have hrv := hrg 0 hil
      have hct := hc a[0] (b[0]'(by omega)) true
      have hcf := hc a[0] (b[0]'(by omega)) false
      generalize a[0] - b[0]'(by omega) = d at hcm hrv
      rcases (by omega : d.num < 0 ∨ d.num = 0 ∨ 0 < d.num) with k | k | k
      · rw [decide_eq_false (by omega)] at hrv
        rw [← hrv] at hcf
        rw [show sg d.num = -1 by unfold sg; rw [if_pos k]] at hcm
        repeat' first|refine sY ⟨?_⟩|(refine sq ?_ ?_<;>refine fun h=>⟨?_⟩<;>(first|contradiction|(exfalso;omega)|skip))|fail
        refine ⟨by decide +kernel, [0, 1, 0, 0, 0, 16, 0, 112, 240, 0, 512, 2044, 4092, 8191, 16383, 32767], by decide +kernel, ?_⟩
        repeat' first|refine sY ⟨?_⟩|(refine sq ?_ ?_<;>refine fun h=>⟨?_⟩<;>(first|contradiction|(exfalso;omega)|skip))|fail
        conv => whnf
        refine ⟨Nat.le_of_ble_eq_true rfl, fun h => Nat.succ_ne_zero _ (congrArg List.length h), ?_⟩
        repeat' first|refine sY ⟨?_⟩|(refine sq ?_ ?_<;>refine fun h=>⟨?_⟩<;>(first|contradiction|(exfalso;omega)|skip))|fail
        refine ⟨[0, 1, 2, 4], a.length - (0 + 1), rfl, by omega, 0 + 1, by omega, rfl, .inr ⟨by omega, ?_⟩⟩
        exact Eq.trans rfl (congrArg (fun z : List (List AV) => (⟨[(2, .fn f []), (4, .bptr 0 0), (6, .bptr 1 0), (8, .bptr 2 0), (36, .ro 1 (rowR a)), (37, .int .i64 ((rowR a).length : Nat)), (38, .int .i64 ((0 + 1 : Nat) : Int))],
          [.box 40 [.ro 1 (rowZ s), .ro 1 (rowR b)], .box 40 [.nils, .nils], .box 40 [.ro 1 (rowZ s), .own 3 0 z.length], .row false 9 1 z]⟩ : St)) (rowR_one (by omega)).symm)
      · rw [decide_eq_true (by omega)] at hrv
        rw [← hrv] at hct
        rw [show sg d.num = 0 by unfold sg; rw [if_neg (by omega), if_pos k]] at hcm
        repeat' first|refine sY ⟨?_⟩|(refine sq ?_ ?_<;>refine fun h=>⟨?_⟩<;>(first|contradiction|(exfalso;omega)|skip))|fail
        refine ⟨by decide +kernel, [0, 1, 0, 0, 0, 16, 0, 112, 240, 0, 512, 2044, 4092, 8191, 16383, 32767], by decide +kernel, ?_⟩
        repeat' first|refine sY ⟨?_⟩|(refine sq ?_ ?_<;>refine fun h=>⟨?_⟩<;>(first|contradiction|(exfalso;omega)|skip))|fail
        conv => whnf
        refine ⟨Nat.le_of_ble_eq_true rfl, fun h => Nat.succ_ne_zero _ (congrArg List.length h), ?_⟩
        repeat' first|refine sY ⟨?_⟩|(refine sq ?_ ?_<;>refine fun h=>⟨?_⟩<;>(first|contradiction|(exfalso;omega)|skip))|fail
        refine ⟨[0, 1, 2, 4], a.length - (0 + 1), rfl, by omega, 0 + 1, by omega, rfl, .inr ⟨by omega, ?_⟩⟩
        exact Eq.trans rfl (congrArg (fun z : List (List AV) => (⟨[(2, .fn f []), (4, .bptr 0 0), (6, .bptr 1 0), (8, .bptr 2 0), (36, .ro 1 (rowR a)), (37, .int .i64 ((rowR a).length : Nat)), (38, .int .i64 ((0 + 1 : Nat) : Int))],
          [.box 40 [.ro 1 (rowZ s), .ro 1 (rowR b)], .box 40 [.nils, .nils], .box 40 [.ro 1 (rowZ s), .own 3 0 z.length], .row false 9 1 z]⟩ : St)) (rowR_one (by omega)).symm)
      · rw [decide_eq_true (by omega)] at hrv
        rw [← hrv] at hct
        rw [show sg d.num = 1 by unfold sg; rw [if_neg (by omega), if_neg (by omega)]] at hcm
        repeat' first|refine sY ⟨?_⟩|(refine sq ?_ ?_<;>refine fun h=>⟨?_⟩<;>(first|contradiction|(exfalso;omega)|skip))|fail
        refine ⟨by decide +kernel, [0, 1, 0, 0, 0, 16, 0, 112, 240, 0, 512, 2044, 4092, 8191, 16383, 32767], by decide +kernel, ?_⟩
        repeat' first|refine sY ⟨?_⟩|(refine sq ?_ ?_<;>refine fun h=>⟨?_⟩<;>(first|contradiction|(exfalso;omega)|skip))|fail
        conv => whnf
        refine ⟨Nat.le_of_ble_eq_true rfl, fun h => Nat.succ_ne_zero _ (congrArg List.length h), ?_⟩
        repeat' first|refine sY ⟨?_⟩|(refine sq ?_ ?_<;>refine fun h=>⟨?_⟩<;>(first|contradiction|(exfalso;omega)|skip))|fail
        refine ⟨[0, 1, 2, 4], a.length - (0 + 1), rfl, by omega, 0 + 1, by omega, rfl, .inr ⟨by omega, ?_⟩⟩
        exact Eq.trans rfl (congrArg (fun z : List (List AV) => (⟨[(2, .fn f []), (4, .bptr 0 0), (6, .bptr 1 0), (8, .bptr 2 0), (36, .ro 1 (rowR a)), (37, .int .i64 ((rowR a).length : Nat)), (38, .int .i64 ((0 + 1 : Nat) : Int))],
          [.box 40 [.ro 1 (rowZ s), .ro 1 (rowR b)], .box 40 [.nils, .nils], .box 40 [.ro 1 (rowZ s), .own 3 0 z.length], .row false 9 1 z]⟩ : St)) (rowR_one (by omega)).symm)
    · have hcm := c_RCompare (ha.rs a[i] (List.getElem_mem hil)) (hb.rs (b[i]'(by omega)) (List.getElem_mem _)) (hd i hil)
      have hrv := hrg i hil
      have hct := hc a[i] (b[i]'(by omega)) true
      have hcf := hc a[i] (b[i]'(by omega)) false
      generalize a[i] - b[i]'(by omega) = d at hcm hrv
      rcases (by omega : d.num < 0 ∨ d.num = 0 ∨ 0 < d.num) with k | k | k
      · rw [decide_eq_false (by omega)] at hrv
        rw [← hrv] at hcf
        rw [show sg d.num = -1 by unfold sg; rw [if_pos k]] at hcm
        repeat' first|refine sY ⟨?_⟩|(refine sq ?_ ?_<;>refine fun h=>⟨?_⟩<;>(first|contradiction|(exfalso;omega)|skip))|fail
        refine ⟨by decide +kernel, [0, 1, 0, 0, 0, 16, 0, 112, 240, 0, 512, 2044, 4092, 8191, 16383, 32767], by decide +kernel, ?_⟩
        repeat' first|refine sY ⟨?_⟩|(refine sq ?_ ?_<;>refine fun h=>⟨?_⟩<;>(first|contradiction|(exfalso;omega)|skip))|fail
        refine ⟨Nat.le_refl _, (show ((rowR (r.take i)).length + 1) * 16 ≤ 140737488355328 by omega), _, rowR_snoc (by omega), ?_⟩
        repeat' first|refine sY ⟨?_⟩|(refine sq ?_ ?_<;>refine fun h=>⟨?_⟩<;>(first|contradiction|(exfalso;omega)|skip))|fail
        all_goals exact ⟨[0, 1, 2, 5], a.length - (i + 1), rfl, by omega, i + 1, by omega, rfl, .inr ⟨by omega, rfl⟩⟩
      · rw [decide_eq_true (by omega)] at hrv
        rw [← hrv] at hct
        rw [show sg d.num = 0 by unfold sg; rw [if_neg (by omega), if_pos k]] at hcm
        repeat' first|refine sY ⟨?_⟩|(refine sq ?_ ?_<;>refine fun h=>⟨?_⟩<;>(first|contradiction|(exfalso;omega)|skip))|fail
        refine ⟨by decide +kernel, [0, 1, 0, 0, 0, 16, 0, 112, 240, 0, 512, 2044, 4092, 8191, 16383, 32767], by decide +kernel, ?_⟩
        repeat' first|refine sY ⟨?_⟩|(refine sq ?_ ?_<;>refine fun h=>⟨?_⟩<;>(first|contradiction|(exfalso;omega)|skip))|fail
        refine ⟨Nat.le_refl _, (show ((rowR (r.take i)).length + 1) * 16 ≤ 140737488355328 by omega), _, rowR_snoc (by omega), ?_⟩
        repeat' first|refine sY ⟨?_⟩|(refine sq ?_ ?_<;>refine fun h=>⟨?_⟩<;>(first|contradiction|(exfalso;omega)|skip))|fail
        all_goals exact ⟨[0, 1, 2, 5], a.length - (i + 1), rfl, by omega, i + 1, by omega, rfl, .inr ⟨by omega, rfl⟩⟩
      · rw [decide_eq_true (by omega)] at hrv
        rw [← hrv] at hct
        rw [show sg d.num = 1 by unfold sg; rw [if_neg (by omega), if_neg (by omega)]] at hcm
        repeat' first|refine sY ⟨?_⟩|(refine sq ?_ ?_<;>refine fun h=>⟨?_⟩<;>(first|contradiction|(exfalso;omega)|skip))|fail
        refine ⟨by decide +kernel, [0, 1, 0, 0, 0, 16, 0, 112, 240, 0, 512, 2044, 4092, 8191, 16383, 32767], by decide +kernel, ?_⟩
        repeat' first|refine sY ⟨?_⟩|(refine sq ?_ ?_<;>refine fun h=>⟨?_⟩<;>(first|contradiction|(exfalso;omega)|skip))|fail
        refine ⟨Nat.le_refl _, (show ((rowR (r.take i)).length + 1) * 16 ≤ 140737488355328 by omega), _, rowR_snoc (by omega), ?_⟩
        repeat' first|refine sY ⟨?_⟩|(refine sq ?_ ?_<;>refine fun h=>⟨?_⟩<;>(first|contradiction|(exfalso;omega)|skip))|fail
        all_goals exact ⟨[0, 1, 2, 5], a.length - (i + 1), rfl, by omega, i + 1, by omega, rfl, .inr ⟨by omega, rfl⟩⟩
  · rcases hst with ⟨rfl, rfl⟩ | ⟨h0, rfl⟩
    · exact absurd hge (by omega)
    · repeat' first|refine sY ⟨?_⟩|(refine sq ?_ ?_<;>refine fun h=>⟨?_⟩<;>(first|contradiction|(exfalso;omega)|skip))|fail
      conv => whnf
      have e : r.take i = r := List.take_of_length_le (by omega)
      rw [e]
      exact ⟨_, roTo2 (roToA rfl rfl) rfl, rfl⟩
theorem c_kMax1 (x y : Rat) (c : Bool) : VCall Go.Proofs.Tryz.prog GL 136 [.str (ratB x), .str (ratB y), .bool c] (fun z => z = .str (ratB (if c = true then x else y))) := by
  cases c
  · refine vcall_of TOK_kMax1 HM Go.Proofs.Tryz.func136 rfl (by decide +kernel) (by decide +kernel) rfl ?_
    repeat' first|refine sY ⟨?_⟩|(refine sq ?_ ?_<;>refine fun h=>⟨?_⟩<;>(first|contradiction|(exfalso;omega)|skip))|fail
    all_goals (conv => whnf)
    all_goals rfl
  · refine vcall_of TOK_kMax1 HM Go.Proofs.Tryz.func136 rfl (by decide +kernel) (by decide +kernel) rfl ?_
    repeat' first|refine sY ⟨?_⟩|(refine sq ?_ ?_<;>refine fun h=>⟨?_⟩<;>(first|contradiction|(exfalso;omega)|skip))|fail
    all_goals (conv => whnf)
    all_goals rfl
theorem c_kAbove1 (x y : Rat) (c : Bool) : VCall Go.Proofs.Tryz.prog GL 137 [.str (ratB x), .str (ratB y), .bool c] (fun z => z = .str (ratB (if c = true then 1 else 0))) := by
  cases c
  · rw [if_neg (by simp), ratB_zero]
    refine vcall_of TOK_kAbove1 HM Go.Proofs.Tryz.func137 rfl (by decide +kernel) (by decide +kernel) rfl ?_
    repeat' first|refine sY ⟨?_⟩|(refine sq ?_ ?_<;>refine fun h=>⟨?_⟩<;>(first|contradiction|(exfalso;omega)|skip))|fail
    all_goals (conv => whnf)
    all_goals rfl
  · rw [if_pos rfl, ratB_one]
    refine vcall_of TOK_kAbove1 HM Go.Proofs.Tryz.func137 rfl (by decide +kernel) (by decide +kernel) rfl ?_
    repeat' first|refine sY ⟨?_⟩|(refine sq ?_ ?_<;>refine fun h=>⟨?_⟩<;>(first|contradiction|(exfalso;omega)|skip))|fail
    all_goals (conv => whnf)
    all_goals rfl
theorem c_kMax {s : List Int} {a b : List Rat} (ha : VT s a) (hb : VT s b) (hd : ∀ i (h : i < a.length), RS (a[i] - b[i]'(by have := ha.len; have := hb.len; omega))) :
    VCall Go.Proofs.Tryz.prog GL 84 [tenR s a, tenR s b] (fun y => y = .tup [tenR s (List.zipWith maxR a b), .int .i64 0]) := by
  have h := c_kBoth 136 (fun x y c => if c = true then x else y) ha hb hd c_kMax1
  simp only [decide_eq_true_eq] at h
  change VCall _ _ _ _ (fun y => y = .tup [tenR s (List.zipWith maxR a b), .int .i64 0]) at h
  refine vcall_of TOK_kMax HM Go.Proofs.Tryz.func84 rfl (by decide +kernel) (by decide +kernel) rfl ?_
  repeat' first|refine sY ⟨?_⟩|(refine sq ?_ ?_<;>refine fun h=>⟨?_⟩<;>(first|contradiction|(exfalso;omega)|skip))|fail
  all_goals (conv => whnf)
  all_goals rfl
theorem c_kAbove {s : List Int} {a b : List Rat} (ha : VT s a) (hb : VT s b) (hd : ∀ i (h : i < a.length), RS (a[i] - b[i]'(by have := ha.len; have := hb.len; omega))) :
    VCall Go.Proofs.Tryz.prog GL 85 [tenR s a, tenR s b] (fun y => y = .tup [tenR s (List.zipWith aboveR a b), .int .i64 0]) := by
  have h := c_kBoth 137 (fun x y c => if c = true then 1 else 0) ha hb hd c_kAbove1
  simp only [decide_eq_true_eq] at h
  change VCall _ _ _ _ (fun y => y = .tup [tenR s (List.zipWith aboveR a b), .int .i64 0]) at h
  refine vcall_of TOK_kAbove HM Go.Proofs.Tryz.func85 rfl (by decide +kernel) (by decide +kernel) rfl ?_
  repeat' first|refine sY ⟨?_⟩|(refine sq ?_ ?_<;>refine fun h=>⟨?_⟩<;>(first|contradiction|(exfalso;omega)|skip))|fail
  all_goals (conv => whnf)
  all_goals rfl
end Go.V
namespace Go.V
open Go.N
set_option maxRecDepth 20000
def T_aMatMul : Tab := [(40, i40), (4, i4), (33, i33), (3, i3), (34, i34), (9, i9)]
theorem TOK_aMatMul : TOK Go.Proofs.Tryz.prog T_aMatMul := ⟨K40, ⟨K4, ⟨K33, ⟨K3, ⟨K34, ⟨K9, trivial⟩⟩⟩⟩⟩⟩
def atR (l : List Rat) (i : Nat) : Rat := l[i]?.getD 0
theorem atR_get {l : List Rat} {i : Nat} (h : i < l.length) : l[i] = atR l i := by simp [atR, h]
theorem rowR_at {l : List Rat} {i : Nat} (h : i < l.length) : (rowR l)[i]? = some [.str (ratB (atR l i))] := by rw [rowR_get h, atR_get h]
def termsV (q c : Nat) (a b : List Rat) (i k : Nat) : List Rat := (List.range q).map fun j => atR a (i * q + j) * atR b (j * c + k)
theorem termsV_len (q c : Nat) (a b : List Rat) (i k : Nat) : (termsV q c a b i k).length = q := by simp [termsV]
theorem termsV_get {q c : Nat} {a b : List Rat} {i k j : Nat} (h : j < (termsV q c a b i k).length) : (termsV q c a b i k)[j] = atR a (i * q + j) * atR b (j * c + k) := by simp [termsV]
def matV (p q c : Nat) (a b : List Rat) : List Rat := (List.range (p * c)).map fun n => sumR (termsV q c a b (n / c) (n % c))
theorem matV_len (p q c : Nat) (a b : List Rat) : (matV p q c a b).length = p * c := by simp [matV]
theorem idx_lt {i p k c : Nat} (hi : i < p) (hk : k < c) : i * c + k < p * c := by
  have h1 : (i + 1) * c ≤ p * c := Nat.mul_le_mul_right _ hi
  rw [Nat.add_mul] at h1; omega
theorem idx_div {i k c : Nat} (hk : k < c) : (i * c + k) / c = i ∧ (i * c + k) % c = k := by
  have hc : 0 < c := by omega
  rw [Nat.add_comm, Nat.mul_comm]
  exact ⟨by rw [Nat.add_mul_div_left _ _ hc, Nat.div_eq_of_lt hk, Nat.zero_add], by rw [Nat.add_mul_mod_self_left, Nat.mod_eq_of_lt hk]⟩
theorem matV_get {p q c : Nat} {a b : List Rat} {i k : Nat} (hi : i < p) (hk : k < c) : (matV p q c a b)[i * c + k]'(by rw [matV_len]; exact idx_lt hi hk) = sumR (termsV q c a b i k) := by
  simp [matV, idx_div hk]
theorem VT2 {p q : Nat} {a : List Rat} (h : VT [(p : Int), (q : Int)] a) : 1 ≤ p ∧ p ≤ 64 ∧ 1 ≤ q ∧ q ≤ 64 ∧ a.length = p * q := by
  have h1 := okShape_dim h.ok p (by simp)
  have h2 := okShape_dim h.ok q (by simp)
  have h3 := h.len
  simp only [prodZ, List.foldl_cons, List.foldl_nil, Int.one_mul] at h3
  rw [← Int.natCast_mul] at h3
  omega
set_option maxHeartbeats 8000000 in
theorem c_aMatMul (p q c : Nat) {a b : List Rat} (ha : VT [(p : Int), (q : Int)] a) (hb : VT [(q : Int), (c : Int)] b) (hok : okShape [(p : Int), (c : Int)] = true)
    (hm : ∀ i k j, i < p → k < c → j < q → RS (atR a (i * q + j) * atR b (j * c + k))) (hs : ∀ i k j, i < p → k < c → j ≤ q → RS (sumR ((termsV q c a b i k).take j))) :
    VCall Go.Proofs.Tryz.prog GL 86 [tenR [(p : Int), (q : Int)] a, tenR [(q : Int), (c : Int)] b] (fun y => y = .tup [tenR [(p : Int), (c : Int)] (matV p q c a b), .int .i64 0]) := by
  have h1 := c_tRightV ha
  have h2 := c_tRightV hb
  obtain ⟨p1, p2, q1, q2, hal⟩ := VT2 ha
  obtain ⟨_, _, c1, c2, hbl⟩ := VT2 hb
  have hra := ha.rs
  have hrb := hb.rs
  have h3 := c_shape_Right GL [(p : Int), (c : Int)] (by simp)
  rw [hok] at h3
  have hpc : p * c ≤ 4096 := Nat.mul_le_mul p2 c2
  unfold tenR at h1 h2
  refine VCall.taken ?_
  obtain ⟨r, hr⟩ : ∃ r, r = matV p q c a b := ⟨_, rfl⟩
  rw [← hr]
  have hrl : r.length = p * c := by rw [hr, matV_len]
  have hrg : ∀ i k (hi : i < p) (hk : k < c), r[i * c + k]'(by rw [hrl]; exact idx_lt hi hk) = sumR (termsV q c a b i k) := fun i k hi hk => by subst hr; exact matV_get hi hk
  clear hr
  refine vcall_of TOK_aMatMul HM Go.Proofs.Tryz.func86 rfl (by decide +kernel) (by decide +kernel) rfl ?_
  repeat' first|refine sY ⟨?_⟩|(refine sq ?_ ?_<;>refine fun h=>⟨?_⟩<;>(first|contradiction|(exfalso;omega)|skip))|fail
  refine ⟨by decide +kernel, [0, 1, 3, 7, 15, 31, 63, 127, 255, 511, 1023, 2047, 4095, 8191, 16383, 2047, 34815, 100351, 231423, 524287, 1048575], by decide +kernel, ?_⟩
  repeat' first|refine sY ⟨?_⟩|(refine sq ?_ ?_<;>refine fun h=>⟨?_⟩<;>(first|contradiction|(exfalso;omega)|skip))|fail
  refine ⟨by decide +kernel, [0, 1, 3, 7, 0, 16, 48, 112, 0, 256, 768, 1792, 15, 4351, 16383], by decide +kernel, ?_⟩
  repeat' first|refine sY ⟨?_⟩|(refine sq ?_ ?_<;>refine fun h=>⟨?_⟩<;>(first|contradiction|(exfalso;omega)|skip))|fail
  refine ⟨[2, 3, 4, 7, 8, 9, 68, 69], [0, 1, 2, 4, 3], fun m st => ∃ i : Nat, i ≤ p ∧ m = p - i ∧ ((i * c = 0 ∧ st = ⟨[(2, .bptr 0 0), (3, .bptr 1 0), (4, .bptr 2 0), (7, .int .i64 (q : Nat)), (8, .int .i64 (c : Nat)), (9, .bptr 3 0), (68, .int .i64 (p : Nat)), (69, .int .i64 (i : Nat))], [.box 40 [.ro 1 (rowZ [(p : Int), (q : Int)]), .ro 1 (rowR a)], .box 40 [.ro 1 (rowZ [(q : Int), (c : Int)]), .ro 1 (rowR b)], .box 40 [.nils, .nils], .box 40 [.own 4 0 2, .nils], .row false 3 1 (rowZ [(p : Int), (c : Int)])]⟩) ∨ (0 < i * c ∧ st = ⟨[(2, .bptr 0 0), (3, .bptr 1 0), (4, .bptr 2 0), (7, .int .i64 (q : Nat)), (8, .int .i64 (c : Nat)), (9, .bptr 3 0), (68, .int .i64 (p : Nat)), (69, .int .i64 (i : Nat))], [.box 40 [.ro 1 (rowZ [(p : Int), (q : Int)]), .ro 1 (rowR a)], .box 40 [.ro 1 (rowZ [(q : Int), (c : Int)]), .ro 1 (rowR b)], .box 40 [.nils, .nils], .box 40 [.own 4 0 2, .own 5 0 (rowR (r.take (i * c))).length], .row false 3 1 (rowZ [(p : Int), (c : Int)]), .row false 9 1 (rowR (r.take (i * c)))]⟩)), rfl, ⟨p, 0, by omega, rfl, .inl ⟨by omega, rfl⟩⟩, ?_⟩
  rintro m _ ⟨i, hi, hm0, hst⟩
  have hic : i * c ≤ p * c := Nat.mul_le_mul_right _ hi
  have hol : (rowR (r.take (i * c))).length = i * c := by rw [rowR_length, List.length_take]; omega
  rcases Nat.lt_or_ge i p with hil | hge
  · have hst2 : True := trivial
    rcases hst with ⟨h0, rfl⟩ | ⟨h0, rfl⟩
    all_goals (repeat' first|refine sY ⟨?_⟩|(refine sq ?_ ?_<;>refine fun h=>⟨?_⟩<;>(first|contradiction|(exfalso;omega)|skip))|fail)
    all_goals first
      | refine ⟨[2, 3, 4, 7, 8, 9, 10, 68, 69, 72, 73], [0, 1, 2, 3, 4, 5], fun m st => ∃ k : Nat, k ≤ c ∧ m = c - k ∧ ((i * c + k = 0 ∧ st = ⟨[(2, .bptr 0 0), (3, .bptr 1 0), (4, .bptr 2 0), (7, .int .i64 (q : Nat)), (8, .int .i64 (c : Nat)), (9, .bptr 3 0), (10, .int .i64 (i : Nat)), (68, .int .i64 (p : Nat)), (69, .int .i64 (i : Nat)), (72, .int .i64 (c : Nat)), (73, .int .i64 (k : Nat))], [.box 40 [.ro 1 (rowZ [(p : Int), (q : Int)]), .ro 1 (rowR a)], .box 40 [.ro 1 (rowZ [(q : Int), (c : Int)]), .ro 1 (rowR b)], .box 40 [.nils, .nils], .box 40 [.own 4 0 2, .nils], .row false 3 1 (rowZ [(p : Int), (c : Int)])]⟩) ∨ (0 < i * c + k ∧ st = ⟨[(2, .bptr 0 0), (3, .bptr 1 0), (4, .bptr 2 0), (7, .int .i64 (q : Nat)), (8, .int .i64 (c : Nat)), (9, .bptr 3 0), (10, .int .i64 (i : Nat)), (68, .int .i64 (p : Nat)), (69, .int .i64 (i : Nat)), (72, .int .i64 (c : Nat)), (73, .int .i64 (k : Nat))], [.box 40 [.ro 1 (rowZ [(p : Int), (q : Int)]), .ro 1 (rowR a)], .box 40 [.ro 1 (rowZ [(q : Int), (c : Int)]), .ro 1 (rowR b)], .box 40 [.nils, .nils], .box 40 [.own 4 0 2, .own 5 0 (rowR (r.take (i * c + k))).length], .row false 3 1 (rowZ [(p : Int), (c : Int)]), .row false 9 1 (rowR (r.take (i * c + k)))]⟩)), rfl, ⟨c, 0, by omega, rfl, .inr ⟨by omega, rfl⟩⟩, ?_⟩
      | refine ⟨[2, 3, 4, 7, 8, 9, 10, 68, 69, 72, 73], [0, 1, 2, 3, 4], fun m st => ∃ k : Nat, k ≤ c ∧ m = c - k ∧ ((i * c + k = 0 ∧ st = ⟨[(2, .bptr 0 0), (3, .bptr 1 0), (4, .bptr 2 0), (7, .int .i64 (q : Nat)), (8, .int .i64 (c : Nat)), (9, .bptr 3 0), (10, .int .i64 (i : Nat)), (68, .int .i64 (p : Nat)), (69, .int .i64 (i : Nat)), (72, .int .i64 (c : Nat)), (73, .int .i64 (k : Nat))], [.box 40 [.ro 1 (rowZ [(p : Int), (q : Int)]), .ro 1 (rowR a)], .box 40 [.ro 1 (rowZ [(q : Int), (c : Int)]), .ro 1 (rowR b)], .box 40 [.nils, .nils], .box 40 [.own 4 0 2, .nils], .row false 3 1 (rowZ [(p : Int), (c : Int)])]⟩) ∨ (0 < i * c + k ∧ st = ⟨[(2, .bptr 0 0), (3, .bptr 1 0), (4, .bptr 2 0), (7, .int .i64 (q : Nat)), (8, .int .i64 (c : Nat)), (9, .bptr 3 0), (10, .int .i64 (i : Nat)), (68, .int .i64 (p : Nat)), (69, .int .i64 (i : Nat)), (72, .int .i64 (c : Nat)), (73, .int .i64 (k : Nat))], [.box 40 [.ro 1 (rowZ [(p : Int), (q : Int)]), .ro 1 (rowR a)], .box 40 [.ro 1 (rowZ [(q : Int), (c : Int)]), .ro 1 (rowR b)], .box 40 [.nils, .nils], .box 40 [.own 4 0 2, .own 5 0 (rowR (r.take (i * c + k))).length], .row false 3 1 (rowZ [(p : Int), (c : Int)]), .row false 9 1 (rowR (r.take (i * c + k)))]⟩)), rfl, ⟨c, 0, by omega, rfl, .inl ⟨by omega, rfl⟩⟩, ?_⟩
    all_goals rintro m2 _ ⟨k, hk, hm2, hst⟩
    all_goals (
      have hn : i * c + k ≤ p * c := by have := idx_lt (p := p) (c := c + 1) hil (show k < c + 1 by omega); rw [Nat.mul_add, Nat.mul_add] at this; have h9 : (i + 1) * c ≤ p * c := Nat.mul_le_mul_right _ hil; rw [Nat.add_mul] at h9; omega
      have hol2 : (rowR (r.take (i * c + k))).length = i * c + k := by rw [rowR_length, List.length_take]; omega
      rcases Nat.lt_or_ge k c with hkl | hkge
      · have hrv := hrg i k hil hkl
        have hix := idx_lt hil hkl
        rcases hst with ⟨h1, rfl⟩ | ⟨h1, rfl⟩
        · first
          | (exfalso; omega)
          | (
            repeat' first|refine sY ⟨?_⟩|(refine sq ?_ ?_<;>refine fun h=>⟨?_⟩<;>(first|contradiction|(exfalso;omega)|skip))|fail
            refine ⟨[2, 3, 4, 7, 8, 9, 10, 11, 12, 68, 69, 72, 73, 76, 77], [0, 1, 2, 3, 4], fun m st => ∃ j : Nat, j ≤ q ∧ m = q - j ∧ st = ⟨[(2, .bptr 0 0), (3, .bptr 1 0), (4, .bptr 2 0), (7, .int .i64 (q : Nat)), (8, .int .i64 (c : Nat)), (9, .bptr 3 0), (10, .int .i64 (i : Nat)), (11, .int .i64 (k : Nat)), (12, .str (ratB (sumR ((termsV q c a b i k).take j)))), (68, .int .i64 (p : Nat)), (69, .int .i64 (i : Nat)), (72, .int .i64 (c : Nat)), (73, .int .i64 (k : Nat)), (76, .int .i64 (q : Nat)), (77, .int .i64 (j : Nat))], [.box 40 [.ro 1 (rowZ [(p : Int), (q : Int)]), .ro 1 (rowR a)], .box 40 [.ro 1 (rowZ [(q : Int), (c : Int)]), .ro 1 (rowR b)], .box 40 [.nils, .nils], .box 40 [.own 4 0 2, .nils], .row false 3 1 (rowZ [(p : Int), (c : Int)])]⟩, rfl, ⟨q, 0, by omega, rfl, Eq.trans rfl (congrArg (fun z : ByteArray => (⟨[(2, .bptr 0 0), (3, .bptr 1 0), (4, .bptr 2 0), (7, .int .i64 (q : Nat)), (8, .int .i64 (c : Nat)), (9, .bptr 3 0), (10, .int .i64 (i : Nat)), (11, .int .i64 (k : Nat)), (12, .str (z)), (68, .int .i64 (p : Nat)), (69, .int .i64 (i : Nat)), (72, .int .i64 (c : Nat)), (73, .int .i64 (k : Nat)), (76, .int .i64 (q : Nat)), (77, .int .i64 (0 : Nat))], [.box 40 [.ro 1 (rowZ [(p : Int), (q : Int)]), .ro 1 (rowR a)], .box 40 [.ro 1 (rowZ [(q : Int), (c : Int)]), .ro 1 (rowR b)], .box 40 [.nils, .nils], .box 40 [.own 4 0 2, .nils], .row false 3 1 (rowZ [(p : Int), (c : Int)])]⟩ : St)) (show (⟨#[48]⟩ : ByteArray) = ratB (sumR ((termsV q c a b i k).take 0)) by rw [List.take_zero, sumR_nil, ratB_zero]))⟩, ?_⟩
            rintro m3 _ ⟨j, hj, hm3, rfl⟩
            rcases Nat.lt_or_ge j q with hjl | hjge
            · have hA := idx_lt hil hjl
              have hB := idx_lt hjl hkl
              have gA := rowR_at (l := a) (i := i * q + j) (by omega)
              have gB := rowR_at (l := b) (i := j * c + k) (by omega)
              have hpq : p * q ≤ 4096 := Nat.mul_le_mul p2 q2
              have hqc : q * c ≤ 4096 := Nat.mul_le_mul q2 c2
              have e1 : (i : Int) * (q : Int) = ((i * q : Nat) : Int) := by simp
              have e2 : (j : Int) * (c : Int) = ((j * c : Nat) : Int) := by simp
              have b1 : 0 ≤ (i : Int) * (q : Int) ∧ (i : Int) * (q : Int) ≤ 4096 := by rw [e1]; omega
              have b2 : 0 ≤ (j : Int) * (c : Int) ∧ (j : Int) * (c : Int) ≤ 4096 := by rw [e2]; omega
              have hRm := c_RMul (x := atR a (i * q + j)) (y := atR b (j * c + k)) (by rw [← atR_get (by omega)]; exact hra _ (List.getElem_mem _)) (by rw [← atR_get (by omega)]; exact hrb _ (List.getElem_mem _))
              have hRa := c_RAdd (hs i k j hil hkl (by omega)) (hm i k j hil hkl hjl)
              rw [← termsV_get (by rw [termsV_len]; exact hjl), ← sumR_take] at hRa
              rw [← termsV_get (by rw [termsV_len]; exact hjl)] at hRm
              repeat' first|refine sY ⟨?_⟩|(refine sq ?_ ?_<;>refine fun h=>⟨?_⟩<;>(first|contradiction|(exfalso;omega)|skip))|fail
              refine ⟨by decide +kernel, [0, 1, 0, 0, 12, 0, 60, 127, 255, 0, 512, 0, 0, 6144, 0, 30720, 65024, 130560, 262143, 524287, 1048575, 1048575, 2097151, 8388607], by decide +kernel, ?_⟩
              repeat' first|refine sY ⟨?_⟩|(refine sq ?_ ?_<;>refine fun h=>⟨?_⟩<;>(first|contradiction|(exfalso;omega)|skip))|fail
              refine ⟨i * q + j, _, (by rw [e1]; omega), gA, ?_⟩
              repeat' first|refine sY ⟨?_⟩|(refine sq ?_ ?_<;>refine fun h=>⟨?_⟩<;>(first|contradiction|(exfalso;omega)|skip))|fail
              refine ⟨j * c + k, _, (by rw [e2]; omega), gB, ?_⟩
              repeat' first|refine sY ⟨?_⟩|(refine sq ?_ ?_<;>refine fun h=>⟨?_⟩<;>(first|contradiction|(exfalso;omega)|skip))|fail
              all_goals exact ⟨[0, 1, 2, 3, 4], q - (j + 1), rfl, by omega, j + 1, by omega, rfl, rfl⟩
            obtain rfl : q = j := by omega
            repeat' first|refine sY ⟨?_⟩|(refine sq ?_ ?_<;>refine fun h=>⟨?_⟩<;>(first|contradiction|(exfalso;omega)|skip))|fail
            conv => whnf
            refine ⟨Nat.le_of_ble_eq_true rfl, fun h => Nat.succ_ne_zero _ (congrArg List.length h), ?_⟩
            repeat' first|refine sY ⟨?_⟩|(refine sq ?_ ?_<;>refine fun h=>⟨?_⟩<;>(first|contradiction|(exfalso;omega)|skip))|fail
            refine ⟨[0, 1, 2, 3, 4, 6], c - (k + 1), rfl, by omega, k + 1, by omega, rfl, .inr ⟨by omega, ?_⟩⟩
            have hone : rowR (r.take (i * c + (k + 1))) = [[.str (ratB (sumR ((termsV q c a b i k).take q)))]] := by
              have e1 : i * c + (k + 1) = 1 := by omega
              rw [e1, rowR_one (by omega), List.take_of_length_le (by rw [termsV_len]; exact Nat.le_refl _), ← hrv]; simp [h1]
            exact Eq.trans rfl (congrArg (fun z : List (List AV) => (⟨[(2, .bptr 0 0), (3, .bptr 1 0), (4, .bptr 2 0), (7, .int .i64 (q : Nat)), (8, .int .i64 (c : Nat)), (9, .bptr 3 0), (10, .int .i64 (i : Nat)), (68, .int .i64 (p : Nat)), (69, .int .i64 (i : Nat)), (72, .int .i64 (c : Nat)), (73, .int .i64 (k + 1 : Nat))], [.box 40 [.ro 1 (rowZ [(p : Int), (q : Int)]), .ro 1 (rowR a)], .box 40 [.ro 1 (rowZ [(q : Int), (c : Int)]), .ro 1 (rowR b)], .box 40 [.nils, .nils], .box 40 [.own 4 0 2, .own 5 0 (z).length], .row false 3 1 (rowZ [(p : Int), (c : Int)]), .row false 9 1 (z)]⟩ : St)) hone.symm))
        · repeat' first|refine sY ⟨?_⟩|(refine sq ?_ ?_<;>refine fun h=>⟨?_⟩<;>(first|contradiction|(exfalso;omega)|skip))|fail
          refine ⟨[2, 3, 4, 7, 8, 9, 10, 11, 12, 68, 69, 72, 73, 76, 77], [0, 1, 2, 3, 4, 5], fun m st => ∃ j : Nat, j ≤ q ∧ m = q - j ∧ st = ⟨[(2, .bptr 0 0), (3, .bptr 1 0), (4, .bptr 2 0), (7, .int .i64 (q : Nat)), (8, .int .i64 (c : Nat)), (9, .bptr 3 0), (10, .int .i64 (i : Nat)), (11, .int .i64 (k : Nat)), (12, .str (ratB (sumR ((termsV q c a b i k).take j)))), (68, .int .i64 (p : Nat)), (69, .int .i64 (i : Nat)), (72, .int .i64 (c : Nat)), (73, .int .i64 (k : Nat)), (76, .int .i64 (q : Nat)), (77, .int .i64 (j : Nat))], [.box 40 [.ro 1 (rowZ [(p : Int), (q : Int)]), .ro 1 (rowR a)], .box 40 [.ro 1 (rowZ [(q : Int), (c : Int)]), .ro 1 (rowR b)], .box 40 [.nils, .nils], .box 40 [.own 4 0 2, .own 5 0 (rowR (r.take (i * c + k))).length], .row false 3 1 (rowZ [(p : Int), (c : Int)]), .row false 9 1 (rowR (r.take (i * c + k)))]⟩, rfl, ⟨q, 0, by omega, rfl, Eq.trans rfl (congrArg (fun z : ByteArray => (⟨[(2, .bptr 0 0), (3, .bptr 1 0), (4, .bptr 2 0), (7, .int .i64 (q : Nat)), (8, .int .i64 (c : Nat)), (9, .bptr 3 0), (10, .int .i64 (i : Nat)), (11, .int .i64 (k : Nat)), (12, .str (z)), (68, .int .i64 (p : Nat)), (69, .int .i64 (i : Nat)), (72, .int .i64 (c : Nat)), (73, .int .i64 (k : Nat)), (76, .int .i64 (q : Nat)), (77, .int .i64 (0 : Nat))], [.box 40 [.ro 1 (rowZ [(p : Int), (q : Int)]), .ro 1 (rowR a)], .box 40 [.ro 1 (rowZ [(q : Int), (c : Int)]), .ro 1 (rowR b)], .box 40 [.nils, .nils], .box 40 [.own 4 0 2, .own 5 0 (rowR (r.take (i * c + k))).length], .row false 3 1 (rowZ [(p : Int), (c : Int)]), .row false 9 1 (rowR (r.take (i * c + k)))]⟩ : St)) (show (⟨#[48]⟩ : ByteArray) = ratB (sumR ((termsV q c a b i k).take 0)) by rw [List.take_zero, sumR_nil, ratB_zero]))⟩, ?_⟩
          rintro m3 _ ⟨j, hj, hm3, rfl⟩
          rcases Nat.lt_or_ge j q with hjl | hjge
          · have hA := idx_lt hil hjl
            have hB := idx_lt hjl hkl
            have gA := rowR_at (l := a) (i := i * q + j) (by omega)
            have gB := rowR_at (l := b) (i := j * c + k) (by omega)
            have hpq : p * q ≤ 4096 := Nat.mul_le_mul p2 q2
            have hqc : q * c ≤ 4096 := Nat.mul_le_mul q2 c2
            have e1 : (i : Int) * (q : Int) = ((i * q : Nat) : Int) := by simp
            have e2 : (j : Int) * (c : Int) = ((j * c : Nat) : Int) := by simp
            have b1 : 0 ≤ (i : Int) * (q : Int) ∧ (i : Int) * (q : Int) ≤ 4096 := by rw [e1]; omega
            have b2 : 0 ≤ (j : Int) * (c : Int) ∧ (j : Int) * (c : Int) ≤ 4096 := by rw [e2]; omega
            have hRm := c_RMul (x := atR a (i * q + j)) (y := atR b (j * c + k)) (by rw [← atR_get (by omega)]; exact hra _ (List.getElem_mem _)) (by rw [← atR_get (by omega)]; exact hrb _ (List.getElem_mem _))
            have hRa := c_RAdd (hs i k j hil hkl (by omega)) (hm i k j hil hkl hjl)
            rw [← termsV_get (by rw [termsV_len]; exact hjl), ← sumR_take] at hRa
            rw [← termsV_get (by rw [termsV_len]; exact hjl)] at hRm
            repeat' first|refine sY ⟨?_⟩|(refine sq ?_ ?_<;>refine fun h=>⟨?_⟩<;>(first|contradiction|(exfalso;omega)|skip))|fail
            refine ⟨by decide +kernel, [0, 1, 0, 0, 12, 0, 60, 127, 255, 0, 512, 0, 0, 6144, 0, 30720, 65024, 130560, 262143, 524287, 1048575, 1048575, 2097151, 8388607], by decide +kernel, ?_⟩
            repeat' first|refine sY ⟨?_⟩|(refine sq ?_ ?_<;>refine fun h=>⟨?_⟩<;>(first|contradiction|(exfalso;omega)|skip))|fail
            refine ⟨i * q + j, _, (by rw [e1]; omega), gA, ?_⟩
            repeat' first|refine sY ⟨?_⟩|(refine sq ?_ ?_<;>refine fun h=>⟨?_⟩<;>(first|contradiction|(exfalso;omega)|skip))|fail
            refine ⟨j * c + k, _, (by rw [e2]; omega), gB, ?_⟩
            repeat' first|refine sY ⟨?_⟩|(refine sq ?_ ?_<;>refine fun h=>⟨?_⟩<;>(first|contradiction|(exfalso;omega)|skip))|fail
            all_goals exact ⟨[0, 1, 2, 3, 4, 5], q - (j + 1), rfl, by omega, j + 1, by omega, rfl, rfl⟩
          obtain rfl : q = j := by omega
          have hsn : rowR (r.take (i * c + (k + 1))) = List.take (rowR (r.take (i * c + k))).length (rowR (r.take (i * c + k))) ++ [[.str (ratB (sumR ((termsV q c a b i k).take q)))]] := by
            rw [List.take_of_length_le (l := termsV q c a b i k) (by rw [termsV_len]; exact Nat.le_refl _), ← hrv, ← Nat.add_assoc, rowR_snoc (by omega)]
          repeat' first|refine sY ⟨?_⟩|(refine sq ?_ ?_<;>refine fun h=>⟨?_⟩<;>(first|contradiction|(exfalso;omega)|skip))|fail
          refine ⟨Nat.le_refl _, (show ((rowR (r.take (i * c + k))).length + 1) * 16 ≤ 140737488355328 by omega), _, hsn, ?_⟩
          repeat' first|refine sY ⟨?_⟩|(refine sq ?_ ?_<;>refine fun h=>⟨?_⟩<;>(first|contradiction|(exfalso;omega)|skip))|fail
          all_goals exact ⟨[0, 1, 2, 3, 4, 7], c - (k + 1), rfl, by omega, k + 1, by omega, rfl, .inr ⟨by omega, rfl⟩⟩
      · obtain rfl : c = k := by omega
        rcases hst with ⟨h1, rfl⟩ | ⟨h1, rfl⟩
        · omega
        · repeat' first|refine sY ⟨?_⟩|(refine sq ?_ ?_<;>refine fun h=>⟨?_⟩<;>(first|contradiction|(exfalso;omega)|skip))|fail
          refine ⟨[0, 1, 2, 3, 4, 5], p - (i + 1), rfl, by omega, i + 1, by omega, rfl, .inr ⟨by rw [Nat.add_mul]; omega, ?_⟩⟩
          exact Eq.trans rfl (congrArg (fun n : Nat => (⟨[(2, .bptr 0 0), (3, .bptr 1 0), (4, .bptr 2 0), (7, .int .i64 (q : Nat)), (8, .int .i64 (c : Nat)), (9, .bptr 3 0), (68, .int .i64 (p : Nat)), (69, .int .i64 (i + 1 : Nat))], [.box 40 [.ro 1 (rowZ [(p : Int), (q : Int)]), .ro 1 (rowR a)], .box 40 [.ro 1 (rowZ [(q : Int), (c : Int)]), .ro 1 (rowR b)], .box 40 [.nils, .nils], .box 40 [.own 4 0 2, .own 5 0 (rowR (r.take n)).length], .row false 3 1 (rowZ [(p : Int), (c : Int)]), .row false 9 1 (rowR (r.take n))]⟩ : St)) (show i * c + c = (i + 1) * c by rw [Nat.add_mul]; omega)))
  · obtain rfl : p = i := by omega
    rcases hst with ⟨h0, rfl⟩ | ⟨h0, rfl⟩
    · exact absurd h0 (by have := Nat.mul_pos (show 0 < p by omega) (show 0 < c by omega); omega)
    · repeat' first|refine sY ⟨?_⟩|(refine sq ?_ ?_<;>refine fun h=>⟨?_⟩<;>(first|contradiction|(exfalso;omega)|skip))|fail
      conv => whnf
      have e : r.take (p * c) = r := List.take_of_length_le (by omega)
      rw [e]
      exact ⟨_, roTo2 (roToA rfl rfl) rfl, rfl⟩
end Go.V
namespace Go.V
open Go.N
set_option maxRecDepth 20000
def T_aTranspose2 : Tab := [(40, i40), (4, i4), (33, i33), (3, i3), (34, i34), (9, i9)]
theorem TOK_aTranspose2 : TOK Go.Proofs.Tryz.prog T_aTranspose2 := ⟨K40, ⟨K4, ⟨K33, ⟨K3, ⟨K34, ⟨K9, trivial⟩⟩⟩⟩⟩⟩
def transV (p q : Nat) (a : List Rat) : List Rat := (List.range (q * p)).map fun n => atR a (n % p * q + n / p)
theorem transV_len (p q : Nat) (a : List Rat) : (transV p q a).length = q * p := by simp [transV]
theorem transV_get {p q : Nat} {a : List Rat} {k i : Nat} (hk : k < q) (hi : i < p) : (transV p q a)[k * p + i]'(by rw [transV_len]; exact idx_lt hk hi) = atR a (i * q + k) := by simp [transV, idx_div hi]
set_option maxHeartbeats 4000000 in
theorem c_aTranspose (p q : Nat) {a : List Rat} (ha : VT [(p : Int), (q : Int)] a) :
    VCall Go.Proofs.Tryz.prog GL 93 [tenR [(p : Int), (q : Int)] a] (fun y => y = .tup [tenR [(q : Int), (p : Int)] (transV p q a), .int .i64 0]) := by
  have h1 := c_tRightV ha
  obtain ⟨p1, p2, q1, q2, hal⟩ := VT2 ha
  have hpq : p * q ≤ 4096 := Nat.mul_le_mul p2 q2
  unfold tenR at h1
  refine VCall.taken ?_
  obtain ⟨r, hr⟩ : ∃ r, r = transV p q a := ⟨_, rfl⟩
  rw [← hr]
  have hrl : r.length = q * p := by rw [hr, transV_len]
  have hrg : ∀ k i (hk : k < q) (hi : i < p), r[k * p + i]'(by rw [hrl]; exact idx_lt hk hi) = atR a (i * q + k) := fun k i hk hi => by subst hr; exact transV_get hk hi
  have hqp : q * p ≤ 4096 := Nat.mul_le_mul q2 p2
  clear hr
  refine vcall_of TOK_aTranspose2 HM Go.Proofs.Tryz.func93 rfl (by decide +kernel) (by decide +kernel) rfl ?_
  repeat' first|refine sY ⟨?_⟩|(refine sq ?_ ?_<;>refine fun h=>⟨?_⟩<;>(first|contradiction|(exfalso;omega)|skip))|fail
  refine ⟨by decide +kernel, [0, 1, 3, 7, 0, 16, 48, 112, 255, 511, 0, 2047], by decide +kernel, ?_⟩
  repeat' first|refine sY ⟨?_⟩|(refine sq ?_ ?_<;>refine fun h=>⟨?_⟩<;>(first|contradiction|(exfalso;omega)|skip))|fail
  refine ⟨[1, 2, 4, 31, 32], [0, 1, 3, 2], fun m st => ∃ k : Nat, k ≤ q ∧ m = q - k ∧ ((k * p = 0 ∧ st = ⟨[(1, .bptr 0 0), (2, .bptr 1 0), (4, .bptr 2 0), (31, .int .i64 (q : Nat)), (32, .int .i64 (k : Nat))], [.box 40 [.ro 1 (rowZ [(p : Int), (q : Int)]), .ro 1 (rowR a)], .box 40 [.nils, .nils], .box 40 [.own 3 0 2, .nils], .row false 3 1 (rowZ [(q : Int), (p : Int)])]⟩) ∨ (0 < k * p ∧ st = ⟨[(1, .bptr 0 0), (2, .bptr 1 0), (4, .bptr 2 0), (31, .int .i64 (q : Nat)), (32, .int .i64 (k : Nat))], [.box 40 [.ro 1 (rowZ [(p : Int), (q : Int)]), .ro 1 (rowR a)], .box 40 [.nils, .nils], .box 40 [.own 3 0 2, .own 4 0 (rowR (r.take (k * p))).length], .row false 3 1 (rowZ [(q : Int), (p : Int)]), .row false 9 1 (rowR (r.take (k * p)))]⟩)), rfl, ⟨q, 0, by omega, rfl, .inl ⟨by omega, rfl⟩⟩, ?_⟩
  rintro m _ ⟨k, hk, hm0, hst⟩
  have hkp : k * p ≤ q * p := Nat.mul_le_mul_right _ hk
  have hol : (rowR (r.take (k * p))).length = k * p := by rw [rowR_length, List.length_take]; omega
  rcases Nat.lt_or_ge k q with hkl | hkge
  · rcases hst with ⟨h0, rfl⟩ | ⟨h0, rfl⟩
    all_goals (repeat' first|refine sY ⟨?_⟩|(refine sq ?_ ?_<;>refine fun h=>⟨?_⟩<;>(first|contradiction|(exfalso;omega)|skip))|fail)
    all_goals first
      | refine ⟨[1, 2, 4, 5, 31, 32, 38, 39], [0, 1, 2, 3, 4], fun m st => ∃ i : Nat, i ≤ p ∧ m = p - i ∧ ((k * p + i = 0 ∧ st = ⟨[(1, .bptr 0 0), (2, .bptr 1 0), (4, .bptr 2 0), (5, .int .i64 (k : Nat)), (31, .int .i64 (q : Nat)), (32, .int .i64 (k : Nat)), (38, .int .i64 (p : Nat)), (39, .int .i64 (i : Nat))], [.box 40 [.ro 1 (rowZ [(p : Int), (q : Int)]), .ro 1 (rowR a)], .box 40 [.nils, .nils], .box 40 [.own 3 0 2, .nils], .row false 3 1 (rowZ [(q : Int), (p : Int)])]⟩) ∨ (0 < k * p + i ∧ st = ⟨[(1, .bptr 0 0), (2, .bptr 1 0), (4, .bptr 2 0), (5, .int .i64 (k : Nat)), (31, .int .i64 (q : Nat)), (32, .int .i64 (k : Nat)), (38, .int .i64 (p : Nat)), (39, .int .i64 (i : Nat))], [.box 40 [.ro 1 (rowZ [(p : Int), (q : Int)]), .ro 1 (rowR a)], .box 40 [.nils, .nils], .box 40 [.own 3 0 2, .own 4 0 (rowR (r.take (k * p + i))).length], .row false 3 1 (rowZ [(q : Int), (p : Int)]), .row false 9 1 (rowR (r.take (k * p + i)))]⟩)), rfl, ⟨p, 0, by omega, rfl, .inr ⟨by omega, rfl⟩⟩, ?_⟩
      | refine ⟨[1, 2, 4, 5, 31, 32, 38, 39], [0, 1, 2, 3], fun m st => ∃ i : Nat, i ≤ p ∧ m = p - i ∧ ((k * p + i = 0 ∧ st = ⟨[(1, .bptr 0 0), (2, .bptr 1 0), (4, .bptr 2 0), (5, .int .i64 (k : Nat)), (31, .int .i64 (q : Nat)), (32, .int .i64 (k : Nat)), (38, .int .i64 (p : Nat)), (39, .int .i64 (i : Nat))], [.box 40 [.ro 1 (rowZ [(p : Int), (q : Int)]), .ro 1 (rowR a)], .box 40 [.nils, .nils], .box 40 [.own 3 0 2, .nils], .row false 3 1 (rowZ [(q : Int), (p : Int)])]⟩) ∨ (0 < k * p + i ∧ st = ⟨[(1, .bptr 0 0), (2, .bptr 1 0), (4, .bptr 2 0), (5, .int .i64 (k : Nat)), (31, .int .i64 (q : Nat)), (32, .int .i64 (k : Nat)), (38, .int .i64 (p : Nat)), (39, .int .i64 (i : Nat))], [.box 40 [.ro 1 (rowZ [(p : Int), (q : Int)]), .ro 1 (rowR a)], .box 40 [.nils, .nils], .box 40 [.own 3 0 2, .own 4 0 (rowR (r.take (k * p + i))).length], .row false 3 1 (rowZ [(q : Int), (p : Int)]), .row false 9 1 (rowR (r.take (k * p + i)))]⟩)), rfl, ⟨p, 0, by omega, rfl, .inl ⟨by omega, rfl⟩⟩, ?_⟩
    all_goals rintro m2 _ ⟨i, hi, hm2, hst⟩
    all_goals (
      have hn : k * p + i ≤ q * p := by have h9 : (k + 1) * p ≤ q * p := Nat.mul_le_mul_right _ hkl; rw [Nat.add_mul] at h9; omega
      have hol2 : (rowR (r.take (k * p + i))).length = k * p + i := by rw [rowR_length, List.length_take]; omega
      rcases Nat.lt_or_ge i p with hil | hige
      · have hrv := hrg k i hkl hil
        have hix := idx_lt hkl hil
        have hA := idx_lt hil hkl
        have gA := rowR_at (l := a) (i := i * q + k) (by omega)
        have e1 : (i : Int) * (q : Int) = ((i * q : Nat) : Int) := by simp
        have b1 : 0 ≤ (i : Int) * (q : Int) ∧ (i : Int) * (q : Int) ≤ 4096 := by rw [e1]; omega
        rcases hst with ⟨h1, rfl⟩ | ⟨h1, rfl⟩
        · first
          | (exfalso; omega)
          | (
            repeat' first|refine sY ⟨?_⟩|(refine sq ?_ ?_<;>refine fun h=>⟨?_⟩<;>(first|contradiction|(exfalso;omega)|skip))|fail
            refine ⟨by decide +kernel, [0, 1, 0, 4, 0, 0, 32, 96, 224, 496, 0, 2032, 4092, 8188, 16380, 32767, 65535, 131071], by decide +kernel, ?_⟩
            repeat' first|refine sY ⟨?_⟩|(refine sq ?_ ?_<;>refine fun h=>⟨?_⟩<;>(first|contradiction|(exfalso;omega)|skip))|fail
            refine ⟨i * q + k, _, (by rw [e1]; omega), gA, ?_⟩
            repeat' first|refine sY ⟨?_⟩|(refine sq ?_ ?_<;>refine fun h=>⟨?_⟩<;>(first|contradiction|(exfalso;omega)|skip))|fail
            conv => whnf
            refine ⟨Nat.le_of_ble_eq_true rfl, fun h => Nat.succ_ne_zero _ (congrArg List.length h), ?_⟩
            repeat' first|refine sY ⟨?_⟩|(refine sq ?_ ?_<;>refine fun h=>⟨?_⟩<;>(first|contradiction|(exfalso;omega)|skip))|fail
            refine ⟨[0, 1, 2, 3, 5], p - (i + 1), rfl, by omega, i + 1, by omega, rfl, .inr ⟨by omega, ?_⟩⟩
            have hone : rowR (r.take (k * p + (i + 1))) = [[.str (ratB (atR a (i * q + k)))]] := by
              have e1 : k * p + (i + 1) = 1 := by omega
              rw [e1, rowR_one (by omega), ← hrv]; simp [h1]
            exact Eq.trans rfl (congrArg (fun z : List (List AV) => (⟨[(1, .bptr 0 0), (2, .bptr 1 0), (4, .bptr 2 0), (5, .int .i64 (k : Nat)), (31, .int .i64 (q : Nat)), (32, .int .i64 (k : Nat)), (38, .int .i64 (p : Nat)), (39, .int .i64 (i + 1 : Nat))], [.box 40 [.ro 1 (rowZ [(p : Int), (q : Int)]), .ro 1 (rowR a)], .box 40 [.nils, .nils], .box 40 [.own 3 0 2, .own 4 0 (z).length], .row false 3 1 (rowZ [(q : Int), (p : Int)]), .row false 9 1 (z)]⟩ : St)) hone.symm))
        · have hsn : rowR (r.take (k * p + (i + 1))) = List.take (rowR (r.take (k * p + i))).length (rowR (r.take (k * p + i))) ++ [[.str (ratB (atR a (i * q + k)))]] := by
            rw [← hrv, ← Nat.add_assoc, rowR_snoc (by omega)]
          repeat' first|refine sY ⟨?_⟩|(refine sq ?_ ?_<;>refine fun h=>⟨?_⟩<;>(first|contradiction|(exfalso;omega)|skip))|fail
          refine ⟨by decide +kernel, [0, 1, 0, 4, 0, 0, 32, 96, 224, 496, 0, 2032, 4092, 8188, 16380, 32767, 65535, 131071], by decide +kernel, ?_⟩
          repeat' first|refine sY ⟨?_⟩|(refine sq ?_ ?_<;>refine fun h=>⟨?_⟩<;>(first|contradiction|(exfalso;omega)|skip))|fail
          refine ⟨i * q + k, _, (by rw [e1]; omega), gA, ?_⟩
          repeat' first|refine sY ⟨?_⟩|(refine sq ?_ ?_<;>refine fun h=>⟨?_⟩<;>(first|contradiction|(exfalso;omega)|skip))|fail
          refine ⟨Nat.le_refl _, (show ((rowR (r.take (k * p + i))).length + 1) * 16 ≤ 140737488355328 by omega), _, hsn, ?_⟩
          repeat' first|refine sY ⟨?_⟩|(refine sq ?_ ?_<;>refine fun h=>⟨?_⟩<;>(first|contradiction|(exfalso;omega)|skip))|fail
          all_goals exact ⟨[0, 1, 2, 3, 6], p - (i + 1), rfl, by omega, i + 1, by omega, rfl, .inr ⟨by omega, rfl⟩⟩
      · obtain rfl : p = i := by omega
        rcases hst with ⟨h1, rfl⟩ | ⟨h1, rfl⟩
        · omega
        · repeat' first|refine sY ⟨?_⟩|(refine sq ?_ ?_<;>refine fun h=>⟨?_⟩<;>(first|contradiction|(exfalso;omega)|skip))|fail
          refine ⟨[0, 1, 2, 3, 4], q - (k + 1), rfl, by omega, k + 1, by omega, rfl, .inr ⟨by rw [Nat.add_mul]; omega, ?_⟩⟩
          exact Eq.trans rfl (congrArg (fun n : Nat => (⟨[(1, .bptr 0 0), (2, .bptr 1 0), (4, .bptr 2 0), (31, .int .i64 (q : Nat)), (32, .int .i64 (k + 1 : Nat))], [.box 40 [.ro 1 (rowZ [(p : Int), (q : Int)]), .ro 1 (rowR a)], .box 40 [.nils, .nils], .box 40 [.own 3 0 2, .own 4 0 (rowR (r.take n)).length], .row false 3 1 (rowZ [(q : Int), (p : Int)]), .row false 9 1 (rowR (r.take n))]⟩ : St)) (show k * p + p = (k + 1) * p by rw [Nat.add_mul]; omega)))
  · obtain rfl : q = k := by omega
    rcases hst with ⟨h0, rfl⟩ | ⟨h0, rfl⟩
    · exact absurd h0 (by have := Nat.mul_pos (show 0 < q by omega) (show 0 < p by omega); omega)
    · repeat' first|refine sY ⟨?_⟩|(refine sq ?_ ?_<;>refine fun h=>⟨?_⟩<;>(first|contradiction|(exfalso;omega)|skip))|fail
      conv => whnf
      have e : r.take (q * p) = r := List.take_of_length_le (by omega)
      rw [e]
      exact ⟨_, roTo2 (roToA rfl rfl) rfl, rfl⟩
end Go.V
namespace Go.V
open Go.N
set_option maxRecDepth 20000
def T_CloneS : Tab := [(34, i34), (9, i9)]
theorem TOK_CloneS : TOK Go.Proofs.Tryz.prog T_CloneS := ⟨K34, ⟨K9, trivial⟩⟩
def T_aTotal : Tab := [(40, i40), (28, i28), (34, i34), (9, i9)]
theorem TOK_aTotal : TOK Go.Proofs.Tryz.prog T_aTotal := ⟨K40, ⟨K28, ⟨K34, ⟨K9, trivial⟩⟩⟩⟩
def T_aReshape : Tab := [(40, i40), (4, i4), (33, i33), (3, i3), (34, i34), (9, i9)]
theorem TOK_aReshape : TOK Go.Proofs.Tryz.prog T_aReshape := ⟨K40, ⟨K4, ⟨K33, ⟨K3, ⟨K34, ⟨K9, trivial⟩⟩⟩⟩⟩⟩
def T_aSpread : Tab := [(40, i40), (4, i4), (33, i33), (3, i3), (34, i34), (9, i9)]
theorem TOK_aSpread : TOK Go.Proofs.Tryz.prog T_aSpread := ⟨K40, ⟨K4, ⟨K33, ⟨K3, ⟨K34, ⟨K9, trivial⟩⟩⟩⟩⟩⟩
def T_tFill : Tab := [(40, i40), (33, i33), (3, i3), (4, i4), (9, i9), (34, i34)]
theorem TOK_tFill : TOK Go.Proofs.Tryz.prog T_tFill := ⟨K40, ⟨K33, ⟨K3, ⟨K4, ⟨K9, ⟨K34, trivial⟩⟩⟩⟩⟩⟩
def T_Repeat : Tab := [(3, i3), (9, i9), (34, i34), (211, i211)]
theorem TOK_Repeat : TOK Go.Proofs.Tryz.prog T_Repeat := ⟨K3, ⟨K9, ⟨K34, ⟨K211, trivial⟩⟩⟩⟩
def T_bMul : Tab := [(211, i211), (210, i210), (207, i207)]
theorem TOK_bMul : TOK Go.Proofs.Tryz.prog T_bMul := ⟨K211, ⟨K210, ⟨K207, trivial⟩⟩⟩
def T_bMul64 : Tab := [(207, i207)]
theorem TOK_bMul64 : TOK Go.Proofs.Tryz.prog T_bMul64 := ⟨K207, trivial⟩
theorem c_CloneS (l : List ByteArray) (hll : l.length < 1000000) : VCall Go.Proofs.Tryz.prog GL 83 [.ro 1 (rowS l)] (fun x => x = .ro 1 (rowS l)) := by
  refine VCall.taken ?_
  have hlen : (rowS l).length = l.length := rowS_length l
  refine vcall_of TOK_CloneS HM Go.Proofs.Tryz.func83 rfl (by decide +kernel) (by decide +kernel) rfl ?_
  rcases l with _ | ⟨x, l⟩
  · repeat' first|refine sX ⟨?_⟩|(refine sp ?_ ?_<;>refine fun h=>⟨?_⟩)|fail
    conv => whnf
    refine ⟨?_, ?_⟩
    · repeat' first|refine sX ⟨?_⟩|(refine sp ?_ ?_<;>refine fun h=>⟨?_⟩)|fail
      conv => whnf
      exact ⟨_, (show RoTo .nils (.ro 1 []) from ⟨1, rfl⟩), rfl⟩
    · repeat' first|refine sX ⟨?_⟩|(refine sp ?_ ?_<;>refine fun h=>⟨?_⟩)|fail
      conv => whnf
      refine ⟨Nat.le_refl _, Nat.le_of_ble_eq_true rfl, rowS [], rfl, ?_⟩
      repeat' first|refine sX ⟨?_⟩|(refine sp ?_ ?_<;>refine fun h=>⟨?_⟩)|fail
      conv => whnf
      exact ⟨_, rfl, rfl⟩
  · repeat' first|refine sX ⟨?_⟩|(refine sp ?_ ?_<;>refine fun h=>⟨?_⟩)|fail
    conv => whnf
    refine ⟨Nat.le_refl _, (show (0 + (rowS (x :: l)).length) * 16 ≤ _ by omega), rowS (x :: l), rfl, ?_⟩
    repeat' first|refine sX ⟨?_⟩|(refine sp ?_ ?_<;>refine fun h=>⟨?_⟩)|fail
    conv => whnf
    exact ⟨_, rfl, rfl⟩
theorem c_CloneV (v : List Rat) (hll : v.length < 1000000) : VCall Go.Proofs.Tryz.prog GL 83 [.ro 1 (rowR v)] (fun x => x = .ro 1 (rowR v)) := c_CloneS (v.map ratB) (by rw [List.length_map]; exact hll)
theorem c_aTotal {s : List Int} {v : List Rat} (h : VT s v) (hs : ∀ k, k ≤ v.length → RS (sumR (v.take k))) : VCall Go.Proofs.Tryz.prog GL 94 [tenR s v] (fun y => y = .tup [tenR [] [sumR v], .int .i64 0]) := by
  have h1 := c_tSum h hs
  refine VCall.taken ?_
  refine vcall_of TOK_aTotal HM Go.Proofs.Tryz.func94 rfl (by decide +kernel) (by decide +kernel) rfl ?_
  repeat' first|refine sY ⟨?_⟩|(refine sq ?_ ?_<;>refine fun h=>⟨?_⟩<;>(first|contradiction|(exfalso;omega)|skip))|fail
  conv => whnf
  exact ⟨_, roTo2 (roToA (show RoTo .nils (.ro 1 []) from ⟨1, rfl⟩) rfl) rfl, rfl⟩
theorem c_aReshape {s t : List Int} {v : List Rat} (h : VT s v) (ht : okShape t = true) (hl : (v.length : Int) = prodZ t) : VCall Go.Proofs.Tryz.prog GL 95 [tenR s v, .ro 1 (rowZ t)] (fun y => y = .tup [tenR t v, .int .i64 0]) := by
  have h1 := c_tRightV h
  have h2 := c_shape_Right GL t (by have := okShape_len ht; omega)
  rw [ht] at h2
  have h3 := c_shape_Size GL t (by have := okShape_len ht; omega)
  rw [sizeZ, if_pos ht, ← hl] at h3
  have h4 := c_CloneR GL t (by have := okShape_len ht; omega)
  have h5 := c_CloneV v (by have := h.vl; omega)
  have hvl := rowR_length v
  unfold tenR at h1 ⊢
  refine vcall_of TOK_aReshape HM Go.Proofs.Tryz.func95 rfl (by decide +kernel) (by decide +kernel) rfl ?_
  repeat' first|refine sY ⟨?_⟩|(refine sq ?_ ?_<;>refine fun h=>⟨?_⟩<;>(first|contradiction|(exfalso;omega)|skip))|fail
  refine ⟨by decide +kernel, [0, 1, 0, 4, 12, 31, 63], by decide +kernel, ?_⟩
  repeat' first|refine sY ⟨?_⟩|(refine sq ?_ ?_<;>refine fun h=>⟨?_⟩<;>(first|contradiction|(exfalso;omega)|skip))|fail
  refine ⟨by decide +kernel, [0, 1, 0, 4, 15, 31, 63, 127], by decide +kernel, ?_⟩
  repeat' first|refine sY ⟨?_⟩|(refine sq ?_ ?_<;>refine fun h=>⟨?_⟩<;>(first|contradiction|(exfalso;omega)|skip))|fail
  all_goals (conv => whnf)
  all_goals rfl
theorem and_mask (n : Nat) (hn : n < 4294967296) {a : Int} (h : a = n) : (n : Int) = IntKind.wrap .u64 ((a.toNat &&& (4294967295 : Int).toNat : Nat) : Int) := by
  rw [h, Int.toNat_natCast, show (4294967295 : Int).toNat = 2 ^ 32 - 1 from rfl, Nat.and_two_pow_sub_one_eq_mod, Nat.mod_eq_of_lt (by simpa using hn)]
  exact wu64 (by omega) (by omega)
theorem shr_small (n : Nat) (hn : n < 4294967296) {a : Int} (h : a = n) : (0 : Int) = Int.fdiv a (2 ^ (min (Int.toNat 32) (IntKind.bits .u64))) := by
  rw [← shr32' n h, Nat.div_eq_of_lt hn]; rfl
theorem lt64 {n : Nat} (hn : n < 4294967296) {a : Int} (h : a = n) : a < 2 ^ IntKind.bits .u64 := by
  rw [h, show (2 : Int) ^ IntKind.bits .u64 = 18446744073709551616 by decide]; omega
theorem c_bMul64 (n : Nat) (hn : n < 4294967296) : VCall Go.Proofs.Tryz.prog GL 220 [.int .u64 1, .int .u64 (n : Nat)] (fun y => y = .tup [.int .u64 0, .int .u64 (n : Nat)]) := by
  refine vcall_of TOK_bMul64 HM Go.Proofs.Tryz.func220 rfl (by decide +kernel) (by decide +kernel) rfl ?_
  repeat' first|refine sY ⟨?_⟩|(refine sq ?_ ?_<;>refine fun h=>⟨?_⟩<;>(first|contradiction|(exfalso;omega)|skip))|fail
  conv => whnf
  refine ⟨by omega, lt64 (n := 1) (by omega) (by omega), by decide, by decide, ((1 : Nat) : Int), and_mask (1) (by omega) (by omega), ?_⟩
  repeat' first|refine sY ⟨?_⟩|(refine sq ?_ ?_<;>refine fun h=>⟨?_⟩<;>(first|contradiction|(exfalso;omega)|skip))|fail
  conv => whnf
  refine ⟨by decide, 0, shr_small (1) (by omega) (by omega), ?_⟩
  repeat' first|refine sY ⟨?_⟩|(refine sq ?_ ?_<;>refine fun h=>⟨?_⟩<;>(first|contradiction|(exfalso;omega)|skip))|fail
  conv => whnf
  refine ⟨by omega, lt64 (n := n) (by omega) (by omega), by decide, by decide, ((n : Nat) : Int), and_mask (n) (by omega) (by omega), ?_⟩
  repeat' first|refine sY ⟨?_⟩|(refine sq ?_ ?_<;>refine fun h=>⟨?_⟩<;>(first|contradiction|(exfalso;omega)|skip))|fail
  conv => whnf
  refine ⟨by decide, 0, shr_small (n) (by omega) (by omega), ?_⟩
  repeat' first|refine sY ⟨?_⟩|(refine sq ?_ ?_<;>refine fun h=>⟨?_⟩<;>(first|contradiction|(exfalso;omega)|skip))|fail
  conv => whnf
  refine ⟨by decide, 0, shr_small (n) (by omega) (by omega), ?_⟩
  repeat' first|refine sY ⟨?_⟩|(refine sq ?_ ?_<;>refine fun h=>⟨?_⟩<;>(first|contradiction|(exfalso;omega)|skip))|fail
  conv => whnf
  refine ⟨by omega, lt64 (n := 0) (by omega) (by omega), by decide, by decide, ((0 : Nat) : Int), and_mask (0) (by omega) (by omega), ?_⟩
  repeat' first|refine sY ⟨?_⟩|(refine sq ?_ ?_<;>refine fun h=>⟨?_⟩<;>(first|contradiction|(exfalso;omega)|skip))|fail
  conv => whnf
  refine ⟨by decide, 0, shr_small (0) (by omega) (by omega), ?_⟩
  repeat' first|refine sY ⟨?_⟩|(refine sq ?_ ?_<;>refine fun h=>⟨?_⟩<;>(first|contradiction|(exfalso;omega)|skip))|fail
  conv => whnf
  refine ⟨by decide, 0, shr_small (0) (by omega) (by omega), ?_⟩
  repeat' first|refine sY ⟨?_⟩|(refine sq ?_ ?_<;>refine fun h=>⟨?_⟩<;>(first|contradiction|(exfalso;omega)|skip))|fail
  conv => whnf
  show AV.tup [.int .u64 (0 * 0 + 0 + 0), .int .u64 (1 * (n : Int))] = _
  rw [Int.one_mul]; rfl
theorem c_bMul (n : Nat) (hn : n < 4294967296) : VCall Go.Proofs.Tryz.prog GL 202 [.int .u64 1, .int .u64 (n : Nat)] (fun y => y = .tup [.int .u64 0, .int .u64 (n : Nat)]) := by
  have h := c_bMul64 n hn
  refine vcall_of TOK_bMul HM Go.Proofs.Tryz.func202 rfl (by decide +kernel) (by decide +kernel) rfl ?_
  repeat' first|refine sY ⟨?_⟩|(refine sq ?_ ?_<;>refine fun h=>⟨?_⟩<;>(first|contradiction|(exfalso;omega)|skip))|fail
  all_goals (conv => whnf)
  all_goals rfl
theorem rep_copy {α : Type} (x z : α) (j n m : Nat) (hm : m ≤ j) (hj : j + m ≤ n) :
    List.replicate (j + m) x ++ List.replicate (n - (j + m)) z = List.take j (List.replicate j x ++ List.replicate (n - j) z) ++ List.take m (List.take j (List.drop 0 (List.replicate j x ++ List.replicate (n - j) z))) ++ List.drop (j + m) (List.replicate j x ++ List.replicate (n - j) z) := by
  have h1 : (List.replicate j x).length = j := List.length_replicate
  rw [List.drop_zero, List.take_left' h1, List.drop_append, h1, List.drop_eq_nil_of_le (by rw [h1]; omega), List.nil_append, List.take_replicate, List.drop_replicate, ← List.replicate_append_replicate, Nat.min_eq_left hm, show n - j - (j + m - j) = n - (j + m) by omega]
set_option maxHeartbeats 1000000 in
theorem c_Repeat (k : ByteArray) (n : Nat) (hn0 : 1 ≤ n) (hn : n ≤ 64) : VCall Go.Proofs.Tryz.prog GL 174 [.ro 1 [[.str k]], .int .i64 (n : Nat)] (fun y => y = .ro 1 (List.replicate n [.str k])) := by
  have h := c_bMul n (by omega)
  refine VCall.taken ?_
  refine vcall_of TOK_Repeat HM Go.Proofs.Tryz.func174 rfl (by decide +kernel) (by decide +kernel) rfl ?_
  repeat' first|refine sY ⟨?_⟩|(refine sq ?_ ?_<;>refine fun h=>⟨?_⟩<;>(first|contradiction|(exfalso;omega)|skip))|fail
  refine ⟨by omega, Int.le_refl _, by omega, (show (n : Int) * ((16 : Nat) : Int) ≤ 140737488355328 by omega), n, rfl, ?_⟩
  repeat' first|refine sY ⟨?_⟩|(refine sq ?_ ?_<;>refine fun h=>⟨?_⟩<;>(first|contradiction|(exfalso;omega)|skip))|fail
  conv => whnf
  refine ⟨(show 0 + min 1 n ≤ (List.replicate n [AV.str ⟨#[]⟩]).length by rw [List.length_replicate]; omega), List.replicate 1 [AV.str k] ++ List.replicate (n - 1) [AV.str ⟨#[]⟩], ?_, ?_⟩
  · show _ = List.take 0 (List.replicate n [AV.str ⟨#[]⟩]) ++ List.take (min 1 n) [[AV.str k]] ++ List.drop (0 + min 1 n) (List.replicate n [AV.str ⟨#[]⟩])
    rw [Nat.min_eq_left hn0, Nat.zero_add, List.drop_replicate]; rfl
  repeat' first|refine sY ⟨?_⟩|(refine sq ?_ ?_<;>refine fun h=>⟨?_⟩<;>(first|contradiction|(exfalso;omega)|skip))|fail
  refine ⟨[7, 8], [0], fun m st => ∃ j : Nat, 1 ≤ j ∧ j ≤ n ∧ m = n - j ∧ st = ⟨[(7, .own 0 0 n), (8, .int .i64 (j : Nat))], [.row false 9 1 (List.replicate j [.str k] ++ List.replicate (n - j) [.str ⟨#[]⟩])]⟩, rfl,
    ⟨n - 1, 1, by omega, hn0, rfl, by
      refine (show St.keep _ _ _ = (⟨[(7, .own 0 0 n), (8, .int .i64 ((min 1 n : Nat) : Int))], [.row false 9 1 (List.replicate 1 [.str k] ++ List.replicate (n - 1) [.str ⟨#[]⟩])]⟩ : St) from rfl).trans ?_
      rw [Nat.min_eq_left hn0]⟩, ?_⟩
  rintro m _ ⟨j, hj1, hj, hm, rfl⟩
  rcases Nat.lt_or_ge j n with hjn | hge
  · repeat' first|refine sY ⟨?_⟩|(refine sq ?_ ?_<;>refine fun h=>⟨?_⟩<;>(first|contradiction|(exfalso;omega)|skip))|fail
    refine ⟨by decide +kernel, [0, 0, 0, 6, 0, 0, 48, 126, 255, 511], by decide +kernel, ?_⟩
    repeat' first|refine sY ⟨?_⟩|(refine sq ?_ ?_<;>refine fun h=>⟨?_⟩<;>(first|contradiction|(exfalso;omega)|skip))|fail
    conv => whnf
    refine ⟨by omega, by omega, Int.le_refl _, by omega, j, n - j, by omega, by omega, ?_⟩
    repeat' first|refine sY ⟨?_⟩|(refine sq ?_ ?_<;>refine fun h=>⟨?_⟩<;>(first|contradiction|(exfalso;omega)|skip))|fail
    conv => whnf
    refine ⟨Int.le_refl _, by omega, by omega, .inl rfl, 0, j, rfl, by omega, ?_⟩
    have hlen : (List.take j (List.drop 0 (List.replicate j [AV.str k] ++ List.replicate (n - j) [AV.str ⟨#[]⟩]))).length = j := by rw [List.drop_zero, List.length_take, List.length_append, List.length_replicate, List.length_replicate]; omega
    have hblt : Nat.blt 0 (List.take j (List.drop 0 (List.replicate j [AV.str k] ++ List.replicate (n - j) [AV.str ⟨#[]⟩]))).length = true := by rw [hlen]; simpa [Nat.blt] using hj1
    repeat' first|refine sY ⟨?_⟩|(refine sq ?_ ?_<;>refine fun h=>⟨?_⟩<;>(first|contradiction|(exfalso;omega)|skip))|fail
    all_goals first | (exact absurd (show (true && true && Nat.blt 0 _) = false from h) (by rw [hblt]; decide)) | skip
    conv => whnf
    refine ⟨(show j + min (List.take j (List.drop 0 (List.replicate j [AV.str k] ++ List.replicate (n - j) [AV.str ⟨#[]⟩]))).length (n - j) ≤ (List.replicate j [AV.str k] ++ List.replicate (n - j) [AV.str ⟨#[]⟩]).length by rw [hlen, List.length_append, List.length_replicate, List.length_replicate]; omega),
      List.replicate (j + min j (n - j)) [AV.str k] ++ List.replicate (n - (j + min j (n - j))) [AV.str ⟨#[]⟩], ?_, ?_⟩
    · refine (rep_copy [AV.str k] [AV.str ⟨#[]⟩] j n (min j (n - j)) (by omega) (by omega)).trans ?_
      rw [hlen]
    repeat' first|refine sY ⟨?_⟩|(refine sq ?_ ?_<;>refine fun h=>⟨?_⟩<;>(first|contradiction|(exfalso;omega)|skip))|fail
    refine ⟨[0], n - (j + min j (n - j)), rfl, by omega, j + min j (n - j), by omega, by omega, rfl, ?_⟩
    refine (show St.keep _ _ _ = (⟨[(7, .own 0 0 n), (8, .int .i64 ((j : Int) + ((min (List.take j (List.drop 0 (List.replicate j [AV.str k] ++ List.replicate (n - j) [AV.str ⟨#[]⟩]))).length (n - j) : Nat) : Int)))],
      [.row false 9 1 (List.replicate (j + min j (n - j)) [.str k] ++ List.replicate (n - (j + min j (n - j))) [.str ⟨#[]⟩])]⟩ : St) from rfl).trans ?_
    rw [hlen, ← Int.natCast_add]
  · obtain rfl : n = j := by omega
    repeat' first|refine sY ⟨?_⟩|(refine sq ?_ ?_<;>refine fun h=>⟨?_⟩<;>(first|contradiction|(exfalso;omega)|skip))|fail
    conv => whnf
    refine .inr (.inl ⟨_, rfl, ?_⟩)
    show AV.ro 1 (List.take n (List.replicate n [AV.str k] ++ List.replicate (n - n) [AV.str ⟨#[]⟩])) = _
    rw [List.take_left' List.length_replicate]
theorem c_tFill {s : List Int} (hs : okShape s = true) {x : Rat} (hx : RS x) (m : Nat) (hm : prodZ s = ((m + 1 : Nat) : Int)) : VCall Go.Proofs.Tryz.prog GL 142 [.ro 1 (rowZ s), .str (ratB x)] (fun y => y = .tup [tenR s (List.replicate (m + 1) x), .int .i64 0]) := by
  have h1 := c_shape_Right GL s (by have := okShape_len hs; omega)
  rw [hs] at h1
  have h2 := c_RRightV hx
  have h3 := c_CloneR GL s (by have := okShape_len hs; omega)
  have h4 := c_shape_Size GL s (by have := okShape_len hs; omega)
  rw [sizeZ, if_pos hs, hm] at h4
  have hmid := okShape_mid hs s.length
  rw [List.take_length, hm] at hmid
  have h5 := c_Repeat (ratB x) (m + 1) (by omega) (by omega)
  have e : rowR (List.replicate (m + 1) x) = List.replicate (m + 1) [.str (ratB x)] := by unfold rowR rowS; rw [List.map_replicate, List.map_replicate]
  rw [tenR, e]
  refine VCall.taken ?_
  refine vcall_of TOK_tFill HM Go.Proofs.Tryz.func142 rfl (by decide +kernel) (by decide +kernel) rfl ?_
  repeat' first|refine sY ⟨?_⟩|(refine sq ?_ ?_<;>refine fun h=>⟨?_⟩<;>(first|contradiction|(exfalso;omega)|skip))|fail
  all_goals (conv => whnf)
  all_goals exact ⟨_, roTo2 (roToA rfl rfl) rfl, rfl⟩
theorem c_aSpread {s : List Int} (hs : okShape s = true) {x : Rat} (hx : RS x) (m : Nat) (hm : prodZ s = ((m + 1 : Nat) : Int)) : VCall Go.Proofs.Tryz.prog GL 96 [tenR [] [x], .ro 1 (rowZ s)] (fun y => y = .tup [tenR s (List.replicate (m + 1) x), .int .i64 0]) := by
  have h1 := c_tRightV (s := []) (v := [x]) ⟨by decide, by simp [prodZ], fun y hy => by rw [List.mem_singleton.1 hy]; exact hx⟩
  have h2 := c_shape_Right GL s (by have := okShape_len hs; omega)
  rw [hs] at h2
  have h3 := c_tFill hs hx m hm
  refine VCall.taken ?_
  refine vcall_of TOK_aSpread HM Go.Proofs.Tryz.func96 rfl (by decide +kernel) (by decide +kernel) rfl ?_
  repeat' first|refine sY ⟨?_⟩|(refine sq ?_ ?_<;>refine fun h=>⟨?_⟩<;>(first|contradiction|(exfalso;omega)|skip))|fail
  all_goals (conv => whnf)
  all_goals exact ⟨_, roTo2 (roToA rfl rfl) rfl, rfl⟩
end Go.V
namespace Go.V
open Go.N
set_option maxRecDepth 20000
def T_r05_At : Tab := [(40, i40), (100, i100), (34, i34), (9, i9)]
theorem TOK_r05_At : TOK Go.Proofs.Tryz.prog T_r05_At := ⟨K40, ⟨K100, ⟨K34, ⟨K9, trivial⟩⟩⟩⟩
def T_r05_Of : Tab := [(40, i40), (107, i107), (100, i100), (3, i3), (34, i34), (9, i9)]
theorem TOK_r05_Of : TOK Go.Proofs.Tryz.prog T_r05_Of := ⟨K40, ⟨K107, ⟨K100, ⟨K3, ⟨K34, ⟨K9, trivial⟩⟩⟩⟩⟩⟩
def T_r05_Zip : Tab := [(40, i40), (34, i34), (9, i9), (3, i3), (100, i100), (107, i107), (33, i33)]
theorem TOK_r05_Zip : TOK Go.Proofs.Tryz.prog T_r05_Zip := ⟨K40, ⟨K34, ⟨K9, ⟨K3, ⟨K100, ⟨K107, ⟨K33, trivial⟩⟩⟩⟩⟩⟩⟩
def ratC (x : Rat) : List AV := [.str (intB x.num), .str (decB x.den)]
def rowA (v : List Rat) : List (List AV) := v.map ratC
theorem rowA_length (v : List Rat) : (rowA v).length = v.length := by simp [rowA]
theorem rowA_get {v : List Rat} {k : Nat} (h : k < v.length) : (rowA v)[k]? = some (ratC v[k]) := by simp [rowA, h]
theorem rowA_snoc {r : List Rat} {i : Nat} (h : i < r.length) : rowA (r.take (i + 1)) = List.take (rowA (r.take i)).length (rowA (r.take i)) ++ [ratC r[i]] := by
  rw [List.take_length, List.take_succ_eq_append_getElem h]; unfold rowA; rw [List.map_append]; rfl
theorem rowA_one {r : List Rat} (h : 0 < r.length) : rowA (r.take 1) = [ratC r[0]] := by
  rw [List.take_succ_eq_append_getElem h]; simp [rowA]
theorem c_r05_At (s : List Int) {v : List Rat} {i : Nat} (hi : i < v.length) (hr : ∀ x ∈ v, RS x) : VCall Go.Proofs.Tryz.prog GL 77 [tenR s v, .int .i64 (i : Nat)] (fun y => y = ratA v[i]) := by
  have h := c_r03_Read2 (hr v[i] (List.getElem_mem hi))
  have g : (rowR v)[i]? = some [.str (ratB v[i])] := rowR_get hi
  unfold tenR
  refine vcall_of TOK_r05_At HM Go.Proofs.Tryz.func77 rfl (by decide +kernel) (by decide +kernel) rfl ?_
  repeat' first|refine sY ⟨?_⟩|(refine sq ?_ ?_<;>refine fun h=>⟨?_⟩<;>(first|contradiction|(exfalso;omega)|skip))|fail
  all_goals (conv => whnf)
  all_goals rfl
set_option maxHeartbeats 2000000 in
theorem c_r05_Of (s : List Int) (r : List Rat) (hr : ∀ x ∈ r, RS x) (hl : 1 ≤ r.length ∧ r.length ≤ 1000) : VCall Go.Proofs.Tryz.prog GL 81 [.ro 1 (rowZ s), .ro 2 (rowA r)] (fun y => y = tenR s r) := by
  have hvl := rowA_length r
  refine VCall.taken ?_
  refine vcall_of TOK_r05_Of HM Go.Proofs.Tryz.func81 rfl (by decide +kernel) (by decide +kernel) rfl ?_
  repeat' first|refine sY ⟨?_⟩|(refine sq ?_ ?_<;>refine fun h=>⟨?_⟩<;>(first|contradiction|(exfalso;omega)|skip))|fail
  refine ⟨[1, 4, 5, 6], [0, 1], fun m st => ∃ i : Nat, i ≤ r.length ∧ m = r.length - i ∧
    ((i = 0 ∧ st = ⟨[(1, .ro 2 (rowA r)), (4, .bptr 0 0), (5, .bptr 1 0), (6, .int .i64 (i : Nat))], [.box 40 [.nils, .nils], .box 40 [.ro 1 (rowZ s), .nils]]⟩) ∨
    (0 < i ∧ st = ⟨[(1, .ro 2 (rowA r)), (4, .bptr 0 0), (5, .bptr 1 0), (6, .int .i64 (i : Nat))], [.box 40 [.nils, .nils], .box 40 [.ro 1 (rowZ s), .own 2 0 (rowR (r.take i)).length], .row false 9 1 (rowR (r.take i))]⟩)), rfl, ⟨r.length, 0, by omega, rfl, .inl ⟨rfl, rfl⟩⟩, ?_⟩
  rintro m _ ⟨i, hi, hm, hst⟩
  have hol : (rowR (r.take i)).length = i := by rw [rowR_length, List.length_take]; omega
  rcases Nat.lt_or_ge i r.length with hil | hge
  · have g : (rowA r)[i]? = some (ratC r[i]) := rowA_get hil
    have ht := c_r03_Text2 (hr r[i] (List.getElem_mem hil))
    rcases hst with ⟨rfl, rfl⟩ | ⟨h0, rfl⟩
    · repeat' first|refine sY ⟨?_⟩|(refine sq ?_ ?_<;>refine fun h=>⟨?_⟩<;>(first|contradiction|(exfalso;omega)|skip))|fail
      refine ⟨by decide +kernel, [0, 1, 0, 0, 12, 28, 60, 124, 255, 511, 1023], by decide +kernel, ?_⟩
      repeat' first|refine sY ⟨?_⟩|(refine sq ?_ ?_<;>refine fun h=>⟨?_⟩<;>(first|contradiction|(exfalso;omega)|skip))|fail
      conv => whnf
      refine ⟨Nat.le_of_ble_eq_true rfl, fun h => Nat.succ_ne_zero _ (congrArg List.length h), ?_⟩
      repeat' first|refine sY ⟨?_⟩|(refine sq ?_ ?_<;>refine fun h=>⟨?_⟩<;>(first|contradiction|(exfalso;omega)|skip))|fail
      refine ⟨[0, 1, 3], r.length - (0 + 1), rfl, by omega, 0 + 1, by omega, rfl, .inr ⟨by omega, ?_⟩⟩
      exact Eq.trans rfl (congrArg (fun z : List (List AV) => (⟨[(1, .ro 2 (rowA r)), (4, .bptr 0 0), (5, .bptr 1 0), (6, .int .i64 ((0 + 1 : Nat) : Int))], [.box 40 [.nils, .nils], .box 40 [.ro 1 (rowZ s), .own 2 0 z.length], .row false 9 1 z]⟩ : St)) (rowR_one (by omega)).symm)
    · repeat' first|refine sY ⟨?_⟩|(refine sq ?_ ?_<;>refine fun h=>⟨?_⟩<;>(first|contradiction|(exfalso;omega)|skip))|fail
      refine ⟨by decide +kernel, [0, 1, 0, 0, 12, 28, 60, 124, 255, 511, 1023], by decide +kernel, ?_⟩
      repeat' first|refine sY ⟨?_⟩|(refine sq ?_ ?_<;>refine fun h=>⟨?_⟩<;>(first|contradiction|(exfalso;omega)|skip))|fail
      refine ⟨Nat.le_refl _, (show ((rowR (r.take i)).length + 1) * 16 ≤ 140737488355328 by omega), _, rowR_snoc (by omega), ?_⟩
      repeat' first|refine sY ⟨?_⟩|(refine sq ?_ ?_<;>refine fun h=>⟨?_⟩<;>(first|contradiction|(exfalso;omega)|skip))|fail
      all_goals exact ⟨[0, 1, 4], r.length - (i + 1), rfl, by omega, i + 1, by omega, rfl, .inr ⟨by omega, rfl⟩⟩
  · rcases hst with ⟨rfl, rfl⟩ | ⟨h0, rfl⟩
    · exact absurd hge (by omega)
    · repeat' first|refine sY ⟨?_⟩|(refine sq ?_ ?_<;>refine fun h=>⟨?_⟩<;>(first|contradiction|(exfalso;omega)|skip))|fail
      conv => whnf
      have e : r.take i = r := List.take_of_length_le (by omega)
      rw [e]
      exact ⟨_, (roToA rfl rfl), rfl⟩
theorem own_allA {r : List Rat} {n : Nat} (h : n = (rowA r).length) : rowA r = List.take n (List.drop 0 (rowA r)) := by rw [h, List.drop_zero, List.take_length]
set_option maxHeartbeats 4000000 in
theorem c_r05_ZipAdd {s : List Int} {a b : List Rat} (ha : VT s a) (hb : VT s b) (hrs : ∀ x ∈ List.zipWith (fun x y => x + y) a b, RS x) : VCall Go.Proofs.Tryz.prog GL 72 [.str sAdd, tenR s a, tenR s b] (fun y => y = tenR s (List.zipWith (fun x y => x + y) a b)) := by
  have hv := ha.vl
  have hl : b.length = a.length := by have := ha.len; have := hb.len; omega
  have hal := rowR_length a
  have hbl := rowR_length b
  obtain ⟨r, hr⟩ : ∃ r, r = List.zipWith (fun x y => x + y) a b := ⟨_, rfl⟩
  rw [← hr]
  have hrl : r.length = a.length := by rw [hr, List.length_zipWith]; omega
  have hrg : ∀ i (hi : i < a.length), r[i]'(by omega) = a[i] + b[i]'(by omega) := fun i hi => by subst hr; exact List.getElem_zipWith ..
  have hof := c_r05_Of s r (by rw [hr]; exact hrs) (by omega)
  rw [own_allA (r := r) (n := (rowA r).length) rfl] at hof
  obtain ⟨X, hX⟩ : ∃ X, X = rowR r := ⟨_, rfl⟩
  have hXl : X.length = a.length := by rw [hX, rowR_length]; omega
  have e0 : tenR s r = .agg [.ro 1 (rowZ s), .ro 1 X] := by rw [tenR, hX]
  rw [e0] at hof ⊢
  clear hr hrs hX e0
  have ata := fun i (hi : i < a.length) => c_r05_At s (i := i) hi ha.rs
  have atb := fun i (hi : i < b.length) => c_r05_At s (i := i) hi hb.rs
  unfold tenR at ata atb ⊢
  refine vcall_of TOK_r05_Zip HM Go.Proofs.Tryz.func72 rfl (by decide +kernel) (by decide +kernel) rfl ?_
  repeat' first|refine sY ⟨?_⟩|(refine sq ?_ ?_<;>refine fun h=>⟨?_⟩<;>(first|contradiction|(exfalso;omega)|skip))|fail
  refine ⟨[0, 4, 5, 6, 7, 8], [0, 1, 2], fun m st => ∃ i : Nat, i ≤ a.length ∧ m = a.length - i ∧
    ((i = 0 ∧ st = ⟨[(0, .str sAdd), (4, .bptr 0 0), (5, .bptr 1 0), (6, .bptr 2 0), (7, .nils), (8, .int .i64 (i : Nat))], [.box 40 [.ro 1 (rowZ s), .ro 1 (rowR a)], .box 40 [.ro 1 (rowZ s), .ro 1 (rowR b)], .box 40 [.nils, .nils]]⟩) ∨
    (0 < i ∧ st = ⟨[(0, .str sAdd), (4, .bptr 0 0), (5, .bptr 1 0), (6, .bptr 2 0), (7, .own 3 0 (rowA (r.take i)).length), (8, .int .i64 (i : Nat))], [.box 40 [.ro 1 (rowZ s), .ro 1 (rowR a)], .box 40 [.ro 1 (rowZ s), .ro 1 (rowR b)], .box 40 [.nils, .nils], .row false 100 2 (rowA (r.take i))]⟩)), rfl, ⟨a.length, 0, by omega, rfl, .inl ⟨rfl, rfl⟩⟩, ?_⟩
  rintro m _ ⟨i, hi, hm, hst⟩
  have hol : (rowA (r.take i)).length = i := by rw [rowA_length, List.length_take]; omega
  rcases Nat.lt_or_ge i a.length with hil | hge
  · have h1 := ata i hil
    have h2 := atb i (by omega)
    have hop := c_r03_Add (ha.rs a[i] (List.getElem_mem hil)) (hb.rs (b[i]'(by omega)) (List.getElem_mem _))
    rw [← hrg i hil] at hop
    skip
    rcases hst with ⟨rfl, rfl⟩ | ⟨h0, rfl⟩
    · repeat' first|refine sY ⟨?_⟩|(refine sq ?_ ?_<;>refine fun h=>⟨?_⟩<;>(first|contradiction|(exfalso;omega)|skip))|fail
      refine ⟨by decide +kernel, [0, 0, 3, 0, 0, 31, 0, 0, 255, 511], by decide +kernel, ?_⟩
      repeat' first|refine sY ⟨?_⟩|(refine sq ?_ ?_<;>refine fun h=>⟨?_⟩<;>(first|contradiction|(exfalso;omega)|skip))|fail
      skip
      conv => whnf
      refine ⟨Nat.le_of_ble_eq_true rfl, fun h => Nat.succ_ne_zero _ (congrArg List.length h), ?_⟩
      repeat' first|refine sY ⟨?_⟩|(refine sq ?_ ?_<;>refine fun h=>⟨?_⟩<;>(first|contradiction|(exfalso;omega)|skip))|fail
      refine ⟨[0, 1, 2, 6], a.length - (0 + 1), rfl, by omega, 0 + 1, by omega, rfl, .inr ⟨by omega, ?_⟩⟩
      exact Eq.trans rfl (congrArg (fun z : List (List AV) => (⟨[(0, .str sAdd), (4, .bptr 0 0), (5, .bptr 1 0), (6, .bptr 2 0), (7, .own 3 0 z.length), (8, .int .i64 ((0 + 1 : Nat) : Int))], [.box 40 [.ro 1 (rowZ s), .ro 1 (rowR a)], .box 40 [.ro 1 (rowZ s), .ro 1 (rowR b)], .box 40 [.nils, .nils], .row false 100 2 z]⟩ : St)) (rowA_one (by omega)).symm)
    · repeat' first|refine sY ⟨?_⟩|(refine sq ?_ ?_<;>refine fun h=>⟨?_⟩<;>(first|contradiction|(exfalso;omega)|skip))|fail
      refine ⟨by decide +kernel, [0, 0, 3, 0, 0, 31, 0, 0, 255, 511], by decide +kernel, ?_⟩
      repeat' first|refine sY ⟨?_⟩|(refine sq ?_ ?_<;>refine fun h=>⟨?_⟩<;>(first|contradiction|(exfalso;omega)|skip))|fail
      skip
      refine ⟨Nat.le_refl _, (show ((rowA (r.take i)).length + 1) * 32 ≤ 140737488355328 by omega), _, rowA_snoc (by omega), ?_⟩
      repeat' first|refine sY ⟨?_⟩|(refine sq ?_ ?_<;>refine fun h=>⟨?_⟩<;>(first|contradiction|(exfalso;omega)|skip))|fail
      all_goals exact ⟨[0, 1, 2, 7], a.length - (i + 1), rfl, by omega, i + 1, by omega, rfl, .inr ⟨by omega, rfl⟩⟩
  · rcases hst with ⟨rfl, rfl⟩ | ⟨h0, rfl⟩
    · exact absurd hge (by omega)
    · have e : r.take i = r := List.take_of_length_le (by omega)
      rw [e]
      cases X with
      | nil => simp at hXl; omega
      | cons c0 cs0 =>
        cases s
        all_goals (repeat' first|refine sY ⟨?_⟩|(refine sq ?_ ?_<;>refine fun h=>⟨?_⟩<;>(first|contradiction|(exfalso;omega)|skip))|fail)
        all_goals (conv => whnf)
        all_goals rfl
set_option maxHeartbeats 4000000 in
theorem c_r05_ZipMul {s : List Int} {a b : List Rat} (ha : VT s a) (hb : VT s b) (hrs : ∀ x ∈ List.zipWith (fun x y => x * y) a b, RS x) : VCall Go.Proofs.Tryz.prog GL 72 [.str sMul, tenR s a, tenR s b] (fun y => y = tenR s (List.zipWith (fun x y => x * y) a b)) := by
  have hv := ha.vl
  have hl : b.length = a.length := by have := ha.len; have := hb.len; omega
  have hal := rowR_length a
  have hbl := rowR_length b
  obtain ⟨r, hr⟩ : ∃ r, r = List.zipWith (fun x y => x * y) a b := ⟨_, rfl⟩
  rw [← hr]
  have hrl : r.length = a.length := by rw [hr, List.length_zipWith]; omega
  have hrg : ∀ i (hi : i < a.length), r[i]'(by omega) = a[i] * b[i]'(by omega) := fun i hi => by subst hr; exact List.getElem_zipWith ..
  have hof := c_r05_Of s r (by rw [hr]; exact hrs) (by omega)
  rw [own_allA (r := r) (n := (rowA r).length) rfl] at hof
  obtain ⟨X, hX⟩ : ∃ X, X = rowR r := ⟨_, rfl⟩
  have hXl : X.length = a.length := by rw [hX, rowR_length]; omega
  have e0 : tenR s r = .agg [.ro 1 (rowZ s), .ro 1 X] := by rw [tenR, hX]
  rw [e0] at hof ⊢
  clear hr hrs hX e0
  have ata := fun i (hi : i < a.length) => c_r05_At s (i := i) hi ha.rs
  have atb := fun i (hi : i < b.length) => c_r05_At s (i := i) hi hb.rs
  unfold tenR at ata atb ⊢
  refine vcall_of TOK_r05_Zip HM Go.Proofs.Tryz.func72 rfl (by decide +kernel) (by decide +kernel) rfl ?_
  repeat' first|refine sY ⟨?_⟩|(refine sq ?_ ?_<;>refine fun h=>⟨?_⟩<;>(first|contradiction|(exfalso;omega)|skip))|fail
  refine ⟨[0, 4, 5, 6, 7, 8], [0, 1, 2], fun m st => ∃ i : Nat, i ≤ a.length ∧ m = a.length - i ∧
    ((i = 0 ∧ st = ⟨[(0, .str sMul), (4, .bptr 0 0), (5, .bptr 1 0), (6, .bptr 2 0), (7, .nils), (8, .int .i64 (i : Nat))], [.box 40 [.ro 1 (rowZ s), .ro 1 (rowR a)], .box 40 [.ro 1 (rowZ s), .ro 1 (rowR b)], .box 40 [.nils, .nils]]⟩) ∨
    (0 < i ∧ st = ⟨[(0, .str sMul), (4, .bptr 0 0), (5, .bptr 1 0), (6, .bptr 2 0), (7, .own 3 0 (rowA (r.take i)).length), (8, .int .i64 (i : Nat))], [.box 40 [.ro 1 (rowZ s), .ro 1 (rowR a)], .box 40 [.ro 1 (rowZ s), .ro 1 (rowR b)], .box 40 [.nils, .nils], .row false 100 2 (rowA (r.take i))]⟩)), rfl, ⟨a.length, 0, by omega, rfl, .inl ⟨rfl, rfl⟩⟩, ?_⟩
  rintro m _ ⟨i, hi, hm, hst⟩
  have hol : (rowA (r.take i)).length = i := by rw [rowA_length, List.length_take]; omega
  rcases Nat.lt_or_ge i a.length with hil | hge
  · have h1 := ata i hil
    have h2 := atb i (by omega)
    have hop := c_r03_Mul (ha.rs a[i] (List.getElem_mem hil)) (hb.rs (b[i]'(by omega)) (List.getElem_mem _))
    rw [← hrg i hil] at hop
    skip
    rcases hst with ⟨rfl, rfl⟩ | ⟨h0, rfl⟩
    · repeat' first|refine sY ⟨?_⟩|(refine sq ?_ ?_<;>refine fun h=>⟨?_⟩<;>(first|contradiction|(exfalso;omega)|skip))|fail
      refine ⟨by decide +kernel, [0, 0, 3, 0, 0, 31, 0, 0, 255, 511], by decide +kernel, ?_⟩
      repeat' first|refine sY ⟨?_⟩|(refine sq ?_ ?_<;>refine fun h=>⟨?_⟩<;>(first|contradiction|(exfalso;omega)|skip))|fail
      skip
      conv => whnf
      refine ⟨Nat.le_of_ble_eq_true rfl, fun h => Nat.succ_ne_zero _ (congrArg List.length h), ?_⟩
      repeat' first|refine sY ⟨?_⟩|(refine sq ?_ ?_<;>refine fun h=>⟨?_⟩<;>(first|contradiction|(exfalso;omega)|skip))|fail
      refine ⟨[0, 1, 2, 6], a.length - (0 + 1), rfl, by omega, 0 + 1, by omega, rfl, .inr ⟨by omega, ?_⟩⟩
      exact Eq.trans rfl (congrArg (fun z : List (List AV) => (⟨[(0, .str sMul), (4, .bptr 0 0), (5, .bptr 1 0), (6, .bptr 2 0), (7, .own 3 0 z.length), (8, .int .i64 ((0 + 1 : Nat) : Int))], [.box 40 [.ro 1 (rowZ s), .ro 1 (rowR a)], .box 40 [.ro 1 (rowZ s), .ro 1 (rowR b)], .box 40 [.nils, .nils], .row false 100 2 z]⟩ : St)) (rowA_one (by omega)).symm)
    · repeat' first|refine sY ⟨?_⟩|(refine sq ?_ ?_<;>refine fun h=>⟨?_⟩<;>(first|contradiction|(exfalso;omega)|skip))|fail
      refine ⟨by decide +kernel, [0, 0, 3, 0, 0, 31, 0, 0, 255, 511], by decide +kernel, ?_⟩
      repeat' first|refine sY ⟨?_⟩|(refine sq ?_ ?_<;>refine fun h=>⟨?_⟩<;>(first|contradiction|(exfalso;omega)|skip))|fail
      skip
      refine ⟨Nat.le_refl _, (show ((rowA (r.take i)).length + 1) * 32 ≤ 140737488355328 by omega), _, rowA_snoc (by omega), ?_⟩
      repeat' first|refine sY ⟨?_⟩|(refine sq ?_ ?_<;>refine fun h=>⟨?_⟩<;>(first|contradiction|(exfalso;omega)|skip))|fail
      all_goals exact ⟨[0, 1, 2, 7], a.length - (i + 1), rfl, by omega, i + 1, by omega, rfl, .inr ⟨by omega, rfl⟩⟩
  · rcases hst with ⟨rfl, rfl⟩ | ⟨h0, rfl⟩
    · exact absurd hge (by omega)
    · have e : r.take i = r := List.take_of_length_le (by omega)
      rw [e]
      cases X with
      | nil => simp at hXl; omega
      | cons c0 cs0 =>
        cases s
        all_goals (repeat' first|refine sY ⟨?_⟩|(refine sq ?_ ?_<;>refine fun h=>⟨?_⟩<;>(first|contradiction|(exfalso;omega)|skip))|fail)
        all_goals (conv => whnf)
        all_goals rfl
set_option maxHeartbeats 4000000 in
theorem c_r05_ZipSub {s : List Int} {a b : List Rat} (ha : VT s a) (hb : VT s b) (hrs : ∀ x ∈ List.zipWith (fun x y => x - y) a b, RS x) : VCall Go.Proofs.Tryz.prog GL 72 [.str sSub, tenR s a, tenR s b] (fun y => y = tenR s (List.zipWith (fun x y => x - y) a b)) := by
  have hv := ha.vl
  have hl : b.length = a.length := by have := ha.len; have := hb.len; omega
  have hal := rowR_length a
  have hbl := rowR_length b
  obtain ⟨r, hr⟩ : ∃ r, r = List.zipWith (fun x y => x - y) a b := ⟨_, rfl⟩
  rw [← hr]
  have hrl : r.length = a.length := by rw [hr, List.length_zipWith]; omega
  have hrg : ∀ i (hi : i < a.length), r[i]'(by omega) = a[i] - b[i]'(by omega) := fun i hi => by subst hr; exact List.getElem_zipWith ..
  have hof := c_r05_Of s r (by rw [hr]; exact hrs) (by omega)
  rw [own_allA (r := r) (n := (rowA r).length) rfl] at hof
  obtain ⟨X, hX⟩ : ∃ X, X = rowR r := ⟨_, rfl⟩
  have hXl : X.length = a.length := by rw [hX, rowR_length]; omega
  have e0 : tenR s r = .agg [.ro 1 (rowZ s), .ro 1 X] := by rw [tenR, hX]
  rw [e0] at hof ⊢
  clear hr hrs hX e0
  have ata := fun i (hi : i < a.length) => c_r05_At s (i := i) hi ha.rs
  have atb := fun i (hi : i < b.length) => c_r05_At s (i := i) hi hb.rs
  unfold tenR at ata atb ⊢
  refine vcall_of TOK_r05_Zip HM Go.Proofs.Tryz.func72 rfl (by decide +kernel) (by decide +kernel) rfl ?_
  repeat' first|refine sY ⟨?_⟩|(refine sq ?_ ?_<;>refine fun h=>⟨?_⟩<;>(first|contradiction|(exfalso;omega)|skip))|fail
  refine ⟨[0, 4, 5, 6, 7, 8], [0, 1, 2], fun m st => ∃ i : Nat, i ≤ a.length ∧ m = a.length - i ∧
    ((i = 0 ∧ st = ⟨[(0, .str sSub), (4, .bptr 0 0), (5, .bptr 1 0), (6, .bptr 2 0), (7, .nils), (8, .int .i64 (i : Nat))], [.box 40 [.ro 1 (rowZ s), .ro 1 (rowR a)], .box 40 [.ro 1 (rowZ s), .ro 1 (rowR b)], .box 40 [.nils, .nils]]⟩) ∨
    (0 < i ∧ st = ⟨[(0, .str sSub), (4, .bptr 0 0), (5, .bptr 1 0), (6, .bptr 2 0), (7, .own 3 0 (rowA (r.take i)).length), (8, .int .i64 (i : Nat))], [.box 40 [.ro 1 (rowZ s), .ro 1 (rowR a)], .box 40 [.ro 1 (rowZ s), .ro 1 (rowR b)], .box 40 [.nils, .nils], .row false 100 2 (rowA (r.take i))]⟩)), rfl, ⟨a.length, 0, by omega, rfl, .inl ⟨rfl, rfl⟩⟩, ?_⟩
  rintro m _ ⟨i, hi, hm, hst⟩
  have hol : (rowA (r.take i)).length = i := by rw [rowA_length, List.length_take]; omega
  rcases Nat.lt_or_ge i a.length with hil | hge
  · have h1 := ata i hil
    have h2 := atb i (by omega)
    have hop := c_r03_Add (ha.rs a[i] (List.getElem_mem hil)) (hb.rs (b[i]'(by omega)) (List.getElem_mem _)).neg
    rw [← Rat.sub_eq_add_neg, ← hrg i hil] at hop
    have hng := c_r03_Neg (hb.rs (b[i]'(by omega)) (List.getElem_mem _))
    rcases hst with ⟨rfl, rfl⟩ | ⟨h0, rfl⟩
    · repeat' first|refine sY ⟨?_⟩|(refine sq ?_ ?_<;>refine fun h=>⟨?_⟩<;>(first|contradiction|(exfalso;omega)|skip))|fail
      refine ⟨by decide +kernel, [0, 0, 3, 0, 0, 31, 0, 0, 255, 511], by decide +kernel, ?_⟩
      repeat' first|refine sY ⟨?_⟩|(refine sq ?_ ?_<;>refine fun h=>⟨?_⟩<;>(first|contradiction|(exfalso;omega)|skip))|fail
      refine ⟨by decide +kernel, [0, 0, 0, 4, 14, 30, 63, 127], by decide +kernel, ?_⟩; repeat' first|refine sY ⟨?_⟩|(refine sq ?_ ?_<;>refine fun h=>⟨?_⟩<;>(first|contradiction|(exfalso;omega)|skip))|fail
      conv => whnf
      refine ⟨Nat.le_of_ble_eq_true rfl, fun h => Nat.succ_ne_zero _ (congrArg List.length h), ?_⟩
      repeat' first|refine sY ⟨?_⟩|(refine sq ?_ ?_<;>refine fun h=>⟨?_⟩<;>(first|contradiction|(exfalso;omega)|skip))|fail
      refine ⟨[0, 1, 2, 6], a.length - (0 + 1), rfl, by omega, 0 + 1, by omega, rfl, .inr ⟨by omega, ?_⟩⟩
      exact Eq.trans rfl (congrArg (fun z : List (List AV) => (⟨[(0, .str sSub), (4, .bptr 0 0), (5, .bptr 1 0), (6, .bptr 2 0), (7, .own 3 0 z.length), (8, .int .i64 ((0 + 1 : Nat) : Int))], [.box 40 [.ro 1 (rowZ s), .ro 1 (rowR a)], .box 40 [.ro 1 (rowZ s), .ro 1 (rowR b)], .box 40 [.nils, .nils], .row false 100 2 z]⟩ : St)) (rowA_one (by omega)).symm)
    · repeat' first|refine sY ⟨?_⟩|(refine sq ?_ ?_<;>refine fun h=>⟨?_⟩<;>(first|contradiction|(exfalso;omega)|skip))|fail
      refine ⟨by decide +kernel, [0, 0, 3, 0, 0, 31, 0, 0, 255, 511], by decide +kernel, ?_⟩
      repeat' first|refine sY ⟨?_⟩|(refine sq ?_ ?_<;>refine fun h=>⟨?_⟩<;>(first|contradiction|(exfalso;omega)|skip))|fail
      refine ⟨by decide +kernel, [0, 0, 0, 4, 14, 30, 63, 127], by decide +kernel, ?_⟩; repeat' first|refine sY ⟨?_⟩|(refine sq ?_ ?_<;>refine fun h=>⟨?_⟩<;>(first|contradiction|(exfalso;omega)|skip))|fail
      refine ⟨Nat.le_refl _, (show ((rowA (r.take i)).length + 1) * 32 ≤ 140737488355328 by omega), _, rowA_snoc (by omega), ?_⟩
      repeat' first|refine sY ⟨?_⟩|(refine sq ?_ ?_<;>refine fun h=>⟨?_⟩<;>(first|contradiction|(exfalso;omega)|skip))|fail
      all_goals exact ⟨[0, 1, 2, 7], a.length - (i + 1), rfl, by omega, i + 1, by omega, rfl, .inr ⟨by omega, rfl⟩⟩
  · rcases hst with ⟨rfl, rfl⟩ | ⟨h0, rfl⟩
    · exact absurd hge (by omega)
    · have e : r.take i = r := List.take_of_length_le (by omega)
      rw [e]
      cases X with
      | nil => simp at hXl; omega
      | cons c0 cs0 =>
        cases s
        all_goals (repeat' first|refine sY ⟨?_⟩|(refine sq ?_ ?_<;>refine fun h=>⟨?_⟩<;>(first|contradiction|(exfalso;omega)|skip))|fail)
        all_goals (conv => whnf)
        all_goals rfl
end Go.V
namespace Go.V
open Go.N
set_option maxRecDepth 20000
def T_r07_Less : Tab := [(100, i100), (9, i9), (3, i3)]
theorem TOK_r07_Less : TOK Go.Proofs.Tryz.prog T_r07_Less := ⟨K100, ⟨K9, ⟨K3, trivial⟩⟩⟩
def T_r07_One : Tab := [(100, i100), (9, i9), (3, i3)]
theorem TOK_r07_One : TOK Go.Proofs.Tryz.prog T_r07_One := ⟨K100, ⟨K9, ⟨K3, trivial⟩⟩⟩
def T_r07_Each : Tab := [(40, i40), (34, i34), (9, i9), (3, i3), (100, i100), (107, i107), (33, i33)]
theorem TOK_r07_Each : TOK Go.Proofs.Tryz.prog T_r07_Each := ⟨K40, ⟨K34, ⟨K9, ⟨K3, ⟨K100, ⟨K107, ⟨K33, trivial⟩⟩⟩⟩⟩⟩⟩
def T_r07_Two : Tab := [(40, i40), (34, i34), (9, i9), (3, i3), (100, i100), (107, i107), (33, i33)]
theorem TOK_r07_Two : TOK Go.Proofs.Tryz.prog T_r07_Two := ⟨K40, ⟨K34, ⟨K9, ⟨K3, ⟨K100, ⟨K107, ⟨K33, trivial⟩⟩⟩⟩⟩⟩⟩
theorem c_r07_Less {x y : Rat} (hx : RS x) (hy : RS y) (hd : RS (x - y)) : VCall Go.Proofs.Tryz.prog GL 131 [ratA x, ratA y] (fun z => z = .bool (decide (sg (x - y).num < 0))) := by
  have h1 := c_r03_Neg hy
  have h2 := c_r03_Add hx hy.neg
  rw [← Rat.sub_eq_add_neg] at h2
  have h3 := c_r02_Sign2 GL (x - y).num (by have := hd.num; omega)
  unfold ratA at h1 h2 ⊢
  refine vcall_of TOK_r07_Less HM Go.Proofs.Tryz.func131 rfl (by decide +kernel) (by decide +kernel) rfl ?_
  repeat' first|refine sY ⟨?_⟩|(refine sq ?_ ?_<;>refine fun h=>⟨?_⟩<;>(first|contradiction|(exfalso;omega)|skip))|fail
  refine ⟨by decide +kernel, [0, 0, 2, 7, 15, 31, 63, 127], by decide +kernel, ?_⟩
  repeat' first|refine sY ⟨?_⟩|(refine sq ?_ ?_<;>refine fun h=>⟨?_⟩<;>(first|contradiction|(exfalso;omega)|skip))|fail
  all_goals (conv => whnf)
  all_goals rfl
theorem ratA_zero : ratA 0 = .agg [.str ⟨#[48]⟩, .str ⟨#[49]⟩] := by
  have h1 : intB (0 : Rat).num = ⟨#[48]⟩ := by decide +kernel
  have h2 : decB (0 : Rat).den = ⟨#[49]⟩ := by decide +kernel
  rw [ratA, h1, h2]
theorem ratA_one : ratA 1 = .agg [.str ⟨#[49]⟩, .str ⟨#[49]⟩] := by
  have h1 : intB (1 : Rat).num = ⟨#[49]⟩ := by decide +kernel
  have h2 : decB (1 : Rat).den = ⟨#[49]⟩ := by decide +kernel
  rw [ratA, h1, h2]
set_option maxHeartbeats 2000000 in
theorem c_r07_Relu {x : Rat} (hx : RS x) : VCall Go.Proofs.Tryz.prog GL 132 [.str sRelu, ratA x] (fun y => y = ratA (reluR x)) := by
  have h := c_r02_Sign2 GL x.num (by have := hx.num; omega)
  have hn := c_r03_Neg hx
  have hn1 := c_r03_Neg RS_one
  rw [ratA_one] at hn1
  rcases (by omega : x.num < 0 ∨ x.num = 0 ∨ 0 < x.num) with g | g | g
  · rw [show sg x.num = -1 by unfold sg; rw [if_pos g]] at h
    rw [reluR, if_neg (by omega), ratA_zero]
    unfold ratA at hn ⊢
    refine vcall_of TOK_r07_One HM Go.Proofs.Tryz.func132 rfl (by decide +kernel) (by decide +kernel) rfl ?_
    repeat' first|refine sY ⟨?_⟩|(refine sq ?_ ?_<;>refine fun h=>⟨?_⟩<;>(first|contradiction|(exfalso;omega)|skip))|fail
    all_goals (conv => whnf)
    all_goals rfl
  · rw [show sg x.num = 0 by unfold sg; rw [if_neg (by omega), if_pos g]] at h
    rw [reluR, if_neg (by omega), ratA_zero]
    unfold ratA at hn ⊢
    refine vcall_of TOK_r07_One HM Go.Proofs.Tryz.func132 rfl (by decide +kernel) (by decide +kernel) rfl ?_
    repeat' first|refine sY ⟨?_⟩|(refine sq ?_ ?_<;>refine fun h=>⟨?_⟩<;>(first|contradiction|(exfalso;omega)|skip))|fail
    all_goals (conv => whnf)
    all_goals rfl
  · rw [show sg x.num = 1 by unfold sg; rw [if_neg (by omega), if_neg (by omega)]] at h
    rw [reluR, if_pos g]
    unfold ratA at hn ⊢
    refine vcall_of TOK_r07_One HM Go.Proofs.Tryz.func132 rfl (by decide +kernel) (by decide +kernel) rfl ?_
    repeat' first|refine sY ⟨?_⟩|(refine sq ?_ ?_<;>refine fun h=>⟨?_⟩<;>(first|contradiction|(exfalso;omega)|skip))|fail
    all_goals (conv => whnf)
    all_goals rfl
set_option maxHeartbeats 2000000 in
theorem c_r07_Abs {x : Rat} (hx : RS x) : VCall Go.Proofs.Tryz.prog GL 132 [.str sAbs, ratA x] (fun y => y = ratA (absR x)) := by
  have h := c_r02_Sign2 GL x.num (by have := hx.num; omega)
  have hn := c_r03_Neg hx
  have hn1 := c_r03_Neg RS_one
  rw [ratA_one] at hn1
  rcases (by omega : x.num < 0 ∨ x.num = 0 ∨ 0 < x.num) with g | g | g
  · rw [show sg x.num = -1 by unfold sg; rw [if_pos g]] at h
    rw [absR, if_neg (by omega)]
    unfold ratA at hn ⊢
    refine vcall_of TOK_r07_One HM Go.Proofs.Tryz.func132 rfl (by decide +kernel) (by decide +kernel) rfl ?_
    repeat' first|refine sY ⟨?_⟩|(refine sq ?_ ?_<;>refine fun h=>⟨?_⟩<;>(first|contradiction|(exfalso;omega)|skip))|fail
    all_goals (conv => whnf)
    all_goals rfl
  · rw [show sg x.num = 0 by unfold sg; rw [if_neg (by omega), if_pos g]] at h
    rw [absR, if_pos (by omega)]
    unfold ratA at hn ⊢
    refine vcall_of TOK_r07_One HM Go.Proofs.Tryz.func132 rfl (by decide +kernel) (by decide +kernel) rfl ?_
    repeat' first|refine sY ⟨?_⟩|(refine sq ?_ ?_<;>refine fun h=>⟨?_⟩<;>(first|contradiction|(exfalso;omega)|skip))|fail
    all_goals (conv => whnf)
    all_goals rfl
  · rw [show sg x.num = 1 by unfold sg; rw [if_neg (by omega), if_neg (by omega)]] at h
    rw [absR, if_pos (by omega)]
    unfold ratA at hn ⊢
    refine vcall_of TOK_r07_One HM Go.Proofs.Tryz.func132 rfl (by decide +kernel) (by decide +kernel) rfl ?_
    repeat' first|refine sY ⟨?_⟩|(refine sq ?_ ?_<;>refine fun h=>⟨?_⟩<;>(first|contradiction|(exfalso;omega)|skip))|fail
    all_goals (conv => whnf)
    all_goals rfl
set_option maxHeartbeats 2000000 in
theorem c_r07_Step {x : Rat} (hx : RS x) : VCall Go.Proofs.Tryz.prog GL 132 [.str sStep, ratA x] (fun y => y = ratA (stepR x)) := by
  have h := c_r02_Sign2 GL x.num (by have := hx.num; omega)
  have hn := c_r03_Neg hx
  have hn1 := c_r03_Neg RS_one
  rw [ratA_one] at hn1
  rcases (by omega : x.num < 0 ∨ x.num = 0 ∨ 0 < x.num) with g | g | g
  · rw [show sg x.num = -1 by unfold sg; rw [if_pos g]] at h
    rw [stepR, if_neg (by omega), ratA_zero]
    unfold ratA at hn ⊢
    refine vcall_of TOK_r07_One HM Go.Proofs.Tryz.func132 rfl (by decide +kernel) (by decide +kernel) rfl ?_
    repeat' first|refine sY ⟨?_⟩|(refine sq ?_ ?_<;>refine fun h=>⟨?_⟩<;>(first|contradiction|(exfalso;omega)|skip))|fail
    all_goals (conv => whnf)
    all_goals rfl
  · rw [show sg x.num = 0 by unfold sg; rw [if_neg (by omega), if_pos g]] at h
    rw [stepR, if_neg (by omega), ratA_zero]
    unfold ratA at hn ⊢
    refine vcall_of TOK_r07_One HM Go.Proofs.Tryz.func132 rfl (by decide +kernel) (by decide +kernel) rfl ?_
    repeat' first|refine sY ⟨?_⟩|(refine sq ?_ ?_<;>refine fun h=>⟨?_⟩<;>(first|contradiction|(exfalso;omega)|skip))|fail
    all_goals (conv => whnf)
    all_goals rfl
  · rw [show sg x.num = 1 by unfold sg; rw [if_neg (by omega), if_neg (by omega)]] at h
    rw [stepR, if_pos g, ratA_one]
    unfold ratA at hn ⊢
    refine vcall_of TOK_r07_One HM Go.Proofs.Tryz.func132 rfl (by decide +kernel) (by decide +kernel) rfl ?_
    repeat' first|refine sY ⟨?_⟩|(refine sq ?_ ?_<;>refine fun h=>⟨?_⟩<;>(first|contradiction|(exfalso;omega)|skip))|fail
    all_goals (conv => whnf)
    all_goals rfl
set_option maxHeartbeats 2000000 in
theorem c_r07_Sign {x : Rat} (hx : RS x) : VCall Go.Proofs.Tryz.prog GL 132 [.str sSign, ratA x] (fun y => y = ratA (signR x)) := by
  have h := c_r02_Sign2 GL x.num (by have := hx.num; omega)
  have hn := c_r03_Neg hx
  have hn1 := c_r03_Neg RS_one
  rw [ratA_one] at hn1
  rcases (by omega : x.num < 0 ∨ x.num = 0 ∨ 0 < x.num) with g | g | g
  · rw [show sg x.num = -1 by unfold sg; rw [if_pos g]] at h
    rw [signR, if_pos g]
    unfold ratA at hn ⊢
    refine vcall_of TOK_r07_One HM Go.Proofs.Tryz.func132 rfl (by decide +kernel) (by decide +kernel) rfl ?_
    repeat' first|refine sY ⟨?_⟩|(refine sq ?_ ?_<;>refine fun h=>⟨?_⟩<;>(first|contradiction|(exfalso;omega)|skip))|fail
    all_goals (conv => whnf)
    all_goals rfl
  · rw [show sg x.num = 0 by unfold sg; rw [if_neg (by omega), if_pos g]] at h
    rw [signR, if_neg (by omega), if_pos g, ratA_zero]
    unfold ratA at hn ⊢
    refine vcall_of TOK_r07_One HM Go.Proofs.Tryz.func132 rfl (by decide +kernel) (by decide +kernel) rfl ?_
    repeat' first|refine sY ⟨?_⟩|(refine sq ?_ ?_<;>refine fun h=>⟨?_⟩<;>(first|contradiction|(exfalso;omega)|skip))|fail
    all_goals (conv => whnf)
    all_goals rfl
  · rw [show sg x.num = 1 by unfold sg; rw [if_neg (by omega), if_neg (by omega)]] at h
    rw [signR, if_neg (by omega), if_neg (by omega), ratA_one]
    unfold ratA at hn ⊢
    refine vcall_of TOK_r07_One HM Go.Proofs.Tryz.func132 rfl (by decide +kernel) (by decide +kernel) rfl ?_
    repeat' first|refine sY ⟨?_⟩|(refine sq ?_ ?_<;>refine fun h=>⟨?_⟩<;>(first|contradiction|(exfalso;omega)|skip))|fail
    all_goals (conv => whnf)
    all_goals rfl
set_option maxHeartbeats 4000000 in
theorem c_r07_Each (op : ByteArray) (F : Rat → Rat) {s : List Int} {a : List Rat} (ha : VT s a) (hF : ∀ x, RS x → RS (F x)) (hc : ∀ x, RS x → VCall Go.Proofs.Tryz.prog GL 132 [.str op, ratA x] (fun y => y = ratA (F x))) :
    VCall Go.Proofs.Tryz.prog GL 74 [.str op, tenR s a] (fun y => y = tenR s (a.map F)) := by
  have hv := ha.vl
  have hal := rowR_length a
  have hra := ha.rs
  obtain ⟨r, hr⟩ : ∃ r, r = a.map F := ⟨_, rfl⟩
  rw [← hr]
  have hrl : r.length = a.length := by rw [hr, List.length_map]
  have hrg : ∀ i (hi : i < a.length), r[i]'(by omega) = F a[i] := fun i hi => by subst hr; exact List.getElem_map _
  have hof := c_r05_Of s r (fun x hx => by rw [hr] at hx; obtain ⟨y, hy, rfl⟩ := List.mem_map.1 hx; exact hF y (hra y hy)) (by omega)
  rw [own_allA (r := r) (n := (rowA r).length) rfl] at hof
  obtain ⟨X, hX⟩ : ∃ X, X = rowR r := ⟨_, rfl⟩
  have hXl : X.length = a.length := by rw [hX, rowR_length]; omega
  have e0 : tenR s r = .agg [.ro 1 (rowZ s), .ro 1 X] := by rw [tenR, hX]
  rw [e0] at hof ⊢
  clear hr hX e0
  have ata := fun i (hi : i < a.length) => c_r05_At s (i := i) hi ha.rs
  unfold tenR at ata ⊢
  refine vcall_of TOK_r07_Each HM Go.Proofs.Tryz.func74 rfl (by decide +kernel) (by decide +kernel) rfl ?_
  repeat' first|refine sY ⟨?_⟩|(refine sq ?_ ?_<;>refine fun h=>⟨?_⟩<;>(first|contradiction|(exfalso;omega)|skip))|fail
  refine ⟨[0, 3, 4, 5, 6], [0, 1], fun m st => ∃ i : Nat, i ≤ a.length ∧ m = a.length - i ∧
    ((i = 0 ∧ st = ⟨[(0, .str op), (3, .bptr 0 0), (4, .bptr 1 0), (5, .nils), (6, .int .i64 (i : Nat))], [.box 40 [.ro 1 (rowZ s), .ro 1 (rowR a)], .box 40 [.nils, .nils]]⟩) ∨
    (0 < i ∧ st = ⟨[(0, .str op), (3, .bptr 0 0), (4, .bptr 1 0), (5, .own 2 0 (rowA (r.take i)).length), (6, .int .i64 (i : Nat))], [.box 40 [.ro 1 (rowZ s), .ro 1 (rowR a)], .box 40 [.nils, .nils], .row false 100 2 (rowA (r.take i))]⟩)), rfl, ⟨a.length, 0, by omega, rfl, .inl ⟨rfl, rfl⟩⟩, ?_⟩
  rintro m _ ⟨i, hi, hm, hst⟩
  have hol : (rowA (r.take i)).length = i := by rw [rowA_length, List.length_take]; omega
  rcases Nat.lt_or_ge i a.length with hil | hge
  · have h1 := ata i hil
    have hop := hc a[i] (hra _ (List.getElem_mem hil))
    rw [← hrg i hil] at hop
    unfold ratA at hop h1
    rcases hst with ⟨rfl, rfl⟩ | ⟨h0, rfl⟩
    · repeat' first|refine sY ⟨?_⟩|(refine sq ?_ ?_<;>refine fun h=>⟨?_⟩<;>(first|contradiction|(exfalso;omega)|skip))|fail
      conv => whnf
      refine ⟨Nat.le_of_ble_eq_true rfl, fun h => Nat.succ_ne_zero _ (congrArg List.length h), ?_⟩
      repeat' first|refine sY ⟨?_⟩|(refine sq ?_ ?_<;>refine fun h=>⟨?_⟩<;>(first|contradiction|(exfalso;omega)|skip))|fail
      refine ⟨[0, 1, 3], a.length - (0 + 1), rfl, by omega, 0 + 1, by omega, rfl, .inr ⟨by omega, ?_⟩⟩
      exact Eq.trans rfl (congrArg (fun z : List (List AV) => (⟨[(0, .str op), (3, .bptr 0 0), (4, .bptr 1 0), (5, .own 2 0 z.length), (6, .int .i64 ((0 + 1 : Nat) : Int))], [.box 40 [.ro 1 (rowZ s), .ro 1 (rowR a)], .box 40 [.nils, .nils], .row false 100 2 z]⟩ : St)) (rowA_one (by omega)).symm)
    · repeat' first|refine sY ⟨?_⟩|(refine sq ?_ ?_<;>refine fun h=>⟨?_⟩<;>(first|contradiction|(exfalso;omega)|skip))|fail
      refine ⟨Nat.le_refl _, (show ((rowA (r.take i)).length + 1) * 32 ≤ 140737488355328 by omega), _, rowA_snoc (by omega), ?_⟩
      repeat' first|refine sY ⟨?_⟩|(refine sq ?_ ?_<;>refine fun h=>⟨?_⟩<;>(first|contradiction|(exfalso;omega)|skip))|fail
      all_goals exact ⟨[0, 1, 4], a.length - (i + 1), rfl, by omega, i + 1, by omega, rfl, .inr ⟨by omega, rfl⟩⟩
  · rcases hst with ⟨rfl, rfl⟩ | ⟨h0, rfl⟩
    · exact absurd hge (by omega)
    · have e : r.take i = r := List.take_of_length_le (by omega)
      rw [e]
      cases X with
      | nil => simp at hXl; omega
      | cons c0 cs0 =>
        cases s
        all_goals (repeat' first|refine sY ⟨?_⟩|(refine sq ?_ ?_<;>refine fun h=>⟨?_⟩<;>(first|contradiction|(exfalso;omega)|skip))|fail)
        all_goals (conv => whnf)
        all_goals rfl
theorem ratC_zero : ratC 0 = [.str ⟨#[48]⟩, .str ⟨#[49]⟩] := by
  have h1 : intB (0 : Rat).num = ⟨#[48]⟩ := by decide +kernel
  have h2 : decB (0 : Rat).den = ⟨#[49]⟩ := by decide +kernel
  rw [ratC, h1, h2]
theorem ratC_one : ratC 1 = [.str ⟨#[49]⟩, .str ⟨#[49]⟩] := by
  have h1 : intB (1 : Rat).num = ⟨#[49]⟩ := by decide +kernel
  have h2 : decB (1 : Rat).den = ⟨#[49]⟩ := by decide +kernel
  rw [ratC, h1, h2]
set_option maxHeartbeats 4000000 in
theorem c_r07_Max {s : List Int} {a b : List Rat} (ha : VT s a) (hb : VT s b) (hd : ∀ i (h : i < a.length), RS (a[i] - b[i]'(by have := ha.len; have := hb.len; omega))) (hrs : ∀ x ∈ List.zipWith maxR a b, RS x) :
    VCall Go.Proofs.Tryz.prog GL 73 [.str sMax, tenR s a, tenR s b] (fun y => y = tenR s (List.zipWith maxR a b)) := by
  have hv := ha.vl
  have hl : b.length = a.length := by have := ha.len; have := hb.len; omega
  have hal := rowR_length a
  have hbl := rowR_length b
  obtain ⟨r, hr⟩ : ∃ r, r = List.zipWith maxR a b := ⟨_, rfl⟩
  rw [← hr]
  have hrl : r.length = a.length := by rw [hr, List.length_zipWith]; omega
  have hrg : ∀ i (hi : i < a.length), r[i]'(by omega) = maxR a[i] (b[i]'(by omega)) := fun i hi => by subst hr; exact List.getElem_zipWith ..
  have hof := c_r05_Of s r (by rw [hr]; exact hrs) (by omega)
  rw [own_allA (r := r) (n := (rowA r).length) rfl] at hof
  obtain ⟨X, hX⟩ : ∃ X, X = rowR r := ⟨_, rfl⟩
  have hXl : X.length = a.length := by rw [hX, rowR_length]; omega
  have e0 : tenR s r = .agg [.ro 1 (rowZ s), .ro 1 X] := by rw [tenR, hX]
  rw [e0] at hof ⊢
  clear hr hrs hX e0
  have ata := fun i (hi : i < a.length) => c_r05_At s (i := i) hi ha.rs
  have atb := fun i (hi : i < b.length) => c_r05_At s (i := i) hi hb.rs
  unfold tenR at ata atb ⊢
  refine vcall_of TOK_r07_Two HM Go.Proofs.Tryz.func73 rfl (by decide +kernel) (by decide +kernel) rfl ?_
  repeat' first|refine sY ⟨?_⟩|(refine sq ?_ ?_<;>refine fun h=>⟨?_⟩<;>(first|contradiction|(exfalso;omega)|skip))|fail
  refine ⟨[0, 4, 5, 6, 7, 8], [0, 1, 2], fun m st => ∃ i : Nat, i ≤ a.length ∧ m = a.length - i ∧
    ((i = 0 ∧ st = ⟨[(0, .str sMax), (4, .bptr 0 0), (5, .bptr 1 0), (6, .bptr 2 0), (7, .nils), (8, .int .i64 (i : Nat))], [.box 40 [.ro 1 (rowZ s), .ro 1 (rowR a)], .box 40 [.ro 1 (rowZ s), .ro 1 (rowR b)], .box 40 [.nils, .nils]]⟩) ∨
    (0 < i ∧ st = ⟨[(0, .str sMax), (4, .bptr 0 0), (5, .bptr 1 0), (6, .bptr 2 0), (7, .own 3 0 (rowA (r.take i)).length), (8, .int .i64 (i : Nat))], [.box 40 [.ro 1 (rowZ s), .ro 1 (rowR a)], .box 40 [.ro 1 (rowZ s), .ro 1 (rowR b)], .box 40 [.nils, .nils], .row false 100 2 (rowA (r.take i))]⟩)), rfl, ⟨a.length, 0, by omega, rfl, .inl ⟨rfl, rfl⟩⟩, ?_⟩
  rintro m _ ⟨i, hi, hm, hst⟩
  have hol : (rowA (r.take i)).length = i := by rw [rowA_length, List.length_take]; omega
  rcases Nat.lt_or_ge i a.length with hil | hge
  · have h1 := ata i hil
    have h2 := atb i (by omega)
    have hls := c_r07_Less (ha.rs a[i] (List.getElem_mem hil)) (hb.rs (b[i]'(by omega)) (List.getElem_mem _)) (hd i hil)
    have hrv := hrg i hil
    unfold maxR at hrv
    unfold ratA at h1 h2 hls
    generalize a[i] - b[i]'(by omega) = d at hls hrv
    rcases (by omega : d.num < 0 ∨ 0 ≤ d.num) with k | k
    · rw [if_neg (by omega)] at hrv
      rw [show decide (sg d.num < 0) = true by rw [sg_lt, decide_eq_true k]] at hls
      have hcell : ratC (r[i]'(by omega)) = ratC (b[i]'(by omega)) := by rw [hrv]
      rcases hst with ⟨h0, rfl⟩ | ⟨h0, rfl⟩
      · repeat' first|refine sY ⟨?_⟩|(refine sq ?_ ?_<;>refine fun h=>⟨?_⟩<;>(first|contradiction|(exfalso;omega)|skip))|fail
        refine ⟨by decide +kernel, [0, 0, 3, 0, 0, 31, 0, 0, 255, 511], by decide +kernel, ?_⟩
        repeat' first|refine sY ⟨?_⟩|(refine sq ?_ ?_<;>refine fun h=>⟨?_⟩<;>(first|contradiction|(exfalso;omega)|skip))|fail
        conv => whnf
        refine ⟨Nat.le_of_ble_eq_true rfl, fun h => Nat.succ_ne_zero _ (congrArg List.length h), ?_⟩
        repeat' first|refine sY ⟨?_⟩|(refine sq ?_ ?_<;>refine fun h=>⟨?_⟩<;>(first|contradiction|(exfalso;omega)|skip))|fail
        refine ⟨[0, 1, 2, 6], a.length - (i + 1), rfl, by omega, i + 1, by omega, rfl, .inr ⟨by omega, ?_⟩⟩
        have hone : rowA (r.take (i + 1)) = [ratC (b[i]'(by omega))] := by subst h0; rw [rowA_one (by omega), ← hcell]
        exact Eq.trans rfl (congrArg (fun z : List (List AV) => (⟨[(0, .str sMax), (4, .bptr 0 0), (5, .bptr 1 0), (6, .bptr 2 0), (7, .own 3 0 z.length), (8, .int .i64 ((i + 1 : Nat) : Int))], [.box 40 [.ro 1 (rowZ s), .ro 1 (rowR a)], .box 40 [.ro 1 (rowZ s), .ro 1 (rowR b)], .box 40 [.nils, .nils], .row false 100 2 z]⟩ : St)) hone.symm)
      · have hsn : rowA (r.take (i + 1)) = List.take (rowA (r.take i)).length (rowA (r.take i)) ++ [ratC (b[i]'(by omega))] := by rw [rowA_snoc (by omega), hcell]
        repeat' first|refine sY ⟨?_⟩|(refine sq ?_ ?_<;>refine fun h=>⟨?_⟩<;>(first|contradiction|(exfalso;omega)|skip))|fail
        refine ⟨by decide +kernel, [0, 0, 3, 0, 0, 31, 0, 0, 255, 511], by decide +kernel, ?_⟩
        repeat' first|refine sY ⟨?_⟩|(refine sq ?_ ?_<;>refine fun h=>⟨?_⟩<;>(first|contradiction|(exfalso;omega)|skip))|fail
        refine ⟨Nat.le_refl _, (show ((rowA (r.take i)).length + 1) * 32 ≤ 140737488355328 by omega), _, hsn, ?_⟩
        repeat' first|refine sY ⟨?_⟩|(refine sq ?_ ?_<;>refine fun h=>⟨?_⟩<;>(first|contradiction|(exfalso;omega)|skip))|fail
        all_goals exact ⟨[0, 1, 2, 7], a.length - (i + 1), rfl, by omega, i + 1, by omega, rfl, .inr ⟨by omega, rfl⟩⟩
    · rw [if_pos k] at hrv
      rw [show decide (sg d.num < 0) = false by rw [sg_lt, decide_eq_false (by omega)]] at hls
      have hcell : ratC (r[i]'(by omega)) = ratC a[i] := by rw [hrv]
      rcases hst with ⟨h0, rfl⟩ | ⟨h0, rfl⟩
      · repeat' first|refine sY ⟨?_⟩|(refine sq ?_ ?_<;>refine fun h=>⟨?_⟩<;>(first|contradiction|(exfalso;omega)|skip))|fail
        refine ⟨by decide +kernel, [0, 0, 3, 0, 0, 31, 0, 0, 255, 511], by decide +kernel, ?_⟩
        repeat' first|refine sY ⟨?_⟩|(refine sq ?_ ?_<;>refine fun h=>⟨?_⟩<;>(first|contradiction|(exfalso;omega)|skip))|fail
        conv => whnf
        refine ⟨Nat.le_of_ble_eq_true rfl, fun h => Nat.succ_ne_zero _ (congrArg List.length h), ?_⟩
        repeat' first|refine sY ⟨?_⟩|(refine sq ?_ ?_<;>refine fun h=>⟨?_⟩<;>(first|contradiction|(exfalso;omega)|skip))|fail
        refine ⟨[0, 1, 2, 6], a.length - (i + 1), rfl, by omega, i + 1, by omega, rfl, .inr ⟨by omega, ?_⟩⟩
        have hone : rowA (r.take (i + 1)) = [ratC a[i]] := by subst h0; rw [rowA_one (by omega), ← hcell]
        exact Eq.trans rfl (congrArg (fun z : List (List AV) => (⟨[(0, .str sMax), (4, .bptr 0 0), (5, .bptr 1 0), (6, .bptr 2 0), (7, .own 3 0 z.length), (8, .int .i64 ((i + 1 : Nat) : Int))], [.box 40 [.ro 1 (rowZ s), .ro 1 (rowR a)], .box 40 [.ro 1 (rowZ s), .ro 1 (rowR b)], .box 40 [.nils, .nils], .row false 100 2 z]⟩ : St)) hone.symm)
      · have hsn : rowA (r.take (i + 1)) = List.take (rowA (r.take i)).length (rowA (r.take i)) ++ [ratC a[i]] := by rw [rowA_snoc (by omega), hcell]
        repeat' first|refine sY ⟨?_⟩|(refine sq ?_ ?_<;>refine fun h=>⟨?_⟩<;>(first|contradiction|(exfalso;omega)|skip))|fail
        refine ⟨by decide +kernel, [0, 0, 3, 0, 0, 31, 0, 0, 255, 511], by decide +kernel, ?_⟩
        repeat' first|refine sY ⟨?_⟩|(refine sq ?_ ?_<;>refine fun h=>⟨?_⟩<;>(first|contradiction|(exfalso;omega)|skip))|fail
        refine ⟨Nat.le_refl _, (show ((rowA (r.take i)).length + 1) * 32 ≤ 140737488355328 by omega), _, hsn, ?_⟩
        repeat' first|refine sY ⟨?_⟩|(refine sq ?_ ?_<;>refine fun h=>⟨?_⟩<;>(first|contradiction|(exfalso;omega)|skip))|fail
        all_goals exact ⟨[0, 1, 2, 7], a.length - (i + 1), rfl, by omega, i + 1, by omega, rfl, .inr ⟨by omega, rfl⟩⟩
  · rcases hst with ⟨rfl, rfl⟩ | ⟨h0, rfl⟩
    · exact absurd hge (by omega)
    · have e : r.take i = r := List.take_of_length_le (by omega)
      rw [e]
      cases X with
      | nil => simp at hXl; omega
      | cons c0 cs0 =>
        cases s
        all_goals (repeat' first|refine sY ⟨?_⟩|(refine sq ?_ ?_<;>refine fun h=>⟨?_⟩<;>(first|contradiction|(exfalso;omega)|skip))|fail)
        all_goals (conv => whnf)
        all_goals rfl
set_option maxHeartbeats 4000000 in
theorem c_r07_Above {s : List Int} {a b : List Rat} (ha : VT s a) (hb : VT s b) (hd : ∀ i (h : i < a.length), RS (a[i] - b[i]'(by have := ha.len; have := hb.len; omega))) (hrs : ∀ x ∈ List.zipWith aboveR a b, RS x) :
    VCall Go.Proofs.Tryz.prog GL 73 [.str sAbove, tenR s a, tenR s b] (fun y => y = tenR s (List.zipWith aboveR a b)) := by
  have hv := ha.vl
  have hl : b.length = a.length := by have := ha.len; have := hb.len; omega
  have hal := rowR_length a
  have hbl := rowR_length b
  obtain ⟨r, hr⟩ : ∃ r, r = List.zipWith aboveR a b := ⟨_, rfl⟩
  rw [← hr]
  have hrl : r.length = a.length := by rw [hr, List.length_zipWith]; omega
  have hrg : ∀ i (hi : i < a.length), r[i]'(by omega) = aboveR a[i] (b[i]'(by omega)) := fun i hi => by subst hr; exact List.getElem_zipWith ..
  have hof := c_r05_Of s r (by rw [hr]; exact hrs) (by omega)
  rw [own_allA (r := r) (n := (rowA r).length) rfl] at hof
  obtain ⟨X, hX⟩ : ∃ X, X = rowR r := ⟨_, rfl⟩
  have hXl : X.length = a.length := by rw [hX, rowR_length]; omega
  have e0 : tenR s r = .agg [.ro 1 (rowZ s), .ro 1 X] := by rw [tenR, hX]
  rw [e0] at hof ⊢
  clear hr hrs hX e0
  have ata := fun i (hi : i < a.length) => c_r05_At s (i := i) hi ha.rs
  have atb := fun i (hi : i < b.length) => c_r05_At s (i := i) hi hb.rs
  unfold tenR at ata atb ⊢
  refine vcall_of TOK_r07_Two HM Go.Proofs.Tryz.func73 rfl (by decide +kernel) (by decide +kernel) rfl ?_
  repeat' first|refine sY ⟨?_⟩|(refine sq ?_ ?_<;>refine fun h=>⟨?_⟩<;>(first|contradiction|(exfalso;omega)|skip))|fail
  refine ⟨[0, 4, 5, 6, 7, 8], [0, 1, 2], fun m st => ∃ i : Nat, i ≤ a.length ∧ m = a.length - i ∧
    ((i = 0 ∧ st = ⟨[(0, .str sAbove), (4, .bptr 0 0), (5, .bptr 1 0), (6, .bptr 2 0), (7, .nils), (8, .int .i64 (i : Nat))], [.box 40 [.ro 1 (rowZ s), .ro 1 (rowR a)], .box 40 [.ro 1 (rowZ s), .ro 1 (rowR b)], .box 40 [.nils, .nils]]⟩) ∨
    (0 < i ∧ st = ⟨[(0, .str sAbove), (4, .bptr 0 0), (5, .bptr 1 0), (6, .bptr 2 0), (7, .own 3 0 (rowA (r.take i)).length), (8, .int .i64 (i : Nat))], [.box 40 [.ro 1 (rowZ s), .ro 1 (rowR a)], .box 40 [.ro 1 (rowZ s), .ro 1 (rowR b)], .box 40 [.nils, .nils], .row false 100 2 (rowA (r.take i))]⟩)), rfl, ⟨a.length, 0, by omega, rfl, .inl ⟨rfl, rfl⟩⟩, ?_⟩
  rintro m _ ⟨i, hi, hm, hst⟩
  have hol : (rowA (r.take i)).length = i := by rw [rowA_length, List.length_take]; omega
  rcases Nat.lt_or_ge i a.length with hil | hge
  · have h1 := ata i hil
    have h2 := atb i (by omega)
    have hls := c_r07_Less (ha.rs a[i] (List.getElem_mem hil)) (hb.rs (b[i]'(by omega)) (List.getElem_mem _)) (hd i hil)
    have hrv := hrg i hil
    unfold aboveR at hrv
    unfold ratA at h1 h2 hls
    generalize a[i] - b[i]'(by omega) = d at hls hrv
    rcases (by omega : d.num < 0 ∨ 0 ≤ d.num) with k | k
    · rw [if_neg (by omega)] at hrv
      rw [show decide (sg d.num < 0) = true by rw [sg_lt, decide_eq_true k]] at hls
      have hcell : ratC (r[i]'(by omega)) = [.str ⟨#[48]⟩, .str ⟨#[49]⟩] := by rw [hrv, ratC_zero]
      rcases hst with ⟨h0, rfl⟩ | ⟨h0, rfl⟩
      · repeat' first|refine sY ⟨?_⟩|(refine sq ?_ ?_<;>refine fun h=>⟨?_⟩<;>(first|contradiction|(exfalso;omega)|skip))|fail
        refine ⟨by decide +kernel, [0, 0, 3, 0, 0, 31, 0, 0, 255, 511], by decide +kernel, ?_⟩
        repeat' first|refine sY ⟨?_⟩|(refine sq ?_ ?_<;>refine fun h=>⟨?_⟩<;>(first|contradiction|(exfalso;omega)|skip))|fail
        conv => whnf
        refine ⟨Nat.le_of_ble_eq_true rfl, fun h => Nat.succ_ne_zero _ (congrArg List.length h), ?_⟩
        repeat' first|refine sY ⟨?_⟩|(refine sq ?_ ?_<;>refine fun h=>⟨?_⟩<;>(first|contradiction|(exfalso;omega)|skip))|fail
        refine ⟨[0, 1, 2, 6], a.length - (i + 1), rfl, by omega, i + 1, by omega, rfl, .inr ⟨by omega, ?_⟩⟩
        have hone : rowA (r.take (i + 1)) = [[.str ⟨#[48]⟩, .str ⟨#[49]⟩]] := by subst h0; rw [rowA_one (by omega), ← hcell]
        exact Eq.trans rfl (congrArg (fun z : List (List AV) => (⟨[(0, .str sAbove), (4, .bptr 0 0), (5, .bptr 1 0), (6, .bptr 2 0), (7, .own 3 0 z.length), (8, .int .i64 ((i + 1 : Nat) : Int))], [.box 40 [.ro 1 (rowZ s), .ro 1 (rowR a)], .box 40 [.ro 1 (rowZ s), .ro 1 (rowR b)], .box 40 [.nils, .nils], .row false 100 2 z]⟩ : St)) hone.symm)
      · have hsn : rowA (r.take (i + 1)) = List.take (rowA (r.take i)).length (rowA (r.take i)) ++ [[.str ⟨#[48]⟩, .str ⟨#[49]⟩]] := by rw [rowA_snoc (by omega), hcell]
        repeat' first|refine sY ⟨?_⟩|(refine sq ?_ ?_<;>refine fun h=>⟨?_⟩<;>(first|contradiction|(exfalso;omega)|skip))|fail
        refine ⟨by decide +kernel, [0, 0, 3, 0, 0, 31, 0, 0, 255, 511], by decide +kernel, ?_⟩
        repeat' first|refine sY ⟨?_⟩|(refine sq ?_ ?_<;>refine fun h=>⟨?_⟩<;>(first|contradiction|(exfalso;omega)|skip))|fail
        refine ⟨Nat.le_refl _, (show ((rowA (r.take i)).length + 1) * 32 ≤ 140737488355328 by omega), _, hsn, ?_⟩
        repeat' first|refine sY ⟨?_⟩|(refine sq ?_ ?_<;>refine fun h=>⟨?_⟩<;>(first|contradiction|(exfalso;omega)|skip))|fail
        all_goals exact ⟨[0, 1, 2, 7], a.length - (i + 1), rfl, by omega, i + 1, by omega, rfl, .inr ⟨by omega, rfl⟩⟩
    · rw [if_pos k] at hrv
      rw [show decide (sg d.num < 0) = false by rw [sg_lt, decide_eq_false (by omega)]] at hls
      have hcell : ratC (r[i]'(by omega)) = [.str ⟨#[49]⟩, .str ⟨#[49]⟩] := by rw [hrv, ratC_one]
      rcases hst with ⟨h0, rfl⟩ | ⟨h0, rfl⟩
      · repeat' first|refine sY ⟨?_⟩|(refine sq ?_ ?_<;>refine fun h=>⟨?_⟩<;>(first|contradiction|(exfalso;omega)|skip))|fail
        refine ⟨by decide +kernel, [0, 0, 3, 0, 0, 31, 0, 0, 255, 511], by decide +kernel, ?_⟩
        repeat' first|refine sY ⟨?_⟩|(refine sq ?_ ?_<;>refine fun h=>⟨?_⟩<;>(first|contradiction|(exfalso;omega)|skip))|fail
        conv => whnf
        refine ⟨Nat.le_of_ble_eq_true rfl, fun h => Nat.succ_ne_zero _ (congrArg List.length h), ?_⟩
        repeat' first|refine sY ⟨?_⟩|(refine sq ?_ ?_<;>refine fun h=>⟨?_⟩<;>(first|contradiction|(exfalso;omega)|skip))|fail
        refine ⟨[0, 1, 2, 6], a.length - (i + 1), rfl, by omega, i + 1, by omega, rfl, .inr ⟨by omega, ?_⟩⟩
        have hone : rowA (r.take (i + 1)) = [[.str ⟨#[49]⟩, .str ⟨#[49]⟩]] := by subst h0; rw [rowA_one (by omega), ← hcell]
        exact Eq.trans rfl (congrArg (fun z : List (List AV) => (⟨[(0, .str sAbove), (4, .bptr 0 0), (5, .bptr 1 0), (6, .bptr 2 0), (7, .own 3 0 z.length), (8, .int .i64 ((i + 1 : Nat) : Int))], [.box 40 [.ro 1 (rowZ s), .ro 1 (rowR a)], .box 40 [.ro 1 (rowZ s), .ro 1 (rowR b)], .box 40 [.nils, .nils], .row false 100 2 z]⟩ : St)) hone.symm)
      · have hsn : rowA (r.take (i + 1)) = List.take (rowA (r.take i)).length (rowA (r.take i)) ++ [[.str ⟨#[49]⟩, .str ⟨#[49]⟩]] := by rw [rowA_snoc (by omega), hcell]
        repeat' first|refine sY ⟨?_⟩|(refine sq ?_ ?_<;>refine fun h=>⟨?_⟩<;>(first|contradiction|(exfalso;omega)|skip))|fail
        refine ⟨by decide +kernel, [0, 0, 3, 0, 0, 31, 0, 0, 255, 511], by decide +kernel, ?_⟩
        repeat' first|refine sY ⟨?_⟩|(refine sq ?_ ?_<;>refine fun h=>⟨?_⟩<;>(first|contradiction|(exfalso;omega)|skip))|fail
        refine ⟨Nat.le_refl _, (show ((rowA (r.take i)).length + 1) * 32 ≤ 140737488355328 by omega), _, hsn, ?_⟩
        repeat' first|refine sY ⟨?_⟩|(refine sq ?_ ?_<;>refine fun h=>⟨?_⟩<;>(first|contradiction|(exfalso;omega)|skip))|fail
        all_goals exact ⟨[0, 1, 2, 7], a.length - (i + 1), rfl, by omega, i + 1, by omega, rfl, .inr ⟨by omega, rfl⟩⟩
  · rcases hst with ⟨rfl, rfl⟩ | ⟨h0, rfl⟩
    · exact absurd hge (by omega)
    · have e : r.take i = r := List.take_of_length_le (by omega)
      rw [e]
      cases X with
      | nil => simp at hXl; omega
      | cons c0 cs0 =>
        cases s
        all_goals (repeat' first|refine sY ⟨?_⟩|(refine sq ?_ ?_<;>refine fun h=>⟨?_⟩<;>(first|contradiction|(exfalso;omega)|skip))|fail)
        all_goals (conv => whnf)
        all_goals rfl
end Go.V
