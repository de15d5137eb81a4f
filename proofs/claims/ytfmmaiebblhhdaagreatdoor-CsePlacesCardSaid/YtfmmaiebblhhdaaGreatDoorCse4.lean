/-
  Lemmas (part 4) for: CseMerges, CsePlaces and CseNone: merging equal nodes of any graph answers as the document says, for every input; no condition.
-/
import Derived.Test.YtfmmaiebblhhdaaGreatDoorCse3
import Derived.Lib.Bytealg
import Derived.Laws.Externs
set_option linter.all false
namespace Go.V
open Go.N
variable (gl : Gl)
def T_r01_Sub : Tab := [(9, i9), (3, i3), (27, i27)]
theorem TOK_r01_Sub : TOK Go.Proofs.Tryz.prog T_r01_Sub := ⟨K9, ⟨K3, ⟨K27, trivial⟩⟩⟩
set_option maxHeartbeats 2000000 in
theorem c_r01_Sub (m n : Nat) (hmn : n ≤ m) (hn : (dec m).length < 2000000) : VCall Go.Proofs.Tryz.prog gl 68 [.str (decB m), .str (decB n)] (fun x => x = .str (decB (m - n))) := by
  refine vcall_of TOK_r01_Sub HM Go.Proofs.Tryz.func68 rfl (by decide +kernel) (by decide +kernel) rfl ?_
  have hz := decB_size m
  have hz2 : (dec n).length ≤ (dec m).length := by
    by_cases h : (dec m).length < (dec n).length
    · have := dec_len_lt_of h; omega
    · omega
  repeat' ((conv => whnf); first | (with_reducible first | apply Xa | (first | apply xi | apply xu | apply x8 | apply x3 | apply xn | apply xp | apply xP | refine xs ?_ ?_ | refine xS ?_ ?_ | refine xZ ?_ ?_ | refine xl ?_ ?_ | refine xd ?_ ?_ | refine xy ?_ ?_ | refine xL ?_ ?_ | refine xD ?_ ?_ | apply xx); omega | apply Xm | apply Xe) | refine Xo (by assumption) ?_ | refine Or.inl ⟨rfl, ?_⟩ | (split <;> (first | (rename_i u h; clear u) | rename_i h) <;> (try rewrite [h]) <;> (first | replace h := dt h | replace h := df h | replace h := Nt h | replace h := Nf h | skip)))
  refine ⟨[0, 1, 5, 6, 7], [], fun k st => ∃ (i : Nat) (L : List Nat) (c : Nat), i ≤ (dec m).length ∧ k = (dec m).length - i ∧ L.length = i ∧ (∀ x ∈ L, x < 10) ∧ c ≤ 1 ∧ m % 10 ^ i + c * 10 ^ i = n % 10 ^ i + lsum L ∧
    ((i = 0 ∧ L = [] ∧ st = ⟨[(0, .str (decB m)), (1, .str (decB n)), (5, .nils), (6, .int .i64 (c : Nat)), (7, .int .i64 (i : Nat))], []⟩) ∨
    (st = ⟨[(0, .str (decB m)), (1, .str (decB n)), (5, .own 0 0 (ints L).length), (6, .int .i64 (c : Nat)), (7, .int .i64 (i : Nat))], [.row false 3 1 (ints L)]⟩)), rfl,
    ⟨(dec m).length, 0, [], 0, by omega, rfl, rfl, by simp, by omega, by simp [lsum, Nat.mod_one], .inl ⟨rfl, rfl, rfl⟩⟩, ?_⟩
  rintro k _ ⟨i, L, c, hi, hk, hLi, hL, hc, hs, ⟨hi0, hL0, rfl⟩ | rfl⟩
  · repeat' ((conv => whnf); first | (with_reducible first | apply Xa | (first | apply xi | apply xu | apply x8 | apply x3 | apply xn | apply xp | apply xP | refine xs ?_ ?_ | refine xS ?_ ?_ | refine xZ ?_ ?_ | refine xl ?_ ?_ | refine xd ?_ ?_ | refine xy ?_ ?_ | refine xL ?_ ?_ | refine xD ?_ ?_ | apply xx); omega | apply Xm | apply Xe) | refine Xo (by assumption) ?_ | refine Or.inl ⟨rfl, ?_⟩ | (split <;> (first | (rename_i u h; clear u) | rename_i h) <;> (try rewrite [h]) <;> (first | replace h := dt h | replace h := df h | replace h := Nt h | replace h := Nf h | skip)))
    refine .inl ⟨_, c_r01_digit gl m i (by omega) (by omega), ?_⟩
    rintro _ rfl
    repeat' ((conv => whnf); first | (with_reducible first | apply Xa | (first | apply xi | apply xu | apply x8 | apply x3 | apply xn | apply xp | apply xP | refine xs ?_ ?_ | refine xS ?_ ?_ | refine xZ ?_ ?_ | refine xl ?_ ?_ | refine xd ?_ ?_ | refine xy ?_ ?_ | refine xL ?_ ?_ | refine xD ?_ ?_ | apply xx); omega | apply Xm | apply Xe) | refine Xo (by assumption) ?_ | refine Or.inl ⟨rfl, ?_⟩ | (split <;> (first | (rename_i u h; clear u) | rename_i h) <;> (try rewrite [h]) <;> (first | replace h := dt h | replace h := df h | replace h := Nt h | replace h := Nf h | skip)))
    refine .inl ⟨_, c_r01_digit gl n i (by omega) (by omega), ?_⟩
    rintro _ rfl
    have h1 := dig_lt m i
    have h2 := dig_lt n i
    have s1 := mod_succ m i
    have s2 := mod_succ n i
    have hp : 10 ^ (i + 1) = 10 ^ i * 10 := Nat.pow_succ ..
    have la : ∀ x, lsum (L ++ [x]) = lsum L + 10 ^ i * x := fun x => by rw [lsum_append, hLi]
    have ld : ∀ x, x < 10 → ∀ y ∈ L ++ [x], y < 10 := fun x hx y hy => by
      simp only [List.mem_append, List.mem_singleton] at hy
      rcases hy with hy | rfl
      · exact hL y hy
      · exact hx
    have fin : dig m i < dig n i + c → m % 10 ^ (i + 1) + 1 * 10 ^ (i + 1) = n % 10 ^ (i + 1) + lsum (L ++ [dig m i + 10 - dig n i - c]) := fun h => by
      rw [s1, s2, hp, la]
      have : 10 ^ i * (dig m i + 10 - dig n i - c) + 10 ^ i * dig n i + c * 10 ^ i = 10 ^ i * dig m i + 10 ^ i * 10 := by
        rw [Nat.mul_comm c, ← Nat.mul_add, ← Nat.mul_add, ← Nat.mul_add]; congr 1; omega
      omega
    have fin2 : ¬ dig m i < dig n i + c → m % 10 ^ (i + 1) + 0 * 10 ^ (i + 1) = n % 10 ^ (i + 1) + lsum (L ++ [dig m i - dig n i - c]) := fun h => by
      rw [s1, s2, la]
      have : 10 ^ i * (dig m i - dig n i - c) + 10 ^ i * dig n i + c * 10 ^ i = 10 ^ i * dig m i := by
        rw [Nat.mul_comm c, ← Nat.mul_add, ← Nat.mul_add]; congr 1; omega
      omega
    repeat' ((conv => whnf); first | (with_reducible first | apply Xa | (first | apply xi | apply xu | apply x8 | apply x3 | apply xn | apply xp | apply xP | refine xs ?_ ?_ | refine xS ?_ ?_ | refine xZ ?_ ?_ | refine xl ?_ ?_ | refine xd ?_ ?_ | refine xy ?_ ?_ | refine xL ?_ ?_ | refine xD ?_ ?_ | apply xx); omega | apply Xm | apply Xe) | refine Xo (by assumption) ?_ | refine Or.inl ⟨rfl, ?_⟩ | (split <;> (first | (rename_i u h; clear u) | rename_i h) <;> (try rewrite [h]) <;> (first | replace h := dt h | replace h := df h | replace h := Nt h | replace h := Nf h | skip)))
    · conv => whnf
      refine ⟨Nat.le_of_ble_eq_true rfl, List.cons_ne_nil _ _, ?_⟩
      repeat' ((conv => whnf); first | (with_reducible first | apply Xa | (first | apply xi | apply xu | apply x8 | apply x3 | apply xn | apply xp | apply xP | refine xs ?_ ?_ | refine xS ?_ ?_ | refine xZ ?_ ?_ | refine xl ?_ ?_ | refine xd ?_ ?_ | refine xy ?_ ?_ | refine xL ?_ ?_ | refine xD ?_ ?_ | apply xx); omega | apply Xm | apply Xe) | refine Xo (by assumption) ?_ | refine Or.inl ⟨rfl, ?_⟩ | (split <;> (first | (rename_i u h; clear u) | rename_i h) <;> (try rewrite [h]) <;> (first | replace h := dt h | replace h := df h | replace h := Nt h | replace h := Nf h | skip)))
      refine ⟨[1], (dec m).length - (i + 1), rfl, by omega, i + 1, _, 1, by omega, rfl, by simp [hLi], ld _ (by omega), by omega, fin (by omega), .inr ?_⟩
      have he : ints (L ++ [dig m i + 10 - dig n i - c]) = [[.int .i64 ((dig m i : Int) - (dig n i : Nat) - (c : Nat) + 10)]] := by rw [hL0]; exact ints_one _ (by omega)
      exact Eq.trans rfl (congrArg (fun r : List (List AV) => (⟨[(0, .str (decB m)), (1, .str (decB n)), (5, .own 0 0 r.length), (6, .int .i64 ((1 : Nat) : Int)), (7, .int .i64 ((i + 1 : Nat) : Int))], [.row false 3 1 r]⟩ : St)) he.symm)
    · conv => whnf
      refine ⟨Nat.le_of_ble_eq_true rfl, List.cons_ne_nil _ _, ?_⟩
      repeat' ((conv => whnf); first | (with_reducible first | apply Xa | (first | apply xi | apply xu | apply x8 | apply x3 | apply xn | apply xp | apply xP | refine xs ?_ ?_ | refine xS ?_ ?_ | refine xZ ?_ ?_ | refine xl ?_ ?_ | refine xd ?_ ?_ | refine xy ?_ ?_ | refine xL ?_ ?_ | refine xD ?_ ?_ | apply xx); omega | apply Xm | apply Xe) | refine Xo (by assumption) ?_ | refine Or.inl ⟨rfl, ?_⟩ | (split <;> (first | (rename_i u h; clear u) | rename_i h) <;> (try rewrite [h]) <;> (first | replace h := dt h | replace h := df h | replace h := Nt h | replace h := Nf h | skip)))
      refine ⟨[1], (dec m).length - (i + 1), rfl, by omega, i + 1, _, 0, by omega, rfl, by simp [hLi], ld _ (by omega), by omega, fin2 (by omega), .inr ?_⟩
      have he : ints (L ++ [dig m i - dig n i - c]) = [[.int .i64 ((dig m i : Int) - (dig n i : Nat) - (c : Nat))]] := by rw [hL0]; exact ints_one _ (by omega)
      exact Eq.trans rfl (congrArg (fun r : List (List AV) => (⟨[(0, .str (decB m)), (1, .str (decB n)), (5, .own 0 0 r.length), (6, .int .i64 ((0 : Nat) : Int)), (7, .int .i64 ((i + 1 : Nat) : Int))], [.row false 3 1 r]⟩ : St)) he.symm)
    · have := List.length_pos_iff.2 (dec_ne m)
      omega
  · repeat' ((conv => whnf); first | (with_reducible first | apply Xa | (first | apply xi | apply xu | apply x8 | apply x3 | apply xn | apply xp | apply xP | refine xs ?_ ?_ | refine xS ?_ ?_ | refine xZ ?_ ?_ | refine xl ?_ ?_ | refine xd ?_ ?_ | refine xy ?_ ?_ | refine xL ?_ ?_ | refine xD ?_ ?_ | apply xx); omega | apply Xm | apply Xe) | refine Xo (by assumption) ?_ | refine Or.inl ⟨rfl, ?_⟩ | (split <;> (first | (rename_i u h; clear u) | rename_i h) <;> (try rewrite [h]) <;> (first | replace h := dt h | replace h := df h | replace h := Nt h | replace h := Nf h | skip)))
    refine .inl ⟨_, c_r01_digit gl m i (by omega) (by omega), ?_⟩
    rintro _ rfl
    repeat' ((conv => whnf); first | (with_reducible first | apply Xa | (first | apply xi | apply xu | apply x8 | apply x3 | apply xn | apply xp | apply xP | refine xs ?_ ?_ | refine xS ?_ ?_ | refine xZ ?_ ?_ | refine xl ?_ ?_ | refine xd ?_ ?_ | refine xy ?_ ?_ | refine xL ?_ ?_ | refine xD ?_ ?_ | apply xx); omega | apply Xm | apply Xe) | refine Xo (by assumption) ?_ | refine Or.inl ⟨rfl, ?_⟩ | (split <;> (first | (rename_i u h; clear u) | rename_i h) <;> (try rewrite [h]) <;> (first | replace h := dt h | replace h := df h | replace h := Nt h | replace h := Nf h | skip)))
    refine .inl ⟨_, c_r01_digit gl n i (by omega) (by omega), ?_⟩
    rintro _ rfl
    have h1 := dig_lt m i
    have h2 := dig_lt n i
    have s1 := mod_succ m i
    have s2 := mod_succ n i
    have hp : 10 ^ (i + 1) = 10 ^ i * 10 := Nat.pow_succ ..
    have la : ∀ x, lsum (L ++ [x]) = lsum L + 10 ^ i * x := fun x => by rw [lsum_append, hLi]
    have ld : ∀ x, x < 10 → ∀ y ∈ L ++ [x], y < 10 := fun x hx y hy => by
      simp only [List.mem_append, List.mem_singleton] at hy
      rcases hy with hy | rfl
      · exact hL y hy
      · exact hx
    have fin : dig m i < dig n i + c → m % 10 ^ (i + 1) + 1 * 10 ^ (i + 1) = n % 10 ^ (i + 1) + lsum (L ++ [dig m i + 10 - dig n i - c]) := fun h => by
      rw [s1, s2, hp, la]
      have : 10 ^ i * (dig m i + 10 - dig n i - c) + 10 ^ i * dig n i + c * 10 ^ i = 10 ^ i * dig m i + 10 ^ i * 10 := by
        rw [Nat.mul_comm c, ← Nat.mul_add, ← Nat.mul_add, ← Nat.mul_add]; congr 1; omega
      omega
    have fin2 : ¬ dig m i < dig n i + c → m % 10 ^ (i + 1) + 0 * 10 ^ (i + 1) = n % 10 ^ (i + 1) + lsum (L ++ [dig m i - dig n i - c]) := fun h => by
      rw [s1, s2, la]
      have : 10 ^ i * (dig m i - dig n i - c) + 10 ^ i * dig n i + c * 10 ^ i = 10 ^ i * dig m i := by
        rw [Nat.mul_comm c, ← Nat.mul_add, ← Nat.mul_add]; congr 1; omega
      omega
    repeat' ((conv => whnf); first | (with_reducible first | apply Xa | (first | apply xi | apply xu | apply x8 | apply x3 | apply xn | apply xp | apply xP | refine xs ?_ ?_ | refine xS ?_ ?_ | refine xZ ?_ ?_ | refine xl ?_ ?_ | refine xd ?_ ?_ | refine xy ?_ ?_ | refine xL ?_ ?_ | refine xD ?_ ?_ | apply xx); omega | apply Xm | apply Xe) | refine Xo (by assumption) ?_ | refine Or.inl ⟨rfl, ?_⟩ | (split <;> (first | (rename_i u h; clear u) | rename_i h) <;> (try rewrite [h]) <;> (first | replace h := dt h | replace h := df h | replace h := Nt h | replace h := Nf h | skip)))
    · conv => whnf
      refine ⟨Nat.le_refl _, (show (_ + 1) * 8 ≤ _ by simp; omega), _, ints_snoc' L (dig m i + 10 - dig n i - c) (e := (dig m i : Int) - (dig n i : Nat) - (c : Nat) + 10) (by omega), ?_⟩
      repeat' ((conv => whnf); first | (with_reducible first | apply Xa | (first | apply xi | apply xu | apply x8 | apply x3 | apply xn | apply xp | apply xP | refine xs ?_ ?_ | refine xS ?_ ?_ | refine xZ ?_ ?_ | refine xl ?_ ?_ | refine xd ?_ ?_ | refine xy ?_ ?_ | refine xL ?_ ?_ | refine xD ?_ ?_ | apply xx); omega | apply Xm | apply Xe) | refine Xo (by assumption) ?_ | refine Or.inl ⟨rfl, ?_⟩ | (split <;> (first | (rename_i u h; clear u) | rename_i h) <;> (try rewrite [h]) <;> (first | replace h := dt h | replace h := df h | replace h := Nt h | replace h := Nf h | skip)))
      refine ⟨[2], (dec m).length - (i + 1), rfl, by omega, i + 1, _, 1, by omega, rfl, by simp [hLi], ld _ (by omega), by omega, fin (by omega), .inr ?_⟩
      rfl
    · conv => whnf
      refine ⟨Nat.le_refl _, (show (_ + 1) * 8 ≤ _ by simp; omega), _, ints_snoc' L (dig m i - dig n i - c) (e := (dig m i : Int) - (dig n i : Nat) - (c : Nat)) (by omega), ?_⟩
      repeat' ((conv => whnf); first | (with_reducible first | apply Xa | (first | apply xi | apply xu | apply x8 | apply x3 | apply xn | apply xp | apply xP | refine xs ?_ ?_ | refine xS ?_ ?_ | refine xZ ?_ ?_ | refine xl ?_ ?_ | refine xd ?_ ?_ | refine xy ?_ ?_ | refine xL ?_ ?_ | refine xD ?_ ?_ | apply xx); omega | apply Xm | apply Xe) | refine Xo (by assumption) ?_ | refine Or.inl ⟨rfl, ?_⟩ | (split <;> (first | (rename_i u h; clear u) | rename_i h) <;> (try rewrite [h]) <;> (first | replace h := dt h | replace h := df h | replace h := Nt h | replace h := Nf h | skip)))
      refine ⟨[2], (dec m).length - (i + 1), rfl, by omega, i + 1, _, 0, by omega, rfl, by simp [hLi], ld _ (by omega), by omega, fin2 (by omega), .inr ?_⟩
      rfl
    · have hlt := lt_pow_len m
      have hi2 : i = (dec m).length := by omega
      rw [← hi2] at hlt
      rw [Nat.mod_eq_of_lt hlt, Nat.mod_eq_of_lt (by omega)] at hs
      have hl := lsum_lt hL
      rw [hLi] at hl
      have hc0 : c = 0 := by
        rcases Nat.lt_or_ge c 1 with h | h
        · omega
        · obtain rfl : c = 1 := by omega
          omega
      subst hc0
      have e : lsum L = m - n := by omega
      conv => whnf
      have hcall := c_r01_of gl L hL (by omega)
      rw [← List.take_length (l := ints L), ← List.drop_zero (l := ints L), e] at hcall
      refine .inl ⟨_, hcall, ?_⟩
      rintro _ rfl
      repeat' ((conv => whnf); first | (with_reducible first | apply Xa | (first | apply xi | apply xu | apply x8 | apply x3 | apply xn | apply xp | apply xP | refine xs ?_ ?_ | refine xS ?_ ?_ | refine xZ ?_ ?_ | refine xl ?_ ?_ | refine xd ?_ ?_ | refine xy ?_ ?_ | refine xL ?_ ?_ | refine xD ?_ ?_ | apply xx); omega | apply Xm | apply Xe) | refine Xo (by assumption) ?_ | refine Or.inl ⟨rfl, ?_⟩ | (split <;> (first | (rename_i u h; clear u) | rename_i h) <;> (try rewrite [h]) <;> (first | replace h := dt h | replace h := df h | replace h := Nt h | replace h := Nf h | skip)))
      conv => whnf
      rfl
end Go.V
namespace Go.V
open Go.N
variable (gl : Gl)
def T_r01_Div : Tab := [(9, i9), (3, i3), (5, i5), (61, i61)]
theorem TOK_r01_Div : TOK Go.Proofs.Tryz.prog T_r01_Div := ⟨K9, ⟨K3, ⟨K5, ⟨K61, trivial⟩⟩⟩⟩
def T_r01_Gcd : Tab := [(9, i9)]
theorem TOK_r01_Gcd : TOK Go.Proofs.Tryz.prog T_r01_Gcd := ⟨K9, trivial⟩
set_option maxHeartbeats 2000000 in
theorem c_r01_Div (m n : Nat) (hn0 : 0 < n) (hm : (dec m).length < 1000000) (hn : (dec n).length < 1000000) : VCall Go.Proofs.Tryz.prog gl 55 [.str (decB m), .str (decB n)] (fun x => x = .tup [.str (decB (m / n)), .str (decB (m % n))]) := by
  refine vcall_of TOK_r01_Div HM Go.Proofs.Tryz.func55 rfl (by decide +kernel) (by decide +kernel) rfl ?_
  have hz := decB_size m
  have hzn := decB_size n
  repeat' ((conv => whnf); first | (with_reducible first | apply Xa | (first | apply xi | apply xu | apply x8 | apply x3 | apply xn | apply xp | apply xP | refine xs ?_ ?_ | refine xS ?_ ?_ | refine xZ ?_ ?_ | refine xl ?_ ?_ | refine xd ?_ ?_ | refine xy ?_ ?_ | refine xL ?_ ?_ | refine xD ?_ ?_ | apply xx); omega | apply Xm | apply Xe) | refine Xo (by assumption) ?_ | refine Or.inl ⟨rfl, ?_⟩ | (split <;> (first | (rename_i u h; clear u) | rename_i h) <;> (try rewrite [h]) <;> (first | replace h := dt h | replace h := df h | replace h := Nt h | replace h := Nf h | skip)))
  refine ⟨[0, 1, 6, 7, 8], [], fun k st => ∃ (i : Nat) (q : ByteArray) (r : Nat), i ≤ (dec m).length ∧ k = (dec m).length - i ∧ q.toList.all isDig = true ∧ q.size = i ∧ r < n ∧ dval ((dec m).take i) = dval q.toList * n + r ∧
    st = ⟨[(0, .str (decB m)), (1, .str (decB n)), (6, .str q), (7, .str (decB r)), (8, .int .i64 (i : Nat))], []⟩, rfl,
    ⟨(dec m).length, 0, ⟨#[]⟩, 0, by omega, rfl, by rw [ByteArray.toList_eq]; rfl, rfl, hn0, by rw [ByteArray.toList_eq]; simp [dval], by rw [← zero_decB]; rfl⟩, ?_⟩
  rintro k _ ⟨i, q, r, hi, hk, hq, hqi, hr, hv, rfl⟩
  have hzr := decB_size r
  have hrn : (dec r).length ≤ (dec n).length := dec_mono (by omega)
  repeat' ((conv => whnf); first | (with_reducible first | apply Xa | (first | apply xi | apply xu | apply x8 | apply x3 | apply xn | apply xp | apply xP | refine xs ?_ ?_ | refine xS ?_ ?_ | refine xZ ?_ ?_ | refine xl ?_ ?_ | refine xd ?_ ?_ | refine xy ?_ ?_ | refine xL ?_ ?_ | refine xD ?_ ?_ | apply xx); omega | apply Xm | apply Xe) | refine Xo (by assumption) ?_ | refine Or.inl ⟨rfl, ?_⟩ | (split <;> (first | (rename_i u h; clear u) | rename_i h) <;> (try rewrite [h]) <;> (first | replace h := dt h | replace h := df h | replace h := Nt h | replace h := Nf h | skip)))
  · have hlt : i < (dec m).length := by omega
    have hs : ((decB m).extract (i : Int).toNat ((i : Int) + 1).toNat).toList = [(dec m)[i]] := by
      rw [ext_toList, decB_toList, show (i : Int).toNat = i by omega, show ((i : Int) + 1).toNat = i + 1 by omega, show i + 1 - i = 1 by omega, List.drop_eq_getElem_cons hlt]; rfl
    have hsz : ((decB m).extract (i : Int).toNat ((i : Int) + 1).toNat).size = 1 := by rw [← Go.N.len_toList, hs]; rfl
    have hdg : isDig (dec m)[i] = true := List.all_eq_true.1 (dec_dig m) _ (List.getElem_mem hlt)
    refine ⟨by omega, ?_⟩
    repeat' ((conv => whnf); first | (with_reducible first | apply Xa | (first | apply xi | apply xu | apply x8 | apply x3 | apply xn | apply xp | apply xP | refine xs ?_ ?_ | refine xS ?_ ?_ | refine xZ ?_ ?_ | refine xl ?_ ?_ | refine xd ?_ ?_ | refine xy ?_ ?_ | refine xL ?_ ?_ | refine xD ?_ ?_ | apply xx); omega | apply Xm | apply Xe) | refine Xo (by assumption) ?_ | refine Or.inl ⟨rfl, ?_⟩ | (split <;> (first | (rename_i u h; clear u) | rename_i h) <;> (try rewrite [h]) <;> (first | replace h := dt h | replace h := df h | replace h := Nt h | replace h := Nf h | skip)))
    have hdg' := hdg
    simp only [isDig, Bool.and_eq_true, decide_eq_true_eq] at hdg'
    have hP := c_r01_Plain gl (decB r ++ (decB m).extract (i : Int).toNat ((i : Int) + 1).toNat) (by rw [app_toList, List.all_append, decB_dig, hs]; simp [hdg]) (by rw [ByteArray.size_append]; omega)
    have hv2 := dval_take (dec m) i hlt
    rw [app_toList, hs, dval_append, dval_decB] at hP
    generalize (dec m)[i] = c at hP hv2 hdg'
    have hr0 : 10 * r + (c.toNat - 48) < 10 * n := by omega
    have hpv : dval ((dec m).take (i + 1)) = dval q.toList * (10 * n) + (10 * r + (c.toNat - 48)) := by
      rw [hv2, hv, Nat.mul_add, ← Nat.mul_assoc, Nat.mul_comm 10 (dval _), Nat.mul_assoc]; omega
    clear hv2 hs hsz hdg hv
    generalize 10 * r + (c.toNat - 48) = r0 at hr0 hP hpv
    refine .inl ⟨_, hP, ?_⟩
    rintro _ rfl
    repeat' ((conv => whnf); first | (with_reducible first | apply Xa | (first | apply xi | apply xu | apply x8 | apply x3 | apply xn | apply xp | apply xP | refine xs ?_ ?_ | refine xS ?_ ?_ | refine xZ ?_ ?_ | refine xl ?_ ?_ | refine xd ?_ ?_ | refine xy ?_ ?_ | refine xL ?_ ?_ | refine xD ?_ ?_ | apply xx); omega | apply Xm | apply Xe) | refine Xo (by assumption) ?_ | refine Or.inl ⟨rfl, ?_⟩ | (split <;> (first | (rename_i u h; clear u) | rename_i h) <;> (try rewrite [h]) <;> (first | replace h := dt h | replace h := df h | replace h := Nt h | replace h := Nf h | skip)))
    conv => whnf
    refine ⟨[0, 1, 6, 7, 8, 9], [], fun k st => ∃ (d r' : Nat), r0 = d * n + r' ∧ k = r' ∧ st = ⟨[(0, .str (decB m)), (1, .str (decB n)), (6, .str q), (7, .str (decB r')), (8, .int .i64 (i : Nat)), (9, .int .i64 (d : Nat))], []⟩, rfl,
      ⟨r0, 0, r0, by omega, rfl, rfl⟩, ?_⟩
    rintro k2 _ ⟨d, r', hd, hk2, rfl⟩
    have hd9 : d < 10 := by
      rcases Nat.lt_or_ge d 10 with h | h
      · exact h
      · have := Nat.mul_le_mul_right n h
        omega
    have hr' : r' < 10 * n := by omega
    have hzr' := decB_size r'
    have hrn' := dec_ten hr' hn0
    repeat' ((conv => whnf); first | (with_reducible first | apply Xa | (first | apply xi | apply xu | apply x8 | apply x3 | apply xn | apply xp | apply xP | refine xs ?_ ?_ | refine xS ?_ ?_ | refine xZ ?_ ?_ | refine xl ?_ ?_ | refine xd ?_ ?_ | refine xy ?_ ?_ | refine xL ?_ ?_ | refine xD ?_ ?_ | apply xx); omega | apply Xm | apply Xe) | refine Xo (by assumption) ?_ | refine Or.inl ⟨rfl, ?_⟩ | (split <;> (first | (rename_i u h; clear u) | rename_i h) <;> (try rewrite [h]) <;> (first | replace h := dt h | replace h := df h | replace h := Nt h | replace h := Nf h | skip)))
    conv => whnf
    refine .inl ⟨_, c_r01_Compare gl r' n (by omega) (by omega), ?_⟩
    rintro _ rfl
    repeat' ((conv => whnf); first | (with_reducible first | apply Xa | (first | apply xi | apply xu | apply x8 | apply x3 | apply xn | apply xp | apply xP | refine xs ?_ ?_ | refine xS ?_ ?_ | refine xZ ?_ ?_ | refine xl ?_ ?_ | refine xd ?_ ?_ | refine xy ?_ ?_ | refine xL ?_ ?_ | refine xD ?_ ?_ | apply xx); omega | apply Xm | apply Xe) | refine Xo (by assumption) ?_ | refine Or.inl ⟨rfl, ?_⟩ | (split <;> (first | (rename_i u h; clear u) | rename_i h) <;> (try rewrite [h]) <;> (first | replace h := dt h | replace h := df h | replace h := Nt h | replace h := Nf h | skip)))
    · have hle := cmpN_ge.1 h
      conv => whnf
      refine .inl ⟨_, c_r01_Sub gl r' n hle (by omega), ?_⟩
      rintro _ rfl
      repeat' ((conv => whnf); first | (with_reducible first | apply Xa | (first | apply xi | apply xu | apply x8 | apply x3 | apply xn | apply xp | apply xP | refine xs ?_ ?_ | refine xS ?_ ?_ | refine xZ ?_ ?_ | refine xl ?_ ?_ | refine xd ?_ ?_ | refine xy ?_ ?_ | refine xL ?_ ?_ | refine xD ?_ ?_ | apply xx); omega | apply Xm | apply Xe) | refine Xo (by assumption) ?_ | refine Or.inl ⟨rfl, ?_⟩ | (split <;> (first | (rename_i u h; clear u) | rename_i h) <;> (try rewrite [h]) <;> (first | replace h := dt h | replace h := df h | replace h := Nt h | replace h := Nf h | skip)))
      refine ⟨[], r' - n, rfl, by omega, d + 1, r' - n, ?_, rfl, rfl⟩
      rw [Nat.add_mul]; omega
    · have hlt' : r' < n := by
        rcases Nat.lt_or_ge r' n with g | g
        · exact g
        · exact absurd (cmpN_ge.2 g) h
      repeat' ((conv => whnf); first | (with_reducible first | apply Xa | (first | apply xi | apply xu | apply x8 | apply x3 | apply xn | apply xp | apply xP | refine xs ?_ ?_ | refine xS ?_ ?_ | refine xZ ?_ ?_ | refine xl ?_ ?_ | refine xd ?_ ?_ | refine xy ?_ ?_ | refine xL ?_ ?_ | refine xD ?_ ?_ | apply xx); omega | apply Xm | apply Xe) | refine Xo (by assumption) ?_ | refine Or.inl ⟨rfl, ?_⟩ | (split <;> (first | (rename_i u h; clear u) | rename_i h) <;> (try rewrite [h]) <;> (first | replace h := dt h | replace h := df h | replace h := Nt h | replace h := Nf h | skip)))
      conv => whnf
      refine ⟨[48 + (d : Int)], rfl, ?_⟩
      have hsn : (sN [48 + (d : Int)]).toList = [dg d] := by
        have := sN_digits [d] (by simpa using hd9)
        simpa using this
      have hsz : (sN [48 + (d : Int)]).size = 1 := by rw [← Go.N.len_toList, hsn]; rfl
      repeat' ((conv => whnf); first | (with_reducible first | apply Xa | (first | apply xi | apply xu | apply x8 | apply x3 | apply xn | apply xp | apply xP | refine xs ?_ ?_ | refine xS ?_ ?_ | refine xZ ?_ ?_ | refine xl ?_ ?_ | refine xd ?_ ?_ | refine xy ?_ ?_ | refine xL ?_ ?_ | refine xD ?_ ?_ | apply xx); omega | apply Xm | apply Xe) | refine Xo (by assumption) ?_ | refine Or.inl ⟨rfl, ?_⟩ | (split <;> (first | (rename_i u h; clear u) | rename_i h) <;> (try rewrite [h]) <;> (first | replace h := dt h | replace h := df h | replace h := Nt h | replace h := Nf h | skip)))
      conv => whnf
      refine And.intro (by omega) ?_
      repeat' ((conv => whnf); first | (with_reducible first | apply Xa | (first | apply xi | apply xu | apply x8 | apply x3 | apply xn | apply xp | apply xP | refine xs ?_ ?_ | refine xS ?_ ?_ | refine xZ ?_ ?_ | refine xl ?_ ?_ | refine xd ?_ ?_ | refine xy ?_ ?_ | refine xL ?_ ?_ | refine xD ?_ ?_ | apply xx); omega | apply Xm | apply Xe) | refine Xo (by assumption) ?_ | refine Or.inl ⟨rfl, ?_⟩ | (split <;> (first | (rename_i u h; clear u) | rename_i h) <;> (try rewrite [h]) <;> (first | replace h := dt h | replace h := df h | replace h := Nt h | replace h := Nf h | skip)))
      refine ⟨[], (dec m).length - (i + 1), rfl, by omega, i + 1, q ++ sN [48 + (d : Int)], r', by omega, rfl, ?_, ?_, hlt', ?_, rfl⟩
      · rw [app_toList, hsn, List.all_append, hq]; simp [dg_dig hd9]
      · rw [ByteArray.size_append]; omega
      · rw [hpv, app_toList, hsn, dval_append, dg_toNat hd9, hd, Nat.mul_comm 10 n, ← Nat.mul_assoc, Nat.mul_comm _ 10, ← Nat.mul_assoc]
        rw [show 48 + d - 48 = d by omega, Nat.add_mul]; omega
  · conv => whnf
    have e1 : i = (dec m).length := by omega
    rw [List.take_of_length_le (by omega), dval_dec] at hv
    have e2 : dval q.toList = m / n := by
      rw [hv, Nat.add_comm, Nat.add_mul_div_right _ _ hn0, Nat.div_eq_of_lt hr]; omega
    have e3 : r = m % n := by
      rw [hv, Nat.add_comm, Nat.add_mul_mod_self_right, Nat.mod_eq_of_lt hr]
    have hP := c_r01_Plain gl q hq (by omega)
    rw [e2] at hP
    refine .inl ⟨_, hP, ?_⟩
    rintro _ rfl
    repeat' ((conv => whnf); first | (with_reducible first | apply Xa | (first | apply xi | apply xu | apply x8 | apply x3 | apply xn | apply xp | apply xP | refine xs ?_ ?_ | refine xS ?_ ?_ | refine xZ ?_ ?_ | refine xl ?_ ?_ | refine xd ?_ ?_ | refine xy ?_ ?_ | refine xL ?_ ?_ | refine xD ?_ ?_ | apply xx); omega | apply Xm | apply Xe) | refine Xo (by assumption) ?_ | refine Or.inl ⟨rfl, ?_⟩ | (split <;> (first | (rename_i u h; clear u) | rename_i h) <;> (try rewrite [h]) <;> (first | replace h := dt h | replace h := df h | replace h := Nt h | replace h := Nf h | skip)))
    conv => whnf
    rw [← e3]
    rfl
theorem gcd_dec (a b : Nat) : decB b = ⟨#[48]⟩ ↔ b = 0 := by rw [zero_decB]; exact decB_inj
theorem c_r01_Gcd (m n : Nat) (hm : (dec m).length < 1000000) (hn : (dec n).length < 1000000) : VCall Go.Proofs.Tryz.prog gl 54 [.str (decB m), .str (decB n)] (fun x => x = .str (decB (Nat.gcd m n))) := by
  refine vcall_of TOK_r01_Gcd HM Go.Proofs.Tryz.func54 rfl (by decide +kernel) (by decide +kernel) rfl ?_
  repeat' ((conv => whnf); first | (with_reducible first | apply Xa | (first | apply xi | apply xu | apply x8 | apply x3 | apply xn | apply xp | apply xP | refine xs ?_ ?_ | refine xS ?_ ?_ | refine xZ ?_ ?_ | refine xl ?_ ?_ | refine xd ?_ ?_ | refine xy ?_ ?_ | refine xL ?_ ?_ | refine xD ?_ ?_ | apply xx); omega | apply Xm | apply Xe) | refine Xo (by assumption) ?_ | refine Or.inl ⟨rfl, ?_⟩ | (split <;> (first | (rename_i u h; clear u) | rename_i h) <;> (try rewrite [h]) <;> (first | replace h := dt h | replace h := df h | replace h := Nt h | replace h := Nf h | skip)))
  refine ⟨[0, 1], [], fun k st => ∃ a b : Nat, (dec a).length < 1000000 ∧ (dec b).length < 1000000 ∧ k = b ∧ Nat.gcd a b = Nat.gcd m n ∧ st = ⟨[(0, .str (decB a)), (1, .str (decB b))], []⟩, rfl, ⟨n, m, n, hm, hn, rfl, rfl, rfl⟩, ?_⟩
  rintro k _ ⟨a, b, ha, hb, hk, hg, rfl⟩
  repeat' ((conv => whnf); first | (with_reducible first | apply Xa | (first | apply xi | apply xu | apply x8 | apply x3 | apply xn | apply xp | apply xP | refine xs ?_ ?_ | refine xS ?_ ?_ | refine xZ ?_ ?_ | refine xl ?_ ?_ | refine xd ?_ ?_ | refine xy ?_ ?_ | refine xL ?_ ?_ | refine xD ?_ ?_ | apply xx); omega | apply Xm | apply Xe) | refine Xo (by assumption) ?_ | refine Or.inl ⟨rfl, ?_⟩ | (split <;> (first | (rename_i u h; clear u) | rename_i h) <;> (try rewrite [h]) <;> (first | replace h := dt h | replace h := df h | replace h := Nt h | replace h := Nf h | skip)))
  · have hb0 : 0 < b := Nat.pos_of_ne_zero fun e => h ((gcd_dec 0 b).2 e)
    conv => whnf
    refine .inl ⟨_, c_r01_Div gl a b hb0 ha hb, ?_⟩
    rintro _ rfl
    repeat' ((conv => whnf); first | (with_reducible first | apply Xa | (first | apply xi | apply xu | apply x8 | apply x3 | apply xn | apply xp | apply xP | refine xs ?_ ?_ | refine xS ?_ ?_ | refine xZ ?_ ?_ | refine xl ?_ ?_ | refine xd ?_ ?_ | refine xy ?_ ?_ | refine xL ?_ ?_ | refine xD ?_ ?_ | apply xx); omega | apply Xm | apply Xe) | refine Xo (by assumption) ?_ | refine Or.inl ⟨rfl, ?_⟩ | (split <;> (first | (rename_i u h; clear u) | rename_i h) <;> (try rewrite [h]) <;> (first | replace h := dt h | replace h := df h | replace h := Nt h | replace h := Nf h | skip)))
    have hlt := Nat.mod_lt a hb0
    refine ⟨[], a % b, rfl, by omega, b, a % b, hb, Nat.lt_of_le_of_lt (dec_mono (by omega)) hb, rfl, ?_, rfl⟩
    rw [← hg, Nat.gcd_comm a b, Nat.gcd_rec b a, Nat.gcd_comm]
  · conv => whnf
    have hb0 := (gcd_dec 0 b).1 h
    rw [hb0, Nat.gcd_zero_right] at hg
    rw [← hg]
    rfl
end Go.V
namespace Go.V
open Go.N
variable (gl : Gl)
def T_liteHasPrefix : Tab := [(9, i9), (3, i3)]
theorem TOK_liteHasPrefix : TOK Go.Proofs.Tryz.prog T_liteHasPrefix := ⟨K9, ⟨K3, trivial⟩⟩
def T_HasPrefix : Tab := [(9, i9)]
theorem TOK_HasPrefix : TOK Go.Proofs.Tryz.prog T_HasPrefix := ⟨K9, trivial⟩
def T_liteCutPrefix : Tab := [(9, i9), (4, i4)]
theorem TOK_liteCutPrefix : TOK Go.Proofs.Tryz.prog T_liteCutPrefix := ⟨K9, ⟨K4, trivial⟩⟩
def T_CutPrefix : Tab := [(9, i9)]
theorem TOK_CutPrefix : TOK Go.Proofs.Tryz.prog T_CutPrefix := ⟨K9, trivial⟩
def T_liteTrimPrefix : Tab := [(9, i9)]
theorem TOK_liteTrimPrefix : TOK Go.Proofs.Tryz.prog T_liteTrimPrefix := ⟨K9, trivial⟩
def T_TrimPrefix : Tab := [(9, i9)]
theorem TOK_TrimPrefix : TOK Go.Proofs.Tryz.prog T_TrimPrefix := ⟨K9, trivial⟩
def T_r02_Size : Tab := [(9, i9), (3, i3), (5, i5)]
theorem TOK_r02_Size : TOK Go.Proofs.Tryz.prog T_r02_Size := ⟨K9, ⟨K3, ⟨K5, trivial⟩⟩⟩
def T_r02_Right : Tab := [(9, i9)]
theorem TOK_r02_Right : TOK Go.Proofs.Tryz.prog T_r02_Right := ⟨K9, trivial⟩
def T_r02_Sign : Tab := [(9, i9), (5, i5)]
theorem TOK_r02_Sign : TOK Go.Proofs.Tryz.prog T_r02_Sign := ⟨K9, ⟨K5, trivial⟩⟩
def T_r02_of : Tab := [(3, i3), (9, i9)]
theorem TOK_r02_of : TOK Go.Proofs.Tryz.prog T_r02_of := ⟨K3, ⟨K9, trivial⟩⟩
def T_r02_Neg : Tab := [(9, i9), (3, i3)]
theorem TOK_r02_Neg : TOK Go.Proofs.Tryz.prog T_r02_Neg := ⟨K9, ⟨K3, trivial⟩⟩
def hasP (s p : ByteArray) : Bool := decide (p.size ≤ s.size) && decide (s.extract 0 p.size = p)
def trimP (s p : ByteArray) : ByteArray := if hasP s p = true then s.extract p.size s.size else s
abbrev minusB : ByteArray := ⟨#[45]⟩
theorem c_liteHasPrefix (s p : ByteArray) (hs : s.size < 9000000000) (hp : p.size < 9000000000) : VCall Go.Proofs.Tryz.prog gl 109 [.str s, .str p] (fun x => x = .bool (hasP s p)) := by
  refine vcall_of TOK_liteHasPrefix HM Go.Proofs.Tryz.func109 rfl (by decide +kernel) (by decide +kernel) rfl ?_
  repeat' ((conv => whnf); first | (with_reducible first | apply Xa | (first | apply xi | apply xu | apply x8 | apply x3 | apply xn | apply xp | apply xP | refine xs ?_ ?_ | refine xS ?_ ?_ | refine xZ ?_ ?_ | refine xl ?_ ?_ | refine xd ?_ ?_ | refine xy ?_ ?_ | refine xL ?_ ?_ | refine xD ?_ ?_ | apply xx); omega | apply Xm | apply Xe) | refine Xo (by assumption) ?_ | refine Or.inl ⟨rfl, ?_⟩ | (split <;> (first | (rename_i u h; clear u) | rename_i h) <;> (try rewrite [h]) <;> (first | replace h := dt h | replace h := df h | replace h := Nt h | replace h := Nf h | skip)))
  all_goals (conv => whnf)
  · refine congrArg AV.bool ?_
    have h1 : p.size ≤ s.size := by omega
    simp [hasP, h1]
  · refine congrArg AV.bool (Eq.symm ?_)
    have h1 : ¬ p.size ≤ s.size := by omega
    simp [hasP, h1]
theorem c_HasPrefix (s p : ByteArray) (hs : s.size < 9000000000) (hp : p.size < 9000000000) : VCall Go.Proofs.Tryz.prog gl 96 [.str s, .str p] (fun x => x = .bool (hasP s p)) := by
  refine vcall_of TOK_HasPrefix HM Go.Proofs.Tryz.func96 rfl (by decide +kernel) (by decide +kernel) rfl ?_
  repeat' ((conv => whnf); first | (with_reducible first | apply Xa | (first | apply xi | apply xu | apply x8 | apply x3 | apply xn | apply xp | apply xP | refine xs ?_ ?_ | refine xS ?_ ?_ | refine xZ ?_ ?_ | refine xl ?_ ?_ | refine xd ?_ ?_ | refine xy ?_ ?_ | refine xL ?_ ?_ | refine xD ?_ ?_ | apply xx); omega | apply Xm | apply Xe) | refine Xo (by assumption) ?_ | refine Or.inl ⟨rfl, ?_⟩ | (split <;> (first | (rename_i u h; clear u) | rename_i h) <;> (try rewrite [h]) <;> (first | replace h := dt h | replace h := df h | replace h := Nt h | replace h := Nf h | skip)))
  conv => whnf
  refine .inl ⟨_, c_liteHasPrefix gl s p hs hp, ?_⟩
  rintro _ rfl
  repeat' ((conv => whnf); first | (with_reducible first | apply Xa | (first | apply xi | apply xu | apply x8 | apply x3 | apply xn | apply xp | apply xP | refine xs ?_ ?_ | refine xS ?_ ?_ | refine xZ ?_ ?_ | refine xl ?_ ?_ | refine xd ?_ ?_ | refine xy ?_ ?_ | refine xL ?_ ?_ | refine xD ?_ ?_ | apply xx); omega | apply Xm | apply Xe) | refine Xo (by assumption) ?_ | refine Or.inl ⟨rfl, ?_⟩ | (split <;> (first | (rename_i u h; clear u) | rename_i h) <;> (try rewrite [h]) <;> (first | replace h := dt h | replace h := df h | replace h := Nt h | replace h := Nf h | skip)))
  conv => whnf
  rfl
theorem c_liteCutPrefix (s p : ByteArray) (hs : s.size < 9000000000) (hp : p.size < 9000000000) : VCall Go.Proofs.Tryz.prog gl 121 [.str s, .str p] (fun x => x = .tup [.str (trimP s p), .bool (hasP s p)]) := by
  refine vcall_of TOK_liteCutPrefix HM Go.Proofs.Tryz.func121 rfl (by decide +kernel) (by decide +kernel) rfl ?_
  have h1 : hasP s p = true → p.size ≤ s.size := fun h => by simp only [hasP, Bool.and_eq_true, decide_eq_true_eq] at h; exact h.1
  repeat' ((conv => whnf); first | (with_reducible first | apply Xa | (first | apply xi | apply xu | apply x8 | apply x3 | apply xn | apply xp | apply xP | refine xs ?_ ?_ | refine xS ?_ ?_ | refine xZ ?_ ?_ | refine xl ?_ ?_ | refine xd ?_ ?_ | refine xy ?_ ?_ | refine xL ?_ ?_ | refine xD ?_ ?_ | apply xx); omega | apply Xm | apply Xe) | refine Xo (by assumption) ?_ | refine Or.inl ⟨rfl, ?_⟩ | (split <;> (first | (rename_i u h; clear u) | rename_i h) <;> (try rewrite [h]) <;> (first | replace h := dt h | replace h := df h | replace h := Nt h | replace h := Nf h | skip)))
  conv => whnf
  refine .inl ⟨_, c_liteHasPrefix gl s p hs hp, ?_⟩
  rintro _ rfl
  cases hb : hasP s p
  · repeat' ((conv => whnf); first | (with_reducible first | apply Xa | (first | apply xi | apply xu | apply x8 | apply x3 | apply xn | apply xp | apply xP | refine xs ?_ ?_ | refine xS ?_ ?_ | refine xZ ?_ ?_ | refine xl ?_ ?_ | refine xd ?_ ?_ | refine xy ?_ ?_ | refine xL ?_ ?_ | refine xD ?_ ?_ | apply xx); omega | apply Xm | apply Xe) | refine Xo (by assumption) ?_ | refine Or.inl ⟨rfl, ?_⟩ | (split <;> (first | (rename_i u h; clear u) | rename_i h) <;> (try rewrite [h]) <;> (first | replace h := dt h | replace h := df h | replace h := Nt h | replace h := Nf h | skip)))
    conv => whnf
    simp [trimP, hb, one]
  · have h2 := h1 hb
    repeat' ((conv => whnf); first | (with_reducible first | apply Xa | (first | apply xi | apply xu | apply x8 | apply x3 | apply xn | apply xp | apply xP | refine xs ?_ ?_ | refine xS ?_ ?_ | refine xZ ?_ ?_ | refine xl ?_ ?_ | refine xd ?_ ?_ | refine xy ?_ ?_ | refine xL ?_ ?_ | refine xD ?_ ?_ | apply xx); omega | apply Xm | apply Xe) | refine Xo (by assumption) ?_ | refine Or.inl ⟨rfl, ?_⟩ | (split <;> (first | (rename_i u h; clear u) | rename_i h) <;> (try rewrite [h]) <;> (first | replace h := dt h | replace h := df h | replace h := Nt h | replace h := Nf h | skip)))
    conv => whnf
    simp [trimP, hb, one]
theorem c_CutPrefix (s p : ByteArray) (hs : s.size < 9000000000) (hp : p.size < 9000000000) : VCall Go.Proofs.Tryz.prog gl 107 [.str s, .str p] (fun x => x = .tup [.str (trimP s p), .bool (hasP s p)]) := by
  refine vcall_of TOK_CutPrefix HM Go.Proofs.Tryz.func107 rfl (by decide +kernel) (by decide +kernel) rfl ?_
  repeat' ((conv => whnf); first | (with_reducible first | apply Xa | (first | apply xi | apply xu | apply x8 | apply x3 | apply xn | apply xp | apply xP | refine xs ?_ ?_ | refine xS ?_ ?_ | refine xZ ?_ ?_ | refine xl ?_ ?_ | refine xd ?_ ?_ | refine xy ?_ ?_ | refine xL ?_ ?_ | refine xD ?_ ?_ | apply xx); omega | apply Xm | apply Xe) | refine Xo (by assumption) ?_ | refine Or.inl ⟨rfl, ?_⟩ | (split <;> (first | (rename_i u h; clear u) | rename_i h) <;> (try rewrite [h]) <;> (first | replace h := dt h | replace h := df h | replace h := Nt h | replace h := Nf h | skip)))
  conv => whnf
  refine .inl ⟨_, c_liteCutPrefix gl s p hs hp, ?_⟩
  rintro _ rfl
  repeat' ((conv => whnf); first | (with_reducible first | apply Xa | (first | apply xi | apply xu | apply x8 | apply x3 | apply xn | apply xp | apply xP | refine xs ?_ ?_ | refine xS ?_ ?_ | refine xZ ?_ ?_ | refine xl ?_ ?_ | refine xd ?_ ?_ | refine xy ?_ ?_ | refine xL ?_ ?_ | refine xD ?_ ?_ | apply xx); omega | apply Xm | apply Xe) | refine Xo (by assumption) ?_ | refine Or.inl ⟨rfl, ?_⟩ | (split <;> (first | (rename_i u h; clear u) | rename_i h) <;> (try rewrite [h]) <;> (first | replace h := dt h | replace h := df h | replace h := Nt h | replace h := Nf h | skip)))
  conv => whnf
  rfl
theorem c_liteTrimPrefix (s p : ByteArray) (hs : s.size < 9000000000) (hp : p.size < 9000000000) : VCall Go.Proofs.Tryz.prog gl 122 [.str s, .str p] (fun x => x = .str (trimP s p)) := by
  refine vcall_of TOK_liteTrimPrefix HM Go.Proofs.Tryz.func122 rfl (by decide +kernel) (by decide +kernel) rfl ?_
  have h1 : hasP s p = true → p.size ≤ s.size := fun h => by simp only [hasP, Bool.and_eq_true, decide_eq_true_eq] at h; exact h.1
  repeat' ((conv => whnf); first | (with_reducible first | apply Xa | (first | apply xi | apply xu | apply x8 | apply x3 | apply xn | apply xp | apply xP | refine xs ?_ ?_ | refine xS ?_ ?_ | refine xZ ?_ ?_ | refine xl ?_ ?_ | refine xd ?_ ?_ | refine xy ?_ ?_ | refine xL ?_ ?_ | refine xD ?_ ?_ | apply xx); omega | apply Xm | apply Xe) | refine Xo (by assumption) ?_ | refine Or.inl ⟨rfl, ?_⟩ | (split <;> (first | (rename_i u h; clear u) | rename_i h) <;> (try rewrite [h]) <;> (first | replace h := dt h | replace h := df h | replace h := Nt h | replace h := Nf h | skip)))
  conv => whnf
  refine .inl ⟨_, c_liteHasPrefix gl s p hs hp, ?_⟩
  rintro _ rfl
  cases hb : hasP s p
  · repeat' ((conv => whnf); first | (with_reducible first | apply Xa | (first | apply xi | apply xu | apply x8 | apply x3 | apply xn | apply xp | apply xP | refine xs ?_ ?_ | refine xS ?_ ?_ | refine xZ ?_ ?_ | refine xl ?_ ?_ | refine xd ?_ ?_ | refine xy ?_ ?_ | refine xL ?_ ?_ | refine xD ?_ ?_ | apply xx); omega | apply Xm | apply Xe) | refine Xo (by assumption) ?_ | refine Or.inl ⟨rfl, ?_⟩ | (split <;> (first | (rename_i u h; clear u) | rename_i h) <;> (try rewrite [h]) <;> (first | replace h := dt h | replace h := df h | replace h := Nt h | replace h := Nf h | skip)))
    conv => whnf
    simp [trimP, hb, one]
  · have h2 := h1 hb
    repeat' ((conv => whnf); first | (with_reducible first | apply Xa | (first | apply xi | apply xu | apply x8 | apply x3 | apply xn | apply xp | apply xP | refine xs ?_ ?_ | refine xS ?_ ?_ | refine xZ ?_ ?_ | refine xl ?_ ?_ | refine xd ?_ ?_ | refine xy ?_ ?_ | refine xL ?_ ?_ | refine xD ?_ ?_ | apply xx); omega | apply Xm | apply Xe) | refine Xo (by assumption) ?_ | refine Or.inl ⟨rfl, ?_⟩ | (split <;> (first | (rename_i u h; clear u) | rename_i h) <;> (try rewrite [h]) <;> (first | replace h := dt h | replace h := df h | replace h := Nt h | replace h := Nf h | skip)))
    conv => whnf
    simp [trimP, hb, one]
theorem c_TrimPrefix (s p : ByteArray) (hs : s.size < 9000000000) (hp : p.size < 9000000000) : VCall Go.Proofs.Tryz.prog gl 111 [.str s, .str p] (fun x => x = .str (trimP s p)) := by
  refine vcall_of TOK_TrimPrefix HM Go.Proofs.Tryz.func111 rfl (by decide +kernel) (by decide +kernel) rfl ?_
  repeat' ((conv => whnf); first | (with_reducible first | apply Xa | (first | apply xi | apply xu | apply x8 | apply x3 | apply xn | apply xp | apply xP | refine xs ?_ ?_ | refine xS ?_ ?_ | refine xZ ?_ ?_ | refine xl ?_ ?_ | refine xd ?_ ?_ | refine xy ?_ ?_ | refine xL ?_ ?_ | refine xD ?_ ?_ | apply xx); omega | apply Xm | apply Xe) | refine Xo (by assumption) ?_ | refine Or.inl ⟨rfl, ?_⟩ | (split <;> (first | (rename_i u h; clear u) | rename_i h) <;> (try rewrite [h]) <;> (first | replace h := dt h | replace h := df h | replace h := Nt h | replace h := Nf h | skip)))
  conv => whnf
  refine .inl ⟨_, c_liteTrimPrefix gl s p hs hp, ?_⟩
  rintro _ rfl
  repeat' ((conv => whnf); first | (with_reducible first | apply Xa | (first | apply xi | apply xu | apply x8 | apply x3 | apply xn | apply xp | apply xP | refine xs ?_ ?_ | refine xS ?_ ?_ | refine xZ ?_ ?_ | refine xl ?_ ?_ | refine xd ?_ ?_ | refine xy ?_ ?_ | refine xL ?_ ?_ | refine xD ?_ ?_ | apply xx); omega | apply Xm | apply Xe) | refine Xo (by assumption) ?_ | refine Or.inl ⟨rfl, ?_⟩ | (split <;> (first | (rename_i u h; clear u) | rename_i h) <;> (try rewrite [h]) <;> (first | replace h := dt h | replace h := df h | replace h := Nt h | replace h := Nf h | skip)))
  conv => whnf
  rfl
theorem hasP_minus (s : ByteArray) : hasP s minusB = decide (s.toList[0]? = some 45) := by
  rw [Bool.eq_iff_iff]
  simp only [hasP, Bool.and_eq_true, decide_eq_true_eq]
  have hl := Go.N.len_toList s
  constructor
  · rintro ⟨h1, h2⟩
    have h3 := congrArg ByteArray.toList h2
    rw [ext_toList] at h3
    have e : minusB.toList = [45] := by rw [ByteArray.toList_eq]
    rw [e] at h3
    have h4 := congrArg (fun l : List UInt8 => l[0]?) h3
    simp only [List.drop_zero, List.getElem?_cons_zero] at h4
    rw [List.getElem?_take_of_lt (by decide)] at h4
    exact h4
  · intro h
    have h0 : 0 < s.toList.length := (List.getElem?_eq_some_iff.1 h).1
    refine ⟨(show 1 ≤ s.size by omega), toList_inj ?_⟩
    rw [ext_toList]
    have e : minusB.toList = [45] := by rw [ByteArray.toList_eq]
    rw [e, List.drop_zero]
    obtain ⟨a, l, hal⟩ := List.exists_cons_of_length_pos h0
    rw [hal] at h ⊢
    simp at h
    rw [h]; rfl
theorem c_r02_Size (s : ByteArray) (hs : s.size < 9000000000) : VCall Go.Proofs.Tryz.prog gl 51 [.str s] (fun x => x = .str (trimP s minusB)) := by
  refine vcall_of TOK_r02_Size HM Go.Proofs.Tryz.func51 rfl (by decide +kernel) (by decide +kernel) rfl ?_
  have hl := Go.N.len_toList s
  have hh := hasP_minus s
  have key : ∀ h0 : 0 < s.toList.length, (s.toList[0]? = some 45) ↔ ((s.toList[0].toNat : Nat) : Int) = 45 := fun h0 => by
    rw [List.getElem?_eq_getElem h0, Option.some.injEq, ← UInt8.toNat_inj]
    simp; omega
  repeat' ((conv => whnf); first | (with_reducible first | apply Xa | (first | apply xi | apply xu | apply x8 | apply x3 | apply xn | apply xp | apply xP | refine xs ?_ ?_ | refine xS ?_ ?_ | refine xZ ?_ ?_ | refine xl ?_ ?_ | refine xd ?_ ?_ | refine xy ?_ ?_ | refine xL ?_ ?_ | refine xD ?_ ?_ | apply xx); omega | apply Xm | apply Xe) | refine Xo (by assumption) ?_ | refine Or.inl ⟨rfl, ?_⟩ | (split <;> (first | (rename_i u h; clear u) | rename_i h) <;> (try rewrite [h]) <;> (first | replace h := dt h | replace h := df h | replace h := Nt h | replace h := Nf h | skip)))
  all_goals (conv => whnf)
  · have hb : hasP s minusB = true := by rw [hh]; exact decide_eq_true ((key (by omega)).2 h)
    refine congrArg AV.str ?_
    rw [trimP, if_pos hb]; rfl
  · have hb : ¬ hasP s minusB = true := by rw [hh]; simp only [decide_eq_true_eq]; exact fun e => h ((key (by omega)).1 e)
    refine congrArg AV.str ?_
    rw [trimP, if_neg hb]
  · have hb : ¬ hasP s minusB = true := by
      rw [hh]; simp only [decide_eq_true_eq]
      intro e
      have := (List.getElem?_eq_some_iff.1 e).1
      omega
    refine congrArg AV.str ?_
    rw [trimP, if_neg hb]
def isWhole (s : ByteArray) : Bool := isNat (trimP s minusB).toList && !decide (s = ⟨#[45, 48]⟩)
theorem trimP_size (s p : ByteArray) : (trimP s p).size ≤ s.size := by
  unfold trimP; split
  · simp
  · omega
theorem c_r02_Right (s : ByteArray) (hs : s.size < 9000000000) : VCall Go.Proofs.Tryz.prog gl 39 [.str s] (fun x => x = .bool (isWhole s)) := by
  refine vcall_of TOK_r02_Right HM Go.Proofs.Tryz.func39 rfl (by decide +kernel) (by decide +kernel) rfl ?_
  have ht := trimP_size s minusB
  repeat' ((conv => whnf); first | (with_reducible first | apply Xa | (first | apply xi | apply xu | apply x8 | apply x3 | apply xn | apply xp | apply xP | refine xs ?_ ?_ | refine xS ?_ ?_ | refine xZ ?_ ?_ | refine xl ?_ ?_ | refine xd ?_ ?_ | refine xy ?_ ?_ | refine xL ?_ ?_ | refine xD ?_ ?_ | apply xx); omega | apply Xm | apply Xe) | refine Xo (by assumption) ?_ | refine Or.inl ⟨rfl, ?_⟩ | (split <;> (first | (rename_i u h; clear u) | rename_i h) <;> (try rewrite [h]) <;> (first | replace h := dt h | replace h := df h | replace h := Nt h | replace h := Nf h | skip)))
  conv => whnf
  refine .inl ⟨_, c_r02_Size gl s hs, ?_⟩
  rintro _ rfl
  repeat' ((conv => whnf); first | (with_reducible first | apply Xa | (first | apply xi | apply xu | apply x8 | apply x3 | apply xn | apply xp | apply xP | refine xs ?_ ?_ | refine xS ?_ ?_ | refine xZ ?_ ?_ | refine xl ?_ ?_ | refine xd ?_ ?_ | refine xy ?_ ?_ | refine xL ?_ ?_ | refine xD ?_ ?_ | apply xx); omega | apply Xm | apply Xe) | refine Xo (by assumption) ?_ | refine Or.inl ⟨rfl, ?_⟩ | (split <;> (first | (rename_i u h; clear u) | rename_i h) <;> (try rewrite [h]) <;> (first | replace h := dt h | replace h := df h | replace h := Nt h | replace h := Nf h | skip)))
  conv => whnf
  refine .inl ⟨_, c_r01_Right (trimP s minusB) gl (by omega), ?_⟩
  rintro _ rfl
  cases hb : isNat (trimP s minusB).toList
  · repeat' ((conv => whnf); first | (with_reducible first | apply Xa | (first | apply xi | apply xu | apply x8 | apply x3 | apply xn | apply xp | apply xP | refine xs ?_ ?_ | refine xS ?_ ?_ | refine xZ ?_ ?_ | refine xl ?_ ?_ | refine xd ?_ ?_ | refine xy ?_ ?_ | refine xL ?_ ?_ | refine xD ?_ ?_ | apply xx); omega | apply Xm | apply Xe) | refine Xo (by assumption) ?_ | refine Or.inl ⟨rfl, ?_⟩ | (split <;> (first | (rename_i u h; clear u) | rename_i h) <;> (try rewrite [h]) <;> (first | replace h := dt h | replace h := df h | replace h := Nt h | replace h := Nf h | skip)))
    conv => whnf
    simp [isWhole, hb, one]
  · repeat' ((conv => whnf); first | (with_reducible first | apply Xa | (first | apply xi | apply xu | apply x8 | apply x3 | apply xn | apply xp | apply xP | refine xs ?_ ?_ | refine xS ?_ ?_ | refine xZ ?_ ?_ | refine xl ?_ ?_ | refine xd ?_ ?_ | refine xy ?_ ?_ | refine xL ?_ ?_ | refine xD ?_ ?_ | apply xx); omega | apply Xm | apply Xe) | refine Xo (by assumption) ?_ | refine Or.inl ⟨rfl, ?_⟩ | (split <;> (first | (rename_i u h; clear u) | rename_i h) <;> (try rewrite [h]) <;> (first | replace h := dt h | replace h := df h | replace h := Nt h | replace h := Nf h | skip)))
    conv => whnf
    simp [isWhole, hb, one]
theorem c_r02_Sign (s : ByteArray) (hs : s.size < 9000000000) (h0 : 0 < s.size) : VCall Go.Proofs.Tryz.prog gl 52 [.str s] (fun x => x = .int .i64 (if hasP s minusB = true then -1 else if s = decB 0 then 0 else 1)) := by
  refine vcall_of TOK_r02_Sign HM Go.Proofs.Tryz.func52 rfl (by decide +kernel) (by decide +kernel) rfl ?_
  have hl := Go.N.len_toList s
  have hh := hasP_minus s
  have key : ∀ h0 : 0 < s.toList.length, (s.toList[0]? = some 45) ↔ ((s.toList[0].toNat : Nat) : Int) = 45 := fun h0 => by
    rw [List.getElem?_eq_getElem h0, Option.some.injEq, ← UInt8.toNat_inj]
    simp; omega
  rw [← zero_decB]
  generalize hR : (if hasP s minusB = true then (-1 : Int) else if s = ⟨#[48]⟩ then 0 else 1) = R
  repeat' ((conv => whnf); first | (with_reducible first | apply Xa | (first | apply xi | apply xu | apply x8 | apply x3 | apply xn | apply xp | apply xP | refine xs ?_ ?_ | refine xS ?_ ?_ | refine xZ ?_ ?_ | refine xl ?_ ?_ | refine xd ?_ ?_ | refine xy ?_ ?_ | refine xL ?_ ?_ | refine xD ?_ ?_ | apply xx); omega | apply Xm | apply Xe) | refine Xo (by assumption) ?_ | refine Or.inl ⟨rfl, ?_⟩ | (split <;> (first | (rename_i u h; clear u) | rename_i h) <;> (try rewrite [h]) <;> (first | replace h := dt h | replace h := df h | replace h := Nt h | replace h := Nf h | skip)))
  all_goals (conv => whnf)
  · have hb : hasP s minusB = true := by rw [hh]; exact decide_eq_true ((key (by omega)).2 h)
    rw [if_pos hb] at hR
    exact congrArg (AV.int .i64) hR
  · have hb : ¬ hasP s minusB = true := by rw [hh]; simp only [decide_eq_true_eq]; exact fun e => absurd ((key (by omega)).1 e) (by assumption)
    rw [if_neg hb, if_pos h] at hR
    exact congrArg (AV.int .i64) hR
  · have hb : ¬ hasP s minusB = true := by rw [hh]; simp only [decide_eq_true_eq]; exact fun e => absurd ((key (by omega)).1 e) (by assumption)
    rw [if_neg hb, if_neg h] at hR
    exact congrArg (AV.int .i64) hR
theorem c_r02_of (s : ByteArray) (n : Int) (hs : s.size < 9000000000) : VCall Go.Proofs.Tryz.prog gl 65 [.str s, .int .i64 n] (fun x => x = .str (if n < 0 ∧ s ≠ decB 0 then minusB ++ s else s)) := by
  refine vcall_of TOK_r02_of HM Go.Proofs.Tryz.func65 rfl (by decide +kernel) (by decide +kernel) rfl ?_
  rw [← zero_decB]
  generalize hR : (if n < 0 ∧ s ≠ ⟨#[48]⟩ then minusB ++ s else s) = R
  repeat' ((conv => whnf); first | (with_reducible first | apply Xa | (first | apply xi | apply xu | apply x8 | apply x3 | apply xn | apply xp | apply xP | refine xs ?_ ?_ | refine xS ?_ ?_ | refine xZ ?_ ?_ | refine xl ?_ ?_ | refine xd ?_ ?_ | refine xy ?_ ?_ | refine xL ?_ ?_ | refine xD ?_ ?_ | apply xx); omega | apply Xm | apply Xe) | refine Xo (by assumption) ?_ | refine Or.inl ⟨rfl, ?_⟩ | (split <;> (first | (rename_i u h; clear u) | rename_i h) <;> (try rewrite [h]) <;> (first | replace h := dt h | replace h := df h | replace h := Nt h | replace h := Nf h | skip)))
  · refine ⟨(show 1 + s.size ≤ 9223372036854775807 by omega), ?_⟩
    repeat' ((conv => whnf); first | (with_reducible first | apply Xa | (first | apply xi | apply xu | apply x8 | apply x3 | apply xn | apply xp | apply xP | refine xs ?_ ?_ | refine xS ?_ ?_ | refine xZ ?_ ?_ | refine xl ?_ ?_ | refine xd ?_ ?_ | refine xy ?_ ?_ | refine xL ?_ ?_ | refine xD ?_ ?_ | apply xx); omega | apply Xm | apply Xe) | refine Xo (by assumption) ?_ | refine Or.inl ⟨rfl, ?_⟩ | (split <;> (first | (rename_i u h; clear u) | rename_i h) <;> (try rewrite [h]) <;> (first | replace h := dt h | replace h := df h | replace h := Nt h | replace h := Nf h | skip)))
    conv => whnf
    rename_i h1
    rw [if_pos ⟨h1, h⟩] at hR
    exact congrArg AV.str hR
  · conv => whnf
    rw [if_neg (fun hh => hh.2 h)] at hR
    exact congrArg AV.str hR
  · conv => whnf
    rw [if_neg (fun hh => h hh.1)] at hR
    exact congrArg AV.str hR
end Go.V
namespace Go.V
open Go.N
variable (gl : Gl)
def ixOf (c : UInt8) : List UInt8 → Option Nat
  | [] => none
  | x :: l => if x = c then some 0 else (ixOf c l).map (· + 1)
def ixI (o : Option Nat) : Int := match o with | some k => k | none => -1
theorem ixOf_lt {c : UInt8} : ∀ {l : List UInt8} {k : Nat}, ixOf c l = some k → k < l.length
  | [], k, h => by simp [ixOf] at h
  | x :: l, k, h => by
    simp only [ixOf] at h
    split at h
    · simp at h; subst h; simp
    · cases hi : ixOf c l with
      | none => rw [hi] at h; simp at h
      | some j =>
        rw [hi] at h; simp at h; subst h
        have := ixOf_lt hi
        simp; omega
theorem ixOf_lib (c : UInt8) : ∀ l : List UInt8, Lib.indexByte l c = ixI (ixOf c l)
  | [] => rfl
  | x :: l => by
    have ih := ixOf_lib c l
    simp only [Lib.indexByte, ixOf, ih]
    by_cases h : x = c
    · simp [h, ixI]
    · have hb : (x == c) = false := by simpa using h
      simp only [hb, h, if_false, Bool.false_eq_true]
      cases hi : ixOf c l with
      | none => simp [ixI]
      | some j =>
        show (if ((j : Int) == -1) = true then (-1 : Int) else (j : Int) + 1) = ((j + 1 : Nat) : Int)
        have e : ((j : Int) == -1) = false := by rw [beq_eq_false_iff_ne]; omega
        rw [e]; simp
theorem c_IndexByteString (s : ByteArray) (c : Int) : VCall Go.Proofs.Tryz.prog gl 131 [.str s, .int .u8 c] (fun x => x = .int .i64 (ixI (ixOf c.toNat.toUInt8 s.toList))) := by
  intro S w vs hS hgl h
  simp only [RepL, RepV] at h
  obtain ⟨v1, r1, rfl, rfl, v2, r2, rfl, rfl, rfl⟩ := h
  refine .inr (.inl ⟨Value.int .i64 (ixI (ixOf c.toNat.toUInt8 s.toList)), w, ?_, ⟨_, rfl, ⟨S, [], ?_, by simp, by simp, fun b hb => ⟨hS b hb, .inl hb⟩⟩, ⟨rfl, rfl, rfl, Nat.le_refl _, fun _ _ => rfl⟩⟩⟩)
  · rw [run_callFunc_extern Go.Proofs.Tryz.func131 (by kernel_rfl) (by kernel_rfl) (by kernel_rfl) (e := Extern.BytealgIndexByte.indexByte) (by kernel_rfl), Lib.run_indexByteString]
    simp only [Result.andThen, ixOf_lib, ByteArray.toList_eq]
  · simp only [RepF, RepV]
    exact ⟨trivial, trivial⟩
def T_liteIndexByte : Tab := [(9, i9), (5, i5)]
theorem TOK_liteIndexByte : TOK Go.Proofs.Tryz.prog T_liteIndexByte := ⟨K9, ⟨K5, trivial⟩⟩
def T_liteIndex : Tab := [(9, i9), (3, i3), (5, i5)]
theorem TOK_liteIndex : TOK Go.Proofs.Tryz.prog T_liteIndex := ⟨K9, ⟨K3, ⟨K5, trivial⟩⟩⟩
def T_liteCut : Tab := [(9, i9), (3, i3)]
theorem TOK_liteCut : TOK Go.Proofs.Tryz.prog T_liteCut := ⟨K9, ⟨K3, trivial⟩⟩
def T_Cut : Tab := [(9, i9)]
theorem TOK_Cut : TOK Go.Proofs.Tryz.prog T_Cut := ⟨K9, trivial⟩
theorem c_liteIndexByte (s : ByteArray) (c : Int) : VCall Go.Proofs.Tryz.prog gl 119 [.str s, .int .u8 c] (fun x => x = .int .i64 (ixI (ixOf c.toNat.toUInt8 s.toList))) := by
  refine vcall_of TOK_liteIndexByte HM Go.Proofs.Tryz.func119 rfl (by decide +kernel) (by decide +kernel) rfl ?_
  repeat' ((conv => whnf); first | (with_reducible first | apply Xa | (first | apply xi | apply xu | apply x8 | apply x3 | apply xn | apply xp | apply xP | refine xs ?_ ?_ | refine xS ?_ ?_ | refine xZ ?_ ?_ | refine xl ?_ ?_ | refine xd ?_ ?_ | refine xy ?_ ?_ | refine xL ?_ ?_ | refine xD ?_ ?_ | apply xx); omega | apply Xm | apply Xe) | refine Xo (by assumption) ?_ | refine Or.inl ⟨rfl, ?_⟩ | (split <;> (first | (rename_i u h; clear u) | rename_i h) <;> (try rewrite [h]) <;> (first | replace h := dt h | replace h := df h | replace h := Nt h | replace h := Nf h | skip)))
  conv => whnf
  refine .inl ⟨_, c_IndexByteString gl s c, ?_⟩
  rintro _ rfl
  repeat' ((conv => whnf); first | (with_reducible first | apply Xa | (first | apply xi | apply xu | apply x8 | apply x3 | apply xn | apply xp | apply xP | refine xs ?_ ?_ | refine xS ?_ ?_ | refine xZ ?_ ?_ | refine xl ?_ ?_ | refine xd ?_ ?_ | refine xy ?_ ?_ | refine xL ?_ ?_ | refine xD ?_ ?_ | apply xx); omega | apply Xm | apply Xe) | refine Xo (by assumption) ?_ | refine Or.inl ⟨rfl, ?_⟩ | (split <;> (first | (rename_i u h; clear u) | rename_i h) <;> (try rewrite [h]) <;> (first | replace h := dt h | replace h := df h | replace h := Nt h | replace h := Nf h | skip)))
  conv => whnf
  rfl
abbrev slashB : ByteArray := ⟨#[47]⟩
theorem slash_list : slashB.toList = [47] := by rw [ByteArray.toList_eq]
theorem c_liteIndex (s : ByteArray) (hs : s.size < 9000000000) : VCall Go.Proofs.Tryz.prog gl 106 [.str s, .str slashB] (fun x => x = .int .i64 (ixI (ixOf 47 s.toList))) := by
  refine vcall_of TOK_liteIndex HM Go.Proofs.Tryz.func106 rfl (by decide +kernel) (by decide +kernel) rfl ?_
  repeat' ((conv => whnf); first | (with_reducible first | apply Xa | (first | apply xi | apply xu | apply x8 | apply x3 | apply xn | apply xp | apply xP | refine xs ?_ ?_ | refine xS ?_ ?_ | refine xZ ?_ ?_ | refine xl ?_ ?_ | refine xd ?_ ?_ | refine xy ?_ ?_ | refine xL ?_ ?_ | refine xD ?_ ?_ | apply xx); omega | apply Xm | apply Xe) | refine Xo (by assumption) ?_ | refine Or.inl ⟨rfl, ?_⟩ | (split <;> (first | (rename_i u h; clear u) | rename_i h) <;> (try rewrite [h]) <;> (first | replace h := dt h | replace h := df h | replace h := Nt h | replace h := Nf h | skip)))
  · conv => whnf
    rw [← h, slash_list]; rfl
  · conv => whnf
    refine ⟨0, 47, rfl, by rw [slash_list]; rfl, ?_⟩
    repeat' ((conv => whnf); first | (with_reducible first | apply Xa | (first | apply xi | apply xu | apply x8 | apply x3 | apply xn | apply xp | apply xP | refine xs ?_ ?_ | refine xS ?_ ?_ | refine xZ ?_ ?_ | refine xl ?_ ?_ | refine xd ?_ ?_ | refine xy ?_ ?_ | refine xL ?_ ?_ | refine xD ?_ ?_ | apply xx); omega | apply Xm | apply Xe) | refine Xo (by assumption) ?_ | refine Or.inl ⟨rfl, ?_⟩ | (split <;> (first | (rename_i u h; clear u) | rename_i h) <;> (try rewrite [h]) <;> (first | replace h := dt h | replace h := df h | replace h := Nt h | replace h := Nf h | skip)))
    conv => whnf
    refine .inl ⟨_, c_liteIndexByte gl s 47, ?_⟩
    rintro _ rfl
    repeat' ((conv => whnf); first | (with_reducible first | apply Xa | (first | apply xi | apply xu | apply x8 | apply x3 | apply xn | apply xp | apply xP | refine xs ?_ ?_ | refine xS ?_ ?_ | refine xZ ?_ ?_ | refine xl ?_ ?_ | refine xd ?_ ?_ | refine xy ?_ ?_ | refine xL ?_ ?_ | refine xD ?_ ?_ | apply xx); omega | apply Xm | apply Xe) | refine Xo (by assumption) ?_ | refine Or.inl ⟨rfl, ?_⟩ | (split <;> (first | (rename_i u h; clear u) | rename_i h) <;> (try rewrite [h]) <;> (first | replace h := dt h | replace h := df h | replace h := Nt h | replace h := Nf h | skip)))
    conv => whnf
    rfl
def cutP (s : ByteArray) : ByteArray × ByteArray × Bool :=
  match ixOf 47 s.toList with
  | some k => (⟨(s.toList.take k).toArray⟩, ⟨(s.toList.drop (k + 1)).toArray⟩, true)
  | none => (s, ⟨#[]⟩, false)
theorem c_liteCut (s : ByteArray) (hs : s.size < 9000000000) : VCall Go.Proofs.Tryz.prog gl 92 [.str s, .str slashB] (fun x => x = .tup [.str (cutP s).1, .str (cutP s).2.1, .bool (cutP s).2.2]) := by
  refine vcall_of TOK_liteCut HM Go.Proofs.Tryz.func92 rfl (by decide +kernel) (by decide +kernel) rfl ?_
  have hl := Go.N.len_toList s
  have hsl : slashB.size = 1 := rfl
  have hc := c_liteIndex gl s hs
  cases hi : ixOf 47 s.toList with
  | none =>
    have e : cutP s = (s, ⟨#[]⟩, false) := by simp only [cutP, hi]
    rw [e]
    rw [hi] at hc
    repeat' ((conv => whnf); first | (with_reducible first | apply Xa | (first | apply xi | apply xu | apply x8 | apply x3 | apply xn | apply xp | apply xP | refine xs ?_ ?_ | refine xS ?_ ?_ | refine xZ ?_ ?_ | refine xl ?_ ?_ | refine xd ?_ ?_ | refine xy ?_ ?_ | refine xL ?_ ?_ | refine xD ?_ ?_ | apply xx); omega | apply Xm | apply Xe) | refine Xo (by assumption) ?_ | refine Or.inl ⟨rfl, ?_⟩ | (split <;> (first | (rename_i u h; clear u) | rename_i h) <;> (try rewrite [h]) <;> (first | replace h := dt h | replace h := df h | replace h := Nt h | replace h := Nf h | skip)))
    conv => whnf
    refine .inl ⟨_, hc, ?_⟩
    rintro _ rfl
    repeat' ((conv => whnf); first | (with_reducible first | apply Xa | (first | apply xi | apply xu | apply x8 | apply x3 | apply xn | apply xp | apply xP | refine xs ?_ ?_ | refine xS ?_ ?_ | refine xZ ?_ ?_ | refine xl ?_ ?_ | refine xd ?_ ?_ | refine xy ?_ ?_ | refine xL ?_ ?_ | refine xD ?_ ?_ | apply xx); omega | apply Xm | apply Xe) | refine Xo (by assumption) ?_ | refine Or.inl ⟨rfl, ?_⟩ | (split <;> (first | (rename_i u h; clear u) | rename_i h) <;> (try rewrite [h]) <;> (first | replace h := dt h | replace h := df h | replace h := Nt h | replace h := Nf h | skip)))
    conv => whnf
    rfl
  | some k =>
    have hk := ixOf_lt hi
    have e : cutP s = (⟨(s.toList.take k).toArray⟩, ⟨(s.toList.drop (k + 1)).toArray⟩, true) := by simp only [cutP, hi]
    rw [e]
    rw [hi] at hc
    have hc : VCall Go.Proofs.Tryz.prog gl 106 [.str s, .str slashB] (fun x => x = .int .i64 ((k : Nat) : Int)) := hc
    have e1 : s.extract (0 : Int).toNat ((k : Nat) : Int).toNat = ⟨(s.toList.take k).toArray⟩ := by
      refine toList_inj ?_
      rw [ext_toList, toList_mk]; simp
    have e2 : s.extract ((k : Int) + 1).toNat ((s.size : Nat) : Int).toNat = ⟨(s.toList.drop (k + 1)).toArray⟩ := by
      refine toList_inj ?_
      rw [ext_toList, show ((k : Int) + 1).toNat = k + 1 by omega, Int.toNat_natCast, List.take_of_length_le (l := s.toList.drop (k + 1)) (by simp [hl])]
      exact (toList_mk _).symm
    rw [← e1, ← e2]
    repeat' ((conv => whnf); first | (with_reducible first | apply Xa | (first | apply xi | apply xu | apply x8 | apply x3 | apply xn | apply xp | apply xP | refine xs ?_ ?_ | refine xS ?_ ?_ | refine xZ ?_ ?_ | refine xl ?_ ?_ | refine xd ?_ ?_ | refine xy ?_ ?_ | refine xL ?_ ?_ | refine xD ?_ ?_ | apply xx); omega | apply Xm | apply Xe) | refine Xo (by assumption) ?_ | refine Or.inl ⟨rfl, ?_⟩ | (split <;> (first | (rename_i u h; clear u) | rename_i h) <;> (try rewrite [h]) <;> (first | replace h := dt h | replace h := df h | replace h := Nt h | replace h := Nf h | skip)))
    conv => whnf
    refine .inl ⟨_, hc, ?_⟩
    rintro _ rfl
    repeat' ((conv => whnf); first | (with_reducible first | apply Xa | (first | apply xi | apply xu | apply x8 | apply x3 | apply xn | apply xp | apply xP | refine xs ?_ ?_ | refine xS ?_ ?_ | refine xZ ?_ ?_ | refine xl ?_ ?_ | refine xd ?_ ?_ | refine xy ?_ ?_ | refine xL ?_ ?_ | refine xD ?_ ?_ | apply xx); omega | apply Xm | apply Xe) | refine Xo (by assumption) ?_ | refine Or.inl ⟨rfl, ?_⟩ | (split <;> (first | (rename_i u h; clear u) | rename_i h) <;> (try rewrite [h]) <;> (first | replace h := dt h | replace h := df h | replace h := Nt h | replace h := Nf h | skip)))
    refine ⟨by decide +kernel, [0, 0, 3, 0, 0, 0, 32, 112, 248, 7, 1023, 2047], by decide +kernel, ?_⟩
    repeat' ((conv => whnf); first | (with_reducible first | apply Xa | (first | apply xi | apply xu | apply x8 | apply x3 | apply xn | apply xp | apply xP | refine xs ?_ ?_ | refine xS ?_ ?_ | refine xZ ?_ ?_ | refine xl ?_ ?_ | refine xd ?_ ?_ | refine xy ?_ ?_ | refine xL ?_ ?_ | refine xD ?_ ?_ | apply xx); omega | apply Xm | apply Xe) | refine Xo (by assumption) ?_ | refine Or.inl ⟨rfl, ?_⟩ | (split <;> (first | (rename_i u h; clear u) | rename_i h) <;> (try rewrite [h]) <;> (first | replace h := dt h | replace h := df h | replace h := Nt h | replace h := Nf h | skip)))
    conv => whnf
    rfl
theorem c_Cut (s : ByteArray) (hs : s.size < 9000000000) : VCall Go.Proofs.Tryz.prog gl 76 [.str s, .str slashB] (fun x => x = .tup [.str (cutP s).1, .str (cutP s).2.1, .bool (cutP s).2.2]) := by
  refine vcall_of TOK_Cut HM Go.Proofs.Tryz.func76 rfl (by decide +kernel) (by decide +kernel) rfl ?_
  repeat' ((conv => whnf); first | (with_reducible first | apply Xa | (first | apply xi | apply xu | apply x8 | apply x3 | apply xn | apply xp | apply xP | refine xs ?_ ?_ | refine xS ?_ ?_ | refine xZ ?_ ?_ | refine xl ?_ ?_ | refine xd ?_ ?_ | refine xy ?_ ?_ | refine xL ?_ ?_ | refine xD ?_ ?_ | apply xx); omega | apply Xm | apply Xe) | refine Xo (by assumption) ?_ | refine Or.inl ⟨rfl, ?_⟩ | (split <;> (first | (rename_i u h; clear u) | rename_i h) <;> (try rewrite [h]) <;> (first | replace h := dt h | replace h := df h | replace h := Nt h | replace h := Nf h | skip)))
  conv => whnf
  refine .inl ⟨_, c_liteCut gl s hs, ?_⟩
  rintro _ rfl
  repeat' ((conv => whnf); first | (with_reducible first | apply Xa | (first | apply xi | apply xu | apply x8 | apply x3 | apply xn | apply xp | apply xP | refine xs ?_ ?_ | refine xS ?_ ?_ | refine xZ ?_ ?_ | refine xl ?_ ?_ | refine xd ?_ ?_ | refine xy ?_ ?_ | refine xL ?_ ?_ | refine xD ?_ ?_ | apply xx); omega | apply Xm | apply Xe) | refine Xo (by assumption) ?_ | refine Or.inl ⟨rfl, ?_⟩ | (split <;> (first | (rename_i u h; clear u) | rename_i h) <;> (try rewrite [h]) <;> (first | replace h := dt h | replace h := df h | replace h := Nt h | replace h := Nf h | skip)))
  conv => whnf
  rfl
end Go.V
namespace Go.V
open Go.N
variable (gl : Gl)
def T_Wread : Tab := [(123, i123), (9, i9), (4, i4)]
theorem TOK_Wread : TOK Go.Proofs.Tryz.prog T_Wread := ⟨K123, ⟨K9, ⟨K4, trivial⟩⟩⟩
def T_WRight : Tab := [(9, i9), (123, i123)]
theorem TOK_WRight : TOK Go.Proofs.Tryz.prog T_WRight := ⟨K9, ⟨K123, trivial⟩⟩
def T_Wtext : Tab := [(123, i123), (4, i4), (9, i9)]
theorem TOK_Wtext : TOK Go.Proofs.Tryz.prog T_Wtext := ⟨K123, ⟨K4, ⟨K9, trivial⟩⟩⟩
def T_WNeg : Tab := [(9, i9), (123, i123), (4, i4)]
theorem TOK_WNeg : TOK Go.Proofs.Tryz.prog T_WNeg := ⟨K9, ⟨K123, ⟨K4, trivial⟩⟩⟩
def T_Rsize : Tab := [(9, i9)]
theorem TOK_Rsize : TOK Go.Proofs.Tryz.prog T_Rsize := ⟨K9, trivial⟩
theorem minus_list : minusB.toList = [45] := by rw [ByteArray.toList_eq]
theorem minus_cons (l : List UInt8) : hasP ⟨(45 :: l).toArray⟩ minusB = true ∧ trimP ⟨(45 :: l).toArray⟩ minusB = ⟨l.toArray⟩ := by
  have h : hasP ⟨(45 :: l).toArray⟩ minusB = true := by rw [hasP_minus, toList_mk]; simp
  refine ⟨h, ?_⟩
  rw [trimP, if_pos h]
  refine toList_inj ?_
  rw [ext_toList, toList_mk, toList_mk]
  rw [show minusB.size = 1 from rfl]
  have : (⟨(45 :: l).toArray⟩ : ByteArray).size = l.length + 1 := by rw [← Go.N.len_toList, toList_mk]; rfl
  rw [this]; simp
theorem minus_cases (s : ByteArray) : (hasP s minusB = true ∧ s = ⟨(45 :: (trimP s minusB).toList).toArray⟩) ∨ (hasP s minusB = false ∧ trimP s minusB = s ∧ s.toList[0]? ≠ some 45) := by
  cases hb : hasP s minusB with
  | true =>
    left
    refine ⟨rfl, ?_⟩
    rw [hasP_minus, decide_eq_true_eq] at hb
    have h0 : 0 < s.toList.length := (List.getElem?_eq_some_iff.1 hb).1
    obtain ⟨a, l, hal⟩ := List.exists_cons_of_length_pos h0
    rw [hal] at hb
    simp at hb
    subst hb
    have e : s = ⟨(45 :: l).toArray⟩ := by rw [← mk_toList s, hal]
    rw [e, (minus_cons l).2, toList_mk]
  | false =>
    right
    refine ⟨rfl, ?_, ?_⟩
    · rw [trimP, if_neg (by simp [hb])]
    · rw [hasP_minus, decide_eq_false_iff_not] at hb; exact hb
theorem minus_zero (s : ByteArray) : (hasP s minusB = true ∧ trimP s minusB = ⟨#[48]⟩) ↔ s = ⟨#[45, 48]⟩ := by
  constructor
  · rintro ⟨h1, h2⟩
    rcases minus_cases s with ⟨_, h⟩ | ⟨h, _⟩
    · rw [h, h2]
      have e : (⟨#[48]⟩ : ByteArray).toList = [48] := by rw [ByteArray.toList_eq]
      rw [e]
    · rw [h] at h1; cases h1
  · intro h
    rw [h]
    exact minus_cons [48]
theorem c_Wread (s : ByteArray) (hs : s.size < 9000000000) : VCall Go.Proofs.Tryz.prog gl 93 [.str s] (fun x => x = .tup [.agg [.bool (hasP s minusB), .str (trimP s minusB)], .bool (isWhole s)]) := by
  refine vcall_of TOK_Wread HM Go.Proofs.Tryz.func93 rfl (by decide +kernel) (by decide +kernel) rfl ?_
  have ht := trimP_size s minusB
  have hz := minus_zero s
  repeat' ((conv => whnf); first | (with_reducible first | apply Xa | (first | apply xi | apply xu | apply x8 | apply x3 | apply xn | apply xp | apply xP | refine xs ?_ ?_ | refine xS ?_ ?_ | refine xZ ?_ ?_ | refine xl ?_ ?_ | refine xd ?_ ?_ | refine xy ?_ ?_ | refine xL ?_ ?_ | refine xD ?_ ?_ | apply xx); omega | apply Xm | apply Xe) | refine Xo (by assumption) ?_ | refine Or.inl ⟨rfl, ?_⟩ | (split <;> (first | (rename_i u h; clear u) | rename_i h) <;> (try rewrite [h]) <;> (first | replace h := dt h | replace h := df h | replace h := Nt h | replace h := Nf h | skip)))
  conv => whnf
  refine .inl ⟨_, c_CutPrefix gl s minusB hs (by decide), ?_⟩
  rintro _ rfl
  repeat' ((conv => whnf); first | (with_reducible first | apply Xa | (first | apply xi | apply xu | apply x8 | apply x3 | apply xn | apply xp | apply xP | refine xs ?_ ?_ | refine xS ?_ ?_ | refine xZ ?_ ?_ | refine xl ?_ ?_ | refine xd ?_ ?_ | refine xy ?_ ?_ | refine xL ?_ ?_ | refine xD ?_ ?_ | apply xx); omega | apply Xm | apply Xe) | refine Xo (by assumption) ?_ | refine Or.inl ⟨rfl, ?_⟩ | (split <;> (first | (rename_i u h; clear u) | rename_i h) <;> (try rewrite [h]) <;> (first | replace h := dt h | replace h := df h | replace h := Nt h | replace h := Nf h | skip)))
  conv => whnf
  refine .inl ⟨_, c_NRight gl (trimP s minusB) (by omega), ?_⟩
  rintro _ rfl
  cases hb : hasP s minusB <;> cases hc : isNat (trimP s minusB).toList
  · repeat' ((conv => whnf); first | (with_reducible first | apply Xa | (first | apply xi | apply xu | apply x8 | apply x3 | apply xn | apply xp | apply xP | refine xs ?_ ?_ | refine xS ?_ ?_ | refine xZ ?_ ?_ | refine xl ?_ ?_ | refine xd ?_ ?_ | refine xy ?_ ?_ | refine xL ?_ ?_ | refine xD ?_ ?_ | apply xx); omega | apply Xm | apply Xe) | refine Xo (by assumption) ?_ | refine Or.inl ⟨rfl, ?_⟩ | (split <;> (first | (rename_i u h; clear u) | rename_i h) <;> (try rewrite [h]) <;> (first | replace h := dt h | replace h := df h | replace h := Nt h | replace h := Nf h | skip)))
    conv => whnf
    simp [isWhole, hc, one]
  · have hne : ¬ s = ⟨#[45, 48]⟩ := fun e => by have := (hz.2 e).1; rw [hb] at this; cases this
    repeat' ((conv => whnf); first | (with_reducible first | apply Xa | (first | apply xi | apply xu | apply x8 | apply x3 | apply xn | apply xp | apply xP | refine xs ?_ ?_ | refine xS ?_ ?_ | refine xZ ?_ ?_ | refine xl ?_ ?_ | refine xd ?_ ?_ | refine xy ?_ ?_ | refine xL ?_ ?_ | refine xD ?_ ?_ | apply xx); omega | apply Xm | apply Xe) | refine Xo (by assumption) ?_ | refine Or.inl ⟨rfl, ?_⟩ | (split <;> (first | (rename_i u h; clear u) | rename_i h) <;> (try rewrite [h]) <;> (first | replace h := dt h | replace h := df h | replace h := Nt h | replace h := Nf h | skip)))
    conv => whnf
    simp [isWhole, hc, one, hne]
  · repeat' ((conv => whnf); first | (with_reducible first | apply Xa | (first | apply xi | apply xu | apply x8 | apply x3 | apply xn | apply xp | apply xP | refine xs ?_ ?_ | refine xS ?_ ?_ | refine xZ ?_ ?_ | refine xl ?_ ?_ | refine xd ?_ ?_ | refine xy ?_ ?_ | refine xL ?_ ?_ | refine xD ?_ ?_ | apply xx); omega | apply Xm | apply Xe) | refine Xo (by assumption) ?_ | refine Or.inl ⟨rfl, ?_⟩ | (split <;> (first | (rename_i u h; clear u) | rename_i h) <;> (try rewrite [h]) <;> (first | replace h := dt h | replace h := df h | replace h := Nt h | replace h := Nf h | skip)))
    conv => whnf
    simp [isWhole, hc, one]
  · repeat' ((conv => whnf); first | (with_reducible first | apply Xa | (first | apply xi | apply xu | apply x8 | apply x3 | apply xn | apply xp | apply xP | refine xs ?_ ?_ | refine xS ?_ ?_ | refine xZ ?_ ?_ | refine xl ?_ ?_ | refine xd ?_ ?_ | refine xy ?_ ?_ | refine xL ?_ ?_ | refine xD ?_ ?_ | apply xx); omega | apply Xm | apply Xe) | refine Xo (by assumption) ?_ | refine Or.inl ⟨rfl, ?_⟩ | (split <;> (first | (rename_i u h; clear u) | rename_i h) <;> (try rewrite [h]) <;> (first | replace h := dt h | replace h := df h | replace h := Nt h | replace h := Nf h | skip)))
    conv => whnf
    by_cases h : trimP s minusB = ⟨#[48]⟩
    · have e := hz.1 ⟨hb, h⟩
      have e2 : isWhole s = false := by rw [isWhole]; simp [e]
      rw [e2]
      simp [one, h]
    · have e : ¬ s = ⟨#[45, 48]⟩ := fun e => h (hz.2 e).2
      have e2 : isWhole s = true := by rw [isWhole, hc]; simp [e]
      rw [e2]
      simp [one, h]
theorem c_WRight (s : ByteArray) (hs : s.size < 9000000000) : VCall Go.Proofs.Tryz.prog gl 77 [.str s] (fun x => x = .bool (isWhole s)) := by
  refine vcall_of TOK_WRight HM Go.Proofs.Tryz.func77 rfl (by decide +kernel) (by decide +kernel) rfl ?_
  repeat' ((conv => whnf); first | (with_reducible first | apply Xa | (first | apply xi | apply xu | apply x8 | apply x3 | apply xn | apply xp | apply xP | refine xs ?_ ?_ | refine xS ?_ ?_ | refine xZ ?_ ?_ | refine xl ?_ ?_ | refine xd ?_ ?_ | refine xy ?_ ?_ | refine xL ?_ ?_ | refine xD ?_ ?_ | apply xx); omega | apply Xm | apply Xe) | refine Xo (by assumption) ?_ | refine Or.inl ⟨rfl, ?_⟩ | (split <;> (first | (rename_i u h; clear u) | rename_i h) <;> (try rewrite [h]) <;> (first | replace h := dt h | replace h := df h | replace h := Nt h | replace h := Nf h | skip)))
  conv => whnf
  refine .inl ⟨_, c_Wread gl s hs, ?_⟩
  rintro _ rfl
  repeat' ((conv => whnf); first | (with_reducible first | apply Xa | (first | apply xi | apply xu | apply x8 | apply x3 | apply xn | apply xp | apply xP | refine xs ?_ ?_ | refine xS ?_ ?_ | refine xZ ?_ ?_ | refine xl ?_ ?_ | refine xd ?_ ?_ | refine xy ?_ ?_ | refine xL ?_ ?_ | refine xD ?_ ?_ | apply xx); omega | apply Xm | apply Xe) | refine Xo (by assumption) ?_ | refine Or.inl ⟨rfl, ?_⟩ | (split <;> (first | (rename_i u h; clear u) | rename_i h) <;> (try rewrite [h]) <;> (first | replace h := dt h | replace h := df h | replace h := Nt h | replace h := Nf h | skip)))
  conv => whnf
  rfl
theorem c_Wtext (m : Bool) (s : ByteArray) (hs : s.size < 9000000000) : VCall Go.Proofs.Tryz.prog gl 110 [.agg [.bool m, .str s]] (fun x => x = .str (if m = true ∧ s ≠ decB 0 then minusB ++ s else s)) := by
  refine vcall_of TOK_Wtext HM Go.Proofs.Tryz.func110 rfl (by decide +kernel) (by decide +kernel) rfl ?_
  rw [← zero_decB]
  generalize hR : (if m = true ∧ s ≠ ⟨#[48]⟩ then minusB ++ s else s) = R
  cases m
  · rw [if_neg (by simp)] at hR
    repeat' ((conv => whnf); first | (with_reducible first | apply Xa | (first | apply xi | apply xu | apply x8 | apply x3 | apply xn | apply xp | apply xP | refine xs ?_ ?_ | refine xS ?_ ?_ | refine xZ ?_ ?_ | refine xl ?_ ?_ | refine xd ?_ ?_ | refine xy ?_ ?_ | refine xL ?_ ?_ | refine xD ?_ ?_ | apply xx); omega | apply Xm | apply Xe) | refine Xo (by assumption) ?_ | refine Or.inl ⟨rfl, ?_⟩ | (split <;> (first | (rename_i u h; clear u) | rename_i h) <;> (try rewrite [h]) <;> (first | replace h := dt h | replace h := df h | replace h := Nt h | replace h := Nf h | skip)))
    conv => whnf
    exact congrArg AV.str hR
  · repeat' ((conv => whnf); first | (with_reducible first | apply Xa | (first | apply xi | apply xu | apply x8 | apply x3 | apply xn | apply xp | apply xP | refine xs ?_ ?_ | refine xS ?_ ?_ | refine xZ ?_ ?_ | refine xl ?_ ?_ | refine xd ?_ ?_ | refine xy ?_ ?_ | refine xL ?_ ?_ | refine xD ?_ ?_ | apply xx); omega | apply Xm | apply Xe) | refine Xo (by assumption) ?_ | refine Or.inl ⟨rfl, ?_⟩ | (split <;> (first | (rename_i u h; clear u) | rename_i h) <;> (try rewrite [h]) <;> (first | replace h := dt h | replace h := df h | replace h := Nt h | replace h := Nf h | skip)))
    · refine ⟨(show 1 + s.size ≤ 9223372036854775807 by omega), ?_⟩
      repeat' ((conv => whnf); first | (with_reducible first | apply Xa | (first | apply xi | apply xu | apply x8 | apply x3 | apply xn | apply xp | apply xP | refine xs ?_ ?_ | refine xS ?_ ?_ | refine xZ ?_ ?_ | refine xl ?_ ?_ | refine xd ?_ ?_ | refine xy ?_ ?_ | refine xL ?_ ?_ | refine xD ?_ ?_ | apply xx); omega | apply Xm | apply Xe) | refine Xo (by assumption) ?_ | refine Or.inl ⟨rfl, ?_⟩ | (split <;> (first | (rename_i u h; clear u) | rename_i h) <;> (try rewrite [h]) <;> (first | replace h := dt h | replace h := df h | replace h := Nt h | replace h := Nf h | skip)))
      conv => whnf
      rw [if_pos ⟨rfl, h⟩] at hR
      exact congrArg AV.str hR
    · conv => whnf
      rw [if_neg (fun hh => hh.2 h)] at hR
      exact congrArg AV.str hR
theorem c_WNeg (n : Nat) (hn0 : n ≠ 0) (hn : (dec n).length < 9000000) : VCall Go.Proofs.Tryz.prog gl 97 [.str (decB n)] (fun x => x = .tup [.str (minusB ++ decB n), .int .i64 0]) := by
  refine vcall_of TOK_WNeg HM Go.Proofs.Tryz.func97 rfl (by decide +kernel) (by decide +kernel) rfl ?_
  have hz := decB_size n
  have hnm : hasP (decB n) minusB = false := by
    rw [hasP_minus, decide_eq_false_iff_not, decB_toList]
    intro e
    have h1 := List.all_eq_true.1 (dec_dig n) 45 (List.mem_of_getElem? e)
    simp [isDig] at h1
  have htr : trimP (decB n) minusB = decB n := by rw [trimP, if_neg (by simp [hnm])]
  have hw : isWhole (decB n) = true := by
    have : ¬ decB n = ⟨#[45, 48]⟩ := fun e => by
      have := (minus_zero (decB n)).2 e
      rw [hnm] at this; cases this.1
    rw [isWhole, htr, decB_toList, isNat_dec]; simp [this]
  have hr := c_Wread gl (decB n) (by omega)
  rw [hnm, htr, hw] at hr
  have htx := c_Wtext gl true (decB n) (by omega)
  rw [if_pos ⟨rfl, fun e => hn0 (decB_inj.1 e)⟩] at htx
  repeat' ((conv => whnf); first | (with_reducible first | apply Xa | (first | apply xi | apply xu | apply x8 | apply x3 | apply xn | apply xp | apply xP | refine xs ?_ ?_ | refine xS ?_ ?_ | refine xZ ?_ ?_ | refine xl ?_ ?_ | refine xd ?_ ?_ | refine xy ?_ ?_ | refine xL ?_ ?_ | refine xD ?_ ?_ | apply xx); omega | apply Xm | apply Xe) | refine Xo (by assumption) ?_ | refine Or.inl ⟨rfl, ?_⟩ | (split <;> (first | (rename_i u h; clear u) | rename_i h) <;> (try rewrite [h]) <;> (first | replace h := dt h | replace h := df h | replace h := Nt h | replace h := Nf h | skip)))
  conv => whnf
  refine .inl ⟨_, hr, ?_⟩
  rintro _ rfl
  repeat' ((conv => whnf); first | (with_reducible first | apply Xa | (first | apply xi | apply xu | apply x8 | apply x3 | apply xn | apply xp | apply xP | refine xs ?_ ?_ | refine xS ?_ ?_ | refine xZ ?_ ?_ | refine xl ?_ ?_ | refine xd ?_ ?_ | refine xy ?_ ?_ | refine xL ?_ ?_ | refine xD ?_ ?_ | apply xx); omega | apply Xm | apply Xe) | refine Xo (by assumption) ?_ | refine Or.inl ⟨rfl, ?_⟩ | (split <;> (first | (rename_i u h; clear u) | rename_i h) <;> (try rewrite [h]) <;> (first | replace h := dt h | replace h := df h | replace h := Nt h | replace h := Nf h | skip)))
  conv => whnf
  refine .inl ⟨_, htx, ?_⟩
  rintro _ rfl
  repeat' ((conv => whnf); first | (with_reducible first | apply Xa | (first | apply xi | apply xu | apply x8 | apply x3 | apply xn | apply xp | apply xP | refine xs ?_ ?_ | refine xS ?_ ?_ | refine xZ ?_ ?_ | refine xl ?_ ?_ | refine xd ?_ ?_ | refine xy ?_ ?_ | refine xL ?_ ?_ | refine xD ?_ ?_ | apply xx); omega | apply Xm | apply Xe) | refine Xo (by assumption) ?_ | refine Or.inl ⟨rfl, ?_⟩ | (split <;> (first | (rename_i u h; clear u) | rename_i h) <;> (try rewrite [h]) <;> (first | replace h := dt h | replace h := df h | replace h := Nt h | replace h := Nf h | skip)))
  conv => whnf
  rfl
theorem c_Rsize (s : ByteArray) (hs : s.size < 9000000000) : VCall Go.Proofs.Tryz.prog gl 98 [.str s] (fun x => x = .str (trimP s minusB)) := by
  refine vcall_of TOK_Rsize HM Go.Proofs.Tryz.func98 rfl (by decide +kernel) (by decide +kernel) rfl ?_
  repeat' ((conv => whnf); first | (with_reducible first | apply Xa | (first | apply xi | apply xu | apply x8 | apply x3 | apply xn | apply xp | apply xP | refine xs ?_ ?_ | refine xS ?_ ?_ | refine xZ ?_ ?_ | refine xl ?_ ?_ | refine xd ?_ ?_ | refine xy ?_ ?_ | refine xL ?_ ?_ | refine xD ?_ ?_ | apply xx); omega | apply Xm | apply Xe) | refine Xo (by assumption) ?_ | refine Or.inl ⟨rfl, ?_⟩ | (split <;> (first | (rename_i u h; clear u) | rename_i h) <;> (try rewrite [h]) <;> (first | replace h := dt h | replace h := df h | replace h := Nt h | replace h := Nf h | skip)))
  conv => whnf
  refine .inl ⟨_, c_TrimPrefix gl s minusB hs (by decide), ?_⟩
  rintro _ rfl
  repeat' ((conv => whnf); first | (with_reducible first | apply Xa | (first | apply xi | apply xu | apply x8 | apply x3 | apply xn | apply xp | apply xP | refine xs ?_ ?_ | refine xS ?_ ?_ | refine xZ ?_ ?_ | refine xl ?_ ?_ | refine xd ?_ ?_ | refine xy ?_ ?_ | refine xL ?_ ?_ | refine xD ?_ ?_ | apply xx); omega | apply Xm | apply Xe) | refine Xo (by assumption) ?_ | refine Or.inl ⟨rfl, ?_⟩ | (split <;> (first | (rename_i u h; clear u) | rename_i h) <;> (try rewrite [h]) <;> (first | replace h := dt h | replace h := df h | replace h := Nt h | replace h := Nf h | skip)))
  conv => whnf
  rfl
end Go.V
namespace Go.V
open Go.N
variable (gl : Gl)
def T_Rtext : Tab := [(81, i81), (9, i9)]
theorem TOK_Rtext : TOK Go.Proofs.Tryz.prog T_Rtext := ⟨K81, ⟨K9, trivial⟩⟩
def T_Rlowest : Tab := [(81, i81), (9, i9), (66, i66), (106, i106), (104, i104), (28, i28), (134, i134), (132, i132)]
theorem TOK_Rlowest : TOK Go.Proofs.Tryz.prog T_Rlowest := ⟨K81, ⟨K9, ⟨K66, ⟨K106, ⟨K104, ⟨K28, ⟨K134, ⟨K132, trivial⟩⟩⟩⟩⟩⟩⟩⟩
def T_Rread : Tab := [(81, i81), (9, i9), (4, i4), (66, i66), (106, i106), (104, i104)]
theorem TOK_Rread : TOK Go.Proofs.Tryz.prog T_Rread := ⟨K81, ⟨K9, ⟨K4, ⟨K66, ⟨K106, ⟨K104, trivial⟩⟩⟩⟩⟩⟩
def T_RRight : Tab := [(9, i9), (81, i81), (66, i66)]
theorem TOK_RRight : TOK Go.Proofs.Tryz.prog T_RRight := ⟨K9, ⟨K81, ⟨K66, trivial⟩⟩⟩
def T_r03_Text : Tab := [(52, i52), (9, i9)]
theorem TOK_r03_Text : TOK Go.Proofs.Tryz.prog T_r03_Text := ⟨K52, ⟨K9, trivial⟩⟩
def T_r03_Lowest : Tab := [(52, i52), (9, i9), (3, i3)]
theorem TOK_r03_Lowest : TOK Go.Proofs.Tryz.prog T_r03_Lowest := ⟨K52, ⟨K9, ⟨K3, trivial⟩⟩⟩
def T_r03_Read : Tab := [(52, i52), (9, i9), (3, i3), (5, i5), (4, i4)]
theorem TOK_r03_Read : TOK Go.Proofs.Tryz.prog T_r03_Read := ⟨K52, ⟨K9, ⟨K3, ⟨K5, ⟨K4, trivial⟩⟩⟩⟩⟩
def pairT (p q : ByteArray) : ByteArray := if q = ⟨#[49]⟩ then p else p ++ slashB ++ q
theorem c_Rtext (p q : ByteArray) (hp : p.size < 9000000) (hq : q.size < 9000000) : VCall Go.Proofs.Tryz.prog gl 80 [.agg [.str p, .str q]] (fun x => x = .str (pairT p q)) := by
  refine vcall_of TOK_Rtext HM Go.Proofs.Tryz.func80 rfl (by decide +kernel) (by decide +kernel) rfl ?_
  have hsl : slashB.size = 1 := rfl
  repeat' ((conv => whnf); first | (with_reducible first | apply Xa | (first | apply xi | apply xu | apply x8 | apply x3 | apply xn | apply xp | apply xP | refine xs ?_ ?_ | refine xS ?_ ?_ | refine xZ ?_ ?_ | refine xl ?_ ?_ | refine xd ?_ ?_ | refine xy ?_ ?_ | refine xL ?_ ?_ | refine xD ?_ ?_ | apply xx); omega | apply Xm | apply Xe) | refine Xo (by assumption) ?_ | refine Or.inl ⟨rfl, ?_⟩ | (split <;> (first | (rename_i u h; clear u) | rename_i h) <;> (try rewrite [h]) <;> (first | replace h := dt h | replace h := df h | replace h := Nt h | replace h := Nf h | skip)))
  · conv => whnf
    exact congrArg AV.str (by rw [pairT, if_pos h])
  · refine ⟨(show p.size + 1 ≤ _ by omega), ?_⟩
    have hs2 : (p ++ slashB).size = p.size + 1 := by rw [ByteArray.size_append]; rfl
    repeat' ((conv => whnf); first | (with_reducible first | apply Xa | (first | apply xi | apply xu | apply x8 | apply x3 | apply xn | apply xp | apply xP | refine xs ?_ ?_ | refine xS ?_ ?_ | refine xZ ?_ ?_ | refine xl ?_ ?_ | refine xd ?_ ?_ | refine xy ?_ ?_ | refine xL ?_ ?_ | refine xD ?_ ?_ | apply xx); omega | apply Xm | apply Xe) | refine Xo (by assumption) ?_ | refine Or.inl ⟨rfl, ?_⟩ | (split <;> (first | (rename_i u h; clear u) | rename_i h) <;> (try rewrite [h]) <;> (first | replace h := dt h | replace h := df h | replace h := Nt h | replace h := Nf h | skip)))
    refine ⟨(show (p ++ slashB).size + q.size ≤ _ by omega), ?_⟩
    repeat' ((conv => whnf); first | (with_reducible first | apply Xa | (first | apply xi | apply xu | apply x8 | apply x3 | apply xn | apply xp | apply xP | refine xs ?_ ?_ | refine xS ?_ ?_ | refine xZ ?_ ?_ | refine xl ?_ ?_ | refine xd ?_ ?_ | refine xy ?_ ?_ | refine xL ?_ ?_ | refine xD ?_ ?_ | apply xx); omega | apply Xm | apply Xe) | refine Xo (by assumption) ?_ | refine Or.inl ⟨rfl, ?_⟩ | (split <;> (first | (rename_i u h; clear u) | rename_i h) <;> (try rewrite [h]) <;> (first | replace h := dt h | replace h := df h | replace h := Nt h | replace h := Nf h | skip)))
    conv => whnf
    exact congrArg AV.str (by rw [pairT, if_neg h])
theorem c_r03_Text (p q : ByteArray) (hp : p.size < 9000000) (hq : q.size < 9000000) : VCall Go.Proofs.Tryz.prog gl 42 [.agg [.str p, .str q]] (fun x => x = .str (pairT p q)) := by
  refine vcall_of TOK_r03_Text HM Go.Proofs.Tryz.func42 rfl (by decide +kernel) (by decide +kernel) rfl ?_
  have hsl : slashB.size = 1 := rfl
  repeat' ((conv => whnf); first | (with_reducible first | apply Xa | (first | apply xi | apply xu | apply x8 | apply x3 | apply xn | apply xp | apply xP | refine xs ?_ ?_ | refine xS ?_ ?_ | refine xZ ?_ ?_ | refine xl ?_ ?_ | refine xd ?_ ?_ | refine xy ?_ ?_ | refine xL ?_ ?_ | refine xD ?_ ?_ | apply xx); omega | apply Xm | apply Xe) | refine Xo (by assumption) ?_ | refine Or.inl ⟨rfl, ?_⟩ | (split <;> (first | (rename_i u h; clear u) | rename_i h) <;> (try rewrite [h]) <;> (first | replace h := dt h | replace h := df h | replace h := Nt h | replace h := Nf h | skip)))
  · conv => whnf
    exact congrArg AV.str (by rw [pairT, if_pos h])
  · refine ⟨(show p.size + 1 ≤ _ by omega), ?_⟩
    have hs2 : (p ++ slashB).size = p.size + 1 := by rw [ByteArray.size_append]; rfl
    repeat' ((conv => whnf); first | (with_reducible first | apply Xa | (first | apply xi | apply xu | apply x8 | apply x3 | apply xn | apply xp | apply xP | refine xs ?_ ?_ | refine xS ?_ ?_ | refine xZ ?_ ?_ | refine xl ?_ ?_ | refine xd ?_ ?_ | refine xy ?_ ?_ | refine xL ?_ ?_ | refine xD ?_ ?_ | apply xx); omega | apply Xm | apply Xe) | refine Xo (by assumption) ?_ | refine Or.inl ⟨rfl, ?_⟩ | (split <;> (first | (rename_i u h; clear u) | rename_i h) <;> (try rewrite [h]) <;> (first | replace h := dt h | replace h := df h | replace h := Nt h | replace h := Nf h | skip)))
    refine ⟨(show (p ++ slashB).size + q.size ≤ _ by omega), ?_⟩
    repeat' ((conv => whnf); first | (with_reducible first | apply Xa | (first | apply xi | apply xu | apply x8 | apply x3 | apply xn | apply xp | apply xP | refine xs ?_ ?_ | refine xS ?_ ?_ | refine xZ ?_ ?_ | refine xl ?_ ?_ | refine xd ?_ ?_ | refine xy ?_ ?_ | refine xL ?_ ?_ | refine xD ?_ ?_ | apply xx); omega | apply Xm | apply Xe) | refine Xo (by assumption) ?_ | refine Or.inl ⟨rfl, ?_⟩ | (split <;> (first | (rename_i u h; clear u) | rename_i h) <;> (try rewrite [h]) <;> (first | replace h := dt h | replace h := df h | replace h := Nt h | replace h := Nf h | skip)))
    conv => whnf
    exact congrArg AV.str (by rw [pairT, if_neg h])
def absW (p : ByteArray) : Nat := dval (trimP p minusB).toList
def lowP (p : ByteArray) (n : Nat) : ByteArray := if hasP p minusB = true then minusB ++ decB (absW p / Nat.gcd (absW p) n) else decB (absW p / Nat.gcd (absW p) n)
def lowQ (p : ByteArray) (n : Nat) : ByteArray := decB (n / Nat.gcd (absW p) n)
structure Low (p : ByteArray) (n : Nat) : Prop where
  tr : trimP p minusB = decB (absW p)
  len : (dec (absW p)).length = (trimP p minusB).size
  neg : hasP p minusB = true → absW p ≠ 0
  qneg : hasP (decB n) minusB = false
  qtr : trimP (decB n) minusB = decB n
theorem low_of {p : ByteArray} {n : Nat} (hp : isWhole p = true) : Low p n := by
  simp only [isWhole, Bool.and_eq_true, Bool.not_eq_true', decide_eq_false_iff_not] at hp
  have h1 := isNat_decB hp.1
  have hnm : hasP (decB n) minusB = false := by
    rw [hasP_minus, decide_eq_false_iff_not, decB_toList]
    intro e
    have h1 := List.all_eq_true.1 (dec_dig n) 45 (List.mem_of_getElem? e)
    simp [isDig] at h1
  refine ⟨h1, ?_, fun h e => ?_, hnm, by rw [trimP, if_neg (by simp [hnm])]⟩
  · rw [← decB_size]; unfold absW; rw [← h1]
  · refine hp.2 ((minus_zero p).1 ⟨h, ?_⟩)
    rw [h1]
    show decB (absW p) = _
    rw [e, zero_decB]
set_option maxHeartbeats 4000000 in
theorem c_Rlowest (p : ByteArray) (n : Nat) (hw : isWhole p = true) (hn0 : n ≠ 0) (hp : p.size < 200000) (hn : (dec n).length < 200000) : VCall Go.Proofs.Tryz.prog gl 79 [.str p, .str (decB n)]
    (fun x => x = .tup [.agg [.str (lowP p n), .str (lowQ p n)], .nili]) := by
  refine vcall_of TOK_Rlowest HM Go.Proofs.Tryz.func79 rfl (by decide +kernel) (by decide +kernel) rfl ?_
  have L := low_of (n := n) hw
  have ht := trimP_size p minusB
  have hlen := L.len
  have hz := decB_size n
  have hg0 : 0 < Nat.gcd (absW p) n := Nat.gcd_pos_of_pos_right _ (by omega)
  have hgl : (dec (Nat.gcd (absW p) n)).length ≤ (dec n).length := dec_mono (Nat.gcd_le_right _ (by omega))
  have hq0 : ¬ decB n = ⟨#[48]⟩ := fun e => hn0 (by rw [zero_decB] at e; exact decB_inj.1 e)
  have hql : (dec (absW p / Nat.gcd (absW p) n)).length ≤ (dec (absW p)).length := dec_mono (Nat.div_le_self _ _)
  have h1 := c_HasPrefix gl (decB n) minusB (by omega) (by decide)
  rw [L.qneg] at h1
  have h2 := c_Rsize gl p (by omega)
  rw [L.tr] at h2
  have h3 := c_NGcd gl (absW p) n (by omega) (by omega)
  have h4 := c_NDiv gl (absW p) (Nat.gcd (absW p) n) hg0 (by omega) (by omega)
  have h5 := c_NDiv gl n (Nat.gcd (absW p) n) hg0 (by omega) (by omega)
  have h6 := c_HasPrefix gl p minusB (by omega) (by decide)
  repeat' ((conv => whnf); first | (with_reducible first | apply Xa | (first | apply xi | apply xu | apply x8 | apply x3 | apply xn | apply xp | apply xP | refine xs ?_ ?_ | refine xS ?_ ?_ | refine xZ ?_ ?_ | refine xl ?_ ?_ | refine xd ?_ ?_ | refine xy ?_ ?_ | refine xL ?_ ?_ | refine xD ?_ ?_ | apply xx); omega | apply Xm | apply Xe) | refine Xo (by assumption) ?_ | refine Or.inl ⟨rfl, ?_⟩ | (split <;> (first | (rename_i u h; clear u) | rename_i h) <;> (try rewrite [h]) <;> (first | replace h := dt h | replace h := df h | replace h := Nt h | replace h := Nf h | skip)))
  · exact absurd h hq0
  conv => whnf
  refine .inl ⟨_, h1, ?_⟩
  rintro _ rfl
  repeat' ((conv => whnf); first | (with_reducible first | apply Xa | (first | apply xi | apply xu | apply x8 | apply x3 | apply xn | apply xp | apply xP | refine xs ?_ ?_ | refine xS ?_ ?_ | refine xZ ?_ ?_ | refine xl ?_ ?_ | refine xd ?_ ?_ | refine xy ?_ ?_ | refine xL ?_ ?_ | refine xD ?_ ?_ | apply xx); omega | apply Xm | apply Xe) | refine Xo (by assumption) ?_ | refine Or.inl ⟨rfl, ?_⟩ | (split <;> (first | (rename_i u h; clear u) | rename_i h) <;> (try rewrite [h]) <;> (first | replace h := dt h | replace h := df h | replace h := Nt h | replace h := Nf h | skip)))
  conv => whnf
  refine .inl ⟨_, h2, ?_⟩
  rintro _ rfl
  repeat' ((conv => whnf); first | (with_reducible first | apply Xa | (first | apply xi | apply xu | apply x8 | apply x3 | apply xn | apply xp | apply xP | refine xs ?_ ?_ | refine xS ?_ ?_ | refine xZ ?_ ?_ | refine xl ?_ ?_ | refine xd ?_ ?_ | refine xy ?_ ?_ | refine xL ?_ ?_ | refine xD ?_ ?_ | apply xx); omega | apply Xm | apply Xe) | refine Xo (by assumption) ?_ | refine Or.inl ⟨rfl, ?_⟩ | (split <;> (first | (rename_i u h; clear u) | rename_i h) <;> (try rewrite [h]) <;> (first | replace h := dt h | replace h := df h | replace h := Nt h | replace h := Nf h | skip)))
  conv => whnf
  refine .inl ⟨_, h3, ?_⟩
  rintro _ rfl
  repeat' ((conv => whnf); first | (with_reducible first | apply Xa | (first | apply xi | apply xu | apply x8 | apply x3 | apply xn | apply xp | apply xP | refine xs ?_ ?_ | refine xS ?_ ?_ | refine xZ ?_ ?_ | refine xl ?_ ?_ | refine xd ?_ ?_ | refine xy ?_ ?_ | refine xL ?_ ?_ | refine xD ?_ ?_ | apply xx); omega | apply Xm | apply Xe) | refine Xo (by assumption) ?_ | refine Or.inl ⟨rfl, ?_⟩ | (split <;> (first | (rename_i u h; clear u) | rename_i h) <;> (try rewrite [h]) <;> (first | replace h := dt h | replace h := df h | replace h := Nt h | replace h := Nf h | skip)))
  conv => whnf
  refine .inl ⟨_, h2, ?_⟩
  rintro _ rfl
  repeat' ((conv => whnf); first | (with_reducible first | apply Xa | (first | apply xi | apply xu | apply x8 | apply x3 | apply xn | apply xp | apply xP | refine xs ?_ ?_ | refine xS ?_ ?_ | refine xZ ?_ ?_ | refine xl ?_ ?_ | refine xd ?_ ?_ | refine xy ?_ ?_ | refine xL ?_ ?_ | refine xD ?_ ?_ | apply xx); omega | apply Xm | apply Xe) | refine Xo (by assumption) ?_ | refine Or.inl ⟨rfl, ?_⟩ | (split <;> (first | (rename_i u h; clear u) | rename_i h) <;> (try rewrite [h]) <;> (first | replace h := dt h | replace h := df h | replace h := Nt h | replace h := Nf h | skip)))
  conv => whnf
  refine .inl ⟨_, h4, ?_⟩
  rintro _ rfl
  repeat' ((conv => whnf); first | (with_reducible first | apply Xa | (first | apply xi | apply xu | apply x8 | apply x3 | apply xn | apply xp | apply xP | refine xs ?_ ?_ | refine xS ?_ ?_ | refine xZ ?_ ?_ | refine xl ?_ ?_ | refine xd ?_ ?_ | refine xy ?_ ?_ | refine xL ?_ ?_ | refine xD ?_ ?_ | apply xx); omega | apply Xm | apply Xe) | refine Xo (by assumption) ?_ | refine Or.inl ⟨rfl, ?_⟩ | (split <;> (first | (rename_i u h; clear u) | rename_i h) <;> (try rewrite [h]) <;> (first | replace h := dt h | replace h := df h | replace h := Nt h | replace h := Nf h | skip)))
  conv => whnf
  refine .inl ⟨_, h5, ?_⟩
  rintro _ rfl
  repeat' ((conv => whnf); first | (with_reducible first | apply Xa | (first | apply xi | apply xu | apply x8 | apply x3 | apply xn | apply xp | apply xP | refine xs ?_ ?_ | refine xS ?_ ?_ | refine xZ ?_ ?_ | refine xl ?_ ?_ | refine xd ?_ ?_ | refine xy ?_ ?_ | refine xL ?_ ?_ | refine xD ?_ ?_ | apply xx); omega | apply Xm | apply Xe) | refine Xo (by assumption) ?_ | refine Or.inl ⟨rfl, ?_⟩ | (split <;> (first | (rename_i u h; clear u) | rename_i h) <;> (try rewrite [h]) <;> (first | replace h := dt h | replace h := df h | replace h := Nt h | replace h := Nf h | skip)))
  conv => whnf
  refine .inl ⟨_, h6, ?_⟩
  rintro _ rfl
  cases hb : hasP p minusB
  · repeat' ((conv => whnf); first | (with_reducible first | apply Xa | (first | apply xi | apply xu | apply x8 | apply x3 | apply xn | apply xp | apply xP | refine xs ?_ ?_ | refine xS ?_ ?_ | refine xZ ?_ ?_ | refine xl ?_ ?_ | refine xd ?_ ?_ | refine xy ?_ ?_ | refine xL ?_ ?_ | refine xD ?_ ?_ | apply xx); omega | apply Xm | apply Xe) | refine Xo (by assumption) ?_ | refine Or.inl ⟨rfl, ?_⟩ | (split <;> (first | (rename_i u h; clear u) | rename_i h) <;> (try rewrite [h]) <;> (first | replace h := dt h | replace h := df h | replace h := Nt h | replace h := Nf h | skip)))
    conv => whnf
    simp [lowP, lowQ, hb, one]
  · have hd0 : absW p / Nat.gcd (absW p) n ≠ 0 := by
      have h1 := Nat.div_pos (Nat.le_of_dvd (Nat.pos_of_ne_zero (L.neg hb)) (Nat.gcd_dvd_left (absW p) n)) hg0
      omega
    have h7 := c_WNeg gl (absW p / Nat.gcd (absW p) n) hd0 (by omega)
    repeat' ((conv => whnf); first | (with_reducible first | apply Xa | (first | apply xi | apply xu | apply x8 | apply x3 | apply xn | apply xp | apply xP | refine xs ?_ ?_ | refine xS ?_ ?_ | refine xZ ?_ ?_ | refine xl ?_ ?_ | refine xd ?_ ?_ | refine xy ?_ ?_ | refine xL ?_ ?_ | refine xD ?_ ?_ | apply xx); omega | apply Xm | apply Xe) | refine Xo (by assumption) ?_ | refine Or.inl ⟨rfl, ?_⟩ | (split <;> (first | (rename_i u h; clear u) | rename_i h) <;> (try rewrite [h]) <;> (first | replace h := dt h | replace h := df h | replace h := Nt h | replace h := Nf h | skip)))
    conv => whnf
    refine .inl ⟨_, h7, ?_⟩
    rintro _ rfl
    repeat' ((conv => whnf); first | (with_reducible first | apply Xa | (first | apply xi | apply xu | apply x8 | apply x3 | apply xn | apply xp | apply xP | refine xs ?_ ?_ | refine xS ?_ ?_ | refine xZ ?_ ?_ | refine xl ?_ ?_ | refine xd ?_ ?_ | refine xy ?_ ?_ | refine xL ?_ ?_ | refine xD ?_ ?_ | apply xx); omega | apply Xm | apply Xe) | refine Xo (by assumption) ?_ | refine Or.inl ⟨rfl, ?_⟩ | (split <;> (first | (rename_i u h; clear u) | rename_i h) <;> (try rewrite [h]) <;> (first | replace h := dt h | replace h := df h | replace h := Nt h | replace h := Nf h | skip)))
    conv => whnf
    simp [lowP, lowQ, hb, one]
end Go.V
namespace Go.V
open Go.N
def pow10Z : List Int := [1, 10, 100, 1000, 10000, 100000, 1000000, 10000000, 100000000, 1000000000, 10000000000, 100000000000, 1000000000000, 10000000000000, 100000000000000, 1000000000000000, 10000000000000000, 100000000000000000, 1000000000000000000, 10000000000000000000]
def pow10C : List AV := pow10Z.map fun z => .int .u64 z
def GL : Gl := [(0, [.iface 168 .j]), (3, [.iface 168 .j]), (1, pow10C)]
theorem cutP_size (s : ByteArray) : (cutP s).1.size ≤ s.size ∧ (cutP s).2.1.size ≤ s.size := by
  have hl := Go.N.len_toList s
  unfold cutP
  split
  · rename_i k hk
    have := ixOf_lt hk
    refine ⟨?_, ?_⟩
    · rw [← Go.N.len_toList, toList_mk]; simp; omega
    · rw [← Go.N.len_toList, toList_mk]; simp; omega
  · exact ⟨Nat.le_refl _, Nat.zero_le _⟩
abbrev oneB : ByteArray := ⟨#[49]⟩
theorem one_decB : oneB = decB 1 := by decide +kernel
def ratQ (s : ByteArray) : ByteArray := if (cutP s).2.2 = true then (cutP s).2.1 else oneB
def ratOK1 (s : ByteArray) : Bool := isWhole (cutP s).1 && isNat (ratQ s).toList && !decide (ratQ s = ⟨#[48]⟩) && !((cutP s).2.2 && decide (ratQ s = oneB))
def ratN (s : ByteArray) : Nat := dval (ratQ s).toList
def ratOK (s : ByteArray) : Bool := ratOK1 s && decide (pairT (lowP (cutP s).1 (ratN s)) (lowQ (cutP s).1 (ratN s)) = s)
theorem low_size {p : ByteArray} {n : Nat} (hp : isWhole p = true) : (lowP p n).size ≤ p.size + 1 ∧ (lowQ p n).size ≤ (dec n).length := by
  have L := low_of (n := n) hp
  have ht := trimP_size p minusB
  have h1 : (dec (absW p / Nat.gcd (absW p) n)).length ≤ (dec (absW p)).length := dec_mono (Nat.div_le_self _ _)
  have h2 : (dec (n / Nat.gcd (absW p) n)).length ≤ (dec n).length := dec_mono (Nat.div_le_self _ _)
  have hl := L.len
  refine ⟨?_, by rw [lowQ, decB_size]; exact h2⟩
  unfold lowP
  split
  · rw [ByteArray.size_append, decB_size]
    have : minusB.size = 1 := rfl
    omega
  · rw [decB_size]; omega
set_option maxHeartbeats 4000000 in
theorem c_Rread (s : ByteArray) (hs : s.size < 190000) : VCall Go.Proofs.Tryz.prog GL 58 [.str s]
    (fun x => x = if ratOK s = true then .tup [.agg [.str (lowP (cutP s).1 (ratN s)), .str (lowQ (cutP s).1 (ratN s))], .nili] else .tup [.agg [.str ⟨#[]⟩, .str ⟨#[]⟩], .iface 104 .j]) := by
  refine vcall_of TOK_Rread HM Go.Proofs.Tryz.func58 rfl (by decide +kernel) (by decide +kernel) rfl ?_
  have hcs := cutP_size s
  have hc := c_Cut GL s (by omega)
  generalize hR : (if ratOK s = true then AV.tup [.agg [.str (lowP (cutP s).1 (ratN s)), .str (lowQ (cutP s).1 (ratN s))], .nili] else .tup [.agg [.str ⟨#[]⟩, .str ⟨#[]⟩], .iface 104 .j]) = R
  have hR0 : ratOK1 s = false → R = .tup [.agg [.str ⟨#[]⟩, .str ⟨#[]⟩], .iface 104 .j] := fun h => by
    rw [← hR, if_neg (by simp [ratOK, h])]
  obtain ⟨p, hp⟩ : ∃ p, p = (cutP s).1 := ⟨_, rfl⟩
  obtain ⟨q0, hq0⟩ : ∃ q, q = (cutP s).2.1 := ⟨_, rfl⟩
  rw [← hp, ← hq0] at hcs
  rw [← hp, ← hq0] at hc
  have hw := c_WRight GL p (by omega)
  cases htwo : (cutP s).2.2
  · rw [htwo] at hc
    have hq : ratQ s = oneB := by rw [ratQ, if_neg (by simp [htwo])]
    have hr := c_NRight GL oneB (by decide)
    have hn1 : isNat oneB.toList = true := by rw [one_decB, decB_toList]; exact isNat_dec 1
    rw [hn1] at hr
    cases hwp : isWhole p
    · rw [hwp] at hw
      have hbad : ratOK1 s = false := by simp [ratOK1, ← hp, hwp]
      rw [hR0 hbad]
      repeat' ((conv => whnf); first | (with_reducible first | apply Xa | (first | apply xi | apply xu | apply x8 | apply x3 | apply xn | apply xp | apply xP | refine xs ?_ ?_ | refine xS ?_ ?_ | refine xZ ?_ ?_ | refine xl ?_ ?_ | refine xd ?_ ?_ | refine xy ?_ ?_ | refine xL ?_ ?_ | refine xD ?_ ?_ | apply xx); omega | apply Xm | apply Xe) | refine Xo (by assumption) ?_ | refine Or.inl ⟨rfl, ?_⟩ | (split <;> (first | (rename_i u h; clear u) | rename_i h) <;> (try rewrite [h]) <;> (first | replace h := dt h | replace h := df h | replace h := Nt h | replace h := Nf h | skip)))
      conv => whnf
      refine .inl ⟨_, hc, ?_⟩
      rintro _ rfl
      repeat' ((conv => whnf); first | (with_reducible first | apply Xa | (first | apply xi | apply xu | apply x8 | apply x3 | apply xn | apply xp | apply xP | refine xs ?_ ?_ | refine xS ?_ ?_ | refine xZ ?_ ?_ | refine xl ?_ ?_ | refine xd ?_ ?_ | refine xy ?_ ?_ | refine xL ?_ ?_ | refine xD ?_ ?_ | apply xx); omega | apply Xm | apply Xe) | refine Xo (by assumption) ?_ | refine Or.inl ⟨rfl, ?_⟩ | (split <;> (first | (rename_i u h; clear u) | rename_i h) <;> (try rewrite [h]) <;> (first | replace h := dt h | replace h := df h | replace h := Nt h | replace h := Nf h | skip)))
      conv => whnf
      refine .inl ⟨_, hw, ?_⟩
      rintro _ rfl
      repeat' ((conv => whnf); first | (with_reducible first | apply Xa | (first | apply xi | apply xu | apply x8 | apply x3 | apply xn | apply xp | apply xP | refine xs ?_ ?_ | refine xS ?_ ?_ | refine xZ ?_ ?_ | refine xl ?_ ?_ | refine xd ?_ ?_ | refine xy ?_ ?_ | refine xL ?_ ?_ | refine xD ?_ ?_ | apply xx); omega | apply Xm | apply Xe) | refine Xo (by assumption) ?_ | refine Or.inl ⟨rfl, ?_⟩ | (split <;> (first | (rename_i u h; clear u) | rename_i h) <;> (try rewrite [h]) <;> (first | replace h := dt h | replace h := df h | replace h := Nt h | replace h := Nf h | skip)))
      refine ⟨by decide +kernel, [0, 0, 0, 6, 14, 30, 1, 127], by decide +kernel, ?_⟩
      repeat' ((conv => whnf); first | (with_reducible first | apply Xa | (first | apply xi | apply xu | apply x8 | apply x3 | apply xn | apply xp | apply xP | refine xs ?_ ?_ | refine xS ?_ ?_ | refine xZ ?_ ?_ | refine xl ?_ ?_ | refine xd ?_ ?_ | refine xy ?_ ?_ | refine xL ?_ ?_ | refine xD ?_ ?_ | apply xx); omega | apply Xm | apply Xe) | refine Xo (by assumption) ?_ | refine Or.inl ⟨rfl, ?_⟩ | (split <;> (first | (rename_i u h; clear u) | rename_i h) <;> (try rewrite [h]) <;> (first | replace h := dt h | replace h := df h | replace h := Nt h | replace h := Nf h | skip)))
      conv => whnf
      rfl
    · rw [hwp] at hw
      have hN : ratN s = 1 := by rw [ratN, hq, one_decB, dval_decB]
      have hok : ratOK1 s = true := by
        rw [ratOK1, ← hp, hwp, hq, hn1, htwo]
        have : ¬ oneB = ⟨#[48]⟩ := by decide
        simp [this]
      have L := low_of (n := 1) hwp
      have hd1 : (dec 1).length = 1 := by rw [dec_lt (by omega)]; rfl
      have hlw := c_Rlowest GL p 1 hwp (by omega) (by omega) (by omega)
      have hsz := low_size hwp (n := 1)
      have htx := c_Rtext GL (lowP p 1) (lowQ p 1) (by omega) (by omega)
      rw [← one_decB] at hlw
      rw [← hN] at hlw htx
      repeat' ((conv => whnf); first | (with_reducible first | apply Xa | (first | apply xi | apply xu | apply x8 | apply x3 | apply xn | apply xp | apply xP | refine xs ?_ ?_ | refine xS ?_ ?_ | refine xZ ?_ ?_ | refine xl ?_ ?_ | refine xd ?_ ?_ | refine xy ?_ ?_ | refine xL ?_ ?_ | refine xD ?_ ?_ | apply xx); omega | apply Xm | apply Xe) | refine Xo (by assumption) ?_ | refine Or.inl ⟨rfl, ?_⟩ | (split <;> (first | (rename_i u h; clear u) | rename_i h) <;> (try rewrite [h]) <;> (first | replace h := dt h | replace h := df h | replace h := Nt h | replace h := Nf h | skip)))
      conv => whnf
      refine .inl ⟨_, hc, ?_⟩
      rintro _ rfl
      repeat' ((conv => whnf); first | (with_reducible first | apply Xa | (first | apply xi | apply xu | apply x8 | apply x3 | apply xn | apply xp | apply xP | refine xs ?_ ?_ | refine xS ?_ ?_ | refine xZ ?_ ?_ | refine xl ?_ ?_ | refine xd ?_ ?_ | refine xy ?_ ?_ | refine xL ?_ ?_ | refine xD ?_ ?_ | apply xx); omega | apply Xm | apply Xe) | refine Xo (by assumption) ?_ | refine Or.inl ⟨rfl, ?_⟩ | (split <;> (first | (rename_i u h; clear u) | rename_i h) <;> (try rewrite [h]) <;> (first | replace h := dt h | replace h := df h | replace h := Nt h | replace h := Nf h | skip)))
      conv => whnf
      refine .inl ⟨_, hw, ?_⟩
      rintro _ rfl
      repeat' ((conv => whnf); first | (with_reducible first | apply Xa | (first | apply xi | apply xu | apply x8 | apply x3 | apply xn | apply xp | apply xP | refine xs ?_ ?_ | refine xS ?_ ?_ | refine xZ ?_ ?_ | refine xl ?_ ?_ | refine xd ?_ ?_ | refine xy ?_ ?_ | refine xL ?_ ?_ | refine xD ?_ ?_ | apply xx); omega | apply Xm | apply Xe) | refine Xo (by assumption) ?_ | refine Or.inl ⟨rfl, ?_⟩ | (split <;> (first | (rename_i u h; clear u) | rename_i h) <;> (try rewrite [h]) <;> (first | replace h := dt h | replace h := df h | replace h := Nt h | replace h := Nf h | skip)))
      conv => whnf
      refine .inl ⟨_, hr, ?_⟩
      rintro _ rfl
      repeat' ((conv => whnf); first | (with_reducible first | apply Xa | (first | apply xi | apply xu | apply x8 | apply x3 | apply xn | apply xp | apply xP | refine xs ?_ ?_ | refine xS ?_ ?_ | refine xZ ?_ ?_ | refine xl ?_ ?_ | refine xd ?_ ?_ | refine xy ?_ ?_ | refine xL ?_ ?_ | refine xD ?_ ?_ | apply xx); omega | apply Xm | apply Xe) | refine Xo (by assumption) ?_ | refine Or.inl ⟨rfl, ?_⟩ | (split <;> (first | (rename_i u h; clear u) | rename_i h) <;> (try rewrite [h]) <;> (first | replace h := dt h | replace h := df h | replace h := Nt h | replace h := Nf h | skip)))
      conv => whnf
      refine .inl ⟨_, hlw, ?_⟩
      rintro _ rfl
      repeat' ((conv => whnf); first | (with_reducible first | apply Xa | (first | apply xi | apply xu | apply x8 | apply x3 | apply xn | apply xp | apply xP | refine xs ?_ ?_ | refine xS ?_ ?_ | refine xZ ?_ ?_ | refine xl ?_ ?_ | refine xd ?_ ?_ | refine xy ?_ ?_ | refine xL ?_ ?_ | refine xD ?_ ?_ | apply xx); omega | apply Xm | apply Xe) | refine Xo (by assumption) ?_ | refine Or.inl ⟨rfl, ?_⟩ | (split <;> (first | (rename_i u h; clear u) | rename_i h) <;> (try rewrite [h]) <;> (first | replace h := dt h | replace h := df h | replace h := Nt h | replace h := Nf h | skip)))
      conv => whnf
      refine .inl ⟨_, htx, ?_⟩
      rintro _ rfl
      by_cases heq : pairT (lowP p (ratN s)) (lowQ p (ratN s)) = s
      · have hfin : R = .tup [.agg [.str (lowP p (ratN s)), .str (lowQ p (ratN s))], .nili] := by
          rw [← hR, if_pos (by rw [ratOK, hok, ← hp]; simp [heq]), ← hp]
        rw [hfin]
        repeat' ((conv => whnf); first | (with_reducible first | apply Xa | (first | apply xi | apply xu | apply x8 | apply x3 | apply xn | apply xp | apply xP | refine xs ?_ ?_ | refine xS ?_ ?_ | refine xZ ?_ ?_ | refine xl ?_ ?_ | refine xd ?_ ?_ | refine xy ?_ ?_ | refine xL ?_ ?_ | refine xD ?_ ?_ | apply xx); omega | apply Xm | apply Xe) | refine Xo (by assumption) ?_ | refine Or.inl ⟨rfl, ?_⟩ | (split <;> (first | (rename_i u h; clear u) | rename_i h) <;> (try rewrite [h]) <;> (first | replace h := dt h | replace h := df h | replace h := Nt h | replace h := Nf h | skip)))
        · exact absurd heq (by simpa using h)
        conv => whnf
        rfl
      · have hfin : R = .tup [.agg [.str ⟨#[]⟩, .str ⟨#[]⟩], .iface 104 .j] := by
          rw [← hR, if_neg (by rw [ratOK, hok, ← hp]; simp [heq])]
        rw [hfin]
        repeat' ((conv => whnf); first | (with_reducible first | apply Xa | (first | apply xi | apply xu | apply x8 | apply x3 | apply xn | apply xp | apply xP | refine xs ?_ ?_ | refine xS ?_ ?_ | refine xZ ?_ ?_ | refine xl ?_ ?_ | refine xd ?_ ?_ | refine xy ?_ ?_ | refine xL ?_ ?_ | refine xD ?_ ?_ | apply xx); omega | apply Xm | apply Xe) | refine Xo (by assumption) ?_ | refine Or.inl ⟨rfl, ?_⟩ | (split <;> (first | (rename_i u h; clear u) | rename_i h) <;> (try rewrite [h]) <;> (first | replace h := dt h | replace h := df h | replace h := Nt h | replace h := Nf h | skip)))
        rotate_left
        · exact absurd (by simpa using h) heq
        refine ⟨by decide +kernel, [0, 0, 0, 6, 14, 30, 1, 127], by decide +kernel, ?_⟩
        repeat' ((conv => whnf); first | (with_reducible first | apply Xa | (first | apply xi | apply xu | apply x8 | apply x3 | apply xn | apply xp | apply xP | refine xs ?_ ?_ | refine xS ?_ ?_ | refine xZ ?_ ?_ | refine xl ?_ ?_ | refine xd ?_ ?_ | refine xy ?_ ?_ | refine xL ?_ ?_ | refine xD ?_ ?_ | apply xx); omega | apply Xm | apply Xe) | refine Xo (by assumption) ?_ | refine Or.inl ⟨rfl, ?_⟩ | (split <;> (first | (rename_i u h; clear u) | rename_i h) <;> (try rewrite [h]) <;> (first | replace h := dt h | replace h := df h | replace h := Nt h | replace h := Nf h | skip)))
        conv => whnf
        rfl
  · rw [htwo] at hc
    have hq : ratQ s = q0 := by rw [ratQ, if_pos htwo, hq0]
    have hr := c_NRight GL q0 (by omega)
    cases hwp : isWhole p
    · rw [hwp] at hw
      have hbad : ratOK1 s = false := by simp [ratOK1, ← hp, hwp]
      rw [hR0 hbad]
      repeat' ((conv => whnf); first | (with_reducible first | apply Xa | (first | apply xi | apply xu | apply x8 | apply x3 | apply xn | apply xp | apply xP | refine xs ?_ ?_ | refine xS ?_ ?_ | refine xZ ?_ ?_ | refine xl ?_ ?_ | refine xd ?_ ?_ | refine xy ?_ ?_ | refine xL ?_ ?_ | refine xD ?_ ?_ | apply xx); omega | apply Xm | apply Xe) | refine Xo (by assumption) ?_ | refine Or.inl ⟨rfl, ?_⟩ | (split <;> (first | (rename_i u h; clear u) | rename_i h) <;> (try rewrite [h]) <;> (first | replace h := dt h | replace h := df h | replace h := Nt h | replace h := Nf h | skip)))
      conv => whnf
      refine .inl ⟨_, hc, ?_⟩
      rintro _ rfl
      repeat' ((conv => whnf); first | (with_reducible first | apply Xa | (first | apply xi | apply xu | apply x8 | apply x3 | apply xn | apply xp | apply xP | refine xs ?_ ?_ | refine xS ?_ ?_ | refine xZ ?_ ?_ | refine xl ?_ ?_ | refine xd ?_ ?_ | refine xy ?_ ?_ | refine xL ?_ ?_ | refine xD ?_ ?_ | apply xx); omega | apply Xm | apply Xe) | refine Xo (by assumption) ?_ | refine Or.inl ⟨rfl, ?_⟩ | (split <;> (first | (rename_i u h; clear u) | rename_i h) <;> (try rewrite [h]) <;> (first | replace h := dt h | replace h := df h | replace h := Nt h | replace h := Nf h | skip)))
      conv => whnf
      refine .inl ⟨_, hw, ?_⟩
      rintro _ rfl
      repeat' ((conv => whnf); first | (with_reducible first | apply Xa | (first | apply xi | apply xu | apply x8 | apply x3 | apply xn | apply xp | apply xP | refine xs ?_ ?_ | refine xS ?_ ?_ | refine xZ ?_ ?_ | refine xl ?_ ?_ | refine xd ?_ ?_ | refine xy ?_ ?_ | refine xL ?_ ?_ | refine xD ?_ ?_ | apply xx); omega | apply Xm | apply Xe) | refine Xo (by assumption) ?_ | refine Or.inl ⟨rfl, ?_⟩ | (split <;> (first | (rename_i u h; clear u) | rename_i h) <;> (try rewrite [h]) <;> (first | replace h := dt h | replace h := df h | replace h := Nt h | replace h := Nf h | skip)))
      refine ⟨by decide +kernel, [0, 0, 0, 6, 14, 30, 1, 127], by decide +kernel, ?_⟩
      repeat' ((conv => whnf); first | (with_reducible first | apply Xa | (first | apply xi | apply xu | apply x8 | apply x3 | apply xn | apply xp | apply xP | refine xs ?_ ?_ | refine xS ?_ ?_ | refine xZ ?_ ?_ | refine xl ?_ ?_ | refine xd ?_ ?_ | refine xy ?_ ?_ | refine xL ?_ ?_ | refine xD ?_ ?_ | apply xx); omega | apply Xm | apply Xe) | refine Xo (by assumption) ?_ | refine Or.inl ⟨rfl, ?_⟩ | (split <;> (first | (rename_i u h; clear u) | rename_i h) <;> (try rewrite [h]) <;> (first | replace h := dt h | replace h := df h | replace h := Nt h | replace h := Nf h | skip)))
      conv => whnf
      rfl
    · rw [hwp] at hw
      cases hn1 : isNat q0.toList
      · rw [hn1] at hr
        have hbad : ratOK1 s = false := by simp [ratOK1, hq, hn1]
        rw [hR0 hbad]
        repeat' ((conv => whnf); first | (with_reducible first | apply Xa | (first | apply xi | apply xu | apply x8 | apply x3 | apply xn | apply xp | apply xP | refine xs ?_ ?_ | refine xS ?_ ?_ | refine xZ ?_ ?_ | refine xl ?_ ?_ | refine xd ?_ ?_ | refine xy ?_ ?_ | refine xL ?_ ?_ | refine xD ?_ ?_ | apply xx); omega | apply Xm | apply Xe) | refine Xo (by assumption) ?_ | refine Or.inl ⟨rfl, ?_⟩ | (split <;> (first | (rename_i u h; clear u) | rename_i h) <;> (try rewrite [h]) <;> (first | replace h := dt h | replace h := df h | replace h := Nt h | replace h := Nf h | skip)))
        conv => whnf
        refine .inl ⟨_, hc, ?_⟩
        rintro _ rfl
        repeat' ((conv => whnf); first | (with_reducible first | apply Xa | (first | apply xi | apply xu | apply x8 | apply x3 | apply xn | apply xp | apply xP | refine xs ?_ ?_ | refine xS ?_ ?_ | refine xZ ?_ ?_ | refine xl ?_ ?_ | refine xd ?_ ?_ | refine xy ?_ ?_ | refine xL ?_ ?_ | refine xD ?_ ?_ | apply xx); omega | apply Xm | apply Xe) | refine Xo (by assumption) ?_ | refine Or.inl ⟨rfl, ?_⟩ | (split <;> (first | (rename_i u h; clear u) | rename_i h) <;> (try rewrite [h]) <;> (first | replace h := dt h | replace h := df h | replace h := Nt h | replace h := Nf h | skip)))
        conv => whnf
        refine .inl ⟨_, hw, ?_⟩
        rintro _ rfl
        repeat' ((conv => whnf); first | (with_reducible first | apply Xa | (first | apply xi | apply xu | apply x8 | apply x3 | apply xn | apply xp | apply xP | refine xs ?_ ?_ | refine xS ?_ ?_ | refine xZ ?_ ?_ | refine xl ?_ ?_ | refine xd ?_ ?_ | refine xy ?_ ?_ | refine xL ?_ ?_ | refine xD ?_ ?_ | apply xx); omega | apply Xm | apply Xe) | refine Xo (by assumption) ?_ | refine Or.inl ⟨rfl, ?_⟩ | (split <;> (first | (rename_i u h; clear u) | rename_i h) <;> (try rewrite [h]) <;> (first | replace h := dt h | replace h := df h | replace h := Nt h | replace h := Nf h | skip)))
        conv => whnf
        refine .inl ⟨_, hr, ?_⟩
        rintro _ rfl
        repeat' ((conv => whnf); first | (with_reducible first | apply Xa | (first | apply xi | apply xu | apply x8 | apply x3 | apply xn | apply xp | apply xP | refine xs ?_ ?_ | refine xS ?_ ?_ | refine xZ ?_ ?_ | refine xl ?_ ?_ | refine xd ?_ ?_ | refine xy ?_ ?_ | refine xL ?_ ?_ | refine xD ?_ ?_ | apply xx); omega | apply Xm | apply Xe) | refine Xo (by assumption) ?_ | refine Or.inl ⟨rfl, ?_⟩ | (split <;> (first | (rename_i u h; clear u) | rename_i h) <;> (try rewrite [h]) <;> (first | replace h := dt h | replace h := df h | replace h := Nt h | replace h := Nf h | skip)))
        refine ⟨by decide +kernel, [0, 0, 0, 6, 14, 30, 1, 127], by decide +kernel, ?_⟩
        repeat' ((conv => whnf); first | (with_reducible first | apply Xa | (first | apply xi | apply xu | apply x8 | apply x3 | apply xn | apply xp | apply xP | refine xs ?_ ?_ | refine xS ?_ ?_ | refine xZ ?_ ?_ | refine xl ?_ ?_ | refine xd ?_ ?_ | refine xy ?_ ?_ | refine xL ?_ ?_ | refine xD ?_ ?_ | apply xx); omega | apply Xm | apply Xe) | refine Xo (by assumption) ?_ | refine Or.inl ⟨rfl, ?_⟩ | (split <;> (first | (rename_i u h; clear u) | rename_i h) <;> (try rewrite [h]) <;> (first | replace h := dt h | replace h := df h | replace h := Nt h | replace h := Nf h | skip)))
        conv => whnf
        rfl
      · rw [hn1] at hr
        have hqd := isNat_decB hn1
        have hN : ratN s = dval q0.toList := by rw [ratN, hq]
        by_cases hz : q0 = ⟨#[48]⟩
        · have hbad : ratOK1 s = false := by simp [ratOK1, hq, hz]
          rw [hR0 hbad]
          repeat' ((conv => whnf); first | (with_reducible first | apply Xa | (first | apply xi | apply xu | apply x8 | apply x3 | apply xn | apply xp | apply xP | refine xs ?_ ?_ | refine xS ?_ ?_ | refine xZ ?_ ?_ | refine xl ?_ ?_ | refine xd ?_ ?_ | refine xy ?_ ?_ | refine xL ?_ ?_ | refine xD ?_ ?_ | apply xx); omega | apply Xm | apply Xe) | refine Xo (by assumption) ?_ | refine Or.inl ⟨rfl, ?_⟩ | (split <;> (first | (rename_i u h; clear u) | rename_i h) <;> (try rewrite [h]) <;> (first | replace h := dt h | replace h := df h | replace h := Nt h | replace h := Nf h | skip)))
          conv => whnf
          refine .inl ⟨_, hc, ?_⟩
          rintro _ rfl
          repeat' ((conv => whnf); first | (with_reducible first | apply Xa | (first | apply xi | apply xu | apply x8 | apply x3 | apply xn | apply xp | apply xP | refine xs ?_ ?_ | refine xS ?_ ?_ | refine xZ ?_ ?_ | refine xl ?_ ?_ | refine xd ?_ ?_ | refine xy ?_ ?_ | refine xL ?_ ?_ | refine xD ?_ ?_ | apply xx); omega | apply Xm | apply Xe) | refine Xo (by assumption) ?_ | refine Or.inl ⟨rfl, ?_⟩ | (split <;> (first | (rename_i u h; clear u) | rename_i h) <;> (try rewrite [h]) <;> (first | replace h := dt h | replace h := df h | replace h := Nt h | replace h := Nf h | skip)))
          conv => whnf
          refine .inl ⟨_, hw, ?_⟩
          rintro _ rfl
          repeat' ((conv => whnf); first | (with_reducible first | apply Xa | (first | apply xi | apply xu | apply x8 | apply x3 | apply xn | apply xp | apply xP | refine xs ?_ ?_ | refine xS ?_ ?_ | refine xZ ?_ ?_ | refine xl ?_ ?_ | refine xd ?_ ?_ | refine xy ?_ ?_ | refine xL ?_ ?_ | refine xD ?_ ?_ | apply xx); omega | apply Xm | apply Xe) | refine Xo (by assumption) ?_ | refine Or.inl ⟨rfl, ?_⟩ | (split <;> (first | (rename_i u h; clear u) | rename_i h) <;> (try rewrite [h]) <;> (first | replace h := dt h | replace h := df h | replace h := Nt h | replace h := Nf h | skip)))
          conv => whnf
          refine .inl ⟨_, hr, ?_⟩
          rintro _ rfl
          repeat' ((conv => whnf); first | (with_reducible first | apply Xa | (first | apply xi | apply xu | apply x8 | apply x3 | apply xn | apply xp | apply xP | refine xs ?_ ?_ | refine xS ?_ ?_ | refine xZ ?_ ?_ | refine xl ?_ ?_ | refine xd ?_ ?_ | refine xy ?_ ?_ | refine xL ?_ ?_ | refine xD ?_ ?_ | apply xx); omega | apply Xm | apply Xe) | refine Xo (by assumption) ?_ | refine Or.inl ⟨rfl, ?_⟩ | (split <;> (first | (rename_i u h; clear u) | rename_i h) <;> (try rewrite [h]) <;> (first | replace h := dt h | replace h := df h | replace h := Nt h | replace h := Nf h | skip)))
          all_goals first | exact absurd hz (by assumption) | skip
          refine ⟨by decide +kernel, [0, 0, 0, 6, 14, 30, 1, 127], by decide +kernel, ?_⟩
          repeat' ((conv => whnf); first | (with_reducible first | apply Xa | (first | apply xi | apply xu | apply x8 | apply x3 | apply xn | apply xp | apply xP | refine xs ?_ ?_ | refine xS ?_ ?_ | refine xZ ?_ ?_ | refine xl ?_ ?_ | refine xd ?_ ?_ | refine xy ?_ ?_ | refine xL ?_ ?_ | refine xD ?_ ?_ | apply xx); omega | apply Xm | apply Xe) | refine Xo (by assumption) ?_ | refine Or.inl ⟨rfl, ?_⟩ | (split <;> (first | (rename_i u h; clear u) | rename_i h) <;> (try rewrite [h]) <;> (first | replace h := dt h | replace h := df h | replace h := Nt h | replace h := Nf h | skip)))
          conv => whnf
          rfl
        · by_cases h1 : q0 = oneB
          · have hbad : ratOK1 s = false := by simp [ratOK1, hq, h1, htwo]
            rw [hR0 hbad]
            repeat' ((conv => whnf); first | (with_reducible first | apply Xa | (first | apply xi | apply xu | apply x8 | apply x3 | apply xn | apply xp | apply xP | refine xs ?_ ?_ | refine xS ?_ ?_ | refine xZ ?_ ?_ | refine xl ?_ ?_ | refine xd ?_ ?_ | refine xy ?_ ?_ | refine xL ?_ ?_ | refine xD ?_ ?_ | apply xx); omega | apply Xm | apply Xe) | refine Xo (by assumption) ?_ | refine Or.inl ⟨rfl, ?_⟩ | (split <;> (first | (rename_i u h; clear u) | rename_i h) <;> (try rewrite [h]) <;> (first | replace h := dt h | replace h := df h | replace h := Nt h | replace h := Nf h | skip)))
            conv => whnf
            refine .inl ⟨_, hc, ?_⟩
            rintro _ rfl
            repeat' ((conv => whnf); first | (with_reducible first | apply Xa | (first | apply xi | apply xu | apply x8 | apply x3 | apply xn | apply xp | apply xP | refine xs ?_ ?_ | refine xS ?_ ?_ | refine xZ ?_ ?_ | refine xl ?_ ?_ | refine xd ?_ ?_ | refine xy ?_ ?_ | refine xL ?_ ?_ | refine xD ?_ ?_ | apply xx); omega | apply Xm | apply Xe) | refine Xo (by assumption) ?_ | refine Or.inl ⟨rfl, ?_⟩ | (split <;> (first | (rename_i u h; clear u) | rename_i h) <;> (try rewrite [h]) <;> (first | replace h := dt h | replace h := df h | replace h := Nt h | replace h := Nf h | skip)))
            conv => whnf
            refine .inl ⟨_, hw, ?_⟩
            rintro _ rfl
            repeat' ((conv => whnf); first | (with_reducible first | apply Xa | (first | apply xi | apply xu | apply x8 | apply x3 | apply xn | apply xp | apply xP | refine xs ?_ ?_ | refine xS ?_ ?_ | refine xZ ?_ ?_ | refine xl ?_ ?_ | refine xd ?_ ?_ | refine xy ?_ ?_ | refine xL ?_ ?_ | refine xD ?_ ?_ | apply xx); omega | apply Xm | apply Xe) | refine Xo (by assumption) ?_ | refine Or.inl ⟨rfl, ?_⟩ | (split <;> (first | (rename_i u h; clear u) | rename_i h) <;> (try rewrite [h]) <;> (first | replace h := dt h | replace h := df h | replace h := Nt h | replace h := Nf h | skip)))
            conv => whnf
            refine .inl ⟨_, hr, ?_⟩
            rintro _ rfl
            repeat' ((conv => whnf); first | (with_reducible first | apply Xa | (first | apply xi | apply xu | apply x8 | apply x3 | apply xn | apply xp | apply xP | refine xs ?_ ?_ | refine xS ?_ ?_ | refine xZ ?_ ?_ | refine xl ?_ ?_ | refine xd ?_ ?_ | refine xy ?_ ?_ | refine xL ?_ ?_ | refine xD ?_ ?_ | apply xx); omega | apply Xm | apply Xe) | refine Xo (by assumption) ?_ | refine Or.inl ⟨rfl, ?_⟩ | (split <;> (first | (rename_i u h; clear u) | rename_i h) <;> (try rewrite [h]) <;> (first | replace h := dt h | replace h := df h | replace h := Nt h | replace h := Nf h | skip)))
            all_goals first | exact absurd h1 (by assumption) | exact absurd (by assumption) hz | skip
            refine ⟨by decide +kernel, [0, 0, 0, 6, 14, 30, 1, 127], by decide +kernel, ?_⟩
            repeat' ((conv => whnf); first | (with_reducible first | apply Xa | (first | apply xi | apply xu | apply x8 | apply x3 | apply xn | apply xp | apply xP | refine xs ?_ ?_ | refine xS ?_ ?_ | refine xZ ?_ ?_ | refine xl ?_ ?_ | refine xd ?_ ?_ | refine xy ?_ ?_ | refine xL ?_ ?_ | refine xD ?_ ?_ | apply xx); omega | apply Xm | apply Xe) | refine Xo (by assumption) ?_ | refine Or.inl ⟨rfl, ?_⟩ | (split <;> (first | (rename_i u h; clear u) | rename_i h) <;> (try rewrite [h]) <;> (first | replace h := dt h | replace h := df h | replace h := Nt h | replace h := Nf h | skip)))
            conv => whnf
            rfl
          · have hok : ratOK1 s = true := by
              rw [ratOK1, ← hp, hwp, hq, hn1, htwo]
              simp [hz, h1]
            have hn0 : dval q0.toList ≠ 0 := fun e => hz (by rw [hqd, e, zero_decB])
            have hdl : (dec (dval q0.toList)).length = q0.size := by rw [← decB_size, ← hqd]
            have hlw := c_Rlowest GL p (dval q0.toList) hwp hn0 (by omega) (by omega)
            have hsz := low_size hwp (n := dval q0.toList)
            have htx := c_Rtext GL (lowP p (dval q0.toList)) (lowQ p (dval q0.toList)) (by omega) (by omega)
            rw [← hqd] at hlw
            rw [← hN] at hlw htx
            repeat' ((conv => whnf); first | (with_reducible first | apply Xa | (first | apply xi | apply xu | apply x8 | apply x3 | apply xn | apply xp | apply xP | refine xs ?_ ?_ | refine xS ?_ ?_ | refine xZ ?_ ?_ | refine xl ?_ ?_ | refine xd ?_ ?_ | refine xy ?_ ?_ | refine xL ?_ ?_ | refine xD ?_ ?_ | apply xx); omega | apply Xm | apply Xe) | refine Xo (by assumption) ?_ | refine Or.inl ⟨rfl, ?_⟩ | (split <;> (first | (rename_i u h; clear u) | rename_i h) <;> (try rewrite [h]) <;> (first | replace h := dt h | replace h := df h | replace h := Nt h | replace h := Nf h | skip)))
            conv => whnf
            refine .inl ⟨_, hc, ?_⟩
            rintro _ rfl
            repeat' ((conv => whnf); first | (with_reducible first | apply Xa | (first | apply xi | apply xu | apply x8 | apply x3 | apply xn | apply xp | apply xP | refine xs ?_ ?_ | refine xS ?_ ?_ | refine xZ ?_ ?_ | refine xl ?_ ?_ | refine xd ?_ ?_ | refine xy ?_ ?_ | refine xL ?_ ?_ | refine xD ?_ ?_ | apply xx); omega | apply Xm | apply Xe) | refine Xo (by assumption) ?_ | refine Or.inl ⟨rfl, ?_⟩ | (split <;> (first | (rename_i u h; clear u) | rename_i h) <;> (try rewrite [h]) <;> (first | replace h := dt h | replace h := df h | replace h := Nt h | replace h := Nf h | skip)))
            conv => whnf
            refine .inl ⟨_, hw, ?_⟩
            rintro _ rfl
            repeat' ((conv => whnf); first | (with_reducible first | apply Xa | (first | apply xi | apply xu | apply x8 | apply x3 | apply xn | apply xp | apply xP | refine xs ?_ ?_ | refine xS ?_ ?_ | refine xZ ?_ ?_ | refine xl ?_ ?_ | refine xd ?_ ?_ | refine xy ?_ ?_ | refine xL ?_ ?_ | refine xD ?_ ?_ | apply xx); omega | apply Xm | apply Xe) | refine Xo (by assumption) ?_ | refine Or.inl ⟨rfl, ?_⟩ | (split <;> (first | (rename_i u h; clear u) | rename_i h) <;> (try rewrite [h]) <;> (first | replace h := dt h | replace h := df h | replace h := Nt h | replace h := Nf h | skip)))
            conv => whnf
            refine .inl ⟨_, hr, ?_⟩
            rintro _ rfl
            repeat' ((conv => whnf); first | (with_reducible first | apply Xa | (first | apply xi | apply xu | apply x8 | apply x3 | apply xn | apply xp | apply xP | refine xs ?_ ?_ | refine xS ?_ ?_ | refine xZ ?_ ?_ | refine xl ?_ ?_ | refine xd ?_ ?_ | refine xy ?_ ?_ | refine xL ?_ ?_ | refine xD ?_ ?_ | apply xx); omega | apply Xm | apply Xe) | refine Xo (by assumption) ?_ | refine Or.inl ⟨rfl, ?_⟩ | (split <;> (first | (rename_i u h; clear u) | rename_i h) <;> (try rewrite [h]) <;> (first | replace h := dt h | replace h := df h | replace h := Nt h | replace h := Nf h | skip)))
            all_goals first | exact absurd (by assumption) h1 | exact absurd (by assumption) hz | skip
            conv => whnf
            refine .inl ⟨_, hlw, ?_⟩
            rintro _ rfl
            repeat' ((conv => whnf); first | (with_reducible first | apply Xa | (first | apply xi | apply xu | apply x8 | apply x3 | apply xn | apply xp | apply xP | refine xs ?_ ?_ | refine xS ?_ ?_ | refine xZ ?_ ?_ | refine xl ?_ ?_ | refine xd ?_ ?_ | refine xy ?_ ?_ | refine xL ?_ ?_ | refine xD ?_ ?_ | apply xx); omega | apply Xm | apply Xe) | refine Xo (by assumption) ?_ | refine Or.inl ⟨rfl, ?_⟩ | (split <;> (first | (rename_i u h; clear u) | rename_i h) <;> (try rewrite [h]) <;> (first | replace h := dt h | replace h := df h | replace h := Nt h | replace h := Nf h | skip)))
            conv => whnf
            refine .inl ⟨_, htx, ?_⟩
            rintro _ rfl
            by_cases heq : pairT (lowP p (ratN s)) (lowQ p (ratN s)) = s
            · have hfin : R = .tup [.agg [.str (lowP p (ratN s)), .str (lowQ p (ratN s))], .nili] := by
                rw [← hR, if_pos (by rw [ratOK, hok, ← hp]; simp [heq]), ← hp]
              rw [hfin]
              repeat' ((conv => whnf); first | (with_reducible first | apply Xa | (first | apply xi | apply xu | apply x8 | apply x3 | apply xn | apply xp | apply xP | refine xs ?_ ?_ | refine xS ?_ ?_ | refine xZ ?_ ?_ | refine xl ?_ ?_ | refine xd ?_ ?_ | refine xy ?_ ?_ | refine xL ?_ ?_ | refine xD ?_ ?_ | apply xx); omega | apply Xm | apply Xe) | refine Xo (by assumption) ?_ | refine Or.inl ⟨rfl, ?_⟩ | (split <;> (first | (rename_i u h; clear u) | rename_i h) <;> (try rewrite [h]) <;> (first | replace h := dt h | replace h := df h | replace h := Nt h | replace h := Nf h | skip)))
              · exact absurd heq (by simpa using h)
              conv => whnf
              rfl
            · have hfin : R = .tup [.agg [.str ⟨#[]⟩, .str ⟨#[]⟩], .iface 104 .j] := by
                rw [← hR, if_neg (by rw [ratOK, hok, ← hp]; simp [heq])]
              rw [hfin]
              repeat' ((conv => whnf); first | (with_reducible first | apply Xa | (first | apply xi | apply xu | apply x8 | apply x3 | apply xn | apply xp | apply xP | refine xs ?_ ?_ | refine xS ?_ ?_ | refine xZ ?_ ?_ | refine xl ?_ ?_ | refine xd ?_ ?_ | refine xy ?_ ?_ | refine xL ?_ ?_ | refine xD ?_ ?_ | apply xx); omega | apply Xm | apply Xe) | refine Xo (by assumption) ?_ | refine Or.inl ⟨rfl, ?_⟩ | (split <;> (first | (rename_i u h; clear u) | rename_i h) <;> (try rewrite [h]) <;> (first | replace h := dt h | replace h := df h | replace h := Nt h | replace h := Nf h | skip)))
              rotate_left
              · exact absurd (by simpa using h) heq
              refine ⟨by decide +kernel, [0, 0, 0, 6, 14, 30, 1, 127], by decide +kernel, ?_⟩
              repeat' ((conv => whnf); first | (with_reducible first | apply Xa | (first | apply xi | apply xu | apply x8 | apply x3 | apply xn | apply xp | apply xP | refine xs ?_ ?_ | refine xS ?_ ?_ | refine xZ ?_ ?_ | refine xl ?_ ?_ | refine xd ?_ ?_ | refine xy ?_ ?_ | refine xL ?_ ?_ | refine xD ?_ ?_ | apply xx); omega | apply Xm | apply Xe) | refine Xo (by assumption) ?_ | refine Or.inl ⟨rfl, ?_⟩ | (split <;> (first | (rename_i u h; clear u) | rename_i h) <;> (try rewrite [h]) <;> (first | replace h := dt h | replace h := df h | replace h := Nt h | replace h := Nf h | skip)))
              conv => whnf
              rfl
end Go.V
namespace Go.V
open Go.N
theorem c_RRight (s : ByteArray) (hs : s.size < 190000) : VCall Go.Proofs.Tryz.prog GL 47 [.str s] (fun x => x = .bool (ratOK s)) := by
  refine vcall_of TOK_RRight HM Go.Proofs.Tryz.func47 rfl (by decide +kernel) (by decide +kernel) rfl ?_
  have h := c_Rread s hs
  cases hb : ratOK s
  · rw [if_neg (by simp [hb])] at h
    repeat' ((conv => whnf); first | (with_reducible first | apply Xa | (first | apply xi | apply xu | apply x8 | apply x3 | apply xn | apply xp | apply xP | refine xs ?_ ?_ | refine xS ?_ ?_ | refine xZ ?_ ?_ | refine xl ?_ ?_ | refine xd ?_ ?_ | refine xy ?_ ?_ | refine xL ?_ ?_ | refine xD ?_ ?_ | apply xx); omega | apply Xm | apply Xe) | refine Xo (by assumption) ?_ | refine Or.inl ⟨rfl, ?_⟩ | (split <;> (first | (rename_i u h; clear u) | rename_i h) <;> (try rewrite [h]) <;> (first | replace h := dt h | replace h := df h | replace h := Nt h | replace h := Nf h | skip)))
    conv => whnf
    refine .inl ⟨_, h, ?_⟩
    rintro _ rfl
    repeat' ((conv => whnf); first | (with_reducible first | apply Xa | (first | apply xi | apply xu | apply x8 | apply x3 | apply xn | apply xp | apply xP | refine xs ?_ ?_ | refine xS ?_ ?_ | refine xZ ?_ ?_ | refine xl ?_ ?_ | refine xd ?_ ?_ | refine xy ?_ ?_ | refine xL ?_ ?_ | refine xD ?_ ?_ | apply xx); omega | apply Xm | apply Xe) | refine Xo (by assumption) ?_ | refine Or.inl ⟨rfl, ?_⟩ | (split <;> (first | (rename_i u h; clear u) | rename_i h) <;> (try rewrite [h]) <;> (first | replace h := dt h | replace h := df h | replace h := Nt h | replace h := Nf h | skip)))
    conv => whnf
    rfl
  · rw [if_pos hb] at h
    repeat' ((conv => whnf); first | (with_reducible first | apply Xa | (first | apply xi | apply xu | apply x8 | apply x3 | apply xn | apply xp | apply xP | refine xs ?_ ?_ | refine xS ?_ ?_ | refine xZ ?_ ?_ | refine xl ?_ ?_ | refine xd ?_ ?_ | refine xy ?_ ?_ | refine xL ?_ ?_ | refine xD ?_ ?_ | apply xx); omega | apply Xm | apply Xe) | refine Xo (by assumption) ?_ | refine Or.inl ⟨rfl, ?_⟩ | (split <;> (first | (rename_i u h; clear u) | rename_i h) <;> (try rewrite [h]) <;> (first | replace h := dt h | replace h := df h | replace h := Nt h | replace h := Nf h | skip)))
    conv => whnf
    refine .inl ⟨_, h, ?_⟩
    rintro _ rfl
    repeat' ((conv => whnf); first | (with_reducible first | apply Xa | (first | apply xi | apply xu | apply x8 | apply x3 | apply xn | apply xp | apply xP | refine xs ?_ ?_ | refine xS ?_ ?_ | refine xZ ?_ ?_ | refine xl ?_ ?_ | refine xd ?_ ?_ | refine xy ?_ ?_ | refine xL ?_ ?_ | refine xD ?_ ?_ | apply xx); omega | apply Xm | apply Xe) | refine Xo (by assumption) ?_ | refine Or.inl ⟨rfl, ?_⟩ | (split <;> (first | (rename_i u h; clear u) | rename_i h) <;> (try rewrite [h]) <;> (first | replace h := dt h | replace h := df h | replace h := Nt h | replace h := Nf h | skip)))
    conv => whnf
    rfl
variable (gl : Gl)
set_option maxHeartbeats 4000000 in
theorem c_r03_Lowest (p : ByteArray) (n : Nat) (hw : isWhole p = true) (hn0 : n ≠ 0) (hp : p.size < 200000) (hn : (dec n).length < 200000) : VCall Go.Proofs.Tryz.prog gl 41 [.str p, .str (decB n)]
    (fun x => x = .agg [.str (lowP p n), .str (lowQ p n)]) := by
  refine vcall_of TOK_r03_Lowest HM Go.Proofs.Tryz.func41 rfl (by decide +kernel) (by decide +kernel) rfl ?_
  have L := low_of (n := n) hw
  have ht := trimP_size p minusB
  have hlen := L.len
  have hz := decB_size n
  have hzp := List.length_pos_iff.2 (dec_ne n)
  have hg0 : 0 < Nat.gcd (absW p) n := Nat.gcd_pos_of_pos_right _ (by omega)
  have hgl : (dec (Nat.gcd (absW p) n)).length ≤ (dec n).length := dec_mono (Nat.gcd_le_right _ (by omega))
  have hql : (dec (absW p / Nat.gcd (absW p) n)).length ≤ (dec (absW p)).length := dec_mono (Nat.div_le_self _ _)
  have hzq := decB_size (absW p / Nat.gcd (absW p) n)
  have hpp : 0 < p.size := by
    rcases Nat.eq_zero_or_pos p.size with h | h
    · have h1 : (trimP p minusB).size = 0 := by omega
      have := List.length_pos_iff.2 (dec_ne (absW p))
      omega
    · exact h
  have h1 := c_r02_Sign gl (decB n) (by omega) (by omega)
  rw [if_neg (by simp [L.qneg]), if_neg (fun e => hn0 (decB_inj.1 e))] at h1
  have h2 := c_r02_Size gl p (by omega)
  rw [L.tr] at h2
  have h3 := c_r01_Gcd gl (absW p) n (by omega) (by omega)
  have h4 := c_r01_Div gl (absW p) (Nat.gcd (absW p) n) hg0 (by omega) (by omega)
  have h5 := c_r01_Div gl n (Nat.gcd (absW p) n) hg0 (by omega) (by omega)
  have h6 := c_r02_Sign gl p (by omega) hpp
  repeat' ((conv => whnf); first | (with_reducible first | apply Xa | (first | apply xi | apply xu | apply x8 | apply x3 | apply xn | apply xp | apply xP | refine xs ?_ ?_ | refine xS ?_ ?_ | refine xZ ?_ ?_ | refine xl ?_ ?_ | refine xd ?_ ?_ | refine xy ?_ ?_ | refine xL ?_ ?_ | refine xD ?_ ?_ | apply xx); omega | apply Xm | apply Xe) | refine Xo (by assumption) ?_ | refine Or.inl ⟨rfl, ?_⟩ | (split <;> (first | (rename_i u h; clear u) | rename_i h) <;> (try rewrite [h]) <;> (first | replace h := dt h | replace h := df h | replace h := Nt h | replace h := Nf h | skip)))
  conv => whnf
  refine .inl ⟨_, h1, ?_⟩
  rintro _ rfl
  repeat' ((conv => whnf); first | (with_reducible first | apply Xa | (first | apply xi | apply xu | apply x8 | apply x3 | apply xn | apply xp | apply xP | refine xs ?_ ?_ | refine xS ?_ ?_ | refine xZ ?_ ?_ | refine xl ?_ ?_ | refine xd ?_ ?_ | refine xy ?_ ?_ | refine xL ?_ ?_ | refine xD ?_ ?_ | apply xx); omega | apply Xm | apply Xe) | refine Xo (by assumption) ?_ | refine Or.inl ⟨rfl, ?_⟩ | (split <;> (first | (rename_i u h; clear u) | rename_i h) <;> (try rewrite [h]) <;> (first | replace h := dt h | replace h := df h | replace h := Nt h | replace h := Nf h | skip)))
  conv => whnf
  refine .inl ⟨_, h2, ?_⟩
  rintro _ rfl
  repeat' ((conv => whnf); first | (with_reducible first | apply Xa | (first | apply xi | apply xu | apply x8 | apply x3 | apply xn | apply xp | apply xP | refine xs ?_ ?_ | refine xS ?_ ?_ | refine xZ ?_ ?_ | refine xl ?_ ?_ | refine xd ?_ ?_ | refine xy ?_ ?_ | refine xL ?_ ?_ | refine xD ?_ ?_ | apply xx); omega | apply Xm | apply Xe) | refine Xo (by assumption) ?_ | refine Or.inl ⟨rfl, ?_⟩ | (split <;> (first | (rename_i u h; clear u) | rename_i h) <;> (try rewrite [h]) <;> (first | replace h := dt h | replace h := df h | replace h := Nt h | replace h := Nf h | skip)))
  conv => whnf
  refine .inl ⟨_, h3, ?_⟩
  rintro _ rfl
  repeat' ((conv => whnf); first | (with_reducible first | apply Xa | (first | apply xi | apply xu | apply x8 | apply x3 | apply xn | apply xp | apply xP | refine xs ?_ ?_ | refine xS ?_ ?_ | refine xZ ?_ ?_ | refine xl ?_ ?_ | refine xd ?_ ?_ | refine xy ?_ ?_ | refine xL ?_ ?_ | refine xD ?_ ?_ | apply xx); omega | apply Xm | apply Xe) | refine Xo (by assumption) ?_ | refine Or.inl ⟨rfl, ?_⟩ | (split <;> (first | (rename_i u h; clear u) | rename_i h) <;> (try rewrite [h]) <;> (first | replace h := dt h | replace h := df h | replace h := Nt h | replace h := Nf h | skip)))
  conv => whnf
  refine .inl ⟨_, h4, ?_⟩
  rintro _ rfl
  repeat' ((conv => whnf); first | (with_reducible first | apply Xa | (first | apply xi | apply xu | apply x8 | apply x3 | apply xn | apply xp | apply xP | refine xs ?_ ?_ | refine xS ?_ ?_ | refine xZ ?_ ?_ | refine xl ?_ ?_ | refine xd ?_ ?_ | refine xy ?_ ?_ | refine xL ?_ ?_ | refine xD ?_ ?_ | apply xx); omega | apply Xm | apply Xe) | refine Xo (by assumption) ?_ | refine Or.inl ⟨rfl, ?_⟩ | (split <;> (first | (rename_i u h; clear u) | rename_i h) <;> (try rewrite [h]) <;> (first | replace h := dt h | replace h := df h | replace h := Nt h | replace h := Nf h | skip)))
  conv => whnf
  refine .inl ⟨_, h5, ?_⟩
  rintro _ rfl
  repeat' ((conv => whnf); first | (with_reducible first | apply Xa | (first | apply xi | apply xu | apply x8 | apply x3 | apply xn | apply xp | apply xP | refine xs ?_ ?_ | refine xS ?_ ?_ | refine xZ ?_ ?_ | refine xl ?_ ?_ | refine xd ?_ ?_ | refine xy ?_ ?_ | refine xL ?_ ?_ | refine xD ?_ ?_ | apply xx); omega | apply Xm | apply Xe) | refine Xo (by assumption) ?_ | refine Or.inl ⟨rfl, ?_⟩ | (split <;> (first | (rename_i u h; clear u) | rename_i h) <;> (try rewrite [h]) <;> (first | replace h := dt h | replace h := df h | replace h := Nt h | replace h := Nf h | skip)))
  conv => whnf
  cases hb : hasP p minusB
  · obtain ⟨r, hr, h6⟩ : ∃ r : Int, 0 ≤ r ∧ VCall Go.Proofs.Tryz.prog gl 52 [.str p] (fun x => x = .int .i64 r) := by
      rw [if_neg (by simp [hb])] at h6
      exact ⟨_, by split <;> omega, h6⟩
    refine .inl ⟨_, h6, ?_⟩
    rintro _ rfl
    repeat' ((conv => whnf); first | (with_reducible first | apply Xa | (first | apply xi | apply xu | apply x8 | apply x3 | apply xn | apply xp | apply xP | refine xs ?_ ?_ | refine xS ?_ ?_ | refine xZ ?_ ?_ | refine xl ?_ ?_ | refine xd ?_ ?_ | refine xy ?_ ?_ | refine xL ?_ ?_ | refine xD ?_ ?_ | apply xx); omega | apply Xm | apply Xe) | refine Xo (by assumption) ?_ | refine Or.inl ⟨rfl, ?_⟩ | (split <;> (first | (rename_i u h; clear u) | rename_i h) <;> (try rewrite [h]) <;> (first | replace h := dt h | replace h := df h | replace h := Nt h | replace h := Nf h | skip)))
    · exact absurd h (by omega)
    conv => whnf
    simp [lowP, lowQ, hb, one]
  · rw [if_pos hb] at h6
    refine .inl ⟨_, h6, ?_⟩
    rintro _ rfl
    repeat' ((conv => whnf); first | (with_reducible first | apply Xa | (first | apply xi | apply xu | apply x8 | apply x3 | apply xn | apply xp | apply xP | refine xs ?_ ?_ | refine xS ?_ ?_ | refine xZ ?_ ?_ | refine xl ?_ ?_ | refine xd ?_ ?_ | refine xy ?_ ?_ | refine xL ?_ ?_ | refine xD ?_ ?_ | apply xx); omega | apply Xm | apply Xe) | refine Xo (by assumption) ?_ | refine Or.inl ⟨rfl, ?_⟩ | (split <;> (first | (rename_i u h; clear u) | rename_i h) <;> (try rewrite [h]) <;> (first | replace h := dt h | replace h := df h | replace h := Nt h | replace h := Nf h | skip)))
    refine ⟨(show 1 + (decB (absW p / Nat.gcd (absW p) n)).size ≤ _ by omega), ?_⟩
    repeat' ((conv => whnf); first | (with_reducible first | apply Xa | (first | apply xi | apply xu | apply x8 | apply x3 | apply xn | apply xp | apply xP | refine xs ?_ ?_ | refine xS ?_ ?_ | refine xZ ?_ ?_ | refine xl ?_ ?_ | refine xd ?_ ?_ | refine xy ?_ ?_ | refine xL ?_ ?_ | refine xD ?_ ?_ | apply xx); omega | apply Xm | apply Xe) | refine Xo (by assumption) ?_ | refine Or.inl ⟨rfl, ?_⟩ | (split <;> (first | (rename_i u h; clear u) | rename_i h) <;> (try rewrite [h]) <;> (first | replace h := dt h | replace h := df h | replace h := Nt h | replace h := Nf h | skip)))
    conv => whnf
    simp [lowP, lowQ, hb, one]
end Go.V
namespace Go.V
open Go.N
variable (gl : Gl)
def atF (s : ByteArray) (j : Nat) : Nat := match ixOf 47 (s.toList.drop j) with | some k => j + k | none => s.size
theorem atF_step (s : ByteArray) (j : Nat) (h : j < s.toList.length) : atF s j = if s.toList[j] = 47 then j else atF s (j + 1) := by
  unfold atF
  rw [List.drop_eq_getElem_cons h]
  by_cases h47 : s.toList[j] = 47
  · simp [ixOf, h47]
  · simp only [ixOf, h47, if_false]
    cases ixOf 47 (s.toList.drop (j + 1)) with
    | none => rfl
    | some k => simp only [Option.map_some]; omega
set_option maxHeartbeats 4000000 in
theorem c_r03_Read (s : ByteArray) (hs : s.size < 190000) : VCall Go.Proofs.Tryz.prog gl 27 [.str s]
    (fun x => ∃ p q, x = .tup [.agg [.str p, .str q], .bool (ratOK s)] ∧ (ratOK s = true → p = lowP (cutP s).1 (ratN s) ∧ q = lowQ (cutP s).1 (ratN s))) := by
  refine vcall_of TOK_r03_Read HM Go.Proofs.Tryz.func27 rfl (by decide +kernel) (by decide +kernel) rfl ?_
  have hl := Go.N.len_toList s
  repeat' ((conv => whnf); first | (with_reducible first | apply Xa | (first | apply xi | apply xu | apply x8 | apply x3 | apply xn | apply xp | apply xP | refine xs ?_ ?_ | refine xS ?_ ?_ | refine xZ ?_ ?_ | refine xl ?_ ?_ | refine xd ?_ ?_ | refine xy ?_ ?_ | refine xL ?_ ?_ | refine xD ?_ ?_ | apply xx); omega | apply Xm | apply Xe) | refine Xo (by assumption) ?_ | refine Or.inl ⟨rfl, ?_⟩ | (split <;> (first | (rename_i u h; clear u) | rename_i h) <;> (try rewrite [h]) <;> (first | replace h := dt h | replace h := df h | replace h := Nt h | replace h := Nf h | skip)))
  refine ⟨[0, 2, 4, 5], [0], fun kk st => ∃ j : Nat, j ≤ s.size ∧ kk = j ∧ st = ⟨[(0, .str s), (2, .bptr 0 0), (4, .int .i64 ((atF s j : Nat) : Int)), (5, .int .i64 ((j : Int) - 1))], [.box 52 [.str ⟨#[]⟩, .str ⟨#[]⟩]]⟩, rfl, ⟨s.size, s.size, by omega, rfl, ?_⟩, ?_⟩
  · have e : atF s s.size = s.size := by
      unfold atF
      rw [List.drop_of_length_le (by omega)]; rfl
    exact Eq.trans rfl (congrArg (fun z : Nat => (⟨[(0, .str s), (2, .bptr 0 0), (4, .int .i64 ((z : Nat) : Int)), (5, .int .i64 (((s.size : Nat) : Int) - 1))], [.box 52 [.str ⟨#[]⟩, .str ⟨#[]⟩]]⟩ : St)) e.symm)
  rintro kk _ ⟨j, hj, hkk, rfl⟩
  rcases j with _ | j
  · have hcs := cutP_size s
    obtain ⟨p, hp⟩ : ∃ p, p = (cutP s).1 := ⟨_, rfl⟩
    obtain ⟨q, hq⟩ : ∃ q, q = ratQ s := ⟨_, rfl⟩
    have hqs : q.size ≤ s.size + 1 := by
      rw [hq, ratQ]
      split
      · omega
      · exact Nat.le_add_left 1 _
    rw [← hp] at hcs
    cases hix : ixOf 47 s.toList with
    | none =>
      have hat : atF s 0 = s.size := by simp only [atF, List.drop_zero, hix]
      have hcut : cutP s = (s, ⟨#[]⟩, false) := by simp only [cutP, hix]
      have htwo : (cutP s).2.2 = false := by rw [hcut]
      have e1 : s.extract (0 : Int).toNat ((s.size : Nat) : Int).toNat = p := by
        rw [hp, hcut]
        refine toList_inj ?_
        rw [ext_toList, List.take_of_length_le (by simp [hl])]; simp
      have e2 : oneB = q := by rw [hq, ratQ, if_neg (by simp [htwo])]
      rw [hat]
      have hw : VCall Go.Proofs.Tryz.prog gl 39 [.str (s.extract (0 : Int).toNat ((s.size : Nat) : Int).toNat)] (fun x => x = .bool (isWhole p)) := by rw [e1]; exact c_r02_Right gl p (by omega)
      have hr : VCall Go.Proofs.Tryz.prog gl 40 [.str oneB] (fun x => x = .bool (isNat q.toList)) := by rw [e2]; exact c_r01_Right q gl (by omega)
      cases hwp : isWhole p
      · rw [hwp] at hw
        have hok1 : ratOK1 s = false := by simp [ratOK1, ← hp, hwp]
        repeat' ((conv => whnf); first | (with_reducible first | apply Xa | (first | apply xi | apply xu | apply x8 | apply x3 | apply xn | apply xp | apply xP | refine xs ?_ ?_ | refine xS ?_ ?_ | refine xZ ?_ ?_ | refine xl ?_ ?_ | refine xd ?_ ?_ | refine xy ?_ ?_ | refine xL ?_ ?_ | refine xD ?_ ?_ | apply xx); omega | apply Xm | apply Xe) | refine Xo (by assumption) ?_ | refine Or.inl ⟨rfl, ?_⟩ | (split <;> (first | (rename_i u h; clear u) | rename_i h) <;> (try rewrite [h]) <;> (first | replace h := dt h | replace h := df h | replace h := Nt h | replace h := Nf h | skip)))
        all_goals try omega
        conv => whnf
        refine .inl ⟨_, hw, ?_⟩
        rintro _ rfl
        repeat' ((conv => whnf); first | (with_reducible first | apply Xa | (first | apply xi | apply xu | apply x8 | apply x3 | apply xn | apply xp | apply xP | refine xs ?_ ?_ | refine xS ?_ ?_ | refine xZ ?_ ?_ | refine xl ?_ ?_ | refine xd ?_ ?_ | refine xy ?_ ?_ | refine xL ?_ ?_ | refine xD ?_ ?_ | apply xx); omega | apply Xm | apply Xe) | refine Xo (by assumption) ?_ | refine Or.inl ⟨rfl, ?_⟩ | (split <;> (first | (rename_i u h; clear u) | rename_i h) <;> (try rewrite [h]) <;> (first | replace h := dt h | replace h := df h | replace h := Nt h | replace h := Nf h | skip)))
        have hbad : ratOK s = false := by rw [ratOK, hok1]; rfl
        conv => whnf
        exact ⟨_, _, by rw [hbad]; rfl, fun h => by rw [hbad] at h; cases h⟩
      rw [hwp] at hw
      cases hnq : isNat q.toList
      · rw [hnq] at hr
        have hok1 : ratOK1 s = false := by simp [ratOK1, ← hq, hnq]
        repeat' ((conv => whnf); first | (with_reducible first | apply Xa | (first | apply xi | apply xu | apply x8 | apply x3 | apply xn | apply xp | apply xP | refine xs ?_ ?_ | refine xS ?_ ?_ | refine xZ ?_ ?_ | refine xl ?_ ?_ | refine xd ?_ ?_ | refine xy ?_ ?_ | refine xL ?_ ?_ | refine xD ?_ ?_ | apply xx); omega | apply Xm | apply Xe) | refine Xo (by assumption) ?_ | refine Or.inl ⟨rfl, ?_⟩ | (split <;> (first | (rename_i u h; clear u) | rename_i h) <;> (try rewrite [h]) <;> (first | replace h := dt h | replace h := df h | replace h := Nt h | replace h := Nf h | skip)))
        all_goals try omega
        conv => whnf
        refine .inl ⟨_, hw, ?_⟩
        rintro _ rfl
        repeat' ((conv => whnf); first | (with_reducible first | apply Xa | (first | apply xi | apply xu | apply x8 | apply x3 | apply xn | apply xp | apply xP | refine xs ?_ ?_ | refine xS ?_ ?_ | refine xZ ?_ ?_ | refine xl ?_ ?_ | refine xd ?_ ?_ | refine xy ?_ ?_ | refine xL ?_ ?_ | refine xD ?_ ?_ | apply xx); omega | apply Xm | apply Xe) | refine Xo (by assumption) ?_ | refine Or.inl ⟨rfl, ?_⟩ | (split <;> (first | (rename_i u h; clear u) | rename_i h) <;> (try rewrite [h]) <;> (first | replace h := dt h | replace h := df h | replace h := Nt h | replace h := Nf h | skip)))
        conv => whnf
        refine .inl ⟨_, hr, ?_⟩
        rintro _ rfl
        repeat' ((conv => whnf); first | (with_reducible first | apply Xa | (first | apply xi | apply xu | apply x8 | apply x3 | apply xn | apply xp | apply xP | refine xs ?_ ?_ | refine xS ?_ ?_ | refine xZ ?_ ?_ | refine xl ?_ ?_ | refine xd ?_ ?_ | refine xy ?_ ?_ | refine xL ?_ ?_ | refine xD ?_ ?_ | apply xx); omega | apply Xm | apply Xe) | refine Xo (by assumption) ?_ | refine Or.inl ⟨rfl, ?_⟩ | (split <;> (first | (rename_i u h; clear u) | rename_i h) <;> (try rewrite [h]) <;> (first | replace h := dt h | replace h := df h | replace h := Nt h | replace h := Nf h | skip)))
        have hbad : ratOK s = false := by rw [ratOK, hok1]; rfl
        conv => whnf
        exact ⟨_, _, by rw [hbad]; rfl, fun h => by rw [hbad] at h; cases h⟩
      rw [hnq] at hr
      have hqd := isNat_decB hnq
      have hN : ratN s = dval q.toList := by rw [ratN, ← hq]
      have hz : ¬ q = ⟨#[48]⟩ := by rw [← e2]; decide
      by_cases h1 : (cutP s).2.2 = true ∧ q = oneB
      · have hok1 : ratOK1 s = false := by simp [ratOK1, ← hq, h1.1, h1.2]
        exact absurd (htwo.symm.trans h1.1) (by decide)
      have hok1 : ratOK1 s = true := by
        rw [ratOK1, ← hp, hwp, ← hq, hnq]
        cases h2 : (cutP s).2.2
        · simp [hz]
        · have : ¬ q = oneB := fun e => h1 ⟨h2, e⟩
          simp [hz, this]
      have hn0 : dval q.toList ≠ 0 := fun e => hz (by rw [hqd, e, zero_decB])
      have hdl : (dec (dval q.toList)).length = q.size := by rw [← decB_size, ← hqd]
      have hsz := low_size hwp (n := dval q.toList)
      have hlw : VCall Go.Proofs.Tryz.prog gl 41 [.str (s.extract (0 : Int).toNat ((s.size : Nat) : Int).toNat), .str oneB] (fun x => x = .agg [.str (lowP p (ratN s)), .str (lowQ p (ratN s))]) := by
        rw [e1, e2, hN, hqd, dval_decB]
        exact c_r03_Lowest gl p (dval q.toList) hwp hn0 (by omega) (by omega)
      have htx : VCall Go.Proofs.Tryz.prog gl 42 [.agg [.str (lowP p (ratN s)), .str (lowQ p (ratN s))]] (fun x => x = .str (pairT (lowP p (ratN s)) (lowQ p (ratN s)))) := by
        rw [hN]
        exact c_r03_Text gl _ _ (by omega) (by omega)
      have hfin : ratOK s = decide (pairT (lowP p (ratN s)) (lowQ p (ratN s)) = s) := by rw [ratOK, hok1, ← hp]; simp
      repeat' ((conv => whnf); first | (with_reducible first | apply Xa | (first | apply xi | apply xu | apply x8 | apply x3 | apply xn | apply xp | apply xP | refine xs ?_ ?_ | refine xS ?_ ?_ | refine xZ ?_ ?_ | refine xl ?_ ?_ | refine xd ?_ ?_ | refine xy ?_ ?_ | refine xL ?_ ?_ | refine xD ?_ ?_ | apply xx); omega | apply Xm | apply Xe) | refine Xo (by assumption) ?_ | refine Or.inl ⟨rfl, ?_⟩ | (split <;> (first | (rename_i u h; clear u) | rename_i h) <;> (try rewrite [h]) <;> (first | replace h := dt h | replace h := df h | replace h := Nt h | replace h := Nf h | skip)))
      all_goals try omega
      conv => whnf
      refine .inl ⟨_, hw, ?_⟩
      rintro _ rfl
      repeat' ((conv => whnf); first | (with_reducible first | apply Xa | (first | apply xi | apply xu | apply x8 | apply x3 | apply xn | apply xp | apply xP | refine xs ?_ ?_ | refine xS ?_ ?_ | refine xZ ?_ ?_ | refine xl ?_ ?_ | refine xd ?_ ?_ | refine xy ?_ ?_ | refine xL ?_ ?_ | refine xD ?_ ?_ | apply xx); omega | apply Xm | apply Xe) | refine Xo (by assumption) ?_ | refine Or.inl ⟨rfl, ?_⟩ | (split <;> (first | (rename_i u h; clear u) | rename_i h) <;> (try rewrite [h]) <;> (first | replace h := dt h | replace h := df h | replace h := Nt h | replace h := Nf h | skip)))
      conv => whnf
      refine .inl ⟨_, hr, ?_⟩
      rintro _ rfl
      repeat' ((conv => whnf); first | (with_reducible first | apply Xa | (first | apply xi | apply xu | apply x8 | apply x3 | apply xn | apply xp | apply xP | refine xs ?_ ?_ | refine xS ?_ ?_ | refine xZ ?_ ?_ | refine xl ?_ ?_ | refine xd ?_ ?_ | refine xy ?_ ?_ | refine xL ?_ ?_ | refine xD ?_ ?_ | apply xx); omega | apply Xm | apply Xe) | refine Xo (by assumption) ?_ | refine Or.inl ⟨rfl, ?_⟩ | (split <;> (first | (rename_i u h; clear u) | rename_i h) <;> (try rewrite [h]) <;> (first | replace h := dt h | replace h := df h | replace h := Nt h | replace h := Nf h | skip)))
      all_goals try omega
      skip
      conv => whnf
      refine .inl ⟨_, hlw, ?_⟩
      rintro _ rfl
      repeat' ((conv => whnf); first | (with_reducible first | apply Xa | (first | apply xi | apply xu | apply x8 | apply x3 | apply xn | apply xp | apply xP | refine xs ?_ ?_ | refine xS ?_ ?_ | refine xZ ?_ ?_ | refine xl ?_ ?_ | refine xd ?_ ?_ | refine xy ?_ ?_ | refine xL ?_ ?_ | refine xD ?_ ?_ | apply xx); omega | apply Xm | apply Xe) | refine Xo (by assumption) ?_ | refine Or.inl ⟨rfl, ?_⟩ | (split <;> (first | (rename_i u h; clear u) | rename_i h) <;> (try rewrite [h]) <;> (first | replace h := dt h | replace h := df h | replace h := Nt h | replace h := Nf h | skip)))
      refine ⟨by decide +kernel, [0, 0, 2, 0, 14, 7, 63], by decide +kernel, ?_⟩
      repeat' ((conv => whnf); first | (with_reducible first | apply Xa | (first | apply xi | apply xu | apply x8 | apply x3 | apply xn | apply xp | apply xP | refine xs ?_ ?_ | refine xS ?_ ?_ | refine xZ ?_ ?_ | refine xl ?_ ?_ | refine xd ?_ ?_ | refine xy ?_ ?_ | refine xL ?_ ?_ | refine xD ?_ ?_ | apply xx); omega | apply Xm | apply Xe) | refine Xo (by assumption) ?_ | refine Or.inl ⟨rfl, ?_⟩ | (split <;> (first | (rename_i u h; clear u) | rename_i h) <;> (try rewrite [h]) <;> (first | replace h := dt h | replace h := df h | replace h := Nt h | replace h := Nf h | skip)))
      conv => whnf
      refine .inl ⟨_, htx, ?_⟩
      repeat' ((conv => whnf); first | (with_reducible first | apply Xa | (first | apply xi | apply xu | apply x8 | apply x3 | apply xn | apply xp | apply xP | refine xs ?_ ?_ | refine xS ?_ ?_ | refine xZ ?_ ?_ | refine xl ?_ ?_ | refine xd ?_ ?_ | refine xy ?_ ?_ | refine xL ?_ ?_ | refine xD ?_ ?_ | apply xx); omega | apply Xm | apply Xe) | refine Xo (by assumption) ?_ | refine Or.inl ⟨rfl, ?_⟩ | (split <;> (first | (rename_i u h; clear u) | rename_i h) <;> (try rewrite [h]) <;> (first | replace h := dt h | replace h := df h | replace h := Nt h | replace h := Nf h | skip)))
      conv => whnf
      rw [← hp, hfin]
      exact ⟨_, _, rfl, fun _ => ⟨rfl, rfl⟩⟩
    | some k =>
      have hk := ixOf_lt hix
      have hat : atF s 0 = k := by simp only [atF, List.drop_zero, hix]; omega
      have hcut : cutP s = (⟨(s.toList.take k).toArray⟩, ⟨(s.toList.drop (k + 1)).toArray⟩, true) := by simp only [cutP, hix]
      have htwo : (cutP s).2.2 = true := by rw [hcut]
      have e1 : s.extract (0 : Int).toNat ((k : Nat) : Int).toNat = p := by
        rw [hp, hcut]
        refine toList_inj ?_
        rw [ext_toList, toList_mk]; simp
      have e2 : s.extract ((k : Int) + 1).toNat ((s.size : Nat) : Int).toNat = q := by
        rw [hq, ratQ, if_pos htwo, hcut]
        refine toList_inj ?_
        rw [ext_toList, show ((k : Int) + 1).toNat = k + 1 by omega, Int.toNat_natCast, List.take_of_length_le (l := s.toList.drop (k + 1)) (by simp [hl])]
        exact (toList_mk _).symm
      rw [hat]
      have hw : VCall Go.Proofs.Tryz.prog gl 39 [.str (s.extract (0 : Int).toNat ((k : Nat) : Int).toNat)] (fun x => x = .bool (isWhole p)) := by rw [e1]; exact c_r02_Right gl p (by omega)
      have hr : VCall Go.Proofs.Tryz.prog gl 40 [.str (s.extract ((k : Int) + 1).toNat ((s.size : Nat) : Int).toNat)] (fun x => x = .bool (isNat q.toList)) := by rw [e2]; exact c_r01_Right q gl (by omega)
      cases hwp : isWhole p
      · rw [hwp] at hw
        have hok1 : ratOK1 s = false := by simp [ratOK1, ← hp, hwp]
        repeat' ((conv => whnf); first | (with_reducible first | apply Xa | (first | apply xi | apply xu | apply x8 | apply x3 | apply xn | apply xp | apply xP | refine xs ?_ ?_ | refine xS ?_ ?_ | refine xZ ?_ ?_ | refine xl ?_ ?_ | refine xd ?_ ?_ | refine xy ?_ ?_ | refine xL ?_ ?_ | refine xD ?_ ?_ | apply xx); omega | apply Xm | apply Xe) | refine Xo (by assumption) ?_ | refine Or.inl ⟨rfl, ?_⟩ | (split <;> (first | (rename_i u h; clear u) | rename_i h) <;> (try rewrite [h]) <;> (first | replace h := dt h | replace h := df h | replace h := Nt h | replace h := Nf h | skip)))
        all_goals try omega
        conv => whnf
        refine .inl ⟨_, hw, ?_⟩
        rintro _ rfl
        repeat' ((conv => whnf); first | (with_reducible first | apply Xa | (first | apply xi | apply xu | apply x8 | apply x3 | apply xn | apply xp | apply xP | refine xs ?_ ?_ | refine xS ?_ ?_ | refine xZ ?_ ?_ | refine xl ?_ ?_ | refine xd ?_ ?_ | refine xy ?_ ?_ | refine xL ?_ ?_ | refine xD ?_ ?_ | apply xx); omega | apply Xm | apply Xe) | refine Xo (by assumption) ?_ | refine Or.inl ⟨rfl, ?_⟩ | (split <;> (first | (rename_i u h; clear u) | rename_i h) <;> (try rewrite [h]) <;> (first | replace h := dt h | replace h := df h | replace h := Nt h | replace h := Nf h | skip)))
        have hbad : ratOK s = false := by rw [ratOK, hok1]; rfl
        conv => whnf
        exact ⟨_, _, by rw [hbad]; rfl, fun h => by rw [hbad] at h; cases h⟩
      rw [hwp] at hw
      cases hnq : isNat q.toList
      · rw [hnq] at hr
        have hok1 : ratOK1 s = false := by simp [ratOK1, ← hq, hnq]
        repeat' ((conv => whnf); first | (with_reducible first | apply Xa | (first | apply xi | apply xu | apply x8 | apply x3 | apply xn | apply xp | apply xP | refine xs ?_ ?_ | refine xS ?_ ?_ | refine xZ ?_ ?_ | refine xl ?_ ?_ | refine xd ?_ ?_ | refine xy ?_ ?_ | refine xL ?_ ?_ | refine xD ?_ ?_ | apply xx); omega | apply Xm | apply Xe) | refine Xo (by assumption) ?_ | refine Or.inl ⟨rfl, ?_⟩ | (split <;> (first | (rename_i u h; clear u) | rename_i h) <;> (try rewrite [h]) <;> (first | replace h := dt h | replace h := df h | replace h := Nt h | replace h := Nf h | skip)))
        all_goals try omega
        conv => whnf
        refine .inl ⟨_, hw, ?_⟩
        rintro _ rfl
        repeat' ((conv => whnf); first | (with_reducible first | apply Xa | (first | apply xi | apply xu | apply x8 | apply x3 | apply xn | apply xp | apply xP | refine xs ?_ ?_ | refine xS ?_ ?_ | refine xZ ?_ ?_ | refine xl ?_ ?_ | refine xd ?_ ?_ | refine xy ?_ ?_ | refine xL ?_ ?_ | refine xD ?_ ?_ | apply xx); omega | apply Xm | apply Xe) | refine Xo (by assumption) ?_ | refine Or.inl ⟨rfl, ?_⟩ | (split <;> (first | (rename_i u h; clear u) | rename_i h) <;> (try rewrite [h]) <;> (first | replace h := dt h | replace h := df h | replace h := Nt h | replace h := Nf h | skip)))
        conv => whnf
        refine .inl ⟨_, hr, ?_⟩
        rintro _ rfl
        repeat' ((conv => whnf); first | (with_reducible first | apply Xa | (first | apply xi | apply xu | apply x8 | apply x3 | apply xn | apply xp | apply xP | refine xs ?_ ?_ | refine xS ?_ ?_ | refine xZ ?_ ?_ | refine xl ?_ ?_ | refine xd ?_ ?_ | refine xy ?_ ?_ | refine xL ?_ ?_ | refine xD ?_ ?_ | apply xx); omega | apply Xm | apply Xe) | refine Xo (by assumption) ?_ | refine Or.inl ⟨rfl, ?_⟩ | (split <;> (first | (rename_i u h; clear u) | rename_i h) <;> (try rewrite [h]) <;> (first | replace h := dt h | replace h := df h | replace h := Nt h | replace h := Nf h | skip)))
        have hbad : ratOK s = false := by rw [ratOK, hok1]; rfl
        conv => whnf
        exact ⟨_, _, by rw [hbad]; rfl, fun h => by rw [hbad] at h; cases h⟩
      rw [hnq] at hr
      have hqd := isNat_decB hnq
      have hN : ratN s = dval q.toList := by rw [ratN, ← hq]
      by_cases hz : q = ⟨#[48]⟩
      · have hok1 : ratOK1 s = false := by simp [ratOK1, ← hq, hz]
        repeat' ((conv => whnf); first | (with_reducible first | apply Xa | (first | apply xi | apply xu | apply x8 | apply x3 | apply xn | apply xp | apply xP | refine xs ?_ ?_ | refine xS ?_ ?_ | refine xZ ?_ ?_ | refine xl ?_ ?_ | refine xd ?_ ?_ | refine xy ?_ ?_ | refine xL ?_ ?_ | refine xD ?_ ?_ | apply xx); omega | apply Xm | apply Xe) | refine Xo (by assumption) ?_ | refine Or.inl ⟨rfl, ?_⟩ | (split <;> (first | (rename_i u h; clear u) | rename_i h) <;> (try rewrite [h]) <;> (first | replace h := dt h | replace h := df h | replace h := Nt h | replace h := Nf h | skip)))
        all_goals try omega
        conv => whnf
        refine .inl ⟨_, hw, ?_⟩
        rintro _ rfl
        repeat' ((conv => whnf); first | (with_reducible first | apply Xa | (first | apply xi | apply xu | apply x8 | apply x3 | apply xn | apply xp | apply xP | refine xs ?_ ?_ | refine xS ?_ ?_ | refine xZ ?_ ?_ | refine xl ?_ ?_ | refine xd ?_ ?_ | refine xy ?_ ?_ | refine xL ?_ ?_ | refine xD ?_ ?_ | apply xx); omega | apply Xm | apply Xe) | refine Xo (by assumption) ?_ | refine Or.inl ⟨rfl, ?_⟩ | (split <;> (first | (rename_i u h; clear u) | rename_i h) <;> (try rewrite [h]) <;> (first | replace h := dt h | replace h := df h | replace h := Nt h | replace h := Nf h | skip)))
        conv => whnf
        refine .inl ⟨_, hr, ?_⟩
        rintro _ rfl
        repeat' ((conv => whnf); first | (with_reducible first | apply Xa | (first | apply xi | apply xu | apply x8 | apply x3 | apply xn | apply xp | apply xP | refine xs ?_ ?_ | refine xS ?_ ?_ | refine xZ ?_ ?_ | refine xl ?_ ?_ | refine xd ?_ ?_ | refine xy ?_ ?_ | refine xL ?_ ?_ | refine xD ?_ ?_ | apply xx); omega | apply Xm | apply Xe) | refine Xo (by assumption) ?_ | refine Or.inl ⟨rfl, ?_⟩ | (split <;> (first | (rename_i u h; clear u) | rename_i h) <;> (try rewrite [h]) <;> (first | replace h := dt h | replace h := df h | replace h := Nt h | replace h := Nf h | skip)))
        all_goals first | exact absurd (e2.trans hz) (by assumption) | skip
        have hbad : ratOK s = false := by rw [ratOK, hok1]; rfl
        conv => whnf
        exact ⟨_, _, by rw [hbad]; rfl, fun h => by rw [hbad] at h; cases h⟩
      have hz2 : ¬ s.extract ((k : Int) + 1).toNat ((s.size : Nat) : Int).toNat = ⟨#[48]⟩ := fun e => hz (e2.symm.trans e)
      by_cases hone : q = oneB
      · have hok1 : ratOK1 s = false := by simp [ratOK1, ← hq, hone, htwo]
        repeat' ((conv => whnf); first | (with_reducible first | apply Xa | (first | apply xi | apply xu | apply x8 | apply x3 | apply xn | apply xp | apply xP | refine xs ?_ ?_ | refine xS ?_ ?_ | refine xZ ?_ ?_ | refine xl ?_ ?_ | refine xd ?_ ?_ | refine xy ?_ ?_ | refine xL ?_ ?_ | refine xD ?_ ?_ | apply xx); omega | apply Xm | apply Xe) | refine Xo (by assumption) ?_ | refine Or.inl ⟨rfl, ?_⟩ | (split <;> (first | (rename_i u h; clear u) | rename_i h) <;> (try rewrite [h]) <;> (first | replace h := dt h | replace h := df h | replace h := Nt h | replace h := Nf h | skip)))
        all_goals try omega
        conv => whnf
        refine .inl ⟨_, hw, ?_⟩
        rintro _ rfl
        repeat' ((conv => whnf); first | (with_reducible first | apply Xa | (first | apply xi | apply xu | apply x8 | apply x3 | apply xn | apply xp | apply xP | refine xs ?_ ?_ | refine xS ?_ ?_ | refine xZ ?_ ?_ | refine xl ?_ ?_ | refine xd ?_ ?_ | refine xy ?_ ?_ | refine xL ?_ ?_ | refine xD ?_ ?_ | apply xx); omega | apply Xm | apply Xe) | refine Xo (by assumption) ?_ | refine Or.inl ⟨rfl, ?_⟩ | (split <;> (first | (rename_i u h; clear u) | rename_i h) <;> (try rewrite [h]) <;> (first | replace h := dt h | replace h := df h | replace h := Nt h | replace h := Nf h | skip)))
        conv => whnf
        refine .inl ⟨_, hr, ?_⟩
        rintro _ rfl
        repeat' ((conv => whnf); first | (with_reducible first | apply Xa | (first | apply xi | apply xu | apply x8 | apply x3 | apply xn | apply xp | apply xP | refine xs ?_ ?_ | refine xS ?_ ?_ | refine xZ ?_ ?_ | refine xl ?_ ?_ | refine xd ?_ ?_ | refine xy ?_ ?_ | refine xL ?_ ?_ | refine xD ?_ ?_ | apply xx); omega | apply Xm | apply Xe) | refine Xo (by assumption) ?_ | refine Or.inl ⟨rfl, ?_⟩ | (split <;> (first | (rename_i u h; clear u) | rename_i h) <;> (try rewrite [h]) <;> (first | replace h := dt h | replace h := df h | replace h := Nt h | replace h := Nf h | skip)))
        all_goals try omega
        all_goals first | exact absurd (e2.trans hone) (by assumption) | exact absurd (by assumption) hz2 | skip
        have hbad : ratOK s = false := by rw [ratOK, hok1]; rfl
        conv => whnf
        exact ⟨_, _, by rw [hbad]; rfl, fun h => by rw [hbad] at h; cases h⟩
      by_cases h1 : (cutP s).2.2 = true ∧ q = oneB
      · have hok1 : ratOK1 s = false := by simp [ratOK1, ← hq, h1.1, h1.2]
        exact absurd h1.2 hone
      have hok1 : ratOK1 s = true := by
        rw [ratOK1, ← hp, hwp, ← hq, hnq]
        cases h2 : (cutP s).2.2
        · simp [hz]
        · have : ¬ q = oneB := fun e => h1 ⟨h2, e⟩
          simp [hz, this]
      have hn0 : dval q.toList ≠ 0 := fun e => hz (by rw [hqd, e, zero_decB])
      have hdl : (dec (dval q.toList)).length = q.size := by rw [← decB_size, ← hqd]
      have hsz := low_size hwp (n := dval q.toList)
      have hlw : VCall Go.Proofs.Tryz.prog gl 41 [.str (s.extract (0 : Int).toNat ((k : Nat) : Int).toNat), .str (s.extract ((k : Int) + 1).toNat ((s.size : Nat) : Int).toNat)] (fun x => x = .agg [.str (lowP p (ratN s)), .str (lowQ p (ratN s))]) := by
        rw [e1, e2, hN, hqd, dval_decB]
        exact c_r03_Lowest gl p (dval q.toList) hwp hn0 (by omega) (by omega)
      have htx : VCall Go.Proofs.Tryz.prog gl 42 [.agg [.str (lowP p (ratN s)), .str (lowQ p (ratN s))]] (fun x => x = .str (pairT (lowP p (ratN s)) (lowQ p (ratN s)))) := by
        rw [hN]
        exact c_r03_Text gl _ _ (by omega) (by omega)
      have hfin : ratOK s = decide (pairT (lowP p (ratN s)) (lowQ p (ratN s)) = s) := by rw [ratOK, hok1, ← hp]; simp
      repeat' ((conv => whnf); first | (with_reducible first | apply Xa | (first | apply xi | apply xu | apply x8 | apply x3 | apply xn | apply xp | apply xP | refine xs ?_ ?_ | refine xS ?_ ?_ | refine xZ ?_ ?_ | refine xl ?_ ?_ | refine xd ?_ ?_ | refine xy ?_ ?_ | refine xL ?_ ?_ | refine xD ?_ ?_ | apply xx); omega | apply Xm | apply Xe) | refine Xo (by assumption) ?_ | refine Or.inl ⟨rfl, ?_⟩ | (split <;> (first | (rename_i u h; clear u) | rename_i h) <;> (try rewrite [h]) <;> (first | replace h := dt h | replace h := df h | replace h := Nt h | replace h := Nf h | skip)))
      all_goals try omega
      conv => whnf
      refine .inl ⟨_, hw, ?_⟩
      rintro _ rfl
      repeat' ((conv => whnf); first | (with_reducible first | apply Xa | (first | apply xi | apply xu | apply x8 | apply x3 | apply xn | apply xp | apply xP | refine xs ?_ ?_ | refine xS ?_ ?_ | refine xZ ?_ ?_ | refine xl ?_ ?_ | refine xd ?_ ?_ | refine xy ?_ ?_ | refine xL ?_ ?_ | refine xD ?_ ?_ | apply xx); omega | apply Xm | apply Xe) | refine Xo (by assumption) ?_ | refine Or.inl ⟨rfl, ?_⟩ | (split <;> (first | (rename_i u h; clear u) | rename_i h) <;> (try rewrite [h]) <;> (first | replace h := dt h | replace h := df h | replace h := Nt h | replace h := Nf h | skip)))
      conv => whnf
      refine .inl ⟨_, hr, ?_⟩
      rintro _ rfl
      repeat' ((conv => whnf); first | (with_reducible first | apply Xa | (first | apply xi | apply xu | apply x8 | apply x3 | apply xn | apply xp | apply xP | refine xs ?_ ?_ | refine xS ?_ ?_ | refine xZ ?_ ?_ | refine xl ?_ ?_ | refine xd ?_ ?_ | refine xy ?_ ?_ | refine xL ?_ ?_ | refine xD ?_ ?_ | apply xx); omega | apply Xm | apply Xe) | refine Xo (by assumption) ?_ | refine Or.inl ⟨rfl, ?_⟩ | (split <;> (first | (rename_i u h; clear u) | rename_i h) <;> (try rewrite [h]) <;> (first | replace h := dt h | replace h := df h | replace h := Nt h | replace h := Nf h | skip)))
      all_goals try omega
      all_goals first | exact absurd ⟨htwo, e2.symm.trans (by assumption)⟩ h1 | exact absurd (by assumption) hz2 | skip
      conv => whnf
      refine .inl ⟨_, hlw, ?_⟩
      rintro _ rfl
      repeat' ((conv => whnf); first | (with_reducible first | apply Xa | (first | apply xi | apply xu | apply x8 | apply x3 | apply xn | apply xp | apply xP | refine xs ?_ ?_ | refine xS ?_ ?_ | refine xZ ?_ ?_ | refine xl ?_ ?_ | refine xd ?_ ?_ | refine xy ?_ ?_ | refine xL ?_ ?_ | refine xD ?_ ?_ | apply xx); omega | apply Xm | apply Xe) | refine Xo (by assumption) ?_ | refine Or.inl ⟨rfl, ?_⟩ | (split <;> (first | (rename_i u h; clear u) | rename_i h) <;> (try rewrite [h]) <;> (first | replace h := dt h | replace h := df h | replace h := Nt h | replace h := Nf h | skip)))
      refine ⟨by decide +kernel, [0, 0, 2, 0, 14, 7, 63], by decide +kernel, ?_⟩
      repeat' ((conv => whnf); first | (with_reducible first | apply Xa | (first | apply xi | apply xu | apply x8 | apply x3 | apply xn | apply xp | apply xP | refine xs ?_ ?_ | refine xS ?_ ?_ | refine xZ ?_ ?_ | refine xl ?_ ?_ | refine xd ?_ ?_ | refine xy ?_ ?_ | refine xL ?_ ?_ | refine xD ?_ ?_ | apply xx); omega | apply Xm | apply Xe) | refine Xo (by assumption) ?_ | refine Or.inl ⟨rfl, ?_⟩ | (split <;> (first | (rename_i u h; clear u) | rename_i h) <;> (try rewrite [h]) <;> (first | replace h := dt h | replace h := df h | replace h := Nt h | replace h := Nf h | skip)))
      conv => whnf
      refine .inl ⟨_, htx, ?_⟩
      repeat' ((conv => whnf); first | (with_reducible first | apply Xa | (first | apply xi | apply xu | apply x8 | apply x3 | apply xn | apply xp | apply xP | refine xs ?_ ?_ | refine xS ?_ ?_ | refine xZ ?_ ?_ | refine xl ?_ ?_ | refine xd ?_ ?_ | refine xy ?_ ?_ | refine xL ?_ ?_ | refine xD ?_ ?_ | apply xx); omega | apply Xm | apply Xe) | refine Xo (by assumption) ?_ | refine Or.inl ⟨rfl, ?_⟩ | (split <;> (first | (rename_i u h; clear u) | rename_i h) <;> (try rewrite [h]) <;> (first | replace h := dt h | replace h := df h | replace h := Nt h | replace h := Nf h | skip)))
      conv => whnf
      rw [← hp, hfin]
      exact ⟨_, _, rfl, fun _ => ⟨rfl, rfl⟩⟩
  · have hjl : j < s.toList.length := by omega
    have hst := atF_step s j hjl
    have h47 : s.toList[j] = 47 ↔ ((s.toList[j].toNat : Nat) : Int) = 47 := by
      rw [← UInt8.toNat_inj]; simp; omega
    rw [show ((j + 1 : Nat) : Int) - 1 = j by omega]
    repeat' ((conv => whnf); first | (with_reducible first | apply Xa | (first | apply xi | apply xu | apply x8 | apply x3 | apply xn | apply xp | apply xP | refine xs ?_ ?_ | refine xS ?_ ?_ | refine xZ ?_ ?_ | refine xl ?_ ?_ | refine xd ?_ ?_ | refine xy ?_ ?_ | refine xL ?_ ?_ | refine xD ?_ ?_ | apply xx); omega | apply Xm | apply Xe) | refine Xo (by assumption) ?_ | refine Or.inl ⟨rfl, ?_⟩ | (split <;> (first | (rename_i u h; clear u) | rename_i h) <;> (try rewrite [h]) <;> (first | replace h := dt h | replace h := df h | replace h := Nt h | replace h := Nf h | skip)))
    · have e : (j : Nat) = atF s j := by rw [hst, if_pos (h47.2 h)]
      exact ⟨[0], j, rfl, by omega, j, by omega, rfl, Eq.trans rfl (congrArg (fun z : Nat => (⟨[(0, .str s), (2, .bptr 0 0), (4, .int .i64 ((z : Nat) : Int)), (5, .int .i64 ((j : Int) - 1))], [.box 52 [.str ⟨#[]⟩, .str ⟨#[]⟩]]⟩ : St)) e)⟩
    · have e : atF s (j + 1) = atF s j := by rw [hst, if_neg (fun e => h (h47.1 e))]
      exact ⟨[0], j, rfl, by omega, j, by omega, rfl, Eq.trans rfl (congrArg (fun z : Nat => (⟨[(0, .str s), (2, .bptr 0 0), (4, .int .i64 ((z : Nat) : Int)), (5, .int .i64 ((j : Int) - 1))], [.box 52 [.str ⟨#[]⟩, .str ⟨#[]⟩]]⟩ : St)) e)⟩
end Go.V
namespace Go.V
open Go.N
open Go.RowKit
mutual
def RoTo : AV → AV → Prop
  | .fr _ sz es, y => y = .ro sz es
  | .nils, y => ∃ sz, y = .ro sz []
  | .agg xs, y => ∃ ys, y = .agg ys ∧ RoToL xs ys
  | .tup xs, y => ∃ ys, y = .tup ys ∧ RoToL xs ys
  | x, y => y = x
def RoToL : List AV → List AV → Prop
  | [], ys => ys = []
  | x :: xs, ys => ∃ y r, ys = y :: r ∧ RoTo x y ∧ RoToL xs r
end
mutual
theorem repF_lt {S : Nat → Prop} {b : Nat} {w : World} : ∀ (x : AV) (v : Value) (F : List (Nat × Nat)), RepF S b w x v F → ∀ q ∈ F, q.1 < w.heap.size
  | .fr e sz es, v, F, h => by
    simp only [RepF] at h
    obtain ⟨c, cap, rfl, _, _, cur, vss, hh, _⟩ := h
    intro q hq; simp at hq; subst hq
    exact (Array.getElem?_eq_some_iff.1 hh).1
  | .agg cs, v, F, h => by
    simp only [RepF] at h
    obtain ⟨vs, e, h1, h2⟩ := h
    exact repFL_lt' cs vs F h2
  | .tup cs, v, F, h => by
    simp only [RepF] at h
    obtain ⟨vs, e, h2⟩ := h
    exact repFL_lt' cs vs F h2
  | .j, v, F, h | .u, v, F, h | .int _ _, v, F, h | .bool _, v, F, h | .str _, v, F, h | .nils, v, F, h | .nili, v, F, h
  | .own _ _ _, v, F, h | .ptr _ _ _, v, F, h | .bptr _ _, v, F, h | .map _, v, F, h | .rp _, v, F, h | .ro _ _, v, F, h | .fn _ _, v, F, h | .iface _ _, v, F, h => by
    simp only [RepF] at h; rw [h.1]; simp
theorem repFL_lt' {S : Nat → Prop} {b : Nat} {w : World} : ∀ (xs : List AV) (vs : List Value) (F : List (Nat × Nat)), RepFL S b w xs vs F → ∀ q ∈ F, q.1 < w.heap.size
  | [], vs, F, h => by simp only [RepFL] at h; rw [h.2]; simp
  | x :: xs, vs, F, h => by
    simp only [RepFL] at h
    obtain ⟨v, r, F1, F2, rfl, rfl, h1, h2⟩ := h
    intro q hq
    rcases List.mem_append.1 hq with hq | hq
    · exact repF_lt x v F1 h1 q hq
    · exact repFL_lt' xs r F2 h2 q hq
end
mutual
theorem roTo_rep {S : Nat → Prop} {b : Nat} {w : World} : ∀ (x y : AV) (v : Value) (F : List (Nat × Nat)), RoTo x y → RepF S b w x v F → RepF (fun q => S q ∨ q ∈ F.map (·.1)) b w y v []
  | .fr e sz es, y, v, F, hy, h => by
    simp only [RoTo] at hy
    subst hy
    simp only [RepF] at h ⊢
    obtain ⟨c, cap, rfl, rfl, hB, hrow⟩ := h
    exact ⟨trivial, row_ro hrow (.inr (by simp)) fun q hq => .inl hq⟩
  | .nils, y, v, F, hy, h => by
    simp only [RoTo] at hy
    obtain ⟨sz, rfl⟩ := hy
    simp only [RepF, RepV] at h ⊢
    obtain ⟨rfl, rfl⟩ := h
    refine ⟨trivial, none, 0, ?_⟩
    simp
  | .agg xs, y, v, F, hy, h => by
    simp only [RoTo] at hy
    obtain ⟨ys, rfl, hl⟩ := hy
    simp only [RepF] at h ⊢
    obtain ⟨vs, e, h1, h2⟩ := h
    exact ⟨vs, e, h1, roToL_rep xs ys vs F hl h2⟩
  | .tup xs, y, v, F, hy, h => by
    simp only [RoTo] at hy
    obtain ⟨ys, rfl, hl⟩ := hy
    simp only [RepF] at h ⊢
    obtain ⟨vs, e, h2⟩ := h
    exact ⟨vs, e, roToL_rep xs ys vs F hl h2⟩
  | .j, y, v, F, hy, h | .u, y, v, F, hy, h | .int _ _, y, v, F, hy, h | .bool _, y, v, F, hy, h | .str _, y, v, F, hy, h | .nili, y, v, F, hy, h
  | .own _ _ _, y, v, F, hy, h | .ptr _ _ _, y, v, F, hy, h | .bptr _ _, y, v, F, hy, h | .map _, y, v, F, hy, h | .rp _, y, v, F, hy, h | .ro _ _, y, v, F, hy, h | .fn _ _, y, v, F, hy, h | .iface _ _, y, v, F, hy, h => by
    simp only [RoTo] at hy
    subst hy
    simp only [RepF] at h ⊢
    exact ⟨trivial, RepV.later (later_sub fun q hq => .inl hq) _ v h.2⟩
theorem roToL_rep {S : Nat → Prop} {b : Nat} {w : World} : ∀ (xs ys : List AV) (vs : List Value) (F : List (Nat × Nat)), RoToL xs ys → RepFL S b w xs vs F → RepFL (fun q => S q ∨ q ∈ F.map (·.1)) b w ys vs []
  | [], ys, vs, F, hy, h => by
    simp only [RoToL] at hy
    subst hy
    simp only [RepFL] at h ⊢; exact ⟨h.1, trivial⟩
  | x :: xs, ys, vs, F, hy, h => by
    simp only [RoToL] at hy
    obtain ⟨y, r', rfl, hy1, hy2⟩ := hy
    simp only [RepFL] at h ⊢
    obtain ⟨v, r, F1, F2, rfl, rfl, h1, h2⟩ := h
    have k1 := roTo_rep x y v F1 hy1 h1
    have k2 := roToL_rep xs r' r F2 hy2 h2
    refine ⟨v, r, [], [], rfl, rfl, repF_later (later_sub fun q hq => ?_) _ _ _ k1 (by simp), repFL_later (later_sub fun q hq => ?_) _ _ _ k2 (by simp)⟩
    · rcases hq with hq | hq
      · exact .inl hq
      · exact .inr (by rw [List.map_append]; exact List.mem_append_left _ hq)
    · rcases hq with hq | hq
      · exact .inl hq
      · exact .inr (by rw [List.map_append]; exact List.mem_append_right _ hq)
end
theorem VCall.taken {P : Program} {gl : Gl} {f : FuncId} {args : List AV} {R : AV → Prop} (h : VCall P gl f args (fun x => ∃ y, RoTo x y ∧ R y)) : VCall P gl f args R := by
  intro S w vs h1 h2 h3
  refine (h S w vs h1 h2 h3).mono fun v w' hh => ?_
  obtain ⟨x, ⟨y, hxy, hR⟩, ⟨S', F, hF, hnd, hFS, hS'⟩, hb⟩ := hh
  refine ⟨y, hR, ?_, hb⟩
  have hge := repF_ge _ _ _ hF
  have hlt := repF_lt _ _ _ hF
  refine ⟨fun q => S' q ∨ q ∈ F.map (·.1), [], roTo_rep _ _ _ _ hxy hF, by simp, by simp, ?_⟩
  rintro q (hq | hq)
  · exact hS' q hq
  · obtain ⟨y, hy, rfl⟩ := List.mem_map.1 hq
    exact ⟨hlt y hy, .inr (hge y hy)⟩
end Go.V
namespace Go.V
open Go.N
structure Nd where
  op : ByteArray
  a : Int
  b : Int
  name : ByteArray
  shape : List Int
  k : ByteArray
  n : Int
  data : List ByteArray
structure Gr where
  nodes : List Nd
  loss : Int
def Nd.cells (x : Nd) : List AV := [.str x.op, .int .i64 x.a, .int .i64 x.b, .str x.name, .ro 1 (rowZ x.shape), .str x.k, .int .i64 x.n, .ro 1 (rowS x.data)]
def rowN (l : List Nd) : List (List AV) := l.map Nd.cells
@[simp] theorem rowN_length (l : List Nd) : (rowN l).length = l.length := by simp [rowN]
theorem rowN_get {l : List Nd} {k : Nat} (h : k < l.length) : (rowN l)[k]? = some l[k].cells := by simp [rowN, h]
def Gr.cells (g : Gr) : List AV := [.ro 8 (rowN g.nodes), .int .i64 g.loss]
abbrev sParam : ByteArray := ⟨#[112, 97, 114, 97, 109]⟩
abbrev sInput : ByteArray := ⟨#[105, 110, 112, 117, 116]⟩
abbrev sConst : ByteArray := ⟨#[99, 111, 110, 115, 116]⟩
abbrev sRelu : ByteArray := ⟨#[114, 101, 108, 117]⟩
abbrev sAbs : ByteArray := ⟨#[97, 98, 115]⟩
abbrev sStep : ByteArray := ⟨#[115, 116, 101, 112]⟩
abbrev sSign : ByteArray := ⟨#[115, 105, 103, 110]⟩
abbrev sScale : ByteArray := ⟨#[115, 99, 97, 108, 101]⟩
abbrev sPower : ByteArray := ⟨#[112, 111, 119, 101, 114]⟩
abbrev sTranspose : ByteArray := ⟨#[116, 114, 97, 110, 115, 112, 111, 115, 101]⟩
abbrev sSum : ByteArray := ⟨#[115, 117, 109]⟩
abbrev sReshape : ByteArray := ⟨#[114, 101, 115, 104, 97, 112, 101]⟩
abbrev sSpread : ByteArray := ⟨#[115, 112, 114, 101, 97, 100]⟩
abbrev sAdd : ByteArray := ⟨#[97, 100, 100]⟩
abbrev sSub : ByteArray := ⟨#[115, 117, 98]⟩
abbrev sMul : ByteArray := ⟨#[109, 117, 108]⟩
abbrev sMax : ByteArray := ⟨#[109, 97, 120]⟩
abbrev sAbove : ByteArray := ⟨#[97, 98, 111, 118, 101]⟩
abbrev sMatmul : ByteArray := ⟨#[109, 97, 116, 109, 117, 108]⟩
def ops0 : List ByteArray := [sParam, sInput, sConst]
def ops1 : List ByteArray := [sRelu, sAbs, sStep, sSign, sScale, sPower, sTranspose, sSum, sReshape, sSpread]
def ops2 : List ByteArray := [sAdd, sSub, sMul, sMax, sAbove, sMatmul]
def inOps (s : ByteArray) (l : List ByteArray) : Bool := l.any fun t => decide (s = t)
def opParts (s : ByteArray) : Option Nat := if inOps s ops0 = true then some 0 else if inOps s ops1 = true then some 1 else if inOps s ops2 = true then some 2 else none
def partsN (s : ByteArray) : Nat := (opParts s).getD 0
inductive Opc where
  | param | input | const | relu | abs | step | sign | scale | power | transpose | sum | reshape | spread | add | sub | mul | max | above | matmul
def Opc.str : Opc → ByteArray
  | .param => sParam | .input => sInput | .const => sConst | .relu => sRelu | .abs => sAbs | .step => sStep | .sign => sSign | .scale => sScale | .power => sPower | .transpose => sTranspose | .sum => sSum
  | .reshape => sReshape | .spread => sSpread | .add => sAdd | .sub => sSub | .mul => sMul | .max => sMax | .above => sAbove | .matmul => sMatmul
theorem inOps_str {s : ByteArray} {l : List ByteArray} (k : List Opc) (e : l = k.map Opc.str) (h : inOps s l = true) : ∃ o, s = Opc.str o := by
  obtain ⟨t, ht, h2⟩ := List.any_eq_true.1 h
  rw [e] at ht
  obtain ⟨o, _, rfl⟩ := List.mem_map.1 ht
  exact ⟨o, of_decide_eq_true h2⟩
theorem opc_cases (s : ByteArray) : (∃ o, s = Opc.str o) ∨ opParts s = none := by
  cases h0 : inOps s ops0
  · cases h1 : inOps s ops1
    · cases h2 : inOps s ops2
      · right; rw [opParts, h0, h1, h2]; rfl
      · exact .inl (inOps_str [.add, .sub, .mul, .max, .above, .matmul] rfl h2)
    · exact .inl (inOps_str [.relu, .abs, .step, .sign, .scale, .power, .transpose, .sum, .reshape, .spread] rfl h1)
  · exact .inl (inOps_str [.param, .input, .const] rfl h0)
theorem opParts_le {s : ByteArray} {m : Nat} (h : opParts s = some m) : m ≤ 2 := by
  unfold opParts at h
  split at h
  · cases h; omega
  · split at h
    · cases h; omega
    · split at h
      · cases h; omega
      · cases h
theorem partsN_le (s : ByteArray) : partsN s ≤ 2 := by
  unfold partsN
  cases h : opParts s with
  | none => exact Nat.zero_le _
  | some m => exact opParts_le h
def partsZ (s : ByteArray) : Int := match opParts s with | some m => (m : Int) | none => -1
def dParts (x : Nd) : List Int := match opParts x.op with | some 0 => [] | some 2 => [x.a, x.b] | _ => [x.a]
def isName (s : ByteArray) : Bool := decide (0 < s.size ∧ s.size < 9) && s.toList.all nameC && (match s.toList.head? with | none => false | some c => decide (97 ≤ c.toNat ∧ c.toNat ≤ 122))
theorem isName_iff {s : ByteArray} (h1 : 0 < s.toList.length) : isName s = true ↔ s.size < 9 ∧ s.toList.all nameC = true ∧ 97 ≤ s.toList[0].toNat ∧ s.toList[0].toNat ≤ 122 := by
  have hl := Go.N.len_toList s
  have e : s.toList.head? = some s.toList[0] := by rw [List.head?_eq_getElem?, List.getElem?_eq_getElem h1]
  rw [isName, e]
  simp only [Bool.and_eq_true, decide_eq_true_eq]
  constructor
  · rintro ⟨⟨⟨_, a⟩, b⟩, c⟩; exact ⟨a, b, c⟩
  · rintro ⟨a, b, c⟩; exact ⟨⟨⟨by omega, a⟩, b⟩, c⟩
theorem isName_empty : isName ⟨#[]⟩ = false := by decide +kernel
theorem eq_empty {s : ByteArray} (h : s.size = 0) : s = ⟨#[]⟩ := toList_inj (by
  have : s.toList = [] := List.length_eq_zero_iff.1 (by rw [Go.N.len_toList]; exact h)
  rw [this, ByteArray.toList_eq])
def namedOp (s : ByteArray) : Bool := decide (s = sParam) || decide (s = sInput)
def bareOK (x : Nd) (m : Nat) : Bool :=
  (decide (0 < (m : Int)) || decide (x.a = 0)) && ((decide (1 < (m : Int)) || decide (x.b = 0)) && ((isName x.name == namedOp x.op) && ((namedOp x.op || decide (x.name = ⟨#[]⟩)) &&
    ((decide (x.k = ⟨#[]⟩) || decide (x.op = sScale)) && ((decide (x.n = 0) || decide (x.op = sPower)) && (decide ((x.data.length : Int) = 0) || decide (x.op = sConst)))))))
structure Nd.Sm (x : Nd) : Prop where
  name : x.name.size ≤ 1000
  k : x.k.size ≤ 1000
  shape : x.shape.length ≤ 1000
  data : x.data.length ≤ 1000
  each : ∀ d ∈ x.data, d.size ≤ 1000
def ofZ (x : Nd) (a b : List Int) : List Int × Bool :=
  if x.op = sConst then (x.shape, decide ((x.data.length : Int) = sizeZ x.shape) && !(x.data.any fun d => !ratOK d))
  else if x.op = sAdd ∨ x.op = sSub ∨ x.op = sMul ∨ x.op = sMax ∨ x.op = sAbove then (a, decide (a = b))
  else if x.op = sMatmul then (match a, b with | [p, q], [r, s] => if q = r then ([p, s], true) else ([], false) | _, _ => ([], false))
  else if x.op = sRelu ∨ x.op = sAbs ∨ x.op = sStep ∨ x.op = sSign then (a, true)
  else if x.op = sScale then (a, ratOK x.k)
  else if x.op = sPower then (a, decide (0 ≤ x.n) && decide (x.n ≤ 6))
  else if x.op = sTranspose then (match a with | [p, q] => ([q, p], true) | _ => ([], false))
  else if x.op = sSum then ([], true)
  else if x.op = sReshape then (x.shape, decide (sizeZ x.shape = sizeZ a))
  else if x.op = sSpread then (x.shape, decide ((a.length : Int) = 0))
  else (x.shape, true)
def shapeOf (x : Nd) (a b : List Int) : Option (List Int) := if (ofZ x a b).2 = true then some (ofZ x a b).1 else none
theorem matmul_not {a b : List Int} (h : ¬ (a.length = 2 ∧ b.length = 2 ∧ a[1]? = b[0]?)) : (match a, b with | [p, q], [r, s] => if q = r then (([p, s] : List Int), true) else ([], false) | _, _ => ([], false)) = ([], false) := by
  split
  · rename_i p q r s
    rw [if_neg]
    intro e; subst e; exact h ⟨rfl, rfl, rfl⟩
  · rfl
theorem transpose_not {a : List Int} (h : a.length ≠ 2) : (match a with | [p, q] => (([q, p] : List Int), true) | _ => ([], false)) = ([], false) := by
  split
  · exact absurd rfl h
  · rfl
theorem two_of {a : List Int} (h : a.length = 2) : ∃ p q, a = [p, q] := by
  match a, h with
  | [p, q], _ => exact ⟨p, q, rfl⟩
theorem opc_none {s : ByteArray} (h : opParts s = none) (o : Opc) : ¬ s = o.str := fun e => by
  rw [e] at h
  cases o <;> exact absurd h (by decide)
theorem ofZ_none {x : Nd} {a b : List Int} (h : opParts x.op = none) : ofZ x a b = (x.shape, true) := by
  have k := opc_none h
  have k1 : ¬ x.op = sConst := k .const
  have k2 : ¬ (x.op = sAdd ∨ x.op = sSub ∨ x.op = sMul ∨ x.op = sMax ∨ x.op = sAbove) := by
    rintro (e | e | e | e | e)
    · exact k .add e
    · exact k .sub e
    · exact k .mul e
    · exact k .max e
    · exact k .above e
  have k3 : ¬ x.op = sMatmul := k .matmul
  have k4 : ¬ (x.op = sRelu ∨ x.op = sAbs ∨ x.op = sStep ∨ x.op = sSign) := by
    rintro (e | e | e | e)
    · exact k .relu e
    · exact k .abs e
    · exact k .step e
    · exact k .sign e
  have k5 : ¬ x.op = sScale := k .scale
  have k6 : ¬ x.op = sPower := k .power
  have k7 : ¬ x.op = sTranspose := k .transpose
  have k8 : ¬ x.op = sSum := k .sum
  have k9 : ¬ x.op = sReshape := k .reshape
  have k0 : ¬ x.op = sSpread := k .spread
  unfold ofZ
  rw [if_neg k1, if_neg k2, if_neg k3, if_neg k4, if_neg k5, if_neg k6, if_neg k7, if_neg k8, if_neg k9, if_neg k0]
theorem x_0 {es : List (List AV)} {c : List AV} {K : List AV → Prop} (h : es[0]? = some c) (k : K c) : ∃ (m : Nat) (x : List AV), (0 : Int) = (m : Int) ∧ es[m]? = some x ∧ K x := ⟨0, c, rfl, h, k⟩
theorem x_1 {es : List (List AV)} {c : List AV} {K : List AV → Prop} (h : es[1]? = some c) (k : K c) : ∃ (m : Nat) (x : List AV), (1 : Int) = (m : Int) ∧ es[m]? = some x ∧ K x := ⟨1, c, rfl, h, k⟩
theorem roTo2 {a b c d : AV} (h1 : RoTo a c) (h2 : RoTo b d) : RoTo (.tup [a, b]) (.tup [c, d]) := ⟨_, rfl, _, _, rfl, h1, _, _, rfl, h2, rfl⟩
theorem roTo3 {a b c d e f : AV} (h1 : RoTo a d) (h2 : RoTo b e) (h3 : RoTo c f) : RoTo (.tup [a, b, c]) (.tup [d, e, f]) := ⟨_, rfl, _, _, rfl, h1, _, _, rfl, h2, _, _, rfl, h3, rfl⟩
theorem roToA {a b c d : AV} (h1 : RoTo a c) (h2 : RoTo b d) : RoTo (.agg [a, b]) (.agg [c, d]) := ⟨_, rfl, _, _, rfl, h1, _, _, rfl, h2, rfl⟩
theorem ofZ_len {x : Nd} {a b : List Int} (hx : x.Sm) (ha : a.length ≤ 1000) (hb : b.length ≤ 1000) : (ofZ x a b).1.length ≤ 1000 := by
  have := hx.shape
  unfold ofZ
  repeat' split
  all_goals simp
  all_goals assumption
def inR (i : Int) (l : List Nd) : Bool := decide (0 ≤ i) && decide (i < l.length)
theorem inR_nat {i : Int} {l : List Nd} (h : inR i l = true) : ∃ k : Nat, i = k ∧ k < l.length := by
  simp only [inR, Bool.and_eq_true, decide_eq_true_eq] at h
  exact ⟨i.toNat, by omega, by omega⟩
theorem inR_not {i : Int} {l : List Nd} (h : inR i l = false) : i < 0 ∨ (l.length : Int) ≤ i := by
  simp only [inR, Bool.and_eq_false_iff, decide_eq_false_iff_not] at h
  omega
def shAt (l : List Nd) (i : Int) : List Int := match l[i.toNat]? with | some x => x.shape | none => []
theorem shAt_nat {l : List Nd} {k : Nat} (h : k < l.length) : shAt l k = l[k].shape := by
  rw [shAt, Int.toNat_natCast, List.getElem?_eq_getElem h]
def fitN (l : List Nd) (x : Nd) (m : Nat) : Bool := bareOK x m && ((decide (m = 0) || inR x.a l) && (decide (m < 2) || inR x.b l))
def okZ (r : List Int × Bool) : Option (List Int) := if (r.2 && okShape r.1) = true then some r.1 else none
def inferN (l : List Nd) (x : Nd) : Option (List Int) :=
  match opParts x.op with
  | none => none
  | some m => if fitN l x m = true then okZ (ofZ x (if m = 0 then [] else shAt l x.a) (if m < 2 then [] else shAt l x.b)) else none
theorem inferN_none {l : List Nd} {x : Nd} (h : opParts x.op = none) : inferN l x = none := by simp only [inferN, h]
theorem inferN_bad {l : List Nd} {x : Nd} {m : Nat} (h : opParts x.op = some m) (hb : fitN l x m = false) : inferN l x = none := by simp [inferN, h, hb]
theorem inferN_ok {l : List Nd} {x : Nd} {m : Nat} (h : opParts x.op = some m) (hb : fitN l x m = true) : inferN l x = okZ (ofZ x (if m = 0 then [] else shAt l x.a) (if m < 2 then [] else shAt l x.b)) := by simp only [inferN, h, hb, if_true]
def refZ (x : Nd) (a b : List Int) : List Int × Bool :=
  if (ofZ x a b).2 = false then ([], false) else if okShape (ofZ x a b).1 = true then ((ofZ x a b).1, true) else if x.op = sConst ∨ x.op = sReshape then ([], false) else ((ofZ x a b).1, false)
def refN (l : List Nd) (x : Nd) : List Int × Bool :=
  match opParts x.op with
  | none => ([], false)
  | some m => if fitN l x m = true then refZ x (if m = 0 then [] else shAt l x.a) (if m < 2 then [] else shAt l x.b) else ([], false)
theorem refN_none {l : List Nd} {x : Nd} (h : opParts x.op = none) : refN l x = ([], false) := by simp only [refN, h]
theorem refN_bad {l : List Nd} {x : Nd} {m : Nat} (h : opParts x.op = some m) (hb : fitN l x m = false) : refN l x = ([], false) := by simp [refN, h, hb]
theorem refN_ok {l : List Nd} {x : Nd} {m : Nat} (h : opParts x.op = some m) (hb : fitN l x m = true) : refN l x = refZ x (if m = 0 then [] else shAt l x.a) (if m < 2 then [] else shAt l x.b) := by simp only [refN, h, hb, if_true]
theorem refZ_2 (x : Nd) (a b : List Int) : (refZ x a b).2 = (okZ (ofZ x a b)).isSome ∧ ((refZ x a b).2 = true → okZ (ofZ x a b) = some (refZ x a b).1) := by
  unfold refZ okZ
  generalize ofZ x a b = r
  obtain ⟨s, ok⟩ := r
  cases ok <;> cases h : okShape s <;> simp [h]
  all_goals split <;> simp
theorem refN_infer (l : List Nd) (x : Nd) : (refN l x).2 = (inferN l x).isSome ∧ ((refN l x).2 = true → inferN l x = some (refN l x).1) := by
  unfold refN inferN
  cases opParts x.op with
  | none => simp
  | some m =>
    dsimp only
    cases fitN l x m with
    | false => simp
    | true => simp only [if_true]; exact refZ_2 _ _ _
structure Fit (l : List Nd) (x : Nd) (m : Nat) : Prop where
  a0 : m = 0 → x.a = 0
  b0 : m < 2 → x.b = 0
  nm : namedOp x.op = true → isName x.name = true
  nn : namedOp x.op = false → x.name = ⟨#[]⟩
  k : x.op ≠ sScale → x.k = ⟨#[]⟩
  n : x.op ≠ sPower → x.n = 0
  d : x.op ≠ sConst → x.data.length = 0
  ia : 0 < m → inR x.a l = true
  ib : 1 < m → inR x.b l = true
theorem fit_iff (l : List Nd) (x : Nd) (m : Nat) : fitN l x m = true ↔ Fit l x m := by
  have e : ∀ {p : Prop} {q : Prop} [Decidable p] [Decidable q], (decide p || decide q) = true ↔ (¬ p → q) := by intro p q _ _; by_cases p <;> by_cases q <;> simp_all
  have e2 : (decide ((x.data.length : Int) = 0) || decide (x.op = sConst)) = true ↔ (x.op ≠ sConst → x.data.length = 0) := by
    rw [Bool.or_comm, e]; constructor <;> intro h1 h2 <;> have := h1 h2 <;> omega
  have e3 : (isName x.name == namedOp x.op) = true ∧ (namedOp x.op || decide (x.name = ⟨#[]⟩)) = true ↔ ((namedOp x.op = true → isName x.name = true) ∧ (namedOp x.op = false → x.name = ⟨#[]⟩)) := by
    cases h : namedOp x.op
    · simp only [beq_false, Bool.not_eq_true', Bool.false_or, decide_eq_true_eq, Bool.false_eq_true, false_implies, true_and, forall_const]
      exact ⟨fun hh => hh.2, fun hh => ⟨by rw [hh]; exact isName_empty, hh⟩⟩
    · simp
  have e4 : (decide (0 < (m : Int)) || decide (x.a = 0)) = true ↔ (m = 0 → x.a = 0) := by rw [e]; constructor <;> intro h1 h2 <;> exact h1 (by omega)
  have e5 : (decide (1 < (m : Int)) || decide (x.b = 0)) = true ↔ (m < 2 → x.b = 0) := by rw [e]; constructor <;> intro h1 h2 <;> exact h1 (by omega)
  have e6 : (decide (x.k = ⟨#[]⟩) || decide (x.op = sScale)) = true ↔ (x.op ≠ sScale → x.k = ⟨#[]⟩) := by rw [Bool.or_comm, e]
  have e7 : (decide (x.n = 0) || decide (x.op = sPower)) = true ↔ (x.op ≠ sPower → x.n = 0) := by rw [Bool.or_comm, e]
  have e8 : (decide (m = 0) || inR x.a l) = true ↔ (0 < m → inR x.a l = true) := by
    rcases Nat.eq_zero_or_pos m with h | h
    · simp [h]
    · have : ¬ m = 0 := by omega
      simp [h, this]
  have e9 : (decide (m < 2) || inR x.b l) = true ↔ (1 < m → inR x.b l = true) := by
    rcases Nat.lt_or_ge m 2 with h | h
    · have : ¬ 1 < m := by omega
      simp [h, this]
    · have h1 : ¬ m < 2 := by omega
      have h2 : 1 < m := by omega
      simp [h1, h2]
  rw [fitN, Bool.and_eq_true, Bool.and_eq_true, e8, e9, bareOK, Bool.and_eq_true, Bool.and_eq_true, Bool.and_eq_true, Bool.and_eq_true, Bool.and_eq_true, Bool.and_eq_true, e2, e4, e5, e6, e7]
  constructor
  · rintro ⟨⟨h1, h2, h3, h4, h5, h6, h7⟩, h8, h9⟩
    have := e3.1 ⟨h3, h4⟩
    exact ⟨h1, h2, this.1, this.2, h5, h6, h7, h8, h9⟩
  · intro h
    have := e3.2 ⟨h.nm, h.nn⟩
    exact ⟨⟨h.a0, h.b0, this.1, this.2, h.k, h.n, h.d⟩, h.ia, h.ib⟩
theorem fit_no {l : List Nd} {x : Nd} {m : Nat} (h : fitN l x m = false) (k : Fit l x m) : False := by rw [(fit_iff l x m).2 k] at h; cases h
def Opc.many : Opc → Nat
  | .param | .input | .const => 0
  | .relu | .abs | .step | .sign | .scale | .power | .transpose | .sum | .reshape | .spread => 1
  | _ => 2
theorem opc_many (o : Opc) : opParts o.str = some o.many := by cases o <;> rfl
theorem refZ_of {x : Nd} {a b s : List Int} (h : ofZ x a b = (s, true)) (hc : ¬ (x.op = sConst ∨ x.op = sReshape)) : refZ x a b = (s, okShape s) := by
  rw [refZ, h, if_neg (by simp), if_neg hc]
  cases okShape s <;> rfl
theorem refZ_ok {x : Nd} {a b s : List Int} (h : ofZ x a b = (s, true)) (hs : okShape s = true) : refZ x a b = (s, true) := by
  rw [refZ, h, if_neg (by simp), if_pos hs]
theorem refZ_no {x : Nd} {a b : List Int} (h : (ofZ x a b).2 = false) : refZ x a b = ([], false) := by rw [refZ, if_pos h]
theorem refZ_bad {x : Nd} {a b : List Int} (hc : x.op = sConst ∨ x.op = sReshape) (h : okShape (ofZ x a b).1 = false) : refZ x a b = ([], false) := by
  rw [refZ, h, if_neg (by simp : ¬ false = true), if_pos hc]
  split <;> rfl
theorem inR_of {i : Int} {l : List Nd} (h1 : ¬ i < 0) (h2 : ¬ (l.length : Int) ≤ i) : inR i l = true := by simp [inR]; omega
theorem refZ_at (o : Opc) {x : Nd} {a b s : List Int} (ho : x.op = o.str) (h : ofZ x a b = (s, true)) (hc : ¬ (o.str = sConst ∨ o.str = sReshape)) : refZ x a b = (s, okShape s) := refZ_of h (by rw [ho]; exact hc)
theorem rowN_sh {l : List Nd} {i : Nat} (h : i < l.length) : ∃ o1 a1 b1 n1 k1 m1 d1, (rowN l)[i]? = some [.str o1, .int .i64 a1, .int .i64 b1, .str n1, .ro 1 (rowZ l[i].shape), .str k1, .int .i64 m1, .ro 1 d1] := ⟨_, _, _, _, _, _, _, rowN_get h⟩
def newName (x y : Nd) : Bool := decide (x.name = ⟨#[]⟩) || !decide (y.name = x.name)
def ndOK (l : List Nd) (x : Nd) : Bool := decide (inferN l x = some x.shape) && l.all (newName x)
def ndAt (l : List Nd) (k : Nat) : Bool := match l[k]? with | some x => ndOK (l.take k) x | none => true
theorem ndAt_lt {l : List Nd} {k : Nat} (h : k < l.length) : ndAt l k = ndOK (l.take k) l[k] := by rw [ndAt, List.getElem?_eq_getElem h]
def allTo (l : List Nd) (i : Nat) : Bool := (List.range i).all (ndAt l)
theorem allTo_succ (l : List Nd) (i : Nat) : allTo l (i + 1) = (allTo l i && ndAt l i) := by simp [allTo, List.range_succ]
theorem allTo_bad {l : List Nd} {i n : Nat} (h : i < n) (hb : ndAt l i = false) : allTo l n = false := List.all_eq_false.2 ⟨i, List.mem_range.2 h, by simp [hb]⟩
def preG (g : Gr) : Bool := decide (1 ≤ g.nodes.length) && decide (g.nodes.length ≤ 200) && inR g.loss g.nodes && decide (shAt g.nodes g.loss = [])
def grOK (g : Gr) : Bool := preG g && allTo g.nodes g.nodes.length
theorem findK_setK (x : ByteArray) (v : AV) (y : ByteArray) : ∀ l, findK (setK l x v) y = if y = x then some v else findK l y
  | [] => by simp [setK, findK]
  | (k, w) :: r => by
    unfold setK
    split
    · rename_i h; subst h; simp only [findK]; split <;> rfl
    · rename_i h
      simp only [findK, findK_setK x v y r]
      by_cases h2 : y = k
      · have : ¬ y = x := fun e => h (by rw [← e, h2])
        simp [h2, show ¬ k = x from fun e => h e.symm]
      · simp [h2]
def cntN (l : List Nd) (s : ByteArray) : Nat := l.countP fun y => decide (y.name = s)
def MapOK (kv : List (ByteArray × AV)) (l : List Nd) : Prop := ∀ s, AV.int .i64 ((cntN l s : Nat) : Int) = (findK kv s).getD (.int .i64 0)
theorem mapOK_nil : MapOK [] [] := fun s => rfl
theorem mapOK_snoc {kv : List (ByteArray × AV)} {l : List Nd} {x : Nd} {e : Int} (h : MapOK kv l) (he : e = (cntN l x.name : Nat) + 1) : MapOK (setK kv x.name (.int .i64 e)) (l ++ [x]) := fun s => by
  rw [findK_setK, cntN, List.countP_append]
  by_cases hs : s = x.name
  · subst hs; rw [if_pos rfl, he]; simp [cntN]
  · rw [if_neg hs, ← h s]; simp [cntN, show ¬ x.name = s from fun e => hs e.symm]
theorem cnt_pos {l : List Nd} {x : Nd} (hn : x.name ≠ ⟨#[]⟩) : 0 < cntN l x.name ↔ l.all (newName x) = false := by
  rw [cntN, List.countP_pos_iff, List.all_eq_false]
  constructor
  · rintro ⟨y, hy, h⟩; exact ⟨y, hy, by simp only [newName, decide_eq_true_eq] at h ⊢; simp [hn, h]⟩
  · rintro ⟨y, hy, h⟩; refine ⟨y, hy, ?_⟩; simp only [newName] at h; simp [hn] at h; simp [h]
theorem cnt_le (l : List Nd) (s : ByteArray) : cntN l s ≤ l.length := List.countP_le_length
theorem Xq {l : List (ByteArray × AV)} {k : ByteArray} {d v : AV} {K : AV → Prop} (h : v = (findK l k).getD d) (hk : K v) : ∃ r, r = (findK l k).getD d ∧ K r := ⟨v, h, hk⟩
theorem sl_take (l : List Nd) (i : Nat) : rowN (l.take i) = ((rowN l).drop (0 : Int).toNat).take ((i : Int).toNat - (0 : Int).toNat) := by simp [rowN]
end Go.V
namespace Go.V
open Go.N
variable (gl : Gl)
def T_gparts : Tab := [(9, i9)]
theorem TOK_gparts : TOK Go.Proofs.Tryz.prog T_gparts := ⟨K9, trivial⟩
def T_r10_Parts : Tab := [(35, i35), (9, i9), (3, i3)]
theorem TOK_r10_Parts : TOK Go.Proofs.Tryz.prog T_r10_Parts := ⟨K35, ⟨K9, ⟨K3, trivial⟩⟩⟩
theorem c_lexName (s : ByteArray) (hs : s.size < 1000000) : VCall Go.Proofs.Tryz.prog gl 43 [.str s] (fun x => x = .bool (isName s)) := by
  refine vcall_of TOK_lexName HM Go.Proofs.Tryz.func43 rfl (by decide +kernel) (by decide +kernel) rfl ?_
  rcases Nat.eq_zero_or_pos s.size with h0 | h0
  · rw [eq_empty h0]
    repeat' ((conv => whnf); first | (with_reducible first | apply Xa | (first | apply xi | apply xu | apply x8 | apply x3 | apply xn | apply xp | apply xP | refine xs ?_ ?_ | refine xS ?_ ?_ | refine xZ ?_ ?_ | refine xl ?_ ?_ | refine xd ?_ ?_ | refine xy ?_ ?_ | refine xL ?_ ?_ | refine xD ?_ ?_ | apply xx); omega | apply Xm | apply Xe | refine Xg (by assumption) ?_) | refine Xo (by assumption) ?_ | refine Or.inl ⟨rfl, ?_⟩ | (split <;> (first | (rename_i u h; clear u) | rename_i h) <;> (try rewrite [h]) <;> (first | replace h := dt h | replace h := df h | replace h := Nt h | replace h := Nf h | skip)))
    conv => whnf
    exact congrArg AV.bool isName_empty.symm
  have hl := Go.N.len_toList s
  have hne : ¬ s = ⟨#[]⟩ := fun e => by rw [e] at h0; exact absurd h0 (by decide)
  have h1 : 0 < s.toList.length := by omega
  have hi := isName_iff h1
  have hT := c_sTrim gl s hs (by omega)
  repeat' ((conv => whnf); first | (with_reducible first | apply Xa | (first | apply xi | apply xu | apply x8 | apply x3 | apply xn | apply xp | apply xP | refine xs ?_ ?_ | refine xS ?_ ?_ | refine xZ ?_ ?_ | refine xl ?_ ?_ | refine xd ?_ ?_ | refine xy ?_ ?_ | refine xL ?_ ?_ | refine xD ?_ ?_ | apply xx); omega | apply Xm | apply Xe | refine Xg (by assumption) ?_) | refine Xo (by assumption) ?_ | refine Or.inl ⟨rfl, ?_⟩ | (split <;> (first | (rename_i u h; clear u) | rename_i h) <;> (try rewrite [h]) <;> (first | replace h := dt h | replace h := df h | replace h := Nt h | replace h := Nf h | skip)))
  all_goals first | exact absurd (by assumption) hne | skip
  · conv => whnf
    exact congrArg AV.bool (Eq.symm (Bool.eq_false_iff.2 fun hh => by have := hi.1 hh; omega))
  · conv => whnf
    exact congrArg AV.bool (Eq.symm (Bool.eq_false_iff.2 fun hh => by have := hi.1 hh; omega))
  · conv => whnf
    exact congrArg AV.bool (Eq.symm (Bool.eq_false_iff.2 fun hh => by have := hi.1 hh; omega))
  conv => whnf
  refine .inl ⟨_, hT, ?_⟩
  rintro _ ⟨r, rfl, hr⟩
  have e : decide (r = ⟨#[]⟩) = isName s := by
    rw [Bool.eq_iff_iff, decide_eq_true_eq, hr, hi]
    constructor
    · intro hh; exact ⟨by omega, hh, by omega, by omega⟩
    · intro hh; exact hh.2.1
  repeat' ((conv => whnf); first | (with_reducible first | apply Xa | (first | apply xi | apply xu | apply x8 | apply x3 | apply xn | apply xp | apply xP | refine xs ?_ ?_ | refine xS ?_ ?_ | refine xZ ?_ ?_ | refine xl ?_ ?_ | refine xd ?_ ?_ | refine xy ?_ ?_ | refine xL ?_ ?_ | refine xD ?_ ?_ | apply xx); omega | apply Xm | apply Xe | refine Xg (by assumption) ?_) | refine Xo (by assumption) ?_ | refine Or.inl ⟨rfl, ?_⟩ | (split <;> (first | (rename_i u h; clear u) | rename_i h) <;> (try rewrite [h]) <;> (first | replace h := dt h | replace h := df h | replace h := Nt h | replace h := Nf h | skip)))
  conv => whnf
  exact congrArg AV.bool e
set_option maxHeartbeats 1000000 in
theorem c_r08_Name (s : ByteArray) (hs : s.size < 1000000) : VCall Go.Proofs.Tryz.prog gl 24 [.str s] (fun x => x = .bool (isName s)) := by
  refine vcall_of TOK_r08_Name HM Go.Proofs.Tryz.func24 rfl (by decide +kernel) (by decide +kernel) rfl ?_
  have hl := Go.N.len_toList s
  repeat' ((conv => whnf); first | (with_reducible first | apply Xa | (first | apply xi | apply xu | apply x8 | apply x3 | apply xn | apply xp | apply xP | refine xs ?_ ?_ | refine xS ?_ ?_ | refine xZ ?_ ?_ | refine xl ?_ ?_ | refine xd ?_ ?_ | refine xy ?_ ?_ | refine xL ?_ ?_ | refine xD ?_ ?_ | apply xx); omega | apply Xm | apply Xe | refine Xg (by assumption) ?_) | refine Xo (by assumption) ?_ | refine Or.inl ⟨rfl, ?_⟩ | (split <;> (first | (rename_i u h; clear u) | rename_i h) <;> (try rewrite [h]) <;> (first | replace h := dt h | replace h := df h | replace h := Nt h | replace h := Nf h | skip)))
  refine ⟨[0, 3], [], fun m st => ∃ i : Nat, i ≤ s.toList.length ∧ m = s.toList.length - i ∧ (s.toList.take i).all nameC = true ∧ (∀ h : 0 < s.toList.length, 0 < i → 97 ≤ s.toList[0].toNat ∧ s.toList[0].toNat ≤ 122) ∧
    st = ⟨[(0, .str s), (3, .int .i64 (i : Nat))], []⟩, rfl, ⟨s.toList.length, 0, by omega, rfl, by simp, by omega, rfl⟩, ?_⟩
  rintro m _ ⟨i, hi, hm, ha, hd, rfl⟩
  rcases Nat.lt_or_ge i s.toList.length with hil | hge
  · have h1 : 0 < s.toList.length := by omega
    have hn := isName_iff h1
    have hd := hd h1
    by_cases hbad : nameC s.toList[i] = true ∧ (i = 0 → 97 ≤ s.toList[i].toNat ∧ s.toList[i].toNat ≤ 122)
    · obtain ⟨hb1, hb2⟩ := hbad
      have hb3 := hb1
      simp only [nameC, Bool.or_eq_true, decide_eq_true_eq] at hb3
      have go : ∃ i' : Nat, i' ≤ s.toList.length ∧ s.toList.length - (i + 1) = s.toList.length - i' ∧ (s.toList.take i').all nameC = true ∧ (∀ h : 0 < s.toList.length, 0 < i' → 97 ≤ s.toList[0].toNat ∧ s.toList[0].toNat ≤ 122) ∧
          (⟨[(0, .str s), (3, .int .i64 ((i : Int) + 1))], []⟩ : St) = ⟨[(0, .str s), (3, .int .i64 (i' : Nat))], []⟩ :=
        ⟨i + 1, by omega, rfl, by rw [List.take_succ_eq_append_getElem hil, List.all_append, ha]; simp [hb1], fun h _ => by
          rcases Nat.eq_zero_or_pos i with h0 | h0
          · subst h0; exact hb2 rfl
          · exact hd h0, rfl⟩
      repeat' ((conv => whnf); first | (with_reducible first | apply Xa | (first | apply xi | apply xu | apply x8 | apply x3 | apply xn | apply xp | apply xP | refine xs ?_ ?_ | refine xS ?_ ?_ | refine xZ ?_ ?_ | refine xl ?_ ?_ | refine xd ?_ ?_ | refine xy ?_ ?_ | refine xL ?_ ?_ | refine xD ?_ ?_ | apply xx); omega | apply Xm | apply Xe | refine Xg (by assumption) ?_) | refine Xo (by assumption) ?_ | refine Or.inl ⟨rfl, ?_⟩ | (split <;> (first | (rename_i u h; clear u) | rename_i h) <;> (try rewrite [h]) <;> (first | replace h := dt h | replace h := df h | replace h := Nt h | replace h := Nf h | skip)))
      all_goals try omega
      all_goals exact ⟨[], s.toList.length - (i + 1), rfl, by omega, go⟩
    · have hf : isName s = false := Bool.eq_false_iff.2 fun hh => hbad ⟨List.all_eq_true.1 (hn.1 hh).2.1 _ (List.getElem_mem hil), fun e => by subst e; exact (hn.1 hh).2.2⟩
      rw [hf]
      have hb3 : ¬ (97 ≤ s.toList[i].toNat ∧ s.toList[i].toNat ≤ 122) ∧ (i = 0 ∨ ¬ (48 ≤ s.toList[i].toNat ∧ s.toList[i].toNat ≤ 57)) := by
        simp only [nameC, Bool.or_eq_true, decide_eq_true_eq] at hbad
        omega
      repeat' ((conv => whnf); first | (with_reducible first | apply Xa | (first | apply xi | apply xu | apply x8 | apply x3 | apply xn | apply xp | apply xP | refine xs ?_ ?_ | refine xS ?_ ?_ | refine xZ ?_ ?_ | refine xl ?_ ?_ | refine xd ?_ ?_ | refine xy ?_ ?_ | refine xL ?_ ?_ | refine xD ?_ ?_ | apply xx); omega | apply Xm | apply Xe | refine Xg (by assumption) ?_) | refine Xo (by assumption) ?_ | refine Or.inl ⟨rfl, ?_⟩ | (split <;> (first | (rename_i u h; clear u) | rename_i h) <;> (try rewrite [h]) <;> (first | replace h := dt h | replace h := df h | replace h := Nt h | replace h := Nf h | skip)))
      all_goals try omega
      all_goals (conv => whnf)
      all_goals rfl
  · rw [List.take_of_length_le (by omega)] at ha
    rcases Nat.eq_zero_or_pos s.size with h0 | h0
    · rw [eq_empty h0, isName_empty]
      repeat' ((conv => whnf); first | (with_reducible first | apply Xa | (first | apply xi | apply xu | apply x8 | apply x3 | apply xn | apply xp | apply xP | refine xs ?_ ?_ | refine xS ?_ ?_ | refine xZ ?_ ?_ | refine xl ?_ ?_ | refine xd ?_ ?_ | refine xy ?_ ?_ | refine xL ?_ ?_ | refine xD ?_ ?_ | apply xx); omega | apply Xm | apply Xe | refine Xg (by assumption) ?_) | refine Xo (by assumption) ?_ | refine Or.inl ⟨rfl, ?_⟩ | (split <;> (first | (rename_i u h; clear u) | rename_i h) <;> (try rewrite [h]) <;> (first | replace h := dt h | replace h := df h | replace h := Nt h | replace h := Nf h | skip)))
      all_goals try omega
      all_goals (conv => whnf)
      all_goals rfl
    have h1 : 0 < s.toList.length := by omega
    have hn := isName_iff h1
    have hd := hd h1 (by omega)
    repeat' ((conv => whnf); first | (with_reducible first | apply Xa | (first | apply xi | apply xu | apply x8 | apply x3 | apply xn | apply xp | apply xP | refine xs ?_ ?_ | refine xS ?_ ?_ | refine xZ ?_ ?_ | refine xl ?_ ?_ | refine xd ?_ ?_ | refine xy ?_ ?_ | refine xL ?_ ?_ | refine xD ?_ ?_ | apply xx); omega | apply Xm | apply Xe | refine Xg (by assumption) ?_) | refine Xo (by assumption) ?_ | refine Or.inl ⟨rfl, ?_⟩ | (split <;> (first | (rename_i u h; clear u) | rename_i h) <;> (try rewrite [h]) <;> (first | replace h := dt h | replace h := df h | replace h := Nt h | replace h := Nf h | skip)))
    all_goals try omega
    · conv => whnf
      refine congrArg AV.bool ?_
      rw [Bool.eq_iff_iff, hn, decide_eq_true_eq]
      constructor
      · intro hh; exact ⟨by omega, ha, hd⟩
      · intro hh; omega
end Go.V
namespace Go.V
open Go.N
variable (gl : Gl)
theorem c_gparts (s : ByteArray) : VCall Go.Proofs.Tryz.prog gl 28 [.str s] (fun x => x = .tup [.int .i64 (partsN s : Nat), .bool (opParts s).isSome]) := by
  rcases opc_cases s with ⟨o, rfl⟩ | hn
  · refine vcall_of TOK_gparts HM Go.Proofs.Tryz.func28 rfl (by decide +kernel) (by decide +kernel) rfl ?_
    cases o
    all_goals (repeat' ((conv => whnf); first | (with_reducible first | apply Xa | (first | apply xi | apply xu | apply x8 | apply x3 | apply xn | apply xp | apply xP | refine xs ?_ ?_ | refine xS ?_ ?_ | refine xZ ?_ ?_ | refine xl ?_ ?_ | refine xd ?_ ?_ | refine xy ?_ ?_ | refine xL ?_ ?_ | refine xD ?_ ?_ | apply xx); omega | apply Xm | apply Xe | refine Xg (by assumption) ?_) | refine Xo (by assumption) ?_ | refine Or.inl ⟨rfl, ?_⟩ | (split <;> (first | (rename_i u h; clear u) | rename_i h) <;> (try rewrite [h]) <;> (first | replace h := dt h | replace h := df h | replace h := Nt h | replace h := Nf h | skip))))
    all_goals (conv => whnf)
    all_goals rfl
  · have e1 : partsN s = 0 := by rw [partsN, hn]; rfl
    rw [e1, hn]
    refine vcall_of TOK_gparts HM Go.Proofs.Tryz.func28 rfl (by decide +kernel) (by decide +kernel) rfl ?_
    repeat' ((conv => whnf); first | (with_reducible first | apply Xa | (first | apply xi | apply xu | apply x8 | apply x3 | apply xn | apply xp | apply xP | refine xs ?_ ?_ | refine xS ?_ ?_ | refine xZ ?_ ?_ | refine xl ?_ ?_ | refine xd ?_ ?_ | refine xy ?_ ?_ | refine xL ?_ ?_ | refine xD ?_ ?_ | apply xx); omega | apply Xm | apply Xe | refine Xg (by assumption) ?_) | refine Xo (by assumption) ?_ | refine Or.inl ⟨rfl, ?_⟩ | (split <;> (first | (rename_i u h; clear u) | rename_i h) <;> (try rewrite [h]) <;> (first | replace h := dt h | replace h := df h | replace h := Nt h | replace h := Nf h | skip)))
    all_goals first | exact absurd hn (by rw [h]; decide) | skip
    conv => whnf
    rfl
theorem rowS_lit (l : List ByteArray) : rowS l = l.map fun x => [.str x] := rfl
set_option maxHeartbeats 2000000 in
theorem c_r10_Parts (s : ByteArray) : VCall Go.Proofs.Tryz.prog gl 18 [.str s] (fun x => x = .int .i64 (partsZ s)) := by
  refine vcall_of TOK_r10_Parts HM Go.Proofs.Tryz.func18 rfl (by decide +kernel) (by decide +kernel) rfl ?_
  repeat' ((conv => whnf); first | (with_reducible first | apply Xa | (first | apply xi | apply xu | apply x8 | apply x3 | apply xn | apply xp | apply xP | refine xs ?_ ?_ | refine xS ?_ ?_ | refine xZ ?_ ?_ | refine xl ?_ ?_ | refine xd ?_ ?_ | refine xy ?_ ?_ | refine xL ?_ ?_ | refine xD ?_ ?_ | apply xx); omega | apply Xm | apply Xe | refine Xg (by assumption) ?_) | refine Xo (by assumption) ?_ | refine Or.inl ⟨rfl, ?_⟩ | (split <;> (first | (rename_i u h; clear u) | rename_i h) <;> (try rewrite [h]) <;> (first | replace h := dt h | replace h := df h | replace h := Nt h | replace h := Nf h | skip)))
  refine ⟨[0, 9, 10, 11], [0], fun m st => ∃ i q : Nat, q = 3 ∧ i ≤ ops0.length ∧ m = ops0.length - i ∧ inOps s (ops0.take i) = false ∧ st = ⟨[(0, .str s), (9, .own 0 0 3), (10, .int .i64 (q : Nat)), (11, .int .i64 (i : Nat))], [.row false 9 1 (rowS ops0)]⟩, rfl, ⟨ops0.length, 0, 3, rfl, by decide, rfl, rfl, rfl⟩, ?_⟩
  rintro m _ ⟨i, q, hq, hi, hm, ha, rfl⟩
  have hL : ops0.length = 3 := rfl
  rcases Nat.lt_or_ge i ops0.length with hil | hge
  · have g : (rowS ops0)[0 + i]? = some [.str ops0[i]] := by rw [Nat.zero_add]; exact rowS_get hil
    have ha' : s = ops0[i] ∨ inOps s (ops0.take (i + 1)) = false := by
      rw [List.take_succ_eq_append_getElem hil]
      by_cases e : s = ops0[i]
      · exact .inl e
      · right; simp only [inOps, List.any_append] at ha ⊢; rw [ha]; simp [e]
    repeat' ((conv => whnf); first | (with_reducible first | apply Xa | (first | apply xi | apply xu | apply x8 | apply x3 | apply xn | apply xp | apply xP | refine xs ?_ ?_ | refine xS ?_ ?_ | refine xZ ?_ ?_ | refine xl ?_ ?_ | refine xd ?_ ?_ | refine xy ?_ ?_ | refine xL ?_ ?_ | refine xD ?_ ?_ | apply xx); omega | apply Xm | apply Xe | refine Xg (by assumption) ?_) | refine Xo (by assumption) ?_ | refine Or.inl ⟨rfl, ?_⟩ | (split <;> (first | (rename_i u h; clear u) | rename_i h) <;> (try rewrite [h]) <;> (first | replace h := dt h | replace h := df h | replace h := Nt h | replace h := Nf h | skip)))
    all_goals try omega
    · conv => whnf
      have hin : inOps s ops0 = true := List.any_eq_true.2 ⟨_, List.getElem_mem hil, by rw [decide_eq_true_eq]; exact h.symm⟩
      exact congrArg (AV.int .i64) (by simp [partsZ, opParts,  hin])
    · refine ⟨[0], ops0.length - (i + 1), rfl, by omega, i + 1, q, hq, by omega, rfl, ?_, rfl⟩
      rcases ha' with e | e
      · exact absurd e.symm h
      · exact e
  rw [List.take_of_length_le (by omega)] at ha
  have hi3 : i = 3 := by omega
  subst hi3
  repeat' ((conv => whnf); first | (with_reducible first | apply Xa | (first | apply xi | apply xu | apply x8 | apply x3 | apply xn | apply xp | apply xP | refine xs ?_ ?_ | refine xS ?_ ?_ | refine xZ ?_ ?_ | refine xl ?_ ?_ | refine xd ?_ ?_ | refine xy ?_ ?_ | refine xL ?_ ?_ | refine xD ?_ ?_ | apply xx); omega | apply Xm | apply Xe | refine Xg (by assumption) ?_) | refine Xo (by assumption) ?_ | refine Or.inl ⟨rfl, ?_⟩ | (split <;> (first | (rename_i u h; clear u) | rename_i h) <;> (try rewrite [h]) <;> (first | replace h := dt h | replace h := df h | replace h := Nt h | replace h := Nf h | skip)))
  all_goals try omega
  have h0 := ha
  refine ⟨[0, 19, 20, 21], [1], fun m st => ∃ i q : Nat, q = 10 ∧ i ≤ ops1.length ∧ m = ops1.length - i ∧ inOps s (ops1.take i) = false ∧ st = ⟨[(0, .str s), (19, .own 0 0 10), (20, .int .i64 (q : Nat)), (21, .int .i64 (i : Nat))], [.row false 9 1 (rowS ops1)]⟩, rfl, ⟨ops1.length, 0, 10, rfl, by decide, rfl, rfl, rfl⟩, ?_⟩
  rintro m _ ⟨i, q, hq, hi, hm, ha, rfl⟩
  have hL : ops1.length = 10 := rfl
  rcases Nat.lt_or_ge i ops1.length with hil | hge
  · have g : (rowS ops1)[0 + i]? = some [.str ops1[i]] := by rw [Nat.zero_add]; exact rowS_get hil
    have ha' : s = ops1[i] ∨ inOps s (ops1.take (i + 1)) = false := by
      rw [List.take_succ_eq_append_getElem hil]
      by_cases e : s = ops1[i]
      · exact .inl e
      · right; simp only [inOps, List.any_append] at ha ⊢; rw [ha]; simp [e]
    repeat' ((conv => whnf); first | (with_reducible first | apply Xa | (first | apply xi | apply xu | apply x8 | apply x3 | apply xn | apply xp | apply xP | refine xs ?_ ?_ | refine xS ?_ ?_ | refine xZ ?_ ?_ | refine xl ?_ ?_ | refine xd ?_ ?_ | refine xy ?_ ?_ | refine xL ?_ ?_ | refine xD ?_ ?_ | apply xx); omega | apply Xm | apply Xe | refine Xg (by assumption) ?_) | refine Xo (by assumption) ?_ | refine Or.inl ⟨rfl, ?_⟩ | (split <;> (first | (rename_i u h; clear u) | rename_i h) <;> (try rewrite [h]) <;> (first | replace h := dt h | replace h := df h | replace h := Nt h | replace h := Nf h | skip)))
    all_goals try omega
    · conv => whnf
      have hin : inOps s ops1 = true := List.any_eq_true.2 ⟨_, List.getElem_mem hil, by rw [decide_eq_true_eq]; exact h.symm⟩
      exact congrArg (AV.int .i64) (by simp [partsZ, opParts, h0,  hin])
    · refine ⟨[0], ops1.length - (i + 1), rfl, by omega, i + 1, q, hq, by omega, rfl, ?_, rfl⟩
      rcases ha' with e | e
      · exact absurd e.symm h
      · exact e
  rw [List.take_of_length_le (by omega)] at ha
  have hi3 : i = 10 := by omega
  subst hi3
  repeat' ((conv => whnf); first | (with_reducible first | apply Xa | (first | apply xi | apply xu | apply x8 | apply x3 | apply xn | apply xp | apply xP | refine xs ?_ ?_ | refine xS ?_ ?_ | refine xZ ?_ ?_ | refine xl ?_ ?_ | refine xd ?_ ?_ | refine xy ?_ ?_ | refine xL ?_ ?_ | refine xD ?_ ?_ | apply xx); omega | apply Xm | apply Xe | refine Xg (by assumption) ?_) | refine Xo (by assumption) ?_ | refine Or.inl ⟨rfl, ?_⟩ | (split <;> (first | (rename_i u h; clear u) | rename_i h) <;> (try rewrite [h]) <;> (first | replace h := dt h | replace h := df h | replace h := Nt h | replace h := Nf h | skip)))
  all_goals try omega
  have h1 := ha
  refine ⟨[0, 29, 30, 31], [1], fun m st => ∃ i q : Nat, q = 6 ∧ i ≤ ops2.length ∧ m = ops2.length - i ∧ inOps s (ops2.take i) = false ∧ st = ⟨[(0, .str s), (29, .own 0 0 6), (30, .int .i64 (q : Nat)), (31, .int .i64 (i : Nat))], [.row false 9 1 (rowS ops2)]⟩, rfl, ⟨ops2.length, 0, 6, rfl, by decide, rfl, rfl, rfl⟩, ?_⟩
  rintro m _ ⟨i, q, hq, hi, hm, ha, rfl⟩
  have hL : ops2.length = 6 := rfl
  rcases Nat.lt_or_ge i ops2.length with hil | hge
  · have g : (rowS ops2)[0 + i]? = some [.str ops2[i]] := by rw [Nat.zero_add]; exact rowS_get hil
    have ha' : s = ops2[i] ∨ inOps s (ops2.take (i + 1)) = false := by
      rw [List.take_succ_eq_append_getElem hil]
      by_cases e : s = ops2[i]
      · exact .inl e
      · right; simp only [inOps, List.any_append] at ha ⊢; rw [ha]; simp [e]
    repeat' ((conv => whnf); first | (with_reducible first | apply Xa | (first | apply xi | apply xu | apply x8 | apply x3 | apply xn | apply xp | apply xP | refine xs ?_ ?_ | refine xS ?_ ?_ | refine xZ ?_ ?_ | refine xl ?_ ?_ | refine xd ?_ ?_ | refine xy ?_ ?_ | refine xL ?_ ?_ | refine xD ?_ ?_ | apply xx); omega | apply Xm | apply Xe | refine Xg (by assumption) ?_) | refine Xo (by assumption) ?_ | refine Or.inl ⟨rfl, ?_⟩ | (split <;> (first | (rename_i u h; clear u) | rename_i h) <;> (try rewrite [h]) <;> (first | replace h := dt h | replace h := df h | replace h := Nt h | replace h := Nf h | skip)))
    all_goals try omega
    · conv => whnf
      have hin : inOps s ops2 = true := List.any_eq_true.2 ⟨_, List.getElem_mem hil, by rw [decide_eq_true_eq]; exact h.symm⟩
      exact congrArg (AV.int .i64) (by simp [partsZ, opParts, h0, h1,  hin])
    · refine ⟨[0], ops2.length - (i + 1), rfl, by omega, i + 1, q, hq, by omega, rfl, ?_, rfl⟩
      rcases ha' with e | e
      · exact absurd e.symm h
      · exact e
  rw [List.take_of_length_le (by omega)] at ha
  have hi3 : i = 6 := by omega
  subst hi3
  repeat' ((conv => whnf); first | (with_reducible first | apply Xa | (first | apply xi | apply xu | apply x8 | apply x3 | apply xn | apply xp | apply xP | refine xs ?_ ?_ | refine xS ?_ ?_ | refine xZ ?_ ?_ | refine xl ?_ ?_ | refine xd ?_ ?_ | refine xy ?_ ?_ | refine xL ?_ ?_ | refine xD ?_ ?_ | apply xx); omega | apply Xm | apply Xe | refine Xg (by assumption) ?_) | refine Xo (by assumption) ?_ | refine Or.inl ⟨rfl, ?_⟩ | (split <;> (first | (rename_i u h; clear u) | rename_i h) <;> (try rewrite [h]) <;> (first | replace h := dt h | replace h := df h | replace h := Nt h | replace h := Nf h | skip)))
  all_goals try omega
  conv => whnf
  exact congrArg (AV.int .i64) (by simp [partsZ, opParts, h0, h1, ha])
end Go.V
namespace Go.V
open Go.N
variable (gl : Gl)
def T_gbare : Tab := [(37, i37), (9, i9), (3, i3), (4, i4), (35, i35)]
theorem TOK_gbare : TOK Go.Proofs.Tryz.prog T_gbare := ⟨K37, ⟨K9, ⟨K3, ⟨K4, ⟨K35, trivial⟩⟩⟩⟩⟩
set_option maxHeartbeats 4000000 in
theorem c_gbare (x : Nd) (m : Nat) (hx : x.Sm) (hm : m ≤ 2) : VCall Go.Proofs.Tryz.prog gl 29 [.agg x.cells, .int .i64 (m : Nat)] (fun y => y = .bool (bareOK x m)) := by
  obtain ⟨op, a, b, name, shape, k, n, data⟩ := x
  have hname := c_lexName gl name (Nat.lt_of_le_of_lt hx.name (by decide))
  have hlen : (rowS data).length = data.length := rowS_length data
  simp only [bareOK]
  generalize isName name = nm at hname ⊢
  by_cases h1 : op = sParam
  · subst h1
    rw [show namedOp sParam = true from rfl, show decide (sParam = sScale) = false from rfl, show decide (sParam = sPower) = false from rfl, show decide (sParam = sConst) = false from rfl]
    refine vcall_of TOK_gbare HM Go.Proofs.Tryz.func29 rfl (by decide +kernel) (by decide +kernel) rfl ?_
    repeat' ((conv => whnf); first | ((with_reducible apply Xq); assumption) | (with_reducible first | apply Xa | (first | apply xi | apply xp | apply xP); omega | apply Xe | refine Xg (by assumption) ?_) | refine Xo (by assumption) ?_ | refine x_0 (by first | assumption | rfl) ?_ | refine x_1 (by first | assumption | rfl) ?_ | refine Or.inl ⟨rfl, ?_⟩ | (split <;> (first | (rename_i u h; clear u) | rename_i h) <;> (try rewrite [h]) <;> (first | replace h := dt h | replace h := df h | replace h := Nt h | replace h := Nf h | skip) <;> (try dsimp only at h) <;> (first | contradiction | (exfalso; omega) | skip)) | (refine Or.inl ⟨_, by assumption, ?_⟩; first | rintro _ rfl | skip))
    all_goals (conv => whnf)
    all_goals (clear hname hx)
    all_goals simp_all [one]
  by_cases h2 : op = sInput
  · subst h2
    rw [show namedOp sInput = true from rfl, show decide (sInput = sScale) = false from rfl, show decide (sInput = sPower) = false from rfl, show decide (sInput = sConst) = false from rfl]
    refine vcall_of TOK_gbare HM Go.Proofs.Tryz.func29 rfl (by decide +kernel) (by decide +kernel) rfl ?_
    repeat' ((conv => whnf); first | ((with_reducible apply Xq); assumption) | (with_reducible first | apply Xa | (first | apply xi | apply xp | apply xP); omega | apply Xe | refine Xg (by assumption) ?_) | refine Xo (by assumption) ?_ | refine x_0 (by first | assumption | rfl) ?_ | refine x_1 (by first | assumption | rfl) ?_ | refine Or.inl ⟨rfl, ?_⟩ | (split <;> (first | (rename_i u h; clear u) | rename_i h) <;> (try rewrite [h]) <;> (first | replace h := dt h | replace h := df h | replace h := Nt h | replace h := Nf h | skip) <;> (try dsimp only at h) <;> (first | contradiction | (exfalso; omega) | skip)) | (refine Or.inl ⟨_, by assumption, ?_⟩; first | rintro _ rfl | skip))
    all_goals (conv => whnf)
    all_goals (clear hname hx)
    all_goals simp_all [one]
  by_cases h3 : op = sScale
  · subst h3
    rw [show namedOp sScale = false from rfl, show decide (sScale = sScale) = true from rfl, show decide (sScale = sPower) = false from rfl, show decide (sScale = sConst) = false from rfl]
    refine vcall_of TOK_gbare HM Go.Proofs.Tryz.func29 rfl (by decide +kernel) (by decide +kernel) rfl ?_
    repeat' ((conv => whnf); first | ((with_reducible apply Xq); assumption) | (with_reducible first | apply Xa | (first | apply xi | apply xp | apply xP); omega | apply Xe | refine Xg (by assumption) ?_) | refine Xo (by assumption) ?_ | refine x_0 (by first | assumption | rfl) ?_ | refine x_1 (by first | assumption | rfl) ?_ | refine Or.inl ⟨rfl, ?_⟩ | (split <;> (first | (rename_i u h; clear u) | rename_i h) <;> (try rewrite [h]) <;> (first | replace h := dt h | replace h := df h | replace h := Nt h | replace h := Nf h | skip) <;> (try dsimp only at h) <;> (first | contradiction | (exfalso; omega) | skip)) | (refine Or.inl ⟨_, by assumption, ?_⟩; first | rintro _ rfl | skip))
    all_goals (conv => whnf)
    all_goals (clear hname hx)
    all_goals simp_all [one]
  by_cases h4 : op = sPower
  · subst h4
    rw [show namedOp sPower = false from rfl, show decide (sPower = sScale) = false from rfl, show decide (sPower = sPower) = true from rfl, show decide (sPower = sConst) = false from rfl]
    refine vcall_of TOK_gbare HM Go.Proofs.Tryz.func29 rfl (by decide +kernel) (by decide +kernel) rfl ?_
    repeat' ((conv => whnf); first | ((with_reducible apply Xq); assumption) | (with_reducible first | apply Xa | (first | apply xi | apply xp | apply xP); omega | apply Xe | refine Xg (by assumption) ?_) | refine Xo (by assumption) ?_ | refine x_0 (by first | assumption | rfl) ?_ | refine x_1 (by first | assumption | rfl) ?_ | refine Or.inl ⟨rfl, ?_⟩ | (split <;> (first | (rename_i u h; clear u) | rename_i h) <;> (try rewrite [h]) <;> (first | replace h := dt h | replace h := df h | replace h := Nt h | replace h := Nf h | skip) <;> (try dsimp only at h) <;> (first | contradiction | (exfalso; omega) | skip)) | (refine Or.inl ⟨_, by assumption, ?_⟩; first | rintro _ rfl | skip))
    all_goals (conv => whnf)
    all_goals (clear hname hx)
    all_goals simp_all [one]
  by_cases h5 : op = sConst
  · subst h5
    rw [show namedOp sConst = false from rfl, show decide (sConst = sScale) = false from rfl, show decide (sConst = sPower) = false from rfl, show decide (sConst = sConst) = true from rfl]
    refine vcall_of TOK_gbare HM Go.Proofs.Tryz.func29 rfl (by decide +kernel) (by decide +kernel) rfl ?_
    repeat' ((conv => whnf); first | ((with_reducible apply Xq); assumption) | (with_reducible first | apply Xa | (first | apply xi | apply xp | apply xP); omega | apply Xe | refine Xg (by assumption) ?_) | refine Xo (by assumption) ?_ | refine x_0 (by first | assumption | rfl) ?_ | refine x_1 (by first | assumption | rfl) ?_ | refine Or.inl ⟨rfl, ?_⟩ | (split <;> (first | (rename_i u h; clear u) | rename_i h) <;> (try rewrite [h]) <;> (first | replace h := dt h | replace h := df h | replace h := Nt h | replace h := Nf h | skip) <;> (try dsimp only at h) <;> (first | contradiction | (exfalso; omega) | skip)) | (refine Or.inl ⟨_, by assumption, ?_⟩; first | rintro _ rfl | skip))
    all_goals (conv => whnf)
    all_goals (clear hname hx)
    all_goals simp_all [one]
  rw [show namedOp op = false by rw [namedOp, decide_eq_false h1, decide_eq_false h2]; rfl, decide_eq_false h3, decide_eq_false h4, decide_eq_false h5]
  refine vcall_of TOK_gbare HM Go.Proofs.Tryz.func29 rfl (by decide +kernel) (by decide +kernel) rfl ?_
  repeat' ((conv => whnf); first | ((with_reducible apply Xq); assumption) | (with_reducible first | apply Xa | (first | apply xi | apply xp | apply xP); omega | apply Xe | refine Xg (by assumption) ?_) | refine Xo (by assumption) ?_ | refine x_0 (by first | assumption | rfl) ?_ | refine x_1 (by first | assumption | rfl) ?_ | refine Or.inl ⟨rfl, ?_⟩ | (split <;> (first | (rename_i u h; clear u) | rename_i h) <;> (try rewrite [h]) <;> (first | replace h := dt h | replace h := df h | replace h := Nt h | replace h := Nf h | skip) <;> (try dsimp only at h) <;> (first | contradiction | (exfalso; omega) | skip)) | (refine Or.inl ⟨_, by assumption, ?_⟩; first | rintro _ rfl | skip))
  all_goals (conv => whnf)
  all_goals (clear hname hx)
  all_goals simp_all [one]
end Go.V
namespace Go.V
open Go.N
set_option maxRecDepth 20000
def T_gof : Tab := [(37, i37), (9, i9), (27, i27), (35, i35), (3, i3), (4, i4)]
theorem TOK_gof : TOK Go.Proofs.Tryz.prog T_gof := ⟨K37, ⟨K9, ⟨K27, ⟨K35, ⟨K3, ⟨K4, trivial⟩⟩⟩⟩⟩⟩
def T_gof1 : Tab := [(9, i9), (4, i4)]
theorem TOK_gof1 : TOK Go.Proofs.Tryz.prog T_gof1 := ⟨K9, ⟨K4, trivial⟩⟩
theorem c_gof1 (s : ByteArray) (hs : s.size < 190000) : VCall Go.Proofs.Tryz.prog GL 46 [.str s] (fun x => x = .bool (!ratOK s)) := by
  have hr := c_RRight s hs
  refine vcall_of TOK_gof1 HM Go.Proofs.Tryz.func46 rfl (by decide +kernel) (by decide +kernel) rfl ?_
  repeat' ((conv => whnf); first | ((with_reducible apply Xq); assumption) | (with_reducible first | apply Xa | (first | apply xi | apply xp | apply xP); omega | apply Xe | refine Xg (by assumption) ?_) | refine Xo (by assumption) ?_ | refine x_0 (by first | assumption | rfl) ?_ | refine x_1 (by first | assumption | rfl) ?_ | refine Or.inl ⟨rfl, ?_⟩ | (split <;> (first | (rename_i u h; clear u) | rename_i h) <;> (try rewrite [h]) <;> (first | replace h := dt h | replace h := df h | replace h := Nt h | replace h := Nf h | skip) <;> (try dsimp only at h) <;> (first | contradiction | (exfalso; omega) | skip)) | (refine Or.inl ⟨_, by assumption, ?_⟩; first | rintro _ rfl | skip))
  conv => whnf
  rfl
set_option maxHeartbeats 4000000 in
theorem c_gof (x : Nd) (a b : List Int) (hx : x.Sm) (ha : a.length ≤ 1000) (hb : b.length ≤ 1000) :
    VCall Go.Proofs.Tryz.prog GL 30 [.agg x.cells, .ro 1 (rowZ a), .ro 1 (rowZ b)] (fun y => y = .tup [.ro 1 (rowZ (ofZ x a b).1), .bool (ofZ x a b).2]) := by
  obtain ⟨op, na, nb, name, shape, k, n, data⟩ := x
  have hsz := c_shape_Size GL shape (Nat.lt_of_le_of_lt hx.shape (by decide))
  have hsza := c_shape_Size GL a (by omega)
  have hsame := c_shape_Same GL a b (by omega) (by omega)
  have hrk := c_RRight k (Nat.lt_of_le_of_lt hx.k (by decide))
  have hcf := c_ContainsFuncS GL 46 data (fun d => !ratOK d) (Nat.lt_of_le_of_lt hx.data (by decide)) (fun d hd => c_gof1 d (Nat.lt_of_le_of_lt (hx.each d hd) (by decide)))
  have hla : (rowZ a).length = a.length := rowZ_length a
  have hlb : (rowZ b).length = b.length := rowZ_length b
  have hld : (rowS data).length = data.length := rowS_length data
  refine VCall.taken ?_
  rcases opc_cases op with ⟨o, rfl⟩ | hn
  · cases o
    case const =>
      rw [show ofZ ⟨Opc.str .const, na, nb, name, shape, k, n, data⟩ a b = (shape, decide ((data.length : Int) = sizeZ shape) && !(data.any fun d => !ratOK d)) from rfl]
      rw [← rowS_length]
      refine vcall_of TOK_gof HM Go.Proofs.Tryz.func30 rfl (by decide +kernel) (by decide +kernel) rfl ?_
      repeat' ((conv => whnf); first | ((with_reducible apply Xq); assumption) | (with_reducible first | apply Xa | (first | apply xi | apply xp | apply xP); omega | apply Xe | refine Xg (by assumption) ?_) | refine Xo (by assumption) ?_ | refine x_0 (by first | assumption | rfl) ?_ | refine x_1 (by first | assumption | rfl) ?_ | refine Or.inl ⟨rfl, ?_⟩ | (split <;> (first | (rename_i u h; clear u) | rename_i h) <;> (try rewrite [h]) <;> (first | replace h := dt h | replace h := df h | replace h := Nt h | replace h := Nf h | skip) <;> (try dsimp only at h) <;> (first | contradiction | (exfalso; omega) | skip)) | (refine Or.inl ⟨_, by assumption, ?_⟩; first | rintro _ rfl | skip))
      refine ⟨by decide +kernel, [0, 1, 0, 4, 12, 0, 32, 96, 252, 508, 1020, 2044, 4092, 8188, 16380, 8191, 65535], by decide +kernel, ?_⟩
      repeat' ((conv => whnf); first | ((with_reducible apply Xq); assumption) | (with_reducible first | apply Xa | (first | apply xi | apply xp | apply xP); omega | apply Xe | refine Xg (by assumption) ?_) | refine Xo (by assumption) ?_ | refine x_0 (by first | assumption | rfl) ?_ | refine x_1 (by first | assumption | rfl) ?_ | refine Or.inl ⟨rfl, ?_⟩ | (split <;> (first | (rename_i u h; clear u) | rename_i h) <;> (try rewrite [h]) <;> (first | replace h := dt h | replace h := df h | replace h := Nt h | replace h := Nf h | skip) <;> (try dsimp only at h) <;> (first | contradiction | (exfalso; omega) | skip)) | (refine Or.inl ⟨_, by assumption, ?_⟩; first | rintro _ rfl | skip))
      all_goals (conv => whnf)
      all_goals first | exact ⟨_, roTo2 rfl rfl, rfl⟩ | exact ⟨_, roTo2 ⟨1, rfl⟩ rfl, rfl⟩ | exact ⟨_, roTo2 rfl (congrArg AV.bool (by simp [h])), rfl⟩
    case add =>
      refine vcall_of TOK_gof HM Go.Proofs.Tryz.func30 rfl (by decide +kernel) (by decide +kernel) rfl ?_
      repeat' ((conv => whnf); first | ((with_reducible apply Xq); assumption) | (with_reducible first | apply Xa | (first | apply xi | apply xp | apply xP); omega | apply Xe | refine Xg (by assumption) ?_) | refine Xo (by assumption) ?_ | refine x_0 (by first | assumption | rfl) ?_ | refine x_1 (by first | assumption | rfl) ?_ | refine Or.inl ⟨rfl, ?_⟩ | (split <;> (first | (rename_i u h; clear u) | rename_i h) <;> (try rewrite [h]) <;> (first | replace h := dt h | replace h := df h | replace h := Nt h | replace h := Nf h | skip) <;> (try dsimp only at h) <;> (first | contradiction | (exfalso; omega) | skip)) | (refine Or.inl ⟨_, by assumption, ?_⟩; first | rintro _ rfl | skip))
      all_goals (conv => whnf)
      all_goals first | exact ⟨_, roTo2 rfl rfl, rfl⟩ | exact ⟨_, roTo2 ⟨1, rfl⟩ rfl, rfl⟩ | exact ⟨_, roTo2 rfl (congrArg AV.bool (by simp [h])), rfl⟩
    case sub =>
      refine vcall_of TOK_gof HM Go.Proofs.Tryz.func30 rfl (by decide +kernel) (by decide +kernel) rfl ?_
      repeat' ((conv => whnf); first | ((with_reducible apply Xq); assumption) | (with_reducible first | apply Xa | (first | apply xi | apply xp | apply xP); omega | apply Xe | refine Xg (by assumption) ?_) | refine Xo (by assumption) ?_ | refine x_0 (by first | assumption | rfl) ?_ | refine x_1 (by first | assumption | rfl) ?_ | refine Or.inl ⟨rfl, ?_⟩ | (split <;> (first | (rename_i u h; clear u) | rename_i h) <;> (try rewrite [h]) <;> (first | replace h := dt h | replace h := df h | replace h := Nt h | replace h := Nf h | skip) <;> (try dsimp only at h) <;> (first | contradiction | (exfalso; omega) | skip)) | (refine Or.inl ⟨_, by assumption, ?_⟩; first | rintro _ rfl | skip))
      all_goals (conv => whnf)
      all_goals first | exact ⟨_, roTo2 rfl rfl, rfl⟩ | exact ⟨_, roTo2 ⟨1, rfl⟩ rfl, rfl⟩ | exact ⟨_, roTo2 rfl (congrArg AV.bool (by simp [h])), rfl⟩
    case mul =>
      refine vcall_of TOK_gof HM Go.Proofs.Tryz.func30 rfl (by decide +kernel) (by decide +kernel) rfl ?_
      repeat' ((conv => whnf); first | ((with_reducible apply Xq); assumption) | (with_reducible first | apply Xa | (first | apply xi | apply xp | apply xP); omega | apply Xe | refine Xg (by assumption) ?_) | refine Xo (by assumption) ?_ | refine x_0 (by first | assumption | rfl) ?_ | refine x_1 (by first | assumption | rfl) ?_ | refine Or.inl ⟨rfl, ?_⟩ | (split <;> (first | (rename_i u h; clear u) | rename_i h) <;> (try rewrite [h]) <;> (first | replace h := dt h | replace h := df h | replace h := Nt h | replace h := Nf h | skip) <;> (try dsimp only at h) <;> (first | contradiction | (exfalso; omega) | skip)) | (refine Or.inl ⟨_, by assumption, ?_⟩; first | rintro _ rfl | skip))
      all_goals (conv => whnf)
      all_goals first | exact ⟨_, roTo2 rfl rfl, rfl⟩ | exact ⟨_, roTo2 ⟨1, rfl⟩ rfl, rfl⟩ | exact ⟨_, roTo2 rfl (congrArg AV.bool (by simp [h])), rfl⟩
    case max =>
      refine vcall_of TOK_gof HM Go.Proofs.Tryz.func30 rfl (by decide +kernel) (by decide +kernel) rfl ?_
      repeat' ((conv => whnf); first | ((with_reducible apply Xq); assumption) | (with_reducible first | apply Xa | (first | apply xi | apply xp | apply xP); omega | apply Xe | refine Xg (by assumption) ?_) | refine Xo (by assumption) ?_ | refine x_0 (by first | assumption | rfl) ?_ | refine x_1 (by first | assumption | rfl) ?_ | refine Or.inl ⟨rfl, ?_⟩ | (split <;> (first | (rename_i u h; clear u) | rename_i h) <;> (try rewrite [h]) <;> (first | replace h := dt h | replace h := df h | replace h := Nt h | replace h := Nf h | skip) <;> (try dsimp only at h) <;> (first | contradiction | (exfalso; omega) | skip)) | (refine Or.inl ⟨_, by assumption, ?_⟩; first | rintro _ rfl | skip))
      all_goals (conv => whnf)
      all_goals first | exact ⟨_, roTo2 rfl rfl, rfl⟩ | exact ⟨_, roTo2 ⟨1, rfl⟩ rfl, rfl⟩ | exact ⟨_, roTo2 rfl (congrArg AV.bool (by simp [h])), rfl⟩
    case above =>
      refine vcall_of TOK_gof HM Go.Proofs.Tryz.func30 rfl (by decide +kernel) (by decide +kernel) rfl ?_
      repeat' ((conv => whnf); first | ((with_reducible apply Xq); assumption) | (with_reducible first | apply Xa | (first | apply xi | apply xp | apply xP); omega | apply Xe | refine Xg (by assumption) ?_) | refine Xo (by assumption) ?_ | refine x_0 (by first | assumption | rfl) ?_ | refine x_1 (by first | assumption | rfl) ?_ | refine Or.inl ⟨rfl, ?_⟩ | (split <;> (first | (rename_i u h; clear u) | rename_i h) <;> (try rewrite [h]) <;> (first | replace h := dt h | replace h := df h | replace h := Nt h | replace h := Nf h | skip) <;> (try dsimp only at h) <;> (first | contradiction | (exfalso; omega) | skip)) | (refine Or.inl ⟨_, by assumption, ?_⟩; first | rintro _ rfl | skip))
      all_goals (conv => whnf)
      all_goals first | exact ⟨_, roTo2 rfl rfl, rfl⟩ | exact ⟨_, roTo2 ⟨1, rfl⟩ rfl, rfl⟩ | exact ⟨_, roTo2 rfl (congrArg AV.bool (by simp [h])), rfl⟩
    case relu =>
      refine vcall_of TOK_gof HM Go.Proofs.Tryz.func30 rfl (by decide +kernel) (by decide +kernel) rfl ?_
      repeat' ((conv => whnf); first | ((with_reducible apply Xq); assumption) | (with_reducible first | apply Xa | (first | apply xi | apply xp | apply xP); omega | apply Xe | refine Xg (by assumption) ?_) | refine Xo (by assumption) ?_ | refine x_0 (by first | assumption | rfl) ?_ | refine x_1 (by first | assumption | rfl) ?_ | refine Or.inl ⟨rfl, ?_⟩ | (split <;> (first | (rename_i u h; clear u) | rename_i h) <;> (try rewrite [h]) <;> (first | replace h := dt h | replace h := df h | replace h := Nt h | replace h := Nf h | skip) <;> (try dsimp only at h) <;> (first | contradiction | (exfalso; omega) | skip)) | (refine Or.inl ⟨_, by assumption, ?_⟩; first | rintro _ rfl | skip))
      all_goals (conv => whnf)
      all_goals first | exact ⟨_, roTo2 rfl rfl, rfl⟩ | exact ⟨_, roTo2 ⟨1, rfl⟩ rfl, rfl⟩ | exact ⟨_, roTo2 rfl (congrArg AV.bool (by simp [h])), rfl⟩
    case abs =>
      refine vcall_of TOK_gof HM Go.Proofs.Tryz.func30 rfl (by decide +kernel) (by decide +kernel) rfl ?_
      repeat' ((conv => whnf); first | ((with_reducible apply Xq); assumption) | (with_reducible first | apply Xa | (first | apply xi | apply xp | apply xP); omega | apply Xe | refine Xg (by assumption) ?_) | refine Xo (by assumption) ?_ | refine x_0 (by first | assumption | rfl) ?_ | refine x_1 (by first | assumption | rfl) ?_ | refine Or.inl ⟨rfl, ?_⟩ | (split <;> (first | (rename_i u h; clear u) | rename_i h) <;> (try rewrite [h]) <;> (first | replace h := dt h | replace h := df h | replace h := Nt h | replace h := Nf h | skip) <;> (try dsimp only at h) <;> (first | contradiction | (exfalso; omega) | skip)) | (refine Or.inl ⟨_, by assumption, ?_⟩; first | rintro _ rfl | skip))
      all_goals (conv => whnf)
      all_goals first | exact ⟨_, roTo2 rfl rfl, rfl⟩ | exact ⟨_, roTo2 ⟨1, rfl⟩ rfl, rfl⟩ | exact ⟨_, roTo2 rfl (congrArg AV.bool (by simp [h])), rfl⟩
    case step =>
      refine vcall_of TOK_gof HM Go.Proofs.Tryz.func30 rfl (by decide +kernel) (by decide +kernel) rfl ?_
      repeat' ((conv => whnf); first | ((with_reducible apply Xq); assumption) | (with_reducible first | apply Xa | (first | apply xi | apply xp | apply xP); omega | apply Xe | refine Xg (by assumption) ?_) | refine Xo (by assumption) ?_ | refine x_0 (by first | assumption | rfl) ?_ | refine x_1 (by first | assumption | rfl) ?_ | refine Or.inl ⟨rfl, ?_⟩ | (split <;> (first | (rename_i u h; clear u) | rename_i h) <;> (try rewrite [h]) <;> (first | replace h := dt h | replace h := df h | replace h := Nt h | replace h := Nf h | skip) <;> (try dsimp only at h) <;> (first | contradiction | (exfalso; omega) | skip)) | (refine Or.inl ⟨_, by assumption, ?_⟩; first | rintro _ rfl | skip))
      all_goals (conv => whnf)
      all_goals first | exact ⟨_, roTo2 rfl rfl, rfl⟩ | exact ⟨_, roTo2 ⟨1, rfl⟩ rfl, rfl⟩ | exact ⟨_, roTo2 rfl (congrArg AV.bool (by simp [h])), rfl⟩
    case sign =>
      refine vcall_of TOK_gof HM Go.Proofs.Tryz.func30 rfl (by decide +kernel) (by decide +kernel) rfl ?_
      repeat' ((conv => whnf); first | ((with_reducible apply Xq); assumption) | (with_reducible first | apply Xa | (first | apply xi | apply xp | apply xP); omega | apply Xe | refine Xg (by assumption) ?_) | refine Xo (by assumption) ?_ | refine x_0 (by first | assumption | rfl) ?_ | refine x_1 (by first | assumption | rfl) ?_ | refine Or.inl ⟨rfl, ?_⟩ | (split <;> (first | (rename_i u h; clear u) | rename_i h) <;> (try rewrite [h]) <;> (first | replace h := dt h | replace h := df h | replace h := Nt h | replace h := Nf h | skip) <;> (try dsimp only at h) <;> (first | contradiction | (exfalso; omega) | skip)) | (refine Or.inl ⟨_, by assumption, ?_⟩; first | rintro _ rfl | skip))
      all_goals (conv => whnf)
      all_goals first | exact ⟨_, roTo2 rfl rfl, rfl⟩ | exact ⟨_, roTo2 ⟨1, rfl⟩ rfl, rfl⟩ | exact ⟨_, roTo2 rfl (congrArg AV.bool (by simp [h])), rfl⟩
    case scale =>
      refine vcall_of TOK_gof HM Go.Proofs.Tryz.func30 rfl (by decide +kernel) (by decide +kernel) rfl ?_
      repeat' ((conv => whnf); first | ((with_reducible apply Xq); assumption) | (with_reducible first | apply Xa | (first | apply xi | apply xp | apply xP); omega | apply Xe | refine Xg (by assumption) ?_) | refine Xo (by assumption) ?_ | refine x_0 (by first | assumption | rfl) ?_ | refine x_1 (by first | assumption | rfl) ?_ | refine Or.inl ⟨rfl, ?_⟩ | (split <;> (first | (rename_i u h; clear u) | rename_i h) <;> (try rewrite [h]) <;> (first | replace h := dt h | replace h := df h | replace h := Nt h | replace h := Nf h | skip) <;> (try dsimp only at h) <;> (first | contradiction | (exfalso; omega) | skip)) | (refine Or.inl ⟨_, by assumption, ?_⟩; first | rintro _ rfl | skip))
      all_goals (conv => whnf)
      all_goals first | exact ⟨_, roTo2 rfl rfl, rfl⟩ | exact ⟨_, roTo2 ⟨1, rfl⟩ rfl, rfl⟩ | exact ⟨_, roTo2 rfl (congrArg AV.bool (by simp [h])), rfl⟩
    case sum =>
      refine vcall_of TOK_gof HM Go.Proofs.Tryz.func30 rfl (by decide +kernel) (by decide +kernel) rfl ?_
      repeat' ((conv => whnf); first | ((with_reducible apply Xq); assumption) | (with_reducible first | apply Xa | (first | apply xi | apply xp | apply xP); omega | apply Xe | refine Xg (by assumption) ?_) | refine Xo (by assumption) ?_ | refine x_0 (by first | assumption | rfl) ?_ | refine x_1 (by first | assumption | rfl) ?_ | refine Or.inl ⟨rfl, ?_⟩ | (split <;> (first | (rename_i u h; clear u) | rename_i h) <;> (try rewrite [h]) <;> (first | replace h := dt h | replace h := df h | replace h := Nt h | replace h := Nf h | skip) <;> (try dsimp only at h) <;> (first | contradiction | (exfalso; omega) | skip)) | (refine Or.inl ⟨_, by assumption, ?_⟩; first | rintro _ rfl | skip))
      all_goals (conv => whnf)
      all_goals first | exact ⟨_, roTo2 rfl rfl, rfl⟩ | exact ⟨_, roTo2 ⟨1, rfl⟩ rfl, rfl⟩ | exact ⟨_, roTo2 rfl (congrArg AV.bool (by simp [h])), rfl⟩
    case param =>
      refine vcall_of TOK_gof HM Go.Proofs.Tryz.func30 rfl (by decide +kernel) (by decide +kernel) rfl ?_
      repeat' ((conv => whnf); first | ((with_reducible apply Xq); assumption) | (with_reducible first | apply Xa | (first | apply xi | apply xp | apply xP); omega | apply Xe | refine Xg (by assumption) ?_) | refine Xo (by assumption) ?_ | refine x_0 (by first | assumption | rfl) ?_ | refine x_1 (by first | assumption | rfl) ?_ | refine Or.inl ⟨rfl, ?_⟩ | (split <;> (first | (rename_i u h; clear u) | rename_i h) <;> (try rewrite [h]) <;> (first | replace h := dt h | replace h := df h | replace h := Nt h | replace h := Nf h | skip) <;> (try dsimp only at h) <;> (first | contradiction | (exfalso; omega) | skip)) | (refine Or.inl ⟨_, by assumption, ?_⟩; first | rintro _ rfl | skip))
      all_goals (conv => whnf)
      all_goals first | exact ⟨_, roTo2 rfl rfl, rfl⟩ | exact ⟨_, roTo2 ⟨1, rfl⟩ rfl, rfl⟩ | exact ⟨_, roTo2 rfl (congrArg AV.bool (by simp [h])), rfl⟩
    case input =>
      refine vcall_of TOK_gof HM Go.Proofs.Tryz.func30 rfl (by decide +kernel) (by decide +kernel) rfl ?_
      repeat' ((conv => whnf); first | ((with_reducible apply Xq); assumption) | (with_reducible first | apply Xa | (first | apply xi | apply xp | apply xP); omega | apply Xe | refine Xg (by assumption) ?_) | refine Xo (by assumption) ?_ | refine x_0 (by first | assumption | rfl) ?_ | refine x_1 (by first | assumption | rfl) ?_ | refine Or.inl ⟨rfl, ?_⟩ | (split <;> (first | (rename_i u h; clear u) | rename_i h) <;> (try rewrite [h]) <;> (first | replace h := dt h | replace h := df h | replace h := Nt h | replace h := Nf h | skip) <;> (try dsimp only at h) <;> (first | contradiction | (exfalso; omega) | skip)) | (refine Or.inl ⟨_, by assumption, ?_⟩; first | rintro _ rfl | skip))
      all_goals (conv => whnf)
      all_goals first | exact ⟨_, roTo2 rfl rfl, rfl⟩ | exact ⟨_, roTo2 ⟨1, rfl⟩ rfl, rfl⟩ | exact ⟨_, roTo2 rfl (congrArg AV.bool (by simp [h])), rfl⟩
    case power =>
      rw [show ofZ ⟨Opc.str .power, na, nb, name, shape, k, n, data⟩ a b = (a, decide (0 ≤ n) && decide (n ≤ 6)) from rfl]
      refine vcall_of TOK_gof HM Go.Proofs.Tryz.func30 rfl (by decide +kernel) (by decide +kernel) rfl ?_
      repeat' ((conv => whnf); first | ((with_reducible apply Xq); assumption) | (with_reducible first | apply Xa | (first | apply xi | apply xp | apply xP); omega | apply Xe | refine Xg (by assumption) ?_) | refine Xo (by assumption) ?_ | refine x_0 (by first | assumption | rfl) ?_ | refine x_1 (by first | assumption | rfl) ?_ | refine Or.inl ⟨rfl, ?_⟩ | (split <;> (first | (rename_i u h; clear u) | rename_i h) <;> (try rewrite [h]) <;> (first | replace h := dt h | replace h := df h | replace h := Nt h | replace h := Nf h | skip) <;> (try dsimp only at h) <;> (first | contradiction | (exfalso; omega) | skip)) | (refine Or.inl ⟨_, by assumption, ?_⟩; first | rintro _ rfl | skip))
      refine ⟨by decide +kernel, [0, 0, 2, 6, 14, 30, 62, 126, 254, 31, 1023], by decide +kernel, ?_⟩
      repeat' ((conv => whnf); first | ((with_reducible apply Xq); assumption) | (with_reducible first | apply Xa | (first | apply xi | apply xp | apply xP); omega | apply Xe | refine Xg (by assumption) ?_) | refine Xo (by assumption) ?_ | refine x_0 (by first | assumption | rfl) ?_ | refine x_1 (by first | assumption | rfl) ?_ | refine Or.inl ⟨rfl, ?_⟩ | (split <;> (first | (rename_i u h; clear u) | rename_i h) <;> (try rewrite [h]) <;> (first | replace h := dt h | replace h := df h | replace h := Nt h | replace h := Nf h | skip) <;> (try dsimp only at h) <;> (first | contradiction | (exfalso; omega) | skip)) | (refine Or.inl ⟨_, by assumption, ?_⟩; first | rintro _ rfl | skip))
      all_goals (conv => whnf)
      all_goals first | exact ⟨_, roTo2 rfl rfl, rfl⟩ | exact ⟨_, roTo2 ⟨1, rfl⟩ rfl, rfl⟩ | exact ⟨_, roTo2 rfl (congrArg AV.bool (by simp [h])), rfl⟩
    case reshape =>
      refine vcall_of TOK_gof HM Go.Proofs.Tryz.func30 rfl (by decide +kernel) (by decide +kernel) rfl ?_
      repeat' ((conv => whnf); first | ((with_reducible apply Xq); assumption) | (with_reducible first | apply Xa | (first | apply xi | apply xp | apply xP); omega | apply Xe | refine Xg (by assumption) ?_) | refine Xo (by assumption) ?_ | refine x_0 (by first | assumption | rfl) ?_ | refine x_1 (by first | assumption | rfl) ?_ | refine Or.inl ⟨rfl, ?_⟩ | (split <;> (first | (rename_i u h; clear u) | rename_i h) <;> (try rewrite [h]) <;> (first | replace h := dt h | replace h := df h | replace h := Nt h | replace h := Nf h | skip) <;> (try dsimp only at h) <;> (first | contradiction | (exfalso; omega) | skip)) | (refine Or.inl ⟨_, by assumption, ?_⟩; first | rintro _ rfl | skip))
      refine ⟨by decide +kernel, [0, 1, 0, 4, 12, 0, 60, 124, 127, 511], by decide +kernel, ?_⟩
      repeat' ((conv => whnf); first | ((with_reducible apply Xq); assumption) | (with_reducible first | apply Xa | (first | apply xi | apply xp | apply xP); omega | apply Xe | refine Xg (by assumption) ?_) | refine Xo (by assumption) ?_ | refine x_0 (by first | assumption | rfl) ?_ | refine x_1 (by first | assumption | rfl) ?_ | refine Or.inl ⟨rfl, ?_⟩ | (split <;> (first | (rename_i u h; clear u) | rename_i h) <;> (try rewrite [h]) <;> (first | replace h := dt h | replace h := df h | replace h := Nt h | replace h := Nf h | skip) <;> (try dsimp only at h) <;> (first | contradiction | (exfalso; omega) | skip)) | (refine Or.inl ⟨_, by assumption, ?_⟩; first | rintro _ rfl | skip))
      all_goals (conv => whnf)
      all_goals first | exact ⟨_, roTo2 rfl rfl, rfl⟩ | exact ⟨_, roTo2 ⟨1, rfl⟩ rfl, rfl⟩ | exact ⟨_, roTo2 rfl (congrArg AV.bool (by simp [h])), rfl⟩
    case spread =>
      rw [show ofZ ⟨Opc.str .spread, na, nb, name, shape, k, n, data⟩ a b = (shape, decide ((a.length : Int) = 0)) from rfl]
      rw [← rowZ_length]
      refine vcall_of TOK_gof HM Go.Proofs.Tryz.func30 rfl (by decide +kernel) (by decide +kernel) rfl ?_
      repeat' ((conv => whnf); first | ((with_reducible apply Xq); assumption) | (with_reducible first | apply Xa | (first | apply xi | apply xp | apply xP); omega | apply Xe | refine Xg (by assumption) ?_) | refine Xo (by assumption) ?_ | refine x_0 (by first | assumption | rfl) ?_ | refine x_1 (by first | assumption | rfl) ?_ | refine Or.inl ⟨rfl, ?_⟩ | (split <;> (first | (rename_i u h; clear u) | rename_i h) <;> (try rewrite [h]) <;> (first | replace h := dt h | replace h := df h | replace h := Nt h | replace h := Nf h | skip) <;> (try dsimp only at h) <;> (first | contradiction | (exfalso; omega) | skip)) | (refine Or.inl ⟨_, by assumption, ?_⟩; first | rintro _ rfl | skip))
      all_goals (conv => whnf)
      all_goals first | exact ⟨_, roTo2 rfl rfl, rfl⟩ | exact ⟨_, roTo2 ⟨1, rfl⟩ rfl, rfl⟩ | exact ⟨_, roTo2 rfl (congrArg AV.bool (by simp [h])), rfl⟩
    case transpose =>
      by_cases h2 : a.length = 2
      · obtain ⟨p, q, rfl⟩ := two_of h2
        refine vcall_of TOK_gof HM Go.Proofs.Tryz.func30 rfl (by decide +kernel) (by decide +kernel) rfl ?_
        repeat' ((conv => whnf); first | ((with_reducible apply Xq); assumption) | (with_reducible first | apply Xa | (first | apply xi | apply xp | apply xP); omega | apply Xe | refine Xg (by assumption) ?_) | refine Xo (by assumption) ?_ | refine x_0 (by first | assumption | rfl) ?_ | refine x_1 (by first | assumption | rfl) ?_ | refine Or.inl ⟨rfl, ?_⟩ | (split <;> (first | (rename_i u h; clear u) | rename_i h) <;> (try rewrite [h]) <;> (first | replace h := dt h | replace h := df h | replace h := Nt h | replace h := Nf h | skip) <;> (try dsimp only at h) <;> (first | contradiction | (exfalso; omega) | skip)) | (refine Or.inl ⟨_, by assumption, ?_⟩; first | rintro _ rfl | skip))
        refine ⟨by decide +kernel, [0, 1, 3, 0, 8, 24, 63, 127, 255], by decide +kernel, ?_⟩
        repeat' ((conv => whnf); first | ((with_reducible apply Xq); assumption) | (with_reducible first | apply Xa | (first | apply xi | apply xp | apply xP); omega | apply Xe | refine Xg (by assumption) ?_) | refine Xo (by assumption) ?_ | refine x_0 (by first | assumption | rfl) ?_ | refine x_1 (by first | assumption | rfl) ?_ | refine Or.inl ⟨rfl, ?_⟩ | (split <;> (first | (rename_i u h; clear u) | rename_i h) <;> (try rewrite [h]) <;> (first | replace h := dt h | replace h := df h | replace h := Nt h | replace h := Nf h | skip) <;> (try dsimp only at h) <;> (first | contradiction | (exfalso; omega) | skip)) | (refine Or.inl ⟨_, by assumption, ?_⟩; first | rintro _ rfl | skip))
        all_goals (conv => whnf)
        all_goals first | exact ⟨_, roTo2 rfl rfl, rfl⟩ | exact ⟨_, roTo2 ⟨1, rfl⟩ rfl, rfl⟩ | exact ⟨_, roTo2 rfl (congrArg AV.bool (by simp [h])), rfl⟩
      · rw [show ofZ ⟨Opc.str .transpose, na, nb, name, shape, k, n, data⟩ a b = _ from transpose_not h2]
        refine vcall_of TOK_gof HM Go.Proofs.Tryz.func30 rfl (by decide +kernel) (by decide +kernel) rfl ?_
        repeat' ((conv => whnf); first | ((with_reducible apply Xq); assumption) | (with_reducible first | apply Xa | (first | apply xi | apply xp | apply xP); omega | apply Xe | refine Xg (by assumption) ?_) | refine Xo (by assumption) ?_ | refine x_0 (by first | assumption | rfl) ?_ | refine x_1 (by first | assumption | rfl) ?_ | refine Or.inl ⟨rfl, ?_⟩ | (split <;> (first | (rename_i u h; clear u) | rename_i h) <;> (try rewrite [h]) <;> (first | replace h := dt h | replace h := df h | replace h := Nt h | replace h := Nf h | skip) <;> (try dsimp only at h) <;> (first | contradiction | (exfalso; omega) | skip)) | (refine Or.inl ⟨_, by assumption, ?_⟩; first | rintro _ rfl | skip))
        all_goals (conv => whnf)
        all_goals first | exact ⟨_, roTo2 rfl rfl, rfl⟩ | exact ⟨_, roTo2 ⟨1, rfl⟩ rfl, rfl⟩ | exact ⟨_, roTo2 rfl (congrArg AV.bool (by simp [h])), rfl⟩
    case matmul =>
      by_cases h2 : a.length = 2 ∧ b.length = 2
      · obtain ⟨ha2, hb2⟩ := h2
        obtain ⟨p, q, rfl⟩ := two_of ha2
        obtain ⟨r, s, rfl⟩ := two_of hb2
        by_cases hqr : q = r
        · rw [show ofZ ⟨Opc.str .matmul, na, nb, name, shape, k, n, data⟩ [p, q] [r, s] = ([p, s], true) from if_pos hqr]
          refine vcall_of TOK_gof HM Go.Proofs.Tryz.func30 rfl (by decide +kernel) (by decide +kernel) rfl ?_
          repeat' ((conv => whnf); first | ((with_reducible apply Xq); assumption) | (with_reducible first | apply Xa | (first | apply xi | apply xp | apply xP); omega | apply Xe | refine Xg (by assumption) ?_) | refine Xo (by assumption) ?_ | refine x_0 (by first | assumption | rfl) ?_ | refine x_1 (by first | assumption | rfl) ?_ | refine Or.inl ⟨rfl, ?_⟩ | (split <;> (first | (rename_i u h; clear u) | rename_i h) <;> (try rewrite [h]) <;> (first | replace h := dt h | replace h := df h | replace h := Nt h | replace h := Nf h | skip) <;> (try dsimp only at h) <;> (first | contradiction | (exfalso; omega) | skip)) | (refine Or.inl ⟨_, by assumption, ?_⟩; first | rintro _ rfl | skip))
          refine ⟨by decide +kernel, [0, 1, 3, 7, 15, 31, 63, 127, 255, 511, 1023, 2047, 511, 4607, 12799, 32767, 65535], by decide +kernel, ?_⟩
          repeat' ((conv => whnf); first | ((with_reducible apply Xq); assumption) | (with_reducible first | apply Xa | (first | apply xi | apply xp | apply xP); omega | apply Xe | refine Xg (by assumption) ?_) | refine Xo (by assumption) ?_ | refine x_0 (by first | assumption | rfl) ?_ | refine x_1 (by first | assumption | rfl) ?_ | refine Or.inl ⟨rfl, ?_⟩ | (split <;> (first | (rename_i u h; clear u) | rename_i h) <;> (try rewrite [h]) <;> (first | replace h := dt h | replace h := df h | replace h := Nt h | replace h := Nf h | skip) <;> (try dsimp only at h) <;> (first | contradiction | (exfalso; omega) | skip)) | (refine Or.inl ⟨_, by assumption, ?_⟩; first | rintro _ rfl | skip))
          refine ⟨by decide +kernel, [0, 1, 3, 0, 8, 24, 63, 127, 255], by decide +kernel, ?_⟩
          repeat' ((conv => whnf); first | ((with_reducible apply Xq); assumption) | (with_reducible first | apply Xa | (first | apply xi | apply xp | apply xP); omega | apply Xe | refine Xg (by assumption) ?_) | refine Xo (by assumption) ?_ | refine x_0 (by first | assumption | rfl) ?_ | refine x_1 (by first | assumption | rfl) ?_ | refine Or.inl ⟨rfl, ?_⟩ | (split <;> (first | (rename_i u h; clear u) | rename_i h) <;> (try rewrite [h]) <;> (first | replace h := dt h | replace h := df h | replace h := Nt h | replace h := Nf h | skip) <;> (try dsimp only at h) <;> (first | contradiction | (exfalso; omega) | skip)) | (refine Or.inl ⟨_, by assumption, ?_⟩; first | rintro _ rfl | skip))
          all_goals (conv => whnf)
          all_goals first | exact ⟨_, roTo2 rfl rfl, rfl⟩ | exact ⟨_, roTo2 ⟨1, rfl⟩ rfl, rfl⟩ | exact ⟨_, roTo2 rfl (congrArg AV.bool (by simp [h])), rfl⟩
        · rw [show ofZ ⟨Opc.str .matmul, na, nb, name, shape, k, n, data⟩ [p, q] [r, s] = ([], false) from if_neg hqr]
          refine vcall_of TOK_gof HM Go.Proofs.Tryz.func30 rfl (by decide +kernel) (by decide +kernel) rfl ?_
          repeat' ((conv => whnf); first | ((with_reducible apply Xq); assumption) | (with_reducible first | apply Xa | (first | apply xi | apply xp | apply xP); omega | apply Xe | refine Xg (by assumption) ?_) | refine Xo (by assumption) ?_ | refine x_0 (by first | assumption | rfl) ?_ | refine x_1 (by first | assumption | rfl) ?_ | refine Or.inl ⟨rfl, ?_⟩ | (split <;> (first | (rename_i u h; clear u) | rename_i h) <;> (try rewrite [h]) <;> (first | replace h := dt h | replace h := df h | replace h := Nt h | replace h := Nf h | skip) <;> (try dsimp only at h) <;> (first | contradiction | (exfalso; omega) | skip)) | (refine Or.inl ⟨_, by assumption, ?_⟩; first | rintro _ rfl | skip))
          refine ⟨by decide +kernel, [0, 1, 3, 7, 15, 31, 63, 127, 255, 511, 1023, 2047, 511, 4607, 12799, 32767, 65535], by decide +kernel, ?_⟩
          repeat' ((conv => whnf); first | ((with_reducible apply Xq); assumption) | (with_reducible first | apply Xa | (first | apply xi | apply xp | apply xP); omega | apply Xe | refine Xg (by assumption) ?_) | refine Xo (by assumption) ?_ | refine x_0 (by first | assumption | rfl) ?_ | refine x_1 (by first | assumption | rfl) ?_ | refine Or.inl ⟨rfl, ?_⟩ | (split <;> (first | (rename_i u h; clear u) | rename_i h) <;> (try rewrite [h]) <;> (first | replace h := dt h | replace h := df h | replace h := Nt h | replace h := Nf h | skip) <;> (try dsimp only at h) <;> (first | contradiction | (exfalso; omega) | skip)) | (refine Or.inl ⟨_, by assumption, ?_⟩; first | rintro _ rfl | skip))
          all_goals (conv => whnf)
          all_goals first | exact ⟨_, roTo2 rfl rfl, rfl⟩ | exact ⟨_, roTo2 ⟨1, rfl⟩ rfl, rfl⟩ | exact ⟨_, roTo2 rfl (congrArg AV.bool (by simp [h])), rfl⟩
      · rw [show ofZ ⟨Opc.str .matmul, na, nb, name, shape, k, n, data⟩ a b = _ from matmul_not fun h => h2 ⟨h.1, h.2.1⟩]
        refine vcall_of TOK_gof HM Go.Proofs.Tryz.func30 rfl (by decide +kernel) (by decide +kernel) rfl ?_
        repeat' ((conv => whnf); first | ((with_reducible apply Xq); assumption) | (with_reducible first | apply Xa | (first | apply xi | apply xp | apply xP); omega | apply Xe | refine Xg (by assumption) ?_) | refine Xo (by assumption) ?_ | refine x_0 (by first | assumption | rfl) ?_ | refine x_1 (by first | assumption | rfl) ?_ | refine Or.inl ⟨rfl, ?_⟩ | (split <;> (first | (rename_i u h; clear u) | rename_i h) <;> (try rewrite [h]) <;> (first | replace h := dt h | replace h := df h | replace h := Nt h | replace h := Nf h | skip) <;> (try dsimp only at h) <;> (first | contradiction | (exfalso; omega) | skip)) | (refine Or.inl ⟨_, by assumption, ?_⟩; first | rintro _ rfl | skip))
        refine ⟨by decide +kernel, [0, 1, 3, 7, 15, 31, 63, 127, 255, 511, 1023, 2047, 511, 4607, 12799, 32767, 65535], by decide +kernel, ?_⟩
        repeat' ((conv => whnf); first | ((with_reducible apply Xq); assumption) | (with_reducible first | apply Xa | (first | apply xi | apply xp | apply xP); omega | apply Xe | refine Xg (by assumption) ?_) | refine Xo (by assumption) ?_ | refine x_0 (by first | assumption | rfl) ?_ | refine x_1 (by first | assumption | rfl) ?_ | refine Or.inl ⟨rfl, ?_⟩ | (split <;> (first | (rename_i u h; clear u) | rename_i h) <;> (try rewrite [h]) <;> (first | replace h := dt h | replace h := df h | replace h := Nt h | replace h := Nf h | skip) <;> (try dsimp only at h) <;> (first | contradiction | (exfalso; omega) | skip)) | (refine Or.inl ⟨_, by assumption, ?_⟩; first | rintro _ rfl | skip))
        all_goals (conv => whnf)
        all_goals first | exact ⟨_, roTo2 rfl rfl, rfl⟩ | exact ⟨_, roTo2 ⟨1, rfl⟩ rfl, rfl⟩ | exact ⟨_, roTo2 rfl (congrArg AV.bool (by simp [h])), rfl⟩
  · rw [ofZ_none hn]
    have kk := opc_none hn
    have k0 : ¬ op = sConst := kk .const
    have k1 : ¬ op = sAdd := kk .add
    have k2 : ¬ op = sSub := kk .sub
    have k3 : ¬ op = sMul := kk .mul
    have k4 : ¬ op = sMax := kk .max
    have k5 : ¬ op = sAbove := kk .above
    have k6 : ¬ op = sMatmul := kk .matmul
    have k7 : ¬ op = sRelu := kk .relu
    have k8 : ¬ op = sAbs := kk .abs
    have k9 : ¬ op = sStep := kk .step
    have k10 : ¬ op = sSign := kk .sign
    have k11 : ¬ op = sScale := kk .scale
    have k12 : ¬ op = sPower := kk .power
    have k13 : ¬ op = sTranspose := kk .transpose
    have k14 : ¬ op = sSum := kk .sum
    have k15 : ¬ op = sReshape := kk .reshape
    have k16 : ¬ op = sSpread := kk .spread
    refine vcall_of TOK_gof HM Go.Proofs.Tryz.func30 rfl (by decide +kernel) (by decide +kernel) rfl ?_
    repeat' ((conv => whnf); first | ((with_reducible apply Xq); assumption) | (with_reducible first | apply Xa | (first | apply xi | apply xp | apply xP); omega | apply Xe | refine Xg (by assumption) ?_) | refine Xo (by assumption) ?_ | refine x_0 (by first | assumption | rfl) ?_ | refine x_1 (by first | assumption | rfl) ?_ | refine Or.inl ⟨rfl, ?_⟩ | (split <;> (first | (rename_i u h; clear u) | rename_i h) <;> (try rewrite [h]) <;> (first | replace h := dt h | replace h := df h | replace h := Nt h | replace h := Nf h | skip) <;> (try dsimp only at h) <;> (first | contradiction | (exfalso; omega) | skip)) | (refine Or.inl ⟨_, by assumption, ?_⟩; first | rintro _ rfl | skip))
    all_goals (conv => whnf)
    all_goals first | exact ⟨_, roTo2 rfl rfl, rfl⟩ | exact ⟨_, roTo2 ⟨1, rfl⟩ rfl, rfl⟩ | exact ⟨_, roTo2 rfl (congrArg AV.bool (by simp [h])), rfl⟩
end Go.V
