/-
  Lemmas (part 3) for: CseMerges, CsePlaces and CseNone: merging equal nodes of any graph answers as the document says, for every input; no condition.
-/
import Derived.Test.YtfmmaiebblhhdaaGreatDoorCse2
set_option linter.all false
namespace Go.V
open Go.N
variable (gl : Gl)
def Top (V : Nat) (ds : List Nat) : Prop := V = 0 → ∃ l x, ds = l ++ [x] ∧ x ≠ 0
def T_text : Tab := [(143, i143), (111, i111), (3, i3), (85, i85), (5, i5), (61, i61), (9, i9)]
theorem TOK_text : TOK Go.Proofs.Tryz.prog T_text := ⟨K143, ⟨K111, ⟨K3, ⟨K85, ⟨K5, ⟨K61, ⟨K9, trivial⟩⟩⟩⟩⟩⟩⟩
set_option maxHeartbeats 2000000 in
theorem c_text (n : Nat) (hn : (dec n).length < 1000000) : VCall Go.Proofs.Tryz.prog gl 114 [.ro 1 (limbs (lim n))] (fun x => x = .str (decB n)) := by
  refine vcall_of TOK_text HM Go.Proofs.Tryz.func114 rfl (by decide +kernel) (by decide +kernel) rfl ?_
  have hlen : (limbs (lim n)).length = (lim n).length := limbs_length _
  have hn0 := lim_len_zero n
  repeat' ((conv => whnf); first | (with_reducible first | apply Xa | (first | apply xi | apply xu | apply x8 | apply x3 | apply xn | apply xp | apply xP | refine xs ?_ ?_ | refine xS ?_ ?_ | refine xZ ?_ ?_ | refine xl ?_ ?_ | refine xd ?_ ?_ | refine xy ?_ ?_ | refine xL ?_ ?_ | refine xD ?_ ?_ | apply xx); omega | apply Xm | apply Xe) | refine Xo (by assumption) ?_ | refine Or.inl ⟨rfl, ?_⟩ | (split <;> (first | (rename_i u h; clear u) | rename_i h) <;> (try rewrite [h]) <;> (first | replace h := dt h | replace h := df h | replace h := Nt h | replace h := Nf h | skip)))
  · conv => whnf
    have e : n = 0 := by omega
    subst e
    rw [← zero_decB]; rfl
  · conv => whnf
    have hn1 : n ≠ 0 := fun e => h (by omega)
    refine ⟨[0, 3], [], fun k st => ∃ (A : Nat) (ds : List Nat), k = A ∧ (∀ x ∈ ds, x < 10) ∧ n = lsum ds + 10 ^ ds.length * A ∧ Top A ds ∧
      ((ds = [] ∧ A = n ∧ st = ⟨[(0, .ro 1 (limbs (lim A))), (3, .nils)], []⟩) ∨
       st = ⟨[(0, .own 0 0 (limbs (lim A)).length), (3, .own 1 0 (byts (ds.map (48 + ·))).length)], [.row false 111 1 (limbs (lim A)), .row false 5 1 (byts (ds.map (48 + ·)))]⟩), rfl,
      ⟨n, n, [], rfl, by simp, by simp [lsum], fun h => absurd h hn1, .inl ⟨rfl, rfl, rfl⟩⟩, ?_⟩
    rintro k _ ⟨A, ds, hk, hds, hnA, hlast, ⟨hd0, hAn, rfl⟩ | rfl⟩
    · have hlA : (limbs (lim A)).length = (lim A).length := limbs_length _
      have hA0 := lim_len_zero A
      have hA1 : A ≠ 0 := by omega
      have hll := lim_le_dec n
      repeat' ((conv => whnf); first | (with_reducible first | apply Xa | (first | apply xi | apply xu | apply x8 | apply x3 | apply xn | apply xp | apply xP | refine xs ?_ ?_ | refine xS ?_ ?_ | refine xZ ?_ ?_ | refine xl ?_ ?_ | refine xd ?_ ?_ | refine xy ?_ ?_ | refine xL ?_ ?_ | refine xD ?_ ?_ | apply xx); omega | apply Xm | apply Xe) | refine Xo (by assumption) ?_ | refine Or.inl ⟨rfl, ?_⟩ | (split <;> (first | (rename_i u h; clear u) | rename_i h) <;> (try rewrite [h]) <;> (first | replace h := dt h | replace h := df h | replace h := Nt h | replace h := Nf h | skip)))
      all_goals try omega
      conv => whnf
      refine .inl ⟨_, c_small gl (lim A) 1000000000 (lim_small A) (by rw [hAn]; omega) (by omega) (by omega), ?_⟩
      rintro _ ⟨q, rfl, rfl | ⟨hnil, _⟩⟩
      rotate_left
      · exact absurd (hA0.1 (by rw [hnil]; rfl)) hA1
      rw [lval_lim]
      obtain ⟨Q, hQ⟩ : ∃ Q, Q = A / 1000000000 := ⟨_, rfl⟩
      rw [← hQ]
      have hAQ : A = 1000000000 * Q + A % 1000000000 := by omega
      repeat' ((conv => whnf); first | (with_reducible first | apply Xa | (first | apply xi | apply xu | apply x8 | apply x3 | apply xn | apply xp | apply xP | refine xs ?_ ?_ | refine xS ?_ ?_ | refine xZ ?_ ?_ | refine xl ?_ ?_ | refine xd ?_ ?_ | refine xy ?_ ?_ | refine xL ?_ ?_ | refine xD ?_ ?_ | apply xx); omega | apply Xm | apply Xe) | refine Xo (by assumption) ?_ | refine Or.inl ⟨rfl, ?_⟩ | (split <;> (first | (rename_i u h; clear u) | rename_i h) <;> (try rewrite [h]) <;> (first | replace h := dt h | replace h := df h | replace h := Nt h | replace h := Nf h | skip)))
      conv => whnf
      refine ⟨[3, 4, 5, 6], [0], fun kk st => ∃ (k L : Nat) (ds : List Nat), k ≤ 9 ∧ kk = 9 - k ∧ L < 10 ^ (9 - k) ∧ (∀ x ∈ ds, x < 10) ∧ n = lsum ds + 10 ^ ds.length * (10 ^ (9 - k) * Q + L) ∧ Top (10 ^ (9 - k) * Q + L) ds ∧
        ((ds = [] ∧ k = 0 ∧ st = ⟨[(3, .nils), (4, .own 0 0 (limbs (lim Q)).length), (5, .int .u64 (L : Nat)), (6, .int .i64 (k : Nat))], [.row false 111 1 (limbs (lim Q))]⟩) ∨
         st = ⟨[(3, .own 1 0 (byts (ds.map (48 + ·))).length), (4, .own 0 0 (limbs (lim Q)).length), (5, .int .u64 (L : Nat)), (6, .int .i64 (k : Nat))], [.row false 111 1 (limbs (lim Q)), .row false 5 1 (byts (ds.map (48 + ·)))]⟩), rfl, ⟨9, 0, A % 1000000000, ds, by omega, rfl, by simp; omega, hds, (show n = lsum ds + 10 ^ ds.length * (1000000000 * Q + A % 1000000000) by rw [← hAQ]; exact hnA), fun h => absurd h (show ¬ 1000000000 * Q + A % 1000000000 = 0 by omega), .inl ⟨hd0, rfl, rfl⟩⟩, ?_⟩
      rintro kk _ ⟨k, L, ds', hk, hkk, hL, hds', hn', hz, ⟨hd0, hk0, rfl⟩ | rfl⟩
      · subst hd0
        have hlq : (limbs (lim Q)).length = (lim Q).length := limbs_length _
        have hq0 := lim_len_zero Q
        have hLb : L < 1000000000 := Nat.lt_of_lt_of_le hL (Nat.le_trans (Nat.pow_le_pow_right (by omega) (show 9 - k ≤ 9 by omega)) (by decide))
        rcases Nat.lt_or_ge k 9 with hk9 | hk9
        · have hp : 10 ^ (9 - k) = 10 * 10 ^ (9 - (k + 1)) := by rw [show 9 - k = (9 - (k + 1)) + 1 by omega, Nat.pow_succ, Nat.mul_comm]
          have hpp : 0 < 10 ^ (9 - (k + 1)) := Nat.pow_pos (by omega)
          have hsn : byts ((([] : List Nat) ++ [L % 10]).map (48 + ·)) = (byts ((([] : List Nat)).map (48 + ·))).take (byts ((([] : List Nat)).map (48 + ·))).length ++ [[.int .u8 (48 + ((L % 10 : Nat) : Int))]] := by
            rw [List.map_append, List.map_cons, List.map_nil]; exact byts_snoc' _ _ rfl
          have e : 10 ^ (9 - k) * Q + L = L % 10 + 10 * (10 ^ (9 - (k + 1)) * Q + L / 10) := by rw [hp, Nat.mul_assoc]; omega
          have hL10 : L / 10 < 10 ^ (9 - (k + 1)) := by omega
          have hn2 : n = lsum (([] : List Nat) ++ [L % 10]) + 10 ^ (([] : List Nat) ++ [L % 10]).length * (10 ^ (9 - (k + 1)) * Q + L / 10) := by
            rw [hn', e, Nat.mul_add, lsum_append, List.length_append]
            simp only [List.length_cons, List.length_nil, Nat.zero_add, Nat.pow_succ]
            rw [← Nat.mul_assoc]; omega
          have hds2 : ∀ x ∈ ([] : List Nat) ++ [L % 10], x < 10 := fun x hx => by
            rcases List.mem_append.1 hx with hx | hx
            · exact hds' x hx
            · simp at hx; omega
          have hlen10 : (([] : List Nat)).length ≤ (dec n).length ∨ (Q = 0 ∧ L = 0) := by
            rcases Nat.eq_zero_or_pos (10 ^ (9 - k) * Q + L) with h0 | h0
            · right
              have h1 : 10 ^ (9 - k) * Q = 0 := by omega
              rcases Nat.mul_eq_zero.1 h1 with h2 | h2
              · have := Nat.pow_pos (n := 9 - k) (show 0 < 10 by omega); omega
              · exact ⟨h2, by omega⟩
            · left
              have h1 : 10 ^ (([] : List Nat)).length * 1 ≤ 10 ^ (([] : List Nat)).length * (10 ^ (9 - k) * Q + L) := Nat.mul_le_mul_left _ h0
              have h2 : ¬ n < 10 ^ (([] : List Nat)).length := by omega
              rcases Nat.eq_zero_or_pos (([] : List Nat)).length with h3 | h3
              · omega
              · have := mt (dec_length_lt n (([] : List Nat)).length h3).1 h2
                omega
          have nz : 0 < Q ∨ 0 < L → Top (10 ^ (9 - (k + 1)) * Q + L / 10) (([] : List Nat) ++ [L % 10]) := fun hc h0 => by
            refine ⟨([] : List Nat), L % 10, rfl, ?_⟩
            rcases hc with hc | hc
            · have := Nat.mul_pos hpp hc; omega
            · omega
          rcases Nat.eq_zero_or_pos Q with hQ0 | hQ0
          · rcases Nat.eq_zero_or_pos L with hL0 | hL0
            · repeat' ((conv => whnf); first | (with_reducible first | apply Xa | (first | apply xi | apply xu | apply x8 | apply x3 | apply xn | apply xp | apply xP | refine xs ?_ ?_ | refine xS ?_ ?_ | refine xZ ?_ ?_ | refine xl ?_ ?_ | refine xd ?_ ?_ | refine xy ?_ ?_ | refine xL ?_ ?_ | refine xD ?_ ?_ | apply xx); omega | apply Xm | apply Xe) | refine Xo (by assumption) ?_ | refine Or.inl ⟨rfl, ?_⟩ | (split <;> (first | (rename_i u h; clear u) | rename_i h) <;> (try rewrite [h]) <;> (first | replace h := dt h | replace h := df h | replace h := Nt h | replace h := Nf h | skip)))
              all_goals try omega
              have hnQ : n = lsum (([] : List Nat)) + 10 ^ (([] : List Nat)).length * Q := by rw [hn', hQ0, hL0]; simp
              have hzQ : Top Q (([] : List Nat)) := fun _ => hz (by rw [hQ0, hL0]; simp)
              exfalso; simp [lsum] at hnQ; omega
            · repeat' ((conv => whnf); first | (with_reducible first | apply Xa | (first | apply xi | apply xu | apply x8 | apply x3 | apply xn | apply xp | apply xP | refine xs ?_ ?_ | refine xS ?_ ?_ | refine xZ ?_ ?_ | refine xl ?_ ?_ | refine xd ?_ ?_ | refine xy ?_ ?_ | refine xL ?_ ?_ | refine xD ?_ ?_ | apply xx); omega | apply Xm | apply Xe) | refine Xo (by assumption) ?_ | refine Or.inl ⟨rfl, ?_⟩ | (split <;> (first | (rename_i u h; clear u) | rename_i h) <;> (try rewrite [h]) <;> (first | replace h := dt h | replace h := df h | replace h := Nt h | replace h := Nf h | skip)))
              all_goals try omega
              refine ⟨by decide, _, rem64 L 10, ?_⟩
              repeat' ((conv => whnf); first | (with_reducible first | apply Xa | (first | apply xi | apply xu | apply x8 | apply x3 | apply xn | apply xp | apply xP | refine xs ?_ ?_ | refine xS ?_ ?_ | refine xZ ?_ ?_ | refine xl ?_ ?_ | refine xd ?_ ?_ | refine xy ?_ ?_ | refine xL ?_ ?_ | refine xD ?_ ?_ | apply xx); omega | apply Xm | apply Xe) | refine Xo (by assumption) ?_ | refine Or.inl ⟨rfl, ?_⟩ | (split <;> (first | (rename_i u h; clear u) | rename_i h) <;> (try rewrite [h]) <;> (first | replace h := dt h | replace h := df h | replace h := Nt h | replace h := Nf h | skip)))
              conv => whnf
              refine ⟨(show 1 * 1 ≤ 140737488355328 by decide), List.cons_ne_nil _ _, ?_⟩
              repeat' ((conv => whnf); first | (with_reducible first | apply Xa | (first | apply xi | apply xu | apply x8 | apply x3 | apply xn | apply xp | apply xP | refine xs ?_ ?_ | refine xS ?_ ?_ | refine xZ ?_ ?_ | refine xl ?_ ?_ | refine xd ?_ ?_ | refine xy ?_ ?_ | refine xL ?_ ?_ | refine xD ?_ ?_ | apply xx); omega | apply Xm | apply Xe) | refine Xo (by assumption) ?_ | refine Or.inl ⟨rfl, ?_⟩ | (split <;> (first | (rename_i u h; clear u) | rename_i h) <;> (try rewrite [h]) <;> (first | replace h := dt h | replace h := df h | replace h := Nt h | replace h := Nf h | skip)))
              refine ⟨by decide, _, quo64 L 10 (by omega), ?_⟩
              repeat' ((conv => whnf); first | (with_reducible first | apply Xa | (first | apply xi | apply xu | apply x8 | apply x3 | apply xn | apply xp | apply xP | refine xs ?_ ?_ | refine xS ?_ ?_ | refine xZ ?_ ?_ | refine xl ?_ ?_ | refine xd ?_ ?_ | refine xy ?_ ?_ | refine xL ?_ ?_ | refine xD ?_ ?_ | apply xx); omega | apply Xm | apply Xe) | refine Xo (by assumption) ?_ | refine Or.inl ⟨rfl, ?_⟩ | (split <;> (first | (rename_i u h; clear u) | rename_i h) <;> (try rewrite [h]) <;> (first | replace h := dt h | replace h := df h | replace h := Nt h | replace h := Nf h | skip)))
              exact ⟨[0, 2], 9 - (k + 1), rfl, by omega, k + 1, L / 10, ([] : List Nat) ++ [L % 10], by omega, rfl, hL10, hds2, hn2, nz (.inr hL0), .inr rfl⟩
          · repeat' ((conv => whnf); first | (with_reducible first | apply Xa | (first | apply xi | apply xu | apply x8 | apply x3 | apply xn | apply xp | apply xP | refine xs ?_ ?_ | refine xS ?_ ?_ | refine xZ ?_ ?_ | refine xl ?_ ?_ | refine xd ?_ ?_ | refine xy ?_ ?_ | refine xL ?_ ?_ | refine xD ?_ ?_ | apply xx); omega | apply Xm | apply Xe) | refine Xo (by assumption) ?_ | refine Or.inl ⟨rfl, ?_⟩ | (split <;> (first | (rename_i u h; clear u) | rename_i h) <;> (try rewrite [h]) <;> (first | replace h := dt h | replace h := df h | replace h := Nt h | replace h := Nf h | skip)))
            all_goals try omega
            refine ⟨by decide, _, rem64 L 10, ?_⟩
            repeat' ((conv => whnf); first | (with_reducible first | apply Xa | (first | apply xi | apply xu | apply x8 | apply x3 | apply xn | apply xp | apply xP | refine xs ?_ ?_ | refine xS ?_ ?_ | refine xZ ?_ ?_ | refine xl ?_ ?_ | refine xd ?_ ?_ | refine xy ?_ ?_ | refine xL ?_ ?_ | refine xD ?_ ?_ | apply xx); omega | apply Xm | apply Xe) | refine Xo (by assumption) ?_ | refine Or.inl ⟨rfl, ?_⟩ | (split <;> (first | (rename_i u h; clear u) | rename_i h) <;> (try rewrite [h]) <;> (first | replace h := dt h | replace h := df h | replace h := Nt h | replace h := Nf h | skip)))
            conv => whnf
            refine ⟨(show 1 * 1 ≤ 140737488355328 by decide), List.cons_ne_nil _ _, ?_⟩
            repeat' ((conv => whnf); first | (with_reducible first | apply Xa | (first | apply xi | apply xu | apply x8 | apply x3 | apply xn | apply xp | apply xP | refine xs ?_ ?_ | refine xS ?_ ?_ | refine xZ ?_ ?_ | refine xl ?_ ?_ | refine xd ?_ ?_ | refine xy ?_ ?_ | refine xL ?_ ?_ | refine xD ?_ ?_ | apply xx); omega | apply Xm | apply Xe) | refine Xo (by assumption) ?_ | refine Or.inl ⟨rfl, ?_⟩ | (split <;> (first | (rename_i u h; clear u) | rename_i h) <;> (try rewrite [h]) <;> (first | replace h := dt h | replace h := df h | replace h := Nt h | replace h := Nf h | skip)))
            refine ⟨by decide, _, quo64 L 10 (by omega), ?_⟩
            repeat' ((conv => whnf); first | (with_reducible first | apply Xa | (first | apply xi | apply xu | apply x8 | apply x3 | apply xn | apply xp | apply xP | refine xs ?_ ?_ | refine xS ?_ ?_ | refine xZ ?_ ?_ | refine xl ?_ ?_ | refine xd ?_ ?_ | refine xy ?_ ?_ | refine xL ?_ ?_ | refine xD ?_ ?_ | apply xx); omega | apply Xm | apply Xe) | refine Xo (by assumption) ?_ | refine Or.inl ⟨rfl, ?_⟩ | (split <;> (first | (rename_i u h; clear u) | rename_i h) <;> (try rewrite [h]) <;> (first | replace h := dt h | replace h := df h | replace h := Nt h | replace h := Nf h | skip)))
            exact ⟨[0, 2], 9 - (k + 1), rfl, by omega, k + 1, L / 10, ([] : List Nat) ++ [L % 10], by omega, rfl, hL10, hds2, hn2, nz (.inl hQ0), .inr rfl⟩
        · have hk9' : k = 9 := by omega
          have hL0 : L = 0 := by rw [hk9'] at hL; simp at hL; omega
          repeat' ((conv => whnf); first | (with_reducible first | apply Xa | (first | apply xi | apply xu | apply x8 | apply x3 | apply xn | apply xp | apply xP | refine xs ?_ ?_ | refine xS ?_ ?_ | refine xZ ?_ ?_ | refine xl ?_ ?_ | refine xd ?_ ?_ | refine xy ?_ ?_ | refine xL ?_ ?_ | refine xD ?_ ?_ | apply xx); omega | apply Xm | apply Xe) | refine Xo (by assumption) ?_ | refine Or.inl ⟨rfl, ?_⟩ | (split <;> (first | (rename_i u h; clear u) | rename_i h) <;> (try rewrite [h]) <;> (first | replace h := dt h | replace h := df h | replace h := Nt h | replace h := Nf h | skip)))
          all_goals try omega
          all_goals
            have hnQ : n = lsum (([] : List Nat)) + 10 ^ (([] : List Nat)).length * Q := by rw [hn', hk9', hL0]; simp
            have hzQ : Top Q (([] : List Nat)) := fun hh => hz (by rw [hh, hL0]; simp)
            exfalso; simp [lsum] at hnQ; omega
      · have hlq : (limbs (lim Q)).length = (lim Q).length := limbs_length _
        have hq0 := lim_len_zero Q
        have hLb : L < 1000000000 := Nat.lt_of_lt_of_le hL (Nat.le_trans (Nat.pow_le_pow_right (by omega) (show 9 - k ≤ 9 by omega)) (by decide))
        rcases Nat.lt_or_ge k 9 with hk9 | hk9
        · have hp : 10 ^ (9 - k) = 10 * 10 ^ (9 - (k + 1)) := by rw [show 9 - k = (9 - (k + 1)) + 1 by omega, Nat.pow_succ, Nat.mul_comm]
          have hpp : 0 < 10 ^ (9 - (k + 1)) := Nat.pow_pos (by omega)
          have hsn : byts ((ds' ++ [L % 10]).map (48 + ·)) = (byts ((ds').map (48 + ·))).take (byts ((ds').map (48 + ·))).length ++ [[.int .u8 (48 + ((L % 10 : Nat) : Int))]] := by
            rw [List.map_append, List.map_cons, List.map_nil]; exact byts_snoc' _ _ rfl
          have e : 10 ^ (9 - k) * Q + L = L % 10 + 10 * (10 ^ (9 - (k + 1)) * Q + L / 10) := by rw [hp, Nat.mul_assoc]; omega
          have hL10 : L / 10 < 10 ^ (9 - (k + 1)) := by omega
          have hn2 : n = lsum (ds' ++ [L % 10]) + 10 ^ (ds' ++ [L % 10]).length * (10 ^ (9 - (k + 1)) * Q + L / 10) := by
            rw [hn', e, Nat.mul_add, lsum_append, List.length_append]
            simp only [List.length_cons, List.length_nil, Nat.zero_add, Nat.pow_succ]
            rw [← Nat.mul_assoc]; omega
          have hds2 : ∀ x ∈ ds' ++ [L % 10], x < 10 := fun x hx => by
            rcases List.mem_append.1 hx with hx | hx
            · exact hds' x hx
            · simp at hx; omega
          have hlen10 : (ds').length ≤ (dec n).length ∨ (Q = 0 ∧ L = 0) := by
            rcases Nat.eq_zero_or_pos (10 ^ (9 - k) * Q + L) with h0 | h0
            · right
              have h1 : 10 ^ (9 - k) * Q = 0 := by omega
              rcases Nat.mul_eq_zero.1 h1 with h2 | h2
              · have := Nat.pow_pos (n := 9 - k) (show 0 < 10 by omega); omega
              · exact ⟨h2, by omega⟩
            · left
              have h1 : 10 ^ (ds').length * 1 ≤ 10 ^ (ds').length * (10 ^ (9 - k) * Q + L) := Nat.mul_le_mul_left _ h0
              have h2 : ¬ n < 10 ^ (ds').length := by omega
              rcases Nat.eq_zero_or_pos (ds').length with h3 | h3
              · omega
              · have := mt (dec_length_lt n (ds').length h3).1 h2
                omega
          have nz : 0 < Q ∨ 0 < L → Top (10 ^ (9 - (k + 1)) * Q + L / 10) (ds' ++ [L % 10]) := fun hc h0 => by
            refine ⟨ds', L % 10, rfl, ?_⟩
            rcases hc with hc | hc
            · have := Nat.mul_pos hpp hc; omega
            · omega
          rcases Nat.eq_zero_or_pos Q with hQ0 | hQ0
          · rcases Nat.eq_zero_or_pos L with hL0 | hL0
            · repeat' ((conv => whnf); first | (with_reducible first | apply Xa | (first | apply xi | apply xu | apply x8 | apply x3 | apply xn | apply xp | apply xP | refine xs ?_ ?_ | refine xS ?_ ?_ | refine xZ ?_ ?_ | refine xl ?_ ?_ | refine xd ?_ ?_ | refine xy ?_ ?_ | refine xL ?_ ?_ | refine xD ?_ ?_ | apply xx); omega | apply Xm | apply Xe) | refine Xo (by assumption) ?_ | refine Or.inl ⟨rfl, ?_⟩ | (split <;> (first | (rename_i u h; clear u) | rename_i h) <;> (try rewrite [h]) <;> (first | replace h := dt h | replace h := df h | replace h := Nt h | replace h := Nf h | skip)))
              all_goals try omega
              have hnQ : n = lsum (ds') + 10 ^ (ds').length * Q := by rw [hn', hQ0, hL0]; simp
              have hzQ : Top Q (ds') := fun _ => hz (by rw [hQ0, hL0]; simp)
              exact ⟨[0, 1], Q, rfl, by omega, Q, ds', rfl, hds', hnQ, hzQ, .inr rfl⟩
            · repeat' ((conv => whnf); first | (with_reducible first | apply Xa | (first | apply xi | apply xu | apply x8 | apply x3 | apply xn | apply xp | apply xP | refine xs ?_ ?_ | refine xS ?_ ?_ | refine xZ ?_ ?_ | refine xl ?_ ?_ | refine xd ?_ ?_ | refine xy ?_ ?_ | refine xL ?_ ?_ | refine xD ?_ ?_ | apply xx); omega | apply Xm | apply Xe) | refine Xo (by assumption) ?_ | refine Or.inl ⟨rfl, ?_⟩ | (split <;> (first | (rename_i u h; clear u) | rename_i h) <;> (try rewrite [h]) <;> (first | replace h := dt h | replace h := df h | replace h := Nt h | replace h := Nf h | skip)))
              all_goals try omega
              refine ⟨by decide, _, rem64 L 10, ?_⟩
              repeat' ((conv => whnf); first | (with_reducible first | apply Xa | (first | apply xi | apply xu | apply x8 | apply x3 | apply xn | apply xp | apply xP | refine xs ?_ ?_ | refine xS ?_ ?_ | refine xZ ?_ ?_ | refine xl ?_ ?_ | refine xd ?_ ?_ | refine xy ?_ ?_ | refine xL ?_ ?_ | refine xD ?_ ?_ | apply xx); omega | apply Xm | apply Xe) | refine Xo (by assumption) ?_ | refine Or.inl ⟨rfl, ?_⟩ | (split <;> (first | (rename_i u h; clear u) | rename_i h) <;> (try rewrite [h]) <;> (first | replace h := dt h | replace h := df h | replace h := Nt h | replace h := Nf h | skip)))
              conv => whnf
              refine ⟨Nat.le_refl _, (show ((byts (ds'.map (48 + ·))).length + 1) * 1 ≤ _ by simp; omega), _, hsn, ?_⟩
              repeat' ((conv => whnf); first | (with_reducible first | apply Xa | (first | apply xi | apply xu | apply x8 | apply x3 | apply xn | apply xp | apply xP | refine xs ?_ ?_ | refine xS ?_ ?_ | refine xZ ?_ ?_ | refine xl ?_ ?_ | refine xd ?_ ?_ | refine xy ?_ ?_ | refine xL ?_ ?_ | refine xD ?_ ?_ | apply xx); omega | apply Xm | apply Xe) | refine Xo (by assumption) ?_ | refine Or.inl ⟨rfl, ?_⟩ | (split <;> (first | (rename_i u h; clear u) | rename_i h) <;> (try rewrite [h]) <;> (first | replace h := dt h | replace h := df h | replace h := Nt h | replace h := Nf h | skip)))
              refine ⟨by decide, _, quo64 L 10 (by omega), ?_⟩
              repeat' ((conv => whnf); first | (with_reducible first | apply Xa | (first | apply xi | apply xu | apply x8 | apply x3 | apply xn | apply xp | apply xP | refine xs ?_ ?_ | refine xS ?_ ?_ | refine xZ ?_ ?_ | refine xl ?_ ?_ | refine xd ?_ ?_ | refine xy ?_ ?_ | refine xL ?_ ?_ | refine xD ?_ ?_ | apply xx); omega | apply Xm | apply Xe) | refine Xo (by assumption) ?_ | refine Or.inl ⟨rfl, ?_⟩ | (split <;> (first | (rename_i u h; clear u) | rename_i h) <;> (try rewrite [h]) <;> (first | replace h := dt h | replace h := df h | replace h := Nt h | replace h := Nf h | skip)))
              exact ⟨[0, 3], 9 - (k + 1), rfl, by omega, k + 1, L / 10, ds' ++ [L % 10], by omega, rfl, hL10, hds2, hn2, nz (.inr hL0), .inr rfl⟩
          · repeat' ((conv => whnf); first | (with_reducible first | apply Xa | (first | apply xi | apply xu | apply x8 | apply x3 | apply xn | apply xp | apply xP | refine xs ?_ ?_ | refine xS ?_ ?_ | refine xZ ?_ ?_ | refine xl ?_ ?_ | refine xd ?_ ?_ | refine xy ?_ ?_ | refine xL ?_ ?_ | refine xD ?_ ?_ | apply xx); omega | apply Xm | apply Xe) | refine Xo (by assumption) ?_ | refine Or.inl ⟨rfl, ?_⟩ | (split <;> (first | (rename_i u h; clear u) | rename_i h) <;> (try rewrite [h]) <;> (first | replace h := dt h | replace h := df h | replace h := Nt h | replace h := Nf h | skip)))
            all_goals try omega
            refine ⟨by decide, _, rem64 L 10, ?_⟩
            repeat' ((conv => whnf); first | (with_reducible first | apply Xa | (first | apply xi | apply xu | apply x8 | apply x3 | apply xn | apply xp | apply xP | refine xs ?_ ?_ | refine xS ?_ ?_ | refine xZ ?_ ?_ | refine xl ?_ ?_ | refine xd ?_ ?_ | refine xy ?_ ?_ | refine xL ?_ ?_ | refine xD ?_ ?_ | apply xx); omega | apply Xm | apply Xe) | refine Xo (by assumption) ?_ | refine Or.inl ⟨rfl, ?_⟩ | (split <;> (first | (rename_i u h; clear u) | rename_i h) <;> (try rewrite [h]) <;> (first | replace h := dt h | replace h := df h | replace h := Nt h | replace h := Nf h | skip)))
            conv => whnf
            refine ⟨Nat.le_refl _, (show ((byts (ds'.map (48 + ·))).length + 1) * 1 ≤ _ by simp; omega), _, hsn, ?_⟩
            repeat' ((conv => whnf); first | (with_reducible first | apply Xa | (first | apply xi | apply xu | apply x8 | apply x3 | apply xn | apply xp | apply xP | refine xs ?_ ?_ | refine xS ?_ ?_ | refine xZ ?_ ?_ | refine xl ?_ ?_ | refine xd ?_ ?_ | refine xy ?_ ?_ | refine xL ?_ ?_ | refine xD ?_ ?_ | apply xx); omega | apply Xm | apply Xe) | refine Xo (by assumption) ?_ | refine Or.inl ⟨rfl, ?_⟩ | (split <;> (first | (rename_i u h; clear u) | rename_i h) <;> (try rewrite [h]) <;> (first | replace h := dt h | replace h := df h | replace h := Nt h | replace h := Nf h | skip)))
            refine ⟨by decide, _, quo64 L 10 (by omega), ?_⟩
            repeat' ((conv => whnf); first | (with_reducible first | apply Xa | (first | apply xi | apply xu | apply x8 | apply x3 | apply xn | apply xp | apply xP | refine xs ?_ ?_ | refine xS ?_ ?_ | refine xZ ?_ ?_ | refine xl ?_ ?_ | refine xd ?_ ?_ | refine xy ?_ ?_ | refine xL ?_ ?_ | refine xD ?_ ?_ | apply xx); omega | apply Xm | apply Xe) | refine Xo (by assumption) ?_ | refine Or.inl ⟨rfl, ?_⟩ | (split <;> (first | (rename_i u h; clear u) | rename_i h) <;> (try rewrite [h]) <;> (first | replace h := dt h | replace h := df h | replace h := Nt h | replace h := Nf h | skip)))
            exact ⟨[0, 3], 9 - (k + 1), rfl, by omega, k + 1, L / 10, ds' ++ [L % 10], by omega, rfl, hL10, hds2, hn2, nz (.inl hQ0), .inr rfl⟩
        · have hk9' : k = 9 := by omega
          have hL0 : L = 0 := by rw [hk9'] at hL; simp at hL; omega
          repeat' ((conv => whnf); first | (with_reducible first | apply Xa | (first | apply xi | apply xu | apply x8 | apply x3 | apply xn | apply xp | apply xP | refine xs ?_ ?_ | refine xS ?_ ?_ | refine xZ ?_ ?_ | refine xl ?_ ?_ | refine xd ?_ ?_ | refine xy ?_ ?_ | refine xL ?_ ?_ | refine xD ?_ ?_ | apply xx); omega | apply Xm | apply Xe) | refine Xo (by assumption) ?_ | refine Or.inl ⟨rfl, ?_⟩ | (split <;> (first | (rename_i u h; clear u) | rename_i h) <;> (try rewrite [h]) <;> (first | replace h := dt h | replace h := df h | replace h := Nt h | replace h := Nf h | skip)))
          all_goals try omega
          all_goals
            have hnQ : n = lsum (ds') + 10 ^ (ds').length * Q := by rw [hn', hk9', hL0]; simp
            have hzQ : Top Q (ds') := fun hh => hz (by rw [hh, hL0]; simp)
            exact ⟨[0, 1], Q, rfl, by omega, Q, ds', rfl, hds', hnQ, hzQ, .inr rfl⟩
    · have hlA : (limbs (lim A)).length = (lim A).length := limbs_length _
      have hA0 := lim_len_zero A
      rcases Nat.eq_zero_or_pos A with hz0 | hpos
      · have hdl : ds.length ≤ (dec n).length := by
          obtain ⟨l, x, hlx, hx0⟩ := hlast hz0
          have h1 := lsum_last (l := l) hx0
          rw [← hlx] at h1
          have h2 : ¬ n < 10 ^ l.length := by omega
          rw [hlx, List.length_append]
          rcases Nat.eq_zero_or_pos l.length with h3 | h3
          · have := List.length_pos_iff.2 (dec_ne n); simp; omega
          · have := mt (dec_length_lt n l.length h3).1 h2
            simp; omega
        repeat' ((conv => whnf); first | (with_reducible first | apply Xa | (first | apply xi | apply xu | apply x8 | apply x3 | apply xn | apply xp | apply xP | refine xs ?_ ?_ | refine xS ?_ ?_ | refine xZ ?_ ?_ | refine xl ?_ ?_ | refine xd ?_ ?_ | refine xy ?_ ?_ | refine xL ?_ ?_ | refine xD ?_ ?_ | apply xx); omega | apply Xm | apply Xe) | refine Xo (by assumption) ?_ | refine Or.inl ⟨rfl, ?_⟩ | (split <;> (first | (rename_i u h; clear u) | rename_i h) <;> (try rewrite [h]) <;> (first | replace h := dt h | replace h := df h | replace h := Nt h | replace h := Nf h | skip)))
        all_goals try omega
        conv => whnf
        refine .inr ⟨[1], rfl, _, c_Reverse gl (ds.map (48 + ·)) (by simpa using Nat.lt_of_le_of_lt hdl (by omega)), ?_⟩
        rintro _ _ ⟨rfl, rfl⟩
        repeat' ((conv => whnf); first | (with_reducible first | apply Xa | (first | apply xi | apply xu | apply x8 | apply x3 | apply xn | apply xp | apply xP | refine xs ?_ ?_ | refine xS ?_ ?_ | refine xZ ?_ ?_ | refine xl ?_ ?_ | refine xd ?_ ?_ | refine xy ?_ ?_ | refine xL ?_ ?_ | refine xD ?_ ?_ | apply xx); omega | apply Xm | apply Xe) | refine Xo (by assumption) ?_ | refine Or.inl ⟨rfl, ?_⟩ | (split <;> (first | (rename_i u h; clear u) | rename_i h) <;> (try rewrite [h]) <;> (first | replace h := dt h | replace h := df h | replace h := Nt h | replace h := Nf h | skip)))
        conv => whnf
        have hes : List.take (byts (ds.map (48 + ·))).length (List.drop 0 (byts (ds.map (48 + ·)).reverse)) = (((ds.reverse).map (48 + ·)).map fun (x : Nat) => (x : Int)).map (fun b => [AV.int .u8 b]) := by
          rw [List.drop_zero, List.take_of_length_le (by simp), ← List.map_reverse, byts_str]
        refine ⟨_, hes, ?_⟩
        repeat' ((conv => whnf); first | (with_reducible first | apply Xa | (first | apply xi | apply xu | apply x8 | apply x3 | apply xn | apply xp | apply xP | refine xs ?_ ?_ | refine xS ?_ ?_ | refine xZ ?_ ?_ | refine xl ?_ ?_ | refine xd ?_ ?_ | refine xy ?_ ?_ | refine xL ?_ ?_ | refine xD ?_ ?_ | apply xx); omega | apply Xm | apply Xe) | refine Xo (by assumption) ?_ | refine Or.inl ⟨rfl, ?_⟩ | (split <;> (first | (rename_i u h; clear u) | rename_i h) <;> (try rewrite [h]) <;> (first | replace h := dt h | replace h := df h | replace h := Nt h | replace h := Nf h | skip)))
        conv => whnf
        refine congrArg AV.str (toList_inj ?_)
        rw [sN_digits _ (by simpa using hds), decB_toList, dec_of_digits hds (hlast hz0)]
        congr 1
        rw [hnA, hz0]; simp
      · have hA1 : A ≠ 0 := by omega
        have hAn : A ≤ n := by
          rw [hnA]
          have : 1 * A ≤ 10 ^ ds.length * A := Nat.mul_le_mul_right _ (Nat.pow_pos (by omega))
          omega
        have hll : (lim A).length ≤ (dec n).length := Nat.le_trans (lim_le_dec A) (dec_mono hAn)
        repeat' ((conv => whnf); first | (with_reducible first | apply Xa | (first | apply xi | apply xu | apply x8 | apply x3 | apply xn | apply xp | apply xP | refine xs ?_ ?_ | refine xS ?_ ?_ | refine xZ ?_ ?_ | refine xl ?_ ?_ | refine xd ?_ ?_ | refine xy ?_ ?_ | refine xL ?_ ?_ | refine xD ?_ ?_ | apply xx); omega | apply Xm | apply Xe) | refine Xo (by assumption) ?_ | refine Or.inl ⟨rfl, ?_⟩ | (split <;> (first | (rename_i u h; clear u) | rename_i h) <;> (try rewrite [h]) <;> (first | replace h := dt h | replace h := df h | replace h := Nt h | replace h := Nf h | skip)))
        all_goals try omega
        conv => whnf
        have hcall := c_small gl (lim A) 1000000000 (lim_small A) (by omega) (by omega) (by omega)
        rw [← List.take_length (l := limbs (lim A)), ← List.drop_zero (l := limbs (lim A))] at hcall
        refine .inl ⟨_, hcall, ?_⟩
        rintro _ ⟨q, rfl, rfl | ⟨hnil, _⟩⟩
        rotate_left
        · exact absurd (hA0.1 (by rw [hnil]; rfl)) hA1
        rw [lval_lim]
        obtain ⟨Q, hQ⟩ : ∃ Q, Q = A / 1000000000 := ⟨_, rfl⟩
        rw [← hQ]
        have hAQ : A = 1000000000 * Q + A % 1000000000 := by omega
        conv => whnf
        refine ⟨false, flat_tup2 (flat_limbs _) flat_int, ?_⟩
        repeat' ((conv => whnf); first | (with_reducible first | apply Xa | (first | apply xi | apply xu | apply x8 | apply x3 | apply xn | apply xp | apply xP | refine xs ?_ ?_ | refine xS ?_ ?_ | refine xZ ?_ ?_ | refine xl ?_ ?_ | refine xd ?_ ?_ | refine xy ?_ ?_ | refine xL ?_ ?_ | refine xD ?_ ?_ | apply xx); omega | apply Xm | apply Xe) | refine Xo (by assumption) ?_ | refine Or.inl ⟨rfl, ?_⟩ | (split <;> (first | (rename_i u h; clear u) | rename_i h) <;> (try rewrite [h]) <;> (first | replace h := dt h | replace h := df h | replace h := Nt h | replace h := Nf h | skip)))
        conv => whnf
        refine ⟨[3, 4, 5, 6], [2, 1], fun kk st => ∃ (k L : Nat) (ds : List Nat), k ≤ 9 ∧ kk = 9 - k ∧ L < 10 ^ (9 - k) ∧ (∀ x ∈ ds, x < 10) ∧ n = lsum ds + 10 ^ ds.length * (10 ^ (9 - k) * Q + L) ∧ Top (10 ^ (9 - k) * Q + L) ds ∧
          ((ds = [] ∧ k = 0 ∧ st = ⟨[(3, .nils), (4, .own 0 0 (limbs (lim Q)).length), (5, .int .u64 (L : Nat)), (6, .int .i64 (k : Nat))], [.row false 111 1 (limbs (lim Q))]⟩) ∨
           st = ⟨[(3, .own 1 0 (byts (ds.map (48 + ·))).length), (4, .own 0 0 (limbs (lim Q)).length), (5, .int .u64 (L : Nat)), (6, .int .i64 (k : Nat))], [.row false 111 1 (limbs (lim Q)), .row false 5 1 (byts (ds.map (48 + ·)))]⟩), rfl, ⟨9, 0, A % 1000000000, ds, by omega, rfl, by simp; omega, hds, (show n = lsum ds + 10 ^ ds.length * (1000000000 * Q + A % 1000000000) by rw [← hAQ]; exact hnA), fun h => absurd h (show ¬ 1000000000 * Q + A % 1000000000 = 0 by omega), .inr rfl⟩, ?_⟩
        rintro kk _ ⟨k, L, ds', hk, hkk, hL, hds', hn', hz, ⟨hd0, hk0, rfl⟩ | rfl⟩
        · subst hd0
          have hlq : (limbs (lim Q)).length = (lim Q).length := limbs_length _
          have hq0 := lim_len_zero Q
          have hLb : L < 1000000000 := Nat.lt_of_lt_of_le hL (Nat.le_trans (Nat.pow_le_pow_right (by omega) (show 9 - k ≤ 9 by omega)) (by decide))
          rcases Nat.lt_or_ge k 9 with hk9 | hk9
          · have hp : 10 ^ (9 - k) = 10 * 10 ^ (9 - (k + 1)) := by rw [show 9 - k = (9 - (k + 1)) + 1 by omega, Nat.pow_succ, Nat.mul_comm]
            have hpp : 0 < 10 ^ (9 - (k + 1)) := Nat.pow_pos (by omega)
            have hsn : byts ((([] : List Nat) ++ [L % 10]).map (48 + ·)) = (byts ((([] : List Nat)).map (48 + ·))).take (byts ((([] : List Nat)).map (48 + ·))).length ++ [[.int .u8 (48 + ((L % 10 : Nat) : Int))]] := by
              rw [List.map_append, List.map_cons, List.map_nil]; exact byts_snoc' _ _ rfl
            have e : 10 ^ (9 - k) * Q + L = L % 10 + 10 * (10 ^ (9 - (k + 1)) * Q + L / 10) := by rw [hp, Nat.mul_assoc]; omega
            have hL10 : L / 10 < 10 ^ (9 - (k + 1)) := by omega
            have hn2 : n = lsum (([] : List Nat) ++ [L % 10]) + 10 ^ (([] : List Nat) ++ [L % 10]).length * (10 ^ (9 - (k + 1)) * Q + L / 10) := by
              rw [hn', e, Nat.mul_add, lsum_append, List.length_append]
              simp only [List.length_cons, List.length_nil, Nat.zero_add, Nat.pow_succ]
              rw [← Nat.mul_assoc]; omega
            have hds2 : ∀ x ∈ ([] : List Nat) ++ [L % 10], x < 10 := fun x hx => by
              rcases List.mem_append.1 hx with hx | hx
              · exact hds' x hx
              · simp at hx; omega
            have hlen10 : (([] : List Nat)).length ≤ (dec n).length ∨ (Q = 0 ∧ L = 0) := by
              rcases Nat.eq_zero_or_pos (10 ^ (9 - k) * Q + L) with h0 | h0
              · right
                have h1 : 10 ^ (9 - k) * Q = 0 := by omega
                rcases Nat.mul_eq_zero.1 h1 with h2 | h2
                · have := Nat.pow_pos (n := 9 - k) (show 0 < 10 by omega); omega
                · exact ⟨h2, by omega⟩
              · left
                have h1 : 10 ^ (([] : List Nat)).length * 1 ≤ 10 ^ (([] : List Nat)).length * (10 ^ (9 - k) * Q + L) := Nat.mul_le_mul_left _ h0
                have h2 : ¬ n < 10 ^ (([] : List Nat)).length := by omega
                rcases Nat.eq_zero_or_pos (([] : List Nat)).length with h3 | h3
                · omega
                · have := mt (dec_length_lt n (([] : List Nat)).length h3).1 h2
                  omega
            have nz : 0 < Q ∨ 0 < L → Top (10 ^ (9 - (k + 1)) * Q + L / 10) (([] : List Nat) ++ [L % 10]) := fun hc h0 => by
              refine ⟨([] : List Nat), L % 10, rfl, ?_⟩
              rcases hc with hc | hc
              · have := Nat.mul_pos hpp hc; omega
              · omega
            rcases Nat.eq_zero_or_pos Q with hQ0 | hQ0
            · rcases Nat.eq_zero_or_pos L with hL0 | hL0
              · repeat' ((conv => whnf); first | (with_reducible first | apply Xa | (first | apply xi | apply xu | apply x8 | apply x3 | apply xn | apply xp | apply xP | refine xs ?_ ?_ | refine xS ?_ ?_ | refine xZ ?_ ?_ | refine xl ?_ ?_ | refine xd ?_ ?_ | refine xy ?_ ?_ | refine xL ?_ ?_ | refine xD ?_ ?_ | apply xx); omega | apply Xm | apply Xe) | refine Xo (by assumption) ?_ | refine Or.inl ⟨rfl, ?_⟩ | (split <;> (first | (rename_i u h; clear u) | rename_i h) <;> (try rewrite [h]) <;> (first | replace h := dt h | replace h := df h | replace h := Nt h | replace h := Nf h | skip)))
                all_goals try omega
                have hnQ : n = lsum (([] : List Nat)) + 10 ^ (([] : List Nat)).length * Q := by rw [hn', hQ0, hL0]; simp
                have hzQ : Top Q (([] : List Nat)) := fun _ => hz (by rw [hQ0, hL0]; simp)
                exfalso; simp [lsum] at hnQ; omega
              · repeat' ((conv => whnf); first | (with_reducible first | apply Xa | (first | apply xi | apply xu | apply x8 | apply x3 | apply xn | apply xp | apply xP | refine xs ?_ ?_ | refine xS ?_ ?_ | refine xZ ?_ ?_ | refine xl ?_ ?_ | refine xd ?_ ?_ | refine xy ?_ ?_ | refine xL ?_ ?_ | refine xD ?_ ?_ | apply xx); omega | apply Xm | apply Xe) | refine Xo (by assumption) ?_ | refine Or.inl ⟨rfl, ?_⟩ | (split <;> (first | (rename_i u h; clear u) | rename_i h) <;> (try rewrite [h]) <;> (first | replace h := dt h | replace h := df h | replace h := Nt h | replace h := Nf h | skip)))
                all_goals try omega
                refine ⟨by decide, _, rem64 L 10, ?_⟩
                repeat' ((conv => whnf); first | (with_reducible first | apply Xa | (first | apply xi | apply xu | apply x8 | apply x3 | apply xn | apply xp | apply xP | refine xs ?_ ?_ | refine xS ?_ ?_ | refine xZ ?_ ?_ | refine xl ?_ ?_ | refine xd ?_ ?_ | refine xy ?_ ?_ | refine xL ?_ ?_ | refine xD ?_ ?_ | apply xx); omega | apply Xm | apply Xe) | refine Xo (by assumption) ?_ | refine Or.inl ⟨rfl, ?_⟩ | (split <;> (first | (rename_i u h; clear u) | rename_i h) <;> (try rewrite [h]) <;> (first | replace h := dt h | replace h := df h | replace h := Nt h | replace h := Nf h | skip)))
                conv => whnf
                refine ⟨(show 1 * 1 ≤ 140737488355328 by decide), List.cons_ne_nil _ _, ?_⟩
                repeat' ((conv => whnf); first | (with_reducible first | apply Xa | (first | apply xi | apply xu | apply x8 | apply x3 | apply xn | apply xp | apply xP | refine xs ?_ ?_ | refine xS ?_ ?_ | refine xZ ?_ ?_ | refine xl ?_ ?_ | refine xd ?_ ?_ | refine xy ?_ ?_ | refine xL ?_ ?_ | refine xD ?_ ?_ | apply xx); omega | apply Xm | apply Xe) | refine Xo (by assumption) ?_ | refine Or.inl ⟨rfl, ?_⟩ | (split <;> (first | (rename_i u h; clear u) | rename_i h) <;> (try rewrite [h]) <;> (first | replace h := dt h | replace h := df h | replace h := Nt h | replace h := Nf h | skip)))
                refine ⟨by decide, _, quo64 L 10 (by omega), ?_⟩
                repeat' ((conv => whnf); first | (with_reducible first | apply Xa | (first | apply xi | apply xu | apply x8 | apply x3 | apply xn | apply xp | apply xP | refine xs ?_ ?_ | refine xS ?_ ?_ | refine xZ ?_ ?_ | refine xl ?_ ?_ | refine xd ?_ ?_ | refine xy ?_ ?_ | refine xL ?_ ?_ | refine xD ?_ ?_ | apply xx); omega | apply Xm | apply Xe) | refine Xo (by assumption) ?_ | refine Or.inl ⟨rfl, ?_⟩ | (split <;> (first | (rename_i u h; clear u) | rename_i h) <;> (try rewrite [h]) <;> (first | replace h := dt h | replace h := df h | replace h := Nt h | replace h := Nf h | skip)))
                exact ⟨[0, 2], 9 - (k + 1), rfl, by omega, k + 1, L / 10, ([] : List Nat) ++ [L % 10], by omega, rfl, hL10, hds2, hn2, nz (.inr hL0), .inr rfl⟩
            · repeat' ((conv => whnf); first | (with_reducible first | apply Xa | (first | apply xi | apply xu | apply x8 | apply x3 | apply xn | apply xp | apply xP | refine xs ?_ ?_ | refine xS ?_ ?_ | refine xZ ?_ ?_ | refine xl ?_ ?_ | refine xd ?_ ?_ | refine xy ?_ ?_ | refine xL ?_ ?_ | refine xD ?_ ?_ | apply xx); omega | apply Xm | apply Xe) | refine Xo (by assumption) ?_ | refine Or.inl ⟨rfl, ?_⟩ | (split <;> (first | (rename_i u h; clear u) | rename_i h) <;> (try rewrite [h]) <;> (first | replace h := dt h | replace h := df h | replace h := Nt h | replace h := Nf h | skip)))
              all_goals try omega
              refine ⟨by decide, _, rem64 L 10, ?_⟩
              repeat' ((conv => whnf); first | (with_reducible first | apply Xa | (first | apply xi | apply xu | apply x8 | apply x3 | apply xn | apply xp | apply xP | refine xs ?_ ?_ | refine xS ?_ ?_ | refine xZ ?_ ?_ | refine xl ?_ ?_ | refine xd ?_ ?_ | refine xy ?_ ?_ | refine xL ?_ ?_ | refine xD ?_ ?_ | apply xx); omega | apply Xm | apply Xe) | refine Xo (by assumption) ?_ | refine Or.inl ⟨rfl, ?_⟩ | (split <;> (first | (rename_i u h; clear u) | rename_i h) <;> (try rewrite [h]) <;> (first | replace h := dt h | replace h := df h | replace h := Nt h | replace h := Nf h | skip)))
              conv => whnf
              refine ⟨(show 1 * 1 ≤ 140737488355328 by decide), List.cons_ne_nil _ _, ?_⟩
              repeat' ((conv => whnf); first | (with_reducible first | apply Xa | (first | apply xi | apply xu | apply x8 | apply x3 | apply xn | apply xp | apply xP | refine xs ?_ ?_ | refine xS ?_ ?_ | refine xZ ?_ ?_ | refine xl ?_ ?_ | refine xd ?_ ?_ | refine xy ?_ ?_ | refine xL ?_ ?_ | refine xD ?_ ?_ | apply xx); omega | apply Xm | apply Xe) | refine Xo (by assumption) ?_ | refine Or.inl ⟨rfl, ?_⟩ | (split <;> (first | (rename_i u h; clear u) | rename_i h) <;> (try rewrite [h]) <;> (first | replace h := dt h | replace h := df h | replace h := Nt h | replace h := Nf h | skip)))
              refine ⟨by decide, _, quo64 L 10 (by omega), ?_⟩
              repeat' ((conv => whnf); first | (with_reducible first | apply Xa | (first | apply xi | apply xu | apply x8 | apply x3 | apply xn | apply xp | apply xP | refine xs ?_ ?_ | refine xS ?_ ?_ | refine xZ ?_ ?_ | refine xl ?_ ?_ | refine xd ?_ ?_ | refine xy ?_ ?_ | refine xL ?_ ?_ | refine xD ?_ ?_ | apply xx); omega | apply Xm | apply Xe) | refine Xo (by assumption) ?_ | refine Or.inl ⟨rfl, ?_⟩ | (split <;> (first | (rename_i u h; clear u) | rename_i h) <;> (try rewrite [h]) <;> (first | replace h := dt h | replace h := df h | replace h := Nt h | replace h := Nf h | skip)))
              exact ⟨[0, 2], 9 - (k + 1), rfl, by omega, k + 1, L / 10, ([] : List Nat) ++ [L % 10], by omega, rfl, hL10, hds2, hn2, nz (.inl hQ0), .inr rfl⟩
          · have hk9' : k = 9 := by omega
            have hL0 : L = 0 := by rw [hk9'] at hL; simp at hL; omega
            repeat' ((conv => whnf); first | (with_reducible first | apply Xa | (first | apply xi | apply xu | apply x8 | apply x3 | apply xn | apply xp | apply xP | refine xs ?_ ?_ | refine xS ?_ ?_ | refine xZ ?_ ?_ | refine xl ?_ ?_ | refine xd ?_ ?_ | refine xy ?_ ?_ | refine xL ?_ ?_ | refine xD ?_ ?_ | apply xx); omega | apply Xm | apply Xe) | refine Xo (by assumption) ?_ | refine Or.inl ⟨rfl, ?_⟩ | (split <;> (first | (rename_i u h; clear u) | rename_i h) <;> (try rewrite [h]) <;> (first | replace h := dt h | replace h := df h | replace h := Nt h | replace h := Nf h | skip)))
            all_goals try omega
            all_goals
              have hnQ : n = lsum (([] : List Nat)) + 10 ^ (([] : List Nat)).length * Q := by rw [hn', hk9', hL0]; simp
              have hzQ : Top Q (([] : List Nat)) := fun hh => hz (by rw [hh, hL0]; simp)
              exfalso; simp [lsum] at hnQ; omega
        · have hlq : (limbs (lim Q)).length = (lim Q).length := limbs_length _
          have hq0 := lim_len_zero Q
          have hLb : L < 1000000000 := Nat.lt_of_lt_of_le hL (Nat.le_trans (Nat.pow_le_pow_right (by omega) (show 9 - k ≤ 9 by omega)) (by decide))
          rcases Nat.lt_or_ge k 9 with hk9 | hk9
          · have hp : 10 ^ (9 - k) = 10 * 10 ^ (9 - (k + 1)) := by rw [show 9 - k = (9 - (k + 1)) + 1 by omega, Nat.pow_succ, Nat.mul_comm]
            have hpp : 0 < 10 ^ (9 - (k + 1)) := Nat.pow_pos (by omega)
            have hsn : byts ((ds' ++ [L % 10]).map (48 + ·)) = (byts ((ds').map (48 + ·))).take (byts ((ds').map (48 + ·))).length ++ [[.int .u8 (48 + ((L % 10 : Nat) : Int))]] := by
              rw [List.map_append, List.map_cons, List.map_nil]; exact byts_snoc' _ _ rfl
            have e : 10 ^ (9 - k) * Q + L = L % 10 + 10 * (10 ^ (9 - (k + 1)) * Q + L / 10) := by rw [hp, Nat.mul_assoc]; omega
            have hL10 : L / 10 < 10 ^ (9 - (k + 1)) := by omega
            have hn2 : n = lsum (ds' ++ [L % 10]) + 10 ^ (ds' ++ [L % 10]).length * (10 ^ (9 - (k + 1)) * Q + L / 10) := by
              rw [hn', e, Nat.mul_add, lsum_append, List.length_append]
              simp only [List.length_cons, List.length_nil, Nat.zero_add, Nat.pow_succ]
              rw [← Nat.mul_assoc]; omega
            have hds2 : ∀ x ∈ ds' ++ [L % 10], x < 10 := fun x hx => by
              rcases List.mem_append.1 hx with hx | hx
              · exact hds' x hx
              · simp at hx; omega
            have hlen10 : (ds').length ≤ (dec n).length ∨ (Q = 0 ∧ L = 0) := by
              rcases Nat.eq_zero_or_pos (10 ^ (9 - k) * Q + L) with h0 | h0
              · right
                have h1 : 10 ^ (9 - k) * Q = 0 := by omega
                rcases Nat.mul_eq_zero.1 h1 with h2 | h2
                · have := Nat.pow_pos (n := 9 - k) (show 0 < 10 by omega); omega
                · exact ⟨h2, by omega⟩
              · left
                have h1 : 10 ^ (ds').length * 1 ≤ 10 ^ (ds').length * (10 ^ (9 - k) * Q + L) := Nat.mul_le_mul_left _ h0
                have h2 : ¬ n < 10 ^ (ds').length := by omega
                rcases Nat.eq_zero_or_pos (ds').length with h3 | h3
                · omega
                · have := mt (dec_length_lt n (ds').length h3).1 h2
                  omega
            have nz : 0 < Q ∨ 0 < L → Top (10 ^ (9 - (k + 1)) * Q + L / 10) (ds' ++ [L % 10]) := fun hc h0 => by
              refine ⟨ds', L % 10, rfl, ?_⟩
              rcases hc with hc | hc
              · have := Nat.mul_pos hpp hc; omega
              · omega
            rcases Nat.eq_zero_or_pos Q with hQ0 | hQ0
            · rcases Nat.eq_zero_or_pos L with hL0 | hL0
              · repeat' ((conv => whnf); first | (with_reducible first | apply Xa | (first | apply xi | apply xu | apply x8 | apply x3 | apply xn | apply xp | apply xP | refine xs ?_ ?_ | refine xS ?_ ?_ | refine xZ ?_ ?_ | refine xl ?_ ?_ | refine xd ?_ ?_ | refine xy ?_ ?_ | refine xL ?_ ?_ | refine xD ?_ ?_ | apply xx); omega | apply Xm | apply Xe) | refine Xo (by assumption) ?_ | refine Or.inl ⟨rfl, ?_⟩ | (split <;> (first | (rename_i u h; clear u) | rename_i h) <;> (try rewrite [h]) <;> (first | replace h := dt h | replace h := df h | replace h := Nt h | replace h := Nf h | skip)))
                all_goals try omega
                have hnQ : n = lsum (ds') + 10 ^ (ds').length * Q := by rw [hn', hQ0, hL0]; simp
                have hzQ : Top Q (ds') := fun _ => hz (by rw [hQ0, hL0]; simp)
                exact ⟨[0, 1], Q, rfl, by omega, Q, ds', rfl, hds', hnQ, hzQ, .inr rfl⟩
              · repeat' ((conv => whnf); first | (with_reducible first | apply Xa | (first | apply xi | apply xu | apply x8 | apply x3 | apply xn | apply xp | apply xP | refine xs ?_ ?_ | refine xS ?_ ?_ | refine xZ ?_ ?_ | refine xl ?_ ?_ | refine xd ?_ ?_ | refine xy ?_ ?_ | refine xL ?_ ?_ | refine xD ?_ ?_ | apply xx); omega | apply Xm | apply Xe) | refine Xo (by assumption) ?_ | refine Or.inl ⟨rfl, ?_⟩ | (split <;> (first | (rename_i u h; clear u) | rename_i h) <;> (try rewrite [h]) <;> (first | replace h := dt h | replace h := df h | replace h := Nt h | replace h := Nf h | skip)))
                all_goals try omega
                refine ⟨by decide, _, rem64 L 10, ?_⟩
                repeat' ((conv => whnf); first | (with_reducible first | apply Xa | (first | apply xi | apply xu | apply x8 | apply x3 | apply xn | apply xp | apply xP | refine xs ?_ ?_ | refine xS ?_ ?_ | refine xZ ?_ ?_ | refine xl ?_ ?_ | refine xd ?_ ?_ | refine xy ?_ ?_ | refine xL ?_ ?_ | refine xD ?_ ?_ | apply xx); omega | apply Xm | apply Xe) | refine Xo (by assumption) ?_ | refine Or.inl ⟨rfl, ?_⟩ | (split <;> (first | (rename_i u h; clear u) | rename_i h) <;> (try rewrite [h]) <;> (first | replace h := dt h | replace h := df h | replace h := Nt h | replace h := Nf h | skip)))
                conv => whnf
                refine ⟨Nat.le_refl _, (show ((byts (ds'.map (48 + ·))).length + 1) * 1 ≤ _ by simp; omega), _, hsn, ?_⟩
                repeat' ((conv => whnf); first | (with_reducible first | apply Xa | (first | apply xi | apply xu | apply x8 | apply x3 | apply xn | apply xp | apply xP | refine xs ?_ ?_ | refine xS ?_ ?_ | refine xZ ?_ ?_ | refine xl ?_ ?_ | refine xd ?_ ?_ | refine xy ?_ ?_ | refine xL ?_ ?_ | refine xD ?_ ?_ | apply xx); omega | apply Xm | apply Xe) | refine Xo (by assumption) ?_ | refine Or.inl ⟨rfl, ?_⟩ | (split <;> (first | (rename_i u h; clear u) | rename_i h) <;> (try rewrite [h]) <;> (first | replace h := dt h | replace h := df h | replace h := Nt h | replace h := Nf h | skip)))
                refine ⟨by decide, _, quo64 L 10 (by omega), ?_⟩
                repeat' ((conv => whnf); first | (with_reducible first | apply Xa | (first | apply xi | apply xu | apply x8 | apply x3 | apply xn | apply xp | apply xP | refine xs ?_ ?_ | refine xS ?_ ?_ | refine xZ ?_ ?_ | refine xl ?_ ?_ | refine xd ?_ ?_ | refine xy ?_ ?_ | refine xL ?_ ?_ | refine xD ?_ ?_ | apply xx); omega | apply Xm | apply Xe) | refine Xo (by assumption) ?_ | refine Or.inl ⟨rfl, ?_⟩ | (split <;> (first | (rename_i u h; clear u) | rename_i h) <;> (try rewrite [h]) <;> (first | replace h := dt h | replace h := df h | replace h := Nt h | replace h := Nf h | skip)))
                exact ⟨[0, 3], 9 - (k + 1), rfl, by omega, k + 1, L / 10, ds' ++ [L % 10], by omega, rfl, hL10, hds2, hn2, nz (.inr hL0), .inr rfl⟩
            · repeat' ((conv => whnf); first | (with_reducible first | apply Xa | (first | apply xi | apply xu | apply x8 | apply x3 | apply xn | apply xp | apply xP | refine xs ?_ ?_ | refine xS ?_ ?_ | refine xZ ?_ ?_ | refine xl ?_ ?_ | refine xd ?_ ?_ | refine xy ?_ ?_ | refine xL ?_ ?_ | refine xD ?_ ?_ | apply xx); omega | apply Xm | apply Xe) | refine Xo (by assumption) ?_ | refine Or.inl ⟨rfl, ?_⟩ | (split <;> (first | (rename_i u h; clear u) | rename_i h) <;> (try rewrite [h]) <;> (first | replace h := dt h | replace h := df h | replace h := Nt h | replace h := Nf h | skip)))
              all_goals try omega
              refine ⟨by decide, _, rem64 L 10, ?_⟩
              repeat' ((conv => whnf); first | (with_reducible first | apply Xa | (first | apply xi | apply xu | apply x8 | apply x3 | apply xn | apply xp | apply xP | refine xs ?_ ?_ | refine xS ?_ ?_ | refine xZ ?_ ?_ | refine xl ?_ ?_ | refine xd ?_ ?_ | refine xy ?_ ?_ | refine xL ?_ ?_ | refine xD ?_ ?_ | apply xx); omega | apply Xm | apply Xe) | refine Xo (by assumption) ?_ | refine Or.inl ⟨rfl, ?_⟩ | (split <;> (first | (rename_i u h; clear u) | rename_i h) <;> (try rewrite [h]) <;> (first | replace h := dt h | replace h := df h | replace h := Nt h | replace h := Nf h | skip)))
              conv => whnf
              refine ⟨Nat.le_refl _, (show ((byts (ds'.map (48 + ·))).length + 1) * 1 ≤ _ by simp; omega), _, hsn, ?_⟩
              repeat' ((conv => whnf); first | (with_reducible first | apply Xa | (first | apply xi | apply xu | apply x8 | apply x3 | apply xn | apply xp | apply xP | refine xs ?_ ?_ | refine xS ?_ ?_ | refine xZ ?_ ?_ | refine xl ?_ ?_ | refine xd ?_ ?_ | refine xy ?_ ?_ | refine xL ?_ ?_ | refine xD ?_ ?_ | apply xx); omega | apply Xm | apply Xe) | refine Xo (by assumption) ?_ | refine Or.inl ⟨rfl, ?_⟩ | (split <;> (first | (rename_i u h; clear u) | rename_i h) <;> (try rewrite [h]) <;> (first | replace h := dt h | replace h := df h | replace h := Nt h | replace h := Nf h | skip)))
              refine ⟨by decide, _, quo64 L 10 (by omega), ?_⟩
              repeat' ((conv => whnf); first | (with_reducible first | apply Xa | (first | apply xi | apply xu | apply x8 | apply x3 | apply xn | apply xp | apply xP | refine xs ?_ ?_ | refine xS ?_ ?_ | refine xZ ?_ ?_ | refine xl ?_ ?_ | refine xd ?_ ?_ | refine xy ?_ ?_ | refine xL ?_ ?_ | refine xD ?_ ?_ | apply xx); omega | apply Xm | apply Xe) | refine Xo (by assumption) ?_ | refine Or.inl ⟨rfl, ?_⟩ | (split <;> (first | (rename_i u h; clear u) | rename_i h) <;> (try rewrite [h]) <;> (first | replace h := dt h | replace h := df h | replace h := Nt h | replace h := Nf h | skip)))
              exact ⟨[0, 3], 9 - (k + 1), rfl, by omega, k + 1, L / 10, ds' ++ [L % 10], by omega, rfl, hL10, hds2, hn2, nz (.inl hQ0), .inr rfl⟩
          · have hk9' : k = 9 := by omega
            have hL0 : L = 0 := by rw [hk9'] at hL; simp at hL; omega
            repeat' ((conv => whnf); first | (with_reducible first | apply Xa | (first | apply xi | apply xu | apply x8 | apply x3 | apply xn | apply xp | apply xP | refine xs ?_ ?_ | refine xS ?_ ?_ | refine xZ ?_ ?_ | refine xl ?_ ?_ | refine xd ?_ ?_ | refine xy ?_ ?_ | refine xL ?_ ?_ | refine xD ?_ ?_ | apply xx); omega | apply Xm | apply Xe) | refine Xo (by assumption) ?_ | refine Or.inl ⟨rfl, ?_⟩ | (split <;> (first | (rename_i u h; clear u) | rename_i h) <;> (try rewrite [h]) <;> (first | replace h := dt h | replace h := df h | replace h := Nt h | replace h := Nf h | skip)))
            all_goals try omega
            all_goals
              have hnQ : n = lsum (ds') + 10 ^ (ds').length * Q := by rw [hn', hk9', hL0]; simp
              have hzQ : Top Q (ds') := fun hh => hz (by rw [hh, hL0]; simp)
              exact ⟨[0, 1], Q, rfl, by omega, Q, ds', rfl, hds', hnQ, hzQ, .inr rfl⟩
end Go.V
namespace Go.V
open Go.N
variable (gl : Gl)
def T_guess : Tab := [(143, i143), (111, i111), (3, i3), (85, i85)]
theorem TOK_guess : TOK Go.Proofs.Tryz.prog T_guess := ⟨K143, ⟨K111, ⟨K3, ⟨K85, trivial⟩⟩⟩⟩
theorem limbs_drop (l : List Nat) (k : Nat) : (limbs l).drop k = limbs (l.drop k) := by simp [limbs]
theorem min64 (a b : Nat) : (if ((b : Nat) : Int) < ((a : Nat) : Int) then ((b : Nat) : Int) else ((a : Nat) : Int)) = ((min a b : Nat) : Int) := by
  split <;> omega
theorem guess_ge {P D head top n : Nat} (hn : 0 < n) (hP : P < (head + 1) * BB ^ (n - 1)) (hD : top * BB ^ (n - 1) ≤ D) (ht : 0 < top) : P / D ≤ head / top := by
  rw [Nat.le_div_iff_mul_le ht]
  have hp : 0 < BB ^ (n - 1) := Nat.pow_pos (by simp [BB])
  have h1 : P / D * (top * BB ^ (n - 1)) ≤ P / D * D := Nat.mul_le_mul_left _ hD
  have h2 : P / D * D ≤ P := Nat.div_mul_le_self P D
  have h3 : (P / D * top) * BB ^ (n - 1) < (head + 1) * BB ^ (n - 1) := by rw [Nat.mul_assoc]; omega
  have := Nat.lt_of_mul_lt_mul_right h3
  omega
set_option maxHeartbeats 4000000 in
theorem c_guess (u : List Nat) (D j n : Nat) (hu : small u) (hul : u.length < 1000000) (hn : n = (lim D).length) (hn0 : 0 < n) (hj : j + n < u.length) (top : Nat) (htop : (lim D)[n - 1]? = some top)
    (hP : lval ((u.drop j).take (n + 1)) < D * BB) :
    VCallH Go.Proofs.Tryz.prog gl 128 [.own 0 0 (limbs u).length, .ro 1 (limbs (lim D)), .int .i64 (j : Nat), .int .u64 (top : Nat)] [.row false 111 1 (limbs u)]
    (fun x h => x = .int .u32 ((lval ((u.drop j).take (n + 1)) / D : Nat) : Int) ∧ ∃ u' : List Nat, h = [.row false 111 1 (limbs u')] ∧ u'.length = u.length ∧ small u' ∧ u'.take j = u.take j ∧
      lval ((u'.drop j).take (n + 1)) = lval ((u.drop j).take (n + 1)) % D ∧ u'.drop (j + n + 1) = u.drop (j + n + 1)) := by
  refine vcallH_of TOK_guess HM Go.Proofs.Tryz.func128 rfl (by decide +kernel) (by decide +kernel) rfl ?_
  have hlu : (limbs u).length = u.length := limbs_length u
  have hlD : (limbs (lim D)).length = n := by rw [limbs_length, hn]
  have g1 : (limbs u)[0 + (j + n)]? = some [.int .u32 ((u[j + n] : Nat) : Int)] := by rw [Nat.zero_add]; exact limbs_get hj
  have g2 : (limbs u)[0 + (j + n - 1)]? = some [.int .u32 ((u[j + n - 1] : Nat) : Int)] := by rw [Nat.zero_add]; exact limbs_get (by omega)
  have s1 : u[j + n] < 4294967296 := hu _ (List.getElem_mem _)
  have s2 : u[j + n - 1] < 4294967296 := hu _ (List.getElem_mem _)
  have hD0 : D ≠ 0 := fun e => by rw [e, lim_zero] at hn; simp at hn; omega
  repeat' ((conv => whnf); first | (with_reducible first | apply Xa | (first | apply xi | apply xu | apply x8 | apply x3 | apply xn | apply xp | apply xP | refine xs ?_ ?_ | refine xS ?_ ?_ | refine xZ ?_ ?_ | refine xl ?_ ?_ | refine xd ?_ ?_ | refine xy ?_ ?_ | refine xL ?_ ?_ | refine xD ?_ ?_ | apply xx); omega | apply Xm | apply Xe) | refine Xo (by assumption) ?_ | refine Or.inl ⟨rfl, ?_⟩ | (split <;> (first | (rename_i u h; clear u) | rename_i h) <;> (try rewrite [h]) <;> (first | replace h := dt h | replace h := df h | replace h := Nt h | replace h := Nf h | skip)))
  refine ⟨by decide +kernel, [0, 0, 0, 6, 15, 31, 63, 127, 0, 0, 0, 1536, 3584, 7936, 16128, 32512, 65535, 131071], by decide +kernel, ?_⟩
  repeat' ((conv => whnf); first | (with_reducible first | apply Xa | (first | apply xi | apply xu | apply x8 | apply x3 | apply xn | apply xp | apply xP | refine xs ?_ ?_ | refine xS ?_ ?_ | refine xZ ?_ ?_ | refine xl ?_ ?_ | refine xd ?_ ?_ | refine xy ?_ ?_ | refine xL ?_ ?_ | refine xD ?_ ?_ | apply xx); omega | apply Xm | apply Xe) | refine Xo (by assumption) ?_ | refine Or.inl ⟨rfl, ?_⟩ | (split <;> (first | (rename_i u h; clear u) | rename_i h) <;> (try rewrite [h]) <;> (first | replace h := dt h | replace h := df h | replace h := Nt h | replace h := Nf h | skip)))
  refine ⟨j + n, by omega, by omega, ?_⟩
  repeat' ((conv => whnf); first | (with_reducible first | apply Xa | (first | apply xi | apply xu | apply x8 | apply x3 | apply xn | apply xp | apply xP | refine xs ?_ ?_ | refine xS ?_ ?_ | refine xZ ?_ ?_ | refine xl ?_ ?_ | refine xd ?_ ?_ | refine xy ?_ ?_ | refine xL ?_ ?_ | refine xD ?_ ?_ | apply xx); omega | apply Xm | apply Xe) | refine Xo (by assumption) ?_ | refine Or.inl ⟨rfl, ?_⟩ | (split <;> (first | (rename_i u h; clear u) | rename_i h) <;> (try rewrite [h]) <;> (first | replace h := dt h | replace h := df h | replace h := Nt h | replace h := Nf h | skip)))
  refine ⟨by decide, _, shl32 u[j + n] s1, ?_⟩
  repeat' ((conv => whnf); first | (with_reducible first | apply Xa | (first | apply xi | apply xu | apply x8 | apply x3 | apply xn | apply xp | apply xP | refine xs ?_ ?_ | refine xS ?_ ?_ | refine xZ ?_ ?_ | refine xl ?_ ?_ | refine xd ?_ ?_ | refine xy ?_ ?_ | refine xL ?_ ?_ | refine xD ?_ ?_ | apply xx); omega | apply Xm | apply Xe) | refine Xo (by assumption) ?_ | refine Or.inl ⟨rfl, ?_⟩ | (split <;> (first | (rename_i u h; clear u) | rename_i h) <;> (try rewrite [h]) <;> (first | replace h := dt h | replace h := df h | replace h := Nt h | replace h := Nf h | skip)))
  refine ⟨j + n - 1, by omega, by omega, ?_⟩
  repeat' ((conv => whnf); first | (with_reducible first | apply Xa | (first | apply xi | apply xu | apply x8 | apply x3 | apply xn | apply xp | apply xP | refine xs ?_ ?_ | refine xS ?_ ?_ | refine xZ ?_ ?_ | refine xl ?_ ?_ | refine xd ?_ ?_ | refine xy ?_ ?_ | refine xL ?_ ?_ | refine xD ?_ ?_ | apply xx); omega | apply Xm | apply Xe) | refine Xo (by assumption) ?_ | refine Or.inl ⟨rfl, ?_⟩ | (split <;> (first | (rename_i u h; clear u) | rename_i h) <;> (try rewrite [h]) <;> (first | replace h := dt h | replace h := df h | replace h := Nt h | replace h := Nf h | skip)))
  have htop0 : 0 < top := by
    have hne := lim_last D top (by rw [List.getLast?_eq_getElem?, ← hn]; exact htop)
    omega
  have htopb : top < 4294967296 := lim_small D top (List.mem_of_getElem? htop)
  obtain ⟨H, hH⟩ : ∃ H, H = u[j + n] * 4294967296 + u[j + n - 1] := ⟨_, rfl⟩
  have hHb : H < 18446744073709551616 := by omega
  have hqH : H / top ≤ H := Nat.div_le_self _ _
  obtain ⟨Q, hQ⟩ : ∃ Q, Q = H / top := ⟨_, rfl⟩
  rw [← hQ] at hqH
  refine ⟨by omega, (show ((u[j + n] * 4294967296 : Nat) : Int) < 18446744073709551616 by omega), by omega, (show ((u[j + n - 1] : Nat) : Int) < 18446744073709551616 by omega), ((H : Nat) : Int), (by rw [hH]; exact or32 _ _ s1 s2), ?_⟩
  repeat' ((conv => whnf); first | (with_reducible first | apply Xa | (first | apply xi | apply xu | apply x8 | apply x3 | apply xn | apply xp | apply xP | refine xs ?_ ?_ | refine xS ?_ ?_ | refine xZ ?_ ?_ | refine xl ?_ ?_ | refine xd ?_ ?_ | refine xy ?_ ?_ | refine xL ?_ ?_ | refine xD ?_ ?_ | apply xx); omega | apply Xm | apply Xe) | refine Xo (by assumption) ?_ | refine Or.inl ⟨rfl, ?_⟩ | (split <;> (first | (rename_i u h; clear u) | rename_i h) <;> (try rewrite [h]) <;> (first | replace h := dt h | replace h := df h | replace h := Nt h | replace h := Nf h | skip)))
  refine ⟨by omega, ((Q : Nat) : Int), (by rw [hQ]; exact quo64 H top hHb), ?_⟩
  have hdb : min Q (4294967295 : Int).toNat < 4294967296 := by omega
  repeat' ((conv => whnf); first | (with_reducible first | apply Xa | (first | apply xi | apply xu | apply x8 | apply x3 | apply xn | apply xp | apply xP | refine xs ?_ ?_ | refine xS ?_ ?_ | refine xZ ?_ ?_ | refine xl ?_ ?_ | refine xd ?_ ?_ | refine xy ?_ ?_ | refine xL ?_ ?_ | refine xD ?_ ?_ | apply xx); omega | apply Xm | apply Xe) | refine Xo (by assumption) ?_ | refine Or.inl ⟨rfl, ?_⟩ | (split <;> (first | (rename_i u h; clear u) | rename_i h) <;> (try rewrite [h]) <;> (first | replace h := dt h | replace h := df h | replace h := Nt h | replace h := Nf h | skip)))
  refine ⟨by omega, by omega, by omega, by omega, j, n + 1, by omega, by omega, ?_⟩
  repeat' ((conv => whnf); first | (with_reducible first | apply Xa | (first | apply xi | apply xu | apply x8 | apply x3 | apply xn | apply xp | apply xP | refine xs ?_ ?_ | refine xS ?_ ?_ | refine xZ ?_ ?_ | refine xl ?_ ?_ | refine xd ?_ ?_ | refine xy ?_ ?_ | refine xL ?_ ?_ | refine xD ?_ ?_ | apply xx); omega | apply Xm | apply Xe) | refine Xo (by assumption) ?_ | refine Or.inl ⟨rfl, ?_⟩ | (split <;> (first | (rename_i u h; clear u) | rename_i h) <;> (try rewrite [h]) <;> (first | replace h := dt h | replace h := df h | replace h := Nt h | replace h := Nf h | skip)))
  conv => whnf
  have hw : List.take (n + 1) (List.drop j (limbs u)) = limbs ((u.drop j).take (n + 1)) := by rw [limbs_drop, limbs_take]
  obtain ⟨w, hwd⟩ : ∃ w, w = (u.drop j).take (n + 1) := ⟨_, rfl⟩
  have hwl : w.length = n + 1 := by rw [hwd]; simp; omega
  have hws : small w := by rw [hwd]; exact fun x hx => hu x (List.mem_of_mem_drop (List.mem_of_mem_take hx))
  have hcl := c_Clone gl w (by omega)
  have hwe : limbs w = List.take (n + 1) (List.drop j (limbs u)) := by rw [hw, hwd]
  refine .inl ⟨_, (hwe ▸ hcl : VCall Go.Proofs.Tryz.prog gl 129 [.ro 1 (List.take (n + 1) (List.drop j (limbs u)))] (fun x => x = .fr 111 1 (limbs w) ∨ (w = [] ∧ x = .nils))), ?_⟩
  rintro _ (rfl | ⟨hnil, _⟩)
  rotate_left
  · rw [hnil] at hwl; simp at hwl
  conv => whnf
  refine ⟨false, flat_limbs _, ?_⟩
  repeat' ((conv => whnf); first | (with_reducible first | apply Xa | (first | apply xi | apply xu | apply x8 | apply x3 | apply xn | apply xp | apply xP | refine xs ?_ ?_ | refine xS ?_ ?_ | refine xZ ?_ ?_ | refine xl ?_ ?_ | refine xd ?_ ?_ | refine xy ?_ ?_ | refine xL ?_ ?_ | refine xD ?_ ?_ | apply xx); omega | apply Xm | apply Xe) | refine Xo (by assumption) ?_ | refine Or.inl ⟨rfl, ?_⟩ | (split <;> (first | (rename_i u h; clear u) | rename_i h) <;> (try rewrite [h]) <;> (first | replace h := dt h | replace h := df h | replace h := Nt h | replace h := Nf h | skip)))
  conv => whnf
  have hst := c_step gl (lim D) (min Q (4294967295 : Int).toNat) 0 (lim_small D) (by omega) hdb (by omega)
  rw [Nat.add_zero, lval_lim] at hst
  refine .inl ⟨_, hst, ?_⟩
  rintro _ rfl
  repeat' ((conv => whnf); first | (with_reducible first | apply Xa | (first | apply xi | apply xu | apply x8 | apply x3 | apply xn | apply xp | apply xP | refine xs ?_ ?_ | refine xS ?_ ?_ | refine xZ ?_ ?_ | refine xl ?_ ?_ | refine xd ?_ ?_ | refine xy ?_ ?_ | refine xL ?_ ?_ | refine xD ?_ ?_ | apply xx); omega | apply Xm | apply Xe) | refine Xo (by assumption) ?_ | refine Or.inl ⟨rfl, ?_⟩ | (split <;> (first | (rename_i u h; clear u) | rename_i h) <;> (try rewrite [h]) <;> (first | replace h := dt h | replace h := df h | replace h := Nt h | replace h := Nf h | skip)))
  conv => whnf
  have hPw : lval w < D * BB := by rw [hwd]; exact hP
  have hDn : D < BB ^ n := (lim_len_lt D n).1 (by omega)
  have hq1 : lval w / D < BB := (Nat.div_lt_iff_lt_mul (by omega)).2 (by rw [Nat.mul_comm]; exact hPw)
  have hge : lval w / D ≤ min Q (4294967295 : Int).toNat := by
    have hwj : w[n]? = some u[j + n] := by
      have : ((u.drop j).take (n + 1))[n]? = some u[j + n] := by rw [List.getElem?_take_of_lt (by omega), List.getElem?_drop, List.getElem?_eq_getElem hj]
      rw [← hwd] at this; exact this
    have hwj1 : w[n - 1]? = some u[j + n - 1] := by
      have : ((u.drop j).take (n + 1))[n - 1]? = some u[j + n - 1] := by
        rw [List.getElem?_take_of_lt (by omega), List.getElem?_drop]
        rw [show j + (n - 1) = j + n - 1 by omega]
        exact List.getElem?_eq_getElem (by omega)
      rw [← hwd] at this; exact this
    have hw1 : lval w < (H + 1) * BB ^ (n - 1) := by
      have e1 := lval_take_succ (l := w) (k := n) (by omega)
      have e2 := lval_take_succ (l := w) (k := n - 1) (by omega)
      rw [show n - 1 + 1 = n by omega] at e2
      rw [List.take_of_length_le (by omega)] at e1
      have hlt := lval_lt (small_take hws (n - 1))
      rw [List.length_take, Nat.min_eq_left (by omega)] at hlt
      have hg1 : w[n] = u[j + n] := by rw [List.getElem?_eq_getElem (by omega)] at hwj; simpa using hwj
      have hg2 : w[n - 1] = u[j + n - 1] := by rw [List.getElem?_eq_getElem (by omega)] at hwj1; simpa using hwj1
      have hpw : BB ^ n = BB * BB ^ (n - 1) := by
        conv => lhs; rw [show n = (n - 1) + 1 by omega, Nat.pow_succ, Nat.mul_comm]
      rw [e1, e2, hg1, hg2, hH, hpw, Nat.add_mul, Nat.add_mul]
      have e3 : BB * BB ^ (n - 1) * u[j + n] = u[j + n] * 4294967296 * BB ^ (n - 1) := by
        rw [Nat.mul_comm (u[j + n]) 4294967296, Nat.mul_assoc, Nat.mul_assoc, Nat.mul_comm (BB ^ (n - 1))]; rfl
      have e4 : BB ^ (n - 1) * u[j + n - 1] = u[j + n - 1] * BB ^ (n - 1) := Nat.mul_comm _ _
      omega
    have hDt : top * BB ^ (n - 1) ≤ D := by
      have e2 := lval_take_succ (l := lim D) (k := n - 1) (by omega)
      have hg : (lim D)[n - 1]'(by omega) = top := by
        rw [List.getElem?_eq_getElem (by omega)] at htop; simpa using htop
      rw [show n - 1 + 1 = n by omega, List.take_of_length_le (by omega), lval_lim, hg, Nat.mul_comm] at e2
      omega
    have h1 := guess_ge hn0 hw1 hDt htop0
    rw [← hQ] at h1
    have : BB = 4294967296 := rfl
    omega
  obtain ⟨q0, hq0⟩ : ∃ q0, q0 = lval w / D := ⟨_, rfl⟩
  rw [← hq0] at hge hq1
  refine ⟨[0, 1, 2, 11, 12, 13], [0, 1, 2], fun kk st => ∃ d : Nat, q0 ≤ d ∧ d < 4294967296 ∧ kk = d ∧
    st = ⟨[(0, .own 0 0 (limbs u).length), (1, .ro 1 (limbs (lim D))), (2, .int .i64 (j : Nat)), (11, .int .u64 (d : Nat)), (12, .own 1 0 (limbs w).length), (13, .own 2 0 (limbs (lim (D * d))).length)],
      [.row false 111 1 (limbs u), .row false 111 1 (limbs w), .row false 111 1 (limbs (lim (D * d)))]⟩, rfl, ⟨_, _, hge, hdb, rfl, rfl⟩, ?_⟩
  rintro kk _ ⟨d, hd1, hd2, hkk, rfl⟩
  have hDd : D * d < BB ^ (n + 1) := by
    have h1 : D * d ≤ BB ^ n * d := Nat.mul_le_mul_right _ (Nat.le_of_lt hDn)
    have h2 : BB ^ n * d < BB ^ n * BB := Nat.mul_lt_mul_of_pos_left hd2 (Nat.pow_pos (by simp [BB]))
    rw [Nat.pow_succ]; omega
  have hDdl : (lim (D * d)).length ≤ n + 1 := (lim_len_lt _ _).2 hDd
  have hwf : List.take (limbs w).length (List.drop 0 (limbs w)) = limbs w := by rw [List.drop_zero, List.take_length]
  have hcl3 : VCall Go.Proofs.Tryz.prog gl 129 [.ro 1 (List.take (limbs w).length (List.drop 0 (limbs w)))] (fun x => x = .fr 111 1 (limbs w) ∨ (w = [] ∧ x = .nils)) := by
    rw [hwf]; exact c_Clone gl w (by omega)
  repeat' ((conv => whnf); first | (with_reducible first | apply Xa | (first | apply xi | apply xu | apply x8 | apply x3 | apply xn | apply xp | apply xP | refine xs ?_ ?_ | refine xS ?_ ?_ | refine xZ ?_ ?_ | refine xl ?_ ?_ | refine xd ?_ ?_ | refine xy ?_ ?_ | refine xL ?_ ?_ | refine xD ?_ ?_ | apply xx); omega | apply Xm | apply Xe) | refine Xo (by assumption) ?_ | refine Or.inl ⟨rfl, ?_⟩ | (split <;> (first | (rename_i u h; clear u) | rename_i h) <;> (try rewrite [h]) <;> (first | replace h := dt h | replace h := df h | replace h := Nt h | replace h := Nf h | skip)))
  conv => whnf
  refine .inl ⟨_, hcl3, ?_⟩
  rintro _ (rfl | ⟨hnil, _⟩)
  rotate_left
  · rw [hnil] at hwl; simp at hwl
  conv => whnf
  refine ⟨false, flat_limbs _, ?_⟩
  repeat' ((conv => whnf); first | (with_reducible first | apply Xa | (first | apply xi | apply xu | apply x8 | apply x3 | apply xn | apply xp | apply xP | refine xs ?_ ?_ | refine xS ?_ ?_ | refine xZ ?_ ?_ | refine xl ?_ ?_ | refine xd ?_ ?_ | refine xy ?_ ?_ | refine xL ?_ ?_ | refine xD ?_ ?_ | apply xx); omega | apply Xm | apply Xe) | refine Xo (by assumption) ?_ | refine Or.inl ⟨rfl, ?_⟩ | (split <;> (first | (rename_i u h; clear u) | rename_i h) <;> (try rewrite [h]) <;> (first | replace h := dt h | replace h := df h | replace h := Nt h | replace h := Nf h | skip)))
  conv => whnf
  refine .inr ⟨[3], rfl, _, c_trimH gl w hws (by omega), ?_⟩
  rintro _ _ ⟨rfl, hpre, rfl⟩
  have hwt : List.take (lim (lval w)).length (List.drop 0 (limbs w)) = limbs (lim (lval w)) := by rw [List.drop_zero, limbs_take, ← hpre]
  have hdt : List.take (limbs (lim (D * d))).length (List.drop 0 (limbs (lim (D * d)))) = limbs (lim (D * d)) := by rw [List.drop_zero, List.take_length]
  have hwl2 : (lim (lval w)).length ≤ n + 1 := by
    have := congrArg List.length hpre
    rw [List.length_take] at this; omega
  have hcmp := c_compare gl (D * d) (lval w) (by omega) (by omega)
  have hcmp2 : VCall Go.Proofs.Tryz.prog gl 125 [.ro 1 (List.take (limbs (lim (D * d))).length (List.drop 0 (limbs (lim (D * d))))), .ro 1 (List.take (lim (lval w)).length (List.drop 0 (limbs w)))] (fun x => x = .int .i64 (cmpN (D * d) (lval w))) := by
    rw [hwt, hdt]; exact hcmp
  repeat' ((conv => whnf); first | (with_reducible first | apply Xa | (first | apply xi | apply xu | apply x8 | apply x3 | apply xn | apply xp | apply xP | refine xs ?_ ?_ | refine xS ?_ ?_ | refine xZ ?_ ?_ | refine xl ?_ ?_ | refine xd ?_ ?_ | refine xy ?_ ?_ | refine xL ?_ ?_ | refine xD ?_ ?_ | apply xx); omega | apply Xm | apply Xe) | refine Xo (by assumption) ?_ | refine Or.inl ⟨rfl, ?_⟩ | (split <;> (first | (rename_i u h; clear u) | rename_i h) <;> (try rewrite [h]) <;> (first | replace h := dt h | replace h := df h | replace h := Nt h | replace h := Nf h | skip)))
  conv => whnf
  refine .inl ⟨_, hcmp2, ?_⟩
  rintro _ rfl
  rcases Nat.lt_or_ge (lval w) (D * d) with hlt | hle
  · have hc1 : cmpN (D * d) (lval w) = 1 := cmpN_gt hlt
    have hdq : q0 < d := by rw [hq0]; exact (Nat.div_lt_iff_lt_mul (by omega)).2 (by rw [Nat.mul_comm]; exact hlt)
    repeat' ((conv => whnf); first | (with_reducible first | apply Xa | (first | apply xi | apply xu | apply x8 | apply x3 | apply xn | apply xp | apply xP | refine xs ?_ ?_ | refine xS ?_ ?_ | refine xZ ?_ ?_ | refine xl ?_ ?_ | refine xd ?_ ?_ | refine xy ?_ ?_ | refine xL ?_ ?_ | refine xD ?_ ?_ | apply xx); omega | apply Xm | apply Xe) | refine Xo (by assumption) ?_ | refine Or.inl ⟨rfl, ?_⟩ | (split <;> (first | (rename_i u h; clear u) | rename_i h) <;> (try rewrite [h]) <;> (first | replace h := dt h | replace h := df h | replace h := Nt h | replace h := Nf h | skip)))
    all_goals try omega
    conv => whnf
    have hDd1 : D * (d - 1) = D * d - D := by rw [Nat.mul_sub, Nat.mul_one]
    have hDle : D ≤ D * d := Nat.le_mul_of_pos_right D (by omega)
    have hsub := c_sub gl (lim (D * d)) (lim D) (lim_small _) (lim_small _) (by omega) (lim_mono hDle) (by rw [lval_lim, lval_lim]; exact hDle)
    rw [lval_lim, lval_lim, ← hDd1] at hsub
    have hsub2 : VCall Go.Proofs.Tryz.prog gl 134 [.ro 1 (List.take (limbs (lim (D * d))).length (List.drop 0 (limbs (lim (D * d))))), .ro 1 (limbs (lim D))] (fun x => x = .fr 111 1 (limbs (lim (D * (d - 1)))) ∨ (lim (D * d) = [] ∧ x = .ro 1 (limbs []))) := by
      rw [hdt]; exact hsub
    refine .inl ⟨_, hsub2, ?_⟩
    rintro _ (rfl | ⟨hnil, _⟩)
    rotate_left
    · have := (lim_len_zero (D * d)).1 (by rw [hnil]; rfl)
      omega
    conv => whnf
    refine ⟨false, flat_limbs _, ?_⟩
    repeat' ((conv => whnf); first | (with_reducible first | apply Xa | (first | apply xi | apply xu | apply x8 | apply x3 | apply xn | apply xp | apply xP | refine xs ?_ ?_ | refine xS ?_ ?_ | refine xZ ?_ ?_ | refine xl ?_ ?_ | refine xd ?_ ?_ | refine xy ?_ ?_ | refine xL ?_ ?_ | refine xD ?_ ?_ | apply xx); omega | apply Xm | apply Xe) | refine Xo (by assumption) ?_ | refine Or.inl ⟨rfl, ?_⟩ | (split <;> (first | (rename_i u h; clear u) | rename_i h) <;> (try rewrite [h]) <;> (first | replace h := dt h | replace h := df h | replace h := Nt h | replace h := Nf h | skip)))
    refine ⟨[0, 1, 4], d - 1, rfl, by omega, d - 1, by omega, by omega, rfl, ?_⟩
    have ed : (d : Int) - 1 = ((d - 1 : Nat) : Int) := by omega
    exact Eq.trans rfl (congrArg (fun z => (⟨[(0, .own 0 0 (limbs u).length), (1, .ro 1 (limbs (lim D))), (2, .int .i64 (j : Nat)), (11, .int .u64 z), (12, .own 1 0 (limbs w).length), (13, .own 2 0 (limbs (lim (D * (d - 1)))).length)],
      [.row false 111 1 (limbs u), .row false 111 1 (limbs w), .row false 111 1 (limbs (lim (D * (d - 1))))]⟩ : St)) ed)
  · have hc1 : cmpN (D * d) (lval w) ≤ 0 := by unfold cmpN; split <;> (try split) <;> omega
    have hdq : d = q0 := Nat.le_antisymm (by rw [hq0]; exact (Nat.le_div_iff_mul_le (by omega)).2 (by rw [Nat.mul_comm]; exact hle)) hd1
    repeat' ((conv => whnf); first | (with_reducible first | apply Xa | (first | apply xi | apply xu | apply x8 | apply x3 | apply xn | apply xp | apply xP | refine xs ?_ ?_ | refine xS ?_ ?_ | refine xZ ?_ ?_ | refine xl ?_ ?_ | refine xd ?_ ?_ | refine xy ?_ ?_ | refine xL ?_ ?_ | refine xD ?_ ?_ | apply xx); omega | apply Xm | apply Xe) | refine Xo (by assumption) ?_ | refine Or.inl ⟨rfl, ?_⟩ | (split <;> (first | (rename_i u h; clear u) | rename_i h) <;> (try rewrite [h]) <;> (first | replace h := dt h | replace h := df h | replace h := Nt h | replace h := Nf h | skip)))
    all_goals try omega
    conv => whnf
    obtain ⟨R, hR⟩ : ∃ R, R = lval w % D := ⟨_, rfl⟩
    have hdm := Nat.div_add_mod (lval w) D
    rw [← hq0, ← hdq, ← hR] at hdm
    have hRD : R < D := by rw [hR]; exact Nat.mod_lt _ (by omega)
    have hRl : (lim R).length ≤ n := by
      have := lim_mono (Nat.le_of_lt hRD)
      omega
    have hsub := c_sub gl w (lim (D * d)) hws (lim_small _) (by omega) (by omega) (by rw [lval_lim]; exact hle)
    rw [lval_lim, show lval w - D * d = R by omega] at hsub
    have hsub2 : VCall Go.Proofs.Tryz.prog gl 134 [.ro 1 (List.take (limbs w).length (List.drop 0 (limbs w))), .ro 1 (List.take (limbs (lim (D * d))).length (List.drop 0 (limbs (lim (D * d)))))] (fun x => x = .fr 111 1 (limbs (lim R)) ∨ (w = [] ∧ x = .ro 1 (limbs []))) := by
      rw [hdt, hwf]; exact hsub
    refine .inl ⟨_, hsub2, ?_⟩
    rintro _ (rfl | ⟨hnil, _⟩)
    rotate_left
    · rw [hnil] at hwl; simp at hwl
    conv => whnf
    refine ⟨false, flat_limbs _, ?_⟩
    repeat' ((conv => whnf); first | (with_reducible first | apply Xa | (first | apply xi | apply xu | apply x8 | apply x3 | apply xn | apply xp | apply xP | refine xs ?_ ?_ | refine xS ?_ ?_ | refine xZ ?_ ?_ | refine xl ?_ ?_ | refine xd ?_ ?_ | refine xy ?_ ?_ | refine xL ?_ ?_ | refine xD ?_ ?_ | apply xx); omega | apply Xm | apply Xe) | refine Xo (by assumption) ?_ | refine Or.inl ⟨rfl, ?_⟩ | (split <;> (first | (rename_i u h; clear u) | rename_i h) <;> (try rewrite [h]) <;> (first | replace h := dt h | replace h := df h | replace h := Nt h | replace h := Nf h | skip)))
    conv => whnf
    obtain ⟨pd, hpd⟩ : ∃ pd, pd = lim R ++ List.replicate (n + 1 - (lim R).length) 0 := ⟨_, rfl⟩
    have hpdl : pd.length = n + 1 := by rw [hpd]; simp; omega
    have hpdv : lval pd = R := by rw [hpd, lval_append, lval_zeros, lval_lim]; simp
    have hpds : small pd := by
      rw [hpd]
      refine small_append (lim_small R) fun x hx => ?_
      rw [List.mem_replicate] at hx
      rw [hx.2]; simp [BB]
    have hlR : (limbs (lim R)).length = (lim R).length := limbs_length _
    have hwll : (limbs w).length = n + 1 := by rw [limbs_length, hwl]
    refine ⟨[0, 2, 11, 14, 65, 66], [0, 4], fun kk st => ∃ (i : Nat) (c : List Nat), i ≤ n + 1 ∧ kk = n + 1 - i ∧ c = u.take j ++ pd.take i ++ u.drop (j + i) ∧
      st = ⟨[(0, .own 0 0 (limbs u).length), (2, .int .i64 (j : Nat)), (11, .int .u64 (d : Nat)), (14, .own 1 0 (limbs (lim R)).length), (65, .int .i64 ((limbs w).length : Nat)), (66, .int .i64 (i : Nat))],
        [.row false 111 1 (limbs c), .row false 111 1 (limbs (lim R))]⟩, rfl, ⟨n + 1, 0, u, by omega, rfl, by simp, rfl⟩, ?_⟩
    rintro kk _ ⟨i, c, hi, hkk, hc, rfl⟩
    have hcl' : c.length = u.length := by rw [hc]; simp; omega
    rcases Nat.lt_or_ge i (n + 1) with hin | hge2
    · have hgc : (limbs c)[0 + (j + i)]? = some [.int .u32 ((c[j + i]'(by omega) : Nat) : Int)] := by rw [Nat.zero_add]; exact limbs_get (by omega)
      have hg3 : ((limbs c).set (0 + (j + i)) [.int .u32 0])[0 + (j + i)]? = some [.int .u32 0] := by
        rw [List.getElem?_set_self (by simp; omega)]
      have hset : ∀ v, pd[i]'(by omega) = v → c.set (j + i) v = u.take j ++ pd.take (i + 1) ++ u.drop (j + (i + 1)) := fun v hv => by
        have h1 : (u.take j ++ pd.take i).length = j + i := by simp; omega
        rw [hc, List.set_append_right _ _ (by omega), h1, Nat.sub_self, List.drop_eq_getElem_cons (show j + i < u.length by omega), List.take_succ_eq_append_getElem (show i < pd.length by omega), hv]
        simp [List.append_assoc, Nat.add_assoc]
      rcases Nat.lt_or_ge i (lim R).length with hiR | hiR
      · have hpi : pd[i]'(by omega) = (lim R)[i] := by
          have : pd[i]? = some (lim R)[i] := by rw [hpd, List.getElem?_append_left hiR, List.getElem?_eq_getElem hiR]
          rw [List.getElem?_eq_getElem (by omega)] at this; simpa using this
        have hgR : (limbs (lim R))[0 + i]? = some [.int .u32 (((lim R)[i] : Nat) : Int)] := by rw [Nat.zero_add]; exact limbs_get hiR
        repeat' ((conv => whnf); first | (with_reducible first | apply Xa | (first | apply xi | apply xu | apply x8 | apply x3 | apply xn | apply xp | apply xP | refine xs ?_ ?_ | refine xS ?_ ?_ | refine xZ ?_ ?_ | refine xl ?_ ?_ | refine xd ?_ ?_ | refine xy ?_ ?_ | refine xL ?_ ?_ | refine xD ?_ ?_ | apply xx); omega | apply Xm | apply Xe) | refine Xo (by assumption) ?_ | refine Or.inl ⟨rfl, ?_⟩ | (split <;> (first | (rename_i u h; clear u) | rename_i h) <;> (try rewrite [h]) <;> (first | replace h := dt h | replace h := df h | replace h := Nt h | replace h := Nf h | skip)))
        all_goals try omega
        refine ⟨j + i, by omega, by omega, ?_⟩
        repeat' ((conv => whnf); first | (with_reducible first | apply Xa | (first | apply xi | apply xu | apply x8 | apply x3 | apply xn | apply xp | apply xP | refine xs ?_ ?_ | refine xS ?_ ?_ | refine xZ ?_ ?_ | refine xl ?_ ?_ | refine xd ?_ ?_ | refine xy ?_ ?_ | refine xL ?_ ?_ | refine xD ?_ ?_ | apply xx); omega | apply Xm | apply Xe) | refine Xo (by assumption) ?_ | refine Or.inl ⟨rfl, ?_⟩ | (split <;> (first | (rename_i u h; clear u) | rename_i h) <;> (try rewrite [h]) <;> (first | replace h := dt h | replace h := df h | replace h := Nt h | replace h := Nf h | skip)))
        all_goals try omega
        refine ⟨j + i, by omega, by omega, ?_⟩
        repeat' ((conv => whnf); first | (with_reducible first | apply Xa | (first | apply xi | apply xu | apply x8 | apply x3 | apply xn | apply xp | apply xP | refine xs ?_ ?_ | refine xS ?_ ?_ | refine xZ ?_ ?_ | refine xl ?_ ?_ | refine xd ?_ ?_ | refine xy ?_ ?_ | refine xL ?_ ?_ | refine xD ?_ ?_ | apply xx); omega | apply Xm | apply Xe) | refine Xo (by assumption) ?_ | refine Or.inl ⟨rfl, ?_⟩ | (split <;> (first | (rename_i u h; clear u) | rename_i h) <;> (try rewrite [h]) <;> (first | replace h := dt h | replace h := df h | replace h := Nt h | replace h := Nf h | skip)))
        have he : ((limbs c).set (0 + (j + i)) [.int .u32 0]).set (0 + (j + i)) [.int .u32 (((lim R)[i] : Nat) : Int)] = limbs (u.take j ++ pd.take (i + 1) ++ u.drop (j + (i + 1))) := by
          rw [List.set_set, Nat.zero_add, limbs_set c (j + i) (lim R)[i] rfl, hset _ hpi]
        exact ⟨[0, 1], n + 1 - (i + 1), rfl, by omega, i + 1, u.take j ++ pd.take (i + 1) ++ u.drop (j + (i + 1)), by omega, rfl, rfl,
          Eq.trans rfl (congrArg (fun z => (⟨[(0, .own 0 0 (limbs u).length), (2, .int .i64 (j : Nat)), (11, .int .u64 (d : Nat)), (14, .own 1 0 (limbs (lim R)).length), (65, .int .i64 ((limbs w).length : Nat)), (66, .int .i64 ((i + 1 : Nat) : Int))],
            [.row false 111 1 z, .row false 111 1 (limbs (lim R))]⟩ : St)) he)⟩
      · have hpi : pd[i]'(by omega) = 0 := by
          have : pd[i]? = some 0 := by rw [hpd, List.getElem?_append_right hiR, List.getElem?_replicate, if_pos (by omega)]
          rw [List.getElem?_eq_getElem (by omega)] at this; simpa using this
        repeat' ((conv => whnf); first | (with_reducible first | apply Xa | (first | apply xi | apply xu | apply x8 | apply x3 | apply xn | apply xp | apply xP | refine xs ?_ ?_ | refine xS ?_ ?_ | refine xZ ?_ ?_ | refine xl ?_ ?_ | refine xd ?_ ?_ | refine xy ?_ ?_ | refine xL ?_ ?_ | refine xD ?_ ?_ | apply xx); omega | apply Xm | apply Xe) | refine Xo (by assumption) ?_ | refine Or.inl ⟨rfl, ?_⟩ | (split <;> (first | (rename_i u h; clear u) | rename_i h) <;> (try rewrite [h]) <;> (first | replace h := dt h | replace h := df h | replace h := Nt h | replace h := Nf h | skip)))
        all_goals try omega
        refine ⟨j + i, by omega, by omega, ?_⟩
        repeat' ((conv => whnf); first | (with_reducible first | apply Xa | (first | apply xi | apply xu | apply x8 | apply x3 | apply xn | apply xp | apply xP | refine xs ?_ ?_ | refine xS ?_ ?_ | refine xZ ?_ ?_ | refine xl ?_ ?_ | refine xd ?_ ?_ | refine xy ?_ ?_ | refine xL ?_ ?_ | refine xD ?_ ?_ | apply xx); omega | apply Xm | apply Xe) | refine Xo (by assumption) ?_ | refine Or.inl ⟨rfl, ?_⟩ | (split <;> (first | (rename_i u h; clear u) | rename_i h) <;> (try rewrite [h]) <;> (first | replace h := dt h | replace h := df h | replace h := Nt h | replace h := Nf h | skip)))
        all_goals try omega
        have he : (limbs c).set (0 + (j + i)) [.int .u32 0] = limbs (u.take j ++ pd.take (i + 1) ++ u.drop (j + (i + 1))) := by
          rw [Nat.zero_add, limbs_set c (j + i) 0 (e := 0) rfl, hset _ hpi]
        exact ⟨[0, 1], n + 1 - (i + 1), rfl, by omega, i + 1, u.take j ++ pd.take (i + 1) ++ u.drop (j + (i + 1)), by omega, rfl, rfl,
          Eq.trans rfl (congrArg (fun z => (⟨[(0, .own 0 0 (limbs u).length), (2, .int .i64 (j : Nat)), (11, .int .u64 (d : Nat)), (14, .own 1 0 (limbs (lim R)).length), (65, .int .i64 ((limbs w).length : Nat)), (66, .int .i64 ((i + 1 : Nat) : Int))],
            [.row false 111 1 z, .row false 111 1 (limbs (lim R))]⟩ : St)) he)⟩
    · repeat' ((conv => whnf); first | (with_reducible first | apply Xa | (first | apply xi | apply xu | apply x8 | apply x3 | apply xn | apply xp | apply xP | refine xs ?_ ?_ | refine xS ?_ ?_ | refine xZ ?_ ?_ | refine xl ?_ ?_ | refine xd ?_ ?_ | refine xy ?_ ?_ | refine xL ?_ ?_ | refine xD ?_ ?_ | apply xx); omega | apply Xm | apply Xe) | refine Xo (by assumption) ?_ | refine Or.inl ⟨rfl, ?_⟩ | (split <;> (first | (rename_i u h; clear u) | rename_i h) <;> (try rewrite [h]) <;> (first | replace h := dt h | replace h := df h | replace h := Nt h | replace h := Nf h | skip)))
      all_goals try omega
      conv => whnf
      have ei : i = n + 1 := by omega
      have hpt : pd.take (n + 1) = pd := List.take_of_length_le (by omega)
      have hc2 : c = u.take j ++ pd ++ u.drop (j + n + 1) := by rw [hc, ei, hpt, show j + (n + 1) = j + n + 1 by omega]
      have htj : (u.take j).length = j := by simp; omega
      have hdj : c.drop j = pd ++ u.drop (j + n + 1) := by
        rw [hc2, List.append_assoc]; exact List.drop_left' htj
      refine ⟨[0], rfl, ?_, c, rfl, hcl', ?_, ?_, ?_, ?_⟩
      · rw [← hwd, ← hq0, ← hdq]
        exact congrArg (AV.int .u32) (by omega)
      · rw [hc2]
        exact small_append (small_append (small_take hu _) hpds) fun x hx => hu x (List.mem_of_mem_drop hx)
      · rw [hc2, List.append_assoc]; exact List.take_left' htj
      · rw [hdj, List.take_left' hpdl, hpdv, ← hwd, hR]
      · have e1 : c.drop (j + n + 1) = (c.drop j).drop (n + 1) := by rw [List.drop_drop]; rfl
        rw [e1, hdj]; exact List.drop_left' hpdl
end Go.V
namespace Go.V
open Go.N
open Go.RowKit
theorem row_ro {S S' : Nat → Prop} {w : World} {b cap e sz : Nat} {es : List (List AV)} (h : RowAt S w b cap e sz es) (hs : S' b) (hsub : ∀ b, S b → S' b) : RepV S' H0 w (.ro sz es) (.slice (some ⟨b, 0, none⟩) es.length cap) := by
  obtain ⟨cur, vss, hh, hcs, h0, hn, hm, hll, hz, ht⟩ := h
  simp only [RepV]
  refine ⟨_, _, rfl, hn, hm, .inr ⟨_, rfl, hs, (Array.getElem?_eq_some_iff.1 hh).1, vss, RepLL.later (later_sub hsub) _ _ hll, hz, fun i vs hi k u hk => ?_⟩⟩
  have hf := take_flatten (fun vs hv => (hz vs hv).1) hi hk
  rw [← ht, List.getElem?_take] at hf
  rw [addr_add, show 0 + (i * sz + k) = i * sz + k by omega, cell_of_row w _ _ cur e (0, 0) hh]
  split at hf
  · simpa using hf
  · cases hf
theorem VCall.frozen {P : Program} {gl : Gl} {f : FuncId} {args : List AV} {e sz : Nat} {es : List (List AV)} (h : VCall P gl f args (fun x => x = .fr e sz es)) : VCall P gl f args (fun x => x = .ro sz es) := by
  intro S w vs h1 h2 h3
  refine (h S w vs h1 h2 h3).mono fun v w' hh => ?_
  obtain ⟨x, rfl, ⟨S', F, hF, hnd, hFS, hS'⟩, hb⟩ := hh
  refine ⟨_, rfl, ?_, hb⟩
  simp only [RepF] at hF
  obtain ⟨b, cap, rfl, rfl, hB, hrow⟩ := hF
  refine ⟨fun q => S' q ∨ q = b, [], ?_, by simp, by simp, ?_⟩
  · simp only [RepF]
    exact ⟨trivial, row_ro hrow (.inr rfl) fun q hq => .inl hq⟩
  · rintro q (hq | rfl)
    · exact hS' q hq
    · obtain ⟨cur, vss, hh, _⟩ := hrow
      exact ⟨(Array.getElem?_eq_some_iff.1 hh).1, .inr hB⟩
variable (gl : Gl)
def T_divide : Tab := [(143, i143), (111, i111), (3, i3), (85, i85), (114, i114)]
theorem TOK_divide : TOK Go.Proofs.Tryz.prog T_divide := ⟨K143, ⟨K111, ⟨K3, ⟨K85, ⟨K114, trivial⟩⟩⟩⟩⟩
def LX (x : AV) (n : Nat) : Prop := x = .fr 111 1 (limbs (lim n)) ∨ x = .ro 1 (limbs (lim n)) ∨ (n = 0 ∧ x = .nils)
theorem lim_one {b : Nat} (h : (lim b).length = 1) : b < 4294967296 ∧ 0 < b ∧ lim b = [b] := by
  have h1 : b < BB := by
    have := (lim_len_lt b 1).1 (by omega)
    simpa using this
  have h0 : b ≠ 0 := fun e => by rw [e, lim_zero] at h; simp at h
  refine ⟨h1, by omega, ?_⟩
  rw [lim_pos h0, Nat.mod_eq_of_lt h1, Nat.div_eq_of_lt h1, lim_zero]
theorem shl32n (x n : Nat) (hn : n < 32) (h : x * 2 ^ n < 4294967296) : ((x * 2 ^ n : Nat) : Int) = IntKind.wrap .u32 ((x : Int) * 2 ^ (min ((n : Nat) : Int).toNat (IntKind.bits .u32))) := by
  have e : min ((n : Nat) : Int).toNat (IntKind.bits .u32) = n := by simp [IntKind.bits]; omega
  have e2 : (x : Int) * 2 ^ n = ((x * 2 ^ n : Nat) : Int) := by simp
  rw [e, e2]
  generalize x * 2 ^ n = q at h
  exact wu32 (by omega) (by omega)
theorem shr31 (n : Nat) : ((n / 2147483648 : Nat) : Int) = Int.fdiv (n : Int) (2 ^ (min (Int.toNat 31) (IntKind.bits .u32))) := by
  have e : (2 : Int) ^ (min (Int.toNat 31) (IntKind.bits .u32)) = ((2147483648 : Nat) : Int) := by decide
  rw [e, Int.fdiv_eq_ediv_of_nonneg _ (by omega)]; omega
set_option maxHeartbeats 4000000 in
theorem c_divide (a b : Nat) (hb0 : 0 < b) (ha : (lim a).length < 400000) (hb : (lim b).length < 400000) : VCall Go.Proofs.Tryz.prog gl 113 [.ro 1 (limbs (lim a)), .ro 1 (limbs (lim b))]
    (fun x => ∃ q r, x = .tup [q, r] ∧ LX q (a / b) ∧ LX r (a % b)) := by
  refine vcall_of TOK_divide HM Go.Proofs.Tryz.func113 rfl (by decide +kernel) (by decide +kernel) rfl ?_
  have hla : (limbs (lim a)).length = (lim a).length := limbs_length _
  have hlb : (limbs (lim b)).length = (lim b).length := limbs_length _
  repeat' ((conv => whnf); first | (with_reducible first | apply Xa | (first | apply xi | apply xu | apply x8 | apply x3 | apply xn | apply xp | apply xP | refine xs ?_ ?_ | refine xS ?_ ?_ | refine xZ ?_ ?_ | refine xl ?_ ?_ | refine xd ?_ ?_ | refine xy ?_ ?_ | refine xL ?_ ?_ | refine xD ?_ ?_ | apply xx); omega | apply Xm | apply Xe) | refine Xo (by assumption) ?_ | refine Or.inl ⟨rfl, ?_⟩ | (split <;> (first | (rename_i u h; clear u) | rename_i h) <;> (try rewrite [h]) <;> (first | replace h := dt h | replace h := df h | replace h := Nt h | replace h := Nf h | skip)))
  conv => whnf
  refine .inl ⟨_, c_compare gl a b (by omega) (by omega), ?_⟩
  rintro _ rfl
  rcases Nat.lt_or_ge a b with hab | hab
  · have hc : cmpN a b = -1 := cmpN_lt hab
    repeat' ((conv => whnf); first | (with_reducible first | apply Xa | (first | apply xi | apply xu | apply x8 | apply x3 | apply xn | apply xp | apply xP | refine xs ?_ ?_ | refine xS ?_ ?_ | refine xZ ?_ ?_ | refine xl ?_ ?_ | refine xd ?_ ?_ | refine xy ?_ ?_ | refine xL ?_ ?_ | refine xD ?_ ?_ | apply xx); omega | apply Xm | apply Xe) | refine Xo (by assumption) ?_ | refine Or.inl ⟨rfl, ?_⟩ | (split <;> (first | (rename_i u h; clear u) | rename_i h) <;> (try rewrite [h]) <;> (first | replace h := dt h | replace h := df h | replace h := Nt h | replace h := Nf h | skip)))
    all_goals try omega
    conv => whnf
    exact ⟨_, _, rfl, .inr (.inr ⟨Nat.div_eq_of_lt hab, rfl⟩), .inr (.inl (by rw [Nat.mod_eq_of_lt hab]))⟩
  have hc : 0 ≤ cmpN a b := cmpN_ge.2 hab
  by_cases h1 : (lim b).length = 1
  · obtain ⟨hb1, _, hb2⟩ := lim_one h1
    have hv0 : (lim b)[0]'(by omega) = b := by
      have : (lim b)[0]? = some b := by rw [hb2]; rfl
      rw [List.getElem?_eq_getElem (by omega)] at this; simpa using this
    obtain ⟨b0, hb0'⟩ : ∃ b0, b0 = (lim b)[0]'(by omega) := ⟨_, rfl⟩
    repeat' ((conv => whnf); first | (with_reducible first | apply Xa | (first | apply xi | apply xu | apply x8 | apply x3 | apply xn | apply xp | apply xP | refine xs ?_ ?_ | refine xS ?_ ?_ | refine xZ ?_ ?_ | refine xl ?_ ?_ | refine xd ?_ ?_ | refine xy ?_ ?_ | refine xL ?_ ?_ | refine xD ?_ ?_ | apply xx); omega | apply Xm | apply Xe) | refine Xo (by assumption) ?_ | refine Or.inl ⟨rfl, ?_⟩ | (split <;> (first | (rename_i u h; clear u) | rename_i h) <;> (try rewrite [h]) <;> (first | replace h := dt h | replace h := df h | replace h := Nt h | replace h := Nf h | skip)))
    all_goals try omega
    conv => whnf
    have hsm := c_small gl (lim a) ((lim b)[0]'(by omega)) (lim_small a) (by omega) (by omega) (by omega)
    refine .inl ⟨_, hsm, ?_⟩
    rintro _ ⟨q, rfl, hq⟩
    have hmod : lval (lim a) % (lim b)[0]'(by omega) = a % b := by rw [lval_lim, hv0]
    have hdiv : lval (lim a) / (lim b)[0]'(by omega) = a / b := by rw [lval_lim, hv0]
    rw [hdiv] at hq
    have hmb := Nat.mod_lt a hb0
    have hlq : LX q (a / b) := by
      rcases hq with h | ⟨hnil, h⟩
      · exact .inl h
      · refine .inr (.inl ?_)
        have ha0 : a = 0 := (lim_len_zero a).1 (by rw [hnil]; rfl)
        omega
    have hq2 : q = .fr 111 1 (limbs (lim (a / b))) := by
      rcases hq with h | ⟨hnil, h⟩
      · exact h
      · have ha0 : a = 0 := (lim_len_zero a).1 (by rw [hnil]; rfl)
        omega
    subst hq2
    repeat' ((conv => whnf); first | (with_reducible first | apply Xa | (first | apply xi | apply xu | apply x8 | apply x3 | apply xn | apply xp | apply xP | refine xs ?_ ?_ | refine xS ?_ ?_ | refine xZ ?_ ?_ | refine xl ?_ ?_ | refine xd ?_ ?_ | refine xy ?_ ?_ | refine xL ?_ ?_ | refine xD ?_ ?_ | apply xx); omega | apply Xm | apply Xe) | refine Xo (by assumption) ?_ | refine Or.inl ⟨rfl, ?_⟩ | (split <;> (first | (rename_i u h; clear u) | rename_i h) <;> (try rewrite [h]) <;> (first | replace h := dt h | replace h := df h | replace h := Nt h | replace h := Nf h | skip)))
    conv => whnf
    have htr := c_trimH gl [(lval (lim a) % (lim b)[0]'(by omega)) % 4294967296] (by simp [small, BB]; omega) (by simp)
    refine .inr ⟨[1], rfl, _, htr, ?_⟩
    rintro _ _ ⟨rfl, hpre, rfl⟩
    repeat' ((conv => whnf); first | (with_reducible first | apply Xa | (first | apply xi | apply xu | apply x8 | apply x3 | apply xn | apply xp | apply xP | refine xs ?_ ?_ | refine xS ?_ ?_ | refine xZ ?_ ?_ | refine xl ?_ ?_ | refine xd ?_ ?_ | refine xy ?_ ?_ | refine xL ?_ ?_ | refine xD ?_ ?_ | apply xx); omega | apply Xm | apply Xe) | refine Xo (by assumption) ?_ | refine Or.inl ⟨rfl, ?_⟩ | (split <;> (first | (rename_i u h; clear u) | rename_i h) <;> (try rewrite [h]) <;> (first | replace h := dt h | replace h := df h | replace h := Nt h | replace h := Nf h | skip)))
    conv => whnf
    refine .inr (.inl ⟨_, _, rfl, hlq, .inl ?_⟩)
    have hlv : lval [(lval (lim a) % (lim b)[0]'(by omega)) % 4294967296] = a % b := by
      rw [hmod, Nat.mod_eq_of_lt (by omega)]; simp [lval]
    rw [hlv] at hpre
    show AV.fr _ _ ((limbs [(lval (lim a) % (lim b)[0]'(by omega)) % 4294967296]).take (lim (lval [(lval (lim a) % (lim b)[0]'(by omega)) % 4294967296])).length) = _
    rw [hlv, limbs_take, ← hpre]
  · have hb1 : 1 < (lim b).length := by
      have := (lim_len_zero b).1
      omega
    obtain ⟨x, hx⟩ : ∃ x, x = (lim b)[(lim b).length - 1]'(by omega) := ⟨_, rfl⟩
    have hgx : (limbs (lim b))[(lim b).length - 1]? = some [.int .u32 ((x : Nat) : Int)] := by rw [hx]; exact limbs_get (by omega)
    have hx1 : x < 4294967296 := by rw [hx]; exact lim_small b _ (List.getElem_mem _)
    have hx0 : x ≠ 0 := lim_last b x (by rw [List.getLast?_eq_getElem?, List.getElem?_eq_getElem (by omega), ← hx])
    repeat' ((conv => whnf); first | (with_reducible first | apply Xa | (first | apply xi | apply xu | apply x8 | apply x3 | apply xn | apply xp | apply xP | refine xs ?_ ?_ | refine xS ?_ ?_ | refine xZ ?_ ?_ | refine xl ?_ ?_ | refine xd ?_ ?_ | refine xy ?_ ?_ | refine xL ?_ ?_ | refine xD ?_ ?_ | apply xx); omega | apply Xm | apply Xe) | refine Xo (by assumption) ?_ | refine Or.inl ⟨rfl, ?_⟩ | (split <;> (first | (rename_i u h; clear u) | rename_i h) <;> (try rewrite [h]) <;> (first | replace h := dt h | replace h := df h | replace h := Nt h | replace h := Nf h | skip)))
    all_goals try omega
    conv => whnf
    refine ⟨[0, 1, 8], [], fun kk st => ∃ n : Nat, n < 32 ∧ x * 2 ^ n < 4294967296 ∧ kk = 32 - n ∧ st = ⟨[(0, .ro 1 (limbs (lim a))), (1, .ro 1 (limbs (lim b))), (8, .int .u64 (n : Nat))], []⟩, rfl, ⟨32, 0, by omega, by simpa using hx1, rfl, rfl⟩, ?_⟩
    rintro kk _ ⟨n, hn, hxn, hkk, rfl⟩
    repeat' ((conv => whnf); first | (with_reducible first | apply Xa | (first | apply xi | apply xu | apply x8 | apply x3 | apply xn | apply xp | apply xP | refine xs ?_ ?_ | refine xS ?_ ?_ | refine xZ ?_ ?_ | refine xl ?_ ?_ | refine xd ?_ ?_ | refine xy ?_ ?_ | refine xL ?_ ?_ | refine xD ?_ ?_ | apply xx); omega | apply Xm | apply Xe) | refine Xo (by assumption) ?_ | refine Or.inl ⟨rfl, ?_⟩ | (split <;> (first | (rename_i u h; clear u) | rename_i h) <;> (try rewrite [h]) <;> (first | replace h := dt h | replace h := df h | replace h := Nt h | replace h := Nf h | skip)))
    refine ⟨(lim b).length - 1, _, by omega, hgx, ?_⟩
    repeat' ((conv => whnf); first | (with_reducible first | apply Xa | (first | apply xi | apply xu | apply x8 | apply x3 | apply xn | apply xp | apply xP | refine xs ?_ ?_ | refine xS ?_ ?_ | refine xZ ?_ ?_ | refine xl ?_ ?_ | refine xd ?_ ?_ | refine xy ?_ ?_ | refine xL ?_ ?_ | refine xD ?_ ?_ | apply xx); omega | apply Xm | apply Xe) | refine Xo (by assumption) ?_ | refine Or.inl ⟨rfl, ?_⟩ | (split <;> (first | (rename_i u h; clear u) | rename_i h) <;> (try rewrite [h]) <;> (first | replace h := dt h | replace h := df h | replace h := Nt h | replace h := Nf h | skip)))
    refine ⟨by omega, _, shl32n x n hn hxn, ?_⟩
    repeat' ((conv => whnf); first | (with_reducible first | apply Xa | (first | apply xi | apply xu | apply x8 | apply x3 | apply xn | apply xp | apply xP | refine xs ?_ ?_ | refine xS ?_ ?_ | refine xZ ?_ ?_ | refine xl ?_ ?_ | refine xd ?_ ?_ | refine xy ?_ ?_ | refine xL ?_ ?_ | refine xD ?_ ?_ | apply xx); omega | apply Xm | apply Xe) | refine Xo (by assumption) ?_ | refine Or.inl ⟨rfl, ?_⟩ | (split <;> (first | (rename_i u h; clear u) | rename_i h) <;> (try rewrite [h]) <;> (first | replace h := dt h | replace h := df h | replace h := Nt h | replace h := Nf h | skip)))
    refine ⟨by decide, _, shr31 (x * 2 ^ n), ?_⟩
    obtain ⟨y, hy⟩ : ∃ y, y = x * 2 ^ n := ⟨_, rfl⟩
    rcases Nat.lt_or_ge (x * 2 ^ n) 2147483648 with hlt | hge
    · have hy0 : x * 2 ^ n / 2147483648 = 0 := Nat.div_eq_of_lt hlt
      repeat' ((conv => whnf); first | (with_reducible first | apply Xa | (first | apply xi | apply xu | apply x8 | apply x3 | apply xn | apply xp | apply xP | refine xs ?_ ?_ | refine xS ?_ ?_ | refine xZ ?_ ?_ | refine xl ?_ ?_ | refine xd ?_ ?_ | refine xy ?_ ?_ | refine xL ?_ ?_ | refine xD ?_ ?_ | apply xx); omega | apply Xm | apply Xe) | refine Xo (by assumption) ?_ | refine Or.inl ⟨rfl, ?_⟩ | (split <;> (first | (rename_i u h; clear u) | rename_i h) <;> (try rewrite [h]) <;> (first | replace h := dt h | replace h := df h | replace h := Nt h | replace h := Nf h | skip)))
      all_goals try omega
      have hp1 : x * 2 ^ (n + 1) < 4294967296 := by rw [Nat.pow_succ, ← Nat.mul_assoc]; omega
      have hn1 : n + 1 < 32 := by
        rcases Nat.lt_or_ge (n + 1) 32 with h | h
        · exact h
        · have h2 : 2 ^ 32 ≤ 2 ^ (n + 1) := Nat.pow_le_pow_right (by omega) h
          have h3 : 1 * 2 ^ (n + 1) ≤ x * 2 ^ (n + 1) := Nat.mul_le_mul_right _ (by omega)
          omega
      exact ⟨[], 32 - (n + 1), rfl, by omega, n + 1, hn1, hp1, rfl, rfl⟩
    · have hy0 : 1 ≤ x * 2 ^ n / 2147483648 := (Nat.le_div_iff_mul_le (by omega)).2 (by omega)
      clear hy
      repeat' ((conv => whnf); first | (with_reducible first | apply Xa | (first | apply xi | apply xu | apply x8 | apply x3 | apply xn | apply xp | apply xP | refine xs ?_ ?_ | refine xS ?_ ?_ | refine xZ ?_ ?_ | refine xl ?_ ?_ | refine xd ?_ ?_ | refine xy ?_ ?_ | refine xL ?_ ?_ | refine xD ?_ ?_ | apply xx); omega | apply Xm | apply Xe) | refine Xo (by assumption) ?_ | refine Or.inl ⟨rfl, ?_⟩ | (split <;> (first | (rename_i u h; clear u) | rename_i h) <;> (try rewrite [h]) <;> (first | replace h := dt h | replace h := df h | replace h := Nt h | replace h := Nf h | skip)))
      all_goals try omega
      conv => whnf
      obtain ⟨A, hA⟩ : ∃ A, A = a * 2 ^ n := ⟨_, rfl⟩
      obtain ⟨V, hV⟩ : ∃ V, V = b * 2 ^ n := ⟨_, rfl⟩
      have hpw : 0 < 2 ^ n := Nat.pow_pos (by omega)
      have hsa := c_shift gl (lim a) n (lim_small a) (by omega) hn
      have hsb := (c_shift gl (lim b) n (lim_small b) (by omega) hn).frozen
      rw [lval_lim, ← hA] at hsa
      rw [lval_lim, ← hV] at hsb
      refine .inl ⟨_, hsa, ?_⟩
      rintro _ rfl
      repeat' ((conv => whnf); first | (with_reducible first | apply Xa | (first | apply xi | apply xu | apply x8 | apply x3 | apply xn | apply xp | apply xP | refine xs ?_ ?_ | refine xS ?_ ?_ | refine xZ ?_ ?_ | refine xl ?_ ?_ | refine xd ?_ ?_ | refine xy ?_ ?_ | refine xL ?_ ?_ | refine xD ?_ ?_ | apply xx); omega | apply Xm | apply Xe) | refine Xo (by assumption) ?_ | refine Or.inl ⟨rfl, ?_⟩ | (split <;> (first | (rename_i u h; clear u) | rename_i h) <;> (try rewrite [h]) <;> (first | replace h := dt h | replace h := df h | replace h := Nt h | replace h := Nf h | skip)))
      conv => whnf
      have hVpos : 0 < V := by rw [hV]; exact Nat.mul_pos hb0 hpw
      have hVA : V ≤ A := by rw [hV, hA]; exact Nat.mul_le_mul_right _ hab
      have haA : a ≤ A := by rw [hA]; exact Nat.le_mul_of_pos_right a hpw
      have hbV : b ≤ V := by rw [hV]; exact Nat.le_mul_of_pos_right b hpw
      have hlA1 := lim_mono haA
      have hlV1 := lim_mono hbV
      have hlVA := lim_mono hVA
      have hlA2 : (lim A).length ≤ (lim a).length + 1 := by
        refine (lim_len_lt _ _).2 ?_
        have h1 : a < BB ^ (lim a).length := (lim_len_lt a _).1 (Nat.le_refl _)
        have h2 : 2 ^ n ≤ BB := (Nat.pow_le_pow_right (by omega) (show n ≤ 32 by omega) : 2 ^ n ≤ 2 ^ 32)
        have h3 : a * 2 ^ n < BB ^ (lim a).length * 2 ^ n := Nat.mul_lt_mul_of_pos_right h1 hpw
        have h4 : BB ^ (lim a).length * 2 ^ n ≤ BB ^ (lim a).length * BB := Nat.mul_le_mul_left _ h2
        rw [hA, Nat.pow_succ]; omega
      have hlA : (limbs (lim A)).length = (lim A).length := limbs_length _
      have hlV : (limbs (lim V)).length = (lim V).length := limbs_length _
      have hlU : (limbs (lim A ++ [0])).length = (lim A).length + 1 := by simp
      refine ⟨Nat.le_refl _, (show ((limbs (lim A)).length + 1) * 4 ≤ _ by omega), _, limbs_snoc (lim A) 0, ?_⟩
      repeat' ((conv => whnf); first | (with_reducible first | apply Xa | (first | apply xi | apply xu | apply x8 | apply x3 | apply xn | apply xp | apply xP | refine xs ?_ ?_ | refine xS ?_ ?_ | refine xZ ?_ ?_ | refine xl ?_ ?_ | refine xd ?_ ?_ | refine xy ?_ ?_ | refine xL ?_ ?_ | refine xD ?_ ?_ | apply xx); omega | apply Xm | apply Xe) | refine Xo (by assumption) ?_ | refine Or.inl ⟨rfl, ?_⟩ | (split <;> (first | (rename_i u h; clear u) | rename_i h) <;> (try rewrite [h]) <;> (first | replace h := dt h | replace h := df h | replace h := Nt h | replace h := Nf h | skip)))
      conv => whnf
      refine .inl ⟨_, hsb, ?_⟩
      rintro _ rfl
      repeat' ((conv => whnf); first | (with_reducible first | apply Xa | (first | apply xi | apply xu | apply x8 | apply x3 | apply xn | apply xp | apply xP | refine xs ?_ ?_ | refine xS ?_ ?_ | refine xZ ?_ ?_ | refine xl ?_ ?_ | refine xd ?_ ?_ | refine xy ?_ ?_ | refine xL ?_ ?_ | refine xD ?_ ?_ | apply xx); omega | apply Xm | apply Xe) | refine Xo (by assumption) ?_ | refine Or.inl ⟨rfl, ?_⟩ | (split <;> (first | (rename_i u h; clear u) | rename_i h) <;> (try rewrite [h]) <;> (first | replace h := dt h | replace h := df h | replace h := Nt h | replace h := Nf h | skip)))
      all_goals try omega
      conv => whnf
      obtain ⟨m, hm⟩ : ∃ m, m = (lim A).length + 1 - (lim V).length := ⟨_, rfl⟩
      refine ⟨by omega, by omega, by omega, (show (_ : Int) * 4 ≤ _ by omega), m, by omega, ?_⟩
      obtain ⟨tp, htp⟩ : ∃ tp, tp = (lim V)[(lim V).length - 1]'(by omega) := ⟨_, rfl⟩
      have hgV : (limbs (lim V))[(lim V).length - 1]? = some [.int .u32 ((tp : Nat) : Int)] := by rw [htp]; exact limbs_get (by omega)
      have htpb : tp < 4294967296 := by rw [htp]; exact lim_small V _ (List.getElem_mem _)
      repeat' ((conv => whnf); first | (with_reducible first | apply Xa | (first | apply xi | apply xu | apply x8 | apply x3 | apply xn | apply xp | apply xP | refine xs ?_ ?_ | refine xS ?_ ?_ | refine xZ ?_ ?_ | refine xl ?_ ?_ | refine xd ?_ ?_ | refine xy ?_ ?_ | refine xL ?_ ?_ | refine xD ?_ ?_ | apply xx); omega | apply Xm | apply Xe) | refine Xo (by assumption) ?_ | refine Or.inl ⟨rfl, ?_⟩ | (split <;> (first | (rename_i u h; clear u) | rename_i h) <;> (try rewrite [h]) <;> (first | replace h := dt h | replace h := df h | replace h := Nt h | replace h := Nf h | skip)))
      refine ⟨(lim V).length - 1, _, by omega, hgV, ?_⟩
      repeat' ((conv => whnf); first | (with_reducible first | apply Xa | (first | apply xi | apply xu | apply x8 | apply x3 | apply xn | apply xp | apply xP | refine xs ?_ ?_ | refine xS ?_ ?_ | refine xZ ?_ ?_ | refine xl ?_ ?_ | refine xd ?_ ?_ | refine xy ?_ ?_ | refine xL ?_ ?_ | refine xD ?_ ?_ | apply xx); omega | apply Xm | apply Xe) | refine Xo (by assumption) ?_ | refine Or.inl ⟨rfl, ?_⟩ | (split <;> (first | (rename_i u h; clear u) | rename_i h) <;> (try rewrite [h]) <;> (first | replace h := dt h | replace h := df h | replace h := Nt h | replace h := Nf h | skip)))
      conv => whnf
      have hU0 : lval (lim A ++ [0]) = A := by rw [lval_append, lval_lim]; simp [lval]
      have hVn : V < BB ^ (lim V).length := (lim_len_lt V _).1 (Nat.le_refl _)
      have hVn1 : BB ^ ((lim V).length - 1) ≤ V := by
        rcases Nat.lt_or_ge V (BB ^ ((lim V).length - 1)) with h | h
        · have := (lim_len_lt V _).2 h
          omega
        · exact h
      refine ⟨[8, 9, 10, 11, 12, 13], [2, 3], fun kk st => ∃ (k : Nat) (U qs : List Nat), k ≤ m ∧ kk = k ∧ U.length = (lim A).length + 1 ∧ small U ∧ U.take k = (lim A ++ [0]).take k ∧ lval (U.drop k) < V ∧ qs.length = m - k ∧ small qs ∧
        lval ((lim A ++ [0]).drop k) = V * lval qs + lval (U.drop k) ∧
        st = ⟨[(8, .int .u64 (n : Nat)), (9, .own 0 0 (limbs (lim A ++ [0])).length), (10, .ro 1 (limbs (lim V))), (11, .own 1 0 m), (12, .int .u64 (tp : Nat)), (13, .int .i64 ((k : Int) - 1))],
          [.row false 111 1 (limbs U), .row false 111 1 (limbs (List.replicate k 0 ++ qs))]⟩, rfl,
        ⟨m, m, lim A ++ [0], [], Nat.le_refl _, rfl, by simp, small_append (lim_small A) (by simp [small, BB]), rfl, ?_, by simp, by simp [small], by simp [lval], ?_⟩, ?_⟩
      · have e1 : (lim A ++ [0]).drop m = (lim A).drop m ++ [0] := by rw [List.drop_append_of_le_length (by omega)]
        rw [e1, lval_append]
        have h1 := lval_lt (l := (lim A).drop m) fun x hx => lim_small A x (List.mem_of_mem_drop hx)
        rw [List.length_drop, show (lim A).length - m = (lim V).length - 1 by omega] at h1
        simp only [lval]; omega
      · have he : limbs (List.replicate m 0 ++ []) = List.replicate m [AV.int .u32 0] := by simp [limbs]
        rw [he]; rfl
      rintro kk _ ⟨k, U, qs, hk, hkk, hUl, hUs, hUt, hUd, hql, hqs, hinv, rfl⟩
      have hUL : (limbs U).length = (limbs (lim A ++ [0])).length := by simp [hUl]
      rcases k with _ | k
      · repeat' ((conv => whnf); first | (with_reducible first | apply Xa | (first | apply xi | apply xu | apply x8 | apply x3 | apply xn | apply xp | apply xP | refine xs ?_ ?_ | refine xS ?_ ?_ | refine xZ ?_ ?_ | refine xl ?_ ?_ | refine xd ?_ ?_ | refine xy ?_ ?_ | refine xL ?_ ?_ | refine xD ?_ ?_ | apply xx); omega | apply Xm | apply Xe) | refine Xo (by assumption) ?_ | refine Or.inl ⟨rfl, ?_⟩ | (split <;> (first | (rename_i u h; clear u) | rename_i h) <;> (try rewrite [h]) <;> (first | replace h := dt h | replace h := df h | replace h := Nt h | replace h := Nf h | skip)))
        all_goals try omega
        conv => whnf
        simp only [List.drop_zero] at hinv hUd
        rw [hU0] at hinv
        have hR : lval U = A % V := by rw [hinv, Nat.mul_add_mod, Nat.mod_eq_of_lt hUd]
        have hQ : lval qs = A / V := by rw [hinv, Nat.mul_add_div hVpos, Nat.div_eq_of_lt hUd, Nat.add_zero]
        have hQ2 : lval qs = a / b := by rw [hQ, hA, hV, Nat.mul_div_mul_right _ _ hpw]
        have hR2 : lval U = (a % b) * 2 ^ n := by rw [hR, hA, hV, Nat.mul_mod_mul_right]
        have hR3 : lval U / 2 ^ n = a % b := by rw [hR2, Nat.mul_div_cancel _ hpw]
        have hcU : VCall Go.Proofs.Tryz.prog gl 129 [.ro 1 (List.take (limbs (lim A ++ [0])).length (List.drop 0 (limbs U)))] (fun x => x = .fr 111 1 (limbs U) ∨ (U = [] ∧ x = .nils)) := by
          rw [← hUL, List.drop_zero, List.take_length]; exact c_Clone gl U (by omega)
        refine .inl ⟨_, hcU, ?_⟩
        rintro _ (rfl | ⟨hnil, _⟩)
        rotate_left
        · rw [hnil] at hUl; simp at hUl
        conv => whnf
        refine ⟨false, flat_limbs _, ?_⟩
        repeat' ((conv => whnf); first | (with_reducible first | apply Xa | (first | apply xi | apply xu | apply x8 | apply x3 | apply xn | apply xp | apply xP | refine xs ?_ ?_ | refine xS ?_ ?_ | refine xZ ?_ ?_ | refine xl ?_ ?_ | refine xd ?_ ?_ | refine xy ?_ ?_ | refine xL ?_ ?_ | refine xD ?_ ?_ | apply xx); omega | apply Xm | apply Xe) | refine Xo (by assumption) ?_ | refine Or.inl ⟨rfl, ?_⟩ | (split <;> (first | (rename_i u h; clear u) | rename_i h) <;> (try rewrite [h]) <;> (first | replace h := dt h | replace h := df h | replace h := Nt h | replace h := Nf h | skip)))
        conv => whnf
        refine .inr ⟨[2], rfl, _, c_trimH gl U hUs (by omega), ?_⟩
        rintro _ _ ⟨rfl, hpre, rfl⟩
        repeat' ((conv => whnf); first | (with_reducible first | apply Xa | (first | apply xi | apply xu | apply x8 | apply x3 | apply xn | apply xp | apply xP | refine xs ?_ ?_ | refine xS ?_ ?_ | refine xZ ?_ ?_ | refine xl ?_ ?_ | refine xd ?_ ?_ | refine xy ?_ ?_ | refine xL ?_ ?_ | refine xD ?_ ?_ | apply xx); omega | apply Xm | apply Xe) | refine Xo (by assumption) ?_ | refine Or.inl ⟨rfl, ?_⟩ | (split <;> (first | (rename_i u h; clear u) | rename_i h) <;> (try rewrite [h]) <;> (first | replace h := dt h | replace h := df h | replace h := Nt h | replace h := Nf h | skip)))
        refine ⟨by omega, _, shl_one n hn, ?_⟩
        repeat' ((conv => whnf); first | (with_reducible first | apply Xa | (first | apply xi | apply xu | apply x8 | apply x3 | apply xn | apply xp | apply xP | refine xs ?_ ?_ | refine xS ?_ ?_ | refine xZ ?_ ?_ | refine xl ?_ ?_ | refine xd ?_ ?_ | refine xy ?_ ?_ | refine xL ?_ ?_ | refine xD ?_ ?_ | apply xx); omega | apply Xm | apply Xe) | refine Xo (by assumption) ?_ | refine Or.inl ⟨rfl, ?_⟩ | (split <;> (first | (rename_i u h; clear u) | rename_i h) <;> (try rewrite [h]) <;> (first | replace h := dt h | replace h := df h | replace h := Nt h | replace h := Nf h | skip)))
        conv => whnf
        have hRl : (lim (lval U)).length < 1000000 := by
          have := congrArg List.length hpre
          rw [List.length_take] at this; omega
        have hn32 : 2 ^ n < 4294967296 := Nat.pow_lt_pow_right (n := 32) (by omega) hn
        have hsm := c_small gl (lim (lval U)) (2 ^ n) (lim_small _) hRl hpw hn32
        rw [lval_lim, hR3] at hsm
        have hsm2 : VCall Go.Proofs.Tryz.prog gl 126 [.ro 1 (List.take (lim (lval U)).length (List.drop 0 (limbs U))), .int .u64 ((2 ^ n : Nat) : Int)]
            (fun x => ∃ q, x = .tup [q, .int .u64 ((lval U % 2 ^ n : Nat) : Int)] ∧ (q = .fr 111 1 (limbs (lim (a % b))) ∨ (lim (lval U) = [] ∧ q = .ro 1 (limbs [])))) := by
          have e : List.take (lim (lval U)).length (List.drop 0 (limbs U)) = limbs (lim (lval U)) := by rw [List.drop_zero, limbs_take, ← hpre]
          rw [e]; exact hsm
        have hqsl : (limbs (List.replicate 0 0 ++ qs)).length = m := by simp [hql]
        have htq := c_trimH gl (List.replicate 0 0 ++ qs) (by simpa using hqs) (by simp; omega)
        rw [hqsl] at htq
        have hqv : lval (List.replicate 0 0 ++ qs) = a / b := by simpa using hQ2
        refine .inl ⟨_, hsm2, ?_⟩
        rintro _ ⟨q, rfl, rfl | ⟨hnil, rfl⟩⟩
        · conv => whnf
          refine ⟨false, flat_tup2 (flat_limbs _) flat_int, ?_⟩
          repeat' ((conv => whnf); first | (with_reducible first | apply Xa | (first | apply xi | apply xu | apply x8 | apply x3 | apply xn | apply xp | apply xP | refine xs ?_ ?_ | refine xS ?_ ?_ | refine xZ ?_ ?_ | refine xl ?_ ?_ | refine xd ?_ ?_ | refine xy ?_ ?_ | refine xL ?_ ?_ | refine xD ?_ ?_ | apply xx); omega | apply Xm | apply Xe) | refine Xo (by assumption) ?_ | refine Or.inl ⟨rfl, ?_⟩ | (split <;> (first | (rename_i u h; clear u) | rename_i h) <;> (try rewrite [h]) <;> (first | replace h := dt h | replace h := df h | replace h := Nt h | replace h := Nf h | skip)))
          conv => whnf
          refine .inr ⟨[1], rfl, _, htq, ?_⟩
          rintro _ _ ⟨rfl, hpre2, rfl⟩
          repeat' ((conv => whnf); first | (with_reducible first | apply Xa | (first | apply xi | apply xu | apply x8 | apply x3 | apply xn | apply xp | apply xP | refine xs ?_ ?_ | refine xS ?_ ?_ | refine xZ ?_ ?_ | refine xl ?_ ?_ | refine xd ?_ ?_ | refine xy ?_ ?_ | refine xL ?_ ?_ | refine xD ?_ ?_ | apply xx); omega | apply Xm | apply Xe) | refine Xo (by assumption) ?_ | refine Or.inl ⟨rfl, ?_⟩ | (split <;> (first | (rename_i u h; clear u) | rename_i h) <;> (try rewrite [h]) <;> (first | replace h := dt h | replace h := df h | replace h := Nt h | replace h := Nf h | skip)))
          conv => whnf
          rw [hqv] at hpre2
          refine .inr (.inl ?_)
          repeat' ((conv => whnf); first | (with_reducible first | apply Xa | (first | apply xi | apply xu | apply x8 | apply x3 | apply xn | apply xp | apply xP | refine xs ?_ ?_ | refine xS ?_ ?_ | refine xZ ?_ ?_ | refine xl ?_ ?_ | refine xd ?_ ?_ | refine xy ?_ ?_ | refine xL ?_ ?_ | refine xD ?_ ?_ | apply xx); omega | apply Xm | apply Xe) | refine Xo (by assumption) ?_ | refine Or.inl ⟨rfl, ?_⟩ | (split <;> (first | (rename_i u h; clear u) | rename_i h) <;> (try rewrite [h]) <;> (first | replace h := dt h | replace h := df h | replace h := Nt h | replace h := Nf h | skip)))
          conv => whnf
          refine ⟨_, _, rfl, .inl ?_, .inl rfl⟩
          show AV.fr _ _ ((limbs (List.replicate 0 0 ++ qs)).take (lim (lval (List.replicate 0 0 ++ qs))).length) = _
          rw [hqv, limbs_take, ← hpre2]
        · repeat' ((conv => whnf); first | (with_reducible first | apply Xa | (first | apply xi | apply xu | apply x8 | apply x3 | apply xn | apply xp | apply xP | refine xs ?_ ?_ | refine xS ?_ ?_ | refine xZ ?_ ?_ | refine xl ?_ ?_ | refine xd ?_ ?_ | refine xy ?_ ?_ | refine xL ?_ ?_ | refine xD ?_ ?_ | apply xx); omega | apply Xm | apply Xe) | refine Xo (by assumption) ?_ | refine Or.inl ⟨rfl, ?_⟩ | (split <;> (first | (rename_i u h; clear u) | rename_i h) <;> (try rewrite [h]) <;> (first | replace h := dt h | replace h := df h | replace h := Nt h | replace h := Nf h | skip)))
          conv => whnf
          refine .inr ⟨[1], rfl, _, htq, ?_⟩
          rintro _ _ ⟨rfl, hpre2, rfl⟩
          repeat' ((conv => whnf); first | (with_reducible first | apply Xa | (first | apply xi | apply xu | apply x8 | apply x3 | apply xn | apply xp | apply xP | refine xs ?_ ?_ | refine xS ?_ ?_ | refine xZ ?_ ?_ | refine xl ?_ ?_ | refine xd ?_ ?_ | refine xy ?_ ?_ | refine xL ?_ ?_ | refine xD ?_ ?_ | apply xx); omega | apply Xm | apply Xe) | refine Xo (by assumption) ?_ | refine Or.inl ⟨rfl, ?_⟩ | (split <;> (first | (rename_i u h; clear u) | rename_i h) <;> (try rewrite [h]) <;> (first | replace h := dt h | replace h := df h | replace h := Nt h | replace h := Nf h | skip)))
          conv => whnf
          rw [hqv] at hpre2
          have hz : a % b = 0 := by
            have h0 := (lim_len_zero (lval U)).1 (by rw [hnil]; rfl)
            rw [← hR3, h0]; simp
          refine .inr (.inl ?_)
          repeat' ((conv => whnf); first | (with_reducible first | apply Xa | (first | apply xi | apply xu | apply x8 | apply x3 | apply xn | apply xp | apply xP | refine xs ?_ ?_ | refine xS ?_ ?_ | refine xZ ?_ ?_ | refine xl ?_ ?_ | refine xd ?_ ?_ | refine xy ?_ ?_ | refine xL ?_ ?_ | refine xD ?_ ?_ | apply xx); omega | apply Xm | apply Xe) | refine Xo (by assumption) ?_ | refine Or.inl ⟨rfl, ?_⟩ | (split <;> (first | (rename_i u h; clear u) | rename_i h) <;> (try rewrite [h]) <;> (first | replace h := dt h | replace h := df h | replace h := Nt h | replace h := Nf h | skip)))
          conv => whnf
          refine ⟨_, _, rfl, .inl ?_, .inr (.inl (by rw [hz, lim_zero]))⟩
          show AV.fr _ _ ((limbs (List.replicate 0 0 ++ qs)).take (lim (lval (List.replicate 0 0 ++ qs))).length) = _
          rw [hqv, limbs_take, ← hpre2]
      · rw [show ((k + 1 : Nat) : Int) - 1 = k by omega]
        have hkU : k < U.length := by omega
        have hup : lval (U.drop (k + (lim V).length + 1)) = 0 := by
          have h1 := lval_split (U.drop (k + 1)) (lim V).length (by simp; omega)
          rw [List.drop_drop, show k + 1 + (lim V).length = k + (lim V).length + 1 by omega] at h1
          rcases Nat.eq_zero_or_pos (lval (U.drop (k + (lim V).length + 1))) with h | h
          · exact h
          · have h2 : BB ^ (lim V).length * 1 ≤ BB ^ (lim V).length * lval (U.drop (k + (lim V).length + 1)) := Nat.mul_le_mul_left _ h
            omega
        have hwin : lval ((U.drop k).take ((lim V).length + 1)) = lval (U.drop k) := by
          have h1 := lval_split (U.drop k) ((lim V).length + 1) (by simp; omega)
          rw [List.drop_drop, ← Nat.add_assoc, hup] at h1
          omega
        have hdk := lval_drop hkU
        have hUk : U[k] < BB := hUs _ (List.getElem_mem _)
        have hwb : lval ((U.drop k).take ((lim V).length + 1)) < V * BB := by
          rw [hwin, hdk]
          have h1 : BB * (lval (U.drop (k + 1)) + 1) ≤ BB * V := Nat.mul_le_mul_left _ hUd
          rw [Nat.mul_add, Nat.mul_comm BB V] at h1
          omega
        have hgs := c_guess gl U V k (lim V).length hUs (by omega) rfl (by omega) (by omega) tp (by rw [htp]; exact List.getElem?_eq_getElem _) hwb
        rw [hUL, hwin] at hgs
        have hgq : (limbs (List.replicate (k + 1) 0 ++ qs))[0 + k]? = some [.int .u32 ((0 : Nat) : Int)] := by
          rw [Nat.zero_add, limbs_get (by simp; omega)]
          congr 4
          rw [List.getElem_append_left (by simp), List.getElem_replicate]
        repeat' ((conv => whnf); first | (with_reducible first | apply Xa | (first | apply xi | apply xu | apply x8 | apply x3 | apply xn | apply xp | apply xP | refine xs ?_ ?_ | refine xS ?_ ?_ | refine xZ ?_ ?_ | refine xl ?_ ?_ | refine xd ?_ ?_ | refine xy ?_ ?_ | refine xL ?_ ?_ | refine xD ?_ ?_ | apply xx); omega | apply Xm | apply Xe) | refine Xo (by assumption) ?_ | refine Or.inl ⟨rfl, ?_⟩ | (split <;> (first | (rename_i u h; clear u) | rename_i h) <;> (try rewrite [h]) <;> (first | replace h := dt h | replace h := df h | replace h := Nt h | replace h := Nf h | skip)))
        all_goals try omega
        conv => whnf
        refine .inr ⟨[0], rfl, _, hgs, ?_⟩
        rintro _ _ ⟨rfl, U', rfl, hU'l, hU's, hU't, hU'w, hU'd⟩
        obtain ⟨dgt, hdgt⟩ : ∃ dgt, dgt = lval (U.drop k) / V := ⟨_, rfl⟩
        have hdgb : dgt < BB := by
          rw [hdgt]
          exact (Nat.div_lt_iff_lt_mul hVpos).2 (by rw [Nat.mul_comm, ← hwin]; exact hwb)
        have hdm := Nat.div_add_mod (lval (U.drop k)) V
        rw [← hdgt] at hdm
        have hU'v : lval (U'.drop k) = lval (U.drop k) % V := by
          have h1 := lval_split (U'.drop k) ((lim V).length + 1) (by simp; omega)
          rw [List.drop_drop, ← Nat.add_assoc, hU'd, hup, hU'w, Nat.mul_zero, Nat.add_zero] at h1
          exact h1
        repeat' ((conv => whnf); first | (with_reducible first | apply Xa | (first | apply xi | apply xu | apply x8 | apply x3 | apply xn | apply xp | apply xP | refine xs ?_ ?_ | refine xS ?_ ?_ | refine xZ ?_ ?_ | refine xl ?_ ?_ | refine xd ?_ ?_ | refine xy ?_ ?_ | refine xL ?_ ?_ | refine xD ?_ ?_ | apply xx); omega | apply Xm | apply Xe) | refine Xo (by assumption) ?_ | refine Or.inl ⟨rfl, ?_⟩ | (split <;> (first | (rename_i u h; clear u) | rename_i h) <;> (try rewrite [h]) <;> (first | replace h := dt h | replace h := df h | replace h := Nt h | replace h := Nf h | skip)))
        all_goals try omega
        have hset : (List.replicate (k + 1) 0 ++ qs).set k dgt = List.replicate k 0 ++ dgt :: qs := by
          rw [List.replicate_succ', List.append_assoc, List.set_append_right _ _ (by simp)]
          simp
        have he : (limbs (List.replicate (k + 1) 0 ++ qs)).set (0 + k) [AV.int .u32 ((lval (U.drop k) / V : Nat) : Int)] = limbs (List.replicate k 0 ++ dgt :: qs) := by
          rw [Nat.zero_add, limbs_set _ _ dgt (by rw [hdgt]), hset]
        refine ⟨[0, 1], k, rfl, by omega, k, U', dgt :: qs, by omega, rfl, by omega, hU's, ?_, ?_, by simp; omega, ?_, ?_, ?_⟩
        · have h1 : U.take k = (U.take (k + 1)).take k := by rw [List.take_take, Nat.min_eq_left (by omega)]
          have h2 : (lim A ++ [0]).take k = ((lim A ++ [0]).take (k + 1)).take k := by rw [List.take_take, Nat.min_eq_left (by omega)]
          rw [hU't, h1, hUt, ← h2]
        · rw [hU'v]; exact Nat.mod_lt _ hVpos
        · intro y hy
          simp only [List.mem_cons] at hy
          rcases hy with rfl | hy
          · exact hdgb
          · exact hqs y hy
        · have hk0 : k < (lim A ++ [0]).length := by simp; omega
          have hU0k : (lim A ++ [0])[k] = U[k] := by
            have h1 : (U.take (k + 1))[k]? = ((lim A ++ [0]).take (k + 1))[k]? := by rw [hUt]
            rw [List.getElem?_take_of_lt (by omega), List.getElem?_take_of_lt (by omega), List.getElem?_eq_getElem hkU, List.getElem?_eq_getElem hk0] at h1
            simpa using h1.symm
          rw [lval_drop hk0, hinv, hU0k, hU'v]
          simp only [lval]
          rw [Nat.mul_add, Nat.mul_add, ← Nat.mul_assoc BB V, Nat.mul_comm BB V, Nat.mul_assoc]
          omega
        · exact Eq.trans rfl (congrArg (fun z => (⟨[(8, .int .u64 (n : Nat)), (9, .own 0 0 (limbs (lim A ++ [0])).length), (10, .ro 1 (limbs (lim V))), (11, .own 1 0 m), (12, .int .u64 (tp : Nat)), (13, .int .i64 ((k : Int) - 1))],
            [.row false 111 1 (limbs U'), .row false 111 1 z]⟩ : St)) he)
end Go.V
namespace Go.V
open Go.N
variable (gl : Gl)
def T_NRight1 : Tab := [(21, i21)]
theorem TOK_NRight1 : TOK Go.Proofs.Tryz.prog T_NRight1 := ⟨K21, trivial⟩
def T_indexFunc : Tab := [(9, i9), (21, i21), (4, i4)]
theorem TOK_indexFunc : TOK Go.Proofs.Tryz.prog T_indexFunc := ⟨K9, ⟨K21, ⟨K4, trivial⟩⟩⟩
def T_IndexFunc : Tab := [(9, i9), (4, i4)]
theorem TOK_IndexFunc : TOK Go.Proofs.Tryz.prog T_IndexFunc := ⟨K9, ⟨K4, trivial⟩⟩
def T_NRight : Tab := [(9, i9), (5, i5), (3, i3)]
theorem TOK_NRight : TOK Go.Proofs.Tryz.prog T_NRight := ⟨K9, ⟨K5, ⟨K3, trivial⟩⟩⟩
def T_Nboth : Tab := [(9, i9), (4, i4), (143, i143), (111, i111)]
theorem TOK_Nboth : TOK Go.Proofs.Tryz.prog T_Nboth := ⟨K9, ⟨K4, ⟨K143, ⟨K111, trivial⟩⟩⟩⟩
def noDig (r : Int) : Bool := decide (r < 48) || decide (57 < r)
theorem c_NRight1 (r : Int) : VCall Go.Proofs.Tryz.prog gl 95 [.int .i32 r] (fun x => x = .bool (noDig r)) := by
  refine vcall_of TOK_NRight1 HM Go.Proofs.Tryz.func95 rfl (by decide +kernel) (by decide +kernel) rfl ?_
  repeat' ((conv => whnf); first | (with_reducible first | apply Xa | (first | apply xi | apply xu | apply x8 | apply x3 | apply xn | apply xp | apply xP | refine xs ?_ ?_ | refine xS ?_ ?_ | refine xZ ?_ ?_ | refine xl ?_ ?_ | refine xd ?_ ?_ | refine xy ?_ ?_ | refine xL ?_ ?_ | refine xD ?_ ?_ | apply xx); omega | apply Xm | apply Xe) | refine Xo (by assumption) ?_ | refine Or.inl ⟨rfl, ?_⟩ | (split <;> (first | (rename_i u h; clear u) | rename_i h) <;> (try rewrite [h]) <;> (first | replace h := dt h | replace h := df h | replace h := Nt h | replace h := Nf h | skip)))
  all_goals (conv => whnf)
  all_goals refine congrArg AV.bool ?_
  · simp [noDig, h]
  · simp [noDig, h]
theorem get_at {s : ByteArray} {k : Nat} (h : k < s.toList.length) : (s.get! k) = s.toList[k] := by
  have h2 : k < s.size := by rw [Go.N.len_toList] at h; exact h
  have e : s.toList[k]? = some (s.get! k) := by
    rw [ByteArray.toList_eq]
    cases s with
    | mk d =>
      have hd : k < d.size := h2
      simp [ByteArray.get!, hd]
  rw [List.getElem?_eq_getElem h] at e
  simpa using e.symm
theorem dec_ascii {s : ByteArray} {k : Nat} (h : k < s.toList.length) (hb : s.toList[k].toNat < 128) : Utf8.decode s k = (s.toList[k].toNat, 1) := by
  unfold Utf8.decode
  simp only [Nat.add_zero, get_at h]
  rw [if_pos hb]
theorem dec_other {s : ByteArray} {k : Nat} (h : k < s.toList.length) (hb : ¬ s.toList[k].toNat < 128) : 128 ≤ (Utf8.decode s k).1 := by
  unfold Utf8.decode
  simp only [Nat.add_zero, get_at h]
  rw [if_neg hb]
  split
  · split
    · simp; omega
    · simp [Utf8.runeError]
  · split
    · split
      · rename_i h1
        simp at h1 ⊢; omega
      · simp [Utf8.runeError]
    · split
      · split
        · rename_i h1
          simp at h1 ⊢; omega
        · simp [Utf8.runeError]
      · simp [Utf8.runeError]
set_option maxHeartbeats 2000000 in
theorem c_indexFunc (s : ByteArray) (hs : s.size < 9000000000) : VCall Go.Proofs.Tryz.prog gl 108 [.str s, .fn 95 [], .bool true] (fun x => ∃ k : Int, x = .int .i64 k ∧ (k < 0 ↔ s.toList.all isDig = true)) := by
  refine vcall_of TOK_indexFunc HM Go.Proofs.Tryz.func108 rfl (by decide +kernel) (by decide +kernel) rfl ?_
  have hl := Go.N.len_toList s
  repeat' ((conv => whnf); first | (with_reducible first | apply Xa | (first | apply xi | apply xu | apply x8 | apply x3 | apply xn | apply xp | apply xP | refine xs ?_ ?_ | refine xS ?_ ?_ | refine xZ ?_ ?_ | refine xl ?_ ?_ | refine xd ?_ ?_ | refine xy ?_ ?_ | refine xL ?_ ?_ | refine xD ?_ ?_ | apply xx); omega | apply Xm | apply Xe) | refine Xo (by assumption) ?_ | refine Or.inl ⟨rfl, ?_⟩ | (split <;> (first | (rename_i u h; clear u) | rename_i h) <;> (try rewrite [h]) <;> (first | replace h := dt h | replace h := df h | replace h := Nt h | replace h := Nf h | skip)))
  refine ⟨[1, 2, 10], [0], fun m st => ∃ k : Nat, k ≤ s.size ∧ m = s.size - k ∧ (s.toList.take k).all isDig = true ∧ st = ⟨[(1, .fn 95 []), (2, .bool true), (10, .bptr 0 0)], [.iter s k]⟩, rfl, ⟨s.size, 0, by omega, rfl, rfl, rfl⟩, ?_⟩
  rintro m _ ⟨k, hk, hm, hd, rfl⟩
  repeat' ((conv => whnf); first | (with_reducible first | apply Xa | (first | apply xi | apply xu | apply x8 | apply x3 | apply xn | apply xp | apply xP | refine xs ?_ ?_ | refine xS ?_ ?_ | refine xZ ?_ ?_ | refine xl ?_ ?_ | refine xd ?_ ?_ | refine xy ?_ ?_ | refine xL ?_ ?_ | refine xD ?_ ?_ | apply xx); omega | apply Xm | apply Xe) | refine Xo (by assumption) ?_ | refine Or.inl ⟨rfl, ?_⟩ | (split <;> (first | (rename_i u h; clear u) | rename_i h) <;> (try rewrite [h]) <;> (first | replace h := dt h | replace h := df h | replace h := Nt h | replace h := Nf h | skip)))
  · have hlt : k < s.size := by simpa using h
    have hk2 : k < s.toList.length := by omega
    rcases Nat.lt_or_ge s.toList[k].toNat 128 with hb | hb
    · refine ⟨_, _, (dec_ascii hk2 hb).symm, ?_⟩
      have hdec : noDig (s.toList[k].toNat : Int) = !isDig s.toList[k] := by
        rw [Bool.eq_iff_iff]
        simp only [noDig, isDig, Bool.or_eq_true, decide_eq_true_eq, Bool.not_eq_true', Bool.and_eq_false_iff, decide_eq_false_iff_not]
        omega
      have hc := c_NRight1 gl ((s.toList[k].toNat : Nat) : Int)
      by_cases hdg : isDig s.toList[k] = true
      · rw [hdec, hdg] at hc
        repeat' ((conv => whnf); first | (with_reducible first | apply Xa | (first | apply xi | apply xu | apply x8 | apply x3 | apply xn | apply xp | apply xP | refine xs ?_ ?_ | refine xS ?_ ?_ | refine xZ ?_ ?_ | refine xl ?_ ?_ | refine xd ?_ ?_ | refine xy ?_ ?_ | refine xL ?_ ?_ | refine xD ?_ ?_ | apply xx); omega | apply Xm | apply Xe) | refine Xo (by assumption) ?_ | refine Or.inl ⟨rfl, ?_⟩ | (split <;> (first | (rename_i u h; clear u) | rename_i h) <;> (try rewrite [h]) <;> (first | replace h := dt h | replace h := df h | replace h := Nt h | replace h := Nf h | skip)))
        conv => whnf
        refine .inl ⟨_, hc, ?_⟩
        rintro _ rfl
        repeat' ((conv => whnf); first | (with_reducible first | apply Xa | (first | apply xi | apply xu | apply x8 | apply x3 | apply xn | apply xp | apply xP | refine xs ?_ ?_ | refine xS ?_ ?_ | refine xZ ?_ ?_ | refine xl ?_ ?_ | refine xd ?_ ?_ | refine xy ?_ ?_ | refine xL ?_ ?_ | refine xD ?_ ?_ | apply xx); omega | apply Xm | apply Xe) | refine Xo (by assumption) ?_ | refine Or.inl ⟨rfl, ?_⟩ | (split <;> (first | (rename_i u h; clear u) | rename_i h) <;> (try rewrite [h]) <;> (first | replace h := dt h | replace h := df h | replace h := Nt h | replace h := Nf h | skip)))
        refine ⟨[0], s.size - (k + 1), rfl, by omega, k + 1, by omega, rfl, ?_, rfl⟩
        rw [List.take_succ_eq_append_getElem hk2, List.all_append, hd]; simp [hdg]
      · rw [hdec, Bool.eq_false_iff.2 hdg] at hc
        repeat' ((conv => whnf); first | (with_reducible first | apply Xa | (first | apply xi | apply xu | apply x8 | apply x3 | apply xn | apply xp | apply xP | refine xs ?_ ?_ | refine xS ?_ ?_ | refine xZ ?_ ?_ | refine xl ?_ ?_ | refine xd ?_ ?_ | refine xy ?_ ?_ | refine xL ?_ ?_ | refine xD ?_ ?_ | apply xx); omega | apply Xm | apply Xe) | refine Xo (by assumption) ?_ | refine Or.inl ⟨rfl, ?_⟩ | (split <;> (first | (rename_i u h; clear u) | rename_i h) <;> (try rewrite [h]) <;> (first | replace h := dt h | replace h := df h | replace h := Nt h | replace h := Nf h | skip)))
        conv => whnf
        refine .inl ⟨_, hc, ?_⟩
        rintro _ rfl
        repeat' ((conv => whnf); first | (with_reducible first | apply Xa | (first | apply xi | apply xu | apply x8 | apply x3 | apply xn | apply xp | apply xP | refine xs ?_ ?_ | refine xS ?_ ?_ | refine xZ ?_ ?_ | refine xl ?_ ?_ | refine xd ?_ ?_ | refine xy ?_ ?_ | refine xL ?_ ?_ | refine xD ?_ ?_ | apply xx); omega | apply Xm | apply Xe) | refine Xo (by assumption) ?_ | refine Or.inl ⟨rfl, ?_⟩ | (split <;> (first | (rename_i u h; clear u) | rename_i h) <;> (try rewrite [h]) <;> (first | replace h := dt h | replace h := df h | replace h := Nt h | replace h := Nf h | skip)))
        conv => whnf
        refine ⟨k, rfl, ?_⟩
        have : s.toList.all isDig = false := by rw [List.all_eq_false]; exact ⟨_, List.getElem_mem hk2, hdg⟩
        rw [this]; simp
    · have hc128 := dec_other hk2 (by omega)
      obtain ⟨⟨c, m2⟩, hcm⟩ : ∃ p, p = Utf8.decode s k := ⟨_, rfl⟩
      rw [← hcm] at hc128
      have hc := c_NRight1 gl ((c : Nat) : Int)
      have hv : noDig (c : Int) = true := by
        simp only [noDig, Bool.or_eq_true, decide_eq_true_eq]
        right
        have : 128 ≤ c := hc128
        omega
      rw [hv] at hc
      refine ⟨c, m2, hcm, ?_⟩
      repeat' ((conv => whnf); first | (with_reducible first | apply Xa | (first | apply xi | apply xu | apply x8 | apply x3 | apply xn | apply xp | apply xP | refine xs ?_ ?_ | refine xS ?_ ?_ | refine xZ ?_ ?_ | refine xl ?_ ?_ | refine xd ?_ ?_ | refine xy ?_ ?_ | refine xL ?_ ?_ | refine xD ?_ ?_ | apply xx); omega | apply Xm | apply Xe) | refine Xo (by assumption) ?_ | refine Or.inl ⟨rfl, ?_⟩ | (split <;> (first | (rename_i u h; clear u) | rename_i h) <;> (try rewrite [h]) <;> (first | replace h := dt h | replace h := df h | replace h := Nt h | replace h := Nf h | skip)))
      conv => whnf
      refine .inl ⟨_, hc, ?_⟩
      rintro _ rfl
      repeat' ((conv => whnf); first | (with_reducible first | apply Xa | (first | apply xi | apply xu | apply x8 | apply x3 | apply xn | apply xp | apply xP | refine xs ?_ ?_ | refine xS ?_ ?_ | refine xZ ?_ ?_ | refine xl ?_ ?_ | refine xd ?_ ?_ | refine xy ?_ ?_ | refine xL ?_ ?_ | refine xD ?_ ?_ | apply xx); omega | apply Xm | apply Xe) | refine Xo (by assumption) ?_ | refine Or.inl ⟨rfl, ?_⟩ | (split <;> (first | (rename_i u h; clear u) | rename_i h) <;> (try rewrite [h]) <;> (first | replace h := dt h | replace h := df h | replace h := Nt h | replace h := Nf h | skip)))
      conv => whnf
      refine ⟨k, rfl, ?_⟩
      have : s.toList.all isDig = false := by
        rw [List.all_eq_false]
        refine ⟨_, List.getElem_mem hk2, ?_⟩
        simp [isDig]; omega
      rw [this]; simp
  · repeat' ((conv => whnf); first | (with_reducible first | apply Xa | (first | apply xi | apply xu | apply x8 | apply x3 | apply xn | apply xp | apply xP | refine xs ?_ ?_ | refine xS ?_ ?_ | refine xZ ?_ ?_ | refine xl ?_ ?_ | refine xd ?_ ?_ | refine xy ?_ ?_ | refine xL ?_ ?_ | refine xD ?_ ?_ | apply xx); omega | apply Xm | apply Xe) | refine Xo (by assumption) ?_ | refine Or.inl ⟨rfl, ?_⟩ | (split <;> (first | (rename_i u h; clear u) | rename_i h) <;> (try rewrite [h]) <;> (first | replace h := dt h | replace h := df h | replace h := Nt h | replace h := Nf h | skip)))
    conv => whnf
    have hge : ¬ k < s.size := fun hh => by
      have : Nat.blt k s.size = true := by simpa using hh
      rw [this] at h; cases h
    refine ⟨-1, rfl, ?_⟩
    rw [List.take_of_length_le (by omega)] at hd
    simp [hd]
theorem c_IndexFunc (s : ByteArray) (hs : s.size < 9000000000) : VCall Go.Proofs.Tryz.prog gl 94 [.str s, .fn 95 []] (fun x => ∃ k : Int, x = .int .i64 k ∧ (k < 0 ↔ s.toList.all isDig = true)) := by
  refine vcall_of TOK_IndexFunc HM Go.Proofs.Tryz.func94 rfl (by decide +kernel) (by decide +kernel) rfl ?_
  repeat' ((conv => whnf); first | (with_reducible first | apply Xa | (first | apply xi | apply xu | apply x8 | apply x3 | apply xn | apply xp | apply xP | refine xs ?_ ?_ | refine xS ?_ ?_ | refine xZ ?_ ?_ | refine xl ?_ ?_ | refine xd ?_ ?_ | refine xy ?_ ?_ | refine xL ?_ ?_ | refine xD ?_ ?_ | apply xx); omega | apply Xm | apply Xe) | refine Xo (by assumption) ?_ | refine Or.inl ⟨rfl, ?_⟩ | (split <;> (first | (rename_i u h; clear u) | rename_i h) <;> (try rewrite [h]) <;> (first | replace h := dt h | replace h := df h | replace h := Nt h | replace h := Nf h | skip)))
  conv => whnf
  refine .inl ⟨_, c_indexFunc gl s hs, ?_⟩
  rintro _ ⟨k, rfl, hk⟩
  repeat' ((conv => whnf); first | (with_reducible first | apply Xa | (first | apply xi | apply xu | apply x8 | apply x3 | apply xn | apply xp | apply xP | refine xs ?_ ?_ | refine xS ?_ ?_ | refine xZ ?_ ?_ | refine xl ?_ ?_ | refine xd ?_ ?_ | refine xy ?_ ?_ | refine xL ?_ ?_ | refine xD ?_ ?_ | apply xx); omega | apply Xm | apply Xe) | refine Xo (by assumption) ?_ | refine Or.inl ⟨rfl, ?_⟩ | (split <;> (first | (rename_i u h; clear u) | rename_i h) <;> (try rewrite [h]) <;> (first | replace h := dt h | replace h := df h | replace h := Nt h | replace h := Nf h | skip)))
  conv => whnf
  exact ⟨k, rfl, hk⟩
theorem c_NRight (s : ByteArray) (hs : s.size < 9000000000) : VCall Go.Proofs.Tryz.prog gl 78 [.str s] (fun x => x = .bool (isNat s.toList)) := by
  refine vcall_of TOK_NRight HM Go.Proofs.Tryz.func78 rfl (by decide +kernel) (by decide +kernel) rfl ?_
  have hl := Go.N.len_toList s
  rcases Nat.eq_zero_or_pos s.size with h0 | hpos
  · have e : s.toList = [] := List.eq_nil_of_length_eq_zero (by omega)
    have e2 : s = ⟨#[]⟩ := toList_inj (by rw [e, ByteArray.toList_eq])
    rw [e]
    repeat' ((conv => whnf); first | (with_reducible first | apply Xa | (first | apply xi | apply xu | apply x8 | apply x3 | apply xn | apply xp | apply xP | refine xs ?_ ?_ | refine xS ?_ ?_ | refine xZ ?_ ?_ | refine xl ?_ ?_ | refine xd ?_ ?_ | refine xy ?_ ?_ | refine xL ?_ ?_ | refine xD ?_ ?_ | apply xx); omega | apply Xm | apply Xe) | refine Xo (by assumption) ?_ | refine Or.inl ⟨rfl, ?_⟩ | (split <;> (first | (rename_i u h; clear u) | rename_i h) <;> (try rewrite [h]) <;> (first | replace h := dt h | replace h := df h | replace h := Nt h | replace h := Nf h | skip)))
    · conv => whnf
      rfl
    · exact absurd e2 h
  · have hne : ¬ s = ⟨#[]⟩ := fun e => by rw [e] at hpos; exact absurd hpos (by decide)
    have hh : (s.toList[0]? = some 48) ↔ ((s.toList[0]'(by omega)).toNat : Int) = 48 := by
      rw [List.getElem?_eq_getElem (by omega), Option.some.injEq, ← UInt8.toNat_inj]
      simp; omega
    have fin : ∀ k : Int, (k < 0 ↔ s.toList.all isDig = true) → (s.toList.length = 1 ∨ ¬ s.toList[0]? = some 48) → decide (k < 0) = isNat s.toList := fun k hk h1 => by
      rw [Bool.eq_iff_iff, decide_eq_true_eq, hk]
      constructor
      · intro hd
        exact isNat_of hd (fun e => by rw [e] at hl; simp at hl; omega) h1
      · intro hd
        simp only [isNat, Bool.and_eq_true] at hd
        exact hd.1
    repeat' ((conv => whnf); first | (with_reducible first | apply Xa | (first | apply xi | apply xu | apply x8 | apply x3 | apply xn | apply xp | apply xP | refine xs ?_ ?_ | refine xS ?_ ?_ | refine xZ ?_ ?_ | refine xl ?_ ?_ | refine xd ?_ ?_ | refine xy ?_ ?_ | refine xL ?_ ?_ | refine xD ?_ ?_ | apply xx); omega | apply Xm | apply Xe) | refine Xo (by assumption) ?_ | refine Or.inl ⟨rfl, ?_⟩ | (split <;> (first | (rename_i u h; clear u) | rename_i h) <;> (try rewrite [h]) <;> (first | replace h := dt h | replace h := df h | replace h := Nt h | replace h := Nf h | skip)))
    · exact absurd h hne
    · conv => whnf
      rename_i h1
      have h0 := hh.2 h1
      have h2 : ¬ s.toList.length = 1 := by omega
      refine congrArg AV.bool (Eq.symm ?_)
      simp [isNat, h0, h2]
    · conv => whnf
      refine .inl ⟨_, c_IndexFunc gl s hs, ?_⟩
      rintro _ ⟨k, rfl, hk⟩
      repeat' ((conv => whnf); first | (with_reducible first | apply Xa | (first | apply xi | apply xu | apply x8 | apply x3 | apply xn | apply xp | apply xP | refine xs ?_ ?_ | refine xS ?_ ?_ | refine xZ ?_ ?_ | refine xl ?_ ?_ | refine xd ?_ ?_ | refine xy ?_ ?_ | refine xL ?_ ?_ | refine xD ?_ ?_ | apply xx); omega | apply Xm | apply Xe) | refine Xo (by assumption) ?_ | refine Or.inl ⟨rfl, ?_⟩ | (split <;> (first | (rename_i u h; clear u) | rename_i h) <;> (try rewrite [h]) <;> (first | replace h := dt h | replace h := df h | replace h := Nt h | replace h := Nf h | skip)))
      all_goals (conv => whnf)
      all_goals refine congrArg AV.bool ?_
      all_goals exact fin k hk (.inl (by omega))
    · conv => whnf
      refine .inl ⟨_, c_IndexFunc gl s hs, ?_⟩
      rintro _ ⟨k, rfl, hk⟩
      repeat' ((conv => whnf); first | (with_reducible first | apply Xa | (first | apply xi | apply xu | apply x8 | apply x3 | apply xn | apply xp | apply xP | refine xs ?_ ?_ | refine xS ?_ ?_ | refine xZ ?_ ?_ | refine xl ?_ ?_ | refine xd ?_ ?_ | refine xy ?_ ?_ | refine xL ?_ ?_ | refine xD ?_ ?_ | apply xx); omega | apply Xm | apply Xe) | refine Xo (by assumption) ?_ | refine Or.inl ⟨rfl, ?_⟩ | (split <;> (first | (rename_i u h; clear u) | rename_i h) <;> (try rewrite [h]) <;> (first | replace h := dt h | replace h := df h | replace h := Nt h | replace h := Nf h | skip)))
      all_goals (conv => whnf)
      all_goals refine congrArg AV.bool ?_
      all_goals exact fin k hk (.inr (fun e => absurd (hh.1 e) (by assumption)))
theorem c_Nboth (m n : Nat) (hm : (dec m).length < 300000) (hn : (dec n).length < 300000) : VCall Go.Proofs.Tryz.prog gl 112 [.str (decB m), .str (decB n)] (fun x => ∃ p q, x = .tup [p, q, .bool true] ∧ LX p m ∧ LX q n) := by
  refine vcall_of TOK_Nboth HM Go.Proofs.Tryz.func112 rfl (by decide +kernel) (by decide +kernel) rfl ?_
  have hzm := decB_size m
  have hzn := decB_size n
  have h1 := c_NRight gl (decB m) (by omega)
  have h2 := c_NRight gl (decB n) (by omega)
  rw [decB_toList, isNat_dec] at h1 h2
  have hpm := List.length_pos_iff.2 (dec_ne m)
  have hpn := List.length_pos_iff.2 (dec_ne n)
  have hrm := c_read gl (decB m) (decB_dig m) (by omega)
  have hrn := c_read gl (decB n) (decB_dig n) (by omega)
  rw [dval_decB] at hrm hrn
  have hlm := lim_le_dec m
  have hln := lim_le_dec n
  repeat' ((conv => whnf); first | (with_reducible first | apply Xa | (first | apply xi | apply xu | apply x8 | apply x3 | apply xn | apply xp | apply xP | refine xs ?_ ?_ | refine xS ?_ ?_ | refine xZ ?_ ?_ | refine xl ?_ ?_ | refine xd ?_ ?_ | refine xy ?_ ?_ | refine xL ?_ ?_ | refine xD ?_ ?_ | apply xx); omega | apply Xm | apply Xe) | refine Xo (by assumption) ?_ | refine Or.inl ⟨rfl, ?_⟩ | (split <;> (first | (rename_i u h; clear u) | rename_i h) <;> (try rewrite [h]) <;> (first | replace h := dt h | replace h := df h | replace h := Nt h | replace h := Nf h | skip)))
  conv => whnf
  refine .inl ⟨_, h1, ?_⟩
  rintro _ rfl
  repeat' ((conv => whnf); first | (with_reducible first | apply Xa | (first | apply xi | apply xu | apply x8 | apply x3 | apply xn | apply xp | apply xP | refine xs ?_ ?_ | refine xS ?_ ?_ | refine xZ ?_ ?_ | refine xl ?_ ?_ | refine xd ?_ ?_ | refine xy ?_ ?_ | refine xL ?_ ?_ | refine xD ?_ ?_ | apply xx); omega | apply Xm | apply Xe) | refine Xo (by assumption) ?_ | refine Or.inl ⟨rfl, ?_⟩ | (split <;> (first | (rename_i u h; clear u) | rename_i h) <;> (try rewrite [h]) <;> (first | replace h := dt h | replace h := df h | replace h := Nt h | replace h := Nf h | skip)))
  conv => whnf
  refine .inl ⟨_, h2, ?_⟩
  rintro _ rfl
  repeat' ((conv => whnf); first | (with_reducible first | apply Xa | (first | apply xi | apply xu | apply x8 | apply x3 | apply xn | apply xp | apply xP | refine xs ?_ ?_ | refine xS ?_ ?_ | refine xZ ?_ ?_ | refine xl ?_ ?_ | refine xd ?_ ?_ | refine xy ?_ ?_ | refine xL ?_ ?_ | refine xD ?_ ?_ | apply xx); omega | apply Xm | apply Xe) | refine Xo (by assumption) ?_ | refine Or.inl ⟨rfl, ?_⟩ | (split <;> (first | (rename_i u h; clear u) | rename_i h) <;> (try rewrite [h]) <;> (first | replace h := dt h | replace h := df h | replace h := Nt h | replace h := Nf h | skip)))
  conv => whnf
  refine .inl ⟨_, hrm, ?_⟩
  rintro _ (rfl | ⟨h0, _⟩)
  rotate_left
  · omega
  repeat' ((conv => whnf); first | (with_reducible first | apply Xa | (first | apply xi | apply xu | apply x8 | apply x3 | apply xn | apply xp | apply xP | refine xs ?_ ?_ | refine xS ?_ ?_ | refine xZ ?_ ?_ | refine xl ?_ ?_ | refine xd ?_ ?_ | refine xy ?_ ?_ | refine xL ?_ ?_ | refine xD ?_ ?_ | apply xx); omega | apply Xm | apply Xe) | refine Xo (by assumption) ?_ | refine Or.inl ⟨rfl, ?_⟩ | (split <;> (first | (rename_i u h; clear u) | rename_i h) <;> (try rewrite [h]) <;> (first | replace h := dt h | replace h := df h | replace h := Nt h | replace h := Nf h | skip)))
  conv => whnf
  refine .inr ⟨[0], rfl, _, c_trimH gl (lim m) (lim_small m) (by omega), ?_⟩
  rintro _ _ ⟨rfl, hp1, rfl⟩
  repeat' ((conv => whnf); first | (with_reducible first | apply Xa | (first | apply xi | apply xu | apply x8 | apply x3 | apply xn | apply xp | apply xP | refine xs ?_ ?_ | refine xS ?_ ?_ | refine xZ ?_ ?_ | refine xl ?_ ?_ | refine xd ?_ ?_ | refine xy ?_ ?_ | refine xL ?_ ?_ | refine xD ?_ ?_ | apply xx); omega | apply Xm | apply Xe) | refine Xo (by assumption) ?_ | refine Or.inl ⟨rfl, ?_⟩ | (split <;> (first | (rename_i u h; clear u) | rename_i h) <;> (try rewrite [h]) <;> (first | replace h := dt h | replace h := df h | replace h := Nt h | replace h := Nf h | skip)))
  conv => whnf
  refine .inl ⟨_, hrn, ?_⟩
  rintro _ (rfl | ⟨h0, _⟩)
  rotate_left
  · omega
  repeat' ((conv => whnf); first | (with_reducible first | apply Xa | (first | apply xi | apply xu | apply x8 | apply x3 | apply xn | apply xp | apply xP | refine xs ?_ ?_ | refine xS ?_ ?_ | refine xZ ?_ ?_ | refine xl ?_ ?_ | refine xd ?_ ?_ | refine xy ?_ ?_ | refine xL ?_ ?_ | refine xD ?_ ?_ | apply xx); omega | apply Xm | apply Xe) | refine Xo (by assumption) ?_ | refine Or.inl ⟨rfl, ?_⟩ | (split <;> (first | (rename_i u h; clear u) | rename_i h) <;> (try rewrite [h]) <;> (first | replace h := dt h | replace h := df h | replace h := Nt h | replace h := Nf h | skip)))
  conv => whnf
  refine .inr ⟨[1], rfl, _, c_trimH gl (lim n) (lim_small n) (by omega), ?_⟩
  rintro _ _ ⟨rfl, hp2, rfl⟩
  repeat' ((conv => whnf); first | (with_reducible first | apply Xa | (first | apply xi | apply xu | apply x8 | apply x3 | apply xn | apply xp | apply xP | refine xs ?_ ?_ | refine xS ?_ ?_ | refine xZ ?_ ?_ | refine xl ?_ ?_ | refine xd ?_ ?_ | refine xy ?_ ?_ | refine xL ?_ ?_ | refine xD ?_ ?_ | apply xx); omega | apply Xm | apply Xe) | refine Xo (by assumption) ?_ | refine Or.inl ⟨rfl, ?_⟩ | (split <;> (first | (rename_i u h; clear u) | rename_i h) <;> (try rewrite [h]) <;> (first | replace h := dt h | replace h := df h | replace h := Nt h | replace h := Nf h | skip)))
  conv => whnf
  refine .inr (.inl ?_)
  conv => whnf
  refine .inr (.inl ?_)
  conv => whnf
  have e : ∀ n, List.take (lim (lval (lim n))).length (limbs (lim n)) = limbs (lim n) := fun n => by rw [lval_lim, limbs_take, List.take_length]
  exact ⟨_, _, rfl, .inl (by rw [e]), .inl (by rw [e])⟩
end Go.V
namespace Go.V
open Go.N
open Go.RowKit
def roA (z : Nat) : AV → AV
  | .fr _ sz es => .ro sz es
  | .nils => .ro z []
  | x => x
def Simple : AV → Prop
  | .agg _ => False
  | .tup _ => False
  | _ => True
theorem roA_rep {S : Nat → Prop} {b z : Nat} {w : World} : ∀ (x : AV) (v : Value) (F : List (Nat × Nat)), Simple x → RepF S b w x v F → RepF (fun q => S q ∨ q ∈ F.map (·.1)) b w (roA z x) v []
  | .fr e sz es, v, F, _, h => by
    simp only [RepF, roA] at h ⊢
    obtain ⟨c, cap, rfl, rfl, hB, hrow⟩ := h
    exact ⟨trivial, row_ro hrow (.inr (by simp)) fun q hq => .inl hq⟩
  | .nils, v, F, _, h => by
    simp only [RepF, roA, RepV] at h ⊢
    obtain ⟨rfl, rfl⟩ := h
    refine ⟨trivial, none, 0, ?_⟩
    simp
  | .agg _, v, F, hs, h => hs.elim
  | .tup _, v, F, hs, h => hs.elim
  | .j, v, F, _, h | .u, v, F, _, h | .int _ _, v, F, _, h | .bool _, v, F, _, h | .str _, v, F, _, h | .ro _ _, v, F, _, h | .own _ _ _, v, F, _, h | .rp _, v, F, _, h | .bptr _ _, v, F, _, h | .ptr _ _ _, v, F, _, h
  | .fn _ _, v, F, _, h | .map _, v, F, _, h | .iface _ _, v, F, _, h | .nili, v, F, _, h => by
    simp only [RepF, roA] at h ⊢
    exact ⟨trivial, RepV.later (later_sub fun q hq => .inl hq) _ v h.2⟩
theorem roAL_rep {S : Nat → Prop} {b z : Nat} {w : World} : ∀ (xs : List AV) (vs : List Value) (F : List (Nat × Nat)), (∀ x ∈ xs, Simple x) → RepFL S b w xs vs F → RepFL (fun q => S q ∨ q ∈ F.map (·.1)) b w (xs.map (roA z)) vs []
  | [], vs, F, _, h => by simp only [RepFL, List.map_nil] at h ⊢; exact ⟨h.1, trivial⟩
  | x :: xs, vs, F, hs, h => by
    simp only [RepFL, List.map_cons] at h ⊢
    obtain ⟨v, r, F1, F2, rfl, rfl, h1, h2⟩ := h
    have k1 := roA_rep (z := z) x v F1 (hs x List.mem_cons_self) h1
    have k2 := roAL_rep (z := z) xs r F2 (fun y hy => hs y (List.mem_cons_of_mem _ hy)) h2
    refine ⟨v, r, [], [], rfl, rfl, repF_later (later_sub fun q hq => ?_) _ _ _ k1 (by simp), repFL_later (later_sub fun q hq => ?_) _ _ _ k2 (by simp)⟩
    · rcases hq with hq | hq
      · exact .inl hq
      · exact .inr (by rw [List.map_append]; exact List.mem_append_left _ hq)
    · rcases hq with hq | hq
      · exact .inl hq
      · exact .inr (by rw [List.map_append]; exact List.mem_append_right _ hq)
theorem repFL_lt {S : Nat → Prop} {b : Nat} {w : World} : ∀ (xs : List AV) (vs : List Value) (F : List (Nat × Nat)), (∀ x ∈ xs, Simple x) → RepFL S b w xs vs F → ∀ q ∈ F, q.1 < w.heap.size
  | [], vs, F, _, h => by simp only [RepFL] at h; rw [h.2]; simp
  | x :: xs, vs, F, hs, h => by
    simp only [RepFL] at h
    obtain ⟨v, r, F1, F2, rfl, rfl, h1, h2⟩ := h
    intro q hq
    rcases List.mem_append.1 hq with hq | hq
    · have hx := hs x List.mem_cons_self
      cases x <;> simp only [RepF] at h1 <;> first | (rw [h1.1] at hq; simp at hq; done) | exact hx.elim | skip
      obtain ⟨c, cap, rfl, rfl, hB, cur, vss, hh, _⟩ := h1
      simp at hq; subst hq
      exact (Array.getElem?_eq_some_iff.1 hh).1
    · exact repFL_lt xs r F2 (fun y hy => hs y (List.mem_cons_of_mem _ hy)) h2 q hq
theorem VCall.ro {P : Program} {gl : Gl} {f : FuncId} {args : List AV} {R : List AV → Prop} (z : Nat) (h : VCall P gl f args (fun x => ∃ xs, x = .tup xs ∧ (∀ y ∈ xs, Simple y) ∧ R (xs.map (roA z)))) :
    VCall P gl f args (fun x => ∃ ys, x = .tup ys ∧ R ys) := by
  intro S w vs h1 h2 h3
  refine (h S w vs h1 h2 h3).mono fun v w' hh => ?_
  obtain ⟨x, ⟨xs, rfl, hsim, hR⟩, ⟨S', F, hF, hnd, hFS, hS'⟩, hb⟩ := hh
  refine ⟨_, ⟨_, rfl, hR⟩, ?_, hb⟩
  have hge := repF_ge _ _ _ hF
  simp only [RepF] at hF
  obtain ⟨us, rfl, hFL⟩ := hF
  refine ⟨fun q => S' q ∨ q ∈ F.map (·.1), [], ?_, by simp, by simp, ?_⟩
  · simp only [RepF]
    exact ⟨us, rfl, roAL_rep xs us F hsim hFL⟩
  · rintro q (hq | hq)
    · exact hS' q hq
    · obtain ⟨y, hy, rfl⟩ := List.mem_map.1 hq
      exact ⟨repFL_lt xs us F hsim hFL y hy, .inr (hge y hy)⟩
theorem LX.ro {x : AV} {n : Nat} (h : LX x n) : roA 1 x = .ro 1 (limbs (lim n)) := by
  rcases h with rfl | rfl | ⟨rfl, rfl⟩
  · rfl
  · rfl
  · rw [lim_zero]; rfl
theorem LX.simple {x : AV} {n : Nat} (h : LX x n) : Simple x := by
  rcases h with rfl | rfl | ⟨rfl, rfl⟩ <;> trivial
variable (gl : Gl)
theorem c_Nboth2 (m n : Nat) (hm : (dec m).length < 300000) (hn : (dec n).length < 300000) : VCall Go.Proofs.Tryz.prog gl 112 [.str (decB m), .str (decB n)] (fun x => x = .tup [.ro 1 (limbs (lim m)), .ro 1 (limbs (lim n)), .bool true]) := by
  have h := VCall.ro (R := fun ys => ys = [.ro 1 (limbs (lim m)), .ro 1 (limbs (lim n)), .bool true]) 1 ((c_Nboth gl m n hm hn).mono fun x hx => by
    obtain ⟨p, q, rfl, hp, hq⟩ := hx
    refine ⟨_, rfl, ?_, ?_⟩
    · intro y hy
      simp only [List.mem_cons, List.not_mem_nil, or_false] at hy
      rcases hy with rfl | rfl | rfl
      · exact hp.simple
      · exact hq.simple
      · trivial
    · simp only [List.map_cons, List.map_nil, hp.ro, hq.ro]; rfl)
  exact h.mono fun x ⟨ys, e, hy⟩ => by rw [e, hy]
theorem c_divide2 (a b : Nat) (hb0 : 0 < b) (ha : (lim a).length < 400000) (hb : (lim b).length < 400000) : VCall Go.Proofs.Tryz.prog gl 113 [.ro 1 (limbs (lim a)), .ro 1 (limbs (lim b))]
    (fun x => x = .tup [.ro 1 (limbs (lim (a / b))), .ro 1 (limbs (lim (a % b)))]) := by
  have h := VCall.ro (R := fun ys => ys = [.ro 1 (limbs (lim (a / b))), .ro 1 (limbs (lim (a % b)))]) 1 ((c_divide gl a b hb0 ha hb).mono fun x hx => by
    obtain ⟨p, q, rfl, hp, hq⟩ := hx
    refine ⟨_, rfl, ?_, ?_⟩
    · intro y hy
      simp only [List.mem_cons, List.not_mem_nil, or_false] at hy
      rcases hy with rfl | rfl
      · exact hp.simple
      · exact hq.simple
    · simp only [List.map_cons, List.map_nil, hp.ro, hq.ro])
  exact h.mono fun x ⟨ys, e, hy⟩ => by rw [e, hy]
def T_NDiv : Tab := [(9, i9), (4, i4), (143, i143), (111, i111), (3, i3)]
theorem TOK_NDiv : TOK Go.Proofs.Tryz.prog T_NDiv := ⟨K9, ⟨K4, ⟨K143, ⟨K111, ⟨K3, trivial⟩⟩⟩⟩⟩
def T_NGcd : Tab := [(9, i9), (4, i4), (143, i143), (111, i111), (3, i3)]
theorem TOK_NGcd : TOK Go.Proofs.Tryz.prog T_NGcd := ⟨K9, ⟨K4, ⟨K143, ⟨K111, ⟨K3, trivial⟩⟩⟩⟩⟩
set_option maxHeartbeats 4000000 in
theorem c_NDiv (m n : Nat) (hn0 : 0 < n) (hm : (dec m).length < 300000) (hn : (dec n).length < 300000) : VCall Go.Proofs.Tryz.prog gl 100 [.str (decB m), .str (decB n)] (fun x => x = .tup [.str (decB (m / n)), .str (decB (m % n)), .int .i64 0]) := by
  refine vcall_of TOK_NDiv HM Go.Proofs.Tryz.func100 rfl (by decide +kernel) (by decide +kernel) rfl ?_
  have hlm := lim_le_dec m
  have hln := lim_le_dec n
  have hqd := dec_mono (Nat.div_le_self m n)
  have hrd := dec_mono (Nat.le_of_lt (Nat.mod_lt m hn0))
  have hn1 := lim_len_zero n
  have hn2 : (limbs (lim n)).length = (lim n).length := limbs_length _
  repeat' ((conv => whnf); first | (with_reducible first | apply Xa | (first | apply xi | apply xu | apply x8 | apply x3 | apply xn | apply xp | apply xP | refine xs ?_ ?_ | refine xS ?_ ?_ | refine xZ ?_ ?_ | refine xl ?_ ?_ | refine xd ?_ ?_ | refine xy ?_ ?_ | refine xL ?_ ?_ | refine xD ?_ ?_ | apply xx); omega | apply Xm | apply Xe) | refine Xo (by assumption) ?_ | refine Or.inl ⟨rfl, ?_⟩ | (split <;> (first | (rename_i u h; clear u) | rename_i h) <;> (try rewrite [h]) <;> (first | replace h := dt h | replace h := df h | replace h := Nt h | replace h := Nf h | skip)))
  conv => whnf
  refine .inl ⟨_, c_Nboth2 gl m n hm hn, ?_⟩
  rintro _ rfl
  repeat' ((conv => whnf); first | (with_reducible first | apply Xa | (first | apply xi | apply xu | apply x8 | apply x3 | apply xn | apply xp | apply xP | refine xs ?_ ?_ | refine xS ?_ ?_ | refine xZ ?_ ?_ | refine xl ?_ ?_ | refine xd ?_ ?_ | refine xy ?_ ?_ | refine xL ?_ ?_ | refine xD ?_ ?_ | apply xx); omega | apply Xm | apply Xe) | refine Xo (by assumption) ?_ | refine Or.inl ⟨rfl, ?_⟩ | (split <;> (first | (rename_i u h; clear u) | rename_i h) <;> (try rewrite [h]) <;> (first | replace h := dt h | replace h := df h | replace h := Nt h | replace h := Nf h | skip)))
  · exact absurd h (by omega)
  conv => whnf
  refine .inl ⟨_, c_divide2 gl m n hn0 (by omega) (by omega), ?_⟩
  rintro _ rfl
  repeat' ((conv => whnf); first | (with_reducible first | apply Xa | (first | apply xi | apply xu | apply x8 | apply x3 | apply xn | apply xp | apply xP | refine xs ?_ ?_ | refine xS ?_ ?_ | refine xZ ?_ ?_ | refine xl ?_ ?_ | refine xd ?_ ?_ | refine xy ?_ ?_ | refine xL ?_ ?_ | refine xD ?_ ?_ | apply xx); omega | apply Xm | apply Xe) | refine Xo (by assumption) ?_ | refine Or.inl ⟨rfl, ?_⟩ | (split <;> (first | (rename_i u h; clear u) | rename_i h) <;> (try rewrite [h]) <;> (first | replace h := dt h | replace h := df h | replace h := Nt h | replace h := Nf h | skip)))
  conv => whnf
  refine .inl ⟨_, c_text gl (m / n) (by omega), ?_⟩
  rintro _ rfl
  repeat' ((conv => whnf); first | (with_reducible first | apply Xa | (first | apply xi | apply xu | apply x8 | apply x3 | apply xn | apply xp | apply xP | refine xs ?_ ?_ | refine xS ?_ ?_ | refine xZ ?_ ?_ | refine xl ?_ ?_ | refine xd ?_ ?_ | refine xy ?_ ?_ | refine xL ?_ ?_ | refine xD ?_ ?_ | apply xx); omega | apply Xm | apply Xe) | refine Xo (by assumption) ?_ | refine Or.inl ⟨rfl, ?_⟩ | (split <;> (first | (rename_i u h; clear u) | rename_i h) <;> (try rewrite [h]) <;> (first | replace h := dt h | replace h := df h | replace h := Nt h | replace h := Nf h | skip)))
  conv => whnf
  refine .inl ⟨_, c_text gl (m % n) (by omega), ?_⟩
  rintro _ rfl
  repeat' ((conv => whnf); first | (with_reducible first | apply Xa | (first | apply xi | apply xu | apply x8 | apply x3 | apply xn | apply xp | apply xP | refine xs ?_ ?_ | refine xS ?_ ?_ | refine xZ ?_ ?_ | refine xl ?_ ?_ | refine xd ?_ ?_ | refine xy ?_ ?_ | refine xL ?_ ?_ | refine xD ?_ ?_ | apply xx); omega | apply Xm | apply Xe) | refine Xo (by assumption) ?_ | refine Or.inl ⟨rfl, ?_⟩ | (split <;> (first | (rename_i u h; clear u) | rename_i h) <;> (try rewrite [h]) <;> (first | replace h := dt h | replace h := df h | replace h := Nt h | replace h := Nf h | skip)))
  conv => whnf
  rfl
set_option maxHeartbeats 4000000 in
theorem c_NGcd (m n : Nat) (hm : (dec m).length < 300000) (hn : (dec n).length < 300000) : VCall Go.Proofs.Tryz.prog gl 99 [.str (decB m), .str (decB n)] (fun x => x = .tup [.str (decB (Nat.gcd m n)), .int .i64 0]) := by
  refine vcall_of TOK_NGcd HM Go.Proofs.Tryz.func99 rfl (by decide +kernel) (by decide +kernel) rfl ?_
  have hlm := lim_le_dec m
  have hln := lim_le_dec n
  repeat' ((conv => whnf); first | (with_reducible first | apply Xa | (first | apply xi | apply xu | apply x8 | apply x3 | apply xn | apply xp | apply xP | refine xs ?_ ?_ | refine xS ?_ ?_ | refine xZ ?_ ?_ | refine xl ?_ ?_ | refine xd ?_ ?_ | refine xy ?_ ?_ | refine xL ?_ ?_ | refine xD ?_ ?_ | apply xx); omega | apply Xm | apply Xe) | refine Xo (by assumption) ?_ | refine Or.inl ⟨rfl, ?_⟩ | (split <;> (first | (rename_i u h; clear u) | rename_i h) <;> (try rewrite [h]) <;> (first | replace h := dt h | replace h := df h | replace h := Nt h | replace h := Nf h | skip)))
  conv => whnf
  refine .inl ⟨_, c_Nboth2 gl m n hm hn, ?_⟩
  rintro _ rfl
  repeat' ((conv => whnf); first | (with_reducible first | apply Xa | (first | apply xi | apply xu | apply x8 | apply x3 | apply xn | apply xp | apply xP | refine xs ?_ ?_ | refine xS ?_ ?_ | refine xZ ?_ ?_ | refine xl ?_ ?_ | refine xd ?_ ?_ | refine xy ?_ ?_ | refine xL ?_ ?_ | refine xD ?_ ?_ | apply xx); omega | apply Xm | apply Xe) | refine Xo (by assumption) ?_ | refine Or.inl ⟨rfl, ?_⟩ | (split <;> (first | (rename_i u h; clear u) | rename_i h) <;> (try rewrite [h]) <;> (first | replace h := dt h | replace h := df h | replace h := Nt h | replace h := Nf h | skip)))
  conv => whnf
  refine ⟨[6, 7], [], fun k st => ∃ a b : Nat, (dec a).length < 300000 ∧ (dec b).length < 300000 ∧ k = b ∧ Nat.gcd a b = Nat.gcd m n ∧ st = ⟨[(6, .ro 1 (limbs (lim a))), (7, .ro 1 (limbs (lim b)))], []⟩, rfl, ⟨n, m, n, hm, hn, rfl, rfl, rfl⟩, ?_⟩
  rintro k _ ⟨a, b, ha, hb, hk, hg, rfl⟩
  have hla := lim_le_dec a
  have hlb := lim_le_dec b
  have hb1 := lim_len_zero b
  have hb2 : (limbs (lim b)).length = (lim b).length := limbs_length _
  rcases Nat.eq_zero_or_pos b with hb0 | hb0
  · repeat' ((conv => whnf); first | (with_reducible first | apply Xa | (first | apply xi | apply xu | apply x8 | apply x3 | apply xn | apply xp | apply xP | refine xs ?_ ?_ | refine xS ?_ ?_ | refine xZ ?_ ?_ | refine xl ?_ ?_ | refine xd ?_ ?_ | refine xy ?_ ?_ | refine xL ?_ ?_ | refine xD ?_ ?_ | apply xx); omega | apply Xm | apply Xe) | refine Xo (by assumption) ?_ | refine Or.inl ⟨rfl, ?_⟩ | (split <;> (first | (rename_i u h; clear u) | rename_i h) <;> (try rewrite [h]) <;> (first | replace h := dt h | replace h := df h | replace h := Nt h | replace h := Nf h | skip)))
    · exact absurd h (by omega)
    conv => whnf
    have e : a = Nat.gcd m n := by rw [← hg, hb0, Nat.gcd_zero_right]
    refine .inl ⟨_, c_text gl a (by omega), ?_⟩
    rintro _ rfl
    repeat' ((conv => whnf); first | (with_reducible first | apply Xa | (first | apply xi | apply xu | apply x8 | apply x3 | apply xn | apply xp | apply xP | refine xs ?_ ?_ | refine xS ?_ ?_ | refine xZ ?_ ?_ | refine xl ?_ ?_ | refine xd ?_ ?_ | refine xy ?_ ?_ | refine xL ?_ ?_ | refine xD ?_ ?_ | apply xx); omega | apply Xm | apply Xe) | refine Xo (by assumption) ?_ | refine Or.inl ⟨rfl, ?_⟩ | (split <;> (first | (rename_i u h; clear u) | rename_i h) <;> (try rewrite [h]) <;> (first | replace h := dt h | replace h := df h | replace h := Nt h | replace h := Nf h | skip)))
    conv => whnf
    rw [← e]; rfl
  · repeat' ((conv => whnf); first | (with_reducible first | apply Xa | (first | apply xi | apply xu | apply x8 | apply x3 | apply xn | apply xp | apply xP | refine xs ?_ ?_ | refine xS ?_ ?_ | refine xZ ?_ ?_ | refine xl ?_ ?_ | refine xd ?_ ?_ | refine xy ?_ ?_ | refine xL ?_ ?_ | refine xD ?_ ?_ | apply xx); omega | apply Xm | apply Xe) | refine Xo (by assumption) ?_ | refine Or.inl ⟨rfl, ?_⟩ | (split <;> (first | (rename_i u h; clear u) | rename_i h) <;> (try rewrite [h]) <;> (first | replace h := dt h | replace h := df h | replace h := Nt h | replace h := Nf h | skip)))
    rotate_left
    · exact absurd h (by omega)
    conv => whnf
    refine .inl ⟨_, c_divide2 gl a b hb0 (by omega) (by omega), ?_⟩
    rintro _ rfl
    repeat' ((conv => whnf); first | (with_reducible first | apply Xa | (first | apply xi | apply xu | apply x8 | apply x3 | apply xn | apply xp | apply xP | refine xs ?_ ?_ | refine xS ?_ ?_ | refine xZ ?_ ?_ | refine xl ?_ ?_ | refine xd ?_ ?_ | refine xy ?_ ?_ | refine xL ?_ ?_ | refine xD ?_ ?_ | apply xx); omega | apply Xm | apply Xe) | refine Xo (by assumption) ?_ | refine Or.inl ⟨rfl, ?_⟩ | (split <;> (first | (rename_i u h; clear u) | rename_i h) <;> (try rewrite [h]) <;> (first | replace h := dt h | replace h := df h | replace h := Nt h | replace h := Nf h | skip)))
    have hlt := Nat.mod_lt a hb0
    refine ⟨[], a % b, rfl, by omega, b, a % b, hb, Nat.lt_of_le_of_lt (dec_mono (Nat.le_of_lt hlt)) hb, rfl, ?_, rfl⟩
    rw [← hg, Nat.gcd_comm a b, Nat.gcd_rec b a, Nat.gcd_comm]
end Go.V
namespace Go.V
open Go.N
variable (gl : Gl)
def T_r04_Same : Tab := [(27, i27), (3, i3)]
theorem TOK_r04_Same : TOK Go.Proofs.Tryz.prog T_r04_Same := ⟨K27, ⟨K3, trivial⟩⟩
def T_EqualI : Tab := [(27, i27), (3, i3)]
theorem TOK_EqualI : TOK Go.Proofs.Tryz.prog T_EqualI := ⟨K27, ⟨K3, trivial⟩⟩
def T_shape_Same : Tab := [(27, i27), (3, i3)]
theorem TOK_shape_Same : TOK Go.Proofs.Tryz.prog T_shape_Same := ⟨K27, ⟨K3, trivial⟩⟩
def rowZ (l : List Int) : List (List AV) := l.map fun x => [.int .i64 x]
@[simp] theorem rowZ_length (l : List Int) : (rowZ l).length = l.length := by simp [rowZ]
theorem rowZ_get {l : List Int} {k : Nat} (h : k < l.length) : (rowZ l)[k]? = some [.int .i64 l[k]] := by simp [rowZ, h]
theorem take_ext {α : Type} {a b : List α} {i : Nat} (ha : i < a.length) (hb : i < b.length) (h : a.take i = b.take i) (he : a[i] = b[i]) : a.take (i + 1) = b.take (i + 1) := by
  rw [List.take_succ_eq_append_getElem ha, List.take_succ_eq_append_getElem hb, h, he]
set_option maxHeartbeats 1000000 in
theorem c_r04_Same (a b : List Int) (hla : a.length < 9000000000) (hlb : b.length < 9000000000) : VCall Go.Proofs.Tryz.prog gl 12 [.ro 1 (rowZ a), .ro 1 (rowZ b)] (fun x => x = .bool (decide (a = b))) := by
  refine vcall_of TOK_r04_Same HM Go.Proofs.Tryz.func12 rfl (by decide +kernel) (by decide +kernel) rfl ?_
  have ha : (rowZ a).length = a.length := rowZ_length a
  have hb : (rowZ b).length = b.length := rowZ_length b
  repeat' ((conv => whnf); first | (with_reducible first | apply Xa | (first | apply xi | apply xu | apply x8 | apply x3 | apply xn | apply xp | apply xP | refine xs ?_ ?_ | refine xS ?_ ?_ | refine xZ ?_ ?_ | refine xl ?_ ?_ | refine xd ?_ ?_ | refine xy ?_ ?_ | refine xL ?_ ?_ | refine xD ?_ ?_ | apply xx); omega | apply Xm | apply Xe) | refine Xo (by assumption) ?_ | refine Or.inl ⟨rfl, ?_⟩ | (split <;> (first | (rename_i u h; clear u) | rename_i h) <;> (try rewrite [h]) <;> (first | replace h := dt h | replace h := df h | replace h := Nt h | replace h := Nf h | skip)))
  · conv => whnf
    refine congrArg AV.bool (Eq.symm (decide_eq_false fun e => ?_))
    rw [e] at h; exact h rfl
  · have hlen : a.length = b.length := by omega
    conv => whnf
    refine ⟨[0, 1, 5], [], fun m st => ∃ i : Nat, i ≤ a.length ∧ m = a.length - i ∧ a.take i = b.take i ∧ st = ⟨[(0, .ro 1 (rowZ a)), (1, .ro 1 (rowZ b)), (5, .int .i64 (i : Nat))], []⟩, rfl, ⟨a.length, 0, by omega, rfl, rfl, rfl⟩, ?_⟩
    rintro m _ ⟨i, hi, hm, ht, rfl⟩
    rcases Nat.lt_or_ge i a.length with hia | hge
    · have hib : i < b.length := by omega
      have ga := rowZ_get hia
      have gb := rowZ_get hib
      repeat' ((conv => whnf); first | (with_reducible first | apply Xa | (first | apply xi | apply xu | apply x8 | apply x3 | apply xn | apply xp | apply xP | refine xs ?_ ?_ | refine xS ?_ ?_ | refine xZ ?_ ?_ | refine xl ?_ ?_ | refine xd ?_ ?_ | refine xy ?_ ?_ | refine xL ?_ ?_ | refine xD ?_ ?_ | apply xx); omega | apply Xm | apply Xe) | refine Xo (by assumption) ?_ | refine Or.inl ⟨rfl, ?_⟩ | (split <;> (first | (rename_i u h; clear u) | rename_i h) <;> (try rewrite [h]) <;> (first | replace h := dt h | replace h := df h | replace h := Nt h | replace h := Nf h | skip)))
      all_goals try omega
      refine ⟨by decide +kernel, [0, 0, 3, 7, 0, 0, 48, 112, 255], by decide +kernel, ?_⟩
      repeat' ((conv => whnf); first | (with_reducible first | apply Xa | (first | apply xi | apply xu | apply x8 | apply x3 | apply xn | apply xp | apply xP | refine xs ?_ ?_ | refine xS ?_ ?_ | refine xZ ?_ ?_ | refine xl ?_ ?_ | refine xd ?_ ?_ | refine xy ?_ ?_ | refine xL ?_ ?_ | refine xD ?_ ?_ | apply xx); omega | apply Xm | apply Xe) | refine Xo (by assumption) ?_ | refine Or.inl ⟨rfl, ?_⟩ | (split <;> (first | (rename_i u h; clear u) | rename_i h) <;> (try rewrite [h]) <;> (first | replace h := dt h | replace h := df h | replace h := Nt h | replace h := Nf h | skip)))
      refine ⟨i, _, rfl, ga, ?_⟩
      repeat' ((conv => whnf); first | (with_reducible first | apply Xa | (first | apply xi | apply xu | apply x8 | apply x3 | apply xn | apply xp | apply xP | refine xs ?_ ?_ | refine xS ?_ ?_ | refine xZ ?_ ?_ | refine xl ?_ ?_ | refine xd ?_ ?_ | refine xy ?_ ?_ | refine xL ?_ ?_ | refine xD ?_ ?_ | apply xx); omega | apply Xm | apply Xe) | refine Xo (by assumption) ?_ | refine Or.inl ⟨rfl, ?_⟩ | (split <;> (first | (rename_i u h; clear u) | rename_i h) <;> (try rewrite [h]) <;> (first | replace h := dt h | replace h := df h | replace h := Nt h | replace h := Nf h | skip)))
      refine ⟨i, _, rfl, gb, ?_⟩
      repeat' ((conv => whnf); first | (with_reducible first | apply Xa | (first | apply xi | apply xu | apply x8 | apply x3 | apply xn | apply xp | apply xP | refine xs ?_ ?_ | refine xS ?_ ?_ | refine xZ ?_ ?_ | refine xl ?_ ?_ | refine xd ?_ ?_ | refine xy ?_ ?_ | refine xL ?_ ?_ | refine xD ?_ ?_ | apply xx); omega | apply Xm | apply Xe) | refine Xo (by assumption) ?_ | refine Or.inl ⟨rfl, ?_⟩ | (split <;> (first | (rename_i u h; clear u) | rename_i h) <;> (try rewrite [h]) <;> (first | replace h := dt h | replace h := df h | replace h := Nt h | replace h := Nf h | skip)))
      · conv => whnf
        refine congrArg AV.bool (Eq.symm (decide_eq_false fun e => ?_))
        subst e; exact h rfl
      · exact ⟨[], a.length - (i + 1), rfl, by omega, i + 1, by omega, rfl, take_ext hia hib ht h, rfl⟩
    · repeat' ((conv => whnf); first | (with_reducible first | apply Xa | (first | apply xi | apply xu | apply x8 | apply x3 | apply xn | apply xp | apply xP | refine xs ?_ ?_ | refine xS ?_ ?_ | refine xZ ?_ ?_ | refine xl ?_ ?_ | refine xd ?_ ?_ | refine xy ?_ ?_ | refine xL ?_ ?_ | refine xD ?_ ?_ | apply xx); omega | apply Xm | apply Xe) | refine Xo (by assumption) ?_ | refine Or.inl ⟨rfl, ?_⟩ | (split <;> (first | (rename_i u h; clear u) | rename_i h) <;> (try rewrite [h]) <;> (first | replace h := dt h | replace h := df h | replace h := Nt h | replace h := Nf h | skip)))
      all_goals try omega
      conv => whnf
      rw [List.take_of_length_le (by omega), List.take_of_length_le (by omega)] at ht
      exact congrArg AV.bool (Eq.symm (decide_eq_true ht))
set_option maxHeartbeats 1000000 in
theorem c_EqualI (a b : List Int) (hla : a.length < 9000000000) (hlb : b.length < 9000000000) : VCall Go.Proofs.Tryz.prog gl 33 [.ro 1 (rowZ a), .ro 1 (rowZ b)] (fun x => x = .bool (decide (a = b))) := by
  refine vcall_of TOK_EqualI HM Go.Proofs.Tryz.func33 rfl (by decide +kernel) (by decide +kernel) rfl ?_
  have ha : (rowZ a).length = a.length := rowZ_length a
  have hb : (rowZ b).length = b.length := rowZ_length b
  repeat' ((conv => whnf); first | (with_reducible first | apply Xa | (first | apply xi | apply xu | apply x8 | apply x3 | apply xn | apply xp | apply xP | refine xs ?_ ?_ | refine xS ?_ ?_ | refine xZ ?_ ?_ | refine xl ?_ ?_ | refine xd ?_ ?_ | refine xy ?_ ?_ | refine xL ?_ ?_ | refine xD ?_ ?_ | apply xx); omega | apply Xm | apply Xe) | refine Xo (by assumption) ?_ | refine Or.inl ⟨rfl, ?_⟩ | (split <;> (first | (rename_i u h; clear u) | rename_i h) <;> (try rewrite [h]) <;> (first | replace h := dt h | replace h := df h | replace h := Nt h | replace h := Nf h | skip)))
  · conv => whnf
    refine congrArg AV.bool (Eq.symm (decide_eq_false fun e => ?_))
    rw [e] at h; exact h rfl
  · have hlen : a.length = b.length := by omega
    conv => whnf
    refine ⟨[0, 1, 12, 13], [], fun m st => ∃ i : Nat, i ≤ a.length ∧ m = a.length - i ∧ a.take i = b.take i ∧ st = ⟨[(0, .ro 1 (rowZ a)), (1, .ro 1 (rowZ b)), (12, .int .i64 ((rowZ a).length : Nat)), (13, .int .i64 (i : Nat))], []⟩, rfl, ⟨a.length, 0, by omega, rfl, rfl, rfl⟩, ?_⟩
    rintro m _ ⟨i, hi, hm, ht, rfl⟩
    rcases Nat.lt_or_ge i a.length with hia | hge
    · have hib : i < b.length := by omega
      have ga := rowZ_get hia
      have gb := rowZ_get hib
      repeat' ((conv => whnf); first | (with_reducible first | apply Xa | (first | apply xi | apply xu | apply x8 | apply x3 | apply xn | apply xp | apply xP | refine xs ?_ ?_ | refine xS ?_ ?_ | refine xZ ?_ ?_ | refine xl ?_ ?_ | refine xd ?_ ?_ | refine xy ?_ ?_ | refine xL ?_ ?_ | refine xD ?_ ?_ | apply xx); omega | apply Xm | apply Xe) | refine Xo (by assumption) ?_ | refine Or.inl ⟨rfl, ?_⟩ | (split <;> (first | (rename_i u h; clear u) | rename_i h) <;> (try rewrite [h]) <;> (first | replace h := dt h | replace h := df h | replace h := Nt h | replace h := Nf h | skip)))
      all_goals try omega
      refine ⟨by decide +kernel, [0, 0, 3, 7, 0, 0, 48, 112, 255], by decide +kernel, ?_⟩
      repeat' ((conv => whnf); first | (with_reducible first | apply Xa | (first | apply xi | apply xu | apply x8 | apply x3 | apply xn | apply xp | apply xP | refine xs ?_ ?_ | refine xS ?_ ?_ | refine xZ ?_ ?_ | refine xl ?_ ?_ | refine xd ?_ ?_ | refine xy ?_ ?_ | refine xL ?_ ?_ | refine xD ?_ ?_ | apply xx); omega | apply Xm | apply Xe) | refine Xo (by assumption) ?_ | refine Or.inl ⟨rfl, ?_⟩ | (split <;> (first | (rename_i u h; clear u) | rename_i h) <;> (try rewrite [h]) <;> (first | replace h := dt h | replace h := df h | replace h := Nt h | replace h := Nf h | skip)))
      refine ⟨i, _, rfl, ga, ?_⟩
      repeat' ((conv => whnf); first | (with_reducible first | apply Xa | (first | apply xi | apply xu | apply x8 | apply x3 | apply xn | apply xp | apply xP | refine xs ?_ ?_ | refine xS ?_ ?_ | refine xZ ?_ ?_ | refine xl ?_ ?_ | refine xd ?_ ?_ | refine xy ?_ ?_ | refine xL ?_ ?_ | refine xD ?_ ?_ | apply xx); omega | apply Xm | apply Xe) | refine Xo (by assumption) ?_ | refine Or.inl ⟨rfl, ?_⟩ | (split <;> (first | (rename_i u h; clear u) | rename_i h) <;> (try rewrite [h]) <;> (first | replace h := dt h | replace h := df h | replace h := Nt h | replace h := Nf h | skip)))
      refine ⟨i, _, rfl, gb, ?_⟩
      repeat' ((conv => whnf); first | (with_reducible first | apply Xa | (first | apply xi | apply xu | apply x8 | apply x3 | apply xn | apply xp | apply xP | refine xs ?_ ?_ | refine xS ?_ ?_ | refine xZ ?_ ?_ | refine xl ?_ ?_ | refine xd ?_ ?_ | refine xy ?_ ?_ | refine xL ?_ ?_ | refine xD ?_ ?_ | apply xx); omega | apply Xm | apply Xe) | refine Xo (by assumption) ?_ | refine Or.inl ⟨rfl, ?_⟩ | (split <;> (first | (rename_i u h; clear u) | rename_i h) <;> (try rewrite [h]) <;> (first | replace h := dt h | replace h := df h | replace h := Nt h | replace h := Nf h | skip)))
      · conv => whnf
        refine congrArg AV.bool (Eq.symm (decide_eq_false fun e => ?_))
        subst e; exact h rfl
      · exact ⟨[], a.length - (i + 1), rfl, by omega, i + 1, by omega, rfl, take_ext hia hib ht h, rfl⟩
    · repeat' ((conv => whnf); first | (with_reducible first | apply Xa | (first | apply xi | apply xu | apply x8 | apply x3 | apply xn | apply xp | apply xP | refine xs ?_ ?_ | refine xS ?_ ?_ | refine xZ ?_ ?_ | refine xl ?_ ?_ | refine xd ?_ ?_ | refine xy ?_ ?_ | refine xL ?_ ?_ | refine xD ?_ ?_ | apply xx); omega | apply Xm | apply Xe) | refine Xo (by assumption) ?_ | refine Or.inl ⟨rfl, ?_⟩ | (split <;> (first | (rename_i u h; clear u) | rename_i h) <;> (try rewrite [h]) <;> (first | replace h := dt h | replace h := df h | replace h := Nt h | replace h := Nf h | skip)))
      all_goals try omega
      conv => whnf
      rw [List.take_of_length_le (by omega), List.take_of_length_le (by omega)] at ht
      exact congrArg AV.bool (Eq.symm (decide_eq_true ht))
theorem c_shape_Same (a b : List Int) (hla : a.length < 9000000000) (hlb : b.length < 9000000000) : VCall Go.Proofs.Tryz.prog gl 20 [.ro 1 (rowZ a), .ro 1 (rowZ b)] (fun x => x = .bool (decide (a = b))) := by
  refine vcall_of TOK_shape_Same HM Go.Proofs.Tryz.func20 rfl (by decide +kernel) (by decide +kernel) rfl ?_
  repeat' ((conv => whnf); first | (with_reducible first | apply Xa | (first | apply xi | apply xu | apply x8 | apply x3 | apply xn | apply xp | apply xP | refine xs ?_ ?_ | refine xS ?_ ?_ | refine xZ ?_ ?_ | refine xl ?_ ?_ | refine xd ?_ ?_ | refine xy ?_ ?_ | refine xL ?_ ?_ | refine xD ?_ ?_ | apply xx); omega | apply Xm | apply Xe) | refine Xo (by assumption) ?_ | refine Or.inl ⟨rfl, ?_⟩ | (split <;> (first | (rename_i u h; clear u) | rename_i h) <;> (try rewrite [h]) <;> (first | replace h := dt h | replace h := df h | replace h := Nt h | replace h := Nf h | skip)))
  conv => whnf
  refine .inl ⟨_, c_EqualI gl a b hla hlb, ?_⟩
  rintro _ rfl
  repeat' ((conv => whnf); first | (with_reducible first | apply Xa | (first | apply xi | apply xu | apply x8 | apply x3 | apply xn | apply xp | apply xP | refine xs ?_ ?_ | refine xS ?_ ?_ | refine xZ ?_ ?_ | refine xl ?_ ?_ | refine xd ?_ ?_ | refine xy ?_ ?_ | refine xL ?_ ?_ | refine xD ?_ ?_ | apply xx); omega | apply Xm | apply Xe) | refine Xo (by assumption) ?_ | refine Or.inl ⟨rfl, ?_⟩ | (split <;> (first | (rename_i u h; clear u) | rename_i h) <;> (try rewrite [h]) <;> (first | replace h := dt h | replace h := df h | replace h := Nt h | replace h := Nf h | skip)))
  conv => whnf
  rfl
end Go.V
namespace Go.V
open Go.N
variable (gl : Gl)
def T_r04_Right : Tab := [(27, i27), (3, i3)]
theorem TOK_r04_Right : TOK Go.Proofs.Tryz.prog T_r04_Right := ⟨K27, ⟨K3, trivial⟩⟩
def T_r04_Size : Tab := [(27, i27), (3, i3)]
theorem TOK_r04_Size : TOK Go.Proofs.Tryz.prog T_r04_Size := ⟨K27, ⟨K3, trivial⟩⟩
def T_shape_Right : Tab := [(27, i27), (3, i3)]
theorem TOK_shape_Right : TOK Go.Proofs.Tryz.prog T_shape_Right := ⟨K27, ⟨K3, trivial⟩⟩
def T_shape_Size : Tab := [(27, i27), (3, i3), (4, i4)]
theorem TOK_shape_Size : TOK Go.Proofs.Tryz.prog T_shape_Size := ⟨K27, ⟨K3, ⟨K4, trivial⟩⟩⟩
def prodZ (l : List Int) : Int := l.foldl (· * ·) 1
theorem prodZ_snoc (l : List Int) (x : Int) : prodZ (l ++ [x]) = prodZ l * x := by simp [prodZ]
theorem prodZ_take {l : List Int} {i : Nat} (h : i < l.length) : prodZ (l.take (i + 1)) = prodZ (l.take i) * l[i] := by
  rw [List.take_succ_eq_append_getElem h, prodZ_snoc]
def dimOK (d : Int) : Bool := decide (1 ≤ d) && decide (d ≤ 64)
def okShape (l : List Int) : Bool := decide (l.length ≤ 4) && l.all dimOK && decide (prodZ l ≤ 64)
theorem prodZ_pos : ∀ (l : List Int) (r : Int), (∀ d ∈ l, 1 ≤ d) → 1 ≤ r → r ≤ l.foldl (· * ·) r
  | [], r, _, _ => Int.le_refl _
  | x :: l, r, h, hr => by
    have hx := h x List.mem_cons_self
    have h1 : r * 1 ≤ r * x := Int.mul_le_mul_of_nonneg_left hx (by omega)
    rw [Int.mul_one] at h1
    exact Int.le_trans h1 (prodZ_pos l (r * x) (fun d hd => h d (List.mem_cons_of_mem _ hd)) (by omega))
theorem prodZ_le {l : List Int} (h : ∀ d ∈ l, 1 ≤ d) (i : Nat) : prodZ (l.take i) ≤ prodZ l := by
  have h1 : 1 ≤ prodZ (l.take i) := prodZ_pos _ 1 (fun d hd => h d (List.mem_of_mem_take hd)) (Int.le_refl _)
  have h2 := prodZ_pos (l.drop i) (prodZ (l.take i)) (fun d hd => h d (List.mem_of_mem_drop hd)) h1
  have e : (l.drop i).foldl (· * ·) (prodZ (l.take i)) = prodZ l := by
    unfold prodZ; rw [← List.foldl_append, List.take_append_drop]
  rwa [e] at h2
theorem mul64 {p d : Int} (h1 : 1 ≤ p) (h2 : p ≤ 64) (h3 : 1 ≤ d) (h4 : d ≤ 64) : 1 ≤ p * d ∧ p * d ≤ 4096 := by
  have a := Int.mul_le_mul h2 h4 (by omega) (by omega)
  have b := Int.mul_le_mul h1 h3 (by omega) (by omega)
  omega
theorem okShape_bad {l : List Int} {i : Nat} (h : i < l.length) (hb : dimOK l[i] = false) : okShape l = false := by
  have : l.all dimOK = false := by rw [List.all_eq_false]; exact ⟨_, List.getElem_mem h, by simp [hb]⟩
  simp [okShape, this]
theorem okShape_dim {l : List Int} (h : okShape l = true) : ∀ d ∈ l, 1 ≤ d ∧ d ≤ 64 := fun d hd => by
  simp only [okShape, Bool.and_eq_true, List.all_eq_true] at h
  have := h.1.2 d hd
  simpa [dimOK] using this
set_option maxHeartbeats 2000000 in
theorem c_r04_Right (l : List Int) (hll : l.length < 9000000000) : VCall Go.Proofs.Tryz.prog gl 25 [.ro 1 (rowZ l)] (fun x => x = .bool (okShape l)) := by
  refine vcall_of TOK_r04_Right HM Go.Proofs.Tryz.func25 rfl (by decide +kernel) (by decide +kernel) rfl ?_
  have hl : (rowZ l).length = l.length := rowZ_length l
  repeat' ((conv => whnf); first | (with_reducible first | apply Xa | (first | apply xi | apply xu | apply x8 | apply x3 | apply xn | apply xp | apply xP | refine xs ?_ ?_ | refine xS ?_ ?_ | refine xZ ?_ ?_ | refine xl ?_ ?_ | refine xd ?_ ?_ | refine xy ?_ ?_ | refine xL ?_ ?_ | refine xD ?_ ?_ | apply xx); omega | apply Xm | apply Xe) | refine Xo (by assumption) ?_ | refine Or.inl ⟨rfl, ?_⟩ | (split <;> (first | (rename_i u h; clear u) | rename_i h) <;> (try rewrite [h]) <;> (first | replace h := dt h | replace h := df h | replace h := Nt h | replace h := Nf h | skip)))
  · conv => whnf
    have : ¬ l.length ≤ 4 := by omega
    exact congrArg AV.bool (by simp [okShape, this])
  · have h4 : l.length ≤ 4 := by omega
    conv => whnf
    refine ⟨[0, 3, 4], [], fun m st => ∃ i : Nat, i ≤ l.length ∧ m = l.length - i ∧ (l.take i).all dimOK = true ∧ 1 ≤ prodZ (l.take i) ∧ prodZ (l.take i) ≤ 64 ∧
      st = ⟨[(0, .ro 1 (rowZ l)), (3, .int .i64 (prodZ (l.take i))), (4, .int .i64 (i : Nat))], []⟩, rfl, ⟨l.length, 0, by omega, rfl, rfl, by simp [prodZ], by simp [prodZ], rfl⟩, ?_⟩
    rintro m _ ⟨i, hi, hm, hd, hp1, hp2, rfl⟩
    rcases Nat.lt_or_ge i l.length with hil | hge
    · have g := rowZ_get hil
      rcases Int.lt_or_le l[i] 1 with h1 | h1
      · have hb : dimOK l[i] = false := by simp [dimOK]; omega
        repeat' ((conv => whnf); first | (with_reducible first | apply Xa | (first | apply xi | apply xu | apply x8 | apply x3 | apply xn | apply xp | apply xP | refine xs ?_ ?_ | refine xS ?_ ?_ | refine xZ ?_ ?_ | refine xl ?_ ?_ | refine xd ?_ ?_ | refine xy ?_ ?_ | refine xL ?_ ?_ | refine xD ?_ ?_ | apply xx); omega | apply Xm | apply Xe) | refine Xo (by assumption) ?_ | refine Or.inl ⟨rfl, ?_⟩ | (split <;> (first | (rename_i u h; clear u) | rename_i h) <;> (try rewrite [h]) <;> (first | replace h := dt h | replace h := df h | replace h := Nt h | replace h := Nf h | skip)))
        all_goals try omega
        refine ⟨i, _, rfl, g, ?_⟩
        repeat' ((conv => whnf); first | (with_reducible first | apply Xa | (first | apply xi | apply xu | apply x8 | apply x3 | apply xn | apply xp | apply xP | refine xs ?_ ?_ | refine xS ?_ ?_ | refine xZ ?_ ?_ | refine xl ?_ ?_ | refine xd ?_ ?_ | refine xy ?_ ?_ | refine xL ?_ ?_ | refine xD ?_ ?_ | apply xx); omega | apply Xm | apply Xe) | refine Xo (by assumption) ?_ | refine Or.inl ⟨rfl, ?_⟩ | (split <;> (first | (rename_i u h; clear u) | rename_i h) <;> (try rewrite [h]) <;> (first | replace h := dt h | replace h := df h | replace h := Nt h | replace h := Nf h | skip)))
        all_goals try omega
        conv => whnf
        rw [okShape_bad hil hb]; rfl
      rcases Int.lt_or_le 64 l[i] with h2 | h2
      · have hb : dimOK l[i] = false := by simp [dimOK]; omega
        repeat' ((conv => whnf); first | (with_reducible first | apply Xa | (first | apply xi | apply xu | apply x8 | apply x3 | apply xn | apply xp | apply xP | refine xs ?_ ?_ | refine xS ?_ ?_ | refine xZ ?_ ?_ | refine xl ?_ ?_ | refine xd ?_ ?_ | refine xy ?_ ?_ | refine xL ?_ ?_ | refine xD ?_ ?_ | apply xx); omega | apply Xm | apply Xe) | refine Xo (by assumption) ?_ | refine Or.inl ⟨rfl, ?_⟩ | (split <;> (first | (rename_i u h; clear u) | rename_i h) <;> (try rewrite [h]) <;> (first | replace h := dt h | replace h := df h | replace h := Nt h | replace h := Nf h | skip)))
        all_goals try omega
        refine ⟨i, _, rfl, g, ?_⟩
        repeat' ((conv => whnf); first | (with_reducible first | apply Xa | (first | apply xi | apply xu | apply x8 | apply x3 | apply xn | apply xp | apply xP | refine xs ?_ ?_ | refine xS ?_ ?_ | refine xZ ?_ ?_ | refine xl ?_ ?_ | refine xd ?_ ?_ | refine xy ?_ ?_ | refine xL ?_ ?_ | refine xD ?_ ?_ | apply xx); omega | apply Xm | apply Xe) | refine Xo (by assumption) ?_ | refine Or.inl ⟨rfl, ?_⟩ | (split <;> (first | (rename_i u h; clear u) | rename_i h) <;> (try rewrite [h]) <;> (first | replace h := dt h | replace h := df h | replace h := Nt h | replace h := Nf h | skip)))
        all_goals try omega
        refine ⟨i, _, rfl, g, ?_⟩
        repeat' ((conv => whnf); first | (with_reducible first | apply Xa | (first | apply xi | apply xu | apply x8 | apply x3 | apply xn | apply xp | apply xP | refine xs ?_ ?_ | refine xS ?_ ?_ | refine xZ ?_ ?_ | refine xl ?_ ?_ | refine xd ?_ ?_ | refine xy ?_ ?_ | refine xL ?_ ?_ | refine xD ?_ ?_ | apply xx); omega | apply Xm | apply Xe) | refine Xo (by assumption) ?_ | refine Or.inl ⟨rfl, ?_⟩ | (split <;> (first | (rename_i u h; clear u) | rename_i h) <;> (try rewrite [h]) <;> (first | replace h := dt h | replace h := df h | replace h := Nt h | replace h := Nf h | skip)))
        all_goals try omega
        conv => whnf
        rw [okShape_bad hil hb]; rfl
      obtain ⟨hm1, hm2⟩ := mul64 hp1 hp2 h1 h2
      have hpt := prodZ_take hil
      repeat' ((conv => whnf); first | (with_reducible first | apply Xa | (first | apply xi | apply xu | apply x8 | apply x3 | apply xn | apply xp | apply xP | refine xs ?_ ?_ | refine xS ?_ ?_ | refine xZ ?_ ?_ | refine xl ?_ ?_ | refine xd ?_ ?_ | refine xy ?_ ?_ | refine xL ?_ ?_ | refine xD ?_ ?_ | apply xx); omega | apply Xm | apply Xe) | refine Xo (by assumption) ?_ | refine Or.inl ⟨rfl, ?_⟩ | (split <;> (first | (rename_i u h; clear u) | rename_i h) <;> (try rewrite [h]) <;> (first | replace h := dt h | replace h := df h | replace h := Nt h | replace h := Nf h | skip)))
      all_goals try omega
      refine ⟨i, _, rfl, g, ?_⟩
      repeat' ((conv => whnf); first | (with_reducible first | apply Xa | (first | apply xi | apply xu | apply x8 | apply x3 | apply xn | apply xp | apply xP | refine xs ?_ ?_ | refine xS ?_ ?_ | refine xZ ?_ ?_ | refine xl ?_ ?_ | refine xd ?_ ?_ | refine xy ?_ ?_ | refine xL ?_ ?_ | refine xD ?_ ?_ | apply xx); omega | apply Xm | apply Xe) | refine Xo (by assumption) ?_ | refine Or.inl ⟨rfl, ?_⟩ | (split <;> (first | (rename_i u h; clear u) | rename_i h) <;> (try rewrite [h]) <;> (first | replace h := dt h | replace h := df h | replace h := Nt h | replace h := Nf h | skip)))
      all_goals try omega
      refine ⟨i, _, rfl, g, ?_⟩
      repeat' ((conv => whnf); first | (with_reducible first | apply Xa | (first | apply xi | apply xu | apply x8 | apply x3 | apply xn | apply xp | apply xP | refine xs ?_ ?_ | refine xS ?_ ?_ | refine xZ ?_ ?_ | refine xl ?_ ?_ | refine xd ?_ ?_ | refine xy ?_ ?_ | refine xL ?_ ?_ | refine xD ?_ ?_ | apply xx); omega | apply Xm | apply Xe) | refine Xo (by assumption) ?_ | refine Or.inl ⟨rfl, ?_⟩ | (split <;> (first | (rename_i u h; clear u) | rename_i h) <;> (try rewrite [h]) <;> (first | replace h := dt h | replace h := df h | replace h := Nt h | replace h := Nf h | skip)))
      all_goals try omega
      refine ⟨i, _, rfl, g, ?_⟩
      repeat' ((conv => whnf); first | (with_reducible first | apply Xa | (first | apply xi | apply xu | apply x8 | apply x3 | apply xn | apply xp | apply xP | refine xs ?_ ?_ | refine xS ?_ ?_ | refine xZ ?_ ?_ | refine xl ?_ ?_ | refine xd ?_ ?_ | refine xy ?_ ?_ | refine xL ?_ ?_ | refine xD ?_ ?_ | apply xx); omega | apply Xm | apply Xe) | refine Xo (by assumption) ?_ | refine Or.inl ⟨rfl, ?_⟩ | (split <;> (first | (rename_i u h; clear u) | rename_i h) <;> (try rewrite [h]) <;> (first | replace h := dt h | replace h := df h | replace h := Nt h | replace h := Nf h | skip)))
      all_goals try omega
      · conv => whnf
        have e : okShape l = false := by
          cases ha : l.all dimOK
          · simp [okShape, ha]
          · have h5 := prodZ_le (l := l) (fun d hd => by
              have := List.all_eq_true.1 ha d hd
              simp only [dimOK, Bool.and_eq_true, decide_eq_true_eq] at this
              exact this.1) (i + 1)
            have h6 : ¬ prodZ l ≤ 64 := by omega
            simp [okShape, h6]
        rw [e]; rfl
      · repeat' ((conv => whnf); first | (with_reducible first | apply Xa | (first | apply xi | apply xu | apply x8 | apply x3 | apply xn | apply xp | apply xP | refine xs ?_ ?_ | refine xS ?_ ?_ | refine xZ ?_ ?_ | refine xl ?_ ?_ | refine xd ?_ ?_ | refine xy ?_ ?_ | refine xL ?_ ?_ | refine xD ?_ ?_ | apply xx); omega | apply Xm | apply Xe) | refine Xo (by assumption) ?_ | refine Or.inl ⟨rfl, ?_⟩ | (split <;> (first | (rename_i u h; clear u) | rename_i h) <;> (try rewrite [h]) <;> (first | replace h := dt h | replace h := df h | replace h := Nt h | replace h := Nf h | skip)))
        refine ⟨i, _, rfl, g, ?_⟩
        repeat' ((conv => whnf); first | (with_reducible first | apply Xa | (first | apply xi | apply xu | apply x8 | apply x3 | apply xn | apply xp | apply xP | refine xs ?_ ?_ | refine xS ?_ ?_ | refine xZ ?_ ?_ | refine xl ?_ ?_ | refine xd ?_ ?_ | refine xy ?_ ?_ | refine xL ?_ ?_ | refine xD ?_ ?_ | apply xx); omega | apply Xm | apply Xe) | refine Xo (by assumption) ?_ | refine Or.inl ⟨rfl, ?_⟩ | (split <;> (first | (rename_i u h; clear u) | rename_i h) <;> (try rewrite [h]) <;> (first | replace h := dt h | replace h := df h | replace h := Nt h | replace h := Nf h | skip)))
        have hdi : dimOK l[i] = true := by simp [dimOK, h1, h2]
        exact ⟨[], l.length - (i + 1), rfl, by omega, i + 1, by omega, rfl, by rw [List.take_succ_eq_append_getElem hil, List.all_append, hd]; simp [hdi], by omega, by omega,
          Eq.trans rfl (congrArg (fun z => (⟨[(0, .ro 1 (rowZ l)), (3, .int .i64 z), (4, .int .i64 ((i + 1 : Nat) : Int))], []⟩ : St)) hpt.symm)⟩
    · repeat' ((conv => whnf); first | (with_reducible first | apply Xa | (first | apply xi | apply xu | apply x8 | apply x3 | apply xn | apply xp | apply xP | refine xs ?_ ?_ | refine xS ?_ ?_ | refine xZ ?_ ?_ | refine xl ?_ ?_ | refine xd ?_ ?_ | refine xy ?_ ?_ | refine xL ?_ ?_ | refine xD ?_ ?_ | apply xx); omega | apply Xm | apply Xe) | refine Xo (by assumption) ?_ | refine Or.inl ⟨rfl, ?_⟩ | (split <;> (first | (rename_i u h; clear u) | rename_i h) <;> (try rewrite [h]) <;> (first | replace h := dt h | replace h := df h | replace h := Nt h | replace h := Nf h | skip)))
      all_goals try omega
      conv => whnf
      rw [List.take_of_length_le (by omega)] at hd hp2
      exact congrArg AV.bool (by simp [okShape, h4, hd, hp2])
def cap (i : Nat) : Int := 64 ^ i
theorem cap_succ (i : Nat) : cap (i + 1) = cap i * 64 := Int.pow_succ 64 i
theorem cap_nonneg (i : Nat) : 0 ≤ cap i := Int.pow_nonneg (by omega)
theorem cap_le {i : Nat} (h : i < 4) : cap i * 64 ≤ 16777216 := by
  have hi3 : i = 0 ∨ i = 1 ∨ i = 2 ∨ i = 3 := by omega
  rcases hi3 with rfl | rfl | rfl | rfl <;> decide
theorem mulcap {p d c : Int} (h1 : 1 ≤ p) (h2 : p ≤ c) (h3 : 1 ≤ d) (h4 : d ≤ 64) (hc : 0 ≤ c) (hb : c * 64 ≤ 16777216) : 1 ≤ p * d ∧ p * d ≤ c * 64 ∧ p * d ≤ 16777216 := by
  have a := Int.mul_le_mul h2 h4 (by omega) hc
  have b := Int.mul_le_mul h1 h3 (by omega) (by omega)
  omega
set_option maxHeartbeats 2000000 in
theorem c_shape_Right (l : List Int) (hll : l.length < 9000000000) : VCall Go.Proofs.Tryz.prog gl 31 [.ro 1 (rowZ l)] (fun x => x = .bool (okShape l)) := by
  refine vcall_of TOK_shape_Right HM Go.Proofs.Tryz.func31 rfl (by decide +kernel) (by decide +kernel) rfl ?_
  have hl : (rowZ l).length = l.length := rowZ_length l
  repeat' ((conv => whnf); first | (with_reducible first | apply Xa | (first | apply xi | apply xu | apply x8 | apply x3 | apply xn | apply xp | apply xP | refine xs ?_ ?_ | refine xS ?_ ?_ | refine xZ ?_ ?_ | refine xl ?_ ?_ | refine xd ?_ ?_ | refine xy ?_ ?_ | refine xL ?_ ?_ | refine xD ?_ ?_ | apply xx); omega | apply Xm | apply Xe) | refine Xo (by assumption) ?_ | refine Or.inl ⟨rfl, ?_⟩ | (split <;> (first | (rename_i u h; clear u) | rename_i h) <;> (try rewrite [h]) <;> (first | replace h := dt h | replace h := df h | replace h := Nt h | replace h := Nf h | skip)))
  refine ⟨[0, 3, 6, 7, 8], [], fun m st => ∃ i : Nat, i ≤ l.length ∧ (0 < i → l.length ≤ 4) ∧ m = l.length - i ∧ (l.take i).all dimOK = true ∧ 1 ≤ prodZ (l.take i) ∧ prodZ (l.take i) ≤ cap i ∧
    st = ⟨[(0, .ro 1 (rowZ l)), (3, .int .i64 (prodZ (l.take i))), (6, .ro 1 (rowZ l)), (7, .int .i64 ((rowZ l).length : Nat)), (8, .int .i64 (i : Nat))], []⟩, rfl, ⟨l.length, 0, by omega, by omega, rfl, rfl, by simp [prodZ], by simp [prodZ, cap], rfl⟩, ?_⟩
  rintro m _ ⟨i, hi, h4i, hm, hd, hp1, hp2, rfl⟩
  rcases Nat.lt_or_ge i l.length with hil | hge
  · have g := rowZ_get hil
    rcases Nat.lt_or_ge 4 l.length with h5 | h4
    · have hbad : okShape l = false := by
        have : ¬ l.length ≤ 4 := by omega
        simp [okShape, this]
      rw [hbad]
      repeat' ((conv => whnf); first | (with_reducible first | apply Xa | (first | apply xi | apply xu | apply x8 | apply x3 | apply xn | apply xp | apply xP | refine xs ?_ ?_ | refine xS ?_ ?_ | refine xZ ?_ ?_ | refine xl ?_ ?_ | refine xd ?_ ?_ | refine xy ?_ ?_ | refine xL ?_ ?_ | refine xD ?_ ?_ | apply xx); omega | apply Xm | apply Xe) | refine Xo (by assumption) ?_ | refine Or.inl ⟨rfl, ?_⟩ | (split <;> (first | (rename_i u h; clear u) | rename_i h) <;> (try rewrite [h]) <;> (first | replace h := dt h | replace h := df h | replace h := Nt h | replace h := Nf h | skip)))
      all_goals try omega
      refine ⟨i, _, rfl, g, ?_⟩
      repeat' ((conv => whnf); first | (with_reducible first | apply Xa | (first | apply xi | apply xu | apply x8 | apply x3 | apply xn | apply xp | apply xP | refine xs ?_ ?_ | refine xS ?_ ?_ | refine xZ ?_ ?_ | refine xl ?_ ?_ | refine xd ?_ ?_ | refine xy ?_ ?_ | refine xL ?_ ?_ | refine xD ?_ ?_ | apply xx); omega | apply Xm | apply Xe) | refine Xo (by assumption) ?_ | refine Or.inl ⟨rfl, ?_⟩ | (split <;> (first | (rename_i u h; clear u) | rename_i h) <;> (try rewrite [h]) <;> (first | replace h := dt h | replace h := df h | replace h := Nt h | replace h := Nf h | skip)))
      all_goals try omega
      all_goals (conv => whnf)
      all_goals rfl
    rcases Int.lt_or_le l[i] 1 with h1 | h1
    · have hb : dimOK l[i] = false := by simp [dimOK]; omega
      rw [okShape_bad hil hb]
      repeat' ((conv => whnf); first | (with_reducible first | apply Xa | (first | apply xi | apply xu | apply x8 | apply x3 | apply xn | apply xp | apply xP | refine xs ?_ ?_ | refine xS ?_ ?_ | refine xZ ?_ ?_ | refine xl ?_ ?_ | refine xd ?_ ?_ | refine xy ?_ ?_ | refine xL ?_ ?_ | refine xD ?_ ?_ | apply xx); omega | apply Xm | apply Xe) | refine Xo (by assumption) ?_ | refine Or.inl ⟨rfl, ?_⟩ | (split <;> (first | (rename_i u h; clear u) | rename_i h) <;> (try rewrite [h]) <;> (first | replace h := dt h | replace h := df h | replace h := Nt h | replace h := Nf h | skip)))
      all_goals try omega
      refine ⟨i, _, rfl, g, ?_⟩
      repeat' ((conv => whnf); first | (with_reducible first | apply Xa | (first | apply xi | apply xu | apply x8 | apply x3 | apply xn | apply xp | apply xP | refine xs ?_ ?_ | refine xS ?_ ?_ | refine xZ ?_ ?_ | refine xl ?_ ?_ | refine xd ?_ ?_ | refine xy ?_ ?_ | refine xL ?_ ?_ | refine xD ?_ ?_ | apply xx); omega | apply Xm | apply Xe) | refine Xo (by assumption) ?_ | refine Or.inl ⟨rfl, ?_⟩ | (split <;> (first | (rename_i u h; clear u) | rename_i h) <;> (try rewrite [h]) <;> (first | replace h := dt h | replace h := df h | replace h := Nt h | replace h := Nf h | skip)))
      all_goals try omega
      conv => whnf
      rfl
    rcases Int.lt_or_le 64 l[i] with h2 | h2
    · have hb : dimOK l[i] = false := by simp [dimOK]; omega
      rw [okShape_bad hil hb]
      repeat' ((conv => whnf); first | (with_reducible first | apply Xa | (first | apply xi | apply xu | apply x8 | apply x3 | apply xn | apply xp | apply xP | refine xs ?_ ?_ | refine xS ?_ ?_ | refine xZ ?_ ?_ | refine xl ?_ ?_ | refine xd ?_ ?_ | refine xy ?_ ?_ | refine xL ?_ ?_ | refine xD ?_ ?_ | apply xx); omega | apply Xm | apply Xe) | refine Xo (by assumption) ?_ | refine Or.inl ⟨rfl, ?_⟩ | (split <;> (first | (rename_i u h; clear u) | rename_i h) <;> (try rewrite [h]) <;> (first | replace h := dt h | replace h := df h | replace h := Nt h | replace h := Nf h | skip)))
      all_goals try omega
      refine ⟨i, _, rfl, g, ?_⟩
      repeat' ((conv => whnf); first | (with_reducible first | apply Xa | (first | apply xi | apply xu | apply x8 | apply x3 | apply xn | apply xp | apply xP | refine xs ?_ ?_ | refine xS ?_ ?_ | refine xZ ?_ ?_ | refine xl ?_ ?_ | refine xd ?_ ?_ | refine xy ?_ ?_ | refine xL ?_ ?_ | refine xD ?_ ?_ | apply xx); omega | apply Xm | apply Xe) | refine Xo (by assumption) ?_ | refine Or.inl ⟨rfl, ?_⟩ | (split <;> (first | (rename_i u h; clear u) | rename_i h) <;> (try rewrite [h]) <;> (first | replace h := dt h | replace h := df h | replace h := Nt h | replace h := Nf h | skip)))
      all_goals try omega
      conv => whnf
      rfl
    have hpt := prodZ_take hil
    obtain ⟨hp4, hp3, hp6⟩ := mulcap hp1 hp2 h1 h2 (cap_nonneg i) (cap_le (by omega))
    repeat' ((conv => whnf); first | (with_reducible first | apply Xa | (first | apply xi | apply xu | apply x8 | apply x3 | apply xn | apply xp | apply xP | refine xs ?_ ?_ | refine xS ?_ ?_ | refine xZ ?_ ?_ | refine xl ?_ ?_ | refine xd ?_ ?_ | refine xy ?_ ?_ | refine xL ?_ ?_ | refine xD ?_ ?_ | apply xx); omega | apply Xm | apply Xe) | refine Xo (by assumption) ?_ | refine Or.inl ⟨rfl, ?_⟩ | (split <;> (first | (rename_i u h; clear u) | rename_i h) <;> (try rewrite [h]) <;> (first | replace h := dt h | replace h := df h | replace h := Nt h | replace h := Nf h | skip)))
    all_goals try omega
    refine ⟨i, _, rfl, g, ?_⟩
    repeat' ((conv => whnf); first | (with_reducible first | apply Xa | (first | apply xi | apply xu | apply x8 | apply x3 | apply xn | apply xp | apply xP | refine xs ?_ ?_ | refine xS ?_ ?_ | refine xZ ?_ ?_ | refine xl ?_ ?_ | refine xd ?_ ?_ | refine xy ?_ ?_ | refine xL ?_ ?_ | refine xD ?_ ?_ | apply xx); omega | apply Xm | apply Xe) | refine Xo (by assumption) ?_ | refine Or.inl ⟨rfl, ?_⟩ | (split <;> (first | (rename_i u h; clear u) | rename_i h) <;> (try rewrite [h]) <;> (first | replace h := dt h | replace h := df h | replace h := Nt h | replace h := Nf h | skip)))
    all_goals try omega
    have hdi : dimOK l[i] = true := by simp [dimOK, h1, h2]
    exact ⟨[], l.length - (i + 1), rfl, by omega, i + 1, by omega, fun _ => h4, rfl, by rw [List.take_succ_eq_append_getElem hil, List.all_append, hd]; simp [hdi], by omega, by rw [hpt, cap_succ]; exact hp3,
      Eq.trans rfl (congrArg (fun z => (⟨[(0, .ro 1 (rowZ l)), (3, .int .i64 z), (6, .ro 1 (rowZ l)), (7, .int .i64 ((rowZ l).length : Nat)), (8, .int .i64 ((i + 1 : Nat) : Int))], []⟩ : St)) hpt.symm)⟩
  · repeat' ((conv => whnf); first | (with_reducible first | apply Xa | (first | apply xi | apply xu | apply x8 | apply x3 | apply xn | apply xp | apply xP | refine xs ?_ ?_ | refine xS ?_ ?_ | refine xZ ?_ ?_ | refine xl ?_ ?_ | refine xd ?_ ?_ | refine xy ?_ ?_ | refine xL ?_ ?_ | refine xD ?_ ?_ | apply xx); omega | apply Xm | apply Xe) | refine Xo (by assumption) ?_ | refine Or.inl ⟨rfl, ?_⟩ | (split <;> (first | (rename_i u h; clear u) | rename_i h) <;> (try rewrite [h]) <;> (first | replace h := dt h | replace h := df h | replace h := Nt h | replace h := Nf h | skip)))
    all_goals try omega
    conv => whnf
    have h4 : l.length ≤ 4 := by
      rcases Nat.eq_zero_or_pos i with h | h
      · omega
      · exact h4i h
    rw [List.take_of_length_le (by omega)] at hd
    have ht : l.take i = l := List.take_of_length_le (by omega)
    refine congrArg AV.bool ?_
    rw [ht]
    simp [okShape, h4, hd]
end Go.V
namespace Go.V
open Go.N
variable (gl : Gl)
def T_IndexFuncS : Tab := [(35, i35), (9, i9), (3, i3)]
theorem TOK_IndexFuncS : TOK Go.Proofs.Tryz.prog T_IndexFuncS := ⟨K35, ⟨K9, ⟨K3, trivial⟩⟩⟩
def T_ContainsFuncS : Tab := [(35, i35), (9, i9), (3, i3)]
theorem TOK_ContainsFuncS : TOK Go.Proofs.Tryz.prog T_ContainsFuncS := ⟨K35, ⟨K9, ⟨K3, trivial⟩⟩⟩
def T_CloneI : Tab := [(27, i27), (3, i3)]
theorem TOK_CloneI : TOK Go.Proofs.Tryz.prog T_CloneI := ⟨K27, ⟨K3, trivial⟩⟩
theorem okShape_mid {l : List Int} (h : okShape l = true) (i : Nat) : 1 ≤ prodZ (l.take i) ∧ prodZ (l.take i) ≤ 64 := by
  have hd := okShape_dim h
  simp only [okShape, Bool.and_eq_true, decide_eq_true_eq] at h
  exact ⟨prodZ_pos _ 1 (fun d hd' => (hd d (List.mem_of_mem_take hd')).1) (Int.le_refl _), Int.le_trans (prodZ_le (fun d hd' => (hd d hd').1) i) h.2⟩
theorem okShape_len {l : List Int} (h : okShape l = true) : l.length ≤ 4 := by
  simp only [okShape, Bool.and_eq_true, decide_eq_true_eq] at h
  exact h.1.1
theorem c_r04_Size (l : List Int) (hok : okShape l = true) : VCall Go.Proofs.Tryz.prog gl 26 [.ro 1 (rowZ l)] (fun x => x = .int .i64 (prodZ l)) := by
  refine vcall_of TOK_r04_Size HM Go.Proofs.Tryz.func26 rfl (by decide +kernel) (by decide +kernel) rfl ?_
  have hl : (rowZ l).length = l.length := rowZ_length l
  have h4 := okShape_len hok
  repeat' ((conv => whnf); first | (with_reducible first | apply Xa | (first | apply xi | apply xu | apply x8 | apply x3 | apply xn | apply xp | apply xP | refine xs ?_ ?_ | refine xS ?_ ?_ | refine xZ ?_ ?_ | refine xl ?_ ?_ | refine xd ?_ ?_ | refine xy ?_ ?_ | refine xL ?_ ?_ | refine xD ?_ ?_ | apply xx); omega | apply Xm | apply Xe | refine Xg (by assumption) ?_) | refine Xo (by assumption) ?_ | refine Or.inl ⟨rfl, ?_⟩ | (split <;> (first | (rename_i u h; clear u) | rename_i h) <;> (try rewrite [h]) <;> (first | replace h := dt h | replace h := df h | replace h := Nt h | replace h := Nf h | skip)))
  refine ⟨[0, 3, 4], [], fun m st => ∃ i : Nat, i ≤ l.length ∧ m = l.length - i ∧
    st = ⟨[(0, .ro 1 (rowZ l)), (3, .int .i64 (prodZ (l.take i))), (4, .int .i64 (i : Nat))], []⟩, rfl, ⟨l.length, 0, by omega, rfl, rfl⟩, ?_⟩
  rintro m _ ⟨i, hi, hm, rfl⟩
  rcases Nat.lt_or_ge i l.length with hil | hge
  · have g := rowZ_get hil
    have hpt := prodZ_take hil
    obtain ⟨h1, h2⟩ := okShape_mid hok (i + 1)
    rw [hpt] at h1 h2
    repeat' ((conv => whnf); first | (with_reducible first | apply Xa | (first | apply xi | apply xu | apply x8 | apply x3 | apply xn | apply xp | apply xP | refine xs ?_ ?_ | refine xS ?_ ?_ | refine xZ ?_ ?_ | refine xl ?_ ?_ | refine xd ?_ ?_ | refine xy ?_ ?_ | refine xL ?_ ?_ | refine xD ?_ ?_ | apply xx); omega | apply Xm | apply Xe | refine Xg (by assumption) ?_) | refine Xo (by assumption) ?_ | refine Or.inl ⟨rfl, ?_⟩ | (split <;> (first | (rename_i u h; clear u) | rename_i h) <;> (try rewrite [h]) <;> (first | replace h := dt h | replace h := df h | replace h := Nt h | replace h := Nf h | skip)))
    all_goals try omega
    exact ⟨[], l.length - (i + 1), rfl, by omega, i + 1, by omega, rfl,
      Eq.trans rfl (congrArg (fun z => (⟨[(0, .ro 1 (rowZ l)), (3, .int .i64 z), (4, .int .i64 ((i + 1 : Nat) : Int))], []⟩ : St)) hpt.symm)⟩
  · repeat' ((conv => whnf); first | (with_reducible first | apply Xa | (first | apply xi | apply xu | apply x8 | apply x3 | apply xn | apply xp | apply xP | refine xs ?_ ?_ | refine xS ?_ ?_ | refine xZ ?_ ?_ | refine xl ?_ ?_ | refine xd ?_ ?_ | refine xy ?_ ?_ | refine xL ?_ ?_ | refine xD ?_ ?_ | apply xx); omega | apply Xm | apply Xe | refine Xg (by assumption) ?_) | refine Xo (by assumption) ?_ | refine Or.inl ⟨rfl, ?_⟩ | (split <;> (first | (rename_i u h; clear u) | rename_i h) <;> (try rewrite [h]) <;> (first | replace h := dt h | replace h := df h | replace h := Nt h | replace h := Nf h | skip)))
    all_goals try omega
    conv => whnf
    exact congrArg (AV.int .i64) (by rw [List.take_of_length_le (by omega)])
def sizeZ (l : List Int) : Int := if okShape l = true then prodZ l else 0
theorem c_shape_Size (l : List Int) (hll : l.length < 9000000000) : VCall Go.Proofs.Tryz.prog gl 44 [.ro 1 (rowZ l)] (fun x => x = .int .i64 (sizeZ l)) := by
  refine vcall_of TOK_shape_Size HM Go.Proofs.Tryz.func44 rfl (by decide +kernel) (by decide +kernel) rfl ?_
  have hl : (rowZ l).length = l.length := rowZ_length l
  have hc := c_shape_Right gl l hll
  cases hok : okShape l
  · rw [hok] at hc
    have e : sizeZ l = 0 := by simp [sizeZ, hok]
    repeat' ((conv => whnf); first | (with_reducible first | apply Xa | (first | apply xi | apply xu | apply x8 | apply x3 | apply xn | apply xp | apply xP | refine xs ?_ ?_ | refine xS ?_ ?_ | refine xZ ?_ ?_ | refine xl ?_ ?_ | refine xd ?_ ?_ | refine xy ?_ ?_ | refine xL ?_ ?_ | refine xD ?_ ?_ | apply xx); omega | apply Xm | apply Xe | refine Xg (by assumption) ?_) | refine Xo (by assumption) ?_ | refine Or.inl ⟨rfl, ?_⟩ | (split <;> (first | (rename_i u h; clear u) | rename_i h) <;> (try rewrite [h]) <;> (first | replace h := dt h | replace h := df h | replace h := Nt h | replace h := Nf h | skip)))
    conv => whnf
    refine .inl ⟨_, hc, ?_⟩
    rintro _ rfl
    repeat' ((conv => whnf); first | (with_reducible first | apply Xa | (first | apply xi | apply xu | apply x8 | apply x3 | apply xn | apply xp | apply xP | refine xs ?_ ?_ | refine xS ?_ ?_ | refine xZ ?_ ?_ | refine xl ?_ ?_ | refine xd ?_ ?_ | refine xy ?_ ?_ | refine xL ?_ ?_ | refine xD ?_ ?_ | apply xx); omega | apply Xm | apply Xe | refine Xg (by assumption) ?_) | refine Xo (by assumption) ?_ | refine Or.inl ⟨rfl, ?_⟩ | (split <;> (first | (rename_i u h; clear u) | rename_i h) <;> (try rewrite [h]) <;> (first | replace h := dt h | replace h := df h | replace h := Nt h | replace h := Nf h | skip)))
    conv => whnf
    exact congrArg (AV.int .i64) e.symm
  rw [hok] at hc
  have e : sizeZ l = prodZ l := by simp [sizeZ, hok]
  have h4 := okShape_len hok
  repeat' ((conv => whnf); first | (with_reducible first | apply Xa | (first | apply xi | apply xu | apply x8 | apply x3 | apply xn | apply xp | apply xP | refine xs ?_ ?_ | refine xS ?_ ?_ | refine xZ ?_ ?_ | refine xl ?_ ?_ | refine xd ?_ ?_ | refine xy ?_ ?_ | refine xL ?_ ?_ | refine xD ?_ ?_ | apply xx); omega | apply Xm | apply Xe | refine Xg (by assumption) ?_) | refine Xo (by assumption) ?_ | refine Or.inl ⟨rfl, ?_⟩ | (split <;> (first | (rename_i u h; clear u) | rename_i h) <;> (try rewrite [h]) <;> (first | replace h := dt h | replace h := df h | replace h := Nt h | replace h := Nf h | skip)))
  conv => whnf
  refine .inl ⟨_, hc, ?_⟩
  rintro _ rfl
  repeat' ((conv => whnf); first | (with_reducible first | apply Xa | (first | apply xi | apply xu | apply x8 | apply x3 | apply xn | apply xp | apply xP | refine xs ?_ ?_ | refine xS ?_ ?_ | refine xZ ?_ ?_ | refine xl ?_ ?_ | refine xd ?_ ?_ | refine xy ?_ ?_ | refine xL ?_ ?_ | refine xD ?_ ?_ | apply xx); omega | apply Xm | apply Xe | refine Xg (by assumption) ?_) | refine Xo (by assumption) ?_ | refine Or.inl ⟨rfl, ?_⟩ | (split <;> (first | (rename_i u h; clear u) | rename_i h) <;> (try rewrite [h]) <;> (first | replace h := dt h | replace h := df h | replace h := Nt h | replace h := Nf h | skip)))
  refine ⟨[3, 9, 10, 11], [], fun m st => ∃ i : Nat, i ≤ l.length ∧ m = l.length - i ∧
    st = ⟨[(3, .int .i64 (prodZ (l.take i))), (9, .ro 1 (rowZ l)), (10, .int .i64 ((rowZ l).length : Nat)), (11, .int .i64 (i : Nat))], []⟩, rfl, ⟨l.length, 0, by omega, rfl, rfl⟩, ?_⟩
  rintro m _ ⟨i, hi, hm, rfl⟩
  rcases Nat.lt_or_ge i l.length with hil | hge
  · have g := rowZ_get hil
    have hpt := prodZ_take hil
    obtain ⟨h1, h2⟩ := okShape_mid hok (i + 1)
    rw [hpt] at h1 h2
    repeat' ((conv => whnf); first | (with_reducible first | apply Xa | (first | apply xi | apply xu | apply x8 | apply x3 | apply xn | apply xp | apply xP | refine xs ?_ ?_ | refine xS ?_ ?_ | refine xZ ?_ ?_ | refine xl ?_ ?_ | refine xd ?_ ?_ | refine xy ?_ ?_ | refine xL ?_ ?_ | refine xD ?_ ?_ | apply xx); omega | apply Xm | apply Xe | refine Xg (by assumption) ?_) | refine Xo (by assumption) ?_ | refine Or.inl ⟨rfl, ?_⟩ | (split <;> (first | (rename_i u h; clear u) | rename_i h) <;> (try rewrite [h]) <;> (first | replace h := dt h | replace h := df h | replace h := Nt h | replace h := Nf h | skip)))
    all_goals try omega
    exact ⟨[], l.length - (i + 1), rfl, by omega, i + 1, by omega, rfl,
      Eq.trans rfl (congrArg (fun z => (⟨[(3, .int .i64 z), (9, .ro 1 (rowZ l)), (10, .int .i64 ((rowZ l).length : Nat)), (11, .int .i64 ((i + 1 : Nat) : Int))], []⟩ : St)) hpt.symm)⟩
  · repeat' ((conv => whnf); first | (with_reducible first | apply Xa | (first | apply xi | apply xu | apply x8 | apply x3 | apply xn | apply xp | apply xP | refine xs ?_ ?_ | refine xS ?_ ?_ | refine xZ ?_ ?_ | refine xl ?_ ?_ | refine xd ?_ ?_ | refine xy ?_ ?_ | refine xL ?_ ?_ | refine xD ?_ ?_ | apply xx); omega | apply Xm | apply Xe | refine Xg (by assumption) ?_) | refine Xo (by assumption) ?_ | refine Or.inl ⟨rfl, ?_⟩ | (split <;> (first | (rename_i u h; clear u) | rename_i h) <;> (try rewrite [h]) <;> (first | replace h := dt h | replace h := df h | replace h := Nt h | replace h := Nf h | skip)))
    all_goals try omega
    conv => whnf
    exact congrArg (AV.int .i64) (by rw [e, List.take_of_length_le (by omega)])
def rowS (l : List ByteArray) : List (List AV) := l.map fun x => [.str x]
@[simp] theorem rowS_length (l : List ByteArray) : (rowS l).length = l.length := by simp [rowS]
theorem rowS_get {l : List ByteArray} {k : Nat} (h : k < l.length) : (rowS l)[k]? = some [.str l[k]] := by simp [rowS, h]
theorem any_bad {α : Type} {l : List α} {p : α → Bool} {i : Nat} (h : i < l.length) (hp : p l[i] = true) : l.any p = true := List.any_eq_true.2 ⟨_, List.getElem_mem h, hp⟩
theorem any_snoc {α : Type} {l : List α} {p : α → Bool} {i : Nat} (h : i < l.length) (ha : (l.take i).any p = false) (hp : p l[i] = false) : (l.take (i + 1)).any p = false := by
  rw [List.take_succ_eq_append_getElem h, List.any_append, ha]; simp [hp]
theorem c_IndexFuncS (f : FuncId) (l : List ByteArray) (p : ByteArray → Bool) (hll : l.length < 9000000000) (hc : ∀ x ∈ l, VCall Go.Proofs.Tryz.prog gl f [.str x] (fun y => y = .bool (p x))) :
    VCall Go.Proofs.Tryz.prog gl 57 [.ro 1 (rowS l), .fn f []] (fun x => ∃ k : Int, x = .int .i64 k ∧ (0 ≤ k ↔ l.any p = true)) := by
  refine vcall_of TOK_IndexFuncS HM Go.Proofs.Tryz.func57 rfl (by decide +kernel) (by decide +kernel) rfl ?_
  have hl : (rowS l).length = l.length := rowS_length l
  repeat' ((conv => whnf); first | (with_reducible first | apply Xa | (first | apply xi | apply xu | apply x8 | apply x3 | apply xn | apply xp | apply xP | refine xs ?_ ?_ | refine xS ?_ ?_ | refine xZ ?_ ?_ | refine xl ?_ ?_ | refine xd ?_ ?_ | refine xy ?_ ?_ | refine xL ?_ ?_ | refine xD ?_ ?_ | apply xx); omega | apply Xm | apply Xe | refine Xg (by assumption) ?_) | refine Xo (by assumption) ?_ | refine Or.inl ⟨rfl, ?_⟩ | (split <;> (first | (rename_i u h; clear u) | rename_i h) <;> (try rewrite [h]) <;> (first | replace h := dt h | replace h := df h | replace h := Nt h | replace h := Nf h | skip)))
  refine ⟨[0, 1, 7, 8], [], fun m st => ∃ i : Nat, i ≤ l.length ∧ m = l.length - i ∧ (l.take i).any p = false ∧
    st = ⟨[(0, .ro 1 (rowS l)), (1, .fn f []), (7, .int .i64 ((rowS l).length : Nat)), (8, .int .i64 (i : Nat))], []⟩, rfl, ⟨l.length, 0, by omega, rfl, by simp, rfl⟩, ?_⟩
  rintro m _ ⟨i, hi, hm, ha, rfl⟩
  rcases Nat.lt_or_ge i l.length with hil | hge
  · have g := rowS_get hil
    have hci := hc l[i] (List.getElem_mem hil)
    cases hp : p l[i]
    · rw [hp] at hci
      repeat' ((conv => whnf); first | (with_reducible first | apply Xa | (first | apply xi | apply xu | apply x8 | apply x3 | apply xn | apply xp | apply xP | refine xs ?_ ?_ | refine xS ?_ ?_ | refine xZ ?_ ?_ | refine xl ?_ ?_ | refine xd ?_ ?_ | refine xy ?_ ?_ | refine xL ?_ ?_ | refine xD ?_ ?_ | apply xx); omega | apply Xm | apply Xe | refine Xg (by assumption) ?_) | refine Xo (by assumption) ?_ | refine Or.inl ⟨rfl, ?_⟩ | (split <;> (first | (rename_i u h; clear u) | rename_i h) <;> (try rewrite [h]) <;> (first | replace h := dt h | replace h := df h | replace h := Nt h | replace h := Nf h | skip)))
      all_goals try omega
      conv => whnf
      refine .inl ⟨_, hci, ?_⟩
      rintro _ rfl
      repeat' ((conv => whnf); first | (with_reducible first | apply Xa | (first | apply xi | apply xu | apply x8 | apply x3 | apply xn | apply xp | apply xP | refine xs ?_ ?_ | refine xS ?_ ?_ | refine xZ ?_ ?_ | refine xl ?_ ?_ | refine xd ?_ ?_ | refine xy ?_ ?_ | refine xL ?_ ?_ | refine xD ?_ ?_ | apply xx); omega | apply Xm | apply Xe | refine Xg (by assumption) ?_) | refine Xo (by assumption) ?_ | refine Or.inl ⟨rfl, ?_⟩ | (split <;> (first | (rename_i u h; clear u) | rename_i h) <;> (try rewrite [h]) <;> (first | replace h := dt h | replace h := df h | replace h := Nt h | replace h := Nf h | skip)))
      exact ⟨[], l.length - (i + 1), rfl, by omega, i + 1, by omega, rfl, any_snoc hil ha hp, rfl⟩
    · rw [hp] at hci
      repeat' ((conv => whnf); first | (with_reducible first | apply Xa | (first | apply xi | apply xu | apply x8 | apply x3 | apply xn | apply xp | apply xP | refine xs ?_ ?_ | refine xS ?_ ?_ | refine xZ ?_ ?_ | refine xl ?_ ?_ | refine xd ?_ ?_ | refine xy ?_ ?_ | refine xL ?_ ?_ | refine xD ?_ ?_ | apply xx); omega | apply Xm | apply Xe | refine Xg (by assumption) ?_) | refine Xo (by assumption) ?_ | refine Or.inl ⟨rfl, ?_⟩ | (split <;> (first | (rename_i u h; clear u) | rename_i h) <;> (try rewrite [h]) <;> (first | replace h := dt h | replace h := df h | replace h := Nt h | replace h := Nf h | skip)))
      all_goals try omega
      conv => whnf
      refine .inl ⟨_, hci, ?_⟩
      rintro _ rfl
      repeat' ((conv => whnf); first | (with_reducible first | apply Xa | (first | apply xi | apply xu | apply x8 | apply x3 | apply xn | apply xp | apply xP | refine xs ?_ ?_ | refine xS ?_ ?_ | refine xZ ?_ ?_ | refine xl ?_ ?_ | refine xd ?_ ?_ | refine xy ?_ ?_ | refine xL ?_ ?_ | refine xD ?_ ?_ | apply xx); omega | apply Xm | apply Xe | refine Xg (by assumption) ?_) | refine Xo (by assumption) ?_ | refine Or.inl ⟨rfl, ?_⟩ | (split <;> (first | (rename_i u h; clear u) | rename_i h) <;> (try rewrite [h]) <;> (first | replace h := dt h | replace h := df h | replace h := Nt h | replace h := Nf h | skip)))
      conv => whnf
      refine ⟨i, rfl, ?_⟩
      rw [any_bad hil hp]
      simp
  · repeat' ((conv => whnf); first | (with_reducible first | apply Xa | (first | apply xi | apply xu | apply x8 | apply x3 | apply xn | apply xp | apply xP | refine xs ?_ ?_ | refine xS ?_ ?_ | refine xZ ?_ ?_ | refine xl ?_ ?_ | refine xd ?_ ?_ | refine xy ?_ ?_ | refine xL ?_ ?_ | refine xD ?_ ?_ | apply xx); omega | apply Xm | apply Xe | refine Xg (by assumption) ?_) | refine Xo (by assumption) ?_ | refine Or.inl ⟨rfl, ?_⟩ | (split <;> (first | (rename_i u h; clear u) | rename_i h) <;> (try rewrite [h]) <;> (first | replace h := dt h | replace h := df h | replace h := Nt h | replace h := Nf h | skip)))
    all_goals try omega
    conv => whnf
    rw [List.take_of_length_le (by omega)] at ha
    exact ⟨-1, rfl, by rw [ha]; simp⟩
theorem c_ContainsFuncS (f : FuncId) (l : List ByteArray) (p : ByteArray → Bool) (hll : l.length < 9000000000) (hc : ∀ x ∈ l, VCall Go.Proofs.Tryz.prog gl f [.str x] (fun y => y = .bool (p x))) :
    VCall Go.Proofs.Tryz.prog gl 45 [.ro 1 (rowS l), .fn f []] (fun x => x = .bool (l.any p)) := by
  refine vcall_of TOK_ContainsFuncS HM Go.Proofs.Tryz.func45 rfl (by decide +kernel) (by decide +kernel) rfl ?_
  repeat' ((conv => whnf); first | (with_reducible first | apply Xa | (first | apply xi | apply xu | apply x8 | apply x3 | apply xn | apply xp | apply xP | refine xs ?_ ?_ | refine xS ?_ ?_ | refine xZ ?_ ?_ | refine xl ?_ ?_ | refine xd ?_ ?_ | refine xy ?_ ?_ | refine xL ?_ ?_ | refine xD ?_ ?_ | apply xx); omega | apply Xm | apply Xe | refine Xg (by assumption) ?_) | refine Xo (by assumption) ?_ | refine Or.inl ⟨rfl, ?_⟩ | (split <;> (first | (rename_i u h; clear u) | rename_i h) <;> (try rewrite [h]) <;> (first | replace h := dt h | replace h := df h | replace h := Nt h | replace h := Nf h | skip)))
  conv => whnf
  refine .inl ⟨_, c_IndexFuncS gl f l p hll hc, ?_⟩
  rintro _ ⟨k, rfl, hk⟩
  have e : l.any p = decide (0 ≤ k) := by rw [Bool.eq_iff_iff, decide_eq_true_eq, hk]
  repeat' ((conv => whnf); first | (with_reducible first | apply Xa | (first | apply xi | apply xu | apply x8 | apply x3 | apply xn | apply xp | apply xP | refine xs ?_ ?_ | refine xS ?_ ?_ | refine xZ ?_ ?_ | refine xl ?_ ?_ | refine xd ?_ ?_ | refine xy ?_ ?_ | refine xL ?_ ?_ | refine xD ?_ ?_ | apply xx); omega | apply Xm | apply Xe | refine Xg (by assumption) ?_) | refine Xo (by assumption) ?_ | refine Or.inl ⟨rfl, ?_⟩ | (split <;> (first | (rename_i u h; clear u) | rename_i h) <;> (try rewrite [h]) <;> (first | replace h := dt h | replace h := df h | replace h := Nt h | replace h := Nf h | skip)))
  conv => whnf
  exact congrArg AV.bool e.symm
theorem c_CloneI (l : List Int) (hll : l.length < 1000000) : VCall Go.Proofs.Tryz.prog gl 32 [.ro 1 (rowZ l)] (fun x => x = .fr 3 1 (rowZ l) ∨ (l = [] ∧ x = .nils)) := by
  refine vcall_of TOK_CloneI HM Go.Proofs.Tryz.func32 rfl (by decide +kernel) (by decide +kernel) rfl ?_
  have hlen : (rowZ l).length = l.length := rowZ_length l
  rcases l with _ | ⟨x, l⟩
  · repeat' ((conv => whnf); first | (with_reducible first | apply Xa | (first | apply xi | apply xu | apply x8 | apply x3 | apply xn | apply xp | apply xP | refine xs ?_ ?_ | refine xS ?_ ?_ | refine xZ ?_ ?_ | refine xl ?_ ?_ | refine xd ?_ ?_ | refine xy ?_ ?_ | refine xL ?_ ?_ | refine xD ?_ ?_ | apply xx); omega | apply Xm | apply Xe | refine Xg (by assumption) ?_) | refine Xo (by assumption) ?_ | refine Or.inl ⟨rfl, ?_⟩ | (split <;> (first | (rename_i u h; clear u) | rename_i h) <;> (try rewrite [h]) <;> (first | replace h := dt h | replace h := df h | replace h := Nt h | replace h := Nf h | skip)))
    conv => whnf
    refine ⟨?_, ?_⟩
    · repeat' ((conv => whnf); first | (with_reducible first | apply Xa | (first | apply xi | apply xu | apply x8 | apply x3 | apply xn | apply xp | apply xP | refine xs ?_ ?_ | refine xS ?_ ?_ | refine xZ ?_ ?_ | refine xl ?_ ?_ | refine xd ?_ ?_ | refine xy ?_ ?_ | refine xL ?_ ?_ | refine xD ?_ ?_ | apply xx); omega | apply Xm | apply Xe | refine Xg (by assumption) ?_) | refine Xo (by assumption) ?_ | refine Or.inl ⟨rfl, ?_⟩ | (split <;> (first | (rename_i u h; clear u) | rename_i h) <;> (try rewrite [h]) <;> (first | replace h := dt h | replace h := df h | replace h := Nt h | replace h := Nf h | skip)))
      conv => whnf
      exact .inr ⟨rfl, rfl⟩
    · repeat' ((conv => whnf); first | (with_reducible first | apply Xa | (first | apply xi | apply xu | apply x8 | apply x3 | apply xn | apply xp | apply xP | refine xs ?_ ?_ | refine xS ?_ ?_ | refine xZ ?_ ?_ | refine xl ?_ ?_ | refine xd ?_ ?_ | refine xy ?_ ?_ | refine xL ?_ ?_ | refine xD ?_ ?_ | apply xx); omega | apply Xm | apply Xe | refine Xg (by assumption) ?_) | refine Xo (by assumption) ?_ | refine Or.inl ⟨rfl, ?_⟩ | (split <;> (first | (rename_i u h; clear u) | rename_i h) <;> (try rewrite [h]) <;> (first | replace h := dt h | replace h := df h | replace h := Nt h | replace h := Nf h | skip)))
      conv => whnf
      refine ⟨Nat.le_refl _, Nat.le_of_ble_eq_true rfl, rowZ [], rfl, ?_⟩
      repeat' ((conv => whnf); first | (with_reducible first | apply Xa | (first | apply xi | apply xu | apply x8 | apply x3 | apply xn | apply xp | apply xP | refine xs ?_ ?_ | refine xS ?_ ?_ | refine xZ ?_ ?_ | refine xl ?_ ?_ | refine xd ?_ ?_ | refine xy ?_ ?_ | refine xL ?_ ?_ | refine xD ?_ ?_ | apply xx); omega | apply Xm | apply Xe | refine Xg (by assumption) ?_) | refine Xo (by assumption) ?_ | refine Or.inl ⟨rfl, ?_⟩ | (split <;> (first | (rename_i u h; clear u) | rename_i h) <;> (try rewrite [h]) <;> (first | replace h := dt h | replace h := df h | replace h := Nt h | replace h := Nf h | skip)))
      conv => whnf
      exact .inl rfl
  · repeat' ((conv => whnf); first | (with_reducible first | apply Xa | (first | apply xi | apply xu | apply x8 | apply x3 | apply xn | apply xp | apply xP | refine xs ?_ ?_ | refine xS ?_ ?_ | refine xZ ?_ ?_ | refine xl ?_ ?_ | refine xd ?_ ?_ | refine xy ?_ ?_ | refine xL ?_ ?_ | refine xD ?_ ?_ | apply xx); omega | apply Xm | apply Xe | refine Xg (by assumption) ?_) | refine Xo (by assumption) ?_ | refine Or.inl ⟨rfl, ?_⟩ | (split <;> (first | (rename_i u h; clear u) | rename_i h) <;> (try rewrite [h]) <;> (first | replace h := dt h | replace h := df h | replace h := Nt h | replace h := Nf h | skip)))
    conv => whnf
    refine ⟨Nat.le_refl _, (show (0 + (rowZ (x :: l)).length) * 8 ≤ _ by omega), rowZ (x :: l), rfl, ?_⟩
    repeat' ((conv => whnf); first | (with_reducible first | apply Xa | (first | apply xi | apply xu | apply x8 | apply x3 | apply xn | apply xp | apply xP | refine xs ?_ ?_ | refine xS ?_ ?_ | refine xZ ?_ ?_ | refine xl ?_ ?_ | refine xd ?_ ?_ | refine xy ?_ ?_ | refine xL ?_ ?_ | refine xD ?_ ?_ | apply xx); omega | apply Xm | apply Xe | refine Xg (by assumption) ?_) | refine Xo (by assumption) ?_ | refine Or.inl ⟨rfl, ?_⟩ | (split <;> (first | (rename_i u h; clear u) | rename_i h) <;> (try rewrite [h]) <;> (first | replace h := dt h | replace h := df h | replace h := Nt h | replace h := Nf h | skip)))
    conv => whnf
    exact .inl rfl
end Go.V
namespace Go.V
open Go.N
set_option maxRecDepth 20000
variable (gl : Gl)
def T_asciiC : Tab := [(97, i97), (4, i4)]
theorem TOK_asciiC : TOK Go.Proofs.Tryz.prog T_asciiC := ⟨K97, ⟨K4, trivial⟩⟩
def T_mkASCII : Tab := [(97, i97), (9, i9), (3, i3), (5, i5), (4, i4)]
theorem TOK_mkASCII : TOK Go.Proofs.Tryz.prog T_mkASCII := ⟨K97, ⟨K9, ⟨K3, ⟨K5, ⟨K4, trivial⟩⟩⟩⟩⟩
def inS (s : List UInt8) (c : UInt8) : Bool := s.any fun d => d.toNat == c.toNat
def setC (s : List UInt8) : List AV := (List.range 256).map fun b => .bool (s.any fun d => d.toNat == b)
theorem setC_length (s : List UInt8) : (setC s).length = 256 := by simp [setC]
theorem setC_drop (s : List UInt8) {j : Nat} (h : j < 256) : (setC s).drop j = .bool (s.any fun d => d.toNat == j) :: (setC s).drop (j + 1) := by
  rw [List.drop_eq_getElem_cons (by rw [setC_length]; exact h)]
  simp [setC]
theorem c_asciiC (s : List UInt8) (c : UInt8) : VCall Go.Proofs.Tryz.prog gl 88 [.rp (setC s), .int .u8 (c.toNat : Nat)] (fun x => x = .bool (inS s c)) := by
  refine vcall_of TOK_asciiC HM Go.Proofs.Tryz.func88 rfl (by decide +kernel) (by decide +kernel) rfl ?_
  have hc : c.toNat < 256 := c.toNat_lt
  have hd := setC_drop s hc
  repeat' ((conv => whnf); first | (with_reducible first | apply Xa | (first | apply xi | apply xu | apply x8 | apply x3 | apply xn | apply xp | apply xP | refine xs ?_ ?_ | refine xS ?_ ?_ | refine xZ ?_ ?_ | refine xl ?_ ?_ | refine xd ?_ ?_ | refine xy ?_ ?_ | refine xL ?_ ?_ | refine xD ?_ ?_ | apply xx); omega | apply Xm | apply Xe | refine Xg (by assumption) ?_) | refine Xo (by assumption) ?_ | refine Or.inl ⟨rfl, ?_⟩ | (split <;> (first | (rename_i u h; clear u) | rename_i h) <;> (try rewrite [h]) <;> (first | replace h := dt h | replace h := df h | replace h := Nt h | replace h := Nf h | skip)))
  all_goals (replace h := (show List.drop (c.toNat * 1) (setC s) = _ from h); rw [Nat.mul_one, hd] at h)
  all_goals first | (cases h; done) | skip
  all_goals (injection h with h1 h2)
  all_goals first | (cases h1; done) | skip
  injection h1 with h1
  subst h1
  repeat' ((conv => whnf); first | (with_reducible first | apply Xa | (first | apply xi | apply xu | apply x8 | apply x3 | apply xn | apply xp | apply xP | refine xs ?_ ?_ | refine xS ?_ ?_ | refine xZ ?_ ?_ | refine xl ?_ ?_ | refine xd ?_ ?_ | refine xy ?_ ?_ | refine xL ?_ ?_ | refine xD ?_ ?_ | apply xx); omega | apply Xm | apply Xe | refine Xg (by assumption) ?_) | refine Xo (by assumption) ?_ | refine Or.inl ⟨rfl, ?_⟩ | (split <;> (first | (rename_i u h; clear u) | rename_i h) <;> (try rewrite [h]) <;> (first | replace h := dt h | replace h := df h | replace h := Nt h | replace h := Nf h | skip)))
  conv => whnf
  exact rfl
theorem over_setC (s : List UInt8) (c : UInt8) : over (setC s) c.toNat [.bool true] = setC (s ++ [c]) := by
  have key : ∀ (n : Nat) (m : Nat) (f : Nat → AV) (k : Nat), k < n → over ((List.range' m n).map f) k [.bool true] = (List.range' m n).map fun b => if b = m + k then .bool true else f b := by
    intro n
    induction n with
    | zero => intro m f k h; omega
    | succ n ih =>
      intro m f k h
      rw [List.range'_succ, List.map_cons, List.map_cons]
      rcases k with _ | k
      · simp only [over, Nat.add_zero, if_true]
        refine congrArg (List.cons _) ?_
        have : ∀ x ∈ List.range' (m + 1) n, f x = if x = m then .bool true else f x := fun x hx => by
          have := (List.mem_range'_1.1 hx).1
          rw [if_neg (by omega)]
        exact List.map_congr_left this
      · simp only [over]
        rw [ih (m + 1) f k (by omega), if_neg (by omega)]
        congr 1
        refine List.map_congr_left fun x _ => ?_
        rw [show m + 1 + k = m + (k + 1) by omega]
  unfold setC
  rw [List.range_eq_range', key 256 0 _ _ c.toNat_lt]
  refine List.map_congr_left fun b _ => ?_
  rw [List.any_append]
  by_cases h : b = c.toNat
  · subst h; simp
  · rw [if_neg (by omega)]
    have : (c.toNat == b) = false := by simp; omega
    simp [this]
theorem over_full {l : List AV} {n : Nat} (h : l.length = n) : (over l 0 (l.take n)).take n = l := by
  have : ∀ l : List AV, over l 0 l = l := fun l => by
    induction l with
    | nil => rfl
    | cons x l ih => simp [over, ih]
  rw [List.take_of_length_le (i := n) (l := l) (by omega), this, List.take_of_length_le (by omega)]
theorem renL_bool (ps : List Nat) : ∀ l : List Bool, renL ps (l.map AV.bool) = l.map AV.bool
  | [] => by simp [renL]
  | b :: l => by simp [renL, ren, renL_bool ps l]
theorem renL_setC (ps : List Nat) (s : List UInt8) : renL ps (setC s) = setC s := by
  have : setC s = ((List.range 256).map fun b => s.any fun d => d.toNat == b).map AV.bool := by rw [List.map_map]; rfl
  rw [this, renL_bool]
theorem zero85 : TI.zero (Tab.ti T_mkASCII 97) = setC [] := by rfl
set_option maxHeartbeats 4000000 in
theorem c_mkASCII (s : ByteArray) (hs : s.size < 100000) (h128 : s.toList.all (fun c => decide (c.toNat < 128)) = true) : VCall Go.Proofs.Tryz.prog gl 71 [.str s] (fun x => x = .tup [.agg (setC s.toList), .bool true]) := by
  refine vcall_of TOK_mkASCII HM Go.Proofs.Tryz.func71 rfl (by decide +kernel) (by decide +kernel) rfl ?_
  have hl := Go.N.len_toList s
  repeat' ((conv => whnf); first | (with_reducible first | apply Xa | (first | apply xi | apply xu | apply x8 | apply x3 | apply xn | apply xp | apply xP | refine xs ?_ ?_ | refine xS ?_ ?_ | refine xZ ?_ ?_ | refine xl ?_ ?_ | refine xd ?_ ?_ | refine xy ?_ ?_ | refine xL ?_ ?_ | refine xD ?_ ?_ | apply xx); omega | apply Xm | apply Xe | refine Xg (by assumption) ?_) | refine Xo (by assumption) ?_ | refine Or.inl ⟨rfl, ?_⟩ | (split <;> (first | (rename_i u h; clear u) | rename_i h) <;> (try rewrite [h]) <;> (first | replace h := dt h | replace h := df h | replace h := Nt h | replace h := Nf h | skip)))
  refine ⟨[0, 2, 4], [0], fun m st => ∃ k : Nat, k ≤ s.size ∧ m = s.size - k ∧ st = ⟨[(0, .str s), (2, .bptr 0 0), (4, .int .i64 (k : Nat))], [.box 97 (setC (s.toList.take k))]⟩, rfl, ⟨s.size, 0, by omega, rfl, ?_⟩, ?_⟩
  · exact Eq.trans rfl (congrArg (fun z : List AV => (⟨[(0, .str s), (2, .bptr 0 0), (4, .int .i64 ((0 : Nat) : Int))], [.box 97 z]⟩ : St)) zero85)
  rintro m _ ⟨k, hk, hm, rfl⟩
  rcases Nat.lt_or_ge k s.size with hlt | hge
  · have hk2 : k < s.toList.length := by omega
    have hb : s.toList[k].toNat < 128 := by
      have := List.all_eq_true.1 h128 _ (List.getElem_mem hk2)
      simpa using this
    have e : renL [0] (over (setC (s.toList.take k)) (0 + s.toList[k].toNat * 1) [.bool true]) = setC (s.toList.take (k + 1)) := by
      rw [Nat.mul_one, Nat.zero_add, over_setC, List.take_succ_eq_append_getElem hk2, renL_setC]
    repeat' ((conv => whnf); first | (with_reducible first | apply Xa | (first | apply xi | apply xu | apply x8 | apply x3 | apply xn | apply xp | apply xP | refine xs ?_ ?_ | refine xS ?_ ?_ | refine xZ ?_ ?_ | refine xl ?_ ?_ | refine xd ?_ ?_ | refine xy ?_ ?_ | refine xL ?_ ?_ | refine xD ?_ ?_ | apply xx); omega | apply Xm | apply Xe | refine Xg (by assumption) ?_) | refine Xo (by assumption) ?_ | refine Or.inl ⟨rfl, ?_⟩ | (split <;> (first | (rename_i u h; clear u) | rename_i h) <;> (try rewrite [h]) <;> (first | replace h := dt h | replace h := df h | replace h := Nt h | replace h := Nf h | skip)))
    all_goals try omega
    · exact ⟨[0], s.size - (k + 1), rfl, by omega, k + 1, by omega, rfl, Eq.trans rfl (congrArg (fun z : List AV => (⟨[(0, .str s), (2, .bptr 0 0), (4, .int .i64 ((k + 1 : Nat) : Int))], [.box 97 z]⟩ : St)) e)⟩
    · exfalso
      have : (true && Nat.ble (0 + s.toList[k].toNat * 1 + 1) (setC (s.toList.take k)).length) = false := h
      rw [setC_length] at this
      have hb2 : Nat.ble (0 + s.toList[k].toNat * 1 + 1) 256 = true := Nat.ble_eq_true_of_le (by omega)
      rw [hb2] at this; cases this
  · rw [List.take_of_length_le (by omega)]
    repeat' ((conv => whnf); first | (with_reducible first | apply Xa | (first | apply xi | apply xu | apply x8 | apply x3 | apply xn | apply xp | apply xP | refine xs ?_ ?_ | refine xS ?_ ?_ | refine xZ ?_ ?_ | refine xl ?_ ?_ | refine xd ?_ ?_ | refine xy ?_ ?_ | refine xL ?_ ?_ | refine xD ?_ ?_ | apply xx); omega | apply Xm | apply Xe | refine Xg (by assumption) ?_) | refine Xo (by assumption) ?_ | refine Or.inl ⟨rfl, ?_⟩ | (split <;> (first | (rename_i u h; clear u) | rename_i h) <;> (try rewrite [h]) <;> (first | replace h := dt h | replace h := df h | replace h := Nt h | replace h := Nf h | skip)))
    all_goals try omega
    conv => whnf
    have e : (over (setC s.toList) 0 ((setC s.toList).take 256)).take 256 = setC s.toList := over_full (setC_length _)
    exact congrArg (fun z : List AV => AV.tup [.agg z, .bool true]) e
end Go.V
namespace Go.V
open Go.N
set_option maxRecDepth 20000
variable (gl : Gl)
def T_trimLA : Tab := [(9, i9), (3, i3), (101, i101), (5, i5), (4, i4)]
theorem TOK_trimLA : TOK Go.Proofs.Tryz.prog T_trimLA := ⟨K9, ⟨K3, ⟨K101, ⟨K5, ⟨K4, trivial⟩⟩⟩⟩⟩
def T_trimRA : Tab := [(9, i9), (3, i3), (101, i101), (5, i5), (4, i4)]
theorem TOK_trimRA : TOK Go.Proofs.Tryz.prog T_trimRA := ⟨K9, ⟨K3, ⟨K101, ⟨K5, ⟨K4, trivial⟩⟩⟩⟩⟩
def T_sTrim : Tab := [(9, i9), (3, i3), (5, i5), (97, i97), (101, i101)]
theorem TOK_sTrim : TOK Go.Proofs.Tryz.prog T_sTrim := ⟨K9, ⟨K3, ⟨K5, ⟨K97, ⟨K101, trivial⟩⟩⟩⟩⟩
def T_lexName : Tab := [(9, i9), (3, i3), (5, i5)]
theorem TOK_lexName : TOK Go.Proofs.Tryz.prog T_lexName := ⟨K9, ⟨K3, ⟨K5, trivial⟩⟩⟩
def T_r08_Name : Tab := [(9, i9), (3, i3), (5, i5), (4, i4)]
theorem TOK_r08_Name : TOK Go.Proofs.Tryz.prog T_r08_Name := ⟨K9, ⟨K3, ⟨K5, ⟨K4, trivial⟩⟩⟩⟩
theorem c_trimLA (s : ByteArray) (l : List UInt8) (hs : s.size < 1000000) : VCall Go.Proofs.Tryz.prog gl 72 [.str s, .rp (setC l)] (fun x => ∃ r, x = .str r ∧ r.toList = s.toList.dropWhile (inS l)) := by
  refine vcall_of TOK_trimLA HM Go.Proofs.Tryz.func72 rfl (by decide +kernel) (by decide +kernel) rfl ?_
  repeat' ((conv => whnf); first | (with_reducible first | apply Xa | (first | apply xi | apply xu | apply x8 | apply x3 | apply xn | apply xp | apply xP | refine xs ?_ ?_ | refine xS ?_ ?_ | refine xZ ?_ ?_ | refine xl ?_ ?_ | refine xd ?_ ?_ | refine xy ?_ ?_ | refine xL ?_ ?_ | refine xD ?_ ?_ | apply xx); omega | apply Xm | apply Xe | refine Xg (by assumption) ?_) | refine Xo (by assumption) ?_ | refine Or.inl ⟨rfl, ?_⟩ | (split <;> (first | (rename_i u h; clear u) | rename_i h) <;> (try rewrite [h]) <;> (first | replace h := dt h | replace h := df h | replace h := Nt h | replace h := Nf h | skip)))
  refine ⟨[0, 1], [], fun m st => ∃ r : ByteArray, m = r.size ∧ r.size ≤ s.size ∧ r.toList.dropWhile (inS l) = s.toList.dropWhile (inS l) ∧ st = ⟨[(0, .str r), (1, .rp (setC l))], []⟩, rfl, ⟨s.size, s, rfl, by omega, rfl, rfl⟩, ?_⟩
  rintro m _ ⟨r, hm, hrs, hr, rfl⟩
  have hl := Go.N.len_toList r
  rcases Nat.eq_zero_or_pos r.size with h0 | h0
  · have e0 : r.toList = [] := List.length_eq_zero_iff.1 (by omega)
    repeat' ((conv => whnf); first | (with_reducible first | apply Xa | (first | apply xi | apply xu | apply x8 | apply x3 | apply xn | apply xp | apply xP | refine xs ?_ ?_ | refine xS ?_ ?_ | refine xZ ?_ ?_ | refine xl ?_ ?_ | refine xd ?_ ?_ | refine xy ?_ ?_ | refine xL ?_ ?_ | refine xD ?_ ?_ | apply xx); omega | apply Xm | apply Xe | refine Xg (by assumption) ?_) | refine Xo (by assumption) ?_ | refine Or.inl ⟨rfl, ?_⟩ | (split <;> (first | (rename_i u h; clear u) | rename_i h) <;> (try rewrite [h]) <;> (first | replace h := dt h | replace h := df h | replace h := Nt h | replace h := Nf h | skip)))
    all_goals try omega
    conv => whnf
    exact ⟨r, rfl, by rw [← hr, e0]; rfl⟩
  · have h1 : 0 < r.toList.length := by omega
    obtain ⟨c, t, e⟩ := List.exists_cons_of_length_pos h1
    have hg : r.toList[0] = c := by simp [e]
    have hc := c_asciiC gl l r.toList[0]
    cases hp : inS l r.toList[0]
    · rw [hp] at hc
      repeat' ((conv => whnf); first | (with_reducible first | apply Xa | (first | apply xi | apply xu | apply x8 | apply x3 | apply xn | apply xp | apply xP | refine xs ?_ ?_ | refine xS ?_ ?_ | refine xZ ?_ ?_ | refine xl ?_ ?_ | refine xd ?_ ?_ | refine xy ?_ ?_ | refine xL ?_ ?_ | refine xD ?_ ?_ | apply xx); omega | apply Xm | apply Xe | refine Xg (by assumption) ?_) | refine Xo (by assumption) ?_ | refine Or.inl ⟨rfl, ?_⟩ | (split <;> (first | (rename_i u h; clear u) | rename_i h) <;> (try rewrite [h]) <;> (first | replace h := dt h | replace h := df h | replace h := Nt h | replace h := Nf h | skip)))
      all_goals try omega
      conv => whnf
      refine .inl ⟨_, hc, ?_⟩
      rintro _ rfl
      repeat' ((conv => whnf); first | (with_reducible first | apply Xa | (first | apply xi | apply xu | apply x8 | apply x3 | apply xn | apply xp | apply xP | refine xs ?_ ?_ | refine xS ?_ ?_ | refine xZ ?_ ?_ | refine xl ?_ ?_ | refine xd ?_ ?_ | refine xy ?_ ?_ | refine xL ?_ ?_ | refine xD ?_ ?_ | apply xx); omega | apply Xm | apply Xe | refine Xg (by assumption) ?_) | refine Xo (by assumption) ?_ | refine Or.inl ⟨rfl, ?_⟩ | (split <;> (first | (rename_i u h; clear u) | rename_i h) <;> (try rewrite [h]) <;> (first | replace h := dt h | replace h := df h | replace h := Nt h | replace h := Nf h | skip)))
      conv => whnf
      refine ⟨r, rfl, ?_⟩
      rw [hg] at hp
      rw [← hr, e, List.dropWhile_cons, if_neg (by simp [hp])]
    · rw [hp] at hc
      repeat' ((conv => whnf); first | (with_reducible first | apply Xa | (first | apply xi | apply xu | apply x8 | apply x3 | apply xn | apply xp | apply xP | refine xs ?_ ?_ | refine xS ?_ ?_ | refine xZ ?_ ?_ | refine xl ?_ ?_ | refine xd ?_ ?_ | refine xy ?_ ?_ | refine xL ?_ ?_ | refine xD ?_ ?_ | apply xx); omega | apply Xm | apply Xe | refine Xg (by assumption) ?_) | refine Xo (by assumption) ?_ | refine Or.inl ⟨rfl, ?_⟩ | (split <;> (first | (rename_i u h; clear u) | rename_i h) <;> (try rewrite [h]) <;> (first | replace h := dt h | replace h := df h | replace h := Nt h | replace h := Nf h | skip)))
      all_goals try omega
      conv => whnf
      refine .inl ⟨_, hc, ?_⟩
      rintro _ rfl
      repeat' ((conv => whnf); first | (with_reducible first | apply Xa | (first | apply xi | apply xu | apply x8 | apply x3 | apply xn | apply xp | apply xP | refine xs ?_ ?_ | refine xS ?_ ?_ | refine xZ ?_ ?_ | refine xl ?_ ?_ | refine xd ?_ ?_ | refine xy ?_ ?_ | refine xL ?_ ?_ | refine xD ?_ ?_ | apply xx); omega | apply Xm | apply Xe | refine Xg (by assumption) ?_) | refine Xo (by assumption) ?_ | refine Or.inl ⟨rfl, ?_⟩ | (split <;> (first | (rename_i u h; clear u) | rename_i h) <;> (try rewrite [h]) <;> (first | replace h := dt h | replace h := df h | replace h := Nt h | replace h := Nf h | skip)))
      have e2 : (r.extract (1 : Int).toNat ((r.size : Nat) : Int).toNat).toList = t := by
        rw [ext_toList, e]
        simp
        rw [List.take_of_length_le]
        have := congrArg List.length e
        simp at this; omega
      refine ⟨[], _, rfl, ?_, _, rfl, ?_, ?_, rfl⟩
      · rw [← Go.N.len_toList, e2]
        have := congrArg List.length e
        simp at this; omega
      · rw [← Go.N.len_toList, e2]
        have := congrArg List.length e
        simp at this; omega
      · rw [e2, ← hr, e, List.dropWhile_cons, if_pos (by rw [← hg]; exact hp)]
theorem c_trimRA (s : ByteArray) (l : List UInt8) (hs : s.size < 1000000) : VCall Go.Proofs.Tryz.prog gl 73 [.str s, .rp (setC l)] (fun x => ∃ r, x = .str r ∧ r.toList = (s.toList.reverse.dropWhile (inS l)).reverse) := by
  refine vcall_of TOK_trimRA HM Go.Proofs.Tryz.func73 rfl (by decide +kernel) (by decide +kernel) rfl ?_
  repeat' ((conv => whnf); first | (with_reducible first | apply Xa | (first | apply xi | apply xu | apply x8 | apply x3 | apply xn | apply xp | apply xP | refine xs ?_ ?_ | refine xS ?_ ?_ | refine xZ ?_ ?_ | refine xl ?_ ?_ | refine xd ?_ ?_ | refine xy ?_ ?_ | refine xL ?_ ?_ | refine xD ?_ ?_ | apply xx); omega | apply Xm | apply Xe | refine Xg (by assumption) ?_) | refine Xo (by assumption) ?_ | refine Or.inl ⟨rfl, ?_⟩ | (split <;> (first | (rename_i u h; clear u) | rename_i h) <;> (try rewrite [h]) <;> (first | replace h := dt h | replace h := df h | replace h := Nt h | replace h := Nf h | skip)))
  refine ⟨[0, 1], [], fun m st => ∃ r : ByteArray, m = r.size ∧ r.size ≤ s.size ∧ r.toList.reverse.dropWhile (inS l) = s.toList.reverse.dropWhile (inS l) ∧ st = ⟨[(0, .str r), (1, .rp (setC l))], []⟩, rfl, ⟨s.size, s, rfl, by omega, rfl, rfl⟩, ?_⟩
  rintro m _ ⟨r, hm, hrs, hr, rfl⟩
  have hl := Go.N.len_toList r
  rcases Nat.eq_zero_or_pos r.size with h0 | h0
  · have e0 : r.toList = [] := List.length_eq_zero_iff.1 (by omega)
    repeat' ((conv => whnf); first | (with_reducible first | apply Xa | (first | apply xi | apply xu | apply x8 | apply x3 | apply xn | apply xp | apply xP | refine xs ?_ ?_ | refine xS ?_ ?_ | refine xZ ?_ ?_ | refine xl ?_ ?_ | refine xd ?_ ?_ | refine xy ?_ ?_ | refine xL ?_ ?_ | refine xD ?_ ?_ | apply xx); omega | apply Xm | apply Xe | refine Xg (by assumption) ?_) | refine Xo (by assumption) ?_ | refine Or.inl ⟨rfl, ?_⟩ | (split <;> (first | (rename_i u h; clear u) | rename_i h) <;> (try rewrite [h]) <;> (first | replace h := dt h | replace h := df h | replace h := Nt h | replace h := Nf h | skip)))
    all_goals try omega
    conv => whnf
    exact ⟨r, rfl, by rw [← hr, e0]; rfl⟩
  · have h1 : ((r.size : Int) - 1).toNat < r.toList.length := by omega
    have h2 : r.toList ≠ [] := fun h => by rw [h] at h1; simp at h1
    have e := List.dropLast_concat_getLast h2
    have hg : r.toList[((r.size : Int) - 1).toNat] = r.toList.getLast h2 := by
      rw [List.getLast_eq_getElem]; congr 1; omega
    have hc := c_asciiC gl l r.toList[((r.size : Int) - 1).toNat]
    have er : r.toList.reverse = r.toList.getLast h2 :: r.toList.dropLast.reverse := by
      conv => lhs; rw [← e]
      simp
    cases hp : inS l r.toList[((r.size : Int) - 1).toNat]
    · rw [hp] at hc
      repeat' ((conv => whnf); first | (with_reducible first | apply Xa | (first | apply xi | apply xu | apply x8 | apply x3 | apply xn | apply xp | apply xP | refine xs ?_ ?_ | refine xS ?_ ?_ | refine xZ ?_ ?_ | refine xl ?_ ?_ | refine xd ?_ ?_ | refine xy ?_ ?_ | refine xL ?_ ?_ | refine xD ?_ ?_ | apply xx); omega | apply Xm | apply Xe | refine Xg (by assumption) ?_) | refine Xo (by assumption) ?_ | refine Or.inl ⟨rfl, ?_⟩ | (split <;> (first | (rename_i u h; clear u) | rename_i h) <;> (try rewrite [h]) <;> (first | replace h := dt h | replace h := df h | replace h := Nt h | replace h := Nf h | skip)))
      all_goals try omega
      conv => whnf
      refine .inl ⟨_, hc, ?_⟩
      rintro _ rfl
      repeat' ((conv => whnf); first | (with_reducible first | apply Xa | (first | apply xi | apply xu | apply x8 | apply x3 | apply xn | apply xp | apply xP | refine xs ?_ ?_ | refine xS ?_ ?_ | refine xZ ?_ ?_ | refine xl ?_ ?_ | refine xd ?_ ?_ | refine xy ?_ ?_ | refine xL ?_ ?_ | refine xD ?_ ?_ | apply xx); omega | apply Xm | apply Xe | refine Xg (by assumption) ?_) | refine Xo (by assumption) ?_ | refine Or.inl ⟨rfl, ?_⟩ | (split <;> (first | (rename_i u h; clear u) | rename_i h) <;> (try rewrite [h]) <;> (first | replace h := dt h | replace h := df h | replace h := Nt h | replace h := Nf h | skip)))
      conv => whnf
      refine ⟨r, rfl, ?_⟩
      rw [hg] at hp
      rw [← hr, er, List.dropWhile_cons, if_neg (by simp [hp]), ← er, List.reverse_reverse]
    · rw [hp] at hc
      repeat' ((conv => whnf); first | (with_reducible first | apply Xa | (first | apply xi | apply xu | apply x8 | apply x3 | apply xn | apply xp | apply xP | refine xs ?_ ?_ | refine xS ?_ ?_ | refine xZ ?_ ?_ | refine xl ?_ ?_ | refine xd ?_ ?_ | refine xy ?_ ?_ | refine xL ?_ ?_ | refine xD ?_ ?_ | apply xx); omega | apply Xm | apply Xe | refine Xg (by assumption) ?_) | refine Xo (by assumption) ?_ | refine Or.inl ⟨rfl, ?_⟩ | (split <;> (first | (rename_i u h; clear u) | rename_i h) <;> (try rewrite [h]) <;> (first | replace h := dt h | replace h := df h | replace h := Nt h | replace h := Nf h | skip)))
      all_goals try omega
      conv => whnf
      refine .inl ⟨_, hc, ?_⟩
      rintro _ rfl
      repeat' ((conv => whnf); first | (with_reducible first | apply Xa | (first | apply xi | apply xu | apply x8 | apply x3 | apply xn | apply xp | apply xP | refine xs ?_ ?_ | refine xS ?_ ?_ | refine xZ ?_ ?_ | refine xl ?_ ?_ | refine xd ?_ ?_ | refine xy ?_ ?_ | refine xL ?_ ?_ | refine xD ?_ ?_ | apply xx); omega | apply Xm | apply Xe | refine Xg (by assumption) ?_) | refine Xo (by assumption) ?_ | refine Or.inl ⟨rfl, ?_⟩ | (split <;> (first | (rename_i u h; clear u) | rename_i h) <;> (try rewrite [h]) <;> (first | replace h := dt h | replace h := df h | replace h := Nt h | replace h := Nf h | skip)))
      have e2 : (r.extract (0 : Int).toNat ((r.size : Int) - 1).toNat).toList = r.toList.dropLast := by
        rw [ext_toList, List.dropLast_eq_take, show ((r.size : Int) - 1).toNat = r.toList.length - 1 by omega]
        simp
      have e3 := congrArg List.length e2
      rw [List.length_dropLast, Go.N.len_toList] at e3
      refine ⟨[], _, rfl, ?_, _, rfl, ?_, ?_, rfl⟩
      · omega
      · omega
      · rw [e2, ← hr, er, List.dropWhile_cons, if_pos (by rw [← hg]; exact hp)]
def cutS : ByteArray := ⟨#[97, 98, 99, 100, 101, 102, 103, 104, 105, 106, 107, 108, 109, 110, 111, 112, 113, 114, 115, 116, 117, 118, 119, 120, 121, 122, 48, 49, 50, 51, 52, 53, 54, 55, 56, 57]⟩
theorem cutS_list : cutS.toList = [97, 98, 99, 100, 101, 102, 103, 104, 105, 106, 107, 108, 109, 110, 111, 112, 113, 114, 115, 116, 117, 118, 119, 120, 121, 122, 48, 49, 50, 51, 52, 53, 54, 55, 56, 57] := by rw [ByteArray.toList_eq]; rfl
def nameC (c : UInt8) : Bool := decide (97 ≤ c.toNat ∧ c.toNat ≤ 122) || decide (48 ≤ c.toNat ∧ c.toNat ≤ 57)
theorem inS_cut (c : UInt8) : inS cutS.toList c = nameC c := by
  rw [cutS_list]
  have : ∀ n : Fin 256, inS [97, 98, 99, 100, 101, 102, 103, 104, 105, 106, 107, 108, 109, 110, 111, 112, 113, 114, 115, 116, 117, 118, 119, 120, 121, 122, 48, 49, 50, 51, 52, 53, 54, 55, 56, 57] ⟨⟨n⟩⟩ = nameC ⟨⟨n⟩⟩ := by decide +kernel
  exact this c.toBitVec.toFin
theorem dw_nil {α : Type} {p : α → Bool} : ∀ {l : List α}, l.dropWhile p = [] ↔ ∀ x ∈ l, p x = true
  | [] => by simp
  | a :: t => by
    rw [List.dropWhile_cons]
    by_cases h : p a = true
    · rw [if_pos h, dw_nil]; simp [h]
    · rw [if_neg h]; simp [h]
theorem trim_nil {α : Type} (p : α → Bool) (l : List α) : (l.reverse.dropWhile p).reverse.dropWhile p = [] ↔ l.all p = true := by
  rw [dw_nil, List.all_eq_true]
  constructor
  · intro h
    have h1 : l.reverse.dropWhile p = [] := by
      cases hd : l.reverse.dropWhile p with
      | nil => rfl
      | cons a t =>
        have ha : p a = false := by
          have := List.head_dropWhile_not p (l := l.reverse) (by rw [hd]; simp)
          simpa [hd] using this
        have := h a (by rw [hd]; simp)
        rw [ha] at this; cases this
    rw [dw_nil] at h1
    intro x hx
    exact h1 x (by simpa using hx)
  · intro h x hx
    refine h x ?_
    rw [List.mem_reverse] at hx
    have := (List.dropWhile_suffix p).subset hx
    simpa using this
set_option maxHeartbeats 4000000 in
theorem c_sTrim (s : ByteArray) (hs : s.size < 1000000) (h0 : s.size ≠ 0) : VCall Go.Proofs.Tryz.prog gl 56 [.str s, .str cutS] (fun x => ∃ r, x = .str r ∧ (r = ⟨#[]⟩ ↔ s.toList.all nameC = true)) := by
  refine vcall_of TOK_sTrim HM Go.Proofs.Tryz.func56 rfl (by decide +kernel) (by decide +kernel) rfl ?_
  have hne : ¬ s = ⟨#[]⟩ := fun e => h0 (by rw [e]; rfl)
  have hmk := c_mkASCII gl cutS (by decide) (by rw [cutS_list]; decide)
  repeat' ((conv => whnf); first | (with_reducible first | apply Xa | (first | apply xi | apply xu | apply x8 | apply x3 | apply xn | apply xp | apply xP | refine xs ?_ ?_ | refine xS ?_ ?_ | refine xZ ?_ ?_ | refine xl ?_ ?_ | refine xd ?_ ?_ | refine xy ?_ ?_ | refine xL ?_ ?_ | refine xD ?_ ?_ | apply xx); omega | apply Xm | apply Xe | refine Xg (by assumption) ?_) | refine Xo (by assumption) ?_ | refine Or.inl ⟨rfl, ?_⟩ | (split <;> (first | (rename_i u h; clear u) | rename_i h) <;> (try rewrite [h]) <;> (first | replace h := dt h | replace h := df h | replace h := Nt h | replace h := Nf h | skip)))
  all_goals first | exact absurd (by assumption) hne | skip
  conv => whnf
  refine .inl ⟨_, hmk, ?_⟩
  rintro _ rfl
  repeat' ((conv => whnf); first | (with_reducible first | apply Xa | (first | apply xi | apply xu | apply x8 | apply x3 | apply xn | apply xp | apply xP | refine xs ?_ ?_ | refine xS ?_ ?_ | refine xZ ?_ ?_ | refine xl ?_ ?_ | refine xd ?_ ?_ | refine xy ?_ ?_ | refine xL ?_ ?_ | refine xD ?_ ?_ | apply xx); omega | apply Xm | apply Xe | refine Xg (by assumption) ?_) | refine Xo (by assumption) ?_ | refine Or.inl ⟨rfl, ?_⟩ | (split <;> (first | (rename_i u h; clear u) | rename_i h) <;> (try rewrite [h]) <;> (first | replace h := dt h | replace h := df h | replace h := Nt h | replace h := Nf h | skip)))
  conv => whnf
  refine .inl ⟨_, c_trimRA gl s cutS.toList hs, ?_⟩
  rintro _ ⟨r, rfl, hr⟩
  repeat' ((conv => whnf); first | (with_reducible first | apply Xa | (first | apply xi | apply xu | apply x8 | apply x3 | apply xn | apply xp | apply xP | refine xs ?_ ?_ | refine xS ?_ ?_ | refine xZ ?_ ?_ | refine xl ?_ ?_ | refine xd ?_ ?_ | refine xy ?_ ?_ | refine xL ?_ ?_ | refine xD ?_ ?_ | apply xx); omega | apply Xm | apply Xe | refine Xg (by assumption) ?_) | refine Xo (by assumption) ?_ | refine Or.inl ⟨rfl, ?_⟩ | (split <;> (first | (rename_i u h; clear u) | rename_i h) <;> (try rewrite [h]) <;> (first | replace h := dt h | replace h := df h | replace h := Nt h | replace h := Nf h | skip)))
  have hrs : r.size ≤ s.size := by
    have := congrArg List.length hr
    rw [List.length_reverse, Go.N.len_toList] at this
    have h2 := (List.dropWhile_suffix (inS cutS.toList) (l := s.toList.reverse)).length_le
    rw [List.length_reverse, Go.N.len_toList] at h2
    omega
  conv => whnf
  refine .inl ⟨_, c_trimLA gl r cutS.toList (by omega), ?_⟩
  rintro _ ⟨q, rfl, hq⟩
  repeat' ((conv => whnf); first | (with_reducible first | apply Xa | (first | apply xi | apply xu | apply x8 | apply x3 | apply xn | apply xp | apply xP | refine xs ?_ ?_ | refine xS ?_ ?_ | refine xZ ?_ ?_ | refine xl ?_ ?_ | refine xd ?_ ?_ | refine xy ?_ ?_ | refine xL ?_ ?_ | refine xD ?_ ?_ | apply xx); omega | apply Xm | apply Xe | refine Xg (by assumption) ?_) | refine Xo (by assumption) ?_ | refine Or.inl ⟨rfl, ?_⟩ | (split <;> (first | (rename_i u h; clear u) | rename_i h) <;> (try rewrite [h]) <;> (first | replace h := dt h | replace h := df h | replace h := Nt h | replace h := Nf h | skip)))
  conv => whnf
  refine ⟨q, rfl, ?_⟩
  have e : inS cutS.toList = nameC := funext inS_cut
  rw [hr, e] at hq
  rw [← trim_nil, ← hq]
  constructor
  · intro h; rw [h, ByteArray.toList_eq]
  · intro h; refine toList_inj ?_; rw [h, ByteArray.toList_eq]
end Go.V
namespace Go.V
open Go.N
def T_r01_Right : Tab := [(9, i9), (3, i3), (5, i5)]
theorem TOK_r01_Right : TOK Go.Proofs.Tryz.prog T_r01_Right := ⟨K9, ⟨K3, ⟨K5, trivial⟩⟩⟩
theorem c_r01_Right (s : ByteArray) (gl : Gl) (hs : s.size < 9000000000) : VCall Go.Proofs.Tryz.prog gl 40 [.str s] (fun x => x = .bool (isNat s.toList)) := by
  refine vcall_of TOK_r01_Right HM Go.Proofs.Tryz.func40 rfl (by decide +kernel) (by decide +kernel) rfl ?_
  have hl := Go.N.len_toList s
  conv => whnf
  refine ⟨[0, 3], [], fun m st => ∃ k : Nat, k ≤ s.size ∧ m = s.size - k ∧ (s.toList.take k).all isDig = true ∧ st = ⟨[(0, .str s), (3, .int .i64 k)], []⟩, rfl, ⟨s.size, 0, by simp, rfl, rfl, rfl⟩, ?_⟩
  rintro m _ ⟨k, hk, hm, hd, rfl⟩
  repeat' ((conv => whnf); first | (with_reducible first | apply Xa | (first | apply xi | apply xu | apply x8 | apply x3 | apply xn | apply xp | apply xP | refine xs ?_ ?_ | refine xS ?_ ?_ | refine xZ ?_ ?_ | refine xl ?_ ?_ | refine xd ?_ ?_ | refine xy ?_ ?_ | refine xL ?_ ?_ | refine xD ?_ ?_ | apply xx); omega | apply Xm | apply Xe) | refine Xo (by assumption) ?_ | refine Or.inl ⟨rfl, ?_⟩ | (split <;> (first | (rename_i u h; clear u) | rename_i h) <;> (try rewrite [h]) <;> (first | replace h := dt h | replace h := df h | replace h := Nt h | replace h := Nf h | skip)))
  all_goals (conv => whnf)
  · refine congrArg AV.bool (Eq.symm ?_)
    refine isNat_bad (List.getElem_mem (n := k) (by omega)) ?_
    simp only [isDig, Bool.and_eq_false_iff, decide_eq_false_iff_not]; omega
  · refine congrArg AV.bool (Eq.symm ?_)
    refine isNat_bad (List.getElem_mem (n := k) (by omega)) ?_
    simp only [isDig, Bool.and_eq_false_iff, decide_eq_false_iff_not]; omega
  · refine ⟨[], s.size - (k + 1), rfl, by omega, k + 1, by omega, rfl, ?_, rfl⟩
    rw [List.take_add_one, List.all_append, hd, List.getElem?_eq_getElem (by omega)]
    simp only [Option.toList_some, List.all_cons, List.all_nil, isDig, Bool.and_true, Bool.true_and, Bool.and_eq_true, decide_eq_true_eq]; omega
  · refine congrArg AV.bool (Eq.symm ?_)
    rw [List.take_of_length_le (by omega)] at hd
    simp only [isNat, hd, Bool.true_and, Bool.or_eq_true, decide_eq_true_eq]; omega
  · rw [List.take_of_length_le (by omega)] at hd
    refine congrArg AV.bool ?_
    have hne : (s.toList[0]? = some 48) ↔ ((s.toList[0]'(by omega)).toNat : Int) = 48 := by
      rw [List.getElem?_eq_getElem (by omega), Option.some.injEq, ← UInt8.toNat_inj]
      simp; omega
    have h1 : ¬ s.toList.length = 1 := by omega
    have h2 : 1 < s.toList.length := by omega
    simp only [isNat, hd, Bool.true_and, h1, h2, decide_false, Bool.false_or, decide_true, hne]
  · refine congrArg AV.bool (Eq.symm ?_)
    have h1 : ¬ s.toList.length = 1 := by omega
    have h2 : ¬ 1 < s.toList.length := by omega
    simp [isNat, h1, h2]
end Go.V
namespace Go.V
open Go.N
variable (gl : Gl)
def T_r01_Plain : Tab := [(9, i9), (3, i3), (5, i5)]
theorem TOK_r01_Plain : TOK Go.Proofs.Tryz.prog T_r01_Plain := ⟨K9, ⟨K3, ⟨K5, trivial⟩⟩⟩
def T_r01_digit : Tab := [(9, i9), (3, i3), (5, i5)]
theorem TOK_r01_digit : TOK Go.Proofs.Tryz.prog T_r01_digit := ⟨K9, ⟨K3, ⟨K5, trivial⟩⟩⟩
def T_r01_of : Tab := [(27, i27), (3, i3), (5, i5), (61, i61), (9, i9)]
theorem TOK_r01_of : TOK Go.Proofs.Tryz.prog T_r01_of := ⟨K27, ⟨K3, ⟨K5, ⟨K61, ⟨K9, trivial⟩⟩⟩⟩⟩
def T_r01_Compare : Tab := [(9, i9), (3, i3)]
theorem TOK_r01_Compare : TOK Go.Proofs.Tryz.prog T_r01_Compare := ⟨K9, ⟨K3, trivial⟩⟩
theorem c_r01_Plain (s : ByteArray) (hd : s.toList.all isDig = true) (hs : s.size < 9000000000) : VCall Go.Proofs.Tryz.prog gl 66 [.str s] (fun x => x = .str (decB (dval s.toList))) := by
  refine vcall_of TOK_r01_Plain HM Go.Proofs.Tryz.func66 rfl (by decide +kernel) (by decide +kernel) rfl ?_
  conv => whnf
  refine ⟨[0], [], fun m st => ∃ s' : ByteArray, s'.size ≤ s.size ∧ m = s'.size ∧ s'.toList.all isDig = true ∧ dval s'.toList = dval s.toList ∧ st = ⟨[(0, .str s')], []⟩, rfl, ⟨s.size, s, by omega, rfl, hd, rfl, rfl⟩, ?_⟩
  rintro m _ ⟨t, ht, hm, htd, hv, rfl⟩
  have hl := Go.N.len_toList t
  have fin : t.toList ≠ [] → (t.toList.length = 1 ∨ t.toList[0]? ≠ some 48) → AV.str t = AV.str (decB (dval s.toList)) := fun h1 h2 => by
    rw [← hv, ← of_isNat (isNat_of htd h1 h2)]
  have fin0 : t.toList = [] → AV.str ⟨#[48]⟩ = AV.str (decB (dval s.toList)) := fun h1 => by
    rw [← hv, h1, zero_decB]; rfl
  repeat' ((conv => whnf); first | (with_reducible first | apply Xa | (first | apply xi | apply xu | apply x8 | apply x3 | apply xn | apply xp | apply xP | refine xs ?_ ?_ | refine xS ?_ ?_ | refine xZ ?_ ?_ | refine xl ?_ ?_ | refine xd ?_ ?_ | refine xy ?_ ?_ | refine xL ?_ ?_ | refine xD ?_ ?_ | apply xx); omega | apply Xm | apply Xe) | refine Xo (by assumption) ?_ | refine Or.inl ⟨rfl, ?_⟩ | (split <;> (first | (rename_i u h; clear u) | rename_i h) <;> (try rewrite [h]) <;> (first | replace h := dt h | replace h := df h | replace h := Nt h | replace h := Nf h | skip)))
  all_goals (conv => whnf)
  · have hlt : t.size - 1 < t.size := by omega
    have e : (t.extract 1 t.size).toList = t.toList.drop 1 := by
      rw [ext_toList, List.take_of_length_le (by simp; omega)]
    have hc : t.toList = t.toList[0] :: t.toList.drop 1 := by rw [List.getElem_cons_drop]; simp
    have h0 : t.toList[0] = 48 := UInt8.toNat_inj.1 (by simp; omega)
    refine ⟨[], t.size - 1, rfl, by omega, t.extract 1 t.size, ?_, ?_, ?_, ?_, rfl⟩
    · simp; omega
    · simp
    · rw [e]
      rw [hc, List.all_cons, Bool.and_eq_true] at htd; exact htd.2
    · rw [e, ← hv]
      conv => rhs; rw [hc, dval_cons, h0]
      simp
  · exact fin0 (size_empty h)
  · refine fin (fun e => ?_) (.inr fun e => ?_)
    · rw [e] at hl; simp at hl; omega
    · rw [List.getElem?_eq_getElem (by omega), Option.some.injEq] at e
      rename_i h1
      exact h1 (by rw [e]; rfl)
  · exact fin0 (size_empty h)
  · refine fin (fun e => h (toList_inj (by rw [e, ByteArray.toList_eq]))) (.inl ?_)
    have : t.toList.length ≠ 0 := fun e => h (toList_inj (by rw [List.eq_nil_of_length_eq_zero e, ByteArray.toList_eq]))
    omega
theorem c_r01_digit (n i : Nat) (hn : (dec n).length < 9000000000) (hi : i < 9000000000) : VCall Go.Proofs.Tryz.prog gl 86 [.str (decB n), .int .i64 i] (fun x => x = .int .i64 (dig n i)) := by
  refine vcall_of TOK_r01_digit HM Go.Proofs.Tryz.func86 rfl (by decide +kernel) (by decide +kernel) rfl ?_
  have hz := decB_size n
  repeat' ((conv => whnf); first | (with_reducible first | apply Xa | (first | apply xi | apply xu | apply x8 | apply x3 | apply xn | apply xp | apply xP | refine xs ?_ ?_ | refine xS ?_ ?_ | refine xZ ?_ ?_ | refine xl ?_ ?_ | refine xd ?_ ?_ | refine xy ?_ ?_ | refine xL ?_ ?_ | refine xD ?_ ?_ | apply xx); omega | apply Xm | apply Xe) | refine Xo (by assumption) ?_ | refine Or.inl ⟨rfl, ?_⟩ | (split <;> (first | (rename_i u h; clear u) | rename_i h) <;> (try rewrite [h]) <;> (first | replace h := dt h | replace h := df h | replace h := Nt h | replace h := Nf h | skip)))
  all_goals (conv => whnf)
  · refine congrArg (AV.int .i64) ?_
    rw [dig_ge (by omega)]; rfl
  · have h1 := dec_getR n i (by omega)
    have h2 := dig_lt n i
    refine ⟨(dec n).length - 1 - i, dg (dig n i), by omega, by rw [decB_toList]; exact h1, ?_⟩
    have e := dg_toNat h2
    generalize dg (dig n i) = c at e
    have e' : (c.toNat : Int) = 48 + (dig n i : Nat) := by omega
    repeat' ((conv => whnf); first | (with_reducible first | apply Xa | (first | apply xi | apply xu | apply x8 | apply x3 | apply xn | apply xp | apply xP | refine xs ?_ ?_ | refine xS ?_ ?_ | refine xZ ?_ ?_ | refine xl ?_ ?_ | refine xd ?_ ?_ | refine xy ?_ ?_ | refine xL ?_ ?_ | refine xD ?_ ?_ | apply xx); omega | apply Xm | apply Xe) | refine Xo (by assumption) ?_ | refine Or.inl ⟨rfl, ?_⟩ | (split <;> (first | (rename_i u h; clear u) | rename_i h) <;> (try rewrite [h]) <;> (first | replace h := dt h | replace h := df h | replace h := Nt h | replace h := Nf h | skip)))
    all_goals (conv => whnf)
    refine congrArg (AV.int .i64) ?_
    omega
theorem c_r01_Compare (m n : Nat) (hn : (dec n).length < 9000000000) (hm : (dec m).length < 9000000000) : VCall Go.Proofs.Tryz.prog gl 67 [.str (decB m), .str (decB n)] (fun x => x = .int .i64 (cmpN m n)) := by
  refine vcall_of TOK_r01_Compare HM Go.Proofs.Tryz.func67 rfl (by decide +kernel) (by decide +kernel) rfl ?_
  have hl := decB_size n
  have hl2 := decB_size m
  have key : (dec m).length = (dec n).length → (Op.bytesLess (decB m).toList (decB n).toList = true ↔ m < n) := fun e => by
    have := bytesLess_dval (dec m) (dec n) (dec_dig m) (dec_dig n) e
    rwa [dval_dec, dval_dec, ← decB_toList m, ← decB_toList n] at this
  repeat' ((conv => whnf); first | (with_reducible first | apply Xa | (first | apply xi | apply xu | apply x8 | apply x3 | apply xn | apply xp | apply xP | refine xs ?_ ?_ | refine xS ?_ ?_ | refine xZ ?_ ?_ | refine xl ?_ ?_ | refine xd ?_ ?_ | refine xy ?_ ?_ | refine xL ?_ ?_ | refine xD ?_ ?_ | apply xx); omega | apply Xm | apply Xe) | refine Xo (by assumption) ?_ | refine Or.inl ⟨rfl, ?_⟩ | (split <;> (first | (rename_i u h; clear u) | rename_i h) <;> (try rewrite [h]) <;> (first | replace h := dt h | replace h := df h | replace h := Nt h | replace h := Nf h | skip)))
  all_goals (conv => whnf)
  all_goals refine congrArg (AV.int .i64) (Eq.symm ?_)
  · exact cmpN_lt (dec_len_lt_of (by omega))
  · exact cmpN_gt (dec_len_lt_of (by omega))
  · exact cmpN_lt ((key (by omega)).1 h)
  · have h1 : (dec m).length = (dec n).length := by omega
    have k := key h1
    rename_i h2
    rw [h2, Bool.false_or] at h
    have hne : ¬ m = n := fun e => by subst e; simp at h
    have : ¬ m < n := fun hh => by rw [k.2 hh] at h2; cases h2
    exact cmpN_gt (by omega)
  · have h1 : (dec m).length = (dec n).length := by omega
    rename_i h2
    rw [h2, Bool.false_or] at h
    have e : (decB m).toList = (decB n).toList := by simpa using h
    rw [decB_toList, decB_toList] at e
    exact cmpN_eq (dec_inj e.symm)
end Go.V
namespace Go.V
open Go.N
variable (gl : Gl)
theorem c_r01_of (L : List Nat) (hL : ∀ x ∈ L, x < 10) (hn : L.length < 9000000000) : VCall Go.Proofs.Tryz.prog gl 87 [.ro 1 (ints L)] (fun x => x = .str (decB (lsum L))) := by
  refine vcall_of TOK_r01_of HM Go.Proofs.Tryz.func87 rfl (by decide +kernel) (by decide +kernel) rfl ?_
  have hll : (ints L).length = L.length := by simp [ints]
  repeat' ((conv => whnf); first | (with_reducible first | apply Xa | (first | apply xi | apply xu | apply x8 | apply x3 | apply xn | apply xp | apply xP | refine xs ?_ ?_ | refine xS ?_ ?_ | refine xZ ?_ ?_ | refine xl ?_ ?_ | refine xd ?_ ?_ | refine xy ?_ ?_ | refine xL ?_ ?_ | refine xD ?_ ?_ | apply xx); omega | apply Xm | apply Xe) | refine Xo (by assumption) ?_ | refine Or.inl ⟨rfl, ?_⟩ | (split <;> (first | (rename_i u h; clear u) | rename_i h) <;> (try rewrite [h]) <;> (first | replace h := dt h | replace h := df h | replace h := Nt h | replace h := Nf h | skip)))
  refine ⟨[0, 3, 4], [], fun m st => ∃ j : Nat, j ≤ L.length ∧ m = j ∧ ((j = L.length ∧ st = ⟨[(0, .ro 1 (ints L)), (3, .nils), (4, .int .i64 ((j : Int) - 1))], []⟩) ∨
    ∃ bl : List Nat, bl = ((L.drop j).reverse).map (48 + ·) ∧ bl ≠ [] ∧ st = ⟨[(0, .ro 1 (ints L)), (3, .own 0 0 (byts bl).length), (4, .int .i64 ((j : Int) - 1))], [.row false 5 1 (byts bl)]⟩), rfl, ⟨L.length, L.length, Nat.le_refl _, rfl, .inl ⟨rfl, ?_⟩⟩, ?_⟩
  · show (⟨[_, _, (4, .int .i64 (((ints L).length : Int) - 1))], []⟩ : St) = _
    rw [hll]; rfl
  have fin : ∀ bl : List Nat, bl = L.reverse.map (48 + ·) → ∀ s, s = sN (bl.map fun (x : Nat) => (x : Int)) → AV.str (decB (dval s.toList)) = AV.str (decB (lsum L)) ∧ s.toList.all isDig = true ∧ s.size = L.length := fun bl hb s hs => by
    have e : s.toList = L.reverse.map dg := by
      subst hb hs
      exact sN_digits _ (by simpa using hL)
    refine ⟨by rw [e, dval_rev L hL], by rw [e]; exact rev_dig hL, ?_⟩
    rw [← Go.N.len_toList, e]; simp
  have step : ∀ (q : Nat) (hq : q < L.length), ((L.drop (q + 1)).reverse).map (48 + ·) ++ [48 + L[q]] = ((L.drop q).reverse).map (48 + ·) := fun q hq => by
    rw [List.drop_eq_getElem_cons hq, List.reverse_cons, List.map_append]; rfl
  rintro m _ ⟨j, hj, hm, ⟨rfl, rfl⟩ | ⟨bl, hb, hb2, rfl⟩⟩
  · rcases hq : L.length with _ | q
    · repeat' ((conv => whnf); first | (with_reducible first | apply Xa | (first | apply xi | apply xu | apply x8 | apply x3 | apply xn | apply xp | apply xP | refine xs ?_ ?_ | refine xS ?_ ?_ | refine xZ ?_ ?_ | refine xl ?_ ?_ | refine xd ?_ ?_ | refine xy ?_ ?_ | refine xL ?_ ?_ | refine xD ?_ ?_ | apply xx); omega | apply Xm | apply Xe) | refine Xo (by assumption) ?_ | refine Or.inl ⟨rfl, ?_⟩ | (split <;> (first | (rename_i u h; clear u) | rename_i h) <;> (try rewrite [h]) <;> (first | replace h := dt h | replace h := df h | replace h := Nt h | replace h := Nf h | skip)))
      have hL0 := List.eq_nil_of_length_eq_zero hq
      refine ⟨[], rfl, ?_⟩
      repeat' ((conv => whnf); first | (with_reducible first | apply Xa | (first | apply xi | apply xu | apply x8 | apply x3 | apply xn | apply xp | apply xP | refine xs ?_ ?_ | refine xS ?_ ?_ | refine xZ ?_ ?_ | refine xl ?_ ?_ | refine xd ?_ ?_ | refine xy ?_ ?_ | refine xL ?_ ?_ | refine xD ?_ ?_ | apply xx); omega | apply Xm | apply Xe) | refine Xo (by assumption) ?_ | refine Or.inl ⟨rfl, ?_⟩ | (split <;> (first | (rename_i u h; clear u) | rename_i h) <;> (try rewrite [h]) <;> (first | replace h := dt h | replace h := df h | replace h := Nt h | replace h := Nf h | skip)))
      obtain ⟨f1, f2, f3⟩ := fin [] (by rw [hL0]; rfl) (sN []) rfl
      refine .inl ⟨_, c_r01_Plain gl _ f2 (by omega), ?_⟩
      rintro _ rfl
      repeat' ((conv => whnf); first | (with_reducible first | apply Xa | (first | apply xi | apply xu | apply x8 | apply x3 | apply xn | apply xp | apply xP | refine xs ?_ ?_ | refine xS ?_ ?_ | refine xZ ?_ ?_ | refine xl ?_ ?_ | refine xd ?_ ?_ | refine xy ?_ ?_ | refine xL ?_ ?_ | refine xD ?_ ?_ | apply xx); omega | apply Xm | apply Xe) | refine Xo (by assumption) ?_ | refine Or.inl ⟨rfl, ?_⟩ | (split <;> (first | (rename_i u h; clear u) | rename_i h) <;> (try rewrite [h]) <;> (first | replace h := dt h | replace h := df h | replace h := Nt h | replace h := Nf h | skip)))
      exact f1
    · rw [show ((q + 1 : Nat) : Int) - 1 = q by omega]
      have hd := hL L[q] (List.getElem_mem (by omega))
      repeat' ((conv => whnf); first | (with_reducible first | apply Xa | (first | apply xi | apply xu | apply x8 | apply x3 | apply xn | apply xp | apply xP | refine xs ?_ ?_ | refine xS ?_ ?_ | refine xZ ?_ ?_ | refine xl ?_ ?_ | refine xd ?_ ?_ | refine xy ?_ ?_ | refine xL ?_ ?_ | refine xD ?_ ?_ | apply xx); omega | apply Xm | apply Xe) | refine Xo (by assumption) ?_ | refine Or.inl ⟨rfl, ?_⟩ | (split <;> (first | (rename_i u h; clear u) | rename_i h) <;> (try rewrite [h]) <;> (first | replace h := dt h | replace h := df h | replace h := Nt h | replace h := Nf h | skip)))
      refine ⟨Nat.le_of_ble_eq_true rfl, List.cons_ne_nil _ _, ?_⟩
      repeat' ((conv => whnf); first | (with_reducible first | apply Xa | (first | apply xi | apply xu | apply x8 | apply x3 | apply xn | apply xp | apply xP | refine xs ?_ ?_ | refine xS ?_ ?_ | refine xZ ?_ ?_ | refine xl ?_ ?_ | refine xd ?_ ?_ | refine xy ?_ ?_ | refine xL ?_ ?_ | refine xD ?_ ?_ | apply xx); omega | apply Xm | apply Xe) | refine Xo (by assumption) ?_ | refine Or.inl ⟨rfl, ?_⟩ | (split <;> (first | (rename_i u h; clear u) | rename_i h) <;> (try rewrite [h]) <;> (first | replace h := dt h | replace h := df h | replace h := Nt h | replace h := Nf h | skip)))
      refine ⟨[1], q, rfl, by omega, q, by omega, rfl, .inr ⟨[48 + L[q]], ?_, by simp, ?_⟩⟩
      · rw [← step q (by omega), List.drop_of_length_le (by omega)]; rfl
      · rfl
  · have hbl : bl.length ≤ L.length := by rw [hb]; simp
    rcases j with _ | q
    · repeat' ((conv => whnf); first | (with_reducible first | apply Xa | (first | apply xi | apply xu | apply x8 | apply x3 | apply xn | apply xp | apply xP | refine xs ?_ ?_ | refine xS ?_ ?_ | refine xZ ?_ ?_ | refine xl ?_ ?_ | refine xd ?_ ?_ | refine xy ?_ ?_ | refine xL ?_ ?_ | refine xD ?_ ?_ | apply xx); omega | apply Xm | apply Xe) | refine Xo (by assumption) ?_ | refine Or.inl ⟨rfl, ?_⟩ | (split <;> (first | (rename_i u h; clear u) | rename_i h) <;> (try rewrite [h]) <;> (first | replace h := dt h | replace h := df h | replace h := Nt h | replace h := Nf h | skip)))
      refine ⟨_, byts_str2 bl, ?_⟩
      repeat' ((conv => whnf); first | (with_reducible first | apply Xa | (first | apply xi | apply xu | apply x8 | apply x3 | apply xn | apply xp | apply xP | refine xs ?_ ?_ | refine xS ?_ ?_ | refine xZ ?_ ?_ | refine xl ?_ ?_ | refine xd ?_ ?_ | refine xy ?_ ?_ | refine xL ?_ ?_ | refine xD ?_ ?_ | apply xx); omega | apply Xm | apply Xe) | refine Xo (by assumption) ?_ | refine Or.inl ⟨rfl, ?_⟩ | (split <;> (first | (rename_i u h; clear u) | rename_i h) <;> (try rewrite [h]) <;> (first | replace h := dt h | replace h := df h | replace h := Nt h | replace h := Nf h | skip)))
      obtain ⟨f1, f2, f3⟩ := fin bl (by rw [hb]; simp) _ rfl
      refine .inl ⟨_, c_r01_Plain gl _ f2 (by omega), ?_⟩
      rintro _ rfl
      repeat' ((conv => whnf); first | (with_reducible first | apply Xa | (first | apply xi | apply xu | apply x8 | apply x3 | apply xn | apply xp | apply xP | refine xs ?_ ?_ | refine xS ?_ ?_ | refine xZ ?_ ?_ | refine xl ?_ ?_ | refine xd ?_ ?_ | refine xy ?_ ?_ | refine xL ?_ ?_ | refine xD ?_ ?_ | apply xx); omega | apply Xm | apply Xe) | refine Xo (by assumption) ?_ | refine Or.inl ⟨rfl, ?_⟩ | (split <;> (first | (rename_i u h; clear u) | rename_i h) <;> (try rewrite [h]) <;> (first | replace h := dt h | replace h := df h | replace h := Nt h | replace h := Nf h | skip)))
      exact f1
    · rw [show ((q + 1 : Nat) : Int) - 1 = q by omega]
      have hd := hL L[q] (List.getElem_mem (by omega))
      repeat' ((conv => whnf); first | (with_reducible first | apply Xa | (first | apply xi | apply xu | apply x8 | apply x3 | apply xn | apply xp | apply xP | refine xs ?_ ?_ | refine xS ?_ ?_ | refine xZ ?_ ?_ | refine xl ?_ ?_ | refine xd ?_ ?_ | refine xy ?_ ?_ | refine xL ?_ ?_ | refine xD ?_ ?_ | apply xx); omega | apply Xm | apply Xe) | refine Xo (by assumption) ?_ | refine Or.inl ⟨rfl, ?_⟩ | (split <;> (first | (rename_i u h; clear u) | rename_i h) <;> (try rewrite [h]) <;> (first | replace h := dt h | replace h := df h | replace h := Nt h | replace h := Nf h | skip)))
      refine ⟨Nat.le_refl _, (show (_ + 1) * 1 ≤ _ by simp; omega), _, byts_snoc bl (48 + L[q]), ?_⟩
      repeat' ((conv => whnf); first | (with_reducible first | apply Xa | (first | apply xi | apply xu | apply x8 | apply x3 | apply xn | apply xp | apply xP | refine xs ?_ ?_ | refine xS ?_ ?_ | refine xZ ?_ ?_ | refine xl ?_ ?_ | refine xd ?_ ?_ | refine xy ?_ ?_ | refine xL ?_ ?_ | refine xD ?_ ?_ | apply xx); omega | apply Xm | apply Xe) | refine Xo (by assumption) ?_ | refine Or.inl ⟨rfl, ?_⟩ | (split <;> (first | (rename_i u h; clear u) | rename_i h) <;> (try rewrite [h]) <;> (first | replace h := dt h | replace h := df h | replace h := Nt h | replace h := Nf h | skip)))
      refine ⟨[2], q, rfl, by omega, q, by omega, rfl, .inr ⟨bl ++ [48 + L[q]], ?_, by simp, ?_⟩⟩
      · rw [hb]; exact step q (by omega)
      · rfl
end Go.V
