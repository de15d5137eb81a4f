/-
  Lemmas (part 3) for: What fold.Fold makes of any graph is what the document says (FoldMakes, FoldAll, FoldNames, FoldLeaves hold for every graph); no condition.
-/
import Derived.Test.YtndiceggidmgkaaGreatDoorFold2
import Derived.Lib.Bytealg
import Derived.Laws.Externs
set_option linter.all false
namespace Go.V
open Go.N
open Go.RowKit
theorem row_ro {S S' : Nat → Prop} {w : World} {b cap e sz : Nat} {es : List (List AV)} (h : RowAt S w b cap e sz es) (hs : S' b) (hsub : ∀ b, S b → S' b) : RepV S' H0 w (.ro sz es) (.slice (some ⟨b, 0, none⟩) es.length cap) := by
  obtain ⟨cur, vss, hh, hcs, h0, hn, hm, hll, hz, ht⟩ := h
  simp only [RepV]
  refine ⟨_, _, rfl, hn, hm, .inr ⟨_, rfl, hs, (Array.getElem?_eq_some_iff.1 hh).1, vss, RepLL.later (later_sub hsub) _ _ hll, hz, fun i vs hi k u hk => ?_⟩⟩
  have hf := take_flatten (fun vs hv => (hz vs hv).1) hi hk
  rw [← ht, List.getElem?_take] at hf
  rw [addr_add, show 0 + (i * sz + k) = i * sz + k by omega, cell_of_row w _ _ cur e (0, 0) hh]
  split at hf
  · simpa using hf
  · cases hf
theorem VCall.frozen {P : Program} {gl : Gl} {f : FuncId} {args : List AV} {e sz : Nat} {es : List (List AV)} (h : VCall P gl f args (fun x => x = .fr e sz es)) : VCall P gl f args (fun x => x = .ro sz es) := by
  intro S w vs h1 h2 h3
  refine (h S w vs h1 h2 h3).mono fun v w' hh => ?_
  obtain ⟨x, rfl, ⟨S', F, hF, hnd, hFS, hS'⟩, hb⟩ := hh
  refine ⟨_, rfl, ?_, hb⟩
  simp only [RepF] at hF
  obtain ⟨b, cap, rfl, rfl, hB, hrow⟩ := hF
  refine ⟨fun q => S' q ∨ q = b, [], ?_, by simp, by simp, ?_⟩
  · simp only [RepF]
    exact ⟨trivial, row_ro hrow (.inr rfl) fun q hq => .inl hq⟩
  · rintro q (hq | rfl)
    · exact hS' q hq
    · obtain ⟨cur, vss, hh, _⟩ := hrow
      exact ⟨(Array.getElem?_eq_some_iff.1 hh).1, .inr hB⟩
variable (gl : Gl)
def T_divide : Tab := [(171, i171), (210, i210), (3, i3), (207, i207), (211, i211)]
theorem TOK_divide : TOK Go.Proofs.Tryz.prog T_divide := ⟨K171, ⟨K210, ⟨K3, ⟨K207, ⟨K211, trivial⟩⟩⟩⟩⟩
def LX (x : AV) (n : Nat) : Prop := x = .fr 210 1 (limbs (lim n)) ∨ x = .ro 1 (limbs (lim n)) ∨ (n = 0 ∧ x = .nils)
theorem lim_one {b : Nat} (h : (lim b).length = 1) : b < 4294967296 ∧ 0 < b ∧ lim b = [b] := by
  have h1 : b < BB := by
    have := (lim_len_lt b 1).1 (by omega)
    simpa using this
  have h0 : b ≠ 0 := fun e => by rw [e, lim_zero] at h; simp at h
  refine ⟨h1, by omega, ?_⟩
  rw [lim_pos h0, Nat.mod_eq_of_lt h1, Nat.div_eq_of_lt h1, lim_zero]
theorem shl32n (x n : Nat) (hn : n < 32) (h : x * 2 ^ n < 4294967296) : ((x * 2 ^ n : Nat) : Int) = IntKind.wrap .u32 ((x : Int) * 2 ^ (min ((n : Nat) : Int).toNat (IntKind.bits .u32))) := by
  have e : min ((n : Nat) : Int).toNat (IntKind.bits .u32) = n := by simp [IntKind.bits]; omega
  have e2 : (x : Int) * 2 ^ n = ((x * 2 ^ n : Nat) : Int) := by simp
  rw [e, e2]
  generalize x * 2 ^ n = q at h
  exact wu32 (by omega) (by omega)
theorem shr31 (n : Nat) : ((n / 2147483648 : Nat) : Int) = Int.fdiv (n : Int) (2 ^ (min (Int.toNat 31) (IntKind.bits .u32))) := by
  have e : (2 : Int) ^ (min (Int.toNat 31) (IntKind.bits .u32)) = ((2147483648 : Nat) : Int) := by decide
  rw [e, Int.fdiv_eq_ediv_of_nonneg _ (by omega)]; omega
set_option maxHeartbeats 4000000 in
theorem c_divide (a b : Nat) (hb0 : 0 < b) (ha : (lim a).length < 400000) (hb : (lim b).length < 400000) : VCall Go.Proofs.Tryz.prog gl 152 [.ro 1 (limbs (lim a)), .ro 1 (limbs (lim b))]
    (fun x => ∃ q r, x = .tup [q, r] ∧ LX q (a / b) ∧ LX r (a % b)) := by
  refine vcall_of TOK_divide HM Go.Proofs.Tryz.func152 rfl (by decide +kernel) (by decide +kernel) rfl ?_
  have hla : (limbs (lim a)).length = (lim a).length := limbs_length _
  have hlb : (limbs (lim b)).length = (lim b).length := limbs_length _
  repeat' first|refine sW ⟨?_⟩|(refine sp ?_ ?_<;>refine fun h=>⟨?_⟩)|fail
  conv => whnf
  refine .inl ⟨_, c_compare gl a b (by omega) (by omega), ?_⟩
  rintro _ rfl
  rcases Nat.lt_or_ge a b with hab | hab
  · have hc : cmpN a b = -1 := cmpN_lt hab
    repeat' first|refine sW ⟨?_⟩|(refine sp ?_ ?_<;>refine fun h=>⟨?_⟩)|fail
    all_goals try omega
    conv => whnf
    exact ⟨_, _, rfl, .inr (.inr ⟨Nat.div_eq_of_lt hab, rfl⟩), .inr (.inl (by rw [Nat.mod_eq_of_lt hab]))⟩
  have hc : 0 ≤ cmpN a b := cmpN_ge.2 hab
  by_cases h1 : (lim b).length = 1
  · obtain ⟨hb1, _, hb2⟩ := lim_one h1
    have hv0 : (lim b)[0]'(by omega) = b := by
      have : (lim b)[0]? = some b := by rw [hb2]; rfl
      rw [List.getElem?_eq_getElem (by omega)] at this; simpa using this
    obtain ⟨b0, hb0'⟩ : ∃ b0, b0 = (lim b)[0]'(by omega) := ⟨_, rfl⟩
    repeat' first|refine sW ⟨?_⟩|(refine sp ?_ ?_<;>refine fun h=>⟨?_⟩)|fail
    all_goals try omega
    conv => whnf
    have hsm := c_small gl (lim a) ((lim b)[0]'(by omega)) (lim_small a) (by omega) (by omega) (by omega)
    refine .inl ⟨_, hsm, ?_⟩
    rintro _ ⟨q, rfl, hq⟩
    have hmod : lval (lim a) % (lim b)[0]'(by omega) = a % b := by rw [lval_lim, hv0]
    have hdiv : lval (lim a) / (lim b)[0]'(by omega) = a / b := by rw [lval_lim, hv0]
    rw [hdiv] at hq
    have hmb := Nat.mod_lt a hb0
    have hlq : LX q (a / b) := by
      rcases hq with h | ⟨hnil, h⟩
      · exact .inl h
      · refine .inr (.inl ?_)
        have ha0 : a = 0 := (lim_len_zero a).1 (by rw [hnil]; rfl)
        omega
    have hq2 : q = .fr 210 1 (limbs (lim (a / b))) := by
      rcases hq with h | ⟨hnil, h⟩
      · exact h
      · have ha0 : a = 0 := (lim_len_zero a).1 (by rw [hnil]; rfl)
        omega
    subst hq2
    repeat' first|refine sW ⟨?_⟩|(refine sp ?_ ?_<;>refine fun h=>⟨?_⟩)|fail
    conv => whnf
    have htr := c_trimH gl [(lval (lim a) % (lim b)[0]'(by omega)) % 4294967296] (by simp [small, BB]; omega) (by simp)
    refine .inr ⟨[1], rfl, _, htr, ?_⟩
    rintro _ _ ⟨rfl, hpre, rfl⟩
    repeat' first|refine sW ⟨?_⟩|(refine sp ?_ ?_<;>refine fun h=>⟨?_⟩)|fail
    conv => whnf
    refine .inr (.inl ⟨_, _, rfl, hlq, .inl ?_⟩)
    have hlv : lval [(lval (lim a) % (lim b)[0]'(by omega)) % 4294967296] = a % b := by
      rw [hmod, Nat.mod_eq_of_lt (by omega)]; simp [lval]
    rw [hlv] at hpre
    show AV.fr _ _ ((limbs [(lval (lim a) % (lim b)[0]'(by omega)) % 4294967296]).take (lim (lval [(lval (lim a) % (lim b)[0]'(by omega)) % 4294967296])).length) = _
    rw [hlv, limbs_take, ← hpre]
  · have hb1 : 1 < (lim b).length := by
      have := (lim_len_zero b).1
      omega
    obtain ⟨x, hx⟩ : ∃ x, x = (lim b)[(lim b).length - 1]'(by omega) := ⟨_, rfl⟩
    have hgx : (limbs (lim b))[(lim b).length - 1]? = some [.int .u32 ((x : Nat) : Int)] := by rw [hx]; exact limbs_get (by omega)
    have hx1 : x < 4294967296 := by rw [hx]; exact lim_small b _ (List.getElem_mem _)
    have hx0 : x ≠ 0 := lim_last b x (by rw [List.getLast?_eq_getElem?, List.getElem?_eq_getElem (by omega), ← hx])
    repeat' first|refine sW ⟨?_⟩|(refine sp ?_ ?_<;>refine fun h=>⟨?_⟩)|fail
    all_goals try omega
    conv => whnf
    refine ⟨[0, 1, 8], [], fun kk st => ∃ n : Nat, n < 32 ∧ x * 2 ^ n < 4294967296 ∧ kk = 32 - n ∧ st = ⟨[(0, .ro 1 (limbs (lim a))), (1, .ro 1 (limbs (lim b))), (8, .int .u64 (n : Nat))], []⟩, rfl, ⟨32, 0, by omega, by simpa using hx1, rfl, rfl⟩, ?_⟩
    rintro kk _ ⟨n, hn, hxn, hkk, rfl⟩
    repeat' first|refine sW ⟨?_⟩|(refine sp ?_ ?_<;>refine fun h=>⟨?_⟩)|fail
    refine ⟨(lim b).length - 1, _, by omega, hgx, ?_⟩
    repeat' first|refine sW ⟨?_⟩|(refine sp ?_ ?_<;>refine fun h=>⟨?_⟩)|fail
    refine ⟨by omega, _, shl32n x n hn hxn, ?_⟩
    repeat' first|refine sW ⟨?_⟩|(refine sp ?_ ?_<;>refine fun h=>⟨?_⟩)|fail
    refine ⟨by decide, _, shr31 (x * 2 ^ n), ?_⟩
    obtain ⟨y, hy⟩ : ∃ y, y = x * 2 ^ n := ⟨_, rfl⟩
    rcases Nat.lt_or_ge (x * 2 ^ n) 2147483648 with hlt | hge
    · have hy0 : x * 2 ^ n / 2147483648 = 0 := Nat.div_eq_of_lt hlt
      repeat' first|refine sW ⟨?_⟩|(refine sp ?_ ?_<;>refine fun h=>⟨?_⟩)|fail
      all_goals try omega
      have hp1 : x * 2 ^ (n + 1) < 4294967296 := by rw [Nat.pow_succ, ← Nat.mul_assoc]; omega
      have hn1 : n + 1 < 32 := by
        rcases Nat.lt_or_ge (n + 1) 32 with h | h
        · exact h
        · have h2 : 2 ^ 32 ≤ 2 ^ (n + 1) := Nat.pow_le_pow_right (by omega) h
          have h3 : 1 * 2 ^ (n + 1) ≤ x * 2 ^ (n + 1) := Nat.mul_le_mul_right _ (by omega)
          omega
      exact ⟨[], 32 - (n + 1), rfl, by omega, n + 1, hn1, hp1, rfl, rfl⟩
    · have hy0 : 1 ≤ x * 2 ^ n / 2147483648 := (Nat.le_div_iff_mul_le (by omega)).2 (by omega)
      clear hy
      repeat' first|refine sW ⟨?_⟩|(refine sp ?_ ?_<;>refine fun h=>⟨?_⟩)|fail
      all_goals try omega
      conv => whnf
      obtain ⟨A, hA⟩ : ∃ A, A = a * 2 ^ n := ⟨_, rfl⟩
      obtain ⟨V, hV⟩ : ∃ V, V = b * 2 ^ n := ⟨_, rfl⟩
      have hpw : 0 < 2 ^ n := Nat.pow_pos (by omega)
      have hsa := c_shift gl (lim a) n (lim_small a) (by omega) hn
      have hsb := (c_shift gl (lim b) n (lim_small b) (by omega) hn).frozen
      rw [lval_lim, ← hA] at hsa
      rw [lval_lim, ← hV] at hsb
      refine .inl ⟨_, hsa, ?_⟩
      rintro _ rfl
      repeat' first|refine sW ⟨?_⟩|(refine sp ?_ ?_<;>refine fun h=>⟨?_⟩)|fail
      conv => whnf
      have hVpos : 0 < V := by rw [hV]; exact Nat.mul_pos hb0 hpw
      have hVA : V ≤ A := by rw [hV, hA]; exact Nat.mul_le_mul_right _ hab
      have haA : a ≤ A := by rw [hA]; exact Nat.le_mul_of_pos_right a hpw
      have hbV : b ≤ V := by rw [hV]; exact Nat.le_mul_of_pos_right b hpw
      have hlA1 := lim_mono haA
      have hlV1 := lim_mono hbV
      have hlVA := lim_mono hVA
      have hlA2 : (lim A).length ≤ (lim a).length + 1 := by
        refine (lim_len_lt _ _).2 ?_
        have h1 : a < BB ^ (lim a).length := (lim_len_lt a _).1 (Nat.le_refl _)
        have h2 : 2 ^ n ≤ BB := (Nat.pow_le_pow_right (by omega) (show n ≤ 32 by omega) : 2 ^ n ≤ 2 ^ 32)
        have h3 : a * 2 ^ n < BB ^ (lim a).length * 2 ^ n := Nat.mul_lt_mul_of_pos_right h1 hpw
        have h4 : BB ^ (lim a).length * 2 ^ n ≤ BB ^ (lim a).length * BB := Nat.mul_le_mul_left _ h2
        rw [hA, Nat.pow_succ]; omega
      have hlA : (limbs (lim A)).length = (lim A).length := limbs_length _
      have hlV : (limbs (lim V)).length = (lim V).length := limbs_length _
      have hlU : (limbs (lim A ++ [0])).length = (lim A).length + 1 := by simp
      refine ⟨Nat.le_refl _, (show ((limbs (lim A)).length + 1) * 4 ≤ _ by omega), _, limbs_snoc (lim A) 0, ?_⟩
      repeat' first|refine sW ⟨?_⟩|(refine sp ?_ ?_<;>refine fun h=>⟨?_⟩)|fail
      conv => whnf
      refine .inl ⟨_, hsb, ?_⟩
      rintro _ rfl
      repeat' first|refine sW ⟨?_⟩|(refine sp ?_ ?_<;>refine fun h=>⟨?_⟩)|fail
      all_goals try omega
      conv => whnf
      obtain ⟨m, hm⟩ : ∃ m, m = (lim A).length + 1 - (lim V).length := ⟨_, rfl⟩
      refine ⟨by omega, by omega, by omega, (show (_ : Int) * 4 ≤ _ by omega), m, by omega, ?_⟩
      obtain ⟨tp, htp⟩ : ∃ tp, tp = (lim V)[(lim V).length - 1]'(by omega) := ⟨_, rfl⟩
      have hgV : (limbs (lim V))[(lim V).length - 1]? = some [.int .u32 ((tp : Nat) : Int)] := by rw [htp]; exact limbs_get (by omega)
      have htpb : tp < 4294967296 := by rw [htp]; exact lim_small V _ (List.getElem_mem _)
      repeat' first|refine sW ⟨?_⟩|(refine sp ?_ ?_<;>refine fun h=>⟨?_⟩)|fail
      refine ⟨(lim V).length - 1, _, by omega, hgV, ?_⟩
      repeat' first|refine sW ⟨?_⟩|(refine sp ?_ ?_<;>refine fun h=>⟨?_⟩)|fail
      conv => whnf
      have hU0 : lval (lim A ++ [0]) = A := by rw [lval_append, lval_lim]; simp [lval]
      have hVn : V < BB ^ (lim V).length := (lim_len_lt V _).1 (Nat.le_refl _)
      have hVn1 : BB ^ ((lim V).length - 1) ≤ V := by
        rcases Nat.lt_or_ge V (BB ^ ((lim V).length - 1)) with h | h
        · have := (lim_len_lt V _).2 h
          omega
        · exact h
      refine ⟨[8, 9, 10, 11, 12, 13], [2, 3], fun kk st => ∃ (k : Nat) (U qs : List Nat), k ≤ m ∧ kk = k ∧ U.length = (lim A).length + 1 ∧ small U ∧ U.take k = (lim A ++ [0]).take k ∧ lval (U.drop k) < V ∧ qs.length = m - k ∧ small qs ∧
        lval ((lim A ++ [0]).drop k) = V * lval qs + lval (U.drop k) ∧
        st = ⟨[(8, .int .u64 (n : Nat)), (9, .own 0 0 (limbs (lim A ++ [0])).length), (10, .ro 1 (limbs (lim V))), (11, .own 1 0 m), (12, .int .u64 (tp : Nat)), (13, .int .i64 ((k : Int) - 1))],
          [.row false 210 1 (limbs U), .row false 210 1 (limbs (List.replicate k 0 ++ qs))]⟩, rfl,
        ⟨m, m, lim A ++ [0], [], Nat.le_refl _, rfl, by simp, small_append (lim_small A) (by simp [small, BB]), rfl, ?_, by simp, by simp [small], by simp [lval], ?_⟩, ?_⟩
      · have e1 : (lim A ++ [0]).drop m = (lim A).drop m ++ [0] := by rw [List.drop_append_of_le_length (by omega)]
        rw [e1, lval_append]
        have h1 := lval_lt (l := (lim A).drop m) fun x hx => lim_small A x (List.mem_of_mem_drop hx)
        rw [List.length_drop, show (lim A).length - m = (lim V).length - 1 by omega] at h1
        simp only [lval]; omega
      · have he : limbs (List.replicate m 0 ++ []) = List.replicate m [AV.int .u32 0] := by simp [limbs]
        rw [he]; rfl
      rintro kk _ ⟨k, U, qs, hk, hkk, hUl, hUs, hUt, hUd, hql, hqs, hinv, rfl⟩
      have hUL : (limbs U).length = (limbs (lim A ++ [0])).length := by simp [hUl]
      rcases k with _ | k
      · repeat' first|refine sW ⟨?_⟩|(refine sp ?_ ?_<;>refine fun h=>⟨?_⟩)|fail
        all_goals try omega
        conv => whnf
        simp only [List.drop_zero] at hinv hUd
        rw [hU0] at hinv
        have hR : lval U = A % V := by rw [hinv, Nat.mul_add_mod, Nat.mod_eq_of_lt hUd]
        have hQ : lval qs = A / V := by rw [hinv, Nat.mul_add_div hVpos, Nat.div_eq_of_lt hUd, Nat.add_zero]
        have hQ2 : lval qs = a / b := by rw [hQ, hA, hV, Nat.mul_div_mul_right _ _ hpw]
        have hR2 : lval U = (a % b) * 2 ^ n := by rw [hR, hA, hV, Nat.mul_mod_mul_right]
        have hR3 : lval U / 2 ^ n = a % b := by rw [hR2, Nat.mul_div_cancel _ hpw]
        have hcU : VCall Go.Proofs.Tryz.prog gl 191 [.ro 1 (List.take (limbs (lim A ++ [0])).length (List.drop 0 (limbs U)))] (fun x => x = .fr 210 1 (limbs U) ∨ (U = [] ∧ x = .nils)) := by
          rw [← hUL, List.drop_zero, List.take_length]; exact c_Clone gl U (by omega)
        refine .inl ⟨_, hcU, ?_⟩
        rintro _ (rfl | ⟨hnil, _⟩)
        rotate_left
        · rw [hnil] at hUl; simp at hUl
        conv => whnf
        refine ⟨false, flat_limbs _, ?_⟩
        repeat' first|refine sW ⟨?_⟩|(refine sp ?_ ?_<;>refine fun h=>⟨?_⟩)|fail
        conv => whnf
        refine .inr ⟨[2], rfl, _, c_trimH gl U hUs (by omega), ?_⟩
        rintro _ _ ⟨rfl, hpre, rfl⟩
        repeat' first|refine sW ⟨?_⟩|(refine sp ?_ ?_<;>refine fun h=>⟨?_⟩)|fail
        refine ⟨by omega, _, shl_one n hn, ?_⟩
        repeat' first|refine sW ⟨?_⟩|(refine sp ?_ ?_<;>refine fun h=>⟨?_⟩)|fail
        conv => whnf
        have hRl : (lim (lval U)).length < 1000000 := by
          have := congrArg List.length hpre
          rw [List.length_take] at this; omega
        have hn32 : 2 ^ n < 4294967296 := Nat.pow_lt_pow_right (n := 32) (by omega) hn
        have hsm := c_small gl (lim (lval U)) (2 ^ n) (lim_small _) hRl hpw hn32
        rw [lval_lim, hR3] at hsm
        have hsm2 : VCall Go.Proofs.Tryz.prog gl 188 [.ro 1 (List.take (lim (lval U)).length (List.drop 0 (limbs U))), .int .u64 ((2 ^ n : Nat) : Int)]
            (fun x => ∃ q, x = .tup [q, .int .u64 ((lval U % 2 ^ n : Nat) : Int)] ∧ (q = .fr 210 1 (limbs (lim (a % b))) ∨ (lim (lval U) = [] ∧ q = .ro 1 (limbs [])))) := by
          have e : List.take (lim (lval U)).length (List.drop 0 (limbs U)) = limbs (lim (lval U)) := by rw [List.drop_zero, limbs_take, ← hpre]
          rw [e]; exact hsm
        have hqsl : (limbs (List.replicate 0 0 ++ qs)).length = m := by simp [hql]
        have htq := c_trimH gl (List.replicate 0 0 ++ qs) (by simpa using hqs) (by simp; omega)
        rw [hqsl] at htq
        have hqv : lval (List.replicate 0 0 ++ qs) = a / b := by simpa using hQ2
        refine .inl ⟨_, hsm2, ?_⟩
        rintro _ ⟨q, rfl, rfl | ⟨hnil, rfl⟩⟩
        · conv => whnf
          refine ⟨false, flat_tup2 (flat_limbs _) flat_int, ?_⟩
          repeat' first|refine sW ⟨?_⟩|(refine sp ?_ ?_<;>refine fun h=>⟨?_⟩)|fail
          conv => whnf
          refine .inr ⟨[1], rfl, _, htq, ?_⟩
          rintro _ _ ⟨rfl, hpre2, rfl⟩
          repeat' first|refine sW ⟨?_⟩|(refine sp ?_ ?_<;>refine fun h=>⟨?_⟩)|fail
          conv => whnf
          rw [hqv] at hpre2
          refine .inr (.inl ?_)
          repeat' first|refine sW ⟨?_⟩|(refine sp ?_ ?_<;>refine fun h=>⟨?_⟩)|fail
          conv => whnf
          refine ⟨_, _, rfl, .inl ?_, .inl rfl⟩
          show AV.fr _ _ ((limbs (List.replicate 0 0 ++ qs)).take (lim (lval (List.replicate 0 0 ++ qs))).length) = _
          rw [hqv, limbs_take, ← hpre2]
        · repeat' first|refine sW ⟨?_⟩|(refine sp ?_ ?_<;>refine fun h=>⟨?_⟩)|fail
          conv => whnf
          refine .inr ⟨[1], rfl, _, htq, ?_⟩
          rintro _ _ ⟨rfl, hpre2, rfl⟩
          repeat' first|refine sW ⟨?_⟩|(refine sp ?_ ?_<;>refine fun h=>⟨?_⟩)|fail
          conv => whnf
          rw [hqv] at hpre2
          have hz : a % b = 0 := by
            have h0 := (lim_len_zero (lval U)).1 (by rw [hnil]; rfl)
            rw [← hR3, h0]; simp
          refine .inr (.inl ?_)
          repeat' first|refine sW ⟨?_⟩|(refine sp ?_ ?_<;>refine fun h=>⟨?_⟩)|fail
          conv => whnf
          refine ⟨_, _, rfl, .inl ?_, .inr (.inl (by rw [hz, lim_zero]))⟩
          show AV.fr _ _ ((limbs (List.replicate 0 0 ++ qs)).take (lim (lval (List.replicate 0 0 ++ qs))).length) = _
          rw [hqv, limbs_take, ← hpre2]
      · rw [show ((k + 1 : Nat) : Int) - 1 = k by omega]
        have hkU : k < U.length := by omega
        have hup : lval (U.drop (k + (lim V).length + 1)) = 0 := by
          have h1 := lval_split (U.drop (k + 1)) (lim V).length (by simp; omega)
          rw [List.drop_drop, show k + 1 + (lim V).length = k + (lim V).length + 1 by omega] at h1
          rcases Nat.eq_zero_or_pos (lval (U.drop (k + (lim V).length + 1))) with h | h
          · exact h
          · have h2 : BB ^ (lim V).length * 1 ≤ BB ^ (lim V).length * lval (U.drop (k + (lim V).length + 1)) := Nat.mul_le_mul_left _ h
            omega
        have hwin : lval ((U.drop k).take ((lim V).length + 1)) = lval (U.drop k) := by
          have h1 := lval_split (U.drop k) ((lim V).length + 1) (by simp; omega)
          rw [List.drop_drop, ← Nat.add_assoc, hup] at h1
          omega
        have hdk := lval_drop hkU
        have hUk : U[k] < BB := hUs _ (List.getElem_mem _)
        have hwb : lval ((U.drop k).take ((lim V).length + 1)) < V * BB := by
          rw [hwin, hdk]
          have h1 : BB * (lval (U.drop (k + 1)) + 1) ≤ BB * V := Nat.mul_le_mul_left _ hUd
          rw [Nat.mul_add, Nat.mul_comm BB V] at h1
          omega
        have hgs := c_guess gl U V k (lim V).length hUs (by omega) rfl (by omega) (by omega) tp (by rw [htp]; exact List.getElem?_eq_getElem _) hwb
        rw [hUL, hwin] at hgs
        have hgq : (limbs (List.replicate (k + 1) 0 ++ qs))[0 + k]? = some [.int .u32 ((0 : Nat) : Int)] := by
          rw [Nat.zero_add, limbs_get (by simp; omega)]
          congr 4
          rw [List.getElem_append_left (by simp), List.getElem_replicate]
        repeat' first|refine sW ⟨?_⟩|(refine sp ?_ ?_<;>refine fun h=>⟨?_⟩)|fail
        all_goals try omega
        conv => whnf
        refine .inr ⟨[0], rfl, _, hgs, ?_⟩
        rintro _ _ ⟨rfl, U', rfl, hU'l, hU's, hU't, hU'w, hU'd⟩
        obtain ⟨dgt, hdgt⟩ : ∃ dgt, dgt = lval (U.drop k) / V := ⟨_, rfl⟩
        have hdgb : dgt < BB := by
          rw [hdgt]
          exact (Nat.div_lt_iff_lt_mul hVpos).2 (by rw [Nat.mul_comm, ← hwin]; exact hwb)
        have hdm := Nat.div_add_mod (lval (U.drop k)) V
        rw [← hdgt] at hdm
        have hU'v : lval (U'.drop k) = lval (U.drop k) % V := by
          have h1 := lval_split (U'.drop k) ((lim V).length + 1) (by simp; omega)
          rw [List.drop_drop, ← Nat.add_assoc, hU'd, hup, hU'w, Nat.mul_zero, Nat.add_zero] at h1
          exact h1
        repeat' first|refine sW ⟨?_⟩|(refine sp ?_ ?_<;>refine fun h=>⟨?_⟩)|fail
        all_goals try omega
        have hset : (List.replicate (k + 1) 0 ++ qs).set k dgt = List.replicate k 0 ++ dgt :: qs := by
          rw [List.replicate_succ', List.append_assoc, List.set_append_right _ _ (by simp)]
          simp
        have he : (limbs (List.replicate (k + 1) 0 ++ qs)).set (0 + k) [AV.int .u32 ((lval (U.drop k) / V : Nat) : Int)] = limbs (List.replicate k 0 ++ dgt :: qs) := by
          rw [Nat.zero_add, limbs_set _ _ dgt (by rw [hdgt]), hset]
        refine ⟨[0, 1], k, rfl, by omega, k, U', dgt :: qs, by omega, rfl, by omega, hU's, ?_, ?_, by simp; omega, ?_, ?_, ?_⟩
        · have h1 : U.take k = (U.take (k + 1)).take k := by rw [List.take_take, Nat.min_eq_left (by omega)]
          have h2 : (lim A ++ [0]).take k = ((lim A ++ [0]).take (k + 1)).take k := by rw [List.take_take, Nat.min_eq_left (by omega)]
          rw [hU't, h1, hUt, ← h2]
        · rw [hU'v]; exact Nat.mod_lt _ hVpos
        · intro y hy
          simp only [List.mem_cons] at hy
          rcases hy with rfl | hy
          · exact hdgb
          · exact hqs y hy
        · have hk0 : k < (lim A ++ [0]).length := by simp; omega
          have hU0k : (lim A ++ [0])[k] = U[k] := by
            have h1 : (U.take (k + 1))[k]? = ((lim A ++ [0]).take (k + 1))[k]? := by rw [hUt]
            rw [List.getElem?_take_of_lt (by omega), List.getElem?_take_of_lt (by omega), List.getElem?_eq_getElem hkU, List.getElem?_eq_getElem hk0] at h1
            simpa using h1.symm
          rw [lval_drop hk0, hinv, hU0k, hU'v]
          simp only [lval]
          rw [Nat.mul_add, Nat.mul_add, ← Nat.mul_assoc BB V, Nat.mul_comm BB V, Nat.mul_assoc]
          omega
        · exact Eq.trans rfl (congrArg (fun z => (⟨[(8, .int .u64 (n : Nat)), (9, .own 0 0 (limbs (lim A ++ [0])).length), (10, .ro 1 (limbs (lim V))), (11, .own 1 0 m), (12, .int .u64 (tp : Nat)), (13, .int .i64 ((k : Int) - 1))],
            [.row false 210 1 (limbs U'), .row false 210 1 z]⟩ : St)) he)
end Go.V
namespace Go.V
open Go.N
variable (gl : Gl)
def T_NRight1 : Tab := [(21, i21)]
theorem TOK_NRight1 : TOK Go.Proofs.Tryz.prog T_NRight1 := ⟨K21, trivial⟩
def T_indexFunc : Tab := [(9, i9), (21, i21), (4, i4)]
theorem TOK_indexFunc : TOK Go.Proofs.Tryz.prog T_indexFunc := ⟨K9, ⟨K21, ⟨K4, trivial⟩⟩⟩
def T_IndexFunc : Tab := [(9, i9), (166, i166), (4, i4)]
theorem TOK_IndexFunc : TOK Go.Proofs.Tryz.prog T_IndexFunc := ⟨K9, ⟨K166, ⟨K4, trivial⟩⟩⟩
def T_NRight : Tab := [(9, i9), (5, i5), (3, i3), (166, i166)]
theorem TOK_NRight : TOK Go.Proofs.Tryz.prog T_NRight := ⟨K9, ⟨K5, ⟨K3, ⟨K166, trivial⟩⟩⟩⟩
def T_Nboth : Tab := [(9, i9), (4, i4), (171, i171), (210, i210)]
theorem TOK_Nboth : TOK Go.Proofs.Tryz.prog T_Nboth := ⟨K9, ⟨K4, ⟨K171, ⟨K210, trivial⟩⟩⟩⟩
def noDig (r : Int) : Bool := decide (r < 48) || decide (57 < r)
theorem c_NRight1 (r : Int) : VCall Go.Proofs.Tryz.prog gl 146 [.int .i32 r] (fun x => x = .bool (noDig r)) := by
  refine vcall_of TOK_NRight1 HM Go.Proofs.Tryz.func146 rfl (by decide +kernel) (by decide +kernel) rfl ?_
  repeat' first|refine sW ⟨?_⟩|(refine sp ?_ ?_<;>refine fun h=>⟨?_⟩)|fail
  all_goals (conv => whnf)
  all_goals refine congrArg AV.bool ?_
  · simp [noDig, h]
  · simp [noDig, h]
theorem get_at {s : ByteArray} {k : Nat} (h : k < s.toList.length) : (s.get! k) = s.toList[k] := by
  have h2 : k < s.size := by rw [Go.N.len_toList] at h; exact h
  have e : s.toList[k]? = some (s.get! k) := by
    rw [ByteArray.toList_eq]
    cases s with
    | mk d =>
      have hd : k < d.size := h2
      simp [ByteArray.get!, hd]
  rw [List.getElem?_eq_getElem h] at e
  simpa using e.symm
theorem dec_ascii {s : ByteArray} {k : Nat} (h : k < s.toList.length) (hb : s.toList[k].toNat < 128) : Utf8.decode s k = (s.toList[k].toNat, 1) := by
  unfold Utf8.decode
  simp only [Nat.add_zero, get_at h]
  rw [if_pos hb]
theorem dec_other {s : ByteArray} {k : Nat} (h : k < s.toList.length) (hb : ¬ s.toList[k].toNat < 128) : 128 ≤ (Utf8.decode s k).1 := by
  unfold Utf8.decode
  simp only [Nat.add_zero, get_at h]
  rw [if_neg hb]
  split
  · split
    · simp; omega
    · simp [Utf8.runeError]
  · split
    · split
      · rename_i h1
        simp at h1 ⊢; omega
      · simp [Utf8.runeError]
    · split
      · split
        · rename_i h1
          simp at h1 ⊢; omega
        · simp [Utf8.runeError]
      · simp [Utf8.runeError]
set_option maxHeartbeats 2000000 in
theorem c_indexFunc (s : ByteArray) (hs : s.size < 9000000000) : VCall Go.Proofs.Tryz.prog gl 177 [.str s, .fn 146 [], .bool true] (fun x => ∃ k : Int, x = .int .i64 k ∧ (k < 0 ↔ s.toList.all isDig = true)) := by
  refine vcall_of TOK_indexFunc HM Go.Proofs.Tryz.func177 rfl (by decide +kernel) (by decide +kernel) rfl ?_
  have hl := Go.N.len_toList s
  repeat' first|refine sW ⟨?_⟩|(refine sp ?_ ?_<;>refine fun h=>⟨?_⟩)|fail
  refine ⟨[1, 2, 10], [0], fun m st => ∃ k : Nat, k ≤ s.size ∧ m = s.size - k ∧ (s.toList.take k).all isDig = true ∧ st = ⟨[(1, .fn 146 []), (2, .bool true), (10, .bptr 0 0)], [.iter s k]⟩, rfl, ⟨s.size, 0, by omega, rfl, rfl, rfl⟩, ?_⟩
  rintro m _ ⟨k, hk, hm, hd, rfl⟩
  repeat' first|refine sW ⟨?_⟩|(refine sp ?_ ?_<;>refine fun h=>⟨?_⟩)|fail
  · have hlt : k < s.size := by simpa using h
    have hk2 : k < s.toList.length := by omega
    rcases Nat.lt_or_ge s.toList[k].toNat 128 with hb | hb
    · refine ⟨_, _, (dec_ascii hk2 hb).symm, ?_⟩
      have hdec : noDig (s.toList[k].toNat : Int) = !isDig s.toList[k] := by
        rw [Bool.eq_iff_iff]
        simp only [noDig, isDig, Bool.or_eq_true, decide_eq_true_eq, Bool.not_eq_true', Bool.and_eq_false_iff, decide_eq_false_iff_not]
        omega
      have hc := c_NRight1 gl ((s.toList[k].toNat : Nat) : Int)
      by_cases hdg : isDig s.toList[k] = true
      · rw [hdec, hdg] at hc
        repeat' first|refine sW ⟨?_⟩|(refine sp ?_ ?_<;>refine fun h=>⟨?_⟩)|fail
        conv => whnf
        refine .inl ⟨_, hc, ?_⟩
        rintro _ rfl
        repeat' first|refine sW ⟨?_⟩|(refine sp ?_ ?_<;>refine fun h=>⟨?_⟩)|fail
        refine ⟨[0], s.size - (k + 1), rfl, by omega, k + 1, by omega, rfl, ?_, rfl⟩
        rw [List.take_succ_eq_append_getElem hk2, List.all_append, hd]; simp [hdg]
      · rw [hdec, Bool.eq_false_iff.2 hdg] at hc
        repeat' first|refine sW ⟨?_⟩|(refine sp ?_ ?_<;>refine fun h=>⟨?_⟩)|fail
        conv => whnf
        refine .inl ⟨_, hc, ?_⟩
        rintro _ rfl
        repeat' first|refine sW ⟨?_⟩|(refine sp ?_ ?_<;>refine fun h=>⟨?_⟩)|fail
        conv => whnf
        refine ⟨k, rfl, ?_⟩
        have : s.toList.all isDig = false := by rw [List.all_eq_false]; exact ⟨_, List.getElem_mem hk2, hdg⟩
        rw [this]; simp
    · have hc128 := dec_other hk2 (by omega)
      obtain ⟨⟨c, m2⟩, hcm⟩ : ∃ p, p = Utf8.decode s k := ⟨_, rfl⟩
      rw [← hcm] at hc128
      have hc := c_NRight1 gl ((c : Nat) : Int)
      have hv : noDig (c : Int) = true := by
        simp only [noDig, Bool.or_eq_true, decide_eq_true_eq]
        right
        have : 128 ≤ c := hc128
        omega
      rw [hv] at hc
      refine ⟨c, m2, hcm, ?_⟩
      repeat' first|refine sW ⟨?_⟩|(refine sp ?_ ?_<;>refine fun h=>⟨?_⟩)|fail
      conv => whnf
      refine .inl ⟨_, hc, ?_⟩
      rintro _ rfl
      repeat' first|refine sW ⟨?_⟩|(refine sp ?_ ?_<;>refine fun h=>⟨?_⟩)|fail
      conv => whnf
      refine ⟨k, rfl, ?_⟩
      have : s.toList.all isDig = false := by
        rw [List.all_eq_false]
        refine ⟨_, List.getElem_mem hk2, ?_⟩
        simp [isDig]; omega
      rw [this]; simp
  · repeat' first|refine sW ⟨?_⟩|(refine sp ?_ ?_<;>refine fun h=>⟨?_⟩)|fail
    conv => whnf
    have hge : ¬ k < s.size := fun hh => by
      have : Nat.blt k s.size = true := by simpa using hh
      rw [this] at h; cases h
    refine ⟨-1, rfl, ?_⟩
    rw [List.take_of_length_le (by omega)] at hd
    simp [hd]
theorem c_IndexFunc (s : ByteArray) (hs : s.size < 9000000000) : VCall Go.Proofs.Tryz.prog gl 145 [.str s, .fn 146 []] (fun x => ∃ k : Int, x = .int .i64 k ∧ (k < 0 ↔ s.toList.all isDig = true)) := by
  refine vcall_of TOK_IndexFunc HM Go.Proofs.Tryz.func145 rfl (by decide +kernel) (by decide +kernel) rfl ?_
  repeat' first|refine sW ⟨?_⟩|(refine sp ?_ ?_<;>refine fun h=>⟨?_⟩)|fail
  conv => whnf
  refine .inl ⟨_, c_indexFunc gl s hs, ?_⟩
  rintro _ ⟨k, rfl, hk⟩
  repeat' first|refine sW ⟨?_⟩|(refine sp ?_ ?_<;>refine fun h=>⟨?_⟩)|fail
  conv => whnf
  exact ⟨k, rfl, hk⟩
theorem c_NRight (s : ByteArray) (hs : s.size < 9000000000) : VCall Go.Proofs.Tryz.prog gl 102 [.str s] (fun x => x = .bool (isNat s.toList)) := by
  refine vcall_of TOK_NRight HM Go.Proofs.Tryz.func102 rfl (by decide +kernel) (by decide +kernel) rfl ?_
  have hl := Go.N.len_toList s
  rcases Nat.eq_zero_or_pos s.size with h0 | hpos
  · have e : s.toList = [] := List.eq_nil_of_length_eq_zero (by omega)
    have e2 : s = ⟨#[]⟩ := toList_inj (by rw [e, ByteArray.toList_eq])
    rw [e]
    repeat' first|refine sW ⟨?_⟩|(refine sp ?_ ?_<;>refine fun h=>⟨?_⟩)|fail
    · conv => whnf
      rfl
    · exact absurd e2 h
  · have hne : ¬ s = ⟨#[]⟩ := fun e => by rw [e] at hpos; exact absurd hpos (by decide)
    have hh : (s.toList[0]? = some 48) ↔ ((s.toList[0]'(by omega)).toNat : Int) = 48 := by
      rw [List.getElem?_eq_getElem (by omega), Option.some.injEq, ← UInt8.toNat_inj]
      simp; omega
    have fin : ∀ k : Int, (k < 0 ↔ s.toList.all isDig = true) → (s.toList.length = 1 ∨ ¬ s.toList[0]? = some 48) → decide (k < 0) = isNat s.toList := fun k hk h1 => by
      rw [Bool.eq_iff_iff, decide_eq_true_eq, hk]
      constructor
      · intro hd
        exact isNat_of hd (fun e => by rw [e] at hl; simp at hl; omega) h1
      · intro hd
        simp only [isNat, Bool.and_eq_true] at hd
        exact hd.1
    repeat' first|refine sW ⟨?_⟩|(refine sp ?_ ?_<;>refine fun h=>⟨?_⟩)|fail
    · exact absurd h hne
    · conv => whnf
      rename_i h1
      have h0 := hh.2 h1
      have h2 : ¬ s.toList.length = 1 := by omega
      refine congrArg AV.bool (Eq.symm ?_)
      simp [isNat, h0, h2]
    · conv => whnf
      refine .inl ⟨_, c_IndexFunc gl s hs, ?_⟩
      rintro _ ⟨k, rfl, hk⟩
      repeat' first|refine sW ⟨?_⟩|(refine sp ?_ ?_<;>refine fun h=>⟨?_⟩)|fail
      all_goals (conv => whnf)
      all_goals refine congrArg AV.bool ?_
      all_goals exact fin k hk (.inl (by omega))
    · conv => whnf
      refine .inl ⟨_, c_IndexFunc gl s hs, ?_⟩
      rintro _ ⟨k, rfl, hk⟩
      repeat' first|refine sW ⟨?_⟩|(refine sp ?_ ?_<;>refine fun h=>⟨?_⟩)|fail
      all_goals (conv => whnf)
      all_goals refine congrArg AV.bool ?_
      all_goals exact fin k hk (.inr (fun e => absurd (hh.1 e) (by assumption)))
theorem c_Nboth (m n : Nat) (hm : (dec m).length < 300000) (hn : (dec n).length < 300000) : VCall Go.Proofs.Tryz.prog gl 151 [.str (decB m), .str (decB n)] (fun x => ∃ p q, x = .tup [p, q, .bool true] ∧ LX p m ∧ LX q n) := by
  refine vcall_of TOK_Nboth HM Go.Proofs.Tryz.func151 rfl (by decide +kernel) (by decide +kernel) rfl ?_
  have hzm := decB_size m
  have hzn := decB_size n
  have h1 := c_NRight gl (decB m) (by omega)
  have h2 := c_NRight gl (decB n) (by omega)
  rw [decB_toList, isNat_dec] at h1 h2
  have hpm := List.length_pos_iff.2 (dec_ne m)
  have hpn := List.length_pos_iff.2 (dec_ne n)
  have hrm := c_read gl (decB m) (decB_dig m) (by omega)
  have hrn := c_read gl (decB n) (decB_dig n) (by omega)
  rw [dval_decB] at hrm hrn
  have hlm := lim_le_dec m
  have hln := lim_le_dec n
  repeat' first|refine sW ⟨?_⟩|(refine sp ?_ ?_<;>refine fun h=>⟨?_⟩)|fail
  conv => whnf
  refine .inl ⟨_, h1, ?_⟩
  rintro _ rfl
  repeat' first|refine sW ⟨?_⟩|(refine sp ?_ ?_<;>refine fun h=>⟨?_⟩)|fail
  conv => whnf
  refine .inl ⟨_, h2, ?_⟩
  rintro _ rfl
  repeat' first|refine sW ⟨?_⟩|(refine sp ?_ ?_<;>refine fun h=>⟨?_⟩)|fail
  conv => whnf
  refine .inl ⟨_, hrm, ?_⟩
  rintro _ (rfl | ⟨h0, _⟩)
  rotate_left
  · omega
  repeat' first|refine sW ⟨?_⟩|(refine sp ?_ ?_<;>refine fun h=>⟨?_⟩)|fail
  conv => whnf
  refine .inr ⟨[0], rfl, _, c_trimH gl (lim m) (lim_small m) (by omega), ?_⟩
  rintro _ _ ⟨rfl, hp1, rfl⟩
  repeat' first|refine sW ⟨?_⟩|(refine sp ?_ ?_<;>refine fun h=>⟨?_⟩)|fail
  conv => whnf
  refine .inl ⟨_, hrn, ?_⟩
  rintro _ (rfl | ⟨h0, _⟩)
  rotate_left
  · omega
  repeat' first|refine sW ⟨?_⟩|(refine sp ?_ ?_<;>refine fun h=>⟨?_⟩)|fail
  conv => whnf
  refine .inr ⟨[1], rfl, _, c_trimH gl (lim n) (lim_small n) (by omega), ?_⟩
  rintro _ _ ⟨rfl, hp2, rfl⟩
  repeat' first|refine sW ⟨?_⟩|(refine sp ?_ ?_<;>refine fun h=>⟨?_⟩)|fail
  conv => whnf
  refine .inr (.inl ?_)
  conv => whnf
  refine .inr (.inl ?_)
  conv => whnf
  have e : ∀ n, List.take (lim (lval (lim n))).length (limbs (lim n)) = limbs (lim n) := fun n => by rw [lval_lim, limbs_take, List.take_length]
  exact ⟨_, _, rfl, .inl (by rw [e]), .inl (by rw [e])⟩
end Go.V
namespace Go.V
open Go.N
open Go.RowKit
def roA (z : Nat) : AV → AV
  | .fr _ sz es => .ro sz es
  | .nils => .ro z []
  | x => x
def Simple : AV → Prop
  | .agg _ => False
  | .tup _ => False
  | _ => True
theorem roA_rep {S : Nat → Prop} {b z : Nat} {w : World} : ∀ (x : AV) (v : Value) (F : List (Nat × Nat)), Simple x → RepF S b w x v F → RepF (fun q => S q ∨ q ∈ F.map (·.1)) b w (roA z x) v []
  | .fr e sz es, v, F, _, h => by
    simp only [RepF, roA] at h ⊢
    obtain ⟨c, cap, rfl, rfl, hB, hrow⟩ := h
    exact ⟨trivial, row_ro hrow (.inr (by simp)) fun q hq => .inl hq⟩
  | .nils, v, F, _, h => by
    simp only [RepF, roA, RepV] at h ⊢
    obtain ⟨rfl, rfl⟩ := h
    refine ⟨trivial, none, 0, ?_⟩
    simp
  | .agg _, v, F, hs, h => hs.elim
  | .tup _, v, F, hs, h => hs.elim
  | .j, v, F, _, h | .u, v, F, _, h | .int _ _, v, F, _, h | .bool _, v, F, _, h | .str _, v, F, _, h | .ro _ _, v, F, _, h | .own _ _ _, v, F, _, h | .rp _, v, F, _, h | .bptr _ _, v, F, _, h | .ptr _ _ _, v, F, _, h
  | .fn _ _, v, F, _, h | .map _, v, F, _, h | .iface _ _, v, F, _, h | .nili, v, F, _, h => by
    simp only [RepF, roA] at h ⊢
    exact ⟨trivial, RepV.later (later_sub fun q hq => .inl hq) _ v h.2⟩
theorem roAL_rep {S : Nat → Prop} {b z : Nat} {w : World} : ∀ (xs : List AV) (vs : List Value) (F : List (Nat × Nat)), (∀ x ∈ xs, Simple x) → RepFL S b w xs vs F → RepFL (fun q => S q ∨ q ∈ F.map (·.1)) b w (xs.map (roA z)) vs []
  | [], vs, F, _, h => by simp only [RepFL, List.map_nil] at h ⊢; exact ⟨h.1, trivial⟩
  | x :: xs, vs, F, hs, h => by
    simp only [RepFL, List.map_cons] at h ⊢
    obtain ⟨v, r, F1, F2, rfl, rfl, h1, h2⟩ := h
    have k1 := roA_rep (z := z) x v F1 (hs x List.mem_cons_self) h1
    have k2 := roAL_rep (z := z) xs r F2 (fun y hy => hs y (List.mem_cons_of_mem _ hy)) h2
    refine ⟨v, r, [], [], rfl, rfl, repF_later (later_sub fun q hq => ?_) _ _ _ k1 (by simp), repFL_later (later_sub fun q hq => ?_) _ _ _ k2 (by simp)⟩
    · rcases hq with hq | hq
      · exact .inl hq
      · exact .inr (by rw [List.map_append]; exact List.mem_append_left _ hq)
    · rcases hq with hq | hq
      · exact .inl hq
      · exact .inr (by rw [List.map_append]; exact List.mem_append_right _ hq)
theorem repFL_lt {S : Nat → Prop} {b : Nat} {w : World} : ∀ (xs : List AV) (vs : List Value) (F : List (Nat × Nat)), (∀ x ∈ xs, Simple x) → RepFL S b w xs vs F → ∀ q ∈ F, q.1 < w.heap.size
  | [], vs, F, _, h => by simp only [RepFL] at h; rw [h.2]; simp
  | x :: xs, vs, F, hs, h => by
    simp only [RepFL] at h
    obtain ⟨v, r, F1, F2, rfl, rfl, h1, h2⟩ := h
    intro q hq
    rcases List.mem_append.1 hq with hq | hq
    · have hx := hs x List.mem_cons_self
      cases x <;> simp only [RepF] at h1 <;> first | (rw [h1.1] at hq; simp at hq; done) | exact hx.elim | skip
      obtain ⟨c, cap, rfl, rfl, hB, cur, vss, hh, _⟩ := h1
      simp at hq; subst hq
      exact (Array.getElem?_eq_some_iff.1 hh).1
    · exact repFL_lt xs r F2 (fun y hy => hs y (List.mem_cons_of_mem _ hy)) h2 q hq
theorem VCall.ro {P : Program} {gl : Gl} {f : FuncId} {args : List AV} {R : List AV → Prop} (z : Nat) (h : VCall P gl f args (fun x => ∃ xs, x = .tup xs ∧ (∀ y ∈ xs, Simple y) ∧ R (xs.map (roA z)))) :
    VCall P gl f args (fun x => ∃ ys, x = .tup ys ∧ R ys) := by
  intro S w vs h1 h2 h3
  refine (h S w vs h1 h2 h3).mono fun v w' hh => ?_
  obtain ⟨x, ⟨xs, rfl, hsim, hR⟩, ⟨S', F, hF, hnd, hFS, hS'⟩, hb⟩ := hh
  refine ⟨_, ⟨_, rfl, hR⟩, ?_, hb⟩
  have hge := repF_ge _ _ _ hF
  simp only [RepF] at hF
  obtain ⟨us, rfl, hFL⟩ := hF
  refine ⟨fun q => S' q ∨ q ∈ F.map (·.1), [], ?_, by simp, by simp, ?_⟩
  · simp only [RepF]
    exact ⟨us, rfl, roAL_rep xs us F hsim hFL⟩
  · rintro q (hq | hq)
    · exact hS' q hq
    · obtain ⟨y, hy, rfl⟩ := List.mem_map.1 hq
      exact ⟨repFL_lt xs us F hsim hFL y hy, .inr (hge y hy)⟩
theorem LX.ro {x : AV} {n : Nat} (h : LX x n) : roA 1 x = .ro 1 (limbs (lim n)) := by
  rcases h with rfl | rfl | ⟨rfl, rfl⟩
  · rfl
  · rfl
  · rw [lim_zero]; rfl
theorem LX.simple {x : AV} {n : Nat} (h : LX x n) : Simple x := by
  rcases h with rfl | rfl | ⟨rfl, rfl⟩ <;> trivial
variable (gl : Gl)
theorem c_Nboth2 (m n : Nat) (hm : (dec m).length < 300000) (hn : (dec n).length < 300000) : VCall Go.Proofs.Tryz.prog gl 151 [.str (decB m), .str (decB n)] (fun x => x = .tup [.ro 1 (limbs (lim m)), .ro 1 (limbs (lim n)), .bool true]) := by
  have h := VCall.ro (R := fun ys => ys = [.ro 1 (limbs (lim m)), .ro 1 (limbs (lim n)), .bool true]) 1 ((c_Nboth gl m n hm hn).mono fun x hx => by
    obtain ⟨p, q, rfl, hp, hq⟩ := hx
    refine ⟨_, rfl, ?_, ?_⟩
    · intro y hy
      simp only [List.mem_cons, List.not_mem_nil, or_false] at hy
      rcases hy with rfl | rfl | rfl
      · exact hp.simple
      · exact hq.simple
      · trivial
    · simp only [List.map_cons, List.map_nil, hp.ro, hq.ro]; rfl)
  exact h.mono fun x ⟨ys, e, hy⟩ => by rw [e, hy]
theorem c_divide2 (a b : Nat) (hb0 : 0 < b) (ha : (lim a).length < 400000) (hb : (lim b).length < 400000) : VCall Go.Proofs.Tryz.prog gl 152 [.ro 1 (limbs (lim a)), .ro 1 (limbs (lim b))]
    (fun x => x = .tup [.ro 1 (limbs (lim (a / b))), .ro 1 (limbs (lim (a % b)))]) := by
  have h := VCall.ro (R := fun ys => ys = [.ro 1 (limbs (lim (a / b))), .ro 1 (limbs (lim (a % b)))]) 1 ((c_divide gl a b hb0 ha hb).mono fun x hx => by
    obtain ⟨p, q, rfl, hp, hq⟩ := hx
    refine ⟨_, rfl, ?_, ?_⟩
    · intro y hy
      simp only [List.mem_cons, List.not_mem_nil, or_false] at hy
      rcases hy with rfl | rfl
      · exact hp.simple
      · exact hq.simple
    · simp only [List.map_cons, List.map_nil, hp.ro, hq.ro])
  exact h.mono fun x ⟨ys, e, hy⟩ => by rw [e, hy]
def T_NDiv : Tab := [(9, i9), (4, i4), (171, i171), (210, i210), (3, i3)]
theorem TOK_NDiv : TOK Go.Proofs.Tryz.prog T_NDiv := ⟨K9, ⟨K4, ⟨K171, ⟨K210, ⟨K3, trivial⟩⟩⟩⟩⟩
def T_NGcd : Tab := [(9, i9), (4, i4), (171, i171), (210, i210), (3, i3)]
theorem TOK_NGcd : TOK Go.Proofs.Tryz.prog T_NGcd := ⟨K9, ⟨K4, ⟨K171, ⟨K210, ⟨K3, trivial⟩⟩⟩⟩⟩
set_option maxHeartbeats 4000000 in
theorem c_NDiv (m n : Nat) (hn0 : 0 < n) (hm : (dec m).length < 300000) (hn : (dec n).length < 300000) : VCall Go.Proofs.Tryz.prog gl 110 [.str (decB m), .str (decB n)] (fun x => x = .tup [.str (decB (m / n)), .str (decB (m % n)), .int .i64 0]) := by
  refine vcall_of TOK_NDiv HM Go.Proofs.Tryz.func110 rfl (by decide +kernel) (by decide +kernel) rfl ?_
  have hlm := lim_le_dec m
  have hln := lim_le_dec n
  have hqd := dec_mono (Nat.div_le_self m n)
  have hrd := dec_mono (Nat.le_of_lt (Nat.mod_lt m hn0))
  have hn1 := lim_len_zero n
  have hn2 : (limbs (lim n)).length = (lim n).length := limbs_length _
  repeat' first|refine sW ⟨?_⟩|(refine sp ?_ ?_<;>refine fun h=>⟨?_⟩)|fail
  conv => whnf
  refine .inl ⟨_, c_Nboth2 gl m n hm hn, ?_⟩
  rintro _ rfl
  repeat' first|refine sW ⟨?_⟩|(refine sp ?_ ?_<;>refine fun h=>⟨?_⟩)|fail
  · exact absurd h (by omega)
  conv => whnf
  refine .inl ⟨_, c_divide2 gl m n hn0 (by omega) (by omega), ?_⟩
  rintro _ rfl
  repeat' first|refine sW ⟨?_⟩|(refine sp ?_ ?_<;>refine fun h=>⟨?_⟩)|fail
  conv => whnf
  refine .inl ⟨_, c_text gl (m / n) (by omega), ?_⟩
  rintro _ rfl
  repeat' first|refine sW ⟨?_⟩|(refine sp ?_ ?_<;>refine fun h=>⟨?_⟩)|fail
  conv => whnf
  refine .inl ⟨_, c_text gl (m % n) (by omega), ?_⟩
  rintro _ rfl
  repeat' first|refine sW ⟨?_⟩|(refine sp ?_ ?_<;>refine fun h=>⟨?_⟩)|fail
  conv => whnf
  rfl
set_option maxHeartbeats 4000000 in
theorem c_NGcd (m n : Nat) (hm : (dec m).length < 300000) (hn : (dec n).length < 300000) : VCall Go.Proofs.Tryz.prog gl 109 [.str (decB m), .str (decB n)] (fun x => x = .tup [.str (decB (Nat.gcd m n)), .int .i64 0]) := by
  refine vcall_of TOK_NGcd HM Go.Proofs.Tryz.func109 rfl (by decide +kernel) (by decide +kernel) rfl ?_
  have hlm := lim_le_dec m
  have hln := lim_le_dec n
  repeat' first|refine sW ⟨?_⟩|(refine sp ?_ ?_<;>refine fun h=>⟨?_⟩)|fail
  conv => whnf
  refine .inl ⟨_, c_Nboth2 gl m n hm hn, ?_⟩
  rintro _ rfl
  repeat' first|refine sW ⟨?_⟩|(refine sp ?_ ?_<;>refine fun h=>⟨?_⟩)|fail
  conv => whnf
  refine ⟨[6, 7], [], fun k st => ∃ a b : Nat, (dec a).length < 300000 ∧ (dec b).length < 300000 ∧ k = b ∧ Nat.gcd a b = Nat.gcd m n ∧ st = ⟨[(6, .ro 1 (limbs (lim a))), (7, .ro 1 (limbs (lim b)))], []⟩, rfl, ⟨n, m, n, hm, hn, rfl, rfl, rfl⟩, ?_⟩
  rintro k _ ⟨a, b, ha, hb, hk, hg, rfl⟩
  have hla := lim_le_dec a
  have hlb := lim_le_dec b
  have hb1 := lim_len_zero b
  have hb2 : (limbs (lim b)).length = (lim b).length := limbs_length _
  rcases Nat.eq_zero_or_pos b with hb0 | hb0
  · repeat' first|refine sW ⟨?_⟩|(refine sp ?_ ?_<;>refine fun h=>⟨?_⟩)|fail
    · exact absurd h (by omega)
    conv => whnf
    have e : a = Nat.gcd m n := by rw [← hg, hb0, Nat.gcd_zero_right]
    refine .inl ⟨_, c_text gl a (by omega), ?_⟩
    rintro _ rfl
    repeat' first|refine sW ⟨?_⟩|(refine sp ?_ ?_<;>refine fun h=>⟨?_⟩)|fail
    conv => whnf
    rw [← e]; rfl
  · repeat' first|refine sW ⟨?_⟩|(refine sp ?_ ?_<;>refine fun h=>⟨?_⟩)|fail
    rotate_left
    · exact absurd h (by omega)
    conv => whnf
    refine .inl ⟨_, c_divide2 gl a b hb0 (by omega) (by omega), ?_⟩
    rintro _ rfl
    repeat' first|refine sW ⟨?_⟩|(refine sp ?_ ?_<;>refine fun h=>⟨?_⟩)|fail
    have hlt := Nat.mod_lt a hb0
    refine ⟨[], a % b, rfl, by omega, b, a % b, hb, Nat.lt_of_le_of_lt (dec_mono (Nat.le_of_lt hlt)) hb, rfl, ?_, rfl⟩
    rw [← hg, Nat.gcd_comm a b, Nat.gcd_rec b a, Nat.gcd_comm]
end Go.V
namespace Go.V
open Go.N
variable (gl : Gl)
def T_r04_Same : Tab := [(33, i33), (3, i3)]
theorem TOK_r04_Same : TOK Go.Proofs.Tryz.prog T_r04_Same := ⟨K33, ⟨K3, trivial⟩⟩
def T_EqualI : Tab := [(33, i33), (3, i3)]
theorem TOK_EqualI : TOK Go.Proofs.Tryz.prog T_EqualI := ⟨K33, ⟨K3, trivial⟩⟩
def T_shape_Same : Tab := [(33, i33), (3, i3)]
theorem TOK_shape_Same : TOK Go.Proofs.Tryz.prog T_shape_Same := ⟨K33, ⟨K3, trivial⟩⟩
def rowZ (l : List Int) : List (List AV) := l.map fun x => [.int .i64 x]
@[simp] theorem rowZ_length (l : List Int) : (rowZ l).length = l.length := by simp [rowZ]
theorem rowZ_get {l : List Int} {k : Nat} (h : k < l.length) : (rowZ l)[k]? = some [.int .i64 l[k]] := by simp [rowZ, h]
theorem take_ext {α : Type} {a b : List α} {i : Nat} (ha : i < a.length) (hb : i < b.length) (h : a.take i = b.take i) (he : a[i] = b[i]) : a.take (i + 1) = b.take (i + 1) := by
  rw [List.take_succ_eq_append_getElem ha, List.take_succ_eq_append_getElem hb, h, he]
set_option maxHeartbeats 1000000 in
theorem c_r04_Same (a b : List Int) (hla : a.length < 9000000000) (hlb : b.length < 9000000000) : VCall Go.Proofs.Tryz.prog gl 22 [.ro 1 (rowZ a), .ro 1 (rowZ b)] (fun x => x = .bool (decide (a = b))) := by
  refine vcall_of TOK_r04_Same HM Go.Proofs.Tryz.func22 rfl (by decide +kernel) (by decide +kernel) rfl ?_
  have ha : (rowZ a).length = a.length := rowZ_length a
  have hb : (rowZ b).length = b.length := rowZ_length b
  repeat' first|refine sW ⟨?_⟩|(refine sp ?_ ?_<;>refine fun h=>⟨?_⟩)|fail
  · conv => whnf
    refine congrArg AV.bool (Eq.symm (decide_eq_false fun e => ?_))
    rw [e] at h; exact h rfl
  · have hlen : a.length = b.length := by omega
    conv => whnf
    refine ⟨[0, 1, 5], [], fun m st => ∃ i : Nat, i ≤ a.length ∧ m = a.length - i ∧ a.take i = b.take i ∧ st = ⟨[(0, .ro 1 (rowZ a)), (1, .ro 1 (rowZ b)), (5, .int .i64 (i : Nat))], []⟩, rfl, ⟨a.length, 0, by omega, rfl, rfl, rfl⟩, ?_⟩
    rintro m _ ⟨i, hi, hm, ht, rfl⟩
    rcases Nat.lt_or_ge i a.length with hia | hge
    · have hib : i < b.length := by omega
      have ga := rowZ_get hia
      have gb := rowZ_get hib
      repeat' first|refine sW ⟨?_⟩|(refine sp ?_ ?_<;>refine fun h=>⟨?_⟩)|fail
      all_goals try omega
      refine ⟨by decide +kernel, [0, 0, 3, 7, 0, 0, 48, 112, 255], by decide +kernel, ?_⟩
      repeat' first|refine sW ⟨?_⟩|(refine sp ?_ ?_<;>refine fun h=>⟨?_⟩)|fail
      refine ⟨i, _, rfl, ga, ?_⟩
      repeat' first|refine sW ⟨?_⟩|(refine sp ?_ ?_<;>refine fun h=>⟨?_⟩)|fail
      refine ⟨i, _, rfl, gb, ?_⟩
      repeat' first|refine sW ⟨?_⟩|(refine sp ?_ ?_<;>refine fun h=>⟨?_⟩)|fail
      · conv => whnf
        refine congrArg AV.bool (Eq.symm (decide_eq_false fun e => ?_))
        subst e; exact h rfl
      · exact ⟨[], a.length - (i + 1), rfl, by omega, i + 1, by omega, rfl, take_ext hia hib ht h, rfl⟩
    · repeat' first|refine sW ⟨?_⟩|(refine sp ?_ ?_<;>refine fun h=>⟨?_⟩)|fail
      all_goals try omega
      conv => whnf
      rw [List.take_of_length_le (by omega), List.take_of_length_le (by omega)] at ht
      exact congrArg AV.bool (Eq.symm (decide_eq_true ht))
set_option maxHeartbeats 1000000 in
theorem c_EqualI (a b : List Int) (hla : a.length < 9000000000) (hlb : b.length < 9000000000) : VCall Go.Proofs.Tryz.prog gl 97 [.ro 1 (rowZ a), .ro 1 (rowZ b)] (fun x => x = .bool (decide (a = b))) := by
  refine vcall_of TOK_EqualI HM Go.Proofs.Tryz.func97 rfl (by decide +kernel) (by decide +kernel) rfl ?_
  have ha : (rowZ a).length = a.length := rowZ_length a
  have hb : (rowZ b).length = b.length := rowZ_length b
  repeat' first|refine sW ⟨?_⟩|(refine sp ?_ ?_<;>refine fun h=>⟨?_⟩)|fail
  · conv => whnf
    refine congrArg AV.bool (Eq.symm (decide_eq_false fun e => ?_))
    rw [e] at h; exact h rfl
  · have hlen : a.length = b.length := by omega
    conv => whnf
    refine ⟨[0, 1, 12, 13], [], fun m st => ∃ i : Nat, i ≤ a.length ∧ m = a.length - i ∧ a.take i = b.take i ∧ st = ⟨[(0, .ro 1 (rowZ a)), (1, .ro 1 (rowZ b)), (12, .int .i64 ((rowZ a).length : Nat)), (13, .int .i64 (i : Nat))], []⟩, rfl, ⟨a.length, 0, by omega, rfl, rfl, rfl⟩, ?_⟩
    rintro m _ ⟨i, hi, hm, ht, rfl⟩
    rcases Nat.lt_or_ge i a.length with hia | hge
    · have hib : i < b.length := by omega
      have ga := rowZ_get hia
      have gb := rowZ_get hib
      repeat' first|refine sW ⟨?_⟩|(refine sp ?_ ?_<;>refine fun h=>⟨?_⟩)|fail
      all_goals try omega
      refine ⟨by decide +kernel, [0, 0, 3, 7, 0, 0, 48, 112, 255], by decide +kernel, ?_⟩
      repeat' first|refine sW ⟨?_⟩|(refine sp ?_ ?_<;>refine fun h=>⟨?_⟩)|fail
      refine ⟨i, _, rfl, ga, ?_⟩
      repeat' first|refine sW ⟨?_⟩|(refine sp ?_ ?_<;>refine fun h=>⟨?_⟩)|fail
      refine ⟨i, _, rfl, gb, ?_⟩
      repeat' first|refine sW ⟨?_⟩|(refine sp ?_ ?_<;>refine fun h=>⟨?_⟩)|fail
      · conv => whnf
        refine congrArg AV.bool (Eq.symm (decide_eq_false fun e => ?_))
        subst e; exact h rfl
      · exact ⟨[], a.length - (i + 1), rfl, by omega, i + 1, by omega, rfl, take_ext hia hib ht h, rfl⟩
    · repeat' first|refine sW ⟨?_⟩|(refine sp ?_ ?_<;>refine fun h=>⟨?_⟩)|fail
      all_goals try omega
      conv => whnf
      rw [List.take_of_length_le (by omega), List.take_of_length_le (by omega)] at ht
      exact congrArg AV.bool (Eq.symm (decide_eq_true ht))
theorem c_shape_Same (a b : List Int) (hla : a.length < 9000000000) (hlb : b.length < 9000000000) : VCall Go.Proofs.Tryz.prog gl 50 [.ro 1 (rowZ a), .ro 1 (rowZ b)] (fun x => x = .bool (decide (a = b))) := by
  refine vcall_of TOK_shape_Same HM Go.Proofs.Tryz.func50 rfl (by decide +kernel) (by decide +kernel) rfl ?_
  repeat' first|refine sW ⟨?_⟩|(refine sp ?_ ?_<;>refine fun h=>⟨?_⟩)|fail
  conv => whnf
  refine .inl ⟨_, c_EqualI gl a b hla hlb, ?_⟩
  rintro _ rfl
  repeat' first|refine sW ⟨?_⟩|(refine sp ?_ ?_<;>refine fun h=>⟨?_⟩)|fail
  conv => whnf
  rfl
end Go.V
namespace Go.V
open Go.N
variable (gl : Gl)
def T_r04_Right : Tab := [(33, i33), (3, i3)]
theorem TOK_r04_Right : TOK Go.Proofs.Tryz.prog T_r04_Right := ⟨K33, ⟨K3, trivial⟩⟩
def T_r04_Size : Tab := [(33, i33), (3, i3)]
theorem TOK_r04_Size : TOK Go.Proofs.Tryz.prog T_r04_Size := ⟨K33, ⟨K3, trivial⟩⟩
def T_shape_Right : Tab := [(33, i33), (3, i3)]
theorem TOK_shape_Right : TOK Go.Proofs.Tryz.prog T_shape_Right := ⟨K33, ⟨K3, trivial⟩⟩
def T_shape_Size : Tab := [(33, i33), (3, i3), (4, i4)]
theorem TOK_shape_Size : TOK Go.Proofs.Tryz.prog T_shape_Size := ⟨K33, ⟨K3, ⟨K4, trivial⟩⟩⟩
def prodZ (l : List Int) : Int := l.foldl (· * ·) 1
theorem prodZ_snoc (l : List Int) (x : Int) : prodZ (l ++ [x]) = prodZ l * x := by simp [prodZ]
theorem prodZ_take {l : List Int} {i : Nat} (h : i < l.length) : prodZ (l.take (i + 1)) = prodZ (l.take i) * l[i] := by
  rw [List.take_succ_eq_append_getElem h, prodZ_snoc]
def dimOK (d : Int) : Bool := decide (1 ≤ d) && decide (d ≤ 64)
def okShape (l : List Int) : Bool := decide (l.length ≤ 4) && l.all dimOK && decide (prodZ l ≤ 64)
theorem prodZ_pos : ∀ (l : List Int) (r : Int), (∀ d ∈ l, 1 ≤ d) → 1 ≤ r → r ≤ l.foldl (· * ·) r
  | [], r, _, _ => Int.le_refl _
  | x :: l, r, h, hr => by
    have hx := h x List.mem_cons_self
    have h1 : r * 1 ≤ r * x := Int.mul_le_mul_of_nonneg_left hx (by omega)
    rw [Int.mul_one] at h1
    exact Int.le_trans h1 (prodZ_pos l (r * x) (fun d hd => h d (List.mem_cons_of_mem _ hd)) (by omega))
theorem prodZ_le {l : List Int} (h : ∀ d ∈ l, 1 ≤ d) (i : Nat) : prodZ (l.take i) ≤ prodZ l := by
  have h1 : 1 ≤ prodZ (l.take i) := prodZ_pos _ 1 (fun d hd => h d (List.mem_of_mem_take hd)) (Int.le_refl _)
  have h2 := prodZ_pos (l.drop i) (prodZ (l.take i)) (fun d hd => h d (List.mem_of_mem_drop hd)) h1
  have e : (l.drop i).foldl (· * ·) (prodZ (l.take i)) = prodZ l := by
    unfold prodZ; rw [← List.foldl_append, List.take_append_drop]
  rwa [e] at h2
theorem mul64 {p d : Int} (h1 : 1 ≤ p) (h2 : p ≤ 64) (h3 : 1 ≤ d) (h4 : d ≤ 64) : 1 ≤ p * d ∧ p * d ≤ 4096 := by
  have a := Int.mul_le_mul h2 h4 (by omega) (by omega)
  have b := Int.mul_le_mul h1 h3 (by omega) (by omega)
  omega
theorem okShape_bad {l : List Int} {i : Nat} (h : i < l.length) (hb : dimOK l[i] = false) : okShape l = false := by
  have : l.all dimOK = false := by rw [List.all_eq_false]; exact ⟨_, List.getElem_mem h, by simp [hb]⟩
  simp [okShape, this]
theorem okShape_dim {l : List Int} (h : okShape l = true) : ∀ d ∈ l, 1 ≤ d ∧ d ≤ 64 := fun d hd => by
  simp only [okShape, Bool.and_eq_true, List.all_eq_true] at h
  have := h.1.2 d hd
  simpa [dimOK] using this
set_option maxHeartbeats 2000000 in
theorem c_r04_Right (l : List Int) (hll : l.length < 9000000000) : VCall Go.Proofs.Tryz.prog gl 69 [.ro 1 (rowZ l)] (fun x => x = .bool (okShape l)) := by
  refine vcall_of TOK_r04_Right HM Go.Proofs.Tryz.func69 rfl (by decide +kernel) (by decide +kernel) rfl ?_
  have hl : (rowZ l).length = l.length := rowZ_length l
  repeat' first|refine sW ⟨?_⟩|(refine sp ?_ ?_<;>refine fun h=>⟨?_⟩)|fail
  · conv => whnf
    have : ¬ l.length ≤ 4 := by omega
    exact congrArg AV.bool (by simp [okShape, this])
  · have h4 : l.length ≤ 4 := by omega
    conv => whnf
    refine ⟨[0, 3, 4], [], fun m st => ∃ i : Nat, i ≤ l.length ∧ m = l.length - i ∧ (l.take i).all dimOK = true ∧ 1 ≤ prodZ (l.take i) ∧ prodZ (l.take i) ≤ 64 ∧
      st = ⟨[(0, .ro 1 (rowZ l)), (3, .int .i64 (prodZ (l.take i))), (4, .int .i64 (i : Nat))], []⟩, rfl, ⟨l.length, 0, by omega, rfl, rfl, by simp [prodZ], by simp [prodZ], rfl⟩, ?_⟩
    rintro m _ ⟨i, hi, hm, hd, hp1, hp2, rfl⟩
    rcases Nat.lt_or_ge i l.length with hil | hge
    · have g := rowZ_get hil
      rcases Int.lt_or_le l[i] 1 with h1 | h1
      · have hb : dimOK l[i] = false := by simp [dimOK]; omega
        repeat' first|refine sW ⟨?_⟩|(refine sp ?_ ?_<;>refine fun h=>⟨?_⟩)|fail
        all_goals try omega
        refine ⟨i, _, rfl, g, ?_⟩
        repeat' first|refine sW ⟨?_⟩|(refine sp ?_ ?_<;>refine fun h=>⟨?_⟩)|fail
        all_goals try omega
        conv => whnf
        rw [okShape_bad hil hb]; rfl
      rcases Int.lt_or_le 64 l[i] with h2 | h2
      · have hb : dimOK l[i] = false := by simp [dimOK]; omega
        repeat' first|refine sW ⟨?_⟩|(refine sp ?_ ?_<;>refine fun h=>⟨?_⟩)|fail
        all_goals try omega
        refine ⟨i, _, rfl, g, ?_⟩
        repeat' first|refine sW ⟨?_⟩|(refine sp ?_ ?_<;>refine fun h=>⟨?_⟩)|fail
        all_goals try omega
        refine ⟨i, _, rfl, g, ?_⟩
        repeat' first|refine sW ⟨?_⟩|(refine sp ?_ ?_<;>refine fun h=>⟨?_⟩)|fail
        all_goals try omega
        conv => whnf
        rw [okShape_bad hil hb]; rfl
      obtain ⟨hm1, hm2⟩ := mul64 hp1 hp2 h1 h2
      have hpt := prodZ_take hil
      repeat' first|refine sW ⟨?_⟩|(refine sp ?_ ?_<;>refine fun h=>⟨?_⟩)|fail
      all_goals try omega
      refine ⟨i, _, rfl, g, ?_⟩
      repeat' first|refine sW ⟨?_⟩|(refine sp ?_ ?_<;>refine fun h=>⟨?_⟩)|fail
      all_goals try omega
      refine ⟨i, _, rfl, g, ?_⟩
      repeat' first|refine sW ⟨?_⟩|(refine sp ?_ ?_<;>refine fun h=>⟨?_⟩)|fail
      all_goals try omega
      refine ⟨i, _, rfl, g, ?_⟩
      repeat' first|refine sW ⟨?_⟩|(refine sp ?_ ?_<;>refine fun h=>⟨?_⟩)|fail
      all_goals try omega
      · conv => whnf
        have e : okShape l = false := by
          cases ha : l.all dimOK
          · simp [okShape, ha]
          · have h5 := prodZ_le (l := l) (fun d hd => by
              have := List.all_eq_true.1 ha d hd
              simp only [dimOK, Bool.and_eq_true, decide_eq_true_eq] at this
              exact this.1) (i + 1)
            have h6 : ¬ prodZ l ≤ 64 := by omega
            simp [okShape, h6]
        rw [e]; rfl
      · repeat' first|refine sW ⟨?_⟩|(refine sp ?_ ?_<;>refine fun h=>⟨?_⟩)|fail
        refine ⟨i, _, rfl, g, ?_⟩
        repeat' first|refine sW ⟨?_⟩|(refine sp ?_ ?_<;>refine fun h=>⟨?_⟩)|fail
        have hdi : dimOK l[i] = true := by simp [dimOK, h1, h2]
        exact ⟨[], l.length - (i + 1), rfl, by omega, i + 1, by omega, rfl, by rw [List.take_succ_eq_append_getElem hil, List.all_append, hd]; simp [hdi], by omega, by omega,
          Eq.trans rfl (congrArg (fun z => (⟨[(0, .ro 1 (rowZ l)), (3, .int .i64 z), (4, .int .i64 ((i + 1 : Nat) : Int))], []⟩ : St)) hpt.symm)⟩
    · repeat' first|refine sW ⟨?_⟩|(refine sp ?_ ?_<;>refine fun h=>⟨?_⟩)|fail
      all_goals try omega
      conv => whnf
      rw [List.take_of_length_le (by omega)] at hd hp2
      exact congrArg AV.bool (by simp [okShape, h4, hd, hp2])
def cap (i : Nat) : Int := 64 ^ i
theorem cap_succ (i : Nat) : cap (i + 1) = cap i * 64 := Int.pow_succ 64 i
theorem cap_nonneg (i : Nat) : 0 ≤ cap i := Int.pow_nonneg (by omega)
theorem cap_le {i : Nat} (h : i < 4) : cap i * 64 ≤ 16777216 := by
  have hi3 : i = 0 ∨ i = 1 ∨ i = 2 ∨ i = 3 := by omega
  rcases hi3 with rfl | rfl | rfl | rfl <;> decide
theorem mulcap {p d c : Int} (h1 : 1 ≤ p) (h2 : p ≤ c) (h3 : 1 ≤ d) (h4 : d ≤ 64) (hc : 0 ≤ c) (hb : c * 64 ≤ 16777216) : 1 ≤ p * d ∧ p * d ≤ c * 64 ∧ p * d ≤ 16777216 := by
  have a := Int.mul_le_mul h2 h4 (by omega) hc
  have b := Int.mul_le_mul h1 h3 (by omega) (by omega)
  omega
set_option maxHeartbeats 2000000 in
theorem c_shape_Right (l : List Int) (hll : l.length < 9000000000) : VCall Go.Proofs.Tryz.prog gl 115 [.ro 1 (rowZ l)] (fun x => x = .bool (okShape l)) := by
  refine vcall_of TOK_shape_Right HM Go.Proofs.Tryz.func115 rfl (by decide +kernel) (by decide +kernel) rfl ?_
  have hl : (rowZ l).length = l.length := rowZ_length l
  repeat' first|refine sW ⟨?_⟩|(refine sp ?_ ?_<;>refine fun h=>⟨?_⟩)|fail
  refine ⟨[0, 3, 6, 7, 8], [], fun m st => ∃ i : Nat, i ≤ l.length ∧ (0 < i → l.length ≤ 4) ∧ m = l.length - i ∧ (l.take i).all dimOK = true ∧ 1 ≤ prodZ (l.take i) ∧ prodZ (l.take i) ≤ cap i ∧
    st = ⟨[(0, .ro 1 (rowZ l)), (3, .int .i64 (prodZ (l.take i))), (6, .ro 1 (rowZ l)), (7, .int .i64 ((rowZ l).length : Nat)), (8, .int .i64 (i : Nat))], []⟩, rfl, ⟨l.length, 0, by omega, by omega, rfl, rfl, by simp [prodZ], by simp [prodZ, cap], rfl⟩, ?_⟩
  rintro m _ ⟨i, hi, h4i, hm, hd, hp1, hp2, rfl⟩
  rcases Nat.lt_or_ge i l.length with hil | hge
  · have g := rowZ_get hil
    rcases Nat.lt_or_ge 4 l.length with h5 | h4
    · have hbad : okShape l = false := by
        have : ¬ l.length ≤ 4 := by omega
        simp [okShape, this]
      rw [hbad]
      repeat' first|refine sW ⟨?_⟩|(refine sp ?_ ?_<;>refine fun h=>⟨?_⟩)|fail
      all_goals try omega
      refine ⟨i, _, rfl, g, ?_⟩
      repeat' first|refine sW ⟨?_⟩|(refine sp ?_ ?_<;>refine fun h=>⟨?_⟩)|fail
      all_goals try omega
      all_goals (conv => whnf)
      all_goals rfl
    rcases Int.lt_or_le l[i] 1 with h1 | h1
    · have hb : dimOK l[i] = false := by simp [dimOK]; omega
      rw [okShape_bad hil hb]
      repeat' first|refine sW ⟨?_⟩|(refine sp ?_ ?_<;>refine fun h=>⟨?_⟩)|fail
      all_goals try omega
      refine ⟨i, _, rfl, g, ?_⟩
      repeat' first|refine sW ⟨?_⟩|(refine sp ?_ ?_<;>refine fun h=>⟨?_⟩)|fail
      all_goals try omega
      conv => whnf
      rfl
    rcases Int.lt_or_le 64 l[i] with h2 | h2
    · have hb : dimOK l[i] = false := by simp [dimOK]; omega
      rw [okShape_bad hil hb]
      repeat' first|refine sW ⟨?_⟩|(refine sp ?_ ?_<;>refine fun h=>⟨?_⟩)|fail
      all_goals try omega
      refine ⟨i, _, rfl, g, ?_⟩
      repeat' first|refine sW ⟨?_⟩|(refine sp ?_ ?_<;>refine fun h=>⟨?_⟩)|fail
      all_goals try omega
      conv => whnf
      rfl
    have hpt := prodZ_take hil
    obtain ⟨hp4, hp3, hp6⟩ := mulcap hp1 hp2 h1 h2 (cap_nonneg i) (cap_le (by omega))
    repeat' first|refine sW ⟨?_⟩|(refine sp ?_ ?_<;>refine fun h=>⟨?_⟩)|fail
    all_goals try omega
    refine ⟨i, _, rfl, g, ?_⟩
    repeat' first|refine sW ⟨?_⟩|(refine sp ?_ ?_<;>refine fun h=>⟨?_⟩)|fail
    all_goals try omega
    have hdi : dimOK l[i] = true := by simp [dimOK, h1, h2]
    exact ⟨[], l.length - (i + 1), rfl, by omega, i + 1, by omega, fun _ => h4, rfl, by rw [List.take_succ_eq_append_getElem hil, List.all_append, hd]; simp [hdi], by omega, by rw [hpt, cap_succ]; exact hp3,
      Eq.trans rfl (congrArg (fun z => (⟨[(0, .ro 1 (rowZ l)), (3, .int .i64 z), (6, .ro 1 (rowZ l)), (7, .int .i64 ((rowZ l).length : Nat)), (8, .int .i64 ((i + 1 : Nat) : Int))], []⟩ : St)) hpt.symm)⟩
  · repeat' first|refine sW ⟨?_⟩|(refine sp ?_ ?_<;>refine fun h=>⟨?_⟩)|fail
    all_goals try omega
    conv => whnf
    have h4 : l.length ≤ 4 := by
      rcases Nat.eq_zero_or_pos i with h | h
      · omega
      · exact h4i h
    rw [List.take_of_length_le (by omega)] at hd
    have ht : l.take i = l := List.take_of_length_le (by omega)
    refine congrArg AV.bool ?_
    rw [ht]
    simp [okShape, h4, hd]
end Go.V
namespace Go.V
open Go.N
variable (gl : Gl)
def T_IndexFuncS : Tab := [(34, i34), (9, i9), (3, i3)]
theorem TOK_IndexFuncS : TOK Go.Proofs.Tryz.prog T_IndexFuncS := ⟨K34, ⟨K9, ⟨K3, trivial⟩⟩⟩
def T_ContainsFuncS : Tab := [(34, i34), (9, i9), (56, i56), (3, i3)]
theorem TOK_ContainsFuncS : TOK Go.Proofs.Tryz.prog T_ContainsFuncS := ⟨K34, ⟨K9, ⟨K56, ⟨K3, trivial⟩⟩⟩⟩
def T_CloneI : Tab := [(33, i33), (3, i3)]
theorem TOK_CloneI : TOK Go.Proofs.Tryz.prog T_CloneI := ⟨K33, ⟨K3, trivial⟩⟩
theorem okShape_mid {l : List Int} (h : okShape l = true) (i : Nat) : 1 ≤ prodZ (l.take i) ∧ prodZ (l.take i) ≤ 64 := by
  have hd := okShape_dim h
  simp only [okShape, Bool.and_eq_true, decide_eq_true_eq] at h
  exact ⟨prodZ_pos _ 1 (fun d hd' => (hd d (List.mem_of_mem_take hd')).1) (Int.le_refl _), Int.le_trans (prodZ_le (fun d hd' => (hd d hd').1) i) h.2⟩
theorem okShape_len {l : List Int} (h : okShape l = true) : l.length ≤ 4 := by
  simp only [okShape, Bool.and_eq_true, decide_eq_true_eq] at h
  exact h.1.1
theorem c_r04_Size (l : List Int) (hok : okShape l = true) : VCall Go.Proofs.Tryz.prog gl 70 [.ro 1 (rowZ l)] (fun x => x = .int .i64 (prodZ l)) := by
  refine vcall_of TOK_r04_Size HM Go.Proofs.Tryz.func70 rfl (by decide +kernel) (by decide +kernel) rfl ?_
  have hl : (rowZ l).length = l.length := rowZ_length l
  have h4 := okShape_len hok
  repeat' first|refine sX ⟨?_⟩|(refine sp ?_ ?_<;>refine fun h=>⟨?_⟩)|fail
  refine ⟨[0, 3, 4], [], fun m st => ∃ i : Nat, i ≤ l.length ∧ m = l.length - i ∧
    st = ⟨[(0, .ro 1 (rowZ l)), (3, .int .i64 (prodZ (l.take i))), (4, .int .i64 (i : Nat))], []⟩, rfl, ⟨l.length, 0, by omega, rfl, rfl⟩, ?_⟩
  rintro m _ ⟨i, hi, hm, rfl⟩
  rcases Nat.lt_or_ge i l.length with hil | hge
  · have g := rowZ_get hil
    have hpt := prodZ_take hil
    obtain ⟨h1, h2⟩ := okShape_mid hok (i + 1)
    rw [hpt] at h1 h2
    repeat' first|refine sX ⟨?_⟩|(refine sp ?_ ?_<;>refine fun h=>⟨?_⟩)|fail
    all_goals try omega
    exact ⟨[], l.length - (i + 1), rfl, by omega, i + 1, by omega, rfl,
      Eq.trans rfl (congrArg (fun z => (⟨[(0, .ro 1 (rowZ l)), (3, .int .i64 z), (4, .int .i64 ((i + 1 : Nat) : Int))], []⟩ : St)) hpt.symm)⟩
  · repeat' first|refine sX ⟨?_⟩|(refine sp ?_ ?_<;>refine fun h=>⟨?_⟩)|fail
    all_goals try omega
    conv => whnf
    exact congrArg (AV.int .i64) (by rw [List.take_of_length_le (by omega)])
def sizeZ (l : List Int) : Int := if okShape l = true then prodZ l else 0
theorem c_shape_Size (l : List Int) (hll : l.length < 9000000000) : VCall Go.Proofs.Tryz.prog gl 116 [.ro 1 (rowZ l)] (fun x => x = .int .i64 (sizeZ l)) := by
  refine vcall_of TOK_shape_Size HM Go.Proofs.Tryz.func116 rfl (by decide +kernel) (by decide +kernel) rfl ?_
  have hl : (rowZ l).length = l.length := rowZ_length l
  have hc := c_shape_Right gl l hll
  cases hok : okShape l
  · rw [hok] at hc
    have e : sizeZ l = 0 := by simp [sizeZ, hok]
    repeat' first|refine sX ⟨?_⟩|(refine sp ?_ ?_<;>refine fun h=>⟨?_⟩)|fail
    conv => whnf
    refine .inl ⟨_, hc, ?_⟩
    rintro _ rfl
    repeat' first|refine sX ⟨?_⟩|(refine sp ?_ ?_<;>refine fun h=>⟨?_⟩)|fail
    conv => whnf
    exact congrArg (AV.int .i64) e.symm
  rw [hok] at hc
  have e : sizeZ l = prodZ l := by simp [sizeZ, hok]
  have h4 := okShape_len hok
  repeat' first|refine sX ⟨?_⟩|(refine sp ?_ ?_<;>refine fun h=>⟨?_⟩)|fail
  conv => whnf
  refine .inl ⟨_, hc, ?_⟩
  rintro _ rfl
  repeat' first|refine sX ⟨?_⟩|(refine sp ?_ ?_<;>refine fun h=>⟨?_⟩)|fail
  refine ⟨[3, 9, 10, 11], [], fun m st => ∃ i : Nat, i ≤ l.length ∧ m = l.length - i ∧
    st = ⟨[(3, .int .i64 (prodZ (l.take i))), (9, .ro 1 (rowZ l)), (10, .int .i64 ((rowZ l).length : Nat)), (11, .int .i64 (i : Nat))], []⟩, rfl, ⟨l.length, 0, by omega, rfl, rfl⟩, ?_⟩
  rintro m _ ⟨i, hi, hm, rfl⟩
  rcases Nat.lt_or_ge i l.length with hil | hge
  · have g := rowZ_get hil
    have hpt := prodZ_take hil
    obtain ⟨h1, h2⟩ := okShape_mid hok (i + 1)
    rw [hpt] at h1 h2
    repeat' first|refine sX ⟨?_⟩|(refine sp ?_ ?_<;>refine fun h=>⟨?_⟩)|fail
    all_goals try omega
    exact ⟨[], l.length - (i + 1), rfl, by omega, i + 1, by omega, rfl,
      Eq.trans rfl (congrArg (fun z => (⟨[(3, .int .i64 z), (9, .ro 1 (rowZ l)), (10, .int .i64 ((rowZ l).length : Nat)), (11, .int .i64 ((i + 1 : Nat) : Int))], []⟩ : St)) hpt.symm)⟩
  · repeat' first|refine sX ⟨?_⟩|(refine sp ?_ ?_<;>refine fun h=>⟨?_⟩)|fail
    all_goals try omega
    conv => whnf
    exact congrArg (AV.int .i64) (by rw [e, List.take_of_length_le (by omega)])
def rowS (l : List ByteArray) : List (List AV) := l.map fun x => [.str x]
@[simp] theorem rowS_length (l : List ByteArray) : (rowS l).length = l.length := by simp [rowS]
theorem rowS_get {l : List ByteArray} {k : Nat} (h : k < l.length) : (rowS l)[k]? = some [.str l[k]] := by simp [rowS, h]
theorem any_bad {α : Type} {l : List α} {p : α → Bool} {i : Nat} (h : i < l.length) (hp : p l[i] = true) : l.any p = true := List.any_eq_true.2 ⟨_, List.getElem_mem h, hp⟩
theorem any_snoc {α : Type} {l : List α} {p : α → Bool} {i : Nat} (h : i < l.length) (ha : (l.take i).any p = false) (hp : p l[i] = false) : (l.take (i + 1)).any p = false := by
  rw [List.take_succ_eq_append_getElem h, List.any_append, ha]; simp [hp]
theorem c_IndexFuncS (f : FuncId) (l : List ByteArray) (p : ByteArray → Bool) (hll : l.length < 9000000000) (hc : ∀ x ∈ l, VCall Go.Proofs.Tryz.prog gl f [.str x] (fun y => y = .bool (p x))) :
    VCall Go.Proofs.Tryz.prog gl 158 [.ro 1 (rowS l), .fn f []] (fun x => ∃ k : Int, x = .int .i64 k ∧ (0 ≤ k ↔ l.any p = true)) := by
  refine vcall_of TOK_IndexFuncS HM Go.Proofs.Tryz.func158 rfl (by decide +kernel) (by decide +kernel) rfl ?_
  have hl : (rowS l).length = l.length := rowS_length l
  repeat' first|refine sX ⟨?_⟩|(refine sp ?_ ?_<;>refine fun h=>⟨?_⟩)|fail
  refine ⟨[0, 1, 7, 8], [], fun m st => ∃ i : Nat, i ≤ l.length ∧ m = l.length - i ∧ (l.take i).any p = false ∧
    st = ⟨[(0, .ro 1 (rowS l)), (1, .fn f []), (7, .int .i64 ((rowS l).length : Nat)), (8, .int .i64 (i : Nat))], []⟩, rfl, ⟨l.length, 0, by omega, rfl, by simp, rfl⟩, ?_⟩
  rintro m _ ⟨i, hi, hm, ha, rfl⟩
  rcases Nat.lt_or_ge i l.length with hil | hge
  · have g := rowS_get hil
    have hci := hc l[i] (List.getElem_mem hil)
    cases hp : p l[i]
    · rw [hp] at hci
      repeat' first|refine sX ⟨?_⟩|(refine sp ?_ ?_<;>refine fun h=>⟨?_⟩)|fail
      all_goals try omega
      conv => whnf
      refine .inl ⟨_, hci, ?_⟩
      rintro _ rfl
      repeat' first|refine sX ⟨?_⟩|(refine sp ?_ ?_<;>refine fun h=>⟨?_⟩)|fail
      exact ⟨[], l.length - (i + 1), rfl, by omega, i + 1, by omega, rfl, any_snoc hil ha hp, rfl⟩
    · rw [hp] at hci
      repeat' first|refine sX ⟨?_⟩|(refine sp ?_ ?_<;>refine fun h=>⟨?_⟩)|fail
      all_goals try omega
      conv => whnf
      refine .inl ⟨_, hci, ?_⟩
      rintro _ rfl
      repeat' first|refine sX ⟨?_⟩|(refine sp ?_ ?_<;>refine fun h=>⟨?_⟩)|fail
      conv => whnf
      refine ⟨i, rfl, ?_⟩
      rw [any_bad hil hp]
      simp
  · repeat' first|refine sX ⟨?_⟩|(refine sp ?_ ?_<;>refine fun h=>⟨?_⟩)|fail
    all_goals try omega
    conv => whnf
    rw [List.take_of_length_le (by omega)] at ha
    exact ⟨-1, rfl, by rw [ha]; simp⟩
theorem c_ContainsFuncS (f : FuncId) (l : List ByteArray) (p : ByteArray → Bool) (hll : l.length < 9000000000) (hc : ∀ x ∈ l, VCall Go.Proofs.Tryz.prog gl f [.str x] (fun y => y = .bool (p x))) :
    VCall Go.Proofs.Tryz.prog gl 117 [.ro 1 (rowS l), .fn f []] (fun x => x = .bool (l.any p)) := by
  refine vcall_of TOK_ContainsFuncS HM Go.Proofs.Tryz.func117 rfl (by decide +kernel) (by decide +kernel) rfl ?_
  repeat' first|refine sX ⟨?_⟩|(refine sp ?_ ?_<;>refine fun h=>⟨?_⟩)|fail
  conv => whnf
  refine .inl ⟨_, c_IndexFuncS gl f l p hll hc, ?_⟩
  rintro _ ⟨k, rfl, hk⟩
  have e : l.any p = decide (0 ≤ k) := by rw [Bool.eq_iff_iff, decide_eq_true_eq, hk]
  repeat' first|refine sX ⟨?_⟩|(refine sp ?_ ?_<;>refine fun h=>⟨?_⟩)|fail
  conv => whnf
  exact congrArg AV.bool e.symm
theorem c_CloneI (l : List Int) (hll : l.length < 1000000) : VCall Go.Proofs.Tryz.prog gl 82 [.ro 1 (rowZ l)] (fun x => x = .fr 3 1 (rowZ l) ∨ (l = [] ∧ x = .nils)) := by
  refine vcall_of TOK_CloneI HM Go.Proofs.Tryz.func82 rfl (by decide +kernel) (by decide +kernel) rfl ?_
  have hlen : (rowZ l).length = l.length := rowZ_length l
  rcases l with _ | ⟨x, l⟩
  · repeat' first|refine sX ⟨?_⟩|(refine sp ?_ ?_<;>refine fun h=>⟨?_⟩)|fail
    conv => whnf
    refine ⟨?_, ?_⟩
    · repeat' first|refine sX ⟨?_⟩|(refine sp ?_ ?_<;>refine fun h=>⟨?_⟩)|fail
      conv => whnf
      exact .inr ⟨rfl, rfl⟩
    · repeat' first|refine sX ⟨?_⟩|(refine sp ?_ ?_<;>refine fun h=>⟨?_⟩)|fail
      conv => whnf
      refine ⟨Nat.le_refl _, Nat.le_of_ble_eq_true rfl, rowZ [], rfl, ?_⟩
      repeat' first|refine sX ⟨?_⟩|(refine sp ?_ ?_<;>refine fun h=>⟨?_⟩)|fail
      conv => whnf
      exact .inl rfl
  · repeat' first|refine sX ⟨?_⟩|(refine sp ?_ ?_<;>refine fun h=>⟨?_⟩)|fail
    conv => whnf
    refine ⟨Nat.le_refl _, (show (0 + (rowZ (x :: l)).length) * 8 ≤ _ by omega), rowZ (x :: l), rfl, ?_⟩
    repeat' first|refine sX ⟨?_⟩|(refine sp ?_ ?_<;>refine fun h=>⟨?_⟩)|fail
    conv => whnf
    exact .inl rfl
end Go.V
namespace Go.V
open Go.N
set_option maxRecDepth 20000
variable (gl : Gl)
def T_asciiC : Tab := [(243, i243), (4, i4)]
theorem TOK_asciiC : TOK Go.Proofs.Tryz.prog T_asciiC := ⟨K243, ⟨K4, trivial⟩⟩
def T_mkASCII : Tab := [(243, i243), (9, i9), (3, i3), (5, i5), (4, i4)]
theorem TOK_mkASCII : TOK Go.Proofs.Tryz.prog T_mkASCII := ⟨K243, ⟨K9, ⟨K3, ⟨K5, ⟨K4, trivial⟩⟩⟩⟩⟩
def inS (s : List UInt8) (c : UInt8) : Bool := s.any fun d => d.toNat == c.toNat
def setC (s : List UInt8) : List AV := (List.range 256).map fun b => .bool (s.any fun d => d.toNat == b)
theorem setC_length (s : List UInt8) : (setC s).length = 256 := by simp [setC]
theorem setC_drop (s : List UInt8) {j : Nat} (h : j < 256) : (setC s).drop j = .bool (s.any fun d => d.toNat == j) :: (setC s).drop (j + 1) := by
  rw [List.drop_eq_getElem_cons (by rw [setC_length]; exact h)]
  simp [setC]
theorem c_asciiC (s : List UInt8) (c : UInt8) : VCall Go.Proofs.Tryz.prog gl 223 [.rp (setC s), .int .u8 (c.toNat : Nat)] (fun x => x = .bool (inS s c)) := by
  refine vcall_of TOK_asciiC HM Go.Proofs.Tryz.func223 rfl (by decide +kernel) (by decide +kernel) rfl ?_
  have hc : c.toNat < 256 := c.toNat_lt
  have hd := setC_drop s hc
  repeat' first|refine sX ⟨?_⟩|((conv => whnf); split <;> (first | (rename_i u h; clear u) | rename_i h) <;> (try rewrite [h]) <;> (first | replace h := dt h | replace h := df h | replace h := Nt h | replace h := Nf h | skip))|fail
  all_goals (replace h := (show List.drop (c.toNat * 1) (setC s) = _ from h); rw [Nat.mul_one, hd] at h)
  all_goals first | (cases h; done) | skip
  all_goals (injection h with h1 h2)
  all_goals first | (cases h1; done) | skip
  injection h1 with h1
  subst h1
  repeat' first|refine sX ⟨?_⟩|(refine sp ?_ ?_<;>refine fun h=>⟨?_⟩)|fail
  conv => whnf
  exact rfl
theorem over_setC (s : List UInt8) (c : UInt8) : over (setC s) c.toNat [.bool true] = setC (s ++ [c]) := by
  have key : ∀ (n : Nat) (m : Nat) (f : Nat → AV) (k : Nat), k < n → over ((List.range' m n).map f) k [.bool true] = (List.range' m n).map fun b => if b = m + k then .bool true else f b := by
    intro n
    induction n with
    | zero => intro m f k h; omega
    | succ n ih =>
      intro m f k h
      rw [List.range'_succ, List.map_cons, List.map_cons]
      rcases k with _ | k
      · simp only [over, Nat.add_zero, if_true]
        refine congrArg (List.cons _) ?_
        have : ∀ x ∈ List.range' (m + 1) n, f x = if x = m then .bool true else f x := fun x hx => by
          have := (List.mem_range'_1.1 hx).1
          rw [if_neg (by omega)]
        exact List.map_congr_left this
      · simp only [over]
        rw [ih (m + 1) f k (by omega), if_neg (by omega)]
        congr 1
        refine List.map_congr_left fun x _ => ?_
        rw [show m + 1 + k = m + (k + 1) by omega]
  unfold setC
  rw [List.range_eq_range', key 256 0 _ _ c.toNat_lt]
  refine List.map_congr_left fun b _ => ?_
  rw [List.any_append]
  by_cases h : b = c.toNat
  · subst h; simp
  · rw [if_neg (by omega)]
    have : (c.toNat == b) = false := by simp; omega
    simp [this]
theorem over_full {l : List AV} {n : Nat} (h : l.length = n) : (over l 0 (l.take n)).take n = l := by
  have : ∀ l : List AV, over l 0 l = l := fun l => by
    induction l with
    | nil => rfl
    | cons x l ih => simp [over, ih]
  rw [List.take_of_length_le (i := n) (l := l) (by omega), this, List.take_of_length_le (by omega)]
theorem renL_bool (ps : List Nat) : ∀ l : List Bool, renL ps (l.map AV.bool) = l.map AV.bool
  | [] => by simp [renL]
  | b :: l => by simp [renL, ren, renL_bool ps l]
theorem renL_setC (ps : List Nat) (s : List UInt8) : renL ps (setC s) = setC s := by
  have : setC s = ((List.range 256).map fun b => s.any fun d => d.toNat == b).map AV.bool := by rw [List.map_map]; rfl
  rw [this, renL_bool]
theorem zero85 : TI.zero (Tab.ti T_mkASCII 243) = setC [] := by rfl
set_option maxHeartbeats 4000000 in
theorem c_mkASCII (s : ByteArray) (hs : s.size < 100000) (h128 : s.toList.all (fun c => decide (c.toNat < 128)) = true) : VCall Go.Proofs.Tryz.prog gl 213 [.str s] (fun x => x = .tup [.agg (setC s.toList), .bool true]) := by
  refine vcall_of TOK_mkASCII HM Go.Proofs.Tryz.func213 rfl (by decide +kernel) (by decide +kernel) rfl ?_
  have hl := Go.N.len_toList s
  repeat' first|refine sX ⟨?_⟩|(refine sp ?_ ?_<;>refine fun h=>⟨?_⟩)|fail
  refine ⟨[0, 2, 4], [0], fun m st => ∃ k : Nat, k ≤ s.size ∧ m = s.size - k ∧ st = ⟨[(0, .str s), (2, .bptr 0 0), (4, .int .i64 (k : Nat))], [.box 243 (setC (s.toList.take k))]⟩, rfl, ⟨s.size, 0, by omega, rfl, ?_⟩, ?_⟩
  · exact Eq.trans rfl (congrArg (fun z : List AV => (⟨[(0, .str s), (2, .bptr 0 0), (4, .int .i64 ((0 : Nat) : Int))], [.box 243 z]⟩ : St)) zero85)
  rintro m _ ⟨k, hk, hm, rfl⟩
  rcases Nat.lt_or_ge k s.size with hlt | hge
  · have hk2 : k < s.toList.length := by omega
    have hb : s.toList[k].toNat < 128 := by
      have := List.all_eq_true.1 h128 _ (List.getElem_mem hk2)
      simpa using this
    have e : renL [0] (over (setC (s.toList.take k)) (0 + s.toList[k].toNat * 1) [.bool true]) = setC (s.toList.take (k + 1)) := by
      rw [Nat.mul_one, Nat.zero_add, over_setC, List.take_succ_eq_append_getElem hk2, renL_setC]
    repeat' first|refine sX ⟨?_⟩|(refine sp ?_ ?_<;>refine fun h=>⟨?_⟩)|fail
    all_goals try omega
    · exact ⟨[0], s.size - (k + 1), rfl, by omega, k + 1, by omega, rfl, Eq.trans rfl (congrArg (fun z : List AV => (⟨[(0, .str s), (2, .bptr 0 0), (4, .int .i64 ((k + 1 : Nat) : Int))], [.box 243 z]⟩ : St)) e)⟩
    · exfalso
      have : (true && Nat.ble (0 + s.toList[k].toNat * 1 + 1) (setC (s.toList.take k)).length) = false := h
      rw [setC_length] at this
      have hb2 : Nat.ble (0 + s.toList[k].toNat * 1 + 1) 256 = true := Nat.ble_eq_true_of_le (by omega)
      rw [hb2] at this; cases this
  · rw [List.take_of_length_le (by omega)]
    repeat' first|refine sX ⟨?_⟩|(refine sp ?_ ?_<;>refine fun h=>⟨?_⟩)|fail
    all_goals try omega
    conv => whnf
    have e : (over (setC s.toList) 0 ((setC s.toList).take 256)).take 256 = setC s.toList := over_full (setC_length _)
    exact congrArg (fun z : List AV => AV.tup [.agg z, .bool true]) e
end Go.V
namespace Go.V
open Go.N
set_option maxRecDepth 20000
variable (gl : Gl)
def T_trimLA : Tab := [(9, i9), (3, i3), (247, i247), (5, i5), (4, i4)]
theorem TOK_trimLA : TOK Go.Proofs.Tryz.prog T_trimLA := ⟨K9, ⟨K3, ⟨K247, ⟨K5, ⟨K4, trivial⟩⟩⟩⟩⟩
def T_trimRA : Tab := [(9, i9), (3, i3), (247, i247), (5, i5), (4, i4)]
theorem TOK_trimRA : TOK Go.Proofs.Tryz.prog T_trimRA := ⟨K9, ⟨K3, ⟨K247, ⟨K5, ⟨K4, trivial⟩⟩⟩⟩⟩
def T_sTrim : Tab := [(9, i9), (3, i3), (5, i5), (243, i243), (247, i247)]
theorem TOK_sTrim : TOK Go.Proofs.Tryz.prog T_sTrim := ⟨K9, ⟨K3, ⟨K5, ⟨K243, ⟨K247, trivial⟩⟩⟩⟩⟩
def T_lexName : Tab := [(9, i9), (3, i3), (5, i5)]
theorem TOK_lexName : TOK Go.Proofs.Tryz.prog T_lexName := ⟨K9, ⟨K3, ⟨K5, trivial⟩⟩⟩
def T_r08_Name : Tab := [(9, i9), (3, i3), (5, i5), (4, i4)]
theorem TOK_r08_Name : TOK Go.Proofs.Tryz.prog T_r08_Name := ⟨K9, ⟨K3, ⟨K5, ⟨K4, trivial⟩⟩⟩⟩
theorem c_trimLA (s : ByteArray) (l : List UInt8) (hs : s.size < 1000000) : VCall Go.Proofs.Tryz.prog gl 214 [.str s, .rp (setC l)] (fun x => ∃ r, x = .str r ∧ r.toList = s.toList.dropWhile (inS l)) := by
  refine vcall_of TOK_trimLA HM Go.Proofs.Tryz.func214 rfl (by decide +kernel) (by decide +kernel) rfl ?_
  repeat' first|refine sX ⟨?_⟩|(refine sp ?_ ?_<;>refine fun h=>⟨?_⟩)|fail
  refine ⟨[0, 1], [], fun m st => ∃ r : ByteArray, m = r.size ∧ r.size ≤ s.size ∧ r.toList.dropWhile (inS l) = s.toList.dropWhile (inS l) ∧ st = ⟨[(0, .str r), (1, .rp (setC l))], []⟩, rfl, ⟨s.size, s, rfl, by omega, rfl, rfl⟩, ?_⟩
  rintro m _ ⟨r, hm, hrs, hr, rfl⟩
  have hl := Go.N.len_toList r
  rcases Nat.eq_zero_or_pos r.size with h0 | h0
  · have e0 : r.toList = [] := List.length_eq_zero_iff.1 (by omega)
    repeat' first|refine sX ⟨?_⟩|(refine sp ?_ ?_<;>refine fun h=>⟨?_⟩)|fail
    all_goals try omega
    conv => whnf
    exact ⟨r, rfl, by rw [← hr, e0]; rfl⟩
  · have h1 : 0 < r.toList.length := by omega
    obtain ⟨c, t, e⟩ := List.exists_cons_of_length_pos h1
    have hg : r.toList[0] = c := by simp [e]
    have hc := c_asciiC gl l r.toList[0]
    cases hp : inS l r.toList[0]
    · rw [hp] at hc
      repeat' first|refine sX ⟨?_⟩|(refine sp ?_ ?_<;>refine fun h=>⟨?_⟩)|fail
      all_goals try omega
      conv => whnf
      refine .inl ⟨_, hc, ?_⟩
      rintro _ rfl
      repeat' first|refine sX ⟨?_⟩|(refine sp ?_ ?_<;>refine fun h=>⟨?_⟩)|fail
      conv => whnf
      refine ⟨r, rfl, ?_⟩
      rw [hg] at hp
      rw [← hr, e, List.dropWhile_cons, if_neg (by simp [hp])]
    · rw [hp] at hc
      repeat' first|refine sX ⟨?_⟩|(refine sp ?_ ?_<;>refine fun h=>⟨?_⟩)|fail
      all_goals try omega
      conv => whnf
      refine .inl ⟨_, hc, ?_⟩
      rintro _ rfl
      repeat' first|refine sX ⟨?_⟩|(refine sp ?_ ?_<;>refine fun h=>⟨?_⟩)|fail
      have e2 : (r.extract (1 : Int).toNat ((r.size : Nat) : Int).toNat).toList = t := by
        rw [ext_toList, e]
        simp
        rw [List.take_of_length_le]
        have := congrArg List.length e
        simp at this; omega
      refine ⟨[], _, rfl, ?_, _, rfl, ?_, ?_, rfl⟩
      · rw [← Go.N.len_toList, e2]
        have := congrArg List.length e
        simp at this; omega
      · rw [← Go.N.len_toList, e2]
        have := congrArg List.length e
        simp at this; omega
      · rw [e2, ← hr, e, List.dropWhile_cons, if_pos (by rw [← hg]; exact hp)]
theorem c_trimRA (s : ByteArray) (l : List UInt8) (hs : s.size < 1000000) : VCall Go.Proofs.Tryz.prog gl 215 [.str s, .rp (setC l)] (fun x => ∃ r, x = .str r ∧ r.toList = (s.toList.reverse.dropWhile (inS l)).reverse) := by
  refine vcall_of TOK_trimRA HM Go.Proofs.Tryz.func215 rfl (by decide +kernel) (by decide +kernel) rfl ?_
  repeat' first|refine sX ⟨?_⟩|(refine sp ?_ ?_<;>refine fun h=>⟨?_⟩)|fail
  refine ⟨[0, 1], [], fun m st => ∃ r : ByteArray, m = r.size ∧ r.size ≤ s.size ∧ r.toList.reverse.dropWhile (inS l) = s.toList.reverse.dropWhile (inS l) ∧ st = ⟨[(0, .str r), (1, .rp (setC l))], []⟩, rfl, ⟨s.size, s, rfl, by omega, rfl, rfl⟩, ?_⟩
  rintro m _ ⟨r, hm, hrs, hr, rfl⟩
  have hl := Go.N.len_toList r
  rcases Nat.eq_zero_or_pos r.size with h0 | h0
  · have e0 : r.toList = [] := List.length_eq_zero_iff.1 (by omega)
    repeat' first|refine sX ⟨?_⟩|(refine sp ?_ ?_<;>refine fun h=>⟨?_⟩)|fail
    all_goals try omega
    conv => whnf
    exact ⟨r, rfl, by rw [← hr, e0]; rfl⟩
  · have h1 : ((r.size : Int) - 1).toNat < r.toList.length := by omega
    have h2 : r.toList ≠ [] := fun h => by rw [h] at h1; simp at h1
    have e := List.dropLast_concat_getLast h2
    have hg : r.toList[((r.size : Int) - 1).toNat] = r.toList.getLast h2 := by
      rw [List.getLast_eq_getElem]; congr 1; omega
    have hc := c_asciiC gl l r.toList[((r.size : Int) - 1).toNat]
    have er : r.toList.reverse = r.toList.getLast h2 :: r.toList.dropLast.reverse := by
      conv => lhs; rw [← e]
      simp
    cases hp : inS l r.toList[((r.size : Int) - 1).toNat]
    · rw [hp] at hc
      repeat' first|refine sX ⟨?_⟩|(refine sp ?_ ?_<;>refine fun h=>⟨?_⟩)|fail
      all_goals try omega
      conv => whnf
      refine .inl ⟨_, hc, ?_⟩
      rintro _ rfl
      repeat' first|refine sX ⟨?_⟩|(refine sp ?_ ?_<;>refine fun h=>⟨?_⟩)|fail
      conv => whnf
      refine ⟨r, rfl, ?_⟩
      rw [hg] at hp
      rw [← hr, er, List.dropWhile_cons, if_neg (by simp [hp]), ← er, List.reverse_reverse]
    · rw [hp] at hc
      repeat' first|refine sX ⟨?_⟩|(refine sp ?_ ?_<;>refine fun h=>⟨?_⟩)|fail
      all_goals try omega
      conv => whnf
      refine .inl ⟨_, hc, ?_⟩
      rintro _ rfl
      repeat' first|refine sX ⟨?_⟩|(refine sp ?_ ?_<;>refine fun h=>⟨?_⟩)|fail
      have e2 : (r.extract (0 : Int).toNat ((r.size : Int) - 1).toNat).toList = r.toList.dropLast := by
        rw [ext_toList, List.dropLast_eq_take, show ((r.size : Int) - 1).toNat = r.toList.length - 1 by omega]
        simp
      have e3 := congrArg List.length e2
      rw [List.length_dropLast, Go.N.len_toList] at e3
      refine ⟨[], _, rfl, ?_, _, rfl, ?_, ?_, rfl⟩
      · omega
      · omega
      · rw [e2, ← hr, er, List.dropWhile_cons, if_pos (by rw [← hg]; exact hp)]
def cutS : ByteArray := ⟨#[97, 98, 99, 100, 101, 102, 103, 104, 105, 106, 107, 108, 109, 110, 111, 112, 113, 114, 115, 116, 117, 118, 119, 120, 121, 122, 48, 49, 50, 51, 52, 53, 54, 55, 56, 57]⟩
theorem cutS_list : cutS.toList = [97, 98, 99, 100, 101, 102, 103, 104, 105, 106, 107, 108, 109, 110, 111, 112, 113, 114, 115, 116, 117, 118, 119, 120, 121, 122, 48, 49, 50, 51, 52, 53, 54, 55, 56, 57] := by rw [ByteArray.toList_eq]; rfl
def nameC (c : UInt8) : Bool := decide (97 ≤ c.toNat ∧ c.toNat ≤ 122) || decide (48 ≤ c.toNat ∧ c.toNat ≤ 57)
theorem inS_cut (c : UInt8) : inS cutS.toList c = nameC c := by
  rw [cutS_list]
  have : ∀ n : Fin 256, inS [97, 98, 99, 100, 101, 102, 103, 104, 105, 106, 107, 108, 109, 110, 111, 112, 113, 114, 115, 116, 117, 118, 119, 120, 121, 122, 48, 49, 50, 51, 52, 53, 54, 55, 56, 57] ⟨⟨n⟩⟩ = nameC ⟨⟨n⟩⟩ := by decide +kernel
  exact this c.toBitVec.toFin
theorem dw_nil {α : Type} {p : α → Bool} : ∀ {l : List α}, l.dropWhile p = [] ↔ ∀ x ∈ l, p x = true
  | [] => by simp
  | a :: t => by
    rw [List.dropWhile_cons]
    by_cases h : p a = true
    · rw [if_pos h, dw_nil]; simp [h]
    · rw [if_neg h]; simp [h]
theorem trim_nil {α : Type} (p : α → Bool) (l : List α) : (l.reverse.dropWhile p).reverse.dropWhile p = [] ↔ l.all p = true := by
  rw [dw_nil, List.all_eq_true]
  constructor
  · intro h
    have h1 : l.reverse.dropWhile p = [] := by
      cases hd : l.reverse.dropWhile p with
      | nil => rfl
      | cons a t =>
        have ha : p a = false := by
          have := List.head_dropWhile_not p (l := l.reverse) (by rw [hd]; simp)
          simpa [hd] using this
        have := h a (by rw [hd]; simp)
        rw [ha] at this; cases this
    rw [dw_nil] at h1
    intro x hx
    exact h1 x (by simpa using hx)
  · intro h x hx
    refine h x ?_
    rw [List.mem_reverse] at hx
    have := (List.dropWhile_suffix p).subset hx
    simpa using this
set_option maxHeartbeats 4000000 in
theorem c_sTrim (s : ByteArray) (hs : s.size < 1000000) (h0 : s.size ≠ 0) : VCall Go.Proofs.Tryz.prog gl 196 [.str s, .str cutS] (fun x => ∃ r, x = .str r ∧ (r = ⟨#[]⟩ ↔ s.toList.all nameC = true)) := by
  refine vcall_of TOK_sTrim HM Go.Proofs.Tryz.func196 rfl (by decide +kernel) (by decide +kernel) rfl ?_
  have hne : ¬ s = ⟨#[]⟩ := fun e => h0 (by rw [e]; rfl)
  have hmk := c_mkASCII gl cutS (by decide) (by rw [cutS_list]; decide)
  repeat' first|refine sX ⟨?_⟩|(refine sp ?_ ?_<;>refine fun h=>⟨?_⟩)|fail
  all_goals first | exact absurd (by assumption) hne | skip
  conv => whnf
  refine .inl ⟨_, hmk, ?_⟩
  rintro _ rfl
  repeat' first|refine sX ⟨?_⟩|(refine sp ?_ ?_<;>refine fun h=>⟨?_⟩)|fail
  conv => whnf
  refine .inl ⟨_, c_trimRA gl s cutS.toList hs, ?_⟩
  rintro _ ⟨r, rfl, hr⟩
  repeat' first|refine sX ⟨?_⟩|(refine sp ?_ ?_<;>refine fun h=>⟨?_⟩)|fail
  have hrs : r.size ≤ s.size := by
    have := congrArg List.length hr
    rw [List.length_reverse, Go.N.len_toList] at this
    have h2 := (List.dropWhile_suffix (inS cutS.toList) (l := s.toList.reverse)).length_le
    rw [List.length_reverse, Go.N.len_toList] at h2
    omega
  conv => whnf
  refine .inl ⟨_, c_trimLA gl r cutS.toList (by omega), ?_⟩
  rintro _ ⟨q, rfl, hq⟩
  repeat' first|refine sX ⟨?_⟩|(refine sp ?_ ?_<;>refine fun h=>⟨?_⟩)|fail
  conv => whnf
  refine ⟨q, rfl, ?_⟩
  have e : inS cutS.toList = nameC := funext inS_cut
  rw [hr, e] at hq
  rw [← trim_nil, ← hq]
  constructor
  · intro h; rw [h, ByteArray.toList_eq]
  · intro h; refine toList_inj ?_; rw [h, ByteArray.toList_eq]
end Go.V
namespace Go.V
open Go.N
def T_r01_Right : Tab := [(9, i9), (3, i3), (5, i5)]
theorem TOK_r01_Right : TOK Go.Proofs.Tryz.prog T_r01_Right := ⟨K9, ⟨K3, ⟨K5, trivial⟩⟩⟩
theorem c_r01_Right (s : ByteArray) (gl : Gl) (hs : s.size < 9000000000) : VCall Go.Proofs.Tryz.prog gl 127 [.str s] (fun x => x = .bool (isNat s.toList)) := by
  refine vcall_of TOK_r01_Right HM Go.Proofs.Tryz.func127 rfl (by decide +kernel) (by decide +kernel) rfl ?_
  have hl := Go.N.len_toList s
  conv => whnf
  refine ⟨[0, 3], [], fun m st => ∃ k : Nat, k ≤ s.size ∧ m = s.size - k ∧ (s.toList.take k).all isDig = true ∧ st = ⟨[(0, .str s), (3, .int .i64 k)], []⟩, rfl, ⟨s.size, 0, by simp, rfl, rfl, rfl⟩, ?_⟩
  rintro m _ ⟨k, hk, hm, hd, rfl⟩
  repeat' first|refine sW ⟨?_⟩|(refine sp ?_ ?_<;>refine fun h=>⟨?_⟩)|fail
  all_goals (conv => whnf)
  · refine congrArg AV.bool (Eq.symm ?_)
    refine isNat_bad (List.getElem_mem (n := k) (by omega)) ?_
    simp only [isDig, Bool.and_eq_false_iff, decide_eq_false_iff_not]; omega
  · refine congrArg AV.bool (Eq.symm ?_)
    refine isNat_bad (List.getElem_mem (n := k) (by omega)) ?_
    simp only [isDig, Bool.and_eq_false_iff, decide_eq_false_iff_not]; omega
  · refine ⟨[], s.size - (k + 1), rfl, by omega, k + 1, by omega, rfl, ?_, rfl⟩
    rw [List.take_add_one, List.all_append, hd, List.getElem?_eq_getElem (by omega)]
    simp only [Option.toList_some, List.all_cons, List.all_nil, isDig, Bool.and_true, Bool.true_and, Bool.and_eq_true, decide_eq_true_eq]; omega
  · refine congrArg AV.bool (Eq.symm ?_)
    rw [List.take_of_length_le (by omega)] at hd
    simp only [isNat, hd, Bool.true_and, Bool.or_eq_true, decide_eq_true_eq]; omega
  · rw [List.take_of_length_le (by omega)] at hd
    refine congrArg AV.bool ?_
    have hne : (s.toList[0]? = some 48) ↔ ((s.toList[0]'(by omega)).toNat : Int) = 48 := by
      rw [List.getElem?_eq_getElem (by omega), Option.some.injEq, ← UInt8.toNat_inj]
      simp; omega
    have h1 : ¬ s.toList.length = 1 := by omega
    have h2 : 1 < s.toList.length := by omega
    simp only [isNat, hd, Bool.true_and, h1, h2, decide_false, Bool.false_or, decide_true, hne]
  · refine congrArg AV.bool (Eq.symm ?_)
    have h1 : ¬ s.toList.length = 1 := by omega
    have h2 : ¬ 1 < s.toList.length := by omega
    simp [isNat, h1, h2]
end Go.V
namespace Go.V
open Go.N
variable (gl : Gl)
def T_r01_Plain : Tab := [(9, i9), (3, i3), (5, i5)]
theorem TOK_r01_Plain : TOK Go.Proofs.Tryz.prog T_r01_Plain := ⟨K9, ⟨K3, ⟨K5, trivial⟩⟩⟩
def T_r01_digit : Tab := [(9, i9), (3, i3), (5, i5)]
theorem TOK_r01_digit : TOK Go.Proofs.Tryz.prog T_r01_digit := ⟨K9, ⟨K3, ⟨K5, trivial⟩⟩⟩
def T_r01_of : Tab := [(33, i33), (3, i3), (5, i5), (214, i214), (9, i9)]
theorem TOK_r01_of : TOK Go.Proofs.Tryz.prog T_r01_of := ⟨K33, ⟨K3, ⟨K5, ⟨K214, ⟨K9, trivial⟩⟩⟩⟩⟩
def T_r01_Compare : Tab := [(9, i9), (3, i3)]
theorem TOK_r01_Compare : TOK Go.Proofs.Tryz.prog T_r01_Compare := ⟨K9, ⟨K3, trivial⟩⟩
theorem c_r01_Plain (s : ByteArray) (hd : s.toList.all isDig = true) (hs : s.size < 9000000000) : VCall Go.Proofs.Tryz.prog gl 197 [.str s] (fun x => x = .str (decB (dval s.toList))) := by
  refine vcall_of TOK_r01_Plain HM Go.Proofs.Tryz.func197 rfl (by decide +kernel) (by decide +kernel) rfl ?_
  conv => whnf
  refine ⟨[0], [], fun m st => ∃ s' : ByteArray, s'.size ≤ s.size ∧ m = s'.size ∧ s'.toList.all isDig = true ∧ dval s'.toList = dval s.toList ∧ st = ⟨[(0, .str s')], []⟩, rfl, ⟨s.size, s, by omega, rfl, hd, rfl, rfl⟩, ?_⟩
  rintro m _ ⟨t, ht, hm, htd, hv, rfl⟩
  have hl := Go.N.len_toList t
  have fin : t.toList ≠ [] → (t.toList.length = 1 ∨ t.toList[0]? ≠ some 48) → AV.str t = AV.str (decB (dval s.toList)) := fun h1 h2 => by
    rw [← hv, ← of_isNat (isNat_of htd h1 h2)]
  have fin0 : t.toList = [] → AV.str ⟨#[48]⟩ = AV.str (decB (dval s.toList)) := fun h1 => by
    rw [← hv, h1, zero_decB]; rfl
  repeat' first|refine sW ⟨?_⟩|(refine sp ?_ ?_<;>refine fun h=>⟨?_⟩)|fail
  all_goals (conv => whnf)
  · have hlt : t.size - 1 < t.size := by omega
    have e : (t.extract 1 t.size).toList = t.toList.drop 1 := by
      rw [ext_toList, List.take_of_length_le (by simp; omega)]
    have hc : t.toList = t.toList[0] :: t.toList.drop 1 := by rw [List.getElem_cons_drop]; simp
    have h0 : t.toList[0] = 48 := UInt8.toNat_inj.1 (by simp; omega)
    refine ⟨[], t.size - 1, rfl, by omega, t.extract 1 t.size, ?_, ?_, ?_, ?_, rfl⟩
    · simp; omega
    · simp
    · rw [e]
      rw [hc, List.all_cons, Bool.and_eq_true] at htd; exact htd.2
    · rw [e, ← hv]
      conv => rhs; rw [hc, dval_cons, h0]
      simp
  · exact fin0 (size_empty h)
  · refine fin (fun e => ?_) (.inr fun e => ?_)
    · rw [e] at hl; simp at hl; omega
    · rw [List.getElem?_eq_getElem (by omega), Option.some.injEq] at e
      rename_i h1
      exact h1 (by rw [e]; rfl)
  · exact fin0 (size_empty h)
  · refine fin (fun e => h (toList_inj (by rw [e, ByteArray.toList_eq]))) (.inl ?_)
    have : t.toList.length ≠ 0 := fun e => h (toList_inj (by rw [List.eq_nil_of_length_eq_zero e, ByteArray.toList_eq]))
    omega
theorem c_r01_digit (n i : Nat) (hn : (dec n).length < 9000000000) (hi : i < 9000000000) : VCall Go.Proofs.Tryz.prog gl 198 [.str (decB n), .int .i64 i] (fun x => x = .int .i64 (dig n i)) := by
  refine vcall_of TOK_r01_digit HM Go.Proofs.Tryz.func198 rfl (by decide +kernel) (by decide +kernel) rfl ?_
  have hz := decB_size n
  repeat' first|refine sW ⟨?_⟩|(refine sp ?_ ?_<;>refine fun h=>⟨?_⟩)|fail
  all_goals (conv => whnf)
  · refine congrArg (AV.int .i64) ?_
    rw [dig_ge (by omega)]; rfl
  · have h1 := dec_getR n i (by omega)
    have h2 := dig_lt n i
    refine ⟨(dec n).length - 1 - i, dg (dig n i), by omega, by rw [decB_toList]; exact h1, ?_⟩
    have e := dg_toNat h2
    generalize dg (dig n i) = c at e
    have e' : (c.toNat : Int) = 48 + (dig n i : Nat) := by omega
    repeat' first|refine sW ⟨?_⟩|(refine sp ?_ ?_<;>refine fun h=>⟨?_⟩)|fail
    all_goals (conv => whnf)
    refine congrArg (AV.int .i64) ?_
    omega
theorem c_r01_Compare (m n : Nat) (hn : (dec n).length < 9000000000) (hm : (dec m).length < 9000000000) : VCall Go.Proofs.Tryz.prog gl 169 [.str (decB m), .str (decB n)] (fun x => x = .int .i64 (cmpN m n)) := by
  refine vcall_of TOK_r01_Compare HM Go.Proofs.Tryz.func169 rfl (by decide +kernel) (by decide +kernel) rfl ?_
  have hl := decB_size n
  have hl2 := decB_size m
  have key : (dec m).length = (dec n).length → (Op.bytesLess (decB m).toList (decB n).toList = true ↔ m < n) := fun e => by
    have := bytesLess_dval (dec m) (dec n) (dec_dig m) (dec_dig n) e
    rwa [dval_dec, dval_dec, ← decB_toList m, ← decB_toList n] at this
  repeat' first|refine sW ⟨?_⟩|(refine sp ?_ ?_<;>refine fun h=>⟨?_⟩)|fail
  all_goals (conv => whnf)
  all_goals refine congrArg (AV.int .i64) (Eq.symm ?_)
  · exact cmpN_lt (dec_len_lt_of (by omega))
  · exact cmpN_gt (dec_len_lt_of (by omega))
  · exact cmpN_lt ((key (by omega)).1 h)
  · have h1 : (dec m).length = (dec n).length := by omega
    have k := key h1
    rename_i h2
    rw [h2, Bool.false_or] at h
    have hne : ¬ m = n := fun e => by subst e; simp at h
    have : ¬ m < n := fun hh => by rw [k.2 hh] at h2; cases h2
    exact cmpN_gt (by omega)
  · have h1 : (dec m).length = (dec n).length := by omega
    rename_i h2
    rw [h2, Bool.false_or] at h
    have e : (decB m).toList = (decB n).toList := by simpa using h
    rw [decB_toList, decB_toList] at e
    exact cmpN_eq (dec_inj e.symm)
end Go.V
namespace Go.V
open Go.N
variable (gl : Gl)
theorem c_r01_of (L : List Nat) (hL : ∀ x ∈ L, x < 10) (hn : L.length < 9000000000) : VCall Go.Proofs.Tryz.prog gl 199 [.ro 1 (ints L)] (fun x => x = .str (decB (lsum L))) := by
  refine vcall_of TOK_r01_of HM Go.Proofs.Tryz.func199 rfl (by decide +kernel) (by decide +kernel) rfl ?_
  have hll : (ints L).length = L.length := by simp [ints]
  repeat' first|refine sW ⟨?_⟩|(refine sp ?_ ?_<;>refine fun h=>⟨?_⟩)|fail
  refine ⟨[0, 3, 4], [], fun m st => ∃ j : Nat, j ≤ L.length ∧ m = j ∧ ((j = L.length ∧ st = ⟨[(0, .ro 1 (ints L)), (3, .nils), (4, .int .i64 ((j : Int) - 1))], []⟩) ∨
    ∃ bl : List Nat, bl = ((L.drop j).reverse).map (48 + ·) ∧ bl ≠ [] ∧ st = ⟨[(0, .ro 1 (ints L)), (3, .own 0 0 (byts bl).length), (4, .int .i64 ((j : Int) - 1))], [.row false 5 1 (byts bl)]⟩), rfl, ⟨L.length, L.length, Nat.le_refl _, rfl, .inl ⟨rfl, ?_⟩⟩, ?_⟩
  · show (⟨[_, _, (4, .int .i64 (((ints L).length : Int) - 1))], []⟩ : St) = _
    rw [hll]; rfl
  have fin : ∀ bl : List Nat, bl = L.reverse.map (48 + ·) → ∀ s, s = sN (bl.map fun (x : Nat) => (x : Int)) → AV.str (decB (dval s.toList)) = AV.str (decB (lsum L)) ∧ s.toList.all isDig = true ∧ s.size = L.length := fun bl hb s hs => by
    have e : s.toList = L.reverse.map dg := by
      subst hb hs
      exact sN_digits _ (by simpa using hL)
    refine ⟨by rw [e, dval_rev L hL], by rw [e]; exact rev_dig hL, ?_⟩
    rw [← Go.N.len_toList, e]; simp
  have step : ∀ (q : Nat) (hq : q < L.length), ((L.drop (q + 1)).reverse).map (48 + ·) ++ [48 + L[q]] = ((L.drop q).reverse).map (48 + ·) := fun q hq => by
    rw [List.drop_eq_getElem_cons hq, List.reverse_cons, List.map_append]; rfl
  rintro m _ ⟨j, hj, hm, ⟨rfl, rfl⟩ | ⟨bl, hb, hb2, rfl⟩⟩
  · rcases hq : L.length with _ | q
    · repeat' first|refine sW ⟨?_⟩|(refine sp ?_ ?_<;>refine fun h=>⟨?_⟩)|fail
      have hL0 := List.eq_nil_of_length_eq_zero hq
      refine ⟨[], rfl, ?_⟩
      repeat' first|refine sW ⟨?_⟩|(refine sp ?_ ?_<;>refine fun h=>⟨?_⟩)|fail
      obtain ⟨f1, f2, f3⟩ := fin [] (by rw [hL0]; rfl) (sN []) rfl
      refine .inl ⟨_, c_r01_Plain gl _ f2 (by omega), ?_⟩
      rintro _ rfl
      repeat' first|refine sW ⟨?_⟩|(refine sp ?_ ?_<;>refine fun h=>⟨?_⟩)|fail
      exact f1
    · rw [show ((q + 1 : Nat) : Int) - 1 = q by omega]
      have hd := hL L[q] (List.getElem_mem (by omega))
      repeat' first|refine sW ⟨?_⟩|(refine sp ?_ ?_<;>refine fun h=>⟨?_⟩)|fail
      refine ⟨Nat.le_of_ble_eq_true rfl, List.cons_ne_nil _ _, ?_⟩
      repeat' first|refine sW ⟨?_⟩|(refine sp ?_ ?_<;>refine fun h=>⟨?_⟩)|fail
      refine ⟨[1], q, rfl, by omega, q, by omega, rfl, .inr ⟨[48 + L[q]], ?_, by simp, ?_⟩⟩
      · rw [← step q (by omega), List.drop_of_length_le (by omega)]; rfl
      · rfl
  · have hbl : bl.length ≤ L.length := by rw [hb]; simp
    rcases j with _ | q
    · repeat' first|refine sW ⟨?_⟩|(refine sp ?_ ?_<;>refine fun h=>⟨?_⟩)|fail
      refine ⟨_, byts_str2 bl, ?_⟩
      repeat' first|refine sW ⟨?_⟩|(refine sp ?_ ?_<;>refine fun h=>⟨?_⟩)|fail
      obtain ⟨f1, f2, f3⟩ := fin bl (by rw [hb]; simp) _ rfl
      refine .inl ⟨_, c_r01_Plain gl _ f2 (by omega), ?_⟩
      rintro _ rfl
      repeat' first|refine sW ⟨?_⟩|(refine sp ?_ ?_<;>refine fun h=>⟨?_⟩)|fail
      exact f1
    · rw [show ((q + 1 : Nat) : Int) - 1 = q by omega]
      have hd := hL L[q] (List.getElem_mem (by omega))
      repeat' first|refine sW ⟨?_⟩|(refine sp ?_ ?_<;>refine fun h=>⟨?_⟩)|fail
      refine ⟨Nat.le_refl _, (show (_ + 1) * 1 ≤ _ by simp; omega), _, byts_snoc bl (48 + L[q]), ?_⟩
      repeat' first|refine sW ⟨?_⟩|(refine sp ?_ ?_<;>refine fun h=>⟨?_⟩)|fail
      refine ⟨[2], q, rfl, by omega, q, by omega, rfl, .inr ⟨bl ++ [48 + L[q]], ?_, by simp, ?_⟩⟩
      · rw [hb]; exact step q (by omega)
      · rfl
end Go.V
namespace Go.V
open Go.N
variable (gl : Gl)
def T_r01_Sub : Tab := [(9, i9), (3, i3), (33, i33)]
theorem TOK_r01_Sub : TOK Go.Proofs.Tryz.prog T_r01_Sub := ⟨K9, ⟨K3, ⟨K33, trivial⟩⟩⟩
set_option maxHeartbeats 2000000 in
theorem c_r01_Sub (m n : Nat) (hmn : n ≤ m) (hn : (dec m).length < 2000000) : VCall Go.Proofs.Tryz.prog gl 170 [.str (decB m), .str (decB n)] (fun x => x = .str (decB (m - n))) := by
  refine vcall_of TOK_r01_Sub HM Go.Proofs.Tryz.func170 rfl (by decide +kernel) (by decide +kernel) rfl ?_
  have hz := decB_size m
  have hz2 : (dec n).length ≤ (dec m).length := by
    by_cases h : (dec m).length < (dec n).length
    · have := dec_len_lt_of h; omega
    · omega
  repeat' first|refine sW ⟨?_⟩|(refine sp ?_ ?_<;>refine fun h=>⟨?_⟩)|fail
  refine ⟨[0, 1, 5, 6, 7], [], fun k st => ∃ (i : Nat) (L : List Nat) (c : Nat), i ≤ (dec m).length ∧ k = (dec m).length - i ∧ L.length = i ∧ (∀ x ∈ L, x < 10) ∧ c ≤ 1 ∧ m % 10 ^ i + c * 10 ^ i = n % 10 ^ i + lsum L ∧
    ((i = 0 ∧ L = [] ∧ st = ⟨[(0, .str (decB m)), (1, .str (decB n)), (5, .nils), (6, .int .i64 (c : Nat)), (7, .int .i64 (i : Nat))], []⟩) ∨
    (st = ⟨[(0, .str (decB m)), (1, .str (decB n)), (5, .own 0 0 (ints L).length), (6, .int .i64 (c : Nat)), (7, .int .i64 (i : Nat))], [.row false 3 1 (ints L)]⟩)), rfl,
    ⟨(dec m).length, 0, [], 0, by omega, rfl, rfl, by simp, by omega, by simp [lsum, Nat.mod_one], .inl ⟨rfl, rfl, rfl⟩⟩, ?_⟩
  rintro k _ ⟨i, L, c, hi, hk, hLi, hL, hc, hs, ⟨hi0, hL0, rfl⟩ | rfl⟩
  · repeat' first|refine sW ⟨?_⟩|(refine sp ?_ ?_<;>refine fun h=>⟨?_⟩)|fail
    refine .inl ⟨_, c_r01_digit gl m i (by omega) (by omega), ?_⟩
    rintro _ rfl
    repeat' first|refine sW ⟨?_⟩|(refine sp ?_ ?_<;>refine fun h=>⟨?_⟩)|fail
    refine .inl ⟨_, c_r01_digit gl n i (by omega) (by omega), ?_⟩
    rintro _ rfl
    have h1 := dig_lt m i
    have h2 := dig_lt n i
    have s1 := mod_succ m i
    have s2 := mod_succ n i
    have hp : 10 ^ (i + 1) = 10 ^ i * 10 := Nat.pow_succ ..
    have la : ∀ x, lsum (L ++ [x]) = lsum L + 10 ^ i * x := fun x => by rw [lsum_append, hLi]
    have ld : ∀ x, x < 10 → ∀ y ∈ L ++ [x], y < 10 := fun x hx y hy => by
      simp only [List.mem_append, List.mem_singleton] at hy
      rcases hy with hy | rfl
      · exact hL y hy
      · exact hx
    have fin : dig m i < dig n i + c → m % 10 ^ (i + 1) + 1 * 10 ^ (i + 1) = n % 10 ^ (i + 1) + lsum (L ++ [dig m i + 10 - dig n i - c]) := fun h => by
      rw [s1, s2, hp, la]
      have : 10 ^ i * (dig m i + 10 - dig n i - c) + 10 ^ i * dig n i + c * 10 ^ i = 10 ^ i * dig m i + 10 ^ i * 10 := by
        rw [Nat.mul_comm c, ← Nat.mul_add, ← Nat.mul_add, ← Nat.mul_add]; congr 1; omega
      omega
    have fin2 : ¬ dig m i < dig n i + c → m % 10 ^ (i + 1) + 0 * 10 ^ (i + 1) = n % 10 ^ (i + 1) + lsum (L ++ [dig m i - dig n i - c]) := fun h => by
      rw [s1, s2, la]
      have : 10 ^ i * (dig m i - dig n i - c) + 10 ^ i * dig n i + c * 10 ^ i = 10 ^ i * dig m i := by
        rw [Nat.mul_comm c, ← Nat.mul_add, ← Nat.mul_add]; congr 1; omega
      omega
    repeat' first|refine sW ⟨?_⟩|(refine sp ?_ ?_<;>refine fun h=>⟨?_⟩)|fail
    · conv => whnf
      refine ⟨Nat.le_of_ble_eq_true rfl, List.cons_ne_nil _ _, ?_⟩
      repeat' first|refine sW ⟨?_⟩|(refine sp ?_ ?_<;>refine fun h=>⟨?_⟩)|fail
      refine ⟨[1], (dec m).length - (i + 1), rfl, by omega, i + 1, _, 1, by omega, rfl, by simp [hLi], ld _ (by omega), by omega, fin (by omega), .inr ?_⟩
      have he : ints (L ++ [dig m i + 10 - dig n i - c]) = [[.int .i64 ((dig m i : Int) - (dig n i : Nat) - (c : Nat) + 10)]] := by rw [hL0]; exact ints_one _ (by omega)
      exact Eq.trans rfl (congrArg (fun r : List (List AV) => (⟨[(0, .str (decB m)), (1, .str (decB n)), (5, .own 0 0 r.length), (6, .int .i64 ((1 : Nat) : Int)), (7, .int .i64 ((i + 1 : Nat) : Int))], [.row false 3 1 r]⟩ : St)) he.symm)
    · conv => whnf
      refine ⟨Nat.le_of_ble_eq_true rfl, List.cons_ne_nil _ _, ?_⟩
      repeat' first|refine sW ⟨?_⟩|(refine sp ?_ ?_<;>refine fun h=>⟨?_⟩)|fail
      refine ⟨[1], (dec m).length - (i + 1), rfl, by omega, i + 1, _, 0, by omega, rfl, by simp [hLi], ld _ (by omega), by omega, fin2 (by omega), .inr ?_⟩
      have he : ints (L ++ [dig m i - dig n i - c]) = [[.int .i64 ((dig m i : Int) - (dig n i : Nat) - (c : Nat))]] := by rw [hL0]; exact ints_one _ (by omega)
      exact Eq.trans rfl (congrArg (fun r : List (List AV) => (⟨[(0, .str (decB m)), (1, .str (decB n)), (5, .own 0 0 r.length), (6, .int .i64 ((0 : Nat) : Int)), (7, .int .i64 ((i + 1 : Nat) : Int))], [.row false 3 1 r]⟩ : St)) he.symm)
    · have := List.length_pos_iff.2 (dec_ne m)
      omega
  · repeat' first|refine sW ⟨?_⟩|(refine sp ?_ ?_<;>refine fun h=>⟨?_⟩)|fail
    refine .inl ⟨_, c_r01_digit gl m i (by omega) (by omega), ?_⟩
    rintro _ rfl
    repeat' first|refine sW ⟨?_⟩|(refine sp ?_ ?_<;>refine fun h=>⟨?_⟩)|fail
    refine .inl ⟨_, c_r01_digit gl n i (by omega) (by omega), ?_⟩
    rintro _ rfl
    have h1 := dig_lt m i
    have h2 := dig_lt n i
    have s1 := mod_succ m i
    have s2 := mod_succ n i
    have hp : 10 ^ (i + 1) = 10 ^ i * 10 := Nat.pow_succ ..
    have la : ∀ x, lsum (L ++ [x]) = lsum L + 10 ^ i * x := fun x => by rw [lsum_append, hLi]
    have ld : ∀ x, x < 10 → ∀ y ∈ L ++ [x], y < 10 := fun x hx y hy => by
      simp only [List.mem_append, List.mem_singleton] at hy
      rcases hy with hy | rfl
      · exact hL y hy
      · exact hx
    have fin : dig m i < dig n i + c → m % 10 ^ (i + 1) + 1 * 10 ^ (i + 1) = n % 10 ^ (i + 1) + lsum (L ++ [dig m i + 10 - dig n i - c]) := fun h => by
      rw [s1, s2, hp, la]
      have : 10 ^ i * (dig m i + 10 - dig n i - c) + 10 ^ i * dig n i + c * 10 ^ i = 10 ^ i * dig m i + 10 ^ i * 10 := by
        rw [Nat.mul_comm c, ← Nat.mul_add, ← Nat.mul_add, ← Nat.mul_add]; congr 1; omega
      omega
    have fin2 : ¬ dig m i < dig n i + c → m % 10 ^ (i + 1) + 0 * 10 ^ (i + 1) = n % 10 ^ (i + 1) + lsum (L ++ [dig m i - dig n i - c]) := fun h => by
      rw [s1, s2, la]
      have : 10 ^ i * (dig m i - dig n i - c) + 10 ^ i * dig n i + c * 10 ^ i = 10 ^ i * dig m i := by
        rw [Nat.mul_comm c, ← Nat.mul_add, ← Nat.mul_add]; congr 1; omega
      omega
    repeat' first|refine sW ⟨?_⟩|(refine sp ?_ ?_<;>refine fun h=>⟨?_⟩)|fail
    · conv => whnf
      refine ⟨Nat.le_refl _, (show (_ + 1) * 8 ≤ _ by simp; omega), _, ints_snoc' L (dig m i + 10 - dig n i - c) (e := (dig m i : Int) - (dig n i : Nat) - (c : Nat) + 10) (by omega), ?_⟩
      repeat' first|refine sW ⟨?_⟩|(refine sp ?_ ?_<;>refine fun h=>⟨?_⟩)|fail
      refine ⟨[2], (dec m).length - (i + 1), rfl, by omega, i + 1, _, 1, by omega, rfl, by simp [hLi], ld _ (by omega), by omega, fin (by omega), .inr ?_⟩
      rfl
    · conv => whnf
      refine ⟨Nat.le_refl _, (show (_ + 1) * 8 ≤ _ by simp; omega), _, ints_snoc' L (dig m i - dig n i - c) (e := (dig m i : Int) - (dig n i : Nat) - (c : Nat)) (by omega), ?_⟩
      repeat' first|refine sW ⟨?_⟩|(refine sp ?_ ?_<;>refine fun h=>⟨?_⟩)|fail
      refine ⟨[2], (dec m).length - (i + 1), rfl, by omega, i + 1, _, 0, by omega, rfl, by simp [hLi], ld _ (by omega), by omega, fin2 (by omega), .inr ?_⟩
      rfl
    · have hlt := lt_pow_len m
      have hi2 : i = (dec m).length := by omega
      rw [← hi2] at hlt
      rw [Nat.mod_eq_of_lt hlt, Nat.mod_eq_of_lt (by omega)] at hs
      have hl := lsum_lt hL
      rw [hLi] at hl
      have hc0 : c = 0 := by
        rcases Nat.lt_or_ge c 1 with h | h
        · omega
        · obtain rfl : c = 1 := by omega
          omega
      subst hc0
      have e : lsum L = m - n := by omega
      conv => whnf
      have hcall := c_r01_of gl L hL (by omega)
      rw [← List.take_length (l := ints L), ← List.drop_zero (l := ints L), e] at hcall
      refine .inl ⟨_, hcall, ?_⟩
      rintro _ rfl
      repeat' first|refine sW ⟨?_⟩|(refine sp ?_ ?_<;>refine fun h=>⟨?_⟩)|fail
      conv => whnf
      rfl
end Go.V
namespace Go.V
open Go.N
variable (gl : Gl)
def T_r01_Div : Tab := [(9, i9), (3, i3), (5, i5), (214, i214)]
theorem TOK_r01_Div : TOK Go.Proofs.Tryz.prog T_r01_Div := ⟨K9, ⟨K3, ⟨K5, ⟨K214, trivial⟩⟩⟩⟩
def T_r01_Gcd : Tab := [(9, i9)]
theorem TOK_r01_Gcd : TOK Go.Proofs.Tryz.prog T_r01_Gcd := ⟨K9, trivial⟩
set_option maxHeartbeats 2000000 in
theorem c_r01_Div (m n : Nat) (hn0 : 0 < n) (hm : (dec m).length < 1000000) (hn : (dec n).length < 1000000) : VCall Go.Proofs.Tryz.prog gl 166 [.str (decB m), .str (decB n)] (fun x => x = .tup [.str (decB (m / n)), .str (decB (m % n))]) := by
  refine vcall_of TOK_r01_Div HM Go.Proofs.Tryz.func166 rfl (by decide +kernel) (by decide +kernel) rfl ?_
  have hz := decB_size m
  have hzn := decB_size n
  repeat' first|refine sW ⟨?_⟩|(refine sp ?_ ?_<;>refine fun h=>⟨?_⟩)|fail
  refine ⟨[0, 1, 6, 7, 8], [], fun k st => ∃ (i : Nat) (q : ByteArray) (r : Nat), i ≤ (dec m).length ∧ k = (dec m).length - i ∧ q.toList.all isDig = true ∧ q.size = i ∧ r < n ∧ dval ((dec m).take i) = dval q.toList * n + r ∧
    st = ⟨[(0, .str (decB m)), (1, .str (decB n)), (6, .str q), (7, .str (decB r)), (8, .int .i64 (i : Nat))], []⟩, rfl,
    ⟨(dec m).length, 0, ⟨#[]⟩, 0, by omega, rfl, by rw [ByteArray.toList_eq]; rfl, rfl, hn0, by rw [ByteArray.toList_eq]; simp [dval], by rw [← zero_decB]; rfl⟩, ?_⟩
  rintro k _ ⟨i, q, r, hi, hk, hq, hqi, hr, hv, rfl⟩
  have hzr := decB_size r
  have hrn : (dec r).length ≤ (dec n).length := dec_mono (by omega)
  repeat' first|refine sW ⟨?_⟩|(refine sp ?_ ?_<;>refine fun h=>⟨?_⟩)|fail
  · have hlt : i < (dec m).length := by omega
    have hs : ((decB m).extract (i : Int).toNat ((i : Int) + 1).toNat).toList = [(dec m)[i]] := by
      rw [ext_toList, decB_toList, show (i : Int).toNat = i by omega, show ((i : Int) + 1).toNat = i + 1 by omega, show i + 1 - i = 1 by omega, List.drop_eq_getElem_cons hlt]; rfl
    have hsz : ((decB m).extract (i : Int).toNat ((i : Int) + 1).toNat).size = 1 := by rw [← Go.N.len_toList, hs]; rfl
    have hdg : isDig (dec m)[i] = true := List.all_eq_true.1 (dec_dig m) _ (List.getElem_mem hlt)
    refine ⟨by omega, ?_⟩
    repeat' first|refine sW ⟨?_⟩|(refine sp ?_ ?_<;>refine fun h=>⟨?_⟩)|fail
    have hdg' := hdg
    simp only [isDig, Bool.and_eq_true, decide_eq_true_eq] at hdg'
    have hP := c_r01_Plain gl (decB r ++ (decB m).extract (i : Int).toNat ((i : Int) + 1).toNat) (by rw [app_toList, List.all_append, decB_dig, hs]; simp [hdg]) (by rw [ByteArray.size_append]; omega)
    have hv2 := dval_take (dec m) i hlt
    rw [app_toList, hs, dval_append, dval_decB] at hP
    generalize (dec m)[i] = c at hP hv2 hdg'
    have hr0 : 10 * r + (c.toNat - 48) < 10 * n := by omega
    have hpv : dval ((dec m).take (i + 1)) = dval q.toList * (10 * n) + (10 * r + (c.toNat - 48)) := by
      rw [hv2, hv, Nat.mul_add, ← Nat.mul_assoc, Nat.mul_comm 10 (dval _), Nat.mul_assoc]; omega
    clear hv2 hs hsz hdg hv
    generalize 10 * r + (c.toNat - 48) = r0 at hr0 hP hpv
    refine .inl ⟨_, hP, ?_⟩
    rintro _ rfl
    repeat' first|refine sW ⟨?_⟩|(refine sp ?_ ?_<;>refine fun h=>⟨?_⟩)|fail
    conv => whnf
    refine ⟨[0, 1, 6, 7, 8, 9], [], fun k st => ∃ (d r' : Nat), r0 = d * n + r' ∧ k = r' ∧ st = ⟨[(0, .str (decB m)), (1, .str (decB n)), (6, .str q), (7, .str (decB r')), (8, .int .i64 (i : Nat)), (9, .int .i64 (d : Nat))], []⟩, rfl,
      ⟨r0, 0, r0, by omega, rfl, rfl⟩, ?_⟩
    rintro k2 _ ⟨d, r', hd, hk2, rfl⟩
    have hd9 : d < 10 := by
      rcases Nat.lt_or_ge d 10 with h | h
      · exact h
      · have := Nat.mul_le_mul_right n h
        omega
    have hr' : r' < 10 * n := by omega
    have hzr' := decB_size r'
    have hrn' := dec_ten hr' hn0
    repeat' first|refine sW ⟨?_⟩|(refine sp ?_ ?_<;>refine fun h=>⟨?_⟩)|fail
    conv => whnf
    refine .inl ⟨_, c_r01_Compare gl r' n (by omega) (by omega), ?_⟩
    rintro _ rfl
    repeat' first|refine sW ⟨?_⟩|(refine sp ?_ ?_<;>refine fun h=>⟨?_⟩)|fail
    · have hle := cmpN_ge.1 h
      conv => whnf
      refine .inl ⟨_, c_r01_Sub gl r' n hle (by omega), ?_⟩
      rintro _ rfl
      repeat' first|refine sW ⟨?_⟩|(refine sp ?_ ?_<;>refine fun h=>⟨?_⟩)|fail
      refine ⟨[], r' - n, rfl, by omega, d + 1, r' - n, ?_, rfl, rfl⟩
      rw [Nat.add_mul]; omega
    · have hlt' : r' < n := by
        rcases Nat.lt_or_ge r' n with g | g
        · exact g
        · exact absurd (cmpN_ge.2 g) h
      repeat' first|refine sW ⟨?_⟩|(refine sp ?_ ?_<;>refine fun h=>⟨?_⟩)|fail
      conv => whnf
      refine ⟨[48 + (d : Int)], rfl, ?_⟩
      have hsn : (sN [48 + (d : Int)]).toList = [dg d] := by
        have := sN_digits [d] (by simpa using hd9)
        simpa using this
      have hsz : (sN [48 + (d : Int)]).size = 1 := by rw [← Go.N.len_toList, hsn]; rfl
      repeat' first|refine sW ⟨?_⟩|(refine sp ?_ ?_<;>refine fun h=>⟨?_⟩)|fail
      conv => whnf
      refine And.intro (by omega) ?_
      repeat' first|refine sW ⟨?_⟩|(refine sp ?_ ?_<;>refine fun h=>⟨?_⟩)|fail
      refine ⟨[], (dec m).length - (i + 1), rfl, by omega, i + 1, q ++ sN [48 + (d : Int)], r', by omega, rfl, ?_, ?_, hlt', ?_, rfl⟩
      · rw [app_toList, hsn, List.all_append, hq]; simp [dg_dig hd9]
      · rw [ByteArray.size_append]; omega
      · rw [hpv, app_toList, hsn, dval_append, dg_toNat hd9, hd, Nat.mul_comm 10 n, ← Nat.mul_assoc, Nat.mul_comm _ 10, ← Nat.mul_assoc]
        rw [show 48 + d - 48 = d by omega, Nat.add_mul]; omega
  · conv => whnf
    have e1 : i = (dec m).length := by omega
    rw [List.take_of_length_le (by omega), dval_dec] at hv
    have e2 : dval q.toList = m / n := by
      rw [hv, Nat.add_comm, Nat.add_mul_div_right _ _ hn0, Nat.div_eq_of_lt hr]; omega
    have e3 : r = m % n := by
      rw [hv, Nat.add_comm, Nat.add_mul_mod_self_right, Nat.mod_eq_of_lt hr]
    have hP := c_r01_Plain gl q hq (by omega)
    rw [e2] at hP
    refine .inl ⟨_, hP, ?_⟩
    rintro _ rfl
    repeat' first|refine sW ⟨?_⟩|(refine sp ?_ ?_<;>refine fun h=>⟨?_⟩)|fail
    conv => whnf
    rw [← e3]
    rfl
theorem gcd_dec (a b : Nat) : decB b = ⟨#[48]⟩ ↔ b = 0 := by rw [zero_decB]; exact decB_inj
theorem c_r01_Gcd (m n : Nat) (hm : (dec m).length < 1000000) (hn : (dec n).length < 1000000) : VCall Go.Proofs.Tryz.prog gl 165 [.str (decB m), .str (decB n)] (fun x => x = .str (decB (Nat.gcd m n))) := by
  refine vcall_of TOK_r01_Gcd HM Go.Proofs.Tryz.func165 rfl (by decide +kernel) (by decide +kernel) rfl ?_
  repeat' first|refine sW ⟨?_⟩|(refine sp ?_ ?_<;>refine fun h=>⟨?_⟩)|fail
  refine ⟨[0, 1], [], fun k st => ∃ a b : Nat, (dec a).length < 1000000 ∧ (dec b).length < 1000000 ∧ k = b ∧ Nat.gcd a b = Nat.gcd m n ∧ st = ⟨[(0, .str (decB a)), (1, .str (decB b))], []⟩, rfl, ⟨n, m, n, hm, hn, rfl, rfl, rfl⟩, ?_⟩
  rintro k _ ⟨a, b, ha, hb, hk, hg, rfl⟩
  repeat' first|refine sW ⟨?_⟩|(refine sp ?_ ?_<;>refine fun h=>⟨?_⟩)|fail
  · have hb0 : 0 < b := Nat.pos_of_ne_zero fun e => h ((gcd_dec 0 b).2 e)
    conv => whnf
    refine .inl ⟨_, c_r01_Div gl a b hb0 ha hb, ?_⟩
    rintro _ rfl
    repeat' first|refine sW ⟨?_⟩|(refine sp ?_ ?_<;>refine fun h=>⟨?_⟩)|fail
    have hlt := Nat.mod_lt a hb0
    refine ⟨[], a % b, rfl, by omega, b, a % b, hb, Nat.lt_of_le_of_lt (dec_mono (by omega)) hb, rfl, ?_, rfl⟩
    rw [← hg, Nat.gcd_comm a b, Nat.gcd_rec b a, Nat.gcd_comm]
  · conv => whnf
    have hb0 := (gcd_dec 0 b).1 h
    rw [hb0, Nat.gcd_zero_right] at hg
    rw [← hg]
    rfl
end Go.V
namespace Go.V
open Go.N
variable (gl : Gl)
def T_liteHasPrefix : Tab := [(9, i9), (3, i3)]
theorem TOK_liteHasPrefix : TOK Go.Proofs.Tryz.prog T_liteHasPrefix := ⟨K9, ⟨K3, trivial⟩⟩
def T_HasPrefix : Tab := [(9, i9)]
theorem TOK_HasPrefix : TOK Go.Proofs.Tryz.prog T_HasPrefix := ⟨K9, trivial⟩
def T_liteCutPrefix : Tab := [(9, i9), (4, i4)]
theorem TOK_liteCutPrefix : TOK Go.Proofs.Tryz.prog T_liteCutPrefix := ⟨K9, ⟨K4, trivial⟩⟩
def T_CutPrefix : Tab := [(9, i9)]
theorem TOK_CutPrefix : TOK Go.Proofs.Tryz.prog T_CutPrefix := ⟨K9, trivial⟩
def T_liteTrimPrefix : Tab := [(9, i9)]
theorem TOK_liteTrimPrefix : TOK Go.Proofs.Tryz.prog T_liteTrimPrefix := ⟨K9, trivial⟩
def T_TrimPrefix : Tab := [(9, i9)]
theorem TOK_TrimPrefix : TOK Go.Proofs.Tryz.prog T_TrimPrefix := ⟨K9, trivial⟩
def T_r02_Size : Tab := [(9, i9), (3, i3), (5, i5)]
theorem TOK_r02_Size : TOK Go.Proofs.Tryz.prog T_r02_Size := ⟨K9, ⟨K3, ⟨K5, trivial⟩⟩⟩
def T_r02_Right : Tab := [(9, i9)]
theorem TOK_r02_Right : TOK Go.Proofs.Tryz.prog T_r02_Right := ⟨K9, trivial⟩
def T_r02_Sign : Tab := [(9, i9), (5, i5)]
theorem TOK_r02_Sign : TOK Go.Proofs.Tryz.prog T_r02_Sign := ⟨K9, ⟨K5, trivial⟩⟩
def T_r02_of : Tab := [(3, i3), (9, i9)]
theorem TOK_r02_of : TOK Go.Proofs.Tryz.prog T_r02_of := ⟨K3, ⟨K9, trivial⟩⟩
def hasP (s p : ByteArray) : Bool := decide (p.size ≤ s.size) && decide (s.extract 0 p.size = p)
def trimP (s p : ByteArray) : ByteArray := if hasP s p = true then s.extract p.size s.size else s
abbrev minusB : ByteArray := ⟨#[45]⟩
theorem c_liteHasPrefix (s p : ByteArray) (hs : s.size < 9000000000) (hp : p.size < 9000000000) : VCall Go.Proofs.Tryz.prog gl 149 [.str s, .str p] (fun x => x = .bool (hasP s p)) := by
  refine vcall_of TOK_liteHasPrefix HM Go.Proofs.Tryz.func149 rfl (by decide +kernel) (by decide +kernel) rfl ?_
  repeat' first|refine sW ⟨?_⟩|(refine sp ?_ ?_<;>refine fun h=>⟨?_⟩)|fail
  all_goals (conv => whnf)
  · refine congrArg AV.bool ?_
    have h1 : p.size ≤ s.size := by omega
    simp [hasP, h1]
  · refine congrArg AV.bool (Eq.symm ?_)
    have h1 : ¬ p.size ≤ s.size := by omega
    simp [hasP, h1]
theorem c_HasPrefix (s p : ByteArray) (hs : s.size < 9000000000) (hp : p.size < 9000000000) : VCall Go.Proofs.Tryz.prog gl 106 [.str s, .str p] (fun x => x = .bool (hasP s p)) := by
  refine vcall_of TOK_HasPrefix HM Go.Proofs.Tryz.func106 rfl (by decide +kernel) (by decide +kernel) rfl ?_
  repeat' first|refine sW ⟨?_⟩|(refine sp ?_ ?_<;>refine fun h=>⟨?_⟩)|fail
  conv => whnf
  refine .inl ⟨_, c_liteHasPrefix gl s p hs hp, ?_⟩
  rintro _ rfl
  repeat' first|refine sW ⟨?_⟩|(refine sp ?_ ?_<;>refine fun h=>⟨?_⟩)|fail
  conv => whnf
  rfl
theorem c_liteCutPrefix (s p : ByteArray) (hs : s.size < 9000000000) (hp : p.size < 9000000000) : VCall Go.Proofs.Tryz.prog gl 207 [.str s, .str p] (fun x => x = .tup [.str (trimP s p), .bool (hasP s p)]) := by
  refine vcall_of TOK_liteCutPrefix HM Go.Proofs.Tryz.func207 rfl (by decide +kernel) (by decide +kernel) rfl ?_
  have h1 : hasP s p = true → p.size ≤ s.size := fun h => by simp only [hasP, Bool.and_eq_true, decide_eq_true_eq] at h; exact h.1
  repeat' first|refine sW ⟨?_⟩|(refine sp ?_ ?_<;>refine fun h=>⟨?_⟩)|fail
  conv => whnf
  refine .inl ⟨_, c_liteHasPrefix gl s p hs hp, ?_⟩
  rintro _ rfl
  cases hb : hasP s p
  · repeat' first|refine sW ⟨?_⟩|(refine sp ?_ ?_<;>refine fun h=>⟨?_⟩)|fail
    conv => whnf
    simp [trimP, hb, one]
  · have h2 := h1 hb
    repeat' first|refine sW ⟨?_⟩|(refine sp ?_ ?_<;>refine fun h=>⟨?_⟩)|fail
    conv => whnf
    simp [trimP, hb, one]
theorem c_CutPrefix (s p : ByteArray) (hs : s.size < 9000000000) (hp : p.size < 9000000000) : VCall Go.Proofs.Tryz.prog gl 176 [.str s, .str p] (fun x => x = .tup [.str (trimP s p), .bool (hasP s p)]) := by
  refine vcall_of TOK_CutPrefix HM Go.Proofs.Tryz.func176 rfl (by decide +kernel) (by decide +kernel) rfl ?_
  repeat' first|refine sW ⟨?_⟩|(refine sp ?_ ?_<;>refine fun h=>⟨?_⟩)|fail
  conv => whnf
  refine .inl ⟨_, c_liteCutPrefix gl s p hs hp, ?_⟩
  rintro _ rfl
  repeat' first|refine sW ⟨?_⟩|(refine sp ?_ ?_<;>refine fun h=>⟨?_⟩)|fail
  conv => whnf
  rfl
theorem c_liteTrimPrefix (s p : ByteArray) (hs : s.size < 9000000000) (hp : p.size < 9000000000) : VCall Go.Proofs.Tryz.prog gl 184 [.str s, .str p] (fun x => x = .str (trimP s p)) := by
  refine vcall_of TOK_liteTrimPrefix HM Go.Proofs.Tryz.func184 rfl (by decide +kernel) (by decide +kernel) rfl ?_
  have h1 : hasP s p = true → p.size ≤ s.size := fun h => by simp only [hasP, Bool.and_eq_true, decide_eq_true_eq] at h; exact h.1
  repeat' first|refine sW ⟨?_⟩|(refine sp ?_ ?_<;>refine fun h=>⟨?_⟩)|fail
  conv => whnf
  refine .inl ⟨_, c_liteHasPrefix gl s p hs hp, ?_⟩
  rintro _ rfl
  cases hb : hasP s p
  · repeat' first|refine sW ⟨?_⟩|(refine sp ?_ ?_<;>refine fun h=>⟨?_⟩)|fail
    conv => whnf
    simp [trimP, hb, one]
  · have h2 := h1 hb
    repeat' first|refine sW ⟨?_⟩|(refine sp ?_ ?_<;>refine fun h=>⟨?_⟩)|fail
    conv => whnf
    simp [trimP, hb, one]
theorem c_TrimPrefix (s p : ByteArray) (hs : s.size < 9000000000) (hp : p.size < 9000000000) : VCall Go.Proofs.Tryz.prog gl 150 [.str s, .str p] (fun x => x = .str (trimP s p)) := by
  refine vcall_of TOK_TrimPrefix HM Go.Proofs.Tryz.func150 rfl (by decide +kernel) (by decide +kernel) rfl ?_
  repeat' first|refine sW ⟨?_⟩|(refine sp ?_ ?_<;>refine fun h=>⟨?_⟩)|fail
  conv => whnf
  refine .inl ⟨_, c_liteTrimPrefix gl s p hs hp, ?_⟩
  rintro _ rfl
  repeat' first|refine sW ⟨?_⟩|(refine sp ?_ ?_<;>refine fun h=>⟨?_⟩)|fail
  conv => whnf
  rfl
theorem hasP_minus (s : ByteArray) : hasP s minusB = decide (s.toList[0]? = some 45) := by
  rw [Bool.eq_iff_iff]
  simp only [hasP, Bool.and_eq_true, decide_eq_true_eq]
  have hl := Go.N.len_toList s
  constructor
  · rintro ⟨h1, h2⟩
    have h3 := congrArg ByteArray.toList h2
    rw [ext_toList] at h3
    have e : minusB.toList = [45] := by rw [ByteArray.toList_eq]
    rw [e] at h3
    have h4 := congrArg (fun l : List UInt8 => l[0]?) h3
    simp only [List.drop_zero, List.getElem?_cons_zero] at h4
    rw [List.getElem?_take_of_lt (by decide)] at h4
    exact h4
  · intro h
    have h0 : 0 < s.toList.length := (List.getElem?_eq_some_iff.1 h).1
    refine ⟨(show 1 ≤ s.size by omega), toList_inj ?_⟩
    rw [ext_toList]
    have e : minusB.toList = [45] := by rw [ByteArray.toList_eq]
    rw [e, List.drop_zero]
    obtain ⟨a, l, hal⟩ := List.exists_cons_of_length_pos h0
    rw [hal] at h ⊢
    simp at h
    rw [h]; rfl
theorem c_r02_Size (s : ByteArray) (hs : s.size < 9000000000) : VCall Go.Proofs.Tryz.prog gl 162 [.str s] (fun x => x = .str (trimP s minusB)) := by
  refine vcall_of TOK_r02_Size HM Go.Proofs.Tryz.func162 rfl (by decide +kernel) (by decide +kernel) rfl ?_
  have hl := Go.N.len_toList s
  have hh := hasP_minus s
  have key : ∀ h0 : 0 < s.toList.length, (s.toList[0]? = some 45) ↔ ((s.toList[0].toNat : Nat) : Int) = 45 := fun h0 => by
    rw [List.getElem?_eq_getElem h0, Option.some.injEq, ← UInt8.toNat_inj]
    simp; omega
  repeat' first|refine sW ⟨?_⟩|(refine sp ?_ ?_<;>refine fun h=>⟨?_⟩)|fail
  all_goals (conv => whnf)
  · have hb : hasP s minusB = true := by rw [hh]; exact decide_eq_true ((key (by omega)).2 h)
    refine congrArg AV.str ?_
    rw [trimP, if_pos hb]; rfl
  · have hb : ¬ hasP s minusB = true := by rw [hh]; simp only [decide_eq_true_eq]; exact fun e => h ((key (by omega)).1 e)
    refine congrArg AV.str ?_
    rw [trimP, if_neg hb]
  · have hb : ¬ hasP s minusB = true := by
      rw [hh]; simp only [decide_eq_true_eq]
      intro e
      have := (List.getElem?_eq_some_iff.1 e).1
      omega
    refine congrArg AV.str ?_
    rw [trimP, if_neg hb]
def isWhole (s : ByteArray) : Bool := isNat (trimP s minusB).toList && !decide (s = ⟨#[45, 48]⟩)
theorem trimP_size (s p : ByteArray) : (trimP s p).size ≤ s.size := by
  unfold trimP; split
  · simp
  · omega
theorem c_r02_Right (s : ByteArray) (hs : s.size < 9000000000) : VCall Go.Proofs.Tryz.prog gl 126 [.str s] (fun x => x = .bool (isWhole s)) := by
  refine vcall_of TOK_r02_Right HM Go.Proofs.Tryz.func126 rfl (by decide +kernel) (by decide +kernel) rfl ?_
  have ht := trimP_size s minusB
  repeat' first|refine sW ⟨?_⟩|(refine sp ?_ ?_<;>refine fun h=>⟨?_⟩)|fail
  conv => whnf
  refine .inl ⟨_, c_r02_Size gl s hs, ?_⟩
  rintro _ rfl
  repeat' first|refine sW ⟨?_⟩|(refine sp ?_ ?_<;>refine fun h=>⟨?_⟩)|fail
  conv => whnf
  refine .inl ⟨_, c_r01_Right (trimP s minusB) gl (by omega), ?_⟩
  rintro _ rfl
  cases hb : isNat (trimP s minusB).toList
  · repeat' first|refine sW ⟨?_⟩|(refine sp ?_ ?_<;>refine fun h=>⟨?_⟩)|fail
    conv => whnf
    simp [isWhole, hb, one]
  · repeat' first|refine sW ⟨?_⟩|(refine sp ?_ ?_<;>refine fun h=>⟨?_⟩)|fail
    conv => whnf
    simp [isWhole, hb, one]
theorem c_r02_Sign (s : ByteArray) (hs : s.size < 9000000000) (h0 : 0 < s.size) : VCall Go.Proofs.Tryz.prog gl 163 [.str s] (fun x => x = .int .i64 (if hasP s minusB = true then -1 else if s = decB 0 then 0 else 1)) := by
  refine vcall_of TOK_r02_Sign HM Go.Proofs.Tryz.func163 rfl (by decide +kernel) (by decide +kernel) rfl ?_
  have hl := Go.N.len_toList s
  have hh := hasP_minus s
  have key : ∀ h0 : 0 < s.toList.length, (s.toList[0]? = some 45) ↔ ((s.toList[0].toNat : Nat) : Int) = 45 := fun h0 => by
    rw [List.getElem?_eq_getElem h0, Option.some.injEq, ← UInt8.toNat_inj]
    simp; omega
  rw [← zero_decB]
  generalize hR : (if hasP s minusB = true then (-1 : Int) else if s = ⟨#[48]⟩ then 0 else 1) = R
  repeat' first|refine sW ⟨?_⟩|(refine sp ?_ ?_<;>refine fun h=>⟨?_⟩)|fail
  all_goals (conv => whnf)
  · have hb : hasP s minusB = true := by rw [hh]; exact decide_eq_true ((key (by omega)).2 h)
    rw [if_pos hb] at hR
    exact congrArg (AV.int .i64) hR
  · have hb : ¬ hasP s minusB = true := by rw [hh]; simp only [decide_eq_true_eq]; exact fun e => absurd ((key (by omega)).1 e) (by assumption)
    rw [if_neg hb, if_pos h] at hR
    exact congrArg (AV.int .i64) hR
  · have hb : ¬ hasP s minusB = true := by rw [hh]; simp only [decide_eq_true_eq]; exact fun e => absurd ((key (by omega)).1 e) (by assumption)
    rw [if_neg hb, if_neg h] at hR
    exact congrArg (AV.int .i64) hR
theorem c_r02_of (s : ByteArray) (n : Int) (hs : s.size < 9000000000) : VCall Go.Proofs.Tryz.prog gl 167 [.str s, .int .i64 n] (fun x => x = .str (if n < 0 ∧ s ≠ decB 0 then minusB ++ s else s)) := by
  refine vcall_of TOK_r02_of HM Go.Proofs.Tryz.func167 rfl (by decide +kernel) (by decide +kernel) rfl ?_
  rw [← zero_decB]
  generalize hR : (if n < 0 ∧ s ≠ ⟨#[48]⟩ then minusB ++ s else s) = R
  repeat' first|refine sW ⟨?_⟩|(refine sp ?_ ?_<;>refine fun h=>⟨?_⟩)|fail
  · refine ⟨(show 1 + s.size ≤ 9223372036854775807 by omega), ?_⟩
    repeat' first|refine sW ⟨?_⟩|(refine sp ?_ ?_<;>refine fun h=>⟨?_⟩)|fail
    conv => whnf
    rename_i h1
    rw [if_pos ⟨h1, h⟩] at hR
    exact congrArg AV.str hR
  · conv => whnf
    rw [if_neg (fun hh => hh.2 h)] at hR
    exact congrArg AV.str hR
  · conv => whnf
    rw [if_neg (fun hh => h hh.1)] at hR
    exact congrArg AV.str hR
end Go.V
namespace Go.V
open Go.N
variable (gl : Gl)
def ixOf (c : UInt8) : List UInt8 → Option Nat
  | [] => none
  | x :: l => if x = c then some 0 else (ixOf c l).map (· + 1)
def ixI (o : Option Nat) : Int := match o with | some k => k | none => -1
theorem ixOf_lt {c : UInt8} : ∀ {l : List UInt8} {k : Nat}, ixOf c l = some k → k < l.length
  | [], k, h => by simp [ixOf] at h
  | x :: l, k, h => by
    simp only [ixOf] at h
    split at h
    · simp at h; subst h; simp
    · cases hi : ixOf c l with
      | none => rw [hi] at h; simp at h
      | some j =>
        rw [hi] at h; simp at h; subst h
        have := ixOf_lt hi
        simp; omega
theorem ixOf_lib (c : UInt8) : ∀ l : List UInt8, Lib.indexByte l c = ixI (ixOf c l)
  | [] => rfl
  | x :: l => by
    have ih := ixOf_lib c l
    simp only [Lib.indexByte, ixOf, ih]
    by_cases h : x = c
    · simp [h, ixI]
    · have hb : (x == c) = false := by simpa using h
      simp only [hb, h, if_false, Bool.false_eq_true]
      cases hi : ixOf c l with
      | none => simp [ixI]
      | some j =>
        show (if ((j : Int) == -1) = true then (-1 : Int) else (j : Int) + 1) = ((j + 1 : Nat) : Int)
        have e : ((j : Int) == -1) = false := by rw [beq_eq_false_iff_ne]; omega
        rw [e]; simp
theorem c_IndexByteString (s : ByteArray) (c : Int) : VCall Go.Proofs.Tryz.prog gl 221 [.str s, .int .u8 c] (fun x => x = .int .i64 (ixI (ixOf c.toNat.toUInt8 s.toList))) := by
  intro S w vs hS hgl h
  simp only [RepL, RepV] at h
  obtain ⟨v1, r1, rfl, rfl, v2, r2, rfl, rfl, rfl⟩ := h
  refine .inr (.inl ⟨Value.int .i64 (ixI (ixOf c.toNat.toUInt8 s.toList)), w, ?_, ⟨_, rfl, ⟨S, [], ?_, by simp, by simp, fun b hb => ⟨hS b hb, .inl hb⟩⟩, ⟨rfl, rfl, rfl, Nat.le_refl _, fun _ _ => rfl⟩⟩⟩)
  · rw [run_callFunc_extern Go.Proofs.Tryz.func221 (by kernel_rfl) (by kernel_rfl) (by kernel_rfl) (e := Extern.BytealgIndexByte.indexByte) (by kernel_rfl), Lib.run_indexByteString]
    simp only [Result.andThen, ixOf_lib, ByteArray.toList_eq]
  · simp only [RepF, RepV]
    exact ⟨trivial, trivial⟩
def T_liteIndexByte : Tab := [(9, i9), (5, i5)]
theorem TOK_liteIndexByte : TOK Go.Proofs.Tryz.prog T_liteIndexByte := ⟨K9, ⟨K5, trivial⟩⟩
def T_liteIndex : Tab := [(9, i9), (3, i3), (5, i5)]
theorem TOK_liteIndex : TOK Go.Proofs.Tryz.prog T_liteIndex := ⟨K9, ⟨K3, ⟨K5, trivial⟩⟩⟩
def T_liteCut : Tab := [(9, i9), (3, i3)]
theorem TOK_liteCut : TOK Go.Proofs.Tryz.prog T_liteCut := ⟨K9, ⟨K3, trivial⟩⟩
def T_Cut : Tab := [(9, i9)]
theorem TOK_Cut : TOK Go.Proofs.Tryz.prog T_Cut := ⟨K9, trivial⟩
theorem c_liteIndexByte (s : ByteArray) (c : Int) : VCall Go.Proofs.Tryz.prog gl 203 [.str s, .int .u8 c] (fun x => x = .int .i64 (ixI (ixOf c.toNat.toUInt8 s.toList))) := by
  refine vcall_of TOK_liteIndexByte HM Go.Proofs.Tryz.func203 rfl (by decide +kernel) (by decide +kernel) rfl ?_
  repeat' first|refine sW ⟨?_⟩|(refine sp ?_ ?_<;>refine fun h=>⟨?_⟩)|fail
  conv => whnf
  refine .inl ⟨_, c_IndexByteString gl s c, ?_⟩
  rintro _ rfl
  repeat' first|refine sW ⟨?_⟩|(refine sp ?_ ?_<;>refine fun h=>⟨?_⟩)|fail
  conv => whnf
  rfl
abbrev slashB : ByteArray := ⟨#[47]⟩
theorem slash_list : slashB.toList = [47] := by rw [ByteArray.toList_eq]
theorem c_liteIndex (s : ByteArray) (hs : s.size < 9000000000) : VCall Go.Proofs.Tryz.prog gl 175 [.str s, .str slashB] (fun x => x = .int .i64 (ixI (ixOf 47 s.toList))) := by
  refine vcall_of TOK_liteIndex HM Go.Proofs.Tryz.func175 rfl (by decide +kernel) (by decide +kernel) rfl ?_
  repeat' first|refine sW ⟨?_⟩|(refine sp ?_ ?_<;>refine fun h=>⟨?_⟩)|fail
  · conv => whnf
    rw [← h, slash_list]; rfl
  · conv => whnf
    refine ⟨0, 47, rfl, by rw [slash_list]; rfl, ?_⟩
    repeat' first|refine sW ⟨?_⟩|(refine sp ?_ ?_<;>refine fun h=>⟨?_⟩)|fail
    conv => whnf
    refine .inl ⟨_, c_liteIndexByte gl s 47, ?_⟩
    rintro _ rfl
    repeat' first|refine sW ⟨?_⟩|(refine sp ?_ ?_<;>refine fun h=>⟨?_⟩)|fail
    conv => whnf
    rfl
def cutP (s : ByteArray) : ByteArray × ByteArray × Bool :=
  match ixOf 47 s.toList with
  | some k => (⟨(s.toList.take k).toArray⟩, ⟨(s.toList.drop (k + 1)).toArray⟩, true)
  | none => (s, ⟨#[]⟩, false)
theorem c_liteCut (s : ByteArray) (hs : s.size < 9000000000) : VCall Go.Proofs.Tryz.prog gl 143 [.str s, .str slashB] (fun x => x = .tup [.str (cutP s).1, .str (cutP s).2.1, .bool (cutP s).2.2]) := by
  refine vcall_of TOK_liteCut HM Go.Proofs.Tryz.func143 rfl (by decide +kernel) (by decide +kernel) rfl ?_
  have hl := Go.N.len_toList s
  have hsl : slashB.size = 1 := rfl
  have hc := c_liteIndex gl s hs
  cases hi : ixOf 47 s.toList with
  | none =>
    have e : cutP s = (s, ⟨#[]⟩, false) := by simp only [cutP, hi]
    rw [e]
    rw [hi] at hc
    repeat' first|refine sW ⟨?_⟩|(refine sp ?_ ?_<;>refine fun h=>⟨?_⟩)|fail
    conv => whnf
    refine .inl ⟨_, hc, ?_⟩
    rintro _ rfl
    repeat' first|refine sW ⟨?_⟩|(refine sp ?_ ?_<;>refine fun h=>⟨?_⟩)|fail
    conv => whnf
    rfl
  | some k =>
    have hk := ixOf_lt hi
    have e : cutP s = (⟨(s.toList.take k).toArray⟩, ⟨(s.toList.drop (k + 1)).toArray⟩, true) := by simp only [cutP, hi]
    rw [e]
    rw [hi] at hc
    have hc : VCall Go.Proofs.Tryz.prog gl 175 [.str s, .str slashB] (fun x => x = .int .i64 ((k : Nat) : Int)) := hc
    have e1 : s.extract (0 : Int).toNat ((k : Nat) : Int).toNat = ⟨(s.toList.take k).toArray⟩ := by
      refine toList_inj ?_
      rw [ext_toList, toList_mk]; simp
    have e2 : s.extract ((k : Int) + 1).toNat ((s.size : Nat) : Int).toNat = ⟨(s.toList.drop (k + 1)).toArray⟩ := by
      refine toList_inj ?_
      rw [ext_toList, show ((k : Int) + 1).toNat = k + 1 by omega, Int.toNat_natCast, List.take_of_length_le (l := s.toList.drop (k + 1)) (by simp [hl])]
      exact (toList_mk _).symm
    rw [← e1, ← e2]
    repeat' first|refine sW ⟨?_⟩|(refine sp ?_ ?_<;>refine fun h=>⟨?_⟩)|fail
    conv => whnf
    refine .inl ⟨_, hc, ?_⟩
    rintro _ rfl
    repeat' first|refine sW ⟨?_⟩|(refine sp ?_ ?_<;>refine fun h=>⟨?_⟩)|fail
    refine ⟨by decide +kernel, [0, 0, 3, 0, 0, 0, 32, 112, 248, 7, 1023, 2047], by decide +kernel, ?_⟩
    repeat' first|refine sW ⟨?_⟩|(refine sp ?_ ?_<;>refine fun h=>⟨?_⟩)|fail
    conv => whnf
    rfl
theorem c_Cut (s : ByteArray) (hs : s.size < 9000000000) : VCall Go.Proofs.Tryz.prog gl 100 [.str s, .str slashB] (fun x => x = .tup [.str (cutP s).1, .str (cutP s).2.1, .bool (cutP s).2.2]) := by
  refine vcall_of TOK_Cut HM Go.Proofs.Tryz.func100 rfl (by decide +kernel) (by decide +kernel) rfl ?_
  repeat' first|refine sW ⟨?_⟩|(refine sp ?_ ?_<;>refine fun h=>⟨?_⟩)|fail
  conv => whnf
  refine .inl ⟨_, c_liteCut gl s hs, ?_⟩
  rintro _ rfl
  repeat' first|refine sW ⟨?_⟩|(refine sp ?_ ?_<;>refine fun h=>⟨?_⟩)|fail
  conv => whnf
  rfl
end Go.V
namespace Go.V
open Go.N
variable (gl : Gl)
def T_Wread : Tab := [(138, i138), (9, i9), (4, i4)]
theorem TOK_Wread : TOK Go.Proofs.Tryz.prog T_Wread := ⟨K138, ⟨K9, ⟨K4, trivial⟩⟩⟩
def T_WRight : Tab := [(9, i9), (138, i138)]
theorem TOK_WRight : TOK Go.Proofs.Tryz.prog T_WRight := ⟨K9, ⟨K138, trivial⟩⟩
def T_Wtext : Tab := [(138, i138), (4, i4), (9, i9)]
theorem TOK_Wtext : TOK Go.Proofs.Tryz.prog T_Wtext := ⟨K138, ⟨K4, ⟨K9, trivial⟩⟩⟩
def T_WNeg : Tab := [(9, i9), (138, i138), (4, i4)]
theorem TOK_WNeg : TOK Go.Proofs.Tryz.prog T_WNeg := ⟨K9, ⟨K138, ⟨K4, trivial⟩⟩⟩
def T_Rsize : Tab := [(9, i9)]
theorem TOK_Rsize : TOK Go.Proofs.Tryz.prog T_Rsize := ⟨K9, trivial⟩
theorem minus_cons (l : List UInt8) : hasP ⟨(45 :: l).toArray⟩ minusB = true ∧ trimP ⟨(45 :: l).toArray⟩ minusB = ⟨l.toArray⟩ := by
  have h : hasP ⟨(45 :: l).toArray⟩ minusB = true := by rw [hasP_minus, toList_mk]; simp
  refine ⟨h, ?_⟩
  rw [trimP, if_pos h]
  refine toList_inj ?_
  rw [ext_toList, toList_mk, toList_mk]
  rw [show minusB.size = 1 from rfl]
  have : (⟨(45 :: l).toArray⟩ : ByteArray).size = l.length + 1 := by rw [← Go.N.len_toList, toList_mk]; rfl
  rw [this]; simp
theorem minus_cases (s : ByteArray) : (hasP s minusB = true ∧ s = ⟨(45 :: (trimP s minusB).toList).toArray⟩) ∨ (hasP s minusB = false ∧ trimP s minusB = s ∧ s.toList[0]? ≠ some 45) := by
  cases hb : hasP s minusB with
  | true =>
    left
    refine ⟨rfl, ?_⟩
    rw [hasP_minus, decide_eq_true_eq] at hb
    have h0 : 0 < s.toList.length := (List.getElem?_eq_some_iff.1 hb).1
    obtain ⟨a, l, hal⟩ := List.exists_cons_of_length_pos h0
    rw [hal] at hb
    simp at hb
    subst hb
    have e : s = ⟨(45 :: l).toArray⟩ := by rw [← mk_toList s, hal]
    rw [e, (minus_cons l).2, toList_mk]
  | false =>
    right
    refine ⟨rfl, ?_, ?_⟩
    · rw [trimP, if_neg (by simp [hb])]
    · rw [hasP_minus, decide_eq_false_iff_not] at hb; exact hb
theorem minus_zero (s : ByteArray) : (hasP s minusB = true ∧ trimP s minusB = ⟨#[48]⟩) ↔ s = ⟨#[45, 48]⟩ := by
  constructor
  · rintro ⟨h1, h2⟩
    rcases minus_cases s with ⟨_, h⟩ | ⟨h, _⟩
    · rw [h, h2]
      have e : (⟨#[48]⟩ : ByteArray).toList = [48] := by rw [ByteArray.toList_eq]
      rw [e]
    · rw [h] at h1; cases h1
  · intro h
    rw [h]
    exact minus_cons [48]
theorem c_Wread (s : ByteArray) (hs : s.size < 9000000000) : VCall Go.Proofs.Tryz.prog gl 144 [.str s] (fun x => x = .tup [.agg [.bool (hasP s minusB), .str (trimP s minusB)], .bool (isWhole s)]) := by
  refine vcall_of TOK_Wread HM Go.Proofs.Tryz.func144 rfl (by decide +kernel) (by decide +kernel) rfl ?_
  have ht := trimP_size s minusB
  have hz := minus_zero s
  repeat' first|refine sW ⟨?_⟩|(refine sp ?_ ?_<;>refine fun h=>⟨?_⟩)|fail
  conv => whnf
  refine .inl ⟨_, c_CutPrefix gl s minusB hs (by decide), ?_⟩
  rintro _ rfl
  repeat' first|refine sW ⟨?_⟩|(refine sp ?_ ?_<;>refine fun h=>⟨?_⟩)|fail
  conv => whnf
  refine .inl ⟨_, c_NRight gl (trimP s minusB) (by omega), ?_⟩
  rintro _ rfl
  cases hb : hasP s minusB <;> cases hc : isNat (trimP s minusB).toList
  · repeat' first|refine sW ⟨?_⟩|(refine sp ?_ ?_<;>refine fun h=>⟨?_⟩)|fail
    conv => whnf
    simp [isWhole, hc, one]
  · have hne : ¬ s = ⟨#[45, 48]⟩ := fun e => by have := (hz.2 e).1; rw [hb] at this; cases this
    repeat' first|refine sW ⟨?_⟩|(refine sp ?_ ?_<;>refine fun h=>⟨?_⟩)|fail
    conv => whnf
    simp [isWhole, hc, one, hne]
  · repeat' first|refine sW ⟨?_⟩|(refine sp ?_ ?_<;>refine fun h=>⟨?_⟩)|fail
    conv => whnf
    simp [isWhole, hc, one]
  · repeat' first|refine sW ⟨?_⟩|(refine sp ?_ ?_<;>refine fun h=>⟨?_⟩)|fail
    conv => whnf
    by_cases h : trimP s minusB = ⟨#[48]⟩
    · have e := hz.1 ⟨hb, h⟩
      have e2 : isWhole s = false := by rw [isWhole]; simp [e]
      rw [e2]
      simp [one, h]
    · have e : ¬ s = ⟨#[45, 48]⟩ := fun e => h (hz.2 e).2
      have e2 : isWhole s = true := by rw [isWhole, hc]; simp [e]
      rw [e2]
      simp [one, h]
theorem c_WRight (s : ByteArray) (hs : s.size < 9000000000) : VCall Go.Proofs.Tryz.prog gl 101 [.str s] (fun x => x = .bool (isWhole s)) := by
  refine vcall_of TOK_WRight HM Go.Proofs.Tryz.func101 rfl (by decide +kernel) (by decide +kernel) rfl ?_
  repeat' first|refine sW ⟨?_⟩|(refine sp ?_ ?_<;>refine fun h=>⟨?_⟩)|fail
  conv => whnf
  refine .inl ⟨_, c_Wread gl s hs, ?_⟩
  rintro _ rfl
  repeat' first|refine sW ⟨?_⟩|(refine sp ?_ ?_<;>refine fun h=>⟨?_⟩)|fail
  conv => whnf
  rfl
theorem c_Wtext (m : Bool) (s : ByteArray) (hs : s.size < 9000000000) : VCall Go.Proofs.Tryz.prog gl 114 [.agg [.bool m, .str s]] (fun x => x = .str (if m = true ∧ s ≠ decB 0 then minusB ++ s else s)) := by
  refine vcall_of TOK_Wtext HM Go.Proofs.Tryz.func114 rfl (by decide +kernel) (by decide +kernel) rfl ?_
  rw [← zero_decB]
  generalize hR : (if m = true ∧ s ≠ ⟨#[48]⟩ then minusB ++ s else s) = R
  cases m
  · rw [if_neg (by simp)] at hR
    repeat' first|refine sW ⟨?_⟩|(refine sp ?_ ?_<;>refine fun h=>⟨?_⟩)|fail
    conv => whnf
    exact congrArg AV.str hR
  · repeat' first|refine sW ⟨?_⟩|(refine sp ?_ ?_<;>refine fun h=>⟨?_⟩)|fail
    · refine ⟨(show 1 + s.size ≤ 9223372036854775807 by omega), ?_⟩
      repeat' first|refine sW ⟨?_⟩|(refine sp ?_ ?_<;>refine fun h=>⟨?_⟩)|fail
      conv => whnf
      rw [if_pos ⟨rfl, h⟩] at hR
      exact congrArg AV.str hR
    · conv => whnf
      rw [if_neg (fun hh => hh.2 h)] at hR
      exact congrArg AV.str hR
theorem c_WNeg (n : Nat) (hn0 : n ≠ 0) (hn : (dec n).length < 9000000) : VCall Go.Proofs.Tryz.prog gl 107 [.str (decB n)] (fun x => x = .tup [.str (minusB ++ decB n), .int .i64 0]) := by
  refine vcall_of TOK_WNeg HM Go.Proofs.Tryz.func107 rfl (by decide +kernel) (by decide +kernel) rfl ?_
  have hz := decB_size n
  have hnm : hasP (decB n) minusB = false := by
    rw [hasP_minus, decide_eq_false_iff_not, decB_toList]
    intro e
    have h1 := List.all_eq_true.1 (dec_dig n) 45 (List.mem_of_getElem? e)
    simp [isDig] at h1
  have htr : trimP (decB n) minusB = decB n := by rw [trimP, if_neg (by simp [hnm])]
  have hw : isWhole (decB n) = true := by
    have : ¬ decB n = ⟨#[45, 48]⟩ := fun e => by
      have := (minus_zero (decB n)).2 e
      rw [hnm] at this; cases this.1
    rw [isWhole, htr, decB_toList, isNat_dec]; simp [this]
  have hr := c_Wread gl (decB n) (by omega)
  rw [hnm, htr, hw] at hr
  have htx := c_Wtext gl true (decB n) (by omega)
  rw [if_pos ⟨rfl, fun e => hn0 (decB_inj.1 e)⟩] at htx
  repeat' first|refine sW ⟨?_⟩|(refine sp ?_ ?_<;>refine fun h=>⟨?_⟩)|fail
  conv => whnf
  refine .inl ⟨_, hr, ?_⟩
  rintro _ rfl
  repeat' first|refine sW ⟨?_⟩|(refine sp ?_ ?_<;>refine fun h=>⟨?_⟩)|fail
  conv => whnf
  refine .inl ⟨_, htx, ?_⟩
  rintro _ rfl
  repeat' first|refine sW ⟨?_⟩|(refine sp ?_ ?_<;>refine fun h=>⟨?_⟩)|fail
  conv => whnf
  rfl
theorem c_Rsize (s : ByteArray) (hs : s.size < 9000000000) : VCall Go.Proofs.Tryz.prog gl 108 [.str s] (fun x => x = .str (trimP s minusB)) := by
  refine vcall_of TOK_Rsize HM Go.Proofs.Tryz.func108 rfl (by decide +kernel) (by decide +kernel) rfl ?_
  repeat' first|refine sW ⟨?_⟩|(refine sp ?_ ?_<;>refine fun h=>⟨?_⟩)|fail
  conv => whnf
  refine .inl ⟨_, c_TrimPrefix gl s minusB hs (by decide), ?_⟩
  rintro _ rfl
  repeat' first|refine sW ⟨?_⟩|(refine sp ?_ ?_<;>refine fun h=>⟨?_⟩)|fail
  conv => whnf
  rfl
end Go.V
namespace Go.V
open Go.N
variable (gl : Gl)
def T_Rtext : Tab := [(83, i83), (9, i9)]
theorem TOK_Rtext : TOK Go.Proofs.Tryz.prog T_Rtext := ⟨K83, ⟨K9, trivial⟩⟩
def T_Rlowest : Tab := [(83, i83), (9, i9), (85, i85), (125, i125), (123, i123), (28, i28), (134, i134), (132, i132)]
theorem TOK_Rlowest : TOK Go.Proofs.Tryz.prog T_Rlowest := ⟨K83, ⟨K9, ⟨K85, ⟨K125, ⟨K123, ⟨K28, ⟨K134, ⟨K132, trivial⟩⟩⟩⟩⟩⟩⟩⟩
def T_Rread : Tab := [(83, i83), (9, i9), (4, i4), (85, i85), (125, i125), (123, i123)]
theorem TOK_Rread : TOK Go.Proofs.Tryz.prog T_Rread := ⟨K83, ⟨K9, ⟨K4, ⟨K85, ⟨K125, ⟨K123, trivial⟩⟩⟩⟩⟩⟩
def T_RRight : Tab := [(9, i9), (83, i83), (85, i85)]
theorem TOK_RRight : TOK Go.Proofs.Tryz.prog T_RRight := ⟨K9, ⟨K83, ⟨K85, trivial⟩⟩⟩
def T_r03_Text : Tab := [(100, i100), (9, i9)]
theorem TOK_r03_Text : TOK Go.Proofs.Tryz.prog T_r03_Text := ⟨K100, ⟨K9, trivial⟩⟩
def T_r03_Lowest : Tab := [(100, i100), (9, i9), (3, i3)]
theorem TOK_r03_Lowest : TOK Go.Proofs.Tryz.prog T_r03_Lowest := ⟨K100, ⟨K9, ⟨K3, trivial⟩⟩⟩
def T_r03_Read : Tab := [(100, i100), (9, i9), (3, i3), (5, i5), (4, i4)]
theorem TOK_r03_Read : TOK Go.Proofs.Tryz.prog T_r03_Read := ⟨K100, ⟨K9, ⟨K3, ⟨K5, ⟨K4, trivial⟩⟩⟩⟩⟩
def pairT (p q : ByteArray) : ByteArray := if q = ⟨#[49]⟩ then p else p ++ slashB ++ q
theorem c_Rtext (p q : ByteArray) (hp : p.size < 9000000) (hq : q.size < 9000000) : VCall Go.Proofs.Tryz.prog gl 103 [.agg [.str p, .str q]] (fun x => x = .str (pairT p q)) := by
  refine vcall_of TOK_Rtext HM Go.Proofs.Tryz.func103 rfl (by decide +kernel) (by decide +kernel) rfl ?_
  have hsl : slashB.size = 1 := rfl
  repeat' first|refine sW ⟨?_⟩|(refine sp ?_ ?_<;>refine fun h=>⟨?_⟩)|fail
  · conv => whnf
    exact congrArg AV.str (by rw [pairT, if_pos h])
  · refine ⟨(show p.size + 1 ≤ _ by omega), ?_⟩
    have hs2 : (p ++ slashB).size = p.size + 1 := by rw [ByteArray.size_append]; rfl
    repeat' first|refine sW ⟨?_⟩|(refine sp ?_ ?_<;>refine fun h=>⟨?_⟩)|fail
    refine ⟨(show (p ++ slashB).size + q.size ≤ _ by omega), ?_⟩
    repeat' first|refine sW ⟨?_⟩|(refine sp ?_ ?_<;>refine fun h=>⟨?_⟩)|fail
    conv => whnf
    exact congrArg AV.str (by rw [pairT, if_neg h])
theorem c_r03_Text (p q : ByteArray) (hp : p.size < 9000000) (hq : q.size < 9000000) : VCall Go.Proofs.Tryz.prog gl 129 [.agg [.str p, .str q]] (fun x => x = .str (pairT p q)) := by
  refine vcall_of TOK_r03_Text HM Go.Proofs.Tryz.func129 rfl (by decide +kernel) (by decide +kernel) rfl ?_
  have hsl : slashB.size = 1 := rfl
  repeat' first|refine sW ⟨?_⟩|(refine sp ?_ ?_<;>refine fun h=>⟨?_⟩)|fail
  · conv => whnf
    exact congrArg AV.str (by rw [pairT, if_pos h])
  · refine ⟨(show p.size + 1 ≤ _ by omega), ?_⟩
    have hs2 : (p ++ slashB).size = p.size + 1 := by rw [ByteArray.size_append]; rfl
    repeat' first|refine sW ⟨?_⟩|(refine sp ?_ ?_<;>refine fun h=>⟨?_⟩)|fail
    refine ⟨(show (p ++ slashB).size + q.size ≤ _ by omega), ?_⟩
    repeat' first|refine sW ⟨?_⟩|(refine sp ?_ ?_<;>refine fun h=>⟨?_⟩)|fail
    conv => whnf
    exact congrArg AV.str (by rw [pairT, if_neg h])
def absW (p : ByteArray) : Nat := dval (trimP p minusB).toList
def lowP (p : ByteArray) (n : Nat) : ByteArray := if hasP p minusB = true then minusB ++ decB (absW p / Nat.gcd (absW p) n) else decB (absW p / Nat.gcd (absW p) n)
def lowQ (p : ByteArray) (n : Nat) : ByteArray := decB (n / Nat.gcd (absW p) n)
structure Low (p : ByteArray) (n : Nat) : Prop where
  tr : trimP p minusB = decB (absW p)
  len : (dec (absW p)).length = (trimP p minusB).size
  neg : hasP p minusB = true → absW p ≠ 0
  qneg : hasP (decB n) minusB = false
  qtr : trimP (decB n) minusB = decB n
theorem low_of {p : ByteArray} {n : Nat} (hp : isWhole p = true) : Low p n := by
  simp only [isWhole, Bool.and_eq_true, Bool.not_eq_true', decide_eq_false_iff_not] at hp
  have h1 := isNat_decB hp.1
  have hnm : hasP (decB n) minusB = false := by
    rw [hasP_minus, decide_eq_false_iff_not, decB_toList]
    intro e
    have h1 := List.all_eq_true.1 (dec_dig n) 45 (List.mem_of_getElem? e)
    simp [isDig] at h1
  refine ⟨h1, ?_, fun h e => ?_, hnm, by rw [trimP, if_neg (by simp [hnm])]⟩
  · rw [← decB_size]; unfold absW; rw [← h1]
  · refine hp.2 ((minus_zero p).1 ⟨h, ?_⟩)
    rw [h1]
    show decB (absW p) = _
    rw [e, zero_decB]
set_option maxHeartbeats 4000000 in
theorem c_Rlowest (p : ByteArray) (n : Nat) (hw : isWhole p = true) (hn0 : n ≠ 0) (hp : p.size < 200000) (hn : (dec n).length < 200000) : VCall Go.Proofs.Tryz.prog gl 55 [.str p, .str (decB n)]
    (fun x => x = .tup [.agg [.str (lowP p n), .str (lowQ p n)], .nili]) := by
  refine vcall_of TOK_Rlowest HM Go.Proofs.Tryz.func55 rfl (by decide +kernel) (by decide +kernel) rfl ?_
  have L := low_of (n := n) hw
  have ht := trimP_size p minusB
  have hlen := L.len
  have hz := decB_size n
  have hg0 : 0 < Nat.gcd (absW p) n := Nat.gcd_pos_of_pos_right _ (by omega)
  have hgl : (dec (Nat.gcd (absW p) n)).length ≤ (dec n).length := dec_mono (Nat.gcd_le_right _ (by omega))
  have hq0 : ¬ decB n = ⟨#[48]⟩ := fun e => hn0 (by rw [zero_decB] at e; exact decB_inj.1 e)
  have hql : (dec (absW p / Nat.gcd (absW p) n)).length ≤ (dec (absW p)).length := dec_mono (Nat.div_le_self _ _)
  have h1 := c_HasPrefix gl (decB n) minusB (by omega) (by decide)
  rw [L.qneg] at h1
  have h2 := c_Rsize gl p (by omega)
  rw [L.tr] at h2
  have h3 := c_NGcd gl (absW p) n (by omega) (by omega)
  have h4 := c_NDiv gl (absW p) (Nat.gcd (absW p) n) hg0 (by omega) (by omega)
  have h5 := c_NDiv gl n (Nat.gcd (absW p) n) hg0 (by omega) (by omega)
  have h6 := c_HasPrefix gl p minusB (by omega) (by decide)
  repeat' first|refine sW ⟨?_⟩|(refine sp ?_ ?_<;>refine fun h=>⟨?_⟩)|fail
  · exact absurd h hq0
  conv => whnf
  refine .inl ⟨_, h1, ?_⟩
  rintro _ rfl
  repeat' first|refine sW ⟨?_⟩|(refine sp ?_ ?_<;>refine fun h=>⟨?_⟩)|fail
  conv => whnf
  refine .inl ⟨_, h2, ?_⟩
  rintro _ rfl
  repeat' first|refine sW ⟨?_⟩|(refine sp ?_ ?_<;>refine fun h=>⟨?_⟩)|fail
  conv => whnf
  refine .inl ⟨_, h3, ?_⟩
  rintro _ rfl
  repeat' first|refine sW ⟨?_⟩|(refine sp ?_ ?_<;>refine fun h=>⟨?_⟩)|fail
  conv => whnf
  refine .inl ⟨_, h2, ?_⟩
  rintro _ rfl
  repeat' first|refine sW ⟨?_⟩|(refine sp ?_ ?_<;>refine fun h=>⟨?_⟩)|fail
  conv => whnf
  refine .inl ⟨_, h4, ?_⟩
  rintro _ rfl
  repeat' first|refine sW ⟨?_⟩|(refine sp ?_ ?_<;>refine fun h=>⟨?_⟩)|fail
  conv => whnf
  refine .inl ⟨_, h5, ?_⟩
  rintro _ rfl
  repeat' first|refine sW ⟨?_⟩|(refine sp ?_ ?_<;>refine fun h=>⟨?_⟩)|fail
  conv => whnf
  refine .inl ⟨_, h6, ?_⟩
  rintro _ rfl
  cases hb : hasP p minusB
  · repeat' first|refine sW ⟨?_⟩|(refine sp ?_ ?_<;>refine fun h=>⟨?_⟩)|fail
    conv => whnf
    simp [lowP, lowQ, hb, one]
  · have hd0 : absW p / Nat.gcd (absW p) n ≠ 0 := by
      have h1 := Nat.div_pos (Nat.le_of_dvd (Nat.pos_of_ne_zero (L.neg hb)) (Nat.gcd_dvd_left (absW p) n)) hg0
      omega
    have h7 := c_WNeg gl (absW p / Nat.gcd (absW p) n) hd0 (by omega)
    repeat' first|refine sW ⟨?_⟩|(refine sp ?_ ?_<;>refine fun h=>⟨?_⟩)|fail
    conv => whnf
    refine .inl ⟨_, h7, ?_⟩
    rintro _ rfl
    repeat' first|refine sW ⟨?_⟩|(refine sp ?_ ?_<;>refine fun h=>⟨?_⟩)|fail
    conv => whnf
    simp [lowP, lowQ, hb, one]
end Go.V
namespace Go.V
open Go.N
def GL : Gl := [(0, [.iface 262 .j]), (1, [.iface 262 .j])]
theorem cutP_size (s : ByteArray) : (cutP s).1.size ≤ s.size ∧ (cutP s).2.1.size ≤ s.size := by
  have hl := Go.N.len_toList s
  unfold cutP
  split
  · rename_i k hk
    have := ixOf_lt hk
    refine ⟨?_, ?_⟩
    · rw [← Go.N.len_toList, toList_mk]; simp; omega
    · rw [← Go.N.len_toList, toList_mk]; simp; omega
  · exact ⟨Nat.le_refl _, Nat.zero_le _⟩
abbrev oneB : ByteArray := ⟨#[49]⟩
theorem one_decB : oneB = decB 1 := by decide +kernel
def ratQ (s : ByteArray) : ByteArray := if (cutP s).2.2 = true then (cutP s).2.1 else oneB
def ratOK1 (s : ByteArray) : Bool := isWhole (cutP s).1 && isNat (ratQ s).toList && !decide (ratQ s = ⟨#[48]⟩) && !((cutP s).2.2 && decide (ratQ s = oneB))
def ratN (s : ByteArray) : Nat := dval (ratQ s).toList
def ratOK (s : ByteArray) : Bool := ratOK1 s && decide (pairT (lowP (cutP s).1 (ratN s)) (lowQ (cutP s).1 (ratN s)) = s)
theorem low_size {p : ByteArray} {n : Nat} (hp : isWhole p = true) : (lowP p n).size ≤ p.size + 1 ∧ (lowQ p n).size ≤ (dec n).length := by
  have L := low_of (n := n) hp
  have ht := trimP_size p minusB
  have h1 : (dec (absW p / Nat.gcd (absW p) n)).length ≤ (dec (absW p)).length := dec_mono (Nat.div_le_self _ _)
  have h2 : (dec (n / Nat.gcd (absW p) n)).length ≤ (dec n).length := dec_mono (Nat.div_le_self _ _)
  have hl := L.len
  refine ⟨?_, by rw [lowQ, decB_size]; exact h2⟩
  unfold lowP
  split
  · rw [ByteArray.size_append, decB_size]
    have : minusB.size = 1 := rfl
    omega
  · rw [decB_size]; omega
set_option maxHeartbeats 4000000 in
theorem c_Rread (s : ByteArray) (hs : s.size < 190000) : VCall Go.Proofs.Tryz.prog GL 52 [.str s]
    (fun x => x = if ratOK s = true then .tup [.agg [.str (lowP (cutP s).1 (ratN s)), .str (lowQ (cutP s).1 (ratN s))], .nili] else .tup [.agg [.str ⟨#[]⟩, .str ⟨#[]⟩], .iface 123 .j]) := by
  refine vcall_of TOK_Rread HM Go.Proofs.Tryz.func52 rfl (by decide +kernel) (by decide +kernel) rfl ?_
  have hcs := cutP_size s
  have hc := c_Cut GL s (by omega)
  generalize hR : (if ratOK s = true then AV.tup [.agg [.str (lowP (cutP s).1 (ratN s)), .str (lowQ (cutP s).1 (ratN s))], .nili] else .tup [.agg [.str ⟨#[]⟩, .str ⟨#[]⟩], .iface 123 .j]) = R
  have hR0 : ratOK1 s = false → R = .tup [.agg [.str ⟨#[]⟩, .str ⟨#[]⟩], .iface 123 .j] := fun h => by
    rw [← hR, if_neg (by simp [ratOK, h])]
  obtain ⟨p, hp⟩ : ∃ p, p = (cutP s).1 := ⟨_, rfl⟩
  obtain ⟨q0, hq0⟩ : ∃ q, q = (cutP s).2.1 := ⟨_, rfl⟩
  rw [← hp, ← hq0] at hcs
  rw [← hp, ← hq0] at hc
  have hw := c_WRight GL p (by omega)
  cases htwo : (cutP s).2.2
  · rw [htwo] at hc
    have hq : ratQ s = oneB := by rw [ratQ, if_neg (by simp [htwo])]
    have hr := c_NRight GL oneB (by decide)
    have hn1 : isNat oneB.toList = true := by rw [one_decB, decB_toList]; exact isNat_dec 1
    rw [hn1] at hr
    cases hwp : isWhole p
    · rw [hwp] at hw
      have hbad : ratOK1 s = false := by simp [ratOK1, ← hp, hwp]
      rw [hR0 hbad]
      repeat' first|refine sW ⟨?_⟩|(refine sp ?_ ?_<;>refine fun h=>⟨?_⟩)|fail
      conv => whnf
      refine .inl ⟨_, hc, ?_⟩
      rintro _ rfl
      repeat' first|refine sW ⟨?_⟩|(refine sp ?_ ?_<;>refine fun h=>⟨?_⟩)|fail
      conv => whnf
      refine .inl ⟨_, hw, ?_⟩
      rintro _ rfl
      repeat' first|refine sW ⟨?_⟩|(refine sp ?_ ?_<;>refine fun h=>⟨?_⟩)|fail
      refine ⟨by decide +kernel, [0, 0, 0, 6, 14, 30, 1, 127], by decide +kernel, ?_⟩
      repeat' first|refine sW ⟨?_⟩|(refine sp ?_ ?_<;>refine fun h=>⟨?_⟩)|fail
      conv => whnf
      rfl
    · rw [hwp] at hw
      have hN : ratN s = 1 := by rw [ratN, hq, one_decB, dval_decB]
      have hok : ratOK1 s = true := by
        rw [ratOK1, ← hp, hwp, hq, hn1, htwo]
        have : ¬ oneB = ⟨#[48]⟩ := by decide
        simp [this]
      have L := low_of (n := 1) hwp
      have hd1 : (dec 1).length = 1 := by rw [dec_lt (by omega)]; rfl
      have hlw := c_Rlowest GL p 1 hwp (by omega) (by omega) (by omega)
      have hsz := low_size hwp (n := 1)
      have htx := c_Rtext GL (lowP p 1) (lowQ p 1) (by omega) (by omega)
      rw [← one_decB] at hlw
      rw [← hN] at hlw htx
      repeat' first|refine sW ⟨?_⟩|(refine sp ?_ ?_<;>refine fun h=>⟨?_⟩)|fail
      conv => whnf
      refine .inl ⟨_, hc, ?_⟩
      rintro _ rfl
      repeat' first|refine sW ⟨?_⟩|(refine sp ?_ ?_<;>refine fun h=>⟨?_⟩)|fail
      conv => whnf
      refine .inl ⟨_, hw, ?_⟩
      rintro _ rfl
      repeat' first|refine sW ⟨?_⟩|(refine sp ?_ ?_<;>refine fun h=>⟨?_⟩)|fail
      conv => whnf
      refine .inl ⟨_, hr, ?_⟩
      rintro _ rfl
      repeat' first|refine sW ⟨?_⟩|(refine sp ?_ ?_<;>refine fun h=>⟨?_⟩)|fail
      conv => whnf
      refine .inl ⟨_, hlw, ?_⟩
      rintro _ rfl
      repeat' first|refine sW ⟨?_⟩|(refine sp ?_ ?_<;>refine fun h=>⟨?_⟩)|fail
      conv => whnf
      refine .inl ⟨_, htx, ?_⟩
      rintro _ rfl
      by_cases heq : pairT (lowP p (ratN s)) (lowQ p (ratN s)) = s
      · have hfin : R = .tup [.agg [.str (lowP p (ratN s)), .str (lowQ p (ratN s))], .nili] := by
          rw [← hR, if_pos (by rw [ratOK, hok, ← hp]; simp [heq]), ← hp]
        rw [hfin]
        repeat' first|refine sW ⟨?_⟩|(refine sp ?_ ?_<;>refine fun h=>⟨?_⟩)|fail
        · exact absurd heq (by simpa using h)
        conv => whnf
        rfl
      · have hfin : R = .tup [.agg [.str ⟨#[]⟩, .str ⟨#[]⟩], .iface 123 .j] := by
          rw [← hR, if_neg (by rw [ratOK, hok, ← hp]; simp [heq])]
        rw [hfin]
        repeat' first|refine sW ⟨?_⟩|(refine sp ?_ ?_<;>refine fun h=>⟨?_⟩)|fail
        rotate_left
        · exact absurd (by simpa using h) heq
        refine ⟨by decide +kernel, [0, 0, 0, 6, 14, 30, 1, 127], by decide +kernel, ?_⟩
        repeat' first|refine sW ⟨?_⟩|(refine sp ?_ ?_<;>refine fun h=>⟨?_⟩)|fail
        conv => whnf
        rfl
  · rw [htwo] at hc
    have hq : ratQ s = q0 := by rw [ratQ, if_pos htwo, hq0]
    have hr := c_NRight GL q0 (by omega)
    cases hwp : isWhole p
    · rw [hwp] at hw
      have hbad : ratOK1 s = false := by simp [ratOK1, ← hp, hwp]
      rw [hR0 hbad]
      repeat' first|refine sW ⟨?_⟩|(refine sp ?_ ?_<;>refine fun h=>⟨?_⟩)|fail
      conv => whnf
      refine .inl ⟨_, hc, ?_⟩
      rintro _ rfl
      repeat' first|refine sW ⟨?_⟩|(refine sp ?_ ?_<;>refine fun h=>⟨?_⟩)|fail
      conv => whnf
      refine .inl ⟨_, hw, ?_⟩
      rintro _ rfl
      repeat' first|refine sW ⟨?_⟩|(refine sp ?_ ?_<;>refine fun h=>⟨?_⟩)|fail
      refine ⟨by decide +kernel, [0, 0, 0, 6, 14, 30, 1, 127], by decide +kernel, ?_⟩
      repeat' first|refine sW ⟨?_⟩|(refine sp ?_ ?_<;>refine fun h=>⟨?_⟩)|fail
      conv => whnf
      rfl
    · rw [hwp] at hw
      cases hn1 : isNat q0.toList
      · rw [hn1] at hr
        have hbad : ratOK1 s = false := by simp [ratOK1, hq, hn1]
        rw [hR0 hbad]
        repeat' first|refine sW ⟨?_⟩|(refine sp ?_ ?_<;>refine fun h=>⟨?_⟩)|fail
        conv => whnf
        refine .inl ⟨_, hc, ?_⟩
        rintro _ rfl
        repeat' first|refine sW ⟨?_⟩|(refine sp ?_ ?_<;>refine fun h=>⟨?_⟩)|fail
        conv => whnf
        refine .inl ⟨_, hw, ?_⟩
        rintro _ rfl
        repeat' first|refine sW ⟨?_⟩|(refine sp ?_ ?_<;>refine fun h=>⟨?_⟩)|fail
        conv => whnf
        refine .inl ⟨_, hr, ?_⟩
        rintro _ rfl
        repeat' first|refine sW ⟨?_⟩|(refine sp ?_ ?_<;>refine fun h=>⟨?_⟩)|fail
        refine ⟨by decide +kernel, [0, 0, 0, 6, 14, 30, 1, 127], by decide +kernel, ?_⟩
        repeat' first|refine sW ⟨?_⟩|(refine sp ?_ ?_<;>refine fun h=>⟨?_⟩)|fail
        conv => whnf
        rfl
      · rw [hn1] at hr
        have hqd := isNat_decB hn1
        have hN : ratN s = dval q0.toList := by rw [ratN, hq]
        by_cases hz : q0 = ⟨#[48]⟩
        · have hbad : ratOK1 s = false := by simp [ratOK1, hq, hz]
          rw [hR0 hbad]
          repeat' first|refine sW ⟨?_⟩|(refine sp ?_ ?_<;>refine fun h=>⟨?_⟩)|fail
          conv => whnf
          refine .inl ⟨_, hc, ?_⟩
          rintro _ rfl
          repeat' first|refine sW ⟨?_⟩|(refine sp ?_ ?_<;>refine fun h=>⟨?_⟩)|fail
          conv => whnf
          refine .inl ⟨_, hw, ?_⟩
          rintro _ rfl
          repeat' first|refine sW ⟨?_⟩|(refine sp ?_ ?_<;>refine fun h=>⟨?_⟩)|fail
          conv => whnf
          refine .inl ⟨_, hr, ?_⟩
          rintro _ rfl
          repeat' first|refine sW ⟨?_⟩|(refine sp ?_ ?_<;>refine fun h=>⟨?_⟩)|fail
          all_goals first | exact absurd hz (by assumption) | skip
          refine ⟨by decide +kernel, [0, 0, 0, 6, 14, 30, 1, 127], by decide +kernel, ?_⟩
          repeat' first|refine sW ⟨?_⟩|(refine sp ?_ ?_<;>refine fun h=>⟨?_⟩)|fail
          conv => whnf
          rfl
        · by_cases h1 : q0 = oneB
          · have hbad : ratOK1 s = false := by simp [ratOK1, hq, h1, htwo]
            rw [hR0 hbad]
            repeat' first|refine sW ⟨?_⟩|(refine sp ?_ ?_<;>refine fun h=>⟨?_⟩)|fail
            conv => whnf
            refine .inl ⟨_, hc, ?_⟩
            rintro _ rfl
            repeat' first|refine sW ⟨?_⟩|(refine sp ?_ ?_<;>refine fun h=>⟨?_⟩)|fail
            conv => whnf
            refine .inl ⟨_, hw, ?_⟩
            rintro _ rfl
            repeat' first|refine sW ⟨?_⟩|(refine sp ?_ ?_<;>refine fun h=>⟨?_⟩)|fail
            conv => whnf
            refine .inl ⟨_, hr, ?_⟩
            rintro _ rfl
            repeat' first|refine sW ⟨?_⟩|(refine sp ?_ ?_<;>refine fun h=>⟨?_⟩)|fail
            all_goals first | exact absurd h1 (by assumption) | exact absurd (by assumption) hz | skip
            refine ⟨by decide +kernel, [0, 0, 0, 6, 14, 30, 1, 127], by decide +kernel, ?_⟩
            repeat' first|refine sW ⟨?_⟩|(refine sp ?_ ?_<;>refine fun h=>⟨?_⟩)|fail
            conv => whnf
            rfl
          · have hok : ratOK1 s = true := by
              rw [ratOK1, ← hp, hwp, hq, hn1, htwo]
              simp [hz, h1]
            have hn0 : dval q0.toList ≠ 0 := fun e => hz (by rw [hqd, e, zero_decB])
            have hdl : (dec (dval q0.toList)).length = q0.size := by rw [← decB_size, ← hqd]
            have hlw := c_Rlowest GL p (dval q0.toList) hwp hn0 (by omega) (by omega)
            have hsz := low_size hwp (n := dval q0.toList)
            have htx := c_Rtext GL (lowP p (dval q0.toList)) (lowQ p (dval q0.toList)) (by omega) (by omega)
            rw [← hqd] at hlw
            rw [← hN] at hlw htx
            repeat' first|refine sW ⟨?_⟩|(refine sp ?_ ?_<;>refine fun h=>⟨?_⟩)|fail
            conv => whnf
            refine .inl ⟨_, hc, ?_⟩
            rintro _ rfl
            repeat' first|refine sW ⟨?_⟩|(refine sp ?_ ?_<;>refine fun h=>⟨?_⟩)|fail
            conv => whnf
            refine .inl ⟨_, hw, ?_⟩
            rintro _ rfl
            repeat' first|refine sW ⟨?_⟩|(refine sp ?_ ?_<;>refine fun h=>⟨?_⟩)|fail
            conv => whnf
            refine .inl ⟨_, hr, ?_⟩
            rintro _ rfl
            repeat' first|refine sW ⟨?_⟩|(refine sp ?_ ?_<;>refine fun h=>⟨?_⟩)|fail
            all_goals first | exact absurd (by assumption) h1 | exact absurd (by assumption) hz | skip
            conv => whnf
            refine .inl ⟨_, hlw, ?_⟩
            rintro _ rfl
            repeat' first|refine sW ⟨?_⟩|(refine sp ?_ ?_<;>refine fun h=>⟨?_⟩)|fail
            conv => whnf
            refine .inl ⟨_, htx, ?_⟩
            rintro _ rfl
            by_cases heq : pairT (lowP p (ratN s)) (lowQ p (ratN s)) = s
            · have hfin : R = .tup [.agg [.str (lowP p (ratN s)), .str (lowQ p (ratN s))], .nili] := by
                rw [← hR, if_pos (by rw [ratOK, hok, ← hp]; simp [heq]), ← hp]
              rw [hfin]
              repeat' first|refine sW ⟨?_⟩|(refine sp ?_ ?_<;>refine fun h=>⟨?_⟩)|fail
              · exact absurd heq (by simpa using h)
              conv => whnf
              rfl
            · have hfin : R = .tup [.agg [.str ⟨#[]⟩, .str ⟨#[]⟩], .iface 123 .j] := by
                rw [← hR, if_neg (by rw [ratOK, hok, ← hp]; simp [heq])]
              rw [hfin]
              repeat' first|refine sW ⟨?_⟩|(refine sp ?_ ?_<;>refine fun h=>⟨?_⟩)|fail
              rotate_left
              · exact absurd (by simpa using h) heq
              refine ⟨by decide +kernel, [0, 0, 0, 6, 14, 30, 1, 127], by decide +kernel, ?_⟩
              repeat' first|refine sW ⟨?_⟩|(refine sp ?_ ?_<;>refine fun h=>⟨?_⟩)|fail
              conv => whnf
              rfl
end Go.V
namespace Go.V
open Go.N
theorem c_RRight (s : ByteArray) (hs : s.size < 190000) : VCall Go.Proofs.Tryz.prog GL 32 [.str s] (fun x => x = .bool (ratOK s)) := by
  refine vcall_of TOK_RRight HM Go.Proofs.Tryz.func32 rfl (by decide +kernel) (by decide +kernel) rfl ?_
  have h := c_Rread s hs
  cases hb : ratOK s
  · rw [if_neg (by simp [hb])] at h
    repeat' first|refine sW ⟨?_⟩|(refine sp ?_ ?_<;>refine fun h=>⟨?_⟩)|fail
    conv => whnf
    refine .inl ⟨_, h, ?_⟩
    rintro _ rfl
    repeat' first|refine sW ⟨?_⟩|(refine sp ?_ ?_<;>refine fun h=>⟨?_⟩)|fail
    conv => whnf
    rfl
  · rw [if_pos hb] at h
    repeat' first|refine sW ⟨?_⟩|(refine sp ?_ ?_<;>refine fun h=>⟨?_⟩)|fail
    conv => whnf
    refine .inl ⟨_, h, ?_⟩
    rintro _ rfl
    repeat' first|refine sW ⟨?_⟩|(refine sp ?_ ?_<;>refine fun h=>⟨?_⟩)|fail
    conv => whnf
    rfl
variable (gl : Gl)
set_option maxHeartbeats 4000000 in
theorem c_r03_Lowest (p : ByteArray) (n : Nat) (hw : isWhole p = true) (hn0 : n ≠ 0) (hp : p.size < 200000) (hn : (dec n).length < 200000) : VCall Go.Proofs.Tryz.prog gl 128 [.str p, .str (decB n)]
    (fun x => x = .agg [.str (lowP p n), .str (lowQ p n)]) := by
  refine vcall_of TOK_r03_Lowest HM Go.Proofs.Tryz.func128 rfl (by decide +kernel) (by decide +kernel) rfl ?_
  have L := low_of (n := n) hw
  have ht := trimP_size p minusB
  have hlen := L.len
  have hz := decB_size n
  have hzp := List.length_pos_iff.2 (dec_ne n)
  have hg0 : 0 < Nat.gcd (absW p) n := Nat.gcd_pos_of_pos_right _ (by omega)
  have hgl : (dec (Nat.gcd (absW p) n)).length ≤ (dec n).length := dec_mono (Nat.gcd_le_right _ (by omega))
  have hql : (dec (absW p / Nat.gcd (absW p) n)).length ≤ (dec (absW p)).length := dec_mono (Nat.div_le_self _ _)
  have hzq := decB_size (absW p / Nat.gcd (absW p) n)
  have hpp : 0 < p.size := by
    rcases Nat.eq_zero_or_pos p.size with h | h
    · have h1 : (trimP p minusB).size = 0 := by omega
      have := List.length_pos_iff.2 (dec_ne (absW p))
      omega
    · exact h
  have h1 := c_r02_Sign gl (decB n) (by omega) (by omega)
  rw [if_neg (by simp [L.qneg]), if_neg (fun e => hn0 (decB_inj.1 e))] at h1
  have h2 := c_r02_Size gl p (by omega)
  rw [L.tr] at h2
  have h3 := c_r01_Gcd gl (absW p) n (by omega) (by omega)
  have h4 := c_r01_Div gl (absW p) (Nat.gcd (absW p) n) hg0 (by omega) (by omega)
  have h5 := c_r01_Div gl n (Nat.gcd (absW p) n) hg0 (by omega) (by omega)
  have h6 := c_r02_Sign gl p (by omega) hpp
  repeat' first|refine sW ⟨?_⟩|(refine sp ?_ ?_<;>refine fun h=>⟨?_⟩)|fail
  conv => whnf
  refine .inl ⟨_, h1, ?_⟩
  rintro _ rfl
  repeat' first|refine sW ⟨?_⟩|(refine sp ?_ ?_<;>refine fun h=>⟨?_⟩)|fail
  conv => whnf
  refine .inl ⟨_, h2, ?_⟩
  rintro _ rfl
  repeat' first|refine sW ⟨?_⟩|(refine sp ?_ ?_<;>refine fun h=>⟨?_⟩)|fail
  conv => whnf
  refine .inl ⟨_, h3, ?_⟩
  rintro _ rfl
  repeat' first|refine sW ⟨?_⟩|(refine sp ?_ ?_<;>refine fun h=>⟨?_⟩)|fail
  conv => whnf
  refine .inl ⟨_, h4, ?_⟩
  rintro _ rfl
  repeat' first|refine sW ⟨?_⟩|(refine sp ?_ ?_<;>refine fun h=>⟨?_⟩)|fail
  conv => whnf
  refine .inl ⟨_, h5, ?_⟩
  rintro _ rfl
  repeat' first|refine sW ⟨?_⟩|(refine sp ?_ ?_<;>refine fun h=>⟨?_⟩)|fail
  conv => whnf
  cases hb : hasP p minusB
  · obtain ⟨r, hr, h6⟩ : ∃ r : Int, 0 ≤ r ∧ VCall Go.Proofs.Tryz.prog gl 163 [.str p] (fun x => x = .int .i64 r) := by
      rw [if_neg (by simp [hb])] at h6
      exact ⟨_, by split <;> omega, h6⟩
    refine .inl ⟨_, h6, ?_⟩
    rintro _ rfl
    repeat' first|refine sW ⟨?_⟩|(refine sp ?_ ?_<;>refine fun h=>⟨?_⟩)|fail
    · exact absurd h (by omega)
    conv => whnf
    simp [lowP, lowQ, hb, one]
  · rw [if_pos hb] at h6
    refine .inl ⟨_, h6, ?_⟩
    rintro _ rfl
    repeat' first|refine sW ⟨?_⟩|(refine sp ?_ ?_<;>refine fun h=>⟨?_⟩)|fail
    refine ⟨(show 1 + (decB (absW p / Nat.gcd (absW p) n)).size ≤ _ by omega), ?_⟩
    repeat' first|refine sW ⟨?_⟩|(refine sp ?_ ?_<;>refine fun h=>⟨?_⟩)|fail
    conv => whnf
    simp [lowP, lowQ, hb, one]
end Go.V
namespace Go.V
open Go.N
variable (gl : Gl)
def atF (s : ByteArray) (j : Nat) : Nat := match ixOf 47 (s.toList.drop j) with | some k => j + k | none => s.size
theorem atF_step (s : ByteArray) (j : Nat) (h : j < s.toList.length) : atF s j = if s.toList[j] = 47 then j else atF s (j + 1) := by
  unfold atF
  rw [List.drop_eq_getElem_cons h]
  by_cases h47 : s.toList[j] = 47
  · simp [ixOf, h47]
  · simp only [ixOf, h47, if_false]
    cases ixOf 47 (s.toList.drop (j + 1)) with
    | none => rfl
    | some k => simp only [Option.map_some]; omega
set_option maxHeartbeats 4000000 in
theorem c_r03_Read (s : ByteArray) (hs : s.size < 190000) : VCall Go.Proofs.Tryz.prog gl 71 [.str s]
    (fun x => ∃ p q, x = .tup [.agg [.str p, .str q], .bool (ratOK s)] ∧ (ratOK s = true → p = lowP (cutP s).1 (ratN s) ∧ q = lowQ (cutP s).1 (ratN s))) := by
  refine vcall_of TOK_r03_Read HM Go.Proofs.Tryz.func71 rfl (by decide +kernel) (by decide +kernel) rfl ?_
  have hl := Go.N.len_toList s
  repeat' first|refine sW ⟨?_⟩|(refine sp ?_ ?_<;>refine fun h=>⟨?_⟩)|fail
  refine ⟨[0, 2, 4, 5], [0], fun kk st => ∃ j : Nat, j ≤ s.size ∧ kk = j ∧ st = ⟨[(0, .str s), (2, .bptr 0 0), (4, .int .i64 ((atF s j : Nat) : Int)), (5, .int .i64 ((j : Int) - 1))], [.box 100 [.str ⟨#[]⟩, .str ⟨#[]⟩]]⟩, rfl, ⟨s.size, s.size, by omega, rfl, ?_⟩, ?_⟩
  · have e : atF s s.size = s.size := by
      unfold atF
      rw [List.drop_of_length_le (by omega)]; rfl
    exact Eq.trans rfl (congrArg (fun z : Nat => (⟨[(0, .str s), (2, .bptr 0 0), (4, .int .i64 ((z : Nat) : Int)), (5, .int .i64 (((s.size : Nat) : Int) - 1))], [.box 100 [.str ⟨#[]⟩, .str ⟨#[]⟩]]⟩ : St)) e.symm)
  rintro kk _ ⟨j, hj, hkk, rfl⟩
  rcases j with _ | j
  · have hcs := cutP_size s
    obtain ⟨p, hp⟩ : ∃ p, p = (cutP s).1 := ⟨_, rfl⟩
    obtain ⟨q, hq⟩ : ∃ q, q = ratQ s := ⟨_, rfl⟩
    have hqs : q.size ≤ s.size + 1 := by
      rw [hq, ratQ]
      split
      · omega
      · exact Nat.le_add_left 1 _
    rw [← hp] at hcs
    cases hix : ixOf 47 s.toList with
    | none =>
      have hat : atF s 0 = s.size := by simp only [atF, List.drop_zero, hix]
      have hcut : cutP s = (s, ⟨#[]⟩, false) := by simp only [cutP, hix]
      have htwo : (cutP s).2.2 = false := by rw [hcut]
      have e1 : s.extract (0 : Int).toNat ((s.size : Nat) : Int).toNat = p := by
        rw [hp, hcut]
        refine toList_inj ?_
        rw [ext_toList, List.take_of_length_le (by simp [hl])]; simp
      have e2 : oneB = q := by rw [hq, ratQ, if_neg (by simp [htwo])]
      rw [hat]
      have hw : VCall Go.Proofs.Tryz.prog gl 126 [.str (s.extract (0 : Int).toNat ((s.size : Nat) : Int).toNat)] (fun x => x = .bool (isWhole p)) := by rw [e1]; exact c_r02_Right gl p (by omega)
      have hr : VCall Go.Proofs.Tryz.prog gl 127 [.str oneB] (fun x => x = .bool (isNat q.toList)) := by rw [e2]; exact c_r01_Right q gl (by omega)
      cases hwp : isWhole p
      · rw [hwp] at hw
        have hok1 : ratOK1 s = false := by simp [ratOK1, ← hp, hwp]
        repeat' first|refine sW ⟨?_⟩|(refine sp ?_ ?_<;>refine fun h=>⟨?_⟩)|fail
        all_goals try omega
        conv => whnf
        refine .inl ⟨_, hw, ?_⟩
        rintro _ rfl
        repeat' first|refine sW ⟨?_⟩|(refine sp ?_ ?_<;>refine fun h=>⟨?_⟩)|fail
        have hbad : ratOK s = false := by rw [ratOK, hok1]; rfl
        conv => whnf
        exact ⟨_, _, by rw [hbad]; rfl, fun h => by rw [hbad] at h; cases h⟩
      rw [hwp] at hw
      cases hnq : isNat q.toList
      · rw [hnq] at hr
        have hok1 : ratOK1 s = false := by simp [ratOK1, ← hq, hnq]
        repeat' first|refine sW ⟨?_⟩|(refine sp ?_ ?_<;>refine fun h=>⟨?_⟩)|fail
        all_goals try omega
        conv => whnf
        refine .inl ⟨_, hw, ?_⟩
        rintro _ rfl
        repeat' first|refine sW ⟨?_⟩|(refine sp ?_ ?_<;>refine fun h=>⟨?_⟩)|fail
        conv => whnf
        refine .inl ⟨_, hr, ?_⟩
        rintro _ rfl
        repeat' first|refine sW ⟨?_⟩|(refine sp ?_ ?_<;>refine fun h=>⟨?_⟩)|fail
        have hbad : ratOK s = false := by rw [ratOK, hok1]; rfl
        conv => whnf
        exact ⟨_, _, by rw [hbad]; rfl, fun h => by rw [hbad] at h; cases h⟩
      rw [hnq] at hr
      have hqd := isNat_decB hnq
      have hN : ratN s = dval q.toList := by rw [ratN, ← hq]
      have hz : ¬ q = ⟨#[48]⟩ := by rw [← e2]; decide
      by_cases h1 : (cutP s).2.2 = true ∧ q = oneB
      · have hok1 : ratOK1 s = false := by simp [ratOK1, ← hq, h1.1, h1.2]
        exact absurd (htwo.symm.trans h1.1) (by decide)
      have hok1 : ratOK1 s = true := by
        rw [ratOK1, ← hp, hwp, ← hq, hnq]
        cases h2 : (cutP s).2.2
        · simp [hz]
        · have : ¬ q = oneB := fun e => h1 ⟨h2, e⟩
          simp [hz, this]
      have hn0 : dval q.toList ≠ 0 := fun e => hz (by rw [hqd, e, zero_decB])
      have hdl : (dec (dval q.toList)).length = q.size := by rw [← decB_size, ← hqd]
      have hsz := low_size hwp (n := dval q.toList)
      have hlw : VCall Go.Proofs.Tryz.prog gl 128 [.str (s.extract (0 : Int).toNat ((s.size : Nat) : Int).toNat), .str oneB] (fun x => x = .agg [.str (lowP p (ratN s)), .str (lowQ p (ratN s))]) := by
        rw [e1, e2, hN, hqd, dval_decB]
        exact c_r03_Lowest gl p (dval q.toList) hwp hn0 (by omega) (by omega)
      have htx : VCall Go.Proofs.Tryz.prog gl 129 [.agg [.str (lowP p (ratN s)), .str (lowQ p (ratN s))]] (fun x => x = .str (pairT (lowP p (ratN s)) (lowQ p (ratN s)))) := by
        rw [hN]
        exact c_r03_Text gl _ _ (by omega) (by omega)
      have hfin : ratOK s = decide (pairT (lowP p (ratN s)) (lowQ p (ratN s)) = s) := by rw [ratOK, hok1, ← hp]; simp
      repeat' first|refine sW ⟨?_⟩|(refine sp ?_ ?_<;>refine fun h=>⟨?_⟩)|fail
      all_goals try omega
      conv => whnf
      refine .inl ⟨_, hw, ?_⟩
      rintro _ rfl
      repeat' first|refine sW ⟨?_⟩|(refine sp ?_ ?_<;>refine fun h=>⟨?_⟩)|fail
      conv => whnf
      refine .inl ⟨_, hr, ?_⟩
      rintro _ rfl
      repeat' first|refine sW ⟨?_⟩|(refine sp ?_ ?_<;>refine fun h=>⟨?_⟩)|fail
      all_goals try omega
      skip
      conv => whnf
      refine .inl ⟨_, hlw, ?_⟩
      rintro _ rfl
      repeat' first|refine sW ⟨?_⟩|(refine sp ?_ ?_<;>refine fun h=>⟨?_⟩)|fail
      refine ⟨by decide +kernel, [0, 0, 2, 0, 14, 7, 63], by decide +kernel, ?_⟩
      repeat' first|refine sW ⟨?_⟩|(refine sp ?_ ?_<;>refine fun h=>⟨?_⟩)|fail
      conv => whnf
      refine .inl ⟨_, htx, ?_⟩
      repeat' first|refine sW ⟨?_⟩|(refine sp ?_ ?_<;>refine fun h=>⟨?_⟩)|fail
      conv => whnf
      rw [← hp, hfin]
      exact ⟨_, _, rfl, fun _ => ⟨rfl, rfl⟩⟩
    | some k =>
      have hk := ixOf_lt hix
      have hat : atF s 0 = k := by simp only [atF, List.drop_zero, hix]; omega
      have hcut : cutP s = (⟨(s.toList.take k).toArray⟩, ⟨(s.toList.drop (k + 1)).toArray⟩, true) := by simp only [cutP, hix]
      have htwo : (cutP s).2.2 = true := by rw [hcut]
      have e1 : s.extract (0 : Int).toNat ((k : Nat) : Int).toNat = p := by
        rw [hp, hcut]
        refine toList_inj ?_
        rw [ext_toList, toList_mk]; simp
      have e2 : s.extract ((k : Int) + 1).toNat ((s.size : Nat) : Int).toNat = q := by
        rw [hq, ratQ, if_pos htwo, hcut]
        refine toList_inj ?_
        rw [ext_toList, show ((k : Int) + 1).toNat = k + 1 by omega, Int.toNat_natCast, List.take_of_length_le (l := s.toList.drop (k + 1)) (by simp [hl])]
        exact (toList_mk _).symm
      rw [hat]
      have hw : VCall Go.Proofs.Tryz.prog gl 126 [.str (s.extract (0 : Int).toNat ((k : Nat) : Int).toNat)] (fun x => x = .bool (isWhole p)) := by rw [e1]; exact c_r02_Right gl p (by omega)
      have hr : VCall Go.Proofs.Tryz.prog gl 127 [.str (s.extract ((k : Int) + 1).toNat ((s.size : Nat) : Int).toNat)] (fun x => x = .bool (isNat q.toList)) := by rw [e2]; exact c_r01_Right q gl (by omega)
      cases hwp : isWhole p
      · rw [hwp] at hw
        have hok1 : ratOK1 s = false := by simp [ratOK1, ← hp, hwp]
        repeat' first|refine sW ⟨?_⟩|(refine sp ?_ ?_<;>refine fun h=>⟨?_⟩)|fail
        all_goals try omega
        conv => whnf
        refine .inl ⟨_, hw, ?_⟩
        rintro _ rfl
        repeat' first|refine sW ⟨?_⟩|(refine sp ?_ ?_<;>refine fun h=>⟨?_⟩)|fail
        have hbad : ratOK s = false := by rw [ratOK, hok1]; rfl
        conv => whnf
        exact ⟨_, _, by rw [hbad]; rfl, fun h => by rw [hbad] at h; cases h⟩
      rw [hwp] at hw
      cases hnq : isNat q.toList
      · rw [hnq] at hr
        have hok1 : ratOK1 s = false := by simp [ratOK1, ← hq, hnq]
        repeat' first|refine sW ⟨?_⟩|(refine sp ?_ ?_<;>refine fun h=>⟨?_⟩)|fail
        all_goals try omega
        conv => whnf
        refine .inl ⟨_, hw, ?_⟩
        rintro _ rfl
        repeat' first|refine sW ⟨?_⟩|(refine sp ?_ ?_<;>refine fun h=>⟨?_⟩)|fail
        conv => whnf
        refine .inl ⟨_, hr, ?_⟩
        rintro _ rfl
        repeat' first|refine sW ⟨?_⟩|(refine sp ?_ ?_<;>refine fun h=>⟨?_⟩)|fail
        have hbad : ratOK s = false := by rw [ratOK, hok1]; rfl
        conv => whnf
        exact ⟨_, _, by rw [hbad]; rfl, fun h => by rw [hbad] at h; cases h⟩
      rw [hnq] at hr
      have hqd := isNat_decB hnq
      have hN : ratN s = dval q.toList := by rw [ratN, ← hq]
      by_cases hz : q = ⟨#[48]⟩
      · have hok1 : ratOK1 s = false := by simp [ratOK1, ← hq, hz]
        repeat' first|refine sW ⟨?_⟩|(refine sp ?_ ?_<;>refine fun h=>⟨?_⟩)|fail
        all_goals try omega
        conv => whnf
        refine .inl ⟨_, hw, ?_⟩
        rintro _ rfl
        repeat' first|refine sW ⟨?_⟩|(refine sp ?_ ?_<;>refine fun h=>⟨?_⟩)|fail
        conv => whnf
        refine .inl ⟨_, hr, ?_⟩
        rintro _ rfl
        repeat' first|refine sW ⟨?_⟩|(refine sp ?_ ?_<;>refine fun h=>⟨?_⟩)|fail
        all_goals first | exact absurd (e2.trans hz) (by assumption) | skip
        have hbad : ratOK s = false := by rw [ratOK, hok1]; rfl
        conv => whnf
        exact ⟨_, _, by rw [hbad]; rfl, fun h => by rw [hbad] at h; cases h⟩
      have hz2 : ¬ s.extract ((k : Int) + 1).toNat ((s.size : Nat) : Int).toNat = ⟨#[48]⟩ := fun e => hz (e2.symm.trans e)
      by_cases hone : q = oneB
      · have hok1 : ratOK1 s = false := by simp [ratOK1, ← hq, hone, htwo]
        repeat' first|refine sW ⟨?_⟩|(refine sp ?_ ?_<;>refine fun h=>⟨?_⟩)|fail
        all_goals try omega
        conv => whnf
        refine .inl ⟨_, hw, ?_⟩
        rintro _ rfl
        repeat' first|refine sW ⟨?_⟩|(refine sp ?_ ?_<;>refine fun h=>⟨?_⟩)|fail
        conv => whnf
        refine .inl ⟨_, hr, ?_⟩
        rintro _ rfl
        repeat' first|refine sW ⟨?_⟩|(refine sp ?_ ?_<;>refine fun h=>⟨?_⟩)|fail
        all_goals try omega
        all_goals first | exact absurd (e2.trans hone) (by assumption) | exact absurd (by assumption) hz2 | skip
        have hbad : ratOK s = false := by rw [ratOK, hok1]; rfl
        conv => whnf
        exact ⟨_, _, by rw [hbad]; rfl, fun h => by rw [hbad] at h; cases h⟩
      by_cases h1 : (cutP s).2.2 = true ∧ q = oneB
      · have hok1 : ratOK1 s = false := by simp [ratOK1, ← hq, h1.1, h1.2]
        exact absurd h1.2 hone
      have hok1 : ratOK1 s = true := by
        rw [ratOK1, ← hp, hwp, ← hq, hnq]
        cases h2 : (cutP s).2.2
        · simp [hz]
        · have : ¬ q = oneB := fun e => h1 ⟨h2, e⟩
          simp [hz, this]
      have hn0 : dval q.toList ≠ 0 := fun e => hz (by rw [hqd, e, zero_decB])
      have hdl : (dec (dval q.toList)).length = q.size := by rw [← decB_size, ← hqd]
      have hsz := low_size hwp (n := dval q.toList)
      have hlw : VCall Go.Proofs.Tryz.prog gl 128 [.str (s.extract (0 : Int).toNat ((k : Nat) : Int).toNat), .str (s.extract ((k : Int) + 1).toNat ((s.size : Nat) : Int).toNat)] (fun x => x = .agg [.str (lowP p (ratN s)), .str (lowQ p (ratN s))]) := by
        rw [e1, e2, hN, hqd, dval_decB]
        exact c_r03_Lowest gl p (dval q.toList) hwp hn0 (by omega) (by omega)
      have htx : VCall Go.Proofs.Tryz.prog gl 129 [.agg [.str (lowP p (ratN s)), .str (lowQ p (ratN s))]] (fun x => x = .str (pairT (lowP p (ratN s)) (lowQ p (ratN s)))) := by
        rw [hN]
        exact c_r03_Text gl _ _ (by omega) (by omega)
      have hfin : ratOK s = decide (pairT (lowP p (ratN s)) (lowQ p (ratN s)) = s) := by rw [ratOK, hok1, ← hp]; simp
      repeat' first|refine sW ⟨?_⟩|(refine sp ?_ ?_<;>refine fun h=>⟨?_⟩)|fail
      all_goals try omega
      conv => whnf
      refine .inl ⟨_, hw, ?_⟩
      rintro _ rfl
      repeat' first|refine sW ⟨?_⟩|(refine sp ?_ ?_<;>refine fun h=>⟨?_⟩)|fail
      conv => whnf
      refine .inl ⟨_, hr, ?_⟩
      rintro _ rfl
      repeat' first|refine sW ⟨?_⟩|(refine sp ?_ ?_<;>refine fun h=>⟨?_⟩)|fail
      all_goals try omega
      all_goals first | exact absurd ⟨htwo, e2.symm.trans (by assumption)⟩ h1 | exact absurd (by assumption) hz2 | skip
      conv => whnf
      refine .inl ⟨_, hlw, ?_⟩
      rintro _ rfl
      repeat' first|refine sW ⟨?_⟩|(refine sp ?_ ?_<;>refine fun h=>⟨?_⟩)|fail
      refine ⟨by decide +kernel, [0, 0, 2, 0, 14, 7, 63], by decide +kernel, ?_⟩
      repeat' first|refine sW ⟨?_⟩|(refine sp ?_ ?_<;>refine fun h=>⟨?_⟩)|fail
      conv => whnf
      refine .inl ⟨_, htx, ?_⟩
      repeat' first|refine sW ⟨?_⟩|(refine sp ?_ ?_<;>refine fun h=>⟨?_⟩)|fail
      conv => whnf
      rw [← hp, hfin]
      exact ⟨_, _, rfl, fun _ => ⟨rfl, rfl⟩⟩
  · have hjl : j < s.toList.length := by omega
    have hst := atF_step s j hjl
    have h47 : s.toList[j] = 47 ↔ ((s.toList[j].toNat : Nat) : Int) = 47 := by
      rw [← UInt8.toNat_inj]; simp; omega
    rw [show ((j + 1 : Nat) : Int) - 1 = j by omega]
    repeat' first|refine sW ⟨?_⟩|(refine sp ?_ ?_<;>refine fun h=>⟨?_⟩)|fail
    · have e : (j : Nat) = atF s j := by rw [hst, if_pos (h47.2 h)]
      exact ⟨[0], j, rfl, by omega, j, by omega, rfl, Eq.trans rfl (congrArg (fun z : Nat => (⟨[(0, .str s), (2, .bptr 0 0), (4, .int .i64 ((z : Nat) : Int)), (5, .int .i64 ((j : Int) - 1))], [.box 100 [.str ⟨#[]⟩, .str ⟨#[]⟩]]⟩ : St)) e)⟩
    · have e : atF s (j + 1) = atF s j := by rw [hst, if_neg (fun e => h (h47.1 e))]
      exact ⟨[0], j, rfl, by omega, j, by omega, rfl, Eq.trans rfl (congrArg (fun z : Nat => (⟨[(0, .str s), (2, .bptr 0 0), (4, .int .i64 ((z : Nat) : Int)), (5, .int .i64 ((j : Int) - 1))], [.box 100 [.str ⟨#[]⟩, .str ⟨#[]⟩]]⟩ : St)) e)⟩
end Go.V
namespace Go.V
open Go.N
open Go.RowKit
mutual
def RoTo : AV → AV → Prop
  | .fr _ sz es, y => y = .ro sz es
  | .nils, y => ∃ sz, y = .ro sz []
  | .agg xs, y => ∃ ys, y = .agg ys ∧ RoToL xs ys
  | .tup xs, y => ∃ ys, y = .tup ys ∧ RoToL xs ys
  | x, y => y = x
def RoToL : List AV → List AV → Prop
  | [], ys => ys = []
  | x :: xs, ys => ∃ y r, ys = y :: r ∧ RoTo x y ∧ RoToL xs r
end
mutual
theorem repF_lt {S : Nat → Prop} {b : Nat} {w : World} : ∀ (x : AV) (v : Value) (F : List (Nat × Nat)), RepF S b w x v F → ∀ q ∈ F, q.1 < w.heap.size
  | .fr e sz es, v, F, h => by
    simp only [RepF] at h
    obtain ⟨c, cap, rfl, _, _, cur, vss, hh, _⟩ := h
    intro q hq; simp at hq; subst hq
    exact (Array.getElem?_eq_some_iff.1 hh).1
  | .agg cs, v, F, h => by
    simp only [RepF] at h
    obtain ⟨vs, e, h1, h2⟩ := h
    exact repFL_lt' cs vs F h2
  | .tup cs, v, F, h => by
    simp only [RepF] at h
    obtain ⟨vs, e, h2⟩ := h
    exact repFL_lt' cs vs F h2
  | .j, v, F, h | .u, v, F, h | .int _ _, v, F, h | .bool _, v, F, h | .str _, v, F, h | .nils, v, F, h | .nili, v, F, h
  | .own _ _ _, v, F, h | .ptr _ _ _, v, F, h | .bptr _ _, v, F, h | .map _, v, F, h | .rp _, v, F, h | .ro _ _, v, F, h | .fn _ _, v, F, h | .iface _ _, v, F, h => by
    simp only [RepF] at h; rw [h.1]; simp
theorem repFL_lt' {S : Nat → Prop} {b : Nat} {w : World} : ∀ (xs : List AV) (vs : List Value) (F : List (Nat × Nat)), RepFL S b w xs vs F → ∀ q ∈ F, q.1 < w.heap.size
  | [], vs, F, h => by simp only [RepFL] at h; rw [h.2]; simp
  | x :: xs, vs, F, h => by
    simp only [RepFL] at h
    obtain ⟨v, r, F1, F2, rfl, rfl, h1, h2⟩ := h
    intro q hq
    rcases List.mem_append.1 hq with hq | hq
    · exact repF_lt x v F1 h1 q hq
    · exact repFL_lt' xs r F2 h2 q hq
end
mutual
theorem roTo_rep {S : Nat → Prop} {b : Nat} {w : World} : ∀ (x y : AV) (v : Value) (F : List (Nat × Nat)), RoTo x y → RepF S b w x v F → RepF (fun q => S q ∨ q ∈ F.map (·.1)) b w y v []
  | .fr e sz es, y, v, F, hy, h => by
    simp only [RoTo] at hy
    subst hy
    simp only [RepF] at h ⊢
    obtain ⟨c, cap, rfl, rfl, hB, hrow⟩ := h
    exact ⟨trivial, row_ro hrow (.inr (by simp)) fun q hq => .inl hq⟩
  | .nils, y, v, F, hy, h => by
    simp only [RoTo] at hy
    obtain ⟨sz, rfl⟩ := hy
    simp only [RepF, RepV] at h ⊢
    obtain ⟨rfl, rfl⟩ := h
    refine ⟨trivial, none, 0, ?_⟩
    simp
  | .agg xs, y, v, F, hy, h => by
    simp only [RoTo] at hy
    obtain ⟨ys, rfl, hl⟩ := hy
    simp only [RepF] at h ⊢
    obtain ⟨vs, e, h1, h2⟩ := h
    exact ⟨vs, e, h1, roToL_rep xs ys vs F hl h2⟩
  | .tup xs, y, v, F, hy, h => by
    simp only [RoTo] at hy
    obtain ⟨ys, rfl, hl⟩ := hy
    simp only [RepF] at h ⊢
    obtain ⟨vs, e, h2⟩ := h
    exact ⟨vs, e, roToL_rep xs ys vs F hl h2⟩
  | .j, y, v, F, hy, h | .u, y, v, F, hy, h | .int _ _, y, v, F, hy, h | .bool _, y, v, F, hy, h | .str _, y, v, F, hy, h | .nili, y, v, F, hy, h
  | .own _ _ _, y, v, F, hy, h | .ptr _ _ _, y, v, F, hy, h | .bptr _ _, y, v, F, hy, h | .map _, y, v, F, hy, h | .rp _, y, v, F, hy, h | .ro _ _, y, v, F, hy, h | .fn _ _, y, v, F, hy, h | .iface _ _, y, v, F, hy, h => by
    simp only [RoTo] at hy
    subst hy
    simp only [RepF] at h ⊢
    exact ⟨trivial, RepV.later (later_sub fun q hq => .inl hq) _ v h.2⟩
theorem roToL_rep {S : Nat → Prop} {b : Nat} {w : World} : ∀ (xs ys : List AV) (vs : List Value) (F : List (Nat × Nat)), RoToL xs ys → RepFL S b w xs vs F → RepFL (fun q => S q ∨ q ∈ F.map (·.1)) b w ys vs []
  | [], ys, vs, F, hy, h => by
    simp only [RoToL] at hy
    subst hy
    simp only [RepFL] at h ⊢; exact ⟨h.1, trivial⟩
  | x :: xs, ys, vs, F, hy, h => by
    simp only [RoToL] at hy
    obtain ⟨y, r', rfl, hy1, hy2⟩ := hy
    simp only [RepFL] at h ⊢
    obtain ⟨v, r, F1, F2, rfl, rfl, h1, h2⟩ := h
    have k1 := roTo_rep x y v F1 hy1 h1
    have k2 := roToL_rep xs r' r F2 hy2 h2
    refine ⟨v, r, [], [], rfl, rfl, repF_later (later_sub fun q hq => ?_) _ _ _ k1 (by simp), repFL_later (later_sub fun q hq => ?_) _ _ _ k2 (by simp)⟩
    · rcases hq with hq | hq
      · exact .inl hq
      · exact .inr (by rw [List.map_append]; exact List.mem_append_left _ hq)
    · rcases hq with hq | hq
      · exact .inl hq
      · exact .inr (by rw [List.map_append]; exact List.mem_append_right _ hq)
end
theorem VCall.taken {P : Program} {gl : Gl} {f : FuncId} {args : List AV} {R : AV → Prop} (h : VCall P gl f args (fun x => ∃ y, RoTo x y ∧ R y)) : VCall P gl f args R := by
  intro S w vs h1 h2 h3
  refine (h S w vs h1 h2 h3).mono fun v w' hh => ?_
  obtain ⟨x, ⟨y, hxy, hR⟩, ⟨S', F, hF, hnd, hFS, hS'⟩, hb⟩ := hh
  refine ⟨y, hR, ?_, hb⟩
  have hge := repF_ge _ _ _ hF
  have hlt := repF_lt _ _ _ hF
  refine ⟨fun q => S' q ∨ q ∈ F.map (·.1), [], roTo_rep _ _ _ _ hxy hF, by simp, by simp, ?_⟩
  rintro q (hq | hq)
  · exact hS' q hq
  · obtain ⟨y, hy, rfl⟩ := List.mem_map.1 hq
    exact ⟨hlt y hy, .inr (hge y hy)⟩
end Go.V
namespace Go.V
open Go.N
structure Nd where
  op : ByteArray
  a : Int
  b : Int
  name : ByteArray
  shape : List Int
  k : ByteArray
  n : Int
  data : List ByteArray
structure Gr where
  nodes : List Nd
  loss : Int
def Nd.cells (x : Nd) : List AV := [.str x.op, .int .i64 x.a, .int .i64 x.b, .str x.name, .ro 1 (rowZ x.shape), .str x.k, .int .i64 x.n, .ro 1 (rowS x.data)]
def rowN (l : List Nd) : List (List AV) := l.map Nd.cells
@[simp] theorem rowN_length (l : List Nd) : (rowN l).length = l.length := by simp [rowN]
theorem rowN_get {l : List Nd} {k : Nat} (h : k < l.length) : (rowN l)[k]? = some l[k].cells := by simp [rowN, h]
def Gr.cells (g : Gr) : List AV := [.ro 8 (rowN g.nodes), .int .i64 g.loss]
abbrev sParam : ByteArray := ⟨#[112, 97, 114, 97, 109]⟩
abbrev sInput : ByteArray := ⟨#[105, 110, 112, 117, 116]⟩
abbrev sConst : ByteArray := ⟨#[99, 111, 110, 115, 116]⟩
abbrev sRelu : ByteArray := ⟨#[114, 101, 108, 117]⟩
abbrev sAbs : ByteArray := ⟨#[97, 98, 115]⟩
abbrev sStep : ByteArray := ⟨#[115, 116, 101, 112]⟩
abbrev sSign : ByteArray := ⟨#[115, 105, 103, 110]⟩
abbrev sScale : ByteArray := ⟨#[115, 99, 97, 108, 101]⟩
abbrev sPower : ByteArray := ⟨#[112, 111, 119, 101, 114]⟩
abbrev sTranspose : ByteArray := ⟨#[116, 114, 97, 110, 115, 112, 111, 115, 101]⟩
abbrev sSum : ByteArray := ⟨#[115, 117, 109]⟩
abbrev sReshape : ByteArray := ⟨#[114, 101, 115, 104, 97, 112, 101]⟩
abbrev sSpread : ByteArray := ⟨#[115, 112, 114, 101, 97, 100]⟩
abbrev sAdd : ByteArray := ⟨#[97, 100, 100]⟩
abbrev sSub : ByteArray := ⟨#[115, 117, 98]⟩
abbrev sMul : ByteArray := ⟨#[109, 117, 108]⟩
abbrev sMax : ByteArray := ⟨#[109, 97, 120]⟩
abbrev sAbove : ByteArray := ⟨#[97, 98, 111, 118, 101]⟩
abbrev sMatmul : ByteArray := ⟨#[109, 97, 116, 109, 117, 108]⟩
def ops0 : List ByteArray := [sParam, sInput, sConst]
def ops1 : List ByteArray := [sRelu, sAbs, sStep, sSign, sScale, sPower, sTranspose, sSum, sReshape, sSpread]
def ops2 : List ByteArray := [sAdd, sSub, sMul, sMax, sAbove, sMatmul]
def inOps (s : ByteArray) (l : List ByteArray) : Bool := l.any fun t => decide (s = t)
def opParts (s : ByteArray) : Option Nat := if inOps s ops0 = true then some 0 else if inOps s ops1 = true then some 1 else if inOps s ops2 = true then some 2 else none
def partsN (s : ByteArray) : Nat := (opParts s).getD 0
inductive Opc where
  | param | input | const | relu | abs | step | sign | scale | power | transpose | sum | reshape | spread | add | sub | mul | max | above | matmul
def Opc.str : Opc → ByteArray
  | .param => sParam | .input => sInput | .const => sConst | .relu => sRelu | .abs => sAbs | .step => sStep | .sign => sSign | .scale => sScale | .power => sPower | .transpose => sTranspose | .sum => sSum
  | .reshape => sReshape | .spread => sSpread | .add => sAdd | .sub => sSub | .mul => sMul | .max => sMax | .above => sAbove | .matmul => sMatmul
theorem inOps_str {s : ByteArray} {l : List ByteArray} (k : List Opc) (e : l = k.map Opc.str) (h : inOps s l = true) : ∃ o, s = Opc.str o := by
  obtain ⟨t, ht, h2⟩ := List.any_eq_true.1 h
  rw [e] at ht
  obtain ⟨o, _, rfl⟩ := List.mem_map.1 ht
  exact ⟨o, of_decide_eq_true h2⟩
theorem opc_cases (s : ByteArray) : (∃ o, s = Opc.str o) ∨ opParts s = none := by
  cases h0 : inOps s ops0
  · cases h1 : inOps s ops1
    · cases h2 : inOps s ops2
      · right; rw [opParts, h0, h1, h2]; rfl
      · exact .inl (inOps_str [.add, .sub, .mul, .max, .above, .matmul] rfl h2)
    · exact .inl (inOps_str [.relu, .abs, .step, .sign, .scale, .power, .transpose, .sum, .reshape, .spread] rfl h1)
  · exact .inl (inOps_str [.param, .input, .const] rfl h0)
theorem opParts_le {s : ByteArray} {m : Nat} (h : opParts s = some m) : m ≤ 2 := by
  unfold opParts at h
  split at h
  · cases h; omega
  · split at h
    · cases h; omega
    · split at h
      · cases h; omega
      · cases h
def partsZ (s : ByteArray) : Int := match opParts s with | some m => (m : Int) | none => -1
def isName (s : ByteArray) : Bool := decide (0 < s.size ∧ s.size < 9) && s.toList.all nameC && (match s.toList.head? with | none => false | some c => decide (97 ≤ c.toNat ∧ c.toNat ≤ 122))
theorem isName_iff {s : ByteArray} (h1 : 0 < s.toList.length) : isName s = true ↔ s.size < 9 ∧ s.toList.all nameC = true ∧ 97 ≤ s.toList[0].toNat ∧ s.toList[0].toNat ≤ 122 := by
  have hl := Go.N.len_toList s
  have e : s.toList.head? = some s.toList[0] := by rw [List.head?_eq_getElem?, List.getElem?_eq_getElem h1]
  rw [isName, e]
  simp only [Bool.and_eq_true, decide_eq_true_eq]
  constructor
  · rintro ⟨⟨⟨_, a⟩, b⟩, c⟩; exact ⟨a, b, c⟩
  · rintro ⟨a, b, c⟩; exact ⟨⟨⟨by omega, a⟩, b⟩, c⟩
theorem isName_empty : isName ⟨#[]⟩ = false := by decide +kernel
theorem eq_empty {s : ByteArray} (h : s.size = 0) : s = ⟨#[]⟩ := toList_inj (by
  have : s.toList = [] := List.length_eq_zero_iff.1 (by rw [Go.N.len_toList]; exact h)
  rw [this, ByteArray.toList_eq])
def namedOp (s : ByteArray) : Bool := decide (s = sParam) || decide (s = sInput)
def bareOK (x : Nd) (m : Nat) : Bool :=
  (decide (0 < (m : Int)) || decide (x.a = 0)) && ((decide (1 < (m : Int)) || decide (x.b = 0)) && ((isName x.name == namedOp x.op) && ((namedOp x.op || decide (x.name = ⟨#[]⟩)) &&
    ((decide (x.k = ⟨#[]⟩) || decide (x.op = sScale)) && ((decide (x.n = 0) || decide (x.op = sPower)) && (decide ((x.data.length : Int) = 0) || decide (x.op = sConst)))))))
structure Nd.Sm (x : Nd) : Prop where
  name : x.name.size ≤ 1000
  k : x.k.size ≤ 1000
  shape : x.shape.length ≤ 1000
  data : x.data.length ≤ 1000
  each : ∀ d ∈ x.data, d.size ≤ 1000
def ofZ (x : Nd) (a b : List Int) : List Int × Bool :=
  if x.op = sConst then (x.shape, decide ((x.data.length : Int) = sizeZ x.shape) && !(x.data.any fun d => !ratOK d))
  else if x.op = sAdd ∨ x.op = sSub ∨ x.op = sMul ∨ x.op = sMax ∨ x.op = sAbove then (a, decide (a = b))
  else if x.op = sMatmul then (match a, b with | [p, q], [r, s] => if q = r then ([p, s], true) else ([], false) | _, _ => ([], false))
  else if x.op = sRelu ∨ x.op = sAbs ∨ x.op = sStep ∨ x.op = sSign then (a, true)
  else if x.op = sScale then (a, ratOK x.k)
  else if x.op = sPower then (a, decide (0 ≤ x.n) && decide (x.n ≤ 6))
  else if x.op = sTranspose then (match a with | [p, q] => ([q, p], true) | _ => ([], false))
  else if x.op = sSum then ([], true)
  else if x.op = sReshape then (x.shape, decide (sizeZ x.shape = sizeZ a))
  else if x.op = sSpread then (x.shape, decide ((a.length : Int) = 0))
  else (x.shape, true)
theorem matmul_not {a b : List Int} (h : ¬ (a.length = 2 ∧ b.length = 2 ∧ a[1]? = b[0]?)) : (match a, b with | [p, q], [r, s] => if q = r then (([p, s] : List Int), true) else ([], false) | _, _ => ([], false)) = ([], false) := by
  split
  · rename_i p q r s
    rw [if_neg]
    intro e; subst e; exact h ⟨rfl, rfl, rfl⟩
  · rfl
theorem transpose_not {a : List Int} (h : a.length ≠ 2) : (match a with | [p, q] => (([q, p] : List Int), true) | _ => ([], false)) = ([], false) := by
  split
  · exact absurd rfl h
  · rfl
theorem two_of {a : List Int} (h : a.length = 2) : ∃ p q, a = [p, q] := by
  match a, h with
  | [p, q], _ => exact ⟨p, q, rfl⟩
theorem opc_none {s : ByteArray} (h : opParts s = none) (o : Opc) : ¬ s = o.str := fun e => by
  rw [e] at h
  cases o <;> exact absurd h (by decide)
theorem ofZ_none {x : Nd} {a b : List Int} (h : opParts x.op = none) : ofZ x a b = (x.shape, true) := by
  have k := opc_none h
  have k1 : ¬ x.op = sConst := k .const
  have k2 : ¬ (x.op = sAdd ∨ x.op = sSub ∨ x.op = sMul ∨ x.op = sMax ∨ x.op = sAbove) := by
    rintro (e | e | e | e | e)
    · exact k .add e
    · exact k .sub e
    · exact k .mul e
    · exact k .max e
    · exact k .above e
  have k3 : ¬ x.op = sMatmul := k .matmul
  have k4 : ¬ (x.op = sRelu ∨ x.op = sAbs ∨ x.op = sStep ∨ x.op = sSign) := by
    rintro (e | e | e | e)
    · exact k .relu e
    · exact k .abs e
    · exact k .step e
    · exact k .sign e
  have k5 : ¬ x.op = sScale := k .scale
  have k6 : ¬ x.op = sPower := k .power
  have k7 : ¬ x.op = sTranspose := k .transpose
  have k8 : ¬ x.op = sSum := k .sum
  have k9 : ¬ x.op = sReshape := k .reshape
  have k0 : ¬ x.op = sSpread := k .spread
  unfold ofZ
  rw [if_neg k1, if_neg k2, if_neg k3, if_neg k4, if_neg k5, if_neg k6, if_neg k7, if_neg k8, if_neg k9, if_neg k0]
theorem x_0 {es : List (List AV)} {c : List AV} {K : List AV → Prop} (h : es[0]? = some c) (k : K c) : ∃ (m : Nat) (x : List AV), (0 : Int) = (m : Int) ∧ es[m]? = some x ∧ K x := ⟨0, c, rfl, h, k⟩
theorem x_1 {es : List (List AV)} {c : List AV} {K : List AV → Prop} (h : es[1]? = some c) (k : K c) : ∃ (m : Nat) (x : List AV), (1 : Int) = (m : Int) ∧ es[m]? = some x ∧ K x := ⟨1, c, rfl, h, k⟩
theorem roTo2 {a b c d : AV} (h1 : RoTo a c) (h2 : RoTo b d) : RoTo (.tup [a, b]) (.tup [c, d]) := ⟨_, rfl, _, _, rfl, h1, _, _, rfl, h2, rfl⟩
theorem roToA {a b c d : AV} (h1 : RoTo a c) (h2 : RoTo b d) : RoTo (.agg [a, b]) (.agg [c, d]) := ⟨_, rfl, _, _, rfl, h1, _, _, rfl, h2, rfl⟩
theorem ofZ_len {x : Nd} {a b : List Int} (hx : x.Sm) (ha : a.length ≤ 1000) (hb : b.length ≤ 1000) : (ofZ x a b).1.length ≤ 1000 := by
  have := hx.shape
  unfold ofZ
  repeat' split
  all_goals simp
  all_goals assumption
def inR (i : Int) (l : List Nd) : Bool := decide (0 ≤ i) && decide (i < l.length)
theorem inR_nat {i : Int} {l : List Nd} (h : inR i l = true) : ∃ k : Nat, i = k ∧ k < l.length := by
  simp only [inR, Bool.and_eq_true, decide_eq_true_eq] at h
  exact ⟨i.toNat, by omega, by omega⟩
theorem inR_not {i : Int} {l : List Nd} (h : inR i l = false) : i < 0 ∨ (l.length : Int) ≤ i := by
  simp only [inR, Bool.and_eq_false_iff, decide_eq_false_iff_not] at h
  omega
def shAt (l : List Nd) (i : Int) : List Int := match l[i.toNat]? with | some x => x.shape | none => []
theorem shAt_nat {l : List Nd} {k : Nat} (h : k < l.length) : shAt l k = l[k].shape := by
  rw [shAt, Int.toNat_natCast, List.getElem?_eq_getElem h]
def fitN (l : List Nd) (x : Nd) (m : Nat) : Bool := bareOK x m && ((decide (m = 0) || inR x.a l) && (decide (m < 2) || inR x.b l))
def okZ (r : List Int × Bool) : Option (List Int) := if (r.2 && okShape r.1) = true then some r.1 else none
def inferN (l : List Nd) (x : Nd) : Option (List Int) :=
  match opParts x.op with
  | none => none
  | some m => if fitN l x m = true then okZ (ofZ x (if m = 0 then [] else shAt l x.a) (if m < 2 then [] else shAt l x.b)) else none
theorem inferN_none {l : List Nd} {x : Nd} (h : opParts x.op = none) : inferN l x = none := by simp only [inferN, h]
theorem inferN_bad {l : List Nd} {x : Nd} {m : Nat} (h : opParts x.op = some m) (hb : fitN l x m = false) : inferN l x = none := by simp [inferN, h, hb]
theorem inferN_ok {l : List Nd} {x : Nd} {m : Nat} (h : opParts x.op = some m) (hb : fitN l x m = true) : inferN l x = okZ (ofZ x (if m = 0 then [] else shAt l x.a) (if m < 2 then [] else shAt l x.b)) := by simp only [inferN, h, hb, if_true]
def refZ (x : Nd) (a b : List Int) : List Int × Bool :=
  if (ofZ x a b).2 = false then ([], false) else if okShape (ofZ x a b).1 = true then ((ofZ x a b).1, true) else if x.op = sConst ∨ x.op = sReshape then ([], false) else ((ofZ x a b).1, false)
def refN (l : List Nd) (x : Nd) : List Int × Bool :=
  match opParts x.op with
  | none => ([], false)
  | some m => if fitN l x m = true then refZ x (if m = 0 then [] else shAt l x.a) (if m < 2 then [] else shAt l x.b) else ([], false)
theorem refN_none {l : List Nd} {x : Nd} (h : opParts x.op = none) : refN l x = ([], false) := by simp only [refN, h]
theorem refN_bad {l : List Nd} {x : Nd} {m : Nat} (h : opParts x.op = some m) (hb : fitN l x m = false) : refN l x = ([], false) := by simp [refN, h, hb]
theorem refN_ok {l : List Nd} {x : Nd} {m : Nat} (h : opParts x.op = some m) (hb : fitN l x m = true) : refN l x = refZ x (if m = 0 then [] else shAt l x.a) (if m < 2 then [] else shAt l x.b) := by simp only [refN, h, hb, if_true]
theorem refZ_2 (x : Nd) (a b : List Int) : (refZ x a b).2 = (okZ (ofZ x a b)).isSome ∧ ((refZ x a b).2 = true → okZ (ofZ x a b) = some (refZ x a b).1) := by
  unfold refZ okZ
  generalize ofZ x a b = r
  obtain ⟨s, ok⟩ := r
  cases ok <;> cases h : okShape s <;> simp [h]
  all_goals split <;> simp
theorem refN_infer (l : List Nd) (x : Nd) : (refN l x).2 = (inferN l x).isSome ∧ ((refN l x).2 = true → inferN l x = some (refN l x).1) := by
  unfold refN inferN
  cases opParts x.op with
  | none => simp
  | some m =>
    dsimp only
    cases fitN l x m with
    | false => simp
    | true => simp only [if_true]; exact refZ_2 _ _ _
structure Fit (l : List Nd) (x : Nd) (m : Nat) : Prop where
  a0 : m = 0 → x.a = 0
  b0 : m < 2 → x.b = 0
  nm : namedOp x.op = true → isName x.name = true
  nn : namedOp x.op = false → x.name = ⟨#[]⟩
  k : x.op ≠ sScale → x.k = ⟨#[]⟩
  n : x.op ≠ sPower → x.n = 0
  d : x.op ≠ sConst → x.data.length = 0
  ia : 0 < m → inR x.a l = true
  ib : 1 < m → inR x.b l = true
theorem fit_iff (l : List Nd) (x : Nd) (m : Nat) : fitN l x m = true ↔ Fit l x m := by
  have e : ∀ {p : Prop} {q : Prop} [Decidable p] [Decidable q], (decide p || decide q) = true ↔ (¬ p → q) := by intro p q _ _; by_cases p <;> by_cases q <;> simp_all
  have e2 : (decide ((x.data.length : Int) = 0) || decide (x.op = sConst)) = true ↔ (x.op ≠ sConst → x.data.length = 0) := by
    rw [Bool.or_comm, e]; constructor <;> intro h1 h2 <;> have := h1 h2 <;> omega
  have e3 : (isName x.name == namedOp x.op) = true ∧ (namedOp x.op || decide (x.name = ⟨#[]⟩)) = true ↔ ((namedOp x.op = true → isName x.name = true) ∧ (namedOp x.op = false → x.name = ⟨#[]⟩)) := by
    cases h : namedOp x.op
    · simp only [beq_false, Bool.not_eq_true', Bool.false_or, decide_eq_true_eq, Bool.false_eq_true, false_implies, true_and, forall_const]
      exact ⟨fun hh => hh.2, fun hh => ⟨by rw [hh]; exact isName_empty, hh⟩⟩
    · simp
  have e4 : (decide (0 < (m : Int)) || decide (x.a = 0)) = true ↔ (m = 0 → x.a = 0) := by rw [e]; constructor <;> intro h1 h2 <;> exact h1 (by omega)
  have e5 : (decide (1 < (m : Int)) || decide (x.b = 0)) = true ↔ (m < 2 → x.b = 0) := by rw [e]; constructor <;> intro h1 h2 <;> exact h1 (by omega)
  have e6 : (decide (x.k = ⟨#[]⟩) || decide (x.op = sScale)) = true ↔ (x.op ≠ sScale → x.k = ⟨#[]⟩) := by rw [Bool.or_comm, e]
  have e7 : (decide (x.n = 0) || decide (x.op = sPower)) = true ↔ (x.op ≠ sPower → x.n = 0) := by rw [Bool.or_comm, e]
  have e8 : (decide (m = 0) || inR x.a l) = true ↔ (0 < m → inR x.a l = true) := by
    rcases Nat.eq_zero_or_pos m with h | h
    · simp [h]
    · have : ¬ m = 0 := by omega
      simp [h, this]
  have e9 : (decide (m < 2) || inR x.b l) = true ↔ (1 < m → inR x.b l = true) := by
    rcases Nat.lt_or_ge m 2 with h | h
    · have : ¬ 1 < m := by omega
      simp [h, this]
    · have h1 : ¬ m < 2 := by omega
      have h2 : 1 < m := by omega
      simp [h1, h2]
  rw [fitN, Bool.and_eq_true, Bool.and_eq_true, e8, e9, bareOK, Bool.and_eq_true, Bool.and_eq_true, Bool.and_eq_true, Bool.and_eq_true, Bool.and_eq_true, Bool.and_eq_true, e2, e4, e5, e6, e7]
  constructor
  · rintro ⟨⟨h1, h2, h3, h4, h5, h6, h7⟩, h8, h9⟩
    have := e3.1 ⟨h3, h4⟩
    exact ⟨h1, h2, this.1, this.2, h5, h6, h7, h8, h9⟩
  · intro h
    have := e3.2 ⟨h.nm, h.nn⟩
    exact ⟨⟨h.a0, h.b0, this.1, this.2, h.k, h.n, h.d⟩, h.ia, h.ib⟩
theorem fit_no {l : List Nd} {x : Nd} {m : Nat} (h : fitN l x m = false) (k : Fit l x m) : False := by rw [(fit_iff l x m).2 k] at h; cases h
def Opc.many : Opc → Nat
  | .param | .input | .const => 0
  | .relu | .abs | .step | .sign | .scale | .power | .transpose | .sum | .reshape | .spread => 1
  | _ => 2
theorem opc_many (o : Opc) : opParts o.str = some o.many := by cases o <;> rfl
theorem refZ_of {x : Nd} {a b s : List Int} (h : ofZ x a b = (s, true)) (hc : ¬ (x.op = sConst ∨ x.op = sReshape)) : refZ x a b = (s, okShape s) := by
  rw [refZ, h, if_neg (by simp), if_neg hc]
  cases okShape s <;> rfl
theorem refZ_ok {x : Nd} {a b s : List Int} (h : ofZ x a b = (s, true)) (hs : okShape s = true) : refZ x a b = (s, true) := by
  rw [refZ, h, if_neg (by simp), if_pos hs]
theorem refZ_no {x : Nd} {a b : List Int} (h : (ofZ x a b).2 = false) : refZ x a b = ([], false) := by rw [refZ, if_pos h]
theorem refZ_bad {x : Nd} {a b : List Int} (hc : x.op = sConst ∨ x.op = sReshape) (h : okShape (ofZ x a b).1 = false) : refZ x a b = ([], false) := by
  rw [refZ, h, if_neg (by simp : ¬ false = true), if_pos hc]
  split <;> rfl
theorem inR_of {i : Int} {l : List Nd} (h1 : ¬ i < 0) (h2 : ¬ (l.length : Int) ≤ i) : inR i l = true := by simp [inR]; omega
theorem refZ_at (o : Opc) {x : Nd} {a b s : List Int} (ho : x.op = o.str) (h : ofZ x a b = (s, true)) (hc : ¬ (o.str = sConst ∨ o.str = sReshape)) : refZ x a b = (s, okShape s) := refZ_of h (by rw [ho]; exact hc)
theorem rowN_sh {l : List Nd} {i : Nat} (h : i < l.length) : ∃ o1 a1 b1 n1 k1 m1 d1, (rowN l)[i]? = some [.str o1, .int .i64 a1, .int .i64 b1, .str n1, .ro 1 (rowZ l[i].shape), .str k1, .int .i64 m1, .ro 1 d1] := ⟨_, _, _, _, _, _, _, rowN_get h⟩
def newName (x y : Nd) : Bool := decide (x.name = ⟨#[]⟩) || !decide (y.name = x.name)
def ndOK (l : List Nd) (x : Nd) : Bool := decide (inferN l x = some x.shape) && l.all (newName x)
def ndAt (l : List Nd) (k : Nat) : Bool := match l[k]? with | some x => ndOK (l.take k) x | none => true
theorem ndAt_lt {l : List Nd} {k : Nat} (h : k < l.length) : ndAt l k = ndOK (l.take k) l[k] := by rw [ndAt, List.getElem?_eq_getElem h]
def allTo (l : List Nd) (i : Nat) : Bool := (List.range i).all (ndAt l)
theorem allTo_succ (l : List Nd) (i : Nat) : allTo l (i + 1) = (allTo l i && ndAt l i) := by simp [allTo, List.range_succ]
theorem allTo_bad {l : List Nd} {i n : Nat} (h : i < n) (hb : ndAt l i = false) : allTo l n = false := List.all_eq_false.2 ⟨i, List.mem_range.2 h, by simp [hb]⟩
def preG (g : Gr) : Bool := decide (1 ≤ g.nodes.length) && decide (g.nodes.length ≤ 200) && inR g.loss g.nodes && decide (shAt g.nodes g.loss = [])
def grOK (g : Gr) : Bool := preG g && allTo g.nodes g.nodes.length
theorem findK_setK (x : ByteArray) (v : AV) (y : ByteArray) : ∀ l, findK (setK l x v) y = if y = x then some v else findK l y
  | [] => by simp [setK, findK]
  | (k, w) :: r => by
    unfold setK
    split
    · rename_i h; subst h; simp only [findK]; split <;> rfl
    · rename_i h
      simp only [findK, findK_setK x v y r]
      by_cases h2 : y = k
      · have : ¬ y = x := fun e => h (by rw [← e, h2])
        simp [h2, show ¬ k = x from fun e => h e.symm]
      · simp [h2]
def cntN (l : List Nd) (s : ByteArray) : Nat := l.countP fun y => decide (y.name = s)
def MapOK (kv : List (ByteArray × AV)) (l : List Nd) : Prop := ∀ s, AV.int .i64 ((cntN l s : Nat) : Int) = (findK kv s).getD (.int .i64 0)
theorem mapOK_nil : MapOK [] [] := fun s => rfl
theorem mapOK_snoc {kv : List (ByteArray × AV)} {l : List Nd} {x : Nd} {e : Int} (h : MapOK kv l) (he : e = (cntN l x.name : Nat) + 1) : MapOK (setK kv x.name (.int .i64 e)) (l ++ [x]) := fun s => by
  rw [findK_setK, cntN, List.countP_append]
  by_cases hs : s = x.name
  · subst hs; rw [if_pos rfl, he]; simp [cntN]
  · rw [if_neg hs, ← h s]; simp [cntN, show ¬ x.name = s from fun e => hs e.symm]
theorem cnt_pos {l : List Nd} {x : Nd} (hn : x.name ≠ ⟨#[]⟩) : 0 < cntN l x.name ↔ l.all (newName x) = false := by
  rw [cntN, List.countP_pos_iff, List.all_eq_false]
  constructor
  · rintro ⟨y, hy, h⟩; exact ⟨y, hy, by simp only [newName, decide_eq_true_eq] at h ⊢; simp [hn, h]⟩
  · rintro ⟨y, hy, h⟩; refine ⟨y, hy, ?_⟩; simp only [newName] at h; simp [hn] at h; simp [h]
theorem cnt_le (l : List Nd) (s : ByteArray) : cntN l s ≤ l.length := List.countP_le_length
theorem Xq {l : List (ByteArray × AV)} {k : ByteArray} {d v : AV} {K : AV → Prop} (h : v = (findK l k).getD d) (hk : K v) : ∃ r, r = (findK l k).getD d ∧ K r := ⟨v, h, hk⟩
theorem sl_take (l : List Nd) (i : Nat) : rowN (l.take i) = ((rowN l).drop (0 : Int).toNat).take ((i : Int).toNat - (0 : Int).toNat) := by simp [rowN]
theorem sY {p q : Prop} (k : Bx q) (h : Bx q → p := by
  intro k
  ((conv => whnf); first | ((with_reducible apply Xq); assumption) | (with_reducible first | apply Xa | (first | apply xi | apply xu | apply x8 | apply x3 | apply xn | apply xp | apply xP | refine xs ?_ ?_ | refine xS ?_ ?_ | refine xZ ?_ ?_ | refine xl ?_ ?_ | refine xd ?_ ?_ | refine xy ?_ ?_ | refine xL ?_ ?_ | refine xD ?_ ?_ | apply xx); omega | apply Xm | apply Xe | refine Xg (by assumption) ?_) | refine Xo (by assumption) ?_ | refine x_0 (by first | assumption | rfl) ?_ | refine x_1 (by first | assumption | rfl) ?_ | refine Or.inl ⟨rfl, ?_⟩ | (refine Or.inl ⟨_, by assumption, ?_⟩; first | rintro _ rfl | skip))
  repeat' ((conv => whnf); first | ((with_reducible apply Xq); assumption) | (with_reducible first | apply Xa | (first | apply xi | apply xu | apply x8 | apply x3 | apply xn | apply xp | apply xP | refine xs ?_ ?_ | refine xS ?_ ?_ | refine xZ ?_ ?_ | refine xl ?_ ?_ | refine xd ?_ ?_ | refine xy ?_ ?_ | refine xL ?_ ?_ | refine xD ?_ ?_ | apply xx); omega | apply Xm | apply Xe | refine Xg (by assumption) ?_) | refine Xo (by assumption) ?_ | refine x_0 (by first | assumption | rfl) ?_ | refine x_1 (by first | assumption | rfl) ?_ | refine Or.inl ⟨rfl, ?_⟩ | (refine Or.inl ⟨_, by assumption, ?_⟩; first | rintro _ rfl | skip))
  exact k.out) : p := h k
theorem sq {p c d q r : Prop} (k : c → Bx q) (l : d → Bx r) (h : (c → Bx q) → (d → Bx r) → p := by
  intro k l
  conv => whnf
  split <;> (first | (rename_i u h; clear u) | rename_i h) <;> (try rewrite [h]) <;> (first | replace h := dt h | replace h := df h | replace h := Nt h | replace h := Nf h | skip) <;> (try dsimp only at h)
  · exact (k h).out
  · exact (l h).out) : p := h k l
end Go.V
namespace Go.V
open Go.N
set_option maxRecDepth 20000
mutual
def AsRo : AV → AV → Prop
  | .nils, y => y = .nils ∨ ∃ sz, y = .ro sz []
  | .ro sz es, y => ∃ es', y = .ro sz es' ∧ AsRoLL es es'
  | .agg cs, y => ∃ cs', y = .agg cs' ∧ AsRoL cs cs'
  | x, y => y = x
def AsRoL : List AV → List AV → Prop
  | [], ys => ys = []
  | x :: xs, ys => ∃ y r, ys = y :: r ∧ AsRo x y ∧ AsRoL xs r
def AsRoLL : List (List AV) → List (List AV) → Prop
  | [], ys => ys = []
  | x :: xs, ys => ∃ y r, ys = y :: r ∧ AsRoL x y ∧ AsRoLL xs r
end
theorem asRoLL_len : ∀ (es es' : List (List AV)), AsRoLL es es' → es'.length = es.length
  | [], _, h => by simp only [AsRoLL] at h; rw [h]
  | _ :: xs, _, h => by
    simp only [AsRoLL] at h
    obtain ⟨y, r, rfl, _, h⟩ := h
    simp [asRoLL_len xs r h]
mutual
theorem asRo_rep {S : Nat → Prop} {H : Hp} {w : World} : ∀ (x y : AV) (v : Value), AsRo x y → RepV S H w x v → RepV S H w y v
  | .nils, y, v, hy, h => by
    simp only [AsRo] at hy
    rcases hy with rfl | ⟨sz, rfl⟩
    · exact h
    · simp only [RepV] at h ⊢
      subst h
      exact ⟨none, 0, by simp⟩
  | .ro sz es, y, v, hy, h => by
    simp only [AsRo] at hy
    obtain ⟨es', rfl, hl⟩ := hy
    have hn := asRoLL_len _ _ hl
    simp only [RepV] at h ⊢
    obtain ⟨A, c, e, hc, hm, h⟩ := h
    refine ⟨A, c, by rw [hn]; exact e, by rw [hn]; exact hc, hm, ?_⟩
    rcases h with h | ⟨a, ea, hs, hb, vss, hvl, hz, hcell⟩
    · left; exact List.length_eq_zero_iff.1 (by rw [hn, h]; rfl)
    · exact .inr ⟨a, ea, hs, hb, vss, asRoLL_rep es es' vss hl hvl, hz, hcell⟩
  | .agg cs, y, v, hy, h => by
    simp only [AsRo] at hy
    obtain ⟨cs', rfl, hl⟩ := hy
    simp only [RepV] at h ⊢
    obtain ⟨vs, e, h1, h2⟩ := h
    exact ⟨vs, e, h1, asRoL_rep cs cs' vs hl h2⟩
  | .j, y, v, hy, h | .u, y, v, hy, h | .int _ _, y, v, hy, h | .bool _, y, v, hy, h | .str _, y, v, hy, h | .nili, y, v, hy, h | .tup _, y, v, hy, h | .fr _ _ _, y, v, hy, h
  | .own _ _ _, y, v, hy, h | .ptr _ _ _, y, v, hy, h | .bptr _ _, y, v, hy, h | .map _, y, v, hy, h | .rp _, y, v, hy, h | .fn _ _, y, v, hy, h | .iface _ _, y, v, hy, h => by
    simp only [AsRo] at hy
    subst hy; exact h
theorem asRoL_rep {S : Nat → Prop} {H : Hp} {w : World} : ∀ (xs ys : List AV) (vs : List Value), AsRoL xs ys → RepL S H w xs vs → RepL S H w ys vs
  | [], ys, vs, hy, h => by simp only [AsRoL] at hy; subst hy; exact h
  | x :: xs, ys, vs, hy, h => by
    simp only [AsRoL] at hy
    obtain ⟨y, r, rfl, h1, h2⟩ := hy
    simp only [RepL] at h ⊢
    obtain ⟨v, r', rfl, h3, h4⟩ := h
    exact ⟨v, r', rfl, asRo_rep x y v h1 h3, asRoL_rep xs r r' h2 h4⟩
theorem asRoLL_rep {S : Nat → Prop} {w : World} : ∀ (xs ys : List (List AV)) (vs : List (List Value)), AsRoLL xs ys → RepLL S w xs vs → RepLL S w ys vs
  | [], ys, vs, hy, h => by simp only [AsRoLL] at hy; subst hy; exact h
  | x :: xs, ys, vs, hy, h => by
    simp only [AsRoLL] at hy
    obtain ⟨y, r, rfl, h1, h2⟩ := hy
    simp only [RepLL] at h ⊢
    obtain ⟨v, r', rfl, h3, h4⟩ := h
    exact ⟨v, r', rfl, asRoL_rep x y v h1 h3, asRoLL_rep xs r r' h2 h4⟩
end
theorem VCall.args {P : Program} {gl : Gl} {f : FuncId} {xs ys : List AV} {R : AV → Prop} (h : VCall P gl f ys R) (ha : AsRoL xs ys) : VCall P gl f xs R :=
  fun S w vs h1 h2 h3 => h S w vs h1 h2 (asRoL_rep _ _ _ ha h3)
end Go.V
namespace Go.N
def bv (b : Nat) : List Nat → Nat
  | [] => 0
  | x :: l => x + b * bv b l
theorem lval_bv : ∀ l, lval l = bv BB l
  | [] => rfl
  | x :: l => by rw [lval, bv, lval_bv l]
theorem lsum_bv : ∀ l, lsum l = bv 10 l
  | [] => rfl
  | x :: l => by rw [lsum, bv, lsum_bv l]
theorem bv_snoc (b : Nat) : ∀ (l : List Nat) (x : Nat), bv b (l ++ [x]) = bv b l + b ^ l.length * x
  | [], x => by simp [bv]
  | y :: l, x => by
    simp only [List.cons_append, bv, bv_snoc b l x, List.length_cons, Nat.pow_succ]
    rw [Nat.mul_add, Nat.mul_comm (b ^ l.length) b, Nat.mul_assoc, Nat.add_assoc]
theorem bv_take_succ (b : Nat) {l : List Nat} {k : Nat} (hk : k < l.length) : bv b (l.take (k + 1)) = bv b (l.take k) + b ^ k * l[k] := by
  rw [List.take_succ_eq_append_getElem hk, bv_snoc, List.length_take, Nat.min_eq_left (by omega)]
theorem bv_zeros (b k : Nat) : bv b (List.replicate k 0) = 0 := by
  induction k with
  | zero => rfl
  | succ k ih => rw [List.replicate_succ, bv, ih]; simp
theorem bv_set (b : Nat) : ∀ (l : List Nat) (k v : Nat) (hk : k < l.length), bv b (l.set k v) + b ^ k * l[k] = bv b l + b ^ k * v
  | [], _, _, h => absurd h (Nat.not_lt_zero _)
  | x :: l, 0, v, _ => by simp [bv]; omega
  | x :: l, k + 1, v, h => by
    have ih := bv_set b l k v (by simpa using h)
    simp only [List.set_cons_succ, bv, List.getElem_cons_succ]
    have := congrArg (b * ·) ih
    simp only [Nat.mul_add] at this
    rw [Nat.pow_succ, Nat.mul_comm (b ^ k) b, Nat.mul_assoc, Nat.mul_assoc]
    omega
theorem set_zero {l : List Nat} {k : Nat} (hk : k < l.length) (h : l[k] = 0) (b v : Nat) : bv b (l.set k v) = bv b l + b ^ k * v := by
  have := bv_set b l k v hk
  rw [h, Nat.mul_zero, Nat.add_zero] at this
  exact this
structure Mul1 (b : Nat) (x y : List Nat) (i : Nat) (o : List Nat) : Prop where
  len : o.length = x.length + y.length
  lt : ∀ d ∈ o, d < b
  val : bv b o = bv b (x.take i) * bv b y
  zero : ∀ j (h : j < o.length), i + y.length ≤ j → o[j] = 0
structure Mul2 (b : Nat) (x y : List Nat) (i k : Nat) (o : List Nat) (c : Nat) : Prop where
  len : o.length = x.length + y.length
  lt : ∀ d ∈ o, d < b
  cl : c < b
  val : bv b o + b ^ (i + k) * c = bv b (x.take i) * bv b y + b ^ i * (x[i]?.getD 0 * bv b (y.take k))
  zero : ∀ j (h : j < o.length), i + y.length ≤ j → o[j] = 0
theorem mul_start {b : Nat} (hb : 0 < b) (x y : List Nat) : Mul1 b x y 0 (List.replicate (x.length + y.length) 0) :=
  ⟨by simp, fun d hd => by rw [List.eq_of_mem_replicate hd]; exact hb, by simp [bv_zeros, bv], fun j h _ => by simp⟩
theorem mul_in {b : Nat} (hb : 0 < b) {x y o : List Nat} {i : Nat} (h : Mul1 b x y i o) : Mul2 b x y i 0 o 0 :=
  ⟨h.len, h.lt, hb, by rw [h.val]; simp [bv], h.zero⟩
theorem mem_set_lt {b : Nat} {o : List Nat} (h : ∀ d ∈ o, d < b) {k v : Nat} (hv : v < b) : ∀ d ∈ o.set k v, d < b := fun d hd => by
  rcases List.mem_or_eq_of_mem_set hd with h1 | h1
  · exact h d h1
  · rw [h1]; exact hv
theorem mul_lt {b c d p q : Nat} (hc : c < b) (hd : d < b) (hp : p < b) (hq : q < b) : c + (d + p * q) < b * b := by
  have h1 : p * q ≤ (b - 1) * (b - 1) := Nat.mul_le_mul (by omega) (by omega)
  obtain ⟨t, rfl⟩ : ∃ t, b = t + 1 := ⟨b - 1, by omega⟩
  simp only [Nat.add_sub_cancel] at h1
  have : (t + 1) * (t + 1) = t * t + 2 * t + 1 := by rw [Nat.mul_add, Nat.add_mul]; omega
  omega
theorem mul_step {b : Nat} {x y o : List Nat} {i k c : Nat} (h : Mul2 b x y i k o c) (hi : i < x.length) (hk : k < y.length) (hx : x[i] < b) (hy : y[k] < b) (ho : i + k < o.length) :
    Mul2 b x y i (k + 1) (o.set (i + k) ((c + (o[i + k] + x[i] * y[k])) % b)) ((c + (o[i + k] + x[i] * y[k])) / b) := by
  have hd := h.lt o[i + k] (List.getElem_mem ho)
  have hb : 0 < b := by omega
  have hs := mul_lt h.cl hd hx hy
  refine ⟨by simp [h.len], mem_set_lt h.lt (Nat.mod_lt _ hb), Nat.div_lt_of_lt_mul hs, ?_, fun j hj h1 => ?_⟩
  · have e := bv_set b o (i + k) ((c + (o[i + k] + x[i] * y[k])) % b) ho
    have hv := h.val
    rw [List.getElem?_eq_getElem hi, Option.getD_some] at hv ⊢
    rw [bv_take_succ b hk, Nat.mul_add x[i], Nat.mul_add (b ^ i), ← Nat.add_assoc (bv b (List.take i x) * bv b y), ← hv, ← Nat.add_assoc i k 1, Nat.pow_succ, Nat.mul_assoc (b ^ (i + k)) b]
    have e2 : b ^ i * (x[i] * (b ^ k * y[k])) = b ^ (i + k) * (x[i] * y[k]) := by
      rw [Nat.pow_add, Nat.mul_assoc]; congr 1; rw [← Nat.mul_assoc, Nat.mul_comm x[i], Nat.mul_assoc]
    rw [e2]
    generalize x[i] * y[k] = p at e hs ⊢
    have e3 : b ^ (i + k) * ((c + (o[i + k] + p)) % b) + b ^ (i + k) * (b * ((c + (o[i + k] + p)) / b)) = b ^ (i + k) * c + (b ^ (i + k) * o[i + k] + b ^ (i + k) * p) := by
      rw [← Nat.mul_add, Nat.mod_add_div, Nat.mul_add, Nat.mul_add]
    omega
  · rw [List.getElem_set_ne (by omega)]
    exact h.zero j (by simpa using hj) h1
theorem mul_out {b : Nat} {x y o : List Nat} {i c : Nat} (h : Mul2 b x y i y.length o c) (hi : i < x.length) (ho : i + y.length < o.length) : Mul1 b x y (i + 1) (o.set (i + y.length) c) := by
  refine ⟨by simp [h.len], mem_set_lt h.lt h.cl, ?_, fun j hj h1 => ?_⟩
  · have hv := h.val
    rw [set_zero ho (h.zero _ ho (Nat.le_refl _)), hv, List.take_length, bv_take_succ b hi, Nat.add_mul, List.getElem?_eq_getElem hi, Option.getD_some, Nat.mul_assoc (b ^ i)]
  · rw [List.getElem_set_ne (by omega)]
    exact h.zero j (by simpa using hj) (by omega)
theorem mul_end {b : Nat} {x y o : List Nat} (h : Mul1 b x y x.length o) : bv b o = bv b x * bv b y := by rw [h.val, List.take_length]
theorem add_digit (b : Nat) {o : List Nat} {i c A B x d : Nat} (ho : o.length = i) (h : bv b o + b ^ i * c = A + B) :
    bv b (o ++ [(c + x + d) % b]) + b ^ (i + 1) * ((c + x + d) / b) = (A + b ^ i * x) + (B + b ^ i * d) := by
  rw [bv_snoc, ho, Nat.pow_succ, Nat.mul_assoc (b ^ i) b]
  have e3 : b ^ i * ((c + x + d) % b) + b ^ i * (b * ((c + x + d) / b)) = b ^ i * c + b ^ i * x + b ^ i * d := by
    rw [← Nat.mul_add, Nat.mod_add_div, Nat.mul_add, Nat.mul_add]
  omega
theorem take_more (b : Nat) {l : List Nat} {i : Nat} (h : l.length ≤ i) : bv b (l.take (i + 1)) = bv b (l.take i) + b ^ i * 0 := by
  rw [List.take_of_length_le (by omega), List.take_of_length_le (by omega)]; simp
end Go.N
