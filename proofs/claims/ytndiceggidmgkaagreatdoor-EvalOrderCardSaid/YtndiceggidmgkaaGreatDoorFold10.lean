/-
  Lemmas (part 10) for: What fold.Fold makes of any graph is what the document says (FoldMakes, FoldAll, FoldNames, FoldLeaves hold for every graph); no condition.
-/
import Derived.Test.YtndiceggidmgkaaGreatDoorFold8
import Derived.Test.YtndiceggidmgkaaGreatDoorFold9
set_option linter.all false
namespace Go.V
open Go.N
set_option maxRecDepth 20000
def T_r06_MatMul : Tab := [(40, i40), (33, i33), (3, i3), (100, i100), (107, i107)]
theorem TOK_r06_MatMul : TOK Go.Proofs.Tryz.prog T_r06_MatMul := ⟨K40, ⟨K33, ⟨K3, ⟨K100, ⟨K107, trivial⟩⟩⟩⟩⟩
set_option maxHeartbeats 8000000 in
theorem c_r06_MatMul (p q c : Nat) {a b : List Rat} (ha : VT [(p : Int), (q : Int)] a) (hb : VT [(q : Int), (c : Int)] b) (hok : okShape [(p : Int), (c : Int)] = true)
    (hm : ∀ i k j, i < p → k < c → j < q → RS (atR a (i * q + j) * atR b (j * c + k))) (hs : ∀ i k j, i < p → k < c → j ≤ q → RS (sumR ((termsV q c a b i k).take j))) :
    VCall Go.Proofs.Tryz.prog GL 75 [tenR [(p : Int), (q : Int)] a, tenR [(q : Int), (c : Int)] b] (fun y => y = tenR [(p : Int), (c : Int)] (matV p q c a b)) := by
  obtain ⟨p1, p2, q1, q2, hal⟩ := VT2 ha
  obtain ⟨_, _, c1, c2, hbl⟩ := VT2 hb
  have hra := ha.rs
  have hrb := hb.rs
  have hpc : p * c ≤ 4096 := Nat.mul_le_mul p2 c2
  have hpc0 := Nat.mul_pos (show 0 < p by omega) (show 0 < c by omega)
  have hpcl : p * c ≤ 64 := by
    simp only [okShape, Bool.and_eq_true, decide_eq_true_eq] at hok
    have := hok.2
    simp only [prodZ, List.foldl_cons, List.foldl_nil, Int.one_mul] at this
    rw [← Int.natCast_mul] at this
    omega
  obtain ⟨r, hr⟩ : ∃ r, r = matV p q c a b := ⟨_, rfl⟩
  rw [← hr]
  have hrl : r.length = p * c := by rw [hr, matV_len]
  have hrg : ∀ i k (hi : i < p) (hk : k < c), r[i * c + k]'(by rw [hrl]; exact idx_lt hi hk) = sumR (termsV q c a b i k) := fun i k hi hk => by subst hr; exact matV_get hi hk
  have hof := c_r05_Of [(p : Int), (c : Int)] r (fun x hx => by
    rw [hr] at hx
    obtain ⟨n, hn, rfl⟩ := List.mem_map.1 hx
    have hn := List.mem_range.1 hn
    have hd : n / c < p := Nat.div_lt_of_lt_mul (by rw [Nat.mul_comm]; exact hn)
    have hmd : n % c < c := Nat.mod_lt _ (by omega)
    have := hs (n / c) (n % c) q hd hmd (Nat.le_refl _)
    rwa [List.take_of_length_le (by rw [termsV_len]; exact Nat.le_refl _)] at this) (by omega)
  rw [own_allA (r := r) (n := (rowA r).length) rfl] at hof
  clear hr
  unfold tenR at hof ⊢
  refine vcall_of TOK_r06_MatMul HM Go.Proofs.Tryz.func75 rfl (by decide +kernel) (by decide +kernel) rfl ?_
  repeat' first|refine sY ⟨?_⟩|(refine sq ?_ ?_<;>refine fun h=>⟨?_⟩<;>(first|contradiction|(exfalso;omega)|skip))|fail
  refine ⟨[2, 3, 4, 5, 6, 7], [0, 1, 2], fun m st => ∃ i : Nat, i ≤ p ∧ m = p - i ∧ ((i * c = 0 ∧ st = ⟨[(2, .bptr 0 0), (3, .bptr 1 0), (4, .bptr 2 0), (5, .int .i64 (q : Nat)), (6, .nils), (7, .int .i64 (i : Nat))], [.box 40 [.ro 1 (rowZ [(p : Int), (q : Int)]), .ro 1 (rowR a)], .box 40 [.ro 1 (rowZ [(q : Int), (c : Int)]), .ro 1 (rowR b)], .box 40 [.nils, .nils]]⟩) ∨ (0 < i * c ∧ st = ⟨[(2, .bptr 0 0), (3, .bptr 1 0), (4, .bptr 2 0), (5, .int .i64 (q : Nat)), (6, .own 3 0 (rowA (r.take (i * c))).length), (7, .int .i64 (i : Nat))], [.box 40 [.ro 1 (rowZ [(p : Int), (q : Int)]), .ro 1 (rowR a)], .box 40 [.ro 1 (rowZ [(q : Int), (c : Int)]), .ro 1 (rowR b)], .box 40 [.nils, .nils], .row false 100 2 (rowA (r.take (i * c)))]⟩)), rfl, ⟨p, 0, by omega, rfl, .inl ⟨by omega, rfl⟩⟩, ?_⟩
  rintro m _ ⟨i, hi, hm0, hst⟩
  have hic : i * c ≤ p * c := Nat.mul_le_mul_right _ hi
  have hol : (rowA (r.take (i * c))).length = i * c := by rw [rowA_length, List.length_take]; omega
  rcases Nat.lt_or_ge i p with hil | hge
  · rcases hst with ⟨h0, rfl⟩ | ⟨h0, rfl⟩
    all_goals (repeat' first|refine sY ⟨?_⟩|(refine sq ?_ ?_<;>refine fun h=>⟨?_⟩<;>(first|contradiction|(exfalso;omega)|skip))|fail)
    all_goals first
      | refine ⟨[2, 3, 4, 5, 6, 7, 8], [0, 1, 2, 3], fun m st => ∃ k : Nat, k ≤ c ∧ m = c - k ∧ ((i * c + k = 0 ∧ st = ⟨[(2, .bptr 0 0), (3, .bptr 1 0), (4, .bptr 2 0), (5, .int .i64 (q : Nat)), (6, .nils), (7, .int .i64 (i : Nat)), (8, .int .i64 (k : Nat))], [.box 40 [.ro 1 (rowZ [(p : Int), (q : Int)]), .ro 1 (rowR a)], .box 40 [.ro 1 (rowZ [(q : Int), (c : Int)]), .ro 1 (rowR b)], .box 40 [.nils, .nils]]⟩) ∨ (0 < i * c + k ∧ st = ⟨[(2, .bptr 0 0), (3, .bptr 1 0), (4, .bptr 2 0), (5, .int .i64 (q : Nat)), (6, .own 3 0 (rowA (r.take (i * c + k))).length), (7, .int .i64 (i : Nat)), (8, .int .i64 (k : Nat))], [.box 40 [.ro 1 (rowZ [(p : Int), (q : Int)]), .ro 1 (rowR a)], .box 40 [.ro 1 (rowZ [(q : Int), (c : Int)]), .ro 1 (rowR b)], .box 40 [.nils, .nils], .row false 100 2 (rowA (r.take (i * c + k)))]⟩)), rfl, ⟨c, 0, by omega, rfl, .inr ⟨by omega, rfl⟩⟩, ?_⟩
      | refine ⟨[2, 3, 4, 5, 6, 7, 8], [0, 1, 2], fun m st => ∃ k : Nat, k ≤ c ∧ m = c - k ∧ ((i * c + k = 0 ∧ st = ⟨[(2, .bptr 0 0), (3, .bptr 1 0), (4, .bptr 2 0), (5, .int .i64 (q : Nat)), (6, .nils), (7, .int .i64 (i : Nat)), (8, .int .i64 (k : Nat))], [.box 40 [.ro 1 (rowZ [(p : Int), (q : Int)]), .ro 1 (rowR a)], .box 40 [.ro 1 (rowZ [(q : Int), (c : Int)]), .ro 1 (rowR b)], .box 40 [.nils, .nils]]⟩) ∨ (0 < i * c + k ∧ st = ⟨[(2, .bptr 0 0), (3, .bptr 1 0), (4, .bptr 2 0), (5, .int .i64 (q : Nat)), (6, .own 3 0 (rowA (r.take (i * c + k))).length), (7, .int .i64 (i : Nat)), (8, .int .i64 (k : Nat))], [.box 40 [.ro 1 (rowZ [(p : Int), (q : Int)]), .ro 1 (rowR a)], .box 40 [.ro 1 (rowZ [(q : Int), (c : Int)]), .ro 1 (rowR b)], .box 40 [.nils, .nils], .row false 100 2 (rowA (r.take (i * c + k)))]⟩)), rfl, ⟨c, 0, by omega, rfl, .inl ⟨by omega, rfl⟩⟩, ?_⟩
    all_goals rintro m2 _ ⟨k, hk, hm2, hst⟩
    all_goals (
      have hn : i * c + k ≤ p * c := by have h9 : (i + 1) * c ≤ p * c := Nat.mul_le_mul_right _ hil; rw [Nat.add_mul] at h9; omega
      have hol2 : (rowA (r.take (i * c + k))).length = i * c + k := by rw [rowA_length, List.length_take]; omega
      rcases Nat.lt_or_ge k c with hkl | hkge
      · have hrv := hrg i k hil hkl
        have hix := idx_lt hil hkl
        rcases hst with ⟨h1, rfl⟩ | ⟨h1, rfl⟩
        · first
          | (exfalso; omega)
          | (
            repeat' first|refine sY ⟨?_⟩|(refine sq ?_ ?_<;>refine fun h=>⟨?_⟩<;>(first|contradiction|(exfalso;omega)|skip))|fail
            refine ⟨[2, 3, 4, 5, 6, 7, 8, 9, 10], [0, 1, 2, 3], fun m st => ∃ j : Nat, j ≤ q ∧ m = q - j ∧ st = ⟨[(2, .bptr 0 0), (3, .bptr 1 0), (4, .bptr 2 0), (5, .int .i64 (q : Nat)), (6, .nils), (7, .int .i64 (i : Nat)), (8, .int .i64 (k : Nat)), (9, .bptr 3 0), (10, .int .i64 (j : Nat))], [.box 40 [.ro 1 (rowZ [(p : Int), (q : Int)]), .ro 1 (rowR a)], .box 40 [.ro 1 (rowZ [(q : Int), (c : Int)]), .ro 1 (rowR b)], .box 40 [.nils, .nils], .box 100 (ratC (sumR ((termsV q c a b i k).take j)))]⟩, rfl, ⟨q, 0, by omega, rfl, Eq.trans rfl (congrArg (fun z : List AV => (⟨[(2, .bptr 0 0), (3, .bptr 1 0), (4, .bptr 2 0), (5, .int .i64 (q : Nat)), (6, .nils), (7, .int .i64 (i : Nat)), (8, .int .i64 (k : Nat)), (9, .bptr 3 0), (10, .int .i64 (0 : Nat))], [.box 40 [.ro 1 (rowZ [(p : Int), (q : Int)]), .ro 1 (rowR a)], .box 40 [.ro 1 (rowZ [(q : Int), (c : Int)]), .ro 1 (rowR b)], .box 40 [.nils, .nils], .box 100 z]⟩ : St)) (show [.str ⟨#[48]⟩, .str ⟨#[49]⟩] = ratC (sumR ((termsV q c a b i k).take 0)) by rw [List.take_zero, sumR_nil, ratC_zero]))⟩, ?_⟩
            rintro m3 _ ⟨j, hj, hm3, rfl⟩
            rcases Nat.lt_or_ge j q with hjl | hjge
            · have hA := idx_lt hil hjl
              have hB := idx_lt hjl hkl
              have hpq : p * q ≤ 4096 := Nat.mul_le_mul p2 q2
              have hqc : q * c ≤ 4096 := Nat.mul_le_mul q2 c2
              have e1 : (i : Int) * (q : Int) = ((i * q : Nat) : Int) := by simp
              have e2 : (j : Int) * (c : Int) = ((j * c : Nat) : Int) := by simp
              have b1 : 0 ≤ (i : Int) * (q : Int) ∧ (i : Int) * (q : Int) ≤ 4096 := by rw [e1]; omega
              have b2 : 0 ≤ (j : Int) * (c : Int) ∧ (j : Int) * (c : Int) ≤ 4096 := by rw [e2]; omega
              have hta := c_r05_At [(p : Int), (q : Int)] (v := a) (i := i * q + j) (by omega) hra
              have htb := c_r05_At [(q : Int), (c : Int)] (v := b) (i := j * c + k) (by omega) hrb
              rw [Int.natCast_add, ← e1] at hta
              rw [Int.natCast_add, ← e2] at htb
              have hRm := c_r03_Mul (x := a[i * q + j]'(by omega)) (y := b[j * c + k]'(by omega)) (hra _ (List.getElem_mem _)) (hrb _ (List.getElem_mem _))
              rw [atR_get, atR_get] at hRm
              rw [atR_get] at hta htb
              have hRa := c_r03_Add (hs i k j hil hkl (by omega)) (hm i k j hil hkl hjl)
              rw [← termsV_get (by rw [termsV_len]; exact hjl), ← sumR_take] at hRa
              rw [← termsV_get (by rw [termsV_len]; exact hjl)] at hRm
              unfold ratA at hta htb hRm hRa
              unfold tenR at hta htb
              repeat' first|refine sY ⟨?_⟩|(refine sq ?_ ?_<;>refine fun h=>⟨?_⟩<;>(first|contradiction|(exfalso;omega)|skip))|fail
              refine ⟨by decide +kernel, [0, 0, 0, 0, 12, 0, 60, 126, 0, 0, 0, 1024, 3072, 7168, 15872, 0, 65024, 131070, 262142, 524287, 1048575], by decide +kernel, ?_⟩
              repeat' first|refine sY ⟨?_⟩|(refine sq ?_ ?_<;>refine fun h=>⟨?_⟩<;>(first|contradiction|(exfalso;omega)|skip))|fail
              all_goals exact ⟨[0, 1, 2, 3], q - (j + 1), rfl, by omega, j + 1, by omega, rfl, rfl⟩
            obtain rfl : q = j := by omega
            repeat' first|refine sY ⟨?_⟩|(refine sq ?_ ?_<;>refine fun h=>⟨?_⟩<;>(first|contradiction|(exfalso;omega)|skip))|fail
            conv => whnf
            refine ⟨Nat.le_of_ble_eq_true rfl, fun h => Nat.succ_ne_zero _ (congrArg List.length h), ?_⟩
            repeat' first|refine sY ⟨?_⟩|(refine sq ?_ ?_<;>refine fun h=>⟨?_⟩<;>(first|contradiction|(exfalso;omega)|skip))|fail
            refine ⟨[0, 1, 2, 5], c - (k + 1), rfl, by omega, k + 1, by omega, rfl, .inr ⟨by omega, ?_⟩⟩
            have hone : rowA (r.take (i * c + (k + 1))) = [ratC (sumR ((termsV q c a b i k).take q))] := by
              have e1 : i * c + (k + 1) = 1 := by omega
              rw [e1, rowA_one (by omega), List.take_of_length_le (by rw [termsV_len]; exact Nat.le_refl _), ← hrv]; simp [h1]
            exact Eq.trans rfl (congrArg (fun z : List (List AV) => (⟨[(2, .bptr 0 0), (3, .bptr 1 0), (4, .bptr 2 0), (5, .int .i64 (q : Nat)), (6, .own 3 0 (z).length), (7, .int .i64 (i : Nat)), (8, .int .i64 (k + 1 : Nat))], [.box 40 [.ro 1 (rowZ [(p : Int), (q : Int)]), .ro 1 (rowR a)], .box 40 [.ro 1 (rowZ [(q : Int), (c : Int)]), .ro 1 (rowR b)], .box 40 [.nils, .nils], .row false 100 2 (z)]⟩ : St)) hone.symm))
        · repeat' first|refine sY ⟨?_⟩|(refine sq ?_ ?_<;>refine fun h=>⟨?_⟩<;>(first|contradiction|(exfalso;omega)|skip))|fail
          refine ⟨[2, 3, 4, 5, 6, 7, 8, 9, 10], [0, 1, 2, 3, 4], fun m st => ∃ j : Nat, j ≤ q ∧ m = q - j ∧ st = ⟨[(2, .bptr 0 0), (3, .bptr 1 0), (4, .bptr 2 0), (5, .int .i64 (q : Nat)), (6, .own 3 0 (rowA (r.take (i * c + k))).length), (7, .int .i64 (i : Nat)), (8, .int .i64 (k : Nat)), (9, .bptr 4 0), (10, .int .i64 (j : Nat))], [.box 40 [.ro 1 (rowZ [(p : Int), (q : Int)]), .ro 1 (rowR a)], .box 40 [.ro 1 (rowZ [(q : Int), (c : Int)]), .ro 1 (rowR b)], .box 40 [.nils, .nils], .row false 100 2 (rowA (r.take (i * c + k))), .box 100 (ratC (sumR ((termsV q c a b i k).take j)))]⟩, rfl, ⟨q, 0, by omega, rfl, Eq.trans rfl (congrArg (fun z : List AV => (⟨[(2, .bptr 0 0), (3, .bptr 1 0), (4, .bptr 2 0), (5, .int .i64 (q : Nat)), (6, .own 3 0 (rowA (r.take (i * c + k))).length), (7, .int .i64 (i : Nat)), (8, .int .i64 (k : Nat)), (9, .bptr 4 0), (10, .int .i64 (0 : Nat))], [.box 40 [.ro 1 (rowZ [(p : Int), (q : Int)]), .ro 1 (rowR a)], .box 40 [.ro 1 (rowZ [(q : Int), (c : Int)]), .ro 1 (rowR b)], .box 40 [.nils, .nils], .row false 100 2 (rowA (r.take (i * c + k))), .box 100 z]⟩ : St)) (show [.str ⟨#[48]⟩, .str ⟨#[49]⟩] = ratC (sumR ((termsV q c a b i k).take 0)) by rw [List.take_zero, sumR_nil, ratC_zero]))⟩, ?_⟩
          rintro m3 _ ⟨j, hj, hm3, rfl⟩
          rcases Nat.lt_or_ge j q with hjl | hjge
          · have hA := idx_lt hil hjl
            have hB := idx_lt hjl hkl
            have hpq : p * q ≤ 4096 := Nat.mul_le_mul p2 q2
            have hqc : q * c ≤ 4096 := Nat.mul_le_mul q2 c2
            have e1 : (i : Int) * (q : Int) = ((i * q : Nat) : Int) := by simp
            have e2 : (j : Int) * (c : Int) = ((j * c : Nat) : Int) := by simp
            have b1 : 0 ≤ (i : Int) * (q : Int) ∧ (i : Int) * (q : Int) ≤ 4096 := by rw [e1]; omega
            have b2 : 0 ≤ (j : Int) * (c : Int) ∧ (j : Int) * (c : Int) ≤ 4096 := by rw [e2]; omega
            have hta := c_r05_At [(p : Int), (q : Int)] (v := a) (i := i * q + j) (by omega) hra
            have htb := c_r05_At [(q : Int), (c : Int)] (v := b) (i := j * c + k) (by omega) hrb
            rw [Int.natCast_add, ← e1] at hta
            rw [Int.natCast_add, ← e2] at htb
            have hRm := c_r03_Mul (x := a[i * q + j]'(by omega)) (y := b[j * c + k]'(by omega)) (hra _ (List.getElem_mem _)) (hrb _ (List.getElem_mem _))
            rw [atR_get, atR_get] at hRm
            rw [atR_get] at hta htb
            have hRa := c_r03_Add (hs i k j hil hkl (by omega)) (hm i k j hil hkl hjl)
            rw [← termsV_get (by rw [termsV_len]; exact hjl), ← sumR_take] at hRa
            rw [← termsV_get (by rw [termsV_len]; exact hjl)] at hRm
            unfold ratA at hta htb hRm hRa
            unfold tenR at hta htb
            repeat' first|refine sY ⟨?_⟩|(refine sq ?_ ?_<;>refine fun h=>⟨?_⟩<;>(first|contradiction|(exfalso;omega)|skip))|fail
            refine ⟨by decide +kernel, [0, 0, 0, 0, 12, 0, 60, 126, 0, 0, 0, 1024, 3072, 7168, 15872, 0, 65024, 131070, 262142, 524287, 1048575], by decide +kernel, ?_⟩
            repeat' first|refine sY ⟨?_⟩|(refine sq ?_ ?_<;>refine fun h=>⟨?_⟩<;>(first|contradiction|(exfalso;omega)|skip))|fail
            all_goals exact ⟨[0, 1, 2, 3, 4], q - (j + 1), rfl, by omega, j + 1, by omega, rfl, rfl⟩
          obtain rfl : q = j := by omega
          have hsn : rowA (r.take (i * c + (k + 1))) = List.take (rowA (r.take (i * c + k))).length (rowA (r.take (i * c + k))) ++ [ratC (sumR ((termsV q c a b i k).take q))] := by
            rw [List.take_of_length_le (l := termsV q c a b i k) (by rw [termsV_len]; exact Nat.le_refl _), ← hrv, ← Nat.add_assoc, rowA_snoc (by omega)]
          repeat' first|refine sY ⟨?_⟩|(refine sq ?_ ?_<;>refine fun h=>⟨?_⟩<;>(first|contradiction|(exfalso;omega)|skip))|fail
          refine ⟨Nat.le_refl _, (show ((rowA (r.take (i * c + k))).length + 1) * 32 ≤ 140737488355328 by omega), _, hsn, ?_⟩
          repeat' first|refine sY ⟨?_⟩|(refine sq ?_ ?_<;>refine fun h=>⟨?_⟩<;>(first|contradiction|(exfalso;omega)|skip))|fail
          all_goals exact ⟨[0, 1, 2, 6], c - (k + 1), rfl, by omega, k + 1, by omega, rfl, .inr ⟨by omega, rfl⟩⟩
      · obtain rfl : c = k := by omega
        rcases hst with ⟨h1, rfl⟩ | ⟨h1, rfl⟩
        · omega
        · repeat' first|refine sY ⟨?_⟩|(refine sq ?_ ?_<;>refine fun h=>⟨?_⟩<;>(first|contradiction|(exfalso;omega)|skip))|fail
          refine ⟨[0, 1, 2, 3], p - (i + 1), rfl, by omega, i + 1, by omega, rfl, .inr ⟨by rw [Nat.add_mul]; omega, ?_⟩⟩
          exact Eq.trans rfl (congrArg (fun n : Nat => (⟨[(2, .bptr 0 0), (3, .bptr 1 0), (4, .bptr 2 0), (5, .int .i64 (q : Nat)), (6, .own 3 0 (rowA (r.take n)).length), (7, .int .i64 (i + 1 : Nat))], [.box 40 [.ro 1 (rowZ [(p : Int), (q : Int)]), .ro 1 (rowR a)], .box 40 [.ro 1 (rowZ [(q : Int), (c : Int)]), .ro 1 (rowR b)], .box 40 [.nils, .nils], .row false 100 2 (rowA (r.take n))]⟩ : St)) (show i * c + c = (i + 1) * c by rw [Nat.add_mul]; omega)))
  · obtain rfl : p = i := by omega
    rcases hst with ⟨h0, rfl⟩ | ⟨h0, rfl⟩
    · exact absurd h0 (by omega)
    · have e : r.take (p * c) = r := List.take_of_length_le (by omega)
      rw [e]
      repeat' first|refine sY ⟨?_⟩|(refine sq ?_ ?_<;>refine fun h=>⟨?_⟩<;>(first|contradiction|(exfalso;omega)|skip))|fail
      refine ⟨by decide +kernel, [0, 1, 3, 7, 0, 16, 48, 112, 255, 0, 1023, 2047], by decide +kernel, ?_⟩
      repeat' first|refine sY ⟨?_⟩|(refine sq ?_ ?_<;>refine fun h=>⟨?_⟩<;>(first|contradiction|(exfalso;omega)|skip))|fail
      all_goals (conv => whnf)
      all_goals rfl
end Go.V
namespace Go.V
open Go.N
set_option maxRecDepth 20000
def T_r06_Transpose : Tab := [(40, i40), (33, i33), (3, i3), (34, i34), (9, i9)]
theorem TOK_r06_Transpose : TOK Go.Proofs.Tryz.prog T_r06_Transpose := ⟨K40, ⟨K33, ⟨K3, ⟨K34, ⟨K9, trivial⟩⟩⟩⟩⟩
theorem remN (n p : Nat) : ((n % p : Nat) : Int) = Int.tmod (n : Int) (p : Int) := Int.ofNat_tmod n p
theorem quoN (n p : Nat) (hn : n < 1000000) : ((n / p : Nat) : Int) = IntKind.wrap .i64 (Int.tdiv (n : Int) (p : Int)) := by
  rw [show Int.tdiv (n : Int) (p : Int) = ((n / p : Nat) : Int) from (Int.ofNat_tdiv n p).symm]
  have h := Nat.div_le_self n p
  generalize n / p = d at h
  exact wi64 (by omega) (by omega)
set_option maxHeartbeats 4000000 in
theorem c_r06_Transpose (p q : Nat) {a : List Rat} (ha : VT [(p : Int), (q : Int)] a) :
    VCall Go.Proofs.Tryz.prog GL 76 [tenR [(p : Int), (q : Int)] a] (fun y => y = tenR [(q : Int), (p : Int)] (transV p q a)) := by
  obtain ⟨p1, p2, q1, q2, hal⟩ := VT2 ha
  have hvl := rowR_length a
  have hv := ha.vl
  have hpq : p * q ≤ 4096 := Nat.mul_le_mul p2 q2
  have hqp : q * p = p * q := Nat.mul_comm q p
  refine VCall.taken ?_
  obtain ⟨r, hr⟩ : ∃ r, r = transV p q a := ⟨_, rfl⟩
  rw [← hr]
  have hrl : r.length = a.length := by rw [hr, transV_len]; omega
  have hrg : ∀ i (hi : i < a.length), r[i]'(by omega) = atR a (i % p * q + i / p) := fun i hi => by subst hr; simp [transV]
  clear hr
  unfold tenR
  refine vcall_of TOK_r06_Transpose HM Go.Proofs.Tryz.func76 rfl (by decide +kernel) (by decide +kernel) rfl ?_
  repeat' first|refine sY ⟨?_⟩|(refine sq ?_ ?_<;>refine fun h=>⟨?_⟩<;>(first|contradiction|(exfalso;omega)|skip))|fail
  refine ⟨by decide +kernel, [0, 1, 3, 7, 0, 16, 48, 112, 255, 511, 0, 2047], by decide +kernel, ?_⟩
  repeat' first|refine sY ⟨?_⟩|(refine sq ?_ ?_<;>refine fun h=>⟨?_⟩<;>(first|contradiction|(exfalso;omega)|skip))|fail
  refine ⟨[1, 2, 3, 4], [0, 1, 3, 2], fun m st => ∃ i : Nat, i ≤ a.length ∧ m = a.length - i ∧ ((i = 0 ∧ st = ⟨[(1, .bptr 0 0), (2, .bptr 1 0), (3, .bptr 2 0), (4, .int .i64 (i : Nat))], [.box 40 [.ro 1 (rowZ [(p : Int), (q : Int)]), .ro 1 (rowR a)], .box 40 [.nils, .nils], .box 40 [.own 3 0 2, .nils], .row false 3 1 (rowZ [(q : Int), (p : Int)])]⟩) ∨ (0 < i ∧ st = ⟨[(1, .bptr 0 0), (2, .bptr 1 0), (3, .bptr 2 0), (4, .int .i64 (i : Nat))], [.box 40 [.ro 1 (rowZ [(p : Int), (q : Int)]), .ro 1 (rowR a)], .box 40 [.nils, .nils], .box 40 [.own 3 0 2, .own 4 0 (rowR (r.take i)).length], .row false 3 1 (rowZ [(q : Int), (p : Int)]), .row false 9 1 (rowR (r.take i))]⟩)), rfl, ⟨a.length, 0, by omega, rfl, .inl ⟨rfl, rfl⟩⟩, ?_⟩
  rintro m _ ⟨i, hi, hm0, hst⟩
  have hol : (rowR (r.take i)).length = i := by rw [rowR_length, List.length_take]; omega
  rcases Nat.lt_or_ge i a.length with hil | hge
  · have hrv := hrg i hil
    obtain ⟨Mo, hMo⟩ : ∃ n : Nat, n = i % p := ⟨_, rfl⟩
    obtain ⟨D, hD⟩ : ∃ n : Nat, n = i / p := ⟨_, rfl⟩
    rw [← hMo, ← hD] at hrv
    have hmod : Mo < p := by rw [hMo]; exact Nat.mod_lt _ (by omega)
    have hdiv : D < q := by rw [hD]; exact Nat.div_lt_of_lt_mul (by omega)
    have hA := idx_lt hmod hdiv
    have gA := rowR_at (l := a) (i := Mo * q + D) (by omega)
    have e1 : (Mo : Int) * (q : Int) = ((Mo * q : Nat) : Int) := by simp
    generalize hM : Mo * q = M at hA gA e1 hrv
    have b1 : 0 ≤ (Mo : Int) * (q : Int) ∧ (Mo : Int) * (q : Int) ≤ 4096 := by rw [e1]; omega
    rcases hst with ⟨h0, rfl⟩ | ⟨h0, rfl⟩
    · repeat' first|refine sY ⟨?_⟩|(refine sq ?_ ?_<;>refine fun h=>⟨?_⟩<;>(first|contradiction|(exfalso;omega)|skip))|fail
      refine ⟨by decide +kernel, [0, 1, 0, 4, 0, 0, 32, 96, 224, 496, 0, 1024, 3072, 7168, 16368, 0, 0, 65536, 196608, 458752, 1015808, 2097136, 4194300, 8388604, 16777212, 33554431, 67108863, 134217727], by decide +kernel, ?_⟩
      repeat' first|refine sY ⟨?_⟩|(refine sq ?_ ?_<;>refine fun h=>⟨?_⟩<;>(first|contradiction|(exfalso;omega)|skip))|fail
      refine ⟨by omega, (Mo : Int), (by rw [hMo]; exact remN i p), ?_⟩
      repeat' first|refine sY ⟨?_⟩|(refine sq ?_ ?_<;>refine fun h=>⟨?_⟩<;>(first|contradiction|(exfalso;omega)|skip))|fail
      refine ⟨by omega, (D : Int), (by rw [hD]; exact quoN i p (by omega)), ?_⟩
      repeat' first|refine sY ⟨?_⟩|(refine sq ?_ ?_<;>refine fun h=>⟨?_⟩<;>(first|contradiction|(exfalso;omega)|skip))|fail
      refine ⟨M + D, _, (by rw [e1]; omega), gA, ?_⟩
      repeat' first|refine sY ⟨?_⟩|(refine sq ?_ ?_<;>refine fun h=>⟨?_⟩<;>(first|contradiction|(exfalso;omega)|skip))|fail
      conv => whnf
      refine ⟨Nat.le_of_ble_eq_true rfl, fun h => Nat.succ_ne_zero _ (congrArg List.length h), ?_⟩
      repeat' first|refine sY ⟨?_⟩|(refine sq ?_ ?_<;>refine fun h=>⟨?_⟩<;>(first|contradiction|(exfalso;omega)|skip))|fail
      refine ⟨[0, 1, 2, 3, 5], a.length - (i + 1), rfl, by omega, i + 1, by omega, rfl, .inr ⟨by omega, ?_⟩⟩
      have hone : rowR (r.take (i + 1)) = [[.str (ratB (atR a (M + D)))]] := by rw [← hrv]; subst h0; rw [rowR_one (by omega)]
      exact Eq.trans rfl (congrArg (fun z : List (List AV) => (⟨[(1, .bptr 0 0), (2, .bptr 1 0), (3, .bptr 2 0), (4, .int .i64 (i + 1 : Nat))], [.box 40 [.ro 1 (rowZ [(p : Int), (q : Int)]), .ro 1 (rowR a)], .box 40 [.nils, .nils], .box 40 [.own 3 0 2, .own 4 0 (z).length], .row false 3 1 (rowZ [(q : Int), (p : Int)]), .row false 9 1 (z)]⟩ : St)) hone.symm)
    · have hsn : rowR (r.take (i + 1)) = List.take (rowR (r.take i)).length (rowR (r.take i)) ++ [[.str (ratB (atR a (M + D)))]] := by rw [rowR_snoc (by omega), hrv]
      repeat' first|refine sY ⟨?_⟩|(refine sq ?_ ?_<;>refine fun h=>⟨?_⟩<;>(first|contradiction|(exfalso;omega)|skip))|fail
      refine ⟨by decide +kernel, [0, 1, 0, 4, 0, 0, 32, 96, 224, 496, 0, 1024, 3072, 7168, 16368, 0, 0, 65536, 196608, 458752, 1015808, 2097136, 4194300, 8388604, 16777212, 33554431, 67108863, 134217727], by decide +kernel, ?_⟩
      repeat' first|refine sY ⟨?_⟩|(refine sq ?_ ?_<;>refine fun h=>⟨?_⟩<;>(first|contradiction|(exfalso;omega)|skip))|fail
      refine ⟨by omega, (Mo : Int), (by rw [hMo]; exact remN i p), ?_⟩
      repeat' first|refine sY ⟨?_⟩|(refine sq ?_ ?_<;>refine fun h=>⟨?_⟩<;>(first|contradiction|(exfalso;omega)|skip))|fail
      refine ⟨by omega, (D : Int), (by rw [hD]; exact quoN i p (by omega)), ?_⟩
      repeat' first|refine sY ⟨?_⟩|(refine sq ?_ ?_<;>refine fun h=>⟨?_⟩<;>(first|contradiction|(exfalso;omega)|skip))|fail
      refine ⟨M + D, _, (by rw [e1]; omega), gA, ?_⟩
      repeat' first|refine sY ⟨?_⟩|(refine sq ?_ ?_<;>refine fun h=>⟨?_⟩<;>(first|contradiction|(exfalso;omega)|skip))|fail
      refine ⟨Nat.le_refl _, (show ((rowR (r.take i)).length + 1) * 16 ≤ 140737488355328 by omega), _, hsn, ?_⟩
      repeat' first|refine sY ⟨?_⟩|(refine sq ?_ ?_<;>refine fun h=>⟨?_⟩<;>(first|contradiction|(exfalso;omega)|skip))|fail
      all_goals exact ⟨[0, 1, 2, 3, 6], a.length - (i + 1), rfl, by omega, i + 1, by omega, rfl, .inr ⟨by omega, rfl⟩⟩
  · rcases hst with ⟨rfl, rfl⟩ | ⟨h0, rfl⟩
    · exact absurd hge (by omega)
    · have e : r.take i = r := List.take_of_length_le (by omega)
      rw [e]
      repeat' first|refine sY ⟨?_⟩|(refine sq ?_ ?_<;>refine fun h=>⟨?_⟩<;>(first|contradiction|(exfalso;omega)|skip))|fail
      all_goals (conv => whnf)
      all_goals exact ⟨_, roToA rfl rfl, rfl⟩
end Go.V
namespace Go.V
open Go.N
set_option maxRecDepth 20000
def T_tZip : Tab := [(40, i40), (144, i144), (59, i59), (4, i4), (33, i33), (3, i3), (146, i146)]
theorem TOK_tZip : TOK Go.Proofs.Tryz.prog T_tZip := ⟨K40, ⟨K144, ⟨K59, ⟨K4, ⟨K33, ⟨K3, ⟨K146, trivial⟩⟩⟩⟩⟩⟩⟩
def T_tZip1 : Tab := [(59, i59), (40, i40), (34, i34), (9, i9)]
theorem TOK_tZip1 : TOK Go.Proofs.Tryz.prog T_tZip1 := ⟨K59, ⟨K40, ⟨K34, ⟨K9, trivial⟩⟩⟩⟩
theorem c_tZip1 (f : FuncId) (i : Nat) (x : ByteArray) (s : List Int) (b : List Rat) (z : ByteArray) (hi : i < b.length) (hf : VCall Go.Proofs.Tryz.prog GL f [.str x, .str (ratB b[i])] (fun y => y = .tup [.str z, .int .i64 0])) :
    VCall Go.Proofs.Tryz.prog GL 120 [.int .i64 (i : Nat), .str x, .rp [.fn f []], .rp [.ro 1 (rowZ s), .ro 1 (rowR b)]] (fun y => y = .tup [.str z, .int .i64 0]) := by
  have g : (rowR b)[i]? = some [.str (ratB b[i])] := rowR_get hi
  refine vcall_of TOK_tZip1 HM Go.Proofs.Tryz.func120 rfl (by decide +kernel) (by decide +kernel) rfl ?_
  repeat' first|refine sY ⟨?_⟩|(refine sq ?_ ?_<;>refine fun h=>⟨?_⟩<;>(first|contradiction|(exfalso;omega)|skip))|fail
  refine ⟨by decide +kernel, [0, 0, 0, 4, 0, 28, 60, 127, 255, 255, 1023, 2047], by decide +kernel, ?_⟩
  repeat' first|refine sY ⟨?_⟩|(refine sq ?_ ?_<;>refine fun h=>⟨?_⟩<;>(first|contradiction|(exfalso;omega)|skip))|fail
  all_goals (conv => whnf)
  all_goals rfl
theorem c_tZipAdd {s : List Int} {a b : List Rat} (ha : VT s a) (hb : VT s b) : VCall Go.Proofs.Tryz.prog GL 62 [.str sAdd, tenR s a, tenR s b] (fun y => y = .tup [tenR s (List.zipWith (fun x y => x + y) a b), .int .i64 0]) := by
  have h1 := c_tRightV ha
  have h2 := c_tRightV hb
  have h3 := c_shape_Same GL s s (by have := ha.sl; omega) (by have := ha.sl; omega)
  rw [decide_eq_true rfl] at h3
  have hl : b.length = a.length := by have := ha.len; have := hb.len; omega
  have h4 := c_teach2 120 [.fn 35 []] [.ro 1 (rowZ s), .ro 1 (rowR b)] s a (List.zipWith (fun x y => x + y) a b) (by have := ha.sl; omega) (by have := ha.vl; omega) (by simp; omega)
    (fun i hi => c_tZip1 _ i _ s b _ (by omega) (by rw [List.getElem_zipWith]; exact c_RAdd (ha.rs _ (List.getElem_mem hi)) (hb.rs _ (List.getElem_mem _))))
  refine VCall.taken ?_
  refine vcall_of TOK_tZip HM Go.Proofs.Tryz.func62 rfl (by decide +kernel) (by decide +kernel) rfl ?_
  repeat' first|refine sY ⟨?_⟩|(refine sq ?_ ?_<;>refine fun h=>⟨?_⟩<;>(first|contradiction|(exfalso;omega)|skip))|fail
  refine ⟨.fn 35 [], true, by rfl, by rfl, ?_⟩
  repeat' first|refine sY ⟨?_⟩|(refine sq ?_ ?_<;>refine fun h=>⟨?_⟩<;>(first|contradiction|(exfalso;omega)|skip))|fail
  conv => whnf
  rintro _ ⟨z, hz, rfl⟩
  have hfl := flat_TF hz
  rcases hz with rfl | ⟨hs0, rfl⟩
  · conv => whnf
    refine ⟨false, hfl, ?_⟩
    repeat' first|refine sY ⟨?_⟩|(refine sq ?_ ?_<;>refine fun h=>⟨?_⟩<;>(first|contradiction|(exfalso;omega)|skip))|fail
    conv => whnf
    exact ⟨_, roTo2 (roToA rfl rfl) rfl, rfl⟩
  · conv => whnf
    refine ⟨false, hfl, ?_⟩
    repeat' first|refine sY ⟨?_⟩|(refine sq ?_ ?_<;>refine fun h=>⟨?_⟩<;>(first|contradiction|(exfalso;omega)|skip))|fail
    conv => whnf
    exact ⟨_, roTo2 (roToA (show RoTo .nils (.ro 1 (rowZ s)) from ⟨1, by rw [hs0]; rfl⟩) rfl) rfl, rfl⟩
theorem c_tZipSub {s : List Int} {a b : List Rat} (ha : VT s a) (hb : VT s b) : VCall Go.Proofs.Tryz.prog GL 62 [.str sSub, tenR s a, tenR s b] (fun y => y = .tup [tenR s (List.zipWith (fun x y => x - y) a b), .int .i64 0]) := by
  have h1 := c_tRightV ha
  have h2 := c_tRightV hb
  have h3 := c_shape_Same GL s s (by have := ha.sl; omega) (by have := ha.sl; omega)
  rw [decide_eq_true rfl] at h3
  have hl : b.length = a.length := by have := ha.len; have := hb.len; omega
  have h4 := c_teach2 120 [.fn 37 []] [.ro 1 (rowZ s), .ro 1 (rowR b)] s a (List.zipWith (fun x y => x - y) a b) (by have := ha.sl; omega) (by have := ha.vl; omega) (by simp; omega)
    (fun i hi => c_tZip1 _ i _ s b _ (by omega) (by rw [List.getElem_zipWith]; exact c_RSub (ha.rs _ (List.getElem_mem hi)) (hb.rs _ (List.getElem_mem _))))
  refine VCall.taken ?_
  refine vcall_of TOK_tZip HM Go.Proofs.Tryz.func62 rfl (by decide +kernel) (by decide +kernel) rfl ?_
  repeat' first|refine sY ⟨?_⟩|(refine sq ?_ ?_<;>refine fun h=>⟨?_⟩<;>(first|contradiction|(exfalso;omega)|skip))|fail
  refine ⟨.fn 37 [], true, by rfl, by rfl, ?_⟩
  repeat' first|refine sY ⟨?_⟩|(refine sq ?_ ?_<;>refine fun h=>⟨?_⟩<;>(first|contradiction|(exfalso;omega)|skip))|fail
  conv => whnf
  rintro _ ⟨z, hz, rfl⟩
  have hfl := flat_TF hz
  rcases hz with rfl | ⟨hs0, rfl⟩
  · conv => whnf
    refine ⟨false, hfl, ?_⟩
    repeat' first|refine sY ⟨?_⟩|(refine sq ?_ ?_<;>refine fun h=>⟨?_⟩<;>(first|contradiction|(exfalso;omega)|skip))|fail
    conv => whnf
    exact ⟨_, roTo2 (roToA rfl rfl) rfl, rfl⟩
  · conv => whnf
    refine ⟨false, hfl, ?_⟩
    repeat' first|refine sY ⟨?_⟩|(refine sq ?_ ?_<;>refine fun h=>⟨?_⟩<;>(first|contradiction|(exfalso;omega)|skip))|fail
    conv => whnf
    exact ⟨_, roTo2 (roToA (show RoTo .nils (.ro 1 (rowZ s)) from ⟨1, by rw [hs0]; rfl⟩) rfl) rfl, rfl⟩
theorem c_tZipMul {s : List Int} {a b : List Rat} (ha : VT s a) (hb : VT s b) : VCall Go.Proofs.Tryz.prog GL 62 [.str sMul, tenR s a, tenR s b] (fun y => y = .tup [tenR s (List.zipWith (fun x y => x * y) a b), .int .i64 0]) := by
  have h1 := c_tRightV ha
  have h2 := c_tRightV hb
  have h3 := c_shape_Same GL s s (by have := ha.sl; omega) (by have := ha.sl; omega)
  rw [decide_eq_true rfl] at h3
  have hl : b.length = a.length := by have := ha.len; have := hb.len; omega
  have h4 := c_teach2 120 [.fn 34 []] [.ro 1 (rowZ s), .ro 1 (rowR b)] s a (List.zipWith (fun x y => x * y) a b) (by have := ha.sl; omega) (by have := ha.vl; omega) (by simp; omega)
    (fun i hi => c_tZip1 _ i _ s b _ (by omega) (by rw [List.getElem_zipWith]; exact c_RMul (ha.rs _ (List.getElem_mem hi)) (hb.rs _ (List.getElem_mem _))))
  refine VCall.taken ?_
  refine vcall_of TOK_tZip HM Go.Proofs.Tryz.func62 rfl (by decide +kernel) (by decide +kernel) rfl ?_
  repeat' first|refine sY ⟨?_⟩|(refine sq ?_ ?_<;>refine fun h=>⟨?_⟩<;>(first|contradiction|(exfalso;omega)|skip))|fail
  refine ⟨.fn 34 [], true, by rfl, by rfl, ?_⟩
  repeat' first|refine sY ⟨?_⟩|(refine sq ?_ ?_<;>refine fun h=>⟨?_⟩<;>(first|contradiction|(exfalso;omega)|skip))|fail
  conv => whnf
  rintro _ ⟨z, hz, rfl⟩
  have hfl := flat_TF hz
  rcases hz with rfl | ⟨hs0, rfl⟩
  · conv => whnf
    refine ⟨false, hfl, ?_⟩
    repeat' first|refine sY ⟨?_⟩|(refine sq ?_ ?_<;>refine fun h=>⟨?_⟩<;>(first|contradiction|(exfalso;omega)|skip))|fail
    conv => whnf
    exact ⟨_, roTo2 (roToA rfl rfl) rfl, rfl⟩
  · conv => whnf
    refine ⟨false, hfl, ?_⟩
    repeat' first|refine sY ⟨?_⟩|(refine sq ?_ ?_<;>refine fun h=>⟨?_⟩<;>(first|contradiction|(exfalso;omega)|skip))|fail
    conv => whnf
    exact ⟨_, roTo2 (roToA (show RoTo .nils (.ro 1 (rowZ s)) from ⟨1, by rw [hs0]; rfl⟩) rfl) rfl, rfl⟩
end Go.V
namespace Go.V
open Go.N
set_option maxRecDepth 20000
def T_r12_Value : Tab := [(36, i36), (40, i40), (9, i9), (33, i33), (34, i34), (100, i100), (3, i3), (107, i107)]
theorem TOK_r12_Value : TOK Go.Proofs.Tryz.prog T_r12_Value := ⟨K36, ⟨K40, ⟨K9, ⟨K33, ⟨K34, ⟨K100, ⟨K3, ⟨K107, trivial⟩⟩⟩⟩⟩⟩⟩⟩
def nodeC (op : ByteArray) (A B : Int) (name : ByteArray) (shape : List Int) (k : ByteArray) (n : Int) (data : List ByteArray) : AV :=
  .agg [.str op, .int .i64 A, .int .i64 B, .str name, .ro 1 (rowZ shape), .str k, .int .i64 n, .ro 1 (rowS data)]
section
variable (A B : Int) (name : ByteArray) (shape : List Int) (k : ByteArray) (n : Int) (data : List ByteArray)
theorem c_Value_const (sa sb : List Int) (la lb : List ByteArray) : VCall Go.Proofs.Tryz.prog GL 48 [nodeC sConst A B name shape k n data, tenA sa la, tenA sb lb] (fun y => y = tenA shape data) := by
  unfold nodeC tenA
  refine vcall_of TOK_r12_Value HM Go.Proofs.Tryz.func48 rfl (by decide +kernel) (by decide +kernel) rfl ?_
  repeat' first|refine sY ⟨?_⟩|(refine sq ?_ ?_<;>refine fun h=>⟨?_⟩<;>(first|contradiction|(exfalso;omega)|skip))|fail
  all_goals (conv => whnf)
  all_goals rfl
theorem c_Value_add {s : List Int} {a b : List Rat} (ha : VT s a) (hb : VT s b) (hrs : ∀ x ∈ List.zipWith (fun x y => x + y) a b, RS x) : VCall Go.Proofs.Tryz.prog GL 48 [nodeC sAdd A B name shape k n data, tenR s a, tenR s b] (fun y => y = tenR s (List.zipWith (fun x y => x + y) a b)) := by
  have h := c_r05_ZipAdd ha hb hrs
  unfold nodeC
  unfold tenR at h ⊢
  refine vcall_of TOK_r12_Value HM Go.Proofs.Tryz.func48 rfl (by decide +kernel) (by decide +kernel) rfl ?_
  repeat' first|refine sY ⟨?_⟩|(refine sq ?_ ?_<;>refine fun h=>⟨?_⟩<;>(first|contradiction|(exfalso;omega)|skip))|fail
  all_goals (conv => whnf)
  all_goals rfl
theorem c_Value_sub {s : List Int} {a b : List Rat} (ha : VT s a) (hb : VT s b) (hrs : ∀ x ∈ List.zipWith (fun x y => x - y) a b, RS x) : VCall Go.Proofs.Tryz.prog GL 48 [nodeC sSub A B name shape k n data, tenR s a, tenR s b] (fun y => y = tenR s (List.zipWith (fun x y => x - y) a b)) := by
  have h := c_r05_ZipSub ha hb hrs
  unfold nodeC
  unfold tenR at h ⊢
  refine vcall_of TOK_r12_Value HM Go.Proofs.Tryz.func48 rfl (by decide +kernel) (by decide +kernel) rfl ?_
  repeat' first|refine sY ⟨?_⟩|(refine sq ?_ ?_<;>refine fun h=>⟨?_⟩<;>(first|contradiction|(exfalso;omega)|skip))|fail
  all_goals (conv => whnf)
  all_goals rfl
theorem c_Value_mul {s : List Int} {a b : List Rat} (ha : VT s a) (hb : VT s b) (hrs : ∀ x ∈ List.zipWith (fun x y => x * y) a b, RS x) : VCall Go.Proofs.Tryz.prog GL 48 [nodeC sMul A B name shape k n data, tenR s a, tenR s b] (fun y => y = tenR s (List.zipWith (fun x y => x * y) a b)) := by
  have h := c_r05_ZipMul ha hb hrs
  unfold nodeC
  unfold tenR at h ⊢
  refine vcall_of TOK_r12_Value HM Go.Proofs.Tryz.func48 rfl (by decide +kernel) (by decide +kernel) rfl ?_
  repeat' first|refine sY ⟨?_⟩|(refine sq ?_ ?_<;>refine fun h=>⟨?_⟩<;>(first|contradiction|(exfalso;omega)|skip))|fail
  all_goals (conv => whnf)
  all_goals rfl
theorem c_Value_max {s : List Int} {a b : List Rat} (ha : VT s a) (hb : VT s b) (hd : ∀ i (h : i < a.length), RS (a[i] - b[i]'(by have := ha.len; have := hb.len; omega))) (hrs : ∀ x ∈ List.zipWith maxR a b, RS x) : VCall Go.Proofs.Tryz.prog GL 48 [nodeC sMax A B name shape k n data, tenR s a, tenR s b] (fun y => y = tenR s (List.zipWith maxR a b)) := by
  have h := c_r07_Max ha hb hd hrs
  unfold nodeC
  unfold tenR at h ⊢
  refine vcall_of TOK_r12_Value HM Go.Proofs.Tryz.func48 rfl (by decide +kernel) (by decide +kernel) rfl ?_
  repeat' first|refine sY ⟨?_⟩|(refine sq ?_ ?_<;>refine fun h=>⟨?_⟩<;>(first|contradiction|(exfalso;omega)|skip))|fail
  all_goals (conv => whnf)
  all_goals rfl
theorem c_Value_above {s : List Int} {a b : List Rat} (ha : VT s a) (hb : VT s b) (hd : ∀ i (h : i < a.length), RS (a[i] - b[i]'(by have := ha.len; have := hb.len; omega))) (hrs : ∀ x ∈ List.zipWith aboveR a b, RS x) : VCall Go.Proofs.Tryz.prog GL 48 [nodeC sAbove A B name shape k n data, tenR s a, tenR s b] (fun y => y = tenR s (List.zipWith aboveR a b)) := by
  have h := c_r07_Above ha hb hd hrs
  unfold nodeC
  unfold tenR at h ⊢
  refine vcall_of TOK_r12_Value HM Go.Proofs.Tryz.func48 rfl (by decide +kernel) (by decide +kernel) rfl ?_
  repeat' first|refine sY ⟨?_⟩|(refine sq ?_ ?_<;>refine fun h=>⟨?_⟩<;>(first|contradiction|(exfalso;omega)|skip))|fail
  all_goals (conv => whnf)
  all_goals rfl
theorem c_Value_relu {s : List Int} {a : List Rat} (ha : VT s a) (hF : ∀ x, RS x → RS (reluR x)) (sb : List Int) (lb : List ByteArray) : VCall Go.Proofs.Tryz.prog GL 48 [nodeC sRelu A B name shape k n data, tenR s a, tenA sb lb] (fun y => y = tenR s (a.map reluR)) := by
  have h := c_r07_Each sRelu reluR ha hF (fun x hx => c_r07_Relu hx)
  unfold nodeC tenA
  unfold tenR at h ⊢
  refine vcall_of TOK_r12_Value HM Go.Proofs.Tryz.func48 rfl (by decide +kernel) (by decide +kernel) rfl ?_
  repeat' first|refine sY ⟨?_⟩|(refine sq ?_ ?_<;>refine fun h=>⟨?_⟩<;>(first|contradiction|(exfalso;omega)|skip))|fail
  all_goals (conv => whnf)
  all_goals rfl
theorem c_Value_abs {s : List Int} {a : List Rat} (ha : VT s a) (hF : ∀ x, RS x → RS (absR x)) (sb : List Int) (lb : List ByteArray) : VCall Go.Proofs.Tryz.prog GL 48 [nodeC sAbs A B name shape k n data, tenR s a, tenA sb lb] (fun y => y = tenR s (a.map absR)) := by
  have h := c_r07_Each sAbs absR ha hF (fun x hx => c_r07_Abs hx)
  unfold nodeC tenA
  unfold tenR at h ⊢
  refine vcall_of TOK_r12_Value HM Go.Proofs.Tryz.func48 rfl (by decide +kernel) (by decide +kernel) rfl ?_
  repeat' first|refine sY ⟨?_⟩|(refine sq ?_ ?_<;>refine fun h=>⟨?_⟩<;>(first|contradiction|(exfalso;omega)|skip))|fail
  all_goals (conv => whnf)
  all_goals rfl
theorem c_Value_step {s : List Int} {a : List Rat} (ha : VT s a) (hF : ∀ x, RS x → RS (stepR x)) (sb : List Int) (lb : List ByteArray) : VCall Go.Proofs.Tryz.prog GL 48 [nodeC sStep A B name shape k n data, tenR s a, tenA sb lb] (fun y => y = tenR s (a.map stepR)) := by
  have h := c_r07_Each sStep stepR ha hF (fun x hx => c_r07_Step hx)
  unfold nodeC tenA
  unfold tenR at h ⊢
  refine vcall_of TOK_r12_Value HM Go.Proofs.Tryz.func48 rfl (by decide +kernel) (by decide +kernel) rfl ?_
  repeat' first|refine sY ⟨?_⟩|(refine sq ?_ ?_<;>refine fun h=>⟨?_⟩<;>(first|contradiction|(exfalso;omega)|skip))|fail
  all_goals (conv => whnf)
  all_goals rfl
theorem c_Value_sign {s : List Int} {a : List Rat} (ha : VT s a) (hF : ∀ x, RS x → RS (signR x)) (sb : List Int) (lb : List ByteArray) : VCall Go.Proofs.Tryz.prog GL 48 [nodeC sSign A B name shape k n data, tenR s a, tenA sb lb] (fun y => y = tenR s (a.map signR)) := by
  have h := c_r07_Each sSign signR ha hF (fun x hx => c_r07_Sign hx)
  unfold nodeC tenA
  unfold tenR at h ⊢
  refine vcall_of TOK_r12_Value HM Go.Proofs.Tryz.func48 rfl (by decide +kernel) (by decide +kernel) rfl ?_
  repeat' first|refine sY ⟨?_⟩|(refine sq ?_ ?_<;>refine fun h=>⟨?_⟩<;>(first|contradiction|(exfalso;omega)|skip))|fail
  all_goals (conv => whnf)
  all_goals rfl
theorem c_Value_matmul (p q c : Nat) {a b : List Rat} (ha : VT [(p : Int), (q : Int)] a) (hb : VT [(q : Int), (c : Int)] b) (hok : okShape [(p : Int), (c : Int)] = true)
    (hm : ∀ i k j, i < p → k < c → j < q → RS (atR a (i * q + j) * atR b (j * c + k))) (hs : ∀ i k j, i < p → k < c → j ≤ q → RS (sumR ((termsV q c a b i k).take j))) :
    VCall Go.Proofs.Tryz.prog GL 48 [nodeC sMatmul A B name shape k n data, tenR [(p : Int), (q : Int)] a, tenR [(q : Int), (c : Int)] b] (fun y => y = tenR [(p : Int), (c : Int)] (matV p q c a b)) := by
  have h := c_r06_MatMul p q c ha hb hok hm hs
  unfold nodeC
  unfold tenR at h ⊢
  refine vcall_of TOK_r12_Value HM Go.Proofs.Tryz.func48 rfl (by decide +kernel) (by decide +kernel) rfl ?_
  repeat' first|refine sY ⟨?_⟩|(refine sq ?_ ?_<;>refine fun h=>⟨?_⟩<;>(first|contradiction|(exfalso;omega)|skip))|fail
  all_goals (conv => whnf)
  all_goals rfl
theorem c_Value_transpose (p q : Nat) {a : List Rat} (ha : VT [(p : Int), (q : Int)] a) (sb : List Int) (lb : List ByteArray) :
    VCall Go.Proofs.Tryz.prog GL 48 [nodeC sTranspose A B name shape k n data, tenR [(p : Int), (q : Int)] a, tenA sb lb] (fun y => y = tenR [(q : Int), (p : Int)] (transV p q a)) := by
  have h := c_r06_Transpose p q ha
  unfold nodeC tenA
  unfold tenR at h ⊢
  refine vcall_of TOK_r12_Value HM Go.Proofs.Tryz.func48 rfl (by decide +kernel) (by decide +kernel) rfl ?_
  repeat' first|refine sY ⟨?_⟩|(refine sq ?_ ?_<;>refine fun h=>⟨?_⟩<;>(first|contradiction|(exfalso;omega)|skip))|fail
  all_goals (conv => whnf)
  all_goals rfl
theorem c_Value_reshape (sa sb : List Int) (la lb : List ByteArray) : VCall Go.Proofs.Tryz.prog GL 48 [nodeC sReshape A B name shape k n data, tenA sa la, tenA sb lb] (fun y => y = tenA shape la) := by
  unfold nodeC tenA
  refine vcall_of TOK_r12_Value HM Go.Proofs.Tryz.func48 rfl (by decide +kernel) (by decide +kernel) rfl ?_
  repeat' first|refine sY ⟨?_⟩|(refine sq ?_ ?_<;>refine fun h=>⟨?_⟩<;>(first|contradiction|(exfalso;omega)|skip))|fail
  all_goals (conv => whnf)
  all_goals rfl
set_option maxHeartbeats 4000000 in
theorem c_Value_scale {s : List Int} {a : List Rat} (ha : VT s a) {kk : Rat} (hk : RS kk) (hr : ∀ x ∈ a, RS (x * kk)) (hs : ∀ k, k ≤ a.length → RS (sumR (a.take k))) (sb : List Int) (lb : List ByteArray) :
    VCall Go.Proofs.Tryz.prog GL 48 [nodeC sScale A B name shape (ratB kk) n data, tenR s a, tenA sb lb] (fun y => y = tenR shape (a.map fun x => x * kk)) := by
  obtain ⟨r, hrd⟩ : ∃ r, r = a.map fun x => x * kk := ⟨_, rfl⟩
  rw [← hrd]
  have hrl : r.length = a.length := by rw [hrd, List.length_map]
  have hrr : ∀ x ∈ r, RS x := fun x hx => by rw [hrd] at hx; obtain ⟨y, hy, rfl⟩ := List.mem_map.1 hx; exact hr y hy
  have hc : ∀ i (hi : i < a.length), VCall Go.Proofs.Tryz.prog GL 79 [ratA a[i], ratA kk] (fun v => v = ratA (r[i]'(by omega))) := fun i hi => by
    have := c_r03_Mul (ha.rs a[i] (List.getElem_mem hi)) hk
    subst hrd; rw [List.getElem_map]; exact this
  clear hrd hr
  have hkr := c_r03_Read2 hk
  unfold ratA at hkr
  obtain ⟨k, hkk⟩ : ∃ k, k = ratB kk := ⟨_, rfl⟩
  rw [← hkk] at hkr ⊢
  have hv := ha.vl
  have hal := rowR_length a
  have hra := ha.rs
  have hof := c_r05_Of shape r hrr (by omega)
  rw [own_allA (r := r) (n := (rowA r).length) rfl] at hof
  obtain ⟨X, hX⟩ : ∃ X, X = rowR r := ⟨_, rfl⟩
  have hXl : X.length = a.length := by rw [hX, rowR_length]; omega
  have e0 : tenR shape r = .agg [.ro 1 (rowZ shape), .ro 1 X] := by rw [tenR, hX]
  rw [e0] at hof ⊢
  clear hX e0
  have ata := fun i (hi : i < a.length) => c_r05_At s (i := i) hi ha.rs
  unfold nodeC tenA
  unfold tenR at ata ⊢
  refine vcall_of TOK_r12_Value HM Go.Proofs.Tryz.func48 rfl (by decide +kernel) (by decide +kernel) rfl ?_
  repeat' first|refine sY ⟨?_⟩|(refine sq ?_ ?_<;>refine fun h=>⟨?_⟩<;>(first|contradiction|(exfalso;omega)|skip))|fail
  skip
  refine ⟨[3, 4, 6, 7, 8, 10, 11], [0, 1, 3, 4, 5], fun m st => ∃ i : Nat, i ≤ a.length ∧ m = a.length - i ∧ ((i = 0 ∧ st = ⟨[(3, .bptr 0 0), (4, .bptr 1 0), (6, .bptr 2 0), (7, .nils), (8, .bptr 3 0), (10, .bptr 4 0), (11, .int .i64 (i : Nat))], [.box 36 [.str sScale, .int .i64 A, .int .i64 B, .str name, .ro 1 (rowZ shape), .str k, .int .i64 n, .ro 1 (rowS data)], .box 40 [.ro 1 (rowZ s), .ro 1 (rowR a)], .box 40 [.nils, .nils], .box 100 (ratC kk), .box 100 (ratC (sumR (a.take i)))]⟩) ∨ (0 < i ∧ st = ⟨[(3, .bptr 0 0), (4, .bptr 1 0), (6, .bptr 2 0), (7, .own 5 0 (rowA (r.take i)).length), (8, .bptr 3 0), (10, .bptr 4 0), (11, .int .i64 (i : Nat))], [.box 36 [.str sScale, .int .i64 A, .int .i64 B, .str name, .ro 1 (rowZ shape), .str k, .int .i64 n, .ro 1 (rowS data)], .box 40 [.ro 1 (rowZ s), .ro 1 (rowR a)], .box 40 [.nils, .nils], .box 100 (ratC kk), .box 100 (ratC (sumR (a.take i))), .row false 100 2 (rowA (r.take i))]⟩)), rfl,
    ⟨a.length, 0, by omega, rfl, .inl ⟨rfl, Eq.trans rfl (congrArg (fun z : List AV => (⟨[(3, .bptr 0 0), (4, .bptr 1 0), (6, .bptr 2 0), (7, .nils), (8, .bptr 3 0), (10, .bptr 4 0), (11, .int .i64 (0 : Nat))], [.box 36 [.str sScale, .int .i64 A, .int .i64 B, .str name, .ro 1 (rowZ shape), .str k, .int .i64 n, .ro 1 (rowS data)], .box 40 [.ro 1 (rowZ s), .ro 1 (rowR a)], .box 40 [.nils, .nils], .box 100 (ratC kk), .box 100 (z)]⟩ : St)) (show [.str ⟨#[48]⟩, .str ⟨#[49]⟩] = ratC (sumR (a.take 0)) by rw [List.take_zero, sumR_nil, ratC_zero]))⟩⟩, ?_⟩
  rintro m _ ⟨i, hi, hm, hst⟩
  have hol : (rowA (r.take i)).length = i := by rw [rowA_length, List.length_take]; omega
  rcases Nat.lt_or_ge i a.length with hil | hge
  · have h1 := ata i hil
    have hadd := c_r03_Add (hs i (by omega)) (hra a[i] (List.getElem_mem hil))
    rw [← sumR_take hil] at hadd
    have hop := hc i hil
    unfold ratA at h1 hadd hop
    rcases hst with ⟨h0, rfl⟩ | ⟨h0, rfl⟩
    · repeat' first|refine sY ⟨?_⟩|(refine sq ?_ ?_<;>refine fun h=>⟨?_⟩<;>(first|contradiction|(exfalso;omega)|skip))|fail
      conv => whnf
      refine ⟨Nat.le_of_ble_eq_true rfl, fun h => Nat.succ_ne_zero _ (congrArg List.length h), ?_⟩
      repeat' first|refine sY ⟨?_⟩|(refine sq ?_ ?_<;>refine fun h=>⟨?_⟩<;>(first|contradiction|(exfalso;omega)|skip))|fail
      refine ⟨[0, 1, 2, 3, 4, 7], a.length - (i + 1), rfl, by omega, i + 1, by omega, rfl, .inr ⟨by omega, ?_⟩⟩
      have hone : rowA (r.take (i + 1)) = [ratC (r[i]'(by omega))] := by subst h0; rw [rowA_one (by omega)]
      exact Eq.trans rfl (congrArg (fun z : List (List AV) => (⟨[(3, .bptr 0 0), (4, .bptr 1 0), (6, .bptr 2 0), (7, .own 5 0 z.length), (8, .bptr 3 0), (10, .bptr 4 0), (11, .int .i64 (i + 1 : Nat))], [.box 36 [.str sScale, .int .i64 A, .int .i64 B, .str name, .ro 1 (rowZ shape), .str k, .int .i64 n, .ro 1 (rowS data)], .box 40 [.ro 1 (rowZ s), .ro 1 (rowR a)], .box 40 [.nils, .nils], .box 100 (ratC kk), .box 100 (ratC (sumR (a.take (i + 1)))), .row false 100 2 z]⟩ : St)) hone.symm)
    · repeat' first|refine sY ⟨?_⟩|(refine sq ?_ ?_<;>refine fun h=>⟨?_⟩<;>(first|contradiction|(exfalso;omega)|skip))|fail
      refine ⟨Nat.le_refl _, (show ((rowA (r.take i)).length + 1) * 32 ≤ 140737488355328 by omega), _, rowA_snoc (by omega), ?_⟩
      repeat' first|refine sY ⟨?_⟩|(refine sq ?_ ?_<;>refine fun h=>⟨?_⟩<;>(first|contradiction|(exfalso;omega)|skip))|fail
      all_goals exact ⟨[0, 1, 2, 3, 4, 8], a.length - (i + 1), rfl, by omega, i + 1, by omega, rfl, .inr ⟨by omega, rfl⟩⟩
  · rcases hst with ⟨rfl, rfl⟩ | ⟨h0, rfl⟩
    · exact absurd hge (by omega)
    · have e : r.take i = r := List.take_of_length_le (by omega)
      rw [e]
      repeat' first|refine sY ⟨?_⟩|(refine sq ?_ ?_<;>refine fun h=>⟨?_⟩<;>(first|contradiction|(exfalso;omega)|skip))|fail
      refine ⟨[3, 4, 6, 7, 13], [0, 1, 2, 5], fun m st => m = 0 ∧ st = ⟨[(3, .bptr 0 0), (4, .bptr 1 0), (6, .bptr 2 0), (7, .own 3 0 (rowA r).length), (13, .int .i64 0)], [.box 36 [.str sScale, .int .i64 A, .int .i64 B, .str name, .ro 1 (rowZ shape), .str k, .int .i64 n, .ro 1 (rowS data)], .box 40 [.ro 1 (rowZ s), .ro 1 (rowR a)], .box 40 [.nils, .nils], .row false 100 2 (rowA r)]⟩, rfl, ⟨0, rfl, rfl⟩, ?_⟩
      rintro m2 _ ⟨rfl, rfl⟩
      cases X with
      | nil => simp at hXl; omega
      | cons c0 cs0 =>
        cases shape
        all_goals (repeat' first|refine sY ⟨?_⟩|(refine sq ?_ ?_<;>refine fun h=>⟨?_⟩<;>(first|contradiction|(exfalso;omega)|skip))|fail)
        all_goals (conv => whnf)
        all_goals rfl
set_option maxHeartbeats 4000000 in
theorem c_Value_power (hk : k.size < 190000) {s : List Int} {a : List Rat} (ha : VT s a) (nn : Nat) (hn : nn ≤ 6) (hp : ∀ x ∈ a, ∀ j, j ≤ nn → RS (x ^ j)) (hs : ∀ k, k ≤ a.length → RS (sumR (a.take k))) (sb : List Int) (lb : List ByteArray) :
    VCall Go.Proofs.Tryz.prog GL 48 [nodeC sPower A B name shape k (nn : Nat) data, tenR s a, tenA sb lb] (fun y => y = tenR shape (a.map fun x => x ^ nn)) := by
  obtain ⟨r, hrd⟩ : ∃ r, r = a.map fun x => x ^ nn := ⟨_, rfl⟩
  rw [← hrd]
  have hrl : r.length = a.length := by rw [hrd, List.length_map]
  have hrr : ∀ x ∈ r, RS x := fun x hx => by rw [hrd] at hx; obtain ⟨y, hy, rfl⟩ := List.mem_map.1 hx; exact hp y hy nn (Nat.le_refl _)
  have hc : ∀ i (hi : i < a.length), VCall Go.Proofs.Tryz.prog GL 80 [ratA a[i], .int .i64 (nn : Nat)] (fun v => v = ratA (r[i]'(by omega))) := fun i hi => by
    have := c_r03_Power nn hn (hp a[i] (List.getElem_mem hi)) (ha.rs a[i] (List.getElem_mem hi))
    subst hrd; rw [List.getElem_map]; exact this
  clear hrd
  have hkr := c_r03_Read GL k hk
  have hv := ha.vl
  have hal := rowR_length a
  have hra := ha.rs
  have hof := c_r05_Of shape r hrr (by omega)
  rw [own_allA (r := r) (n := (rowA r).length) rfl] at hof
  obtain ⟨X, hX⟩ : ∃ X, X = rowR r := ⟨_, rfl⟩
  have hXl : X.length = a.length := by rw [hX, rowR_length]; omega
  have e0 : tenR shape r = .agg [.ro 1 (rowZ shape), .ro 1 X] := by rw [tenR, hX]
  rw [e0] at hof ⊢
  clear hX e0
  have ata := fun i (hi : i < a.length) => c_r05_At s (i := i) hi ha.rs
  unfold nodeC tenA
  unfold tenR at ata ⊢
  refine vcall_of TOK_r12_Value HM Go.Proofs.Tryz.func48 rfl (by decide +kernel) (by decide +kernel) rfl ?_
  repeat' first|refine sY ⟨?_⟩|(refine sq ?_ ?_<;>refine fun h=>⟨?_⟩<;>(first|contradiction|(exfalso;omega)|skip))|fail
  (conv => whnf); (rintro _ ⟨kp, kq, rfl, _⟩); (repeat' first|refine sY ⟨?_⟩|(refine sq ?_ ?_<;>refine fun h=>⟨?_⟩<;>(first|contradiction|(exfalso;omega)|skip))|fail)
  refine ⟨[3, 4, 6, 7, 8, 10, 11], [0, 1, 3, 4, 5], fun m st => ∃ i : Nat, i ≤ a.length ∧ m = a.length - i ∧ ((i = 0 ∧ st = ⟨[(3, .bptr 0 0), (4, .bptr 1 0), (6, .bptr 2 0), (7, .nils), (8, .bptr 3 0), (10, .bptr 4 0), (11, .int .i64 (i : Nat))], [.box 36 [.str sPower, .int .i64 A, .int .i64 B, .str name, .ro 1 (rowZ shape), .str k, .int .i64 (nn : Nat), .ro 1 (rowS data)], .box 40 [.ro 1 (rowZ s), .ro 1 (rowR a)], .box 40 [.nils, .nils], .box 100 ([.str kp, .str kq]), .box 100 (ratC (sumR (a.take i)))]⟩) ∨ (0 < i ∧ st = ⟨[(3, .bptr 0 0), (4, .bptr 1 0), (6, .bptr 2 0), (7, .own 5 0 (rowA (r.take i)).length), (8, .bptr 3 0), (10, .bptr 4 0), (11, .int .i64 (i : Nat))], [.box 36 [.str sPower, .int .i64 A, .int .i64 B, .str name, .ro 1 (rowZ shape), .str k, .int .i64 (nn : Nat), .ro 1 (rowS data)], .box 40 [.ro 1 (rowZ s), .ro 1 (rowR a)], .box 40 [.nils, .nils], .box 100 ([.str kp, .str kq]), .box 100 (ratC (sumR (a.take i))), .row false 100 2 (rowA (r.take i))]⟩)), rfl,
    ⟨a.length, 0, by omega, rfl, .inl ⟨rfl, Eq.trans rfl (congrArg (fun z : List AV => (⟨[(3, .bptr 0 0), (4, .bptr 1 0), (6, .bptr 2 0), (7, .nils), (8, .bptr 3 0), (10, .bptr 4 0), (11, .int .i64 (0 : Nat))], [.box 36 [.str sPower, .int .i64 A, .int .i64 B, .str name, .ro 1 (rowZ shape), .str k, .int .i64 (nn : Nat), .ro 1 (rowS data)], .box 40 [.ro 1 (rowZ s), .ro 1 (rowR a)], .box 40 [.nils, .nils], .box 100 ([.str kp, .str kq]), .box 100 (z)]⟩ : St)) (show [.str ⟨#[48]⟩, .str ⟨#[49]⟩] = ratC (sumR (a.take 0)) by rw [List.take_zero, sumR_nil, ratC_zero]))⟩⟩, ?_⟩
  rintro m _ ⟨i, hi, hm, hst⟩
  have hol : (rowA (r.take i)).length = i := by rw [rowA_length, List.length_take]; omega
  rcases Nat.lt_or_ge i a.length with hil | hge
  · have h1 := ata i hil
    have hadd := c_r03_Add (hs i (by omega)) (hra a[i] (List.getElem_mem hil))
    rw [← sumR_take hil] at hadd
    have hop := hc i hil
    unfold ratA at h1 hadd hop
    rcases hst with ⟨h0, rfl⟩ | ⟨h0, rfl⟩
    · repeat' first|refine sY ⟨?_⟩|(refine sq ?_ ?_<;>refine fun h=>⟨?_⟩<;>(first|contradiction|(exfalso;omega)|skip))|fail
      conv => whnf
      refine ⟨Nat.le_of_ble_eq_true rfl, fun h => Nat.succ_ne_zero _ (congrArg List.length h), ?_⟩
      repeat' first|refine sY ⟨?_⟩|(refine sq ?_ ?_<;>refine fun h=>⟨?_⟩<;>(first|contradiction|(exfalso;omega)|skip))|fail
      refine ⟨[0, 1, 2, 3, 4, 7], a.length - (i + 1), rfl, by omega, i + 1, by omega, rfl, .inr ⟨by omega, ?_⟩⟩
      have hone : rowA (r.take (i + 1)) = [ratC (r[i]'(by omega))] := by subst h0; rw [rowA_one (by omega)]
      exact Eq.trans rfl (congrArg (fun z : List (List AV) => (⟨[(3, .bptr 0 0), (4, .bptr 1 0), (6, .bptr 2 0), (7, .own 5 0 z.length), (8, .bptr 3 0), (10, .bptr 4 0), (11, .int .i64 (i + 1 : Nat))], [.box 36 [.str sPower, .int .i64 A, .int .i64 B, .str name, .ro 1 (rowZ shape), .str k, .int .i64 (nn : Nat), .ro 1 (rowS data)], .box 40 [.ro 1 (rowZ s), .ro 1 (rowR a)], .box 40 [.nils, .nils], .box 100 ([.str kp, .str kq]), .box 100 (ratC (sumR (a.take (i + 1)))), .row false 100 2 z]⟩ : St)) hone.symm)
    · repeat' first|refine sY ⟨?_⟩|(refine sq ?_ ?_<;>refine fun h=>⟨?_⟩<;>(first|contradiction|(exfalso;omega)|skip))|fail
      refine ⟨Nat.le_refl _, (show ((rowA (r.take i)).length + 1) * 32 ≤ 140737488355328 by omega), _, rowA_snoc (by omega), ?_⟩
      repeat' first|refine sY ⟨?_⟩|(refine sq ?_ ?_<;>refine fun h=>⟨?_⟩<;>(first|contradiction|(exfalso;omega)|skip))|fail
      all_goals exact ⟨[0, 1, 2, 3, 4, 8], a.length - (i + 1), rfl, by omega, i + 1, by omega, rfl, .inr ⟨by omega, rfl⟩⟩
  · rcases hst with ⟨rfl, rfl⟩ | ⟨h0, rfl⟩
    · exact absurd hge (by omega)
    · have e : r.take i = r := List.take_of_length_le (by omega)
      rw [e]
      repeat' first|refine sY ⟨?_⟩|(refine sq ?_ ?_<;>refine fun h=>⟨?_⟩<;>(first|contradiction|(exfalso;omega)|skip))|fail
      refine ⟨[3, 4, 6, 7, 13], [0, 1, 2, 5], fun m st => m = 0 ∧ st = ⟨[(3, .bptr 0 0), (4, .bptr 1 0), (6, .bptr 2 0), (7, .own 3 0 (rowA r).length), (13, .int .i64 0)], [.box 36 [.str sPower, .int .i64 A, .int .i64 B, .str name, .ro 1 (rowZ shape), .str k, .int .i64 (nn : Nat), .ro 1 (rowS data)], .box 40 [.ro 1 (rowZ s), .ro 1 (rowR a)], .box 40 [.nils, .nils], .row false 100 2 (rowA r)]⟩, rfl, ⟨0, rfl, rfl⟩, ?_⟩
      rintro m2 _ ⟨rfl, rfl⟩
      cases X with
      | nil => simp at hXl; omega
      | cons c0 cs0 =>
        cases shape
        all_goals (repeat' first|refine sY ⟨?_⟩|(refine sq ?_ ?_<;>refine fun h=>⟨?_⟩<;>(first|contradiction|(exfalso;omega)|skip))|fail)
        all_goals (conv => whnf)
        all_goals rfl
set_option maxHeartbeats 4000000 in
theorem c_Value_sum (hk : k.size < 190000) {s : List Int} {a : List Rat} (ha : VT s a) (hs : ∀ k, k ≤ a.length → RS (sumR (a.take k))) (sb : List Int) (lb : List ByteArray) :
    VCall Go.Proofs.Tryz.prog GL 48 [nodeC sSum A B name shape k n data, tenR s a, tenA sb lb] (fun y => y = tenR shape [sumR a]) := by
  have hof := c_r05_Of shape [sumR a] (fun x hx => by rw [List.mem_singleton.1 hx]; have := hs a.length (Nat.le_refl _); rwa [List.take_length] at this) (by simp)
  have hv := ha.vl
  have hal := rowR_length a
  have hra := ha.rs
  have ata := fun i (hi : i < a.length) => c_r05_At s (i := i) hi ha.rs
  have hkr := c_r03_Read GL k hk
  unfold nodeC tenA
  unfold tenR at ata ⊢
  refine vcall_of TOK_r12_Value HM Go.Proofs.Tryz.func48 rfl (by decide +kernel) (by decide +kernel) rfl ?_
  repeat' first|refine sY ⟨?_⟩|(refine sq ?_ ?_<;>refine fun h=>⟨?_⟩<;>(first|contradiction|(exfalso;omega)|skip))|fail
  conv => whnf
  rintro _ ⟨kp, kq, rfl, _⟩
  repeat' first|refine sY ⟨?_⟩|(refine sq ?_ ?_<;>refine fun h=>⟨?_⟩<;>(first|contradiction|(exfalso;omega)|skip))|fail
  refine ⟨[3, 4, 6, 7, 8, 10, 11], [0, 1, 3, 4, 5], fun m st => ∃ i : Nat, i ≤ a.length ∧ m = a.length - i ∧ st = ⟨[(3, .bptr 0 0), (4, .bptr 1 0), (6, .bptr 2 0), (7, .nils), (8, .bptr 3 0), (10, .bptr 4 0), (11, .int .i64 (i : Nat))], [.box 36 [.str sSum, .int .i64 A, .int .i64 B, .str name, .ro 1 (rowZ shape), .str k, .int .i64 n, .ro 1 (rowS data)], .box 40 [.ro 1 (rowZ s), .ro 1 (rowR a)], .box 40 [.nils, .nils], .box 100 ([.str kp, .str kq]), .box 100 (ratC (sumR (a.take i)))]⟩, rfl,
    ⟨a.length, 0, by omega, rfl, Eq.trans rfl (congrArg (fun z : List AV => (⟨[(3, .bptr 0 0), (4, .bptr 1 0), (6, .bptr 2 0), (7, .nils), (8, .bptr 3 0), (10, .bptr 4 0), (11, .int .i64 (0 : Nat))], [.box 36 [.str sSum, .int .i64 A, .int .i64 B, .str name, .ro 1 (rowZ shape), .str k, .int .i64 n, .ro 1 (rowS data)], .box 40 [.ro 1 (rowZ s), .ro 1 (rowR a)], .box 40 [.nils, .nils], .box 100 ([.str kp, .str kq]), .box 100 (z)]⟩ : St)) (show [.str ⟨#[48]⟩, .str ⟨#[49]⟩] = ratC (sumR (a.take 0)) by rw [List.take_zero, sumR_nil, ratC_zero]))⟩, ?_⟩
  rintro m _ ⟨i, hi, hm, rfl⟩
  rcases Nat.lt_or_ge i a.length with hil | hge
  · have h1 := ata i hil
    have hadd := c_r03_Add (hs i (by omega)) (hra a[i] (List.getElem_mem hil))
    rw [← sumR_take hil] at hadd
    unfold ratA at h1 hadd
    repeat' first|refine sY ⟨?_⟩|(refine sq ?_ ?_<;>refine fun h=>⟨?_⟩<;>(first|contradiction|(exfalso;omega)|skip))|fail
    all_goals exact ⟨[0, 1, 2, 3, 4], a.length - (i + 1), rfl, by omega, i + 1, by omega, rfl, rfl⟩
  · have e : a.take i = a := List.take_of_length_le (by omega)
    rw [e]
    repeat' first|refine sY ⟨?_⟩|(refine sq ?_ ?_<;>refine fun h=>⟨?_⟩<;>(first|contradiction|(exfalso;omega)|skip))|fail
    refine ⟨[3, 4, 6, 7, 10, 13], [0, 1, 2, 4], fun m st => m = 0 ∧ st = ⟨[(3, .bptr 0 0), (4, .bptr 1 0), (6, .bptr 2 0), (7, .nils), (10, .bptr 3 0), (13, .int .i64 0)], [.box 36 [.str sSum, .int .i64 A, .int .i64 B, .str name, .ro 1 (rowZ shape), .str k, .int .i64 n, .ro 1 (rowS data)], .box 40 [.ro 1 (rowZ s), .ro 1 (rowR a)], .box 40 [.nils, .nils], .box 100 (ratC (sumR a))]⟩, rfl, ⟨0, rfl, rfl⟩, ?_⟩
    rintro m2 _ ⟨rfl, rfl⟩
    repeat' first|refine sY ⟨?_⟩|(refine sq ?_ ?_<;>refine fun h=>⟨?_⟩<;>(first|contradiction|(exfalso;omega)|skip))|fail
    conv => whnf
    refine ⟨Nat.le_of_ble_eq_true rfl, fun h => Nat.succ_ne_zero _ (congrArg List.length h), ?_⟩
    cases shape
    all_goals (repeat' first|refine sY ⟨?_⟩|(refine sq ?_ ?_<;>refine fun h=>⟨?_⟩<;>(first|contradiction|(exfalso;omega)|skip))|fail)
    all_goals (conv => whnf)
    all_goals rfl
set_option maxHeartbeats 4000000 in
theorem c_Value_spread (hk : k.size < 190000) {x : Rat} (hx : RS x) (N : Nat) (hN : 1 ≤ N ∧ N ≤ 64) (hok : okShape shape = true) (hp : prodZ shape = (N : Nat)) (sb : List Int) (lb : List ByteArray) :
    VCall Go.Proofs.Tryz.prog GL 48 [nodeC sSpread A B name shape k n data, tenR [] [x], tenA sb lb] (fun y => y = tenR shape (List.replicate N x)) := by
  obtain ⟨s, hs0⟩ : ∃ s : List Int, s = [] := ⟨_, rfl⟩
  obtain ⟨a, ha0⟩ : ∃ a : List Rat, a = [x] := ⟨_, rfl⟩
  rw [← hs0, ← ha0]
  have ha : VT s a := ⟨by rw [hs0]; decide, by rw [hs0, ha0]; simp [prodZ], fun y hy => by rw [ha0] at hy; rw [List.mem_singleton.1 hy]; exact hx⟩
  have hal1 : a.length = 1 := by rw [ha0]; rfl
  have hs : ∀ k, k ≤ a.length → RS (sumR (a.take k)) := fun k hk => by
    rw [ha0]
    rcases k with _ | _ | k
    · exact RS_zero
    · show RS (0 + x); rw [Rat.zero_add]; exact hx
    · rw [ha0] at hk; simp at hk
  obtain ⟨r, hrd⟩ : ∃ r, r = List.replicate N x := ⟨_, rfl⟩
  rw [← hrd]
  have hrl : r.length = N := by rw [hrd, List.length_replicate]
  have hrg : ∀ i (hi : i < N), r[i]'(by omega) = a[0]'(by omega) := fun i hi => by subst hrd ha0; simp
  have hof := c_r05_Of shape r (fun y hy => by rw [hrd] at hy; rw [List.eq_of_mem_replicate hy]; exact hx) (by omega)
  rw [own_allA (r := r) (n := (rowA r).length) rfl] at hof
  obtain ⟨X, hX⟩ : ∃ X, X = rowR r := ⟨_, rfl⟩
  have hXl : X.length = N := by rw [hX, rowR_length]; omega
  have e0 : tenR shape r = .agg [.ro 1 (rowZ shape), .ro 1 X] := by rw [tenR, hX]
  rw [e0] at hof ⊢
  clear hrd hX e0
  have hsz := c_r04_Size GL shape hok
  rw [hp] at hsz
  have hv := ha.vl
  have hal := rowR_length a
  have hra := ha.rs
  have ata := fun i (hi : i < a.length) => c_r05_At s (i := i) hi ha.rs
  have hkr := c_r03_Read GL k hk
  unfold nodeC tenA
  unfold tenR at ata ⊢
  refine vcall_of TOK_r12_Value HM Go.Proofs.Tryz.func48 rfl (by decide +kernel) (by decide +kernel) rfl ?_
  repeat' first|refine sY ⟨?_⟩|(refine sq ?_ ?_<;>refine fun h=>⟨?_⟩<;>(first|contradiction|(exfalso;omega)|skip))|fail
  conv => whnf
  rintro _ ⟨kp, kq, rfl, _⟩
  repeat' first|refine sY ⟨?_⟩|(refine sq ?_ ?_<;>refine fun h=>⟨?_⟩<;>(first|contradiction|(exfalso;omega)|skip))|fail
  refine ⟨[3, 4, 6, 7, 8, 10, 11], [0, 1, 3, 4, 5], fun m st => ∃ i : Nat, i ≤ a.length ∧ m = a.length - i ∧ st = ⟨[(3, .bptr 0 0), (4, .bptr 1 0), (6, .bptr 2 0), (7, .nils), (8, .bptr 3 0), (10, .bptr 4 0), (11, .int .i64 (i : Nat))], [.box 36 [.str sSpread, .int .i64 A, .int .i64 B, .str name, .ro 1 (rowZ shape), .str k, .int .i64 n, .ro 1 (rowS data)], .box 40 [.ro 1 (rowZ s), .ro 1 (rowR a)], .box 40 [.nils, .nils], .box 100 ([.str kp, .str kq]), .box 100 (ratC (sumR (a.take i)))]⟩, rfl,
    ⟨a.length, 0, by omega, rfl, Eq.trans rfl (congrArg (fun z : List AV => (⟨[(3, .bptr 0 0), (4, .bptr 1 0), (6, .bptr 2 0), (7, .nils), (8, .bptr 3 0), (10, .bptr 4 0), (11, .int .i64 (0 : Nat))], [.box 36 [.str sSpread, .int .i64 A, .int .i64 B, .str name, .ro 1 (rowZ shape), .str k, .int .i64 n, .ro 1 (rowS data)], .box 40 [.ro 1 (rowZ s), .ro 1 (rowR a)], .box 40 [.nils, .nils], .box 100 ([.str kp, .str kq]), .box 100 (z)]⟩ : St)) (show [.str ⟨#[48]⟩, .str ⟨#[49]⟩] = ratC (sumR (a.take 0)) by rw [List.take_zero, sumR_nil, ratC_zero]))⟩, ?_⟩
  rintro m _ ⟨i, hi, hm, rfl⟩
  rcases Nat.lt_or_ge i a.length with hil | hge
  · have h1 := ata i hil
    have hadd := c_r03_Add (hs i (by omega)) (hra a[i] (List.getElem_mem hil))
    rw [← sumR_take hil] at hadd
    unfold ratA at h1 hadd
    repeat' first|refine sY ⟨?_⟩|(refine sq ?_ ?_<;>refine fun h=>⟨?_⟩<;>(first|contradiction|(exfalso;omega)|skip))|fail
    all_goals exact ⟨[0, 1, 2, 3, 4], a.length - (i + 1), rfl, by omega, i + 1, by omega, rfl, rfl⟩
  · repeat' first|refine sY ⟨?_⟩|(refine sq ?_ ?_<;>refine fun h=>⟨?_⟩<;>(first|contradiction|(exfalso;omega)|skip))|fail
    refine ⟨[3, 4, 6, 7, 13], [0, 1, 2], fun m st => ∃ j : Nat, j ≤ N ∧ m = N - j ∧ ((j = 0 ∧ st = ⟨[(3, .bptr 0 0), (4, .bptr 1 0), (6, .bptr 2 0), (7, .nils), (13, .int .i64 (j : Nat))], [.box 36 [.str sSpread, .int .i64 A, .int .i64 B, .str name, .ro 1 (rowZ shape), .str k, .int .i64 n, .ro 1 (rowS data)], .box 40 [.ro 1 (rowZ s), .ro 1 (rowR a)], .box 40 [.nils, .nils]]⟩) ∨ (0 < j ∧ st = ⟨[(3, .bptr 0 0), (4, .bptr 1 0), (6, .bptr 2 0), (7, .own 3 0 (rowA (r.take j)).length), (13, .int .i64 (j : Nat))], [.box 36 [.str sSpread, .int .i64 A, .int .i64 B, .str name, .ro 1 (rowZ shape), .str k, .int .i64 n, .ro 1 (rowS data)], .box 40 [.ro 1 (rowZ s), .ro 1 (rowR a)], .box 40 [.nils, .nils], .row false 100 2 (rowA (r.take j))]⟩)), rfl, ⟨N, 0, by omega, rfl, .inl ⟨rfl, rfl⟩⟩, ?_⟩
    rintro m2 _ ⟨j, hj, hm2, hst⟩
    have hol : (rowA (r.take j)).length = j := by rw [rowA_length, List.length_take]; omega
    have h1 := ata 0 (by omega)
    rw [show ((0 : Nat) : Int) = 0 from rfl] at h1
    rcases Nat.lt_or_ge j N with hjl | hjge
    · rw [← hrg j hjl] at h1
      unfold ratA at h1
      rcases hst with ⟨h0, rfl⟩ | ⟨h0, rfl⟩
      · repeat' first|refine sY ⟨?_⟩|(refine sq ?_ ?_<;>refine fun h=>⟨?_⟩<;>(first|contradiction|(exfalso;omega)|skip))|fail
        conv => whnf
        refine ⟨Nat.le_of_ble_eq_true rfl, fun h => Nat.succ_ne_zero _ (congrArg List.length h), ?_⟩
        repeat' first|refine sY ⟨?_⟩|(refine sq ?_ ?_<;>refine fun h=>⟨?_⟩<;>(first|contradiction|(exfalso;omega)|skip))|fail
        refine ⟨[0, 1, 2, 4], N - (j + 1), rfl, by omega, j + 1, by omega, rfl, .inr ⟨by omega, ?_⟩⟩
        have hone : rowA (r.take (j + 1)) = [ratC (r[j]'(by omega))] := by subst h0; rw [rowA_one (by omega)]
        exact Eq.trans rfl (congrArg (fun z : List (List AV) => (⟨[(3, .bptr 0 0), (4, .bptr 1 0), (6, .bptr 2 0), (7, .own 3 0 z.length), (13, .int .i64 (j + 1 : Nat))], [.box 36 [.str sSpread, .int .i64 A, .int .i64 B, .str name, .ro 1 (rowZ shape), .str k, .int .i64 n, .ro 1 (rowS data)], .box 40 [.ro 1 (rowZ s), .ro 1 (rowR a)], .box 40 [.nils, .nils], .row false 100 2 z]⟩ : St)) hone.symm)
      · repeat' first|refine sY ⟨?_⟩|(refine sq ?_ ?_<;>refine fun h=>⟨?_⟩<;>(first|contradiction|(exfalso;omega)|skip))|fail
        refine ⟨Nat.le_refl _, (show ((rowA (r.take j)).length + 1) * 32 ≤ 140737488355328 by omega), _, rowA_snoc (by omega), ?_⟩
        repeat' first|refine sY ⟨?_⟩|(refine sq ?_ ?_<;>refine fun h=>⟨?_⟩<;>(first|contradiction|(exfalso;omega)|skip))|fail
        all_goals exact ⟨[0, 1, 2, 5], N - (j + 1), rfl, by omega, j + 1, by omega, rfl, .inr ⟨by omega, rfl⟩⟩
    · rcases hst with ⟨h0, rfl⟩ | ⟨h0, rfl⟩
      · exact absurd hjge (by omega)
      · have e : r.take j = r := List.take_of_length_le (by omega)
        rw [e]
        cases X with
        | nil => simp at hXl; omega
        | cons c0 cs0 =>
          cases shape
          all_goals (repeat' first|refine sY ⟨?_⟩|(refine sq ?_ ?_<;>refine fun h=>⟨?_⟩<;>(first|contradiction|(exfalso;omega)|skip))|fail)
          all_goals (conv => whnf)
          all_goals rfl
end
end Go.V
namespace Go.V
open Go.N
set_option maxRecDepth 20000
def T_eApply : Tab := [(36, i36), (40, i40), (9, i9), (33, i33), (3, i3), (34, i34), (4, i4)]
theorem TOK_eApply : TOK Go.Proofs.Tryz.prog T_eApply := ⟨K36, ⟨K40, ⟨K9, ⟨K33, ⟨K3, ⟨K34, ⟨K4, trivial⟩⟩⟩⟩⟩⟩⟩
def T_eNode : Tab := [(36, i36), (40, i40), (28, i28), (33, i33), (3, i3), (4, i4)]
theorem TOK_eNode : TOK Go.Proofs.Tryz.prog T_eNode := ⟨K36, ⟨K40, ⟨K28, ⟨K33, ⟨K3, ⟨K4, trivial⟩⟩⟩⟩⟩⟩
inductive FitV : Opc → List Int → ByteArray → Int → List ByteArray → List Int → List Rat → List Int → List Rat → List Rat → Prop
  | const {s k n sa a sb b v} (h : VT s v) : FitV .const s k n (v.map ratB) sa a sb b v
  | add {s k n d a b} (ha : VT s a) (hb : VT s b) (hr : ∀ x ∈ List.zipWith (fun x y => x + y) a b, RS x) : FitV .add s k n d s a s b (List.zipWith (fun x y => x + y) a b)
  | sub {s k n d a b} (ha : VT s a) (hb : VT s b) (hr : ∀ x ∈ List.zipWith (fun x y => x - y) a b, RS x) : FitV .sub s k n d s a s b (List.zipWith (fun x y => x - y) a b)
  | mul {s k n d a b} (ha : VT s a) (hb : VT s b) (hr : ∀ x ∈ List.zipWith (fun x y => x * y) a b, RS x) : FitV .mul s k n d s a s b (List.zipWith (fun x y => x * y) a b)
  | max {s k n d a b} (ha : VT s a) (hb : VT s b) (hd : ∀ i (h : i < a.length), RS (a[i] - b[i]'(by have := ha.len; have := hb.len; omega))) (hr : ∀ x ∈ List.zipWith maxR a b, RS x) : FitV .max s k n d s a s b (List.zipWith maxR a b)
  | above {s k n d a b} (ha : VT s a) (hb : VT s b) (hd : ∀ i (h : i < a.length), RS (a[i] - b[i]'(by have := ha.len; have := hb.len; omega))) (hr : ∀ x ∈ List.zipWith aboveR a b, RS x) : FitV .above s k n d s a s b (List.zipWith aboveR a b)
  | matmul {k n d} {p q c : Nat} {a b} (ha : VT [(p : Int), (q : Int)] a) (hb : VT [(q : Int), (c : Int)] b) (hok : okShape [(p : Int), (c : Int)] = true)
      (hm : ∀ i k j, i < p → k < c → j < q → RS (atR a (i * q + j) * atR b (j * c + k))) (hs : ∀ i k j, i < p → k < c → j ≤ q → RS (sumR ((termsV q c a b i k).take j))) :
      FitV .matmul [(p : Int), (c : Int)] k n d [(p : Int), (q : Int)] a [(q : Int), (c : Int)] b (matV p q c a b)
  | relu {s k n d a sb b} (ha : VT s a) : FitV .relu s k n d s a sb b (a.map reluR)
  | abs {s k n d a sb b} (ha : VT s a) : FitV .abs s k n d s a sb b (a.map absR)
  | step {s k n d a sb b} (ha : VT s a) : FitV .step s k n d s a sb b (a.map stepR)
  | sign {s k n d a sb b} (ha : VT s a) : FitV .sign s k n d s a sb b (a.map signR)
  | scale {s n d a sb b} {kk : Rat} (ha : VT s a) (hk : RS kk) (hr : ∀ x ∈ a, RS (x * kk)) (hs : ∀ k, k ≤ a.length → RS (sumR (a.take k))) : FitV .scale s (ratB kk) n d s a sb b (a.map fun x => x * kk)
  | power {s k d a sb b} {nn : Nat} (hk : k.size < 190000) (ha : VT s a) (hn : nn ≤ 6) (hp : ∀ x ∈ a, ∀ j, j ≤ nn → RS (x ^ j)) (hs : ∀ k, k ≤ a.length → RS (sumR (a.take k))) : FitV .power s k (nn : Nat) d s a sb b (a.map fun x => x ^ nn)
  | transpose {k n d sb b} {p q : Nat} {a} (ha : VT [(p : Int), (q : Int)] a) : FitV .transpose [(q : Int), (p : Int)] k n d [(p : Int), (q : Int)] a sb b (transV p q a)
  | sum {k n d sa a sb b} (hk : k.size < 190000) (ha : VT sa a) (hs : ∀ k, k ≤ a.length → RS (sumR (a.take k))) : FitV .sum [] k n d sa a sb b [sumR a]
  | reshape {s k n d sa a sb b} (ha : VT sa a) (hok : okShape s = true) (hl : (a.length : Int) = prodZ s) : FitV .reshape s k n d sa a sb b a
  | spread {s k n d sb b} {x : Rat} {m : Nat} (hk : k.size < 190000) (hx : RS x) (hok : okShape s = true) (hm : prodZ s = ((m + 1 : Nat) : Int)) : FitV .spread s k n d [] [x] sb b (List.replicate (m + 1) x)
theorem MM_if {p : Prop} [Decidable p] {x y : Rat} (hx : RS x) (hy : RS y) : RS (if p then x else y) := by split <;> assumption
theorem RS_reluR {x : Rat} (h : RS x) : RS (reluR x) := MM_if h RS_zero
theorem RS_absR {x : Rat} (h : RS x) : RS (absR x) := MM_if h h.neg
theorem RS_stepR {x : Rat} (h : RS x) : RS (stepR x) := MM_if RS_one RS_zero
theorem RS_signR {x : Rat} (h : RS x) : RS (signR x) := MM_if RS_one.neg (MM_if RS_zero RS_one)
theorem tenA_R (s : List Int) (v : List Rat) : tenR s v = tenA s (v.map ratB) := rfl
section
variable (A B : Int) (name : ByteArray)
theorem c_ValueO {o : Opc} {s : List Int} {k : ByteArray} {n : Int} {d : List ByteArray} {sa : List Int} {a : List Rat} {sb : List Int} {b r : List Rat} (h : FitV o s k n d sa a sb b r) :
    VCall Go.Proofs.Tryz.prog GL 48 [nodeC o.str A B name s k n d, tenR sa a, tenR sb b] (fun y => y = tenR s r) := by
  cases h with
  | const h => exact c_Value_const A B name s k n _ sa sb _ _
  | add ha hb hr => exact c_Value_add A B name s k n d ha hb hr
  | sub ha hb hr => exact c_Value_sub A B name s k n d ha hb hr
  | mul ha hb hr => exact c_Value_mul A B name s k n d ha hb hr
  | max ha hb hd hr => exact c_Value_max A B name s k n d ha hb hd hr
  | above ha hb hd hr => exact c_Value_above A B name s k n d ha hb hd hr
  | matmul ha hb hok hm hs => exact c_Value_matmul A B name _ k n d _ _ _ ha hb hok hm hs
  | relu ha => exact c_Value_relu A B name s k n d ha (fun x => RS_reluR) sb _
  | abs ha => exact c_Value_abs A B name s k n d ha (fun x => RS_absR) sb _
  | step ha => exact c_Value_step A B name s k n d ha (fun x => RS_stepR) sb _
  | sign ha => exact c_Value_sign A B name s k n d ha (fun x => RS_signR) sb _
  | scale ha hk hr hs => exact c_Value_scale A B name s n d ha hk hr hs sb _
  | power hk ha hn hp hs => exact c_Value_power A B name s k d hk ha _ hn hp hs sb _
  | transpose ha => exact c_Value_transpose A B name _ k n d _ _ ha sb _
  | sum hk ha hs => exact c_Value_sum A B name [] k n d hk ha hs sb _
  | reshape ha hok hl => exact c_Value_reshape A B name s k n d sa sb _ _
  | spread hk hx hok hm =>
    have hmid := okShape_mid hok s.length
    rw [List.take_length, hm] at hmid
    exact c_Value_spread A B name s k n d hk hx _ (by omega) hok hm sb _
set_option maxHeartbeats 8000000 in
theorem c_eApply {o : Opc} {s : List Int} {k : ByteArray} {n : Int} {d : List ByteArray} {sa : List Int} {a : List Rat} {sb : List Int} {b r : List Rat} (h : FitV o s k n d sa a sb b r) :
    VCall Go.Proofs.Tryz.prog GL 49 [nodeC o.str A B name s k n d, tenR sa a, tenR sb b] (fun y => y = .tup [tenR s r, .int .i64 0]) := by
  cases h with
  | const h =>
    have h1 := c_CloneR GL s (by have := h.sl; omega)
    have h2 := c_CloneV r (by have := h.vl; omega)
    have h3 := c_tRightV h
    rw [tenA_R] at h3
    unfold rowR at h2
    unfold nodeC tenR rowR
    unfold tenA at h3
    refine vcall_of TOK_eApply HM Go.Proofs.Tryz.func49 rfl (by decide +kernel) (by decide +kernel) rfl ?_
    repeat' first|refine sY ⟨?_⟩|(refine sq ?_ ?_<;>refine fun h=>⟨?_⟩<;>(first|contradiction|(exfalso;omega)|skip))|fail
    refine ⟨by decide +kernel, [0, 1, 3, 0, 8, 31, 63, 0, 255], by decide +kernel, ?_⟩
    repeat' first|refine sY ⟨?_⟩|(refine sq ?_ ?_<;>refine fun h=>⟨?_⟩<;>(first|contradiction|(exfalso;omega)|skip))|fail
    all_goals (conv => whnf)
    all_goals rfl
  | add ha hb hr =>
    have h := c_tZipAdd ha hb
    unfold nodeC
    unfold tenR at h ⊢
    refine vcall_of TOK_eApply HM Go.Proofs.Tryz.func49 rfl (by decide +kernel) (by decide +kernel) rfl ?_
    repeat' first|refine sY ⟨?_⟩|(refine sq ?_ ?_<;>refine fun h=>⟨?_⟩<;>(first|contradiction|(exfalso;omega)|skip))|fail
    all_goals (conv => whnf)
    all_goals rfl
  | sub ha hb hr =>
    have h := c_tZipSub ha hb
    unfold nodeC
    unfold tenR at h ⊢
    refine vcall_of TOK_eApply HM Go.Proofs.Tryz.func49 rfl (by decide +kernel) (by decide +kernel) rfl ?_
    repeat' first|refine sY ⟨?_⟩|(refine sq ?_ ?_<;>refine fun h=>⟨?_⟩<;>(first|contradiction|(exfalso;omega)|skip))|fail
    all_goals (conv => whnf)
    all_goals rfl
  | mul ha hb hr =>
    have h := c_tZipMul ha hb
    unfold nodeC
    unfold tenR at h ⊢
    refine vcall_of TOK_eApply HM Go.Proofs.Tryz.func49 rfl (by decide +kernel) (by decide +kernel) rfl ?_
    repeat' first|refine sY ⟨?_⟩|(refine sq ?_ ?_<;>refine fun h=>⟨?_⟩<;>(first|contradiction|(exfalso;omega)|skip))|fail
    all_goals (conv => whnf)
    all_goals rfl
  | max ha hb hd hr =>
    have h := c_kMax ha hb hd
    unfold nodeC
    unfold tenR at h ⊢
    refine vcall_of TOK_eApply HM Go.Proofs.Tryz.func49 rfl (by decide +kernel) (by decide +kernel) rfl ?_
    repeat' first|refine sY ⟨?_⟩|(refine sq ?_ ?_<;>refine fun h=>⟨?_⟩<;>(first|contradiction|(exfalso;omega)|skip))|fail
    all_goals (conv => whnf)
    all_goals rfl
  | above ha hb hd hr =>
    have h := c_kAbove ha hb hd
    unfold nodeC
    unfold tenR at h ⊢
    refine vcall_of TOK_eApply HM Go.Proofs.Tryz.func49 rfl (by decide +kernel) (by decide +kernel) rfl ?_
    repeat' first|refine sY ⟨?_⟩|(refine sq ?_ ?_<;>refine fun h=>⟨?_⟩<;>(first|contradiction|(exfalso;omega)|skip))|fail
    all_goals (conv => whnf)
    all_goals rfl
  | matmul ha hb hok hm hs =>
    have h := c_aMatMul _ _ _ ha hb hok hm hs
    unfold nodeC
    unfold tenR at h ⊢
    refine vcall_of TOK_eApply HM Go.Proofs.Tryz.func49 rfl (by decide +kernel) (by decide +kernel) rfl ?_
    repeat' first|refine sY ⟨?_⟩|(refine sq ?_ ?_<;>refine fun h=>⟨?_⟩<;>(first|contradiction|(exfalso;omega)|skip))|fail
    all_goals (conv => whnf)
    all_goals rfl
  | relu ha =>
    have h := c_kRelu ha
    unfold nodeC
    unfold tenR at h ⊢
    refine vcall_of TOK_eApply HM Go.Proofs.Tryz.func49 rfl (by decide +kernel) (by decide +kernel) rfl ?_
    repeat' first|refine sY ⟨?_⟩|(refine sq ?_ ?_<;>refine fun h=>⟨?_⟩<;>(first|contradiction|(exfalso;omega)|skip))|fail
    all_goals (conv => whnf)
    all_goals rfl
  | abs ha =>
    have h := c_kAbs ha
    unfold nodeC
    unfold tenR at h ⊢
    refine vcall_of TOK_eApply HM Go.Proofs.Tryz.func49 rfl (by decide +kernel) (by decide +kernel) rfl ?_
    repeat' first|refine sY ⟨?_⟩|(refine sq ?_ ?_<;>refine fun h=>⟨?_⟩<;>(first|contradiction|(exfalso;omega)|skip))|fail
    all_goals (conv => whnf)
    all_goals rfl
  | step ha =>
    have h := c_kStep ha
    unfold nodeC
    unfold tenR at h ⊢
    refine vcall_of TOK_eApply HM Go.Proofs.Tryz.func49 rfl (by decide +kernel) (by decide +kernel) rfl ?_
    repeat' first|refine sY ⟨?_⟩|(refine sq ?_ ?_<;>refine fun h=>⟨?_⟩<;>(first|contradiction|(exfalso;omega)|skip))|fail
    all_goals (conv => whnf)
    all_goals rfl
  | sign ha =>
    have h := c_kSign ha
    unfold nodeC
    unfold tenR at h ⊢
    refine vcall_of TOK_eApply HM Go.Proofs.Tryz.func49 rfl (by decide +kernel) (by decide +kernel) rfl ?_
    repeat' first|refine sY ⟨?_⟩|(refine sq ?_ ?_<;>refine fun h=>⟨?_⟩<;>(first|contradiction|(exfalso;omega)|skip))|fail
    all_goals (conv => whnf)
    all_goals rfl
  | scale ha hk hr hs =>
    have h := c_tScale ha hk
    unfold nodeC
    unfold tenR at h ⊢
    refine vcall_of TOK_eApply HM Go.Proofs.Tryz.func49 rfl (by decide +kernel) (by decide +kernel) rfl ?_
    repeat' first|refine sY ⟨?_⟩|(refine sq ?_ ?_<;>refine fun h=>⟨?_⟩<;>(first|contradiction|(exfalso;omega)|skip))|fail
    all_goals (conv => whnf)
    all_goals rfl
  | power hk ha hn hp hs =>
    have h := c_tPower _ hn ha hp
    unfold nodeC
    unfold tenR at h ⊢
    refine vcall_of TOK_eApply HM Go.Proofs.Tryz.func49 rfl (by decide +kernel) (by decide +kernel) rfl ?_
    repeat' first|refine sY ⟨?_⟩|(refine sq ?_ ?_<;>refine fun h=>⟨?_⟩<;>(first|contradiction|(exfalso;omega)|skip))|fail
    all_goals (conv => whnf)
    all_goals rfl
  | transpose ha =>
    have h := c_aTranspose _ _ ha
    unfold nodeC
    unfold tenR at h ⊢
    refine vcall_of TOK_eApply HM Go.Proofs.Tryz.func49 rfl (by decide +kernel) (by decide +kernel) rfl ?_
    repeat' first|refine sY ⟨?_⟩|(refine sq ?_ ?_<;>refine fun h=>⟨?_⟩<;>(first|contradiction|(exfalso;omega)|skip))|fail
    all_goals (conv => whnf)
    all_goals rfl
  | sum hk ha hs =>
    have h := c_aTotal ha hs
    unfold nodeC
    unfold tenR at h ⊢
    refine vcall_of TOK_eApply HM Go.Proofs.Tryz.func49 rfl (by decide +kernel) (by decide +kernel) rfl ?_
    repeat' first|refine sY ⟨?_⟩|(refine sq ?_ ?_<;>refine fun h=>⟨?_⟩<;>(first|contradiction|(exfalso;omega)|skip))|fail
    all_goals (conv => whnf)
    all_goals rfl
  | reshape ha hok hl =>
    have h := c_aReshape ha hok hl
    unfold nodeC
    unfold tenR at h ⊢
    refine vcall_of TOK_eApply HM Go.Proofs.Tryz.func49 rfl (by decide +kernel) (by decide +kernel) rfl ?_
    repeat' first|refine sY ⟨?_⟩|(refine sq ?_ ?_<;>refine fun h=>⟨?_⟩<;>(first|contradiction|(exfalso;omega)|skip))|fail
    all_goals (conv => whnf)
    all_goals rfl
  | spread hk hx hok hm =>
    have h := c_aSpread hok hx _ hm
    unfold nodeC
    unfold tenR at h ⊢
    refine vcall_of TOK_eApply HM Go.Proofs.Tryz.func49 rfl (by decide +kernel) (by decide +kernel) rfl ?_
    repeat' first|refine sY ⟨?_⟩|(refine sq ?_ ?_<;>refine fun h=>⟨?_⟩<;>(first|contradiction|(exfalso;omega)|skip))|fail
    all_goals (conv => whnf)
    all_goals rfl
theorem FitV.shape {o : Opc} {s : List Int} {k : ByteArray} {n : Int} {d : List ByteArray} {sa : List Int} {a : List Rat} {sb : List Int} {b r : List Rat} (h : FitV o s k n d sa a sb b r) : okShape s = true := by
  cases h <;> first | assumption | exact VT.ok (by assumption) | decide | skip
  rename_i p q ha
  have h1 := ha.ok
  simp only [okShape, Bool.and_eq_true, decide_eq_true_eq, List.all_cons, List.all_nil, prodZ, List.foldl_cons, List.foldl_nil, Int.one_mul, Bool.and_true] at h1 ⊢
  exact ⟨⟨h1.1.1, h1.1.2.2, h1.1.2.1⟩, by rw [Int.mul_comm]; exact h1.2⟩
theorem c_eNode {o : Opc} {s : List Int} {k : ByteArray} {n : Int} {d : List ByteArray} {sa : List Int} {a : List Rat} {sb : List Int} {b r : List Rat} (h : FitV o s k n d sa a sb b r) :
    VCall Go.Proofs.Tryz.prog GL 25 [nodeC o.str A B name s k n d, tenR sa a, tenR sb b] (fun y => y = .tup [tenR s r, .int .i64 0]) := by
  have h1 := c_eApply A B name h
  have hl := okShape_len h.shape
  have h2 := c_shape_Same GL s s (by omega) (by omega)
  rw [decide_eq_true rfl] at h2
  unfold nodeC tenR at h1 ⊢
  refine vcall_of TOK_eNode HM Go.Proofs.Tryz.func25 rfl (by decide +kernel) (by decide +kernel) rfl ?_
  repeat' first|refine sY ⟨?_⟩|(refine sq ?_ ?_<;>refine fun h=>⟨?_⟩<;>(first|contradiction|(exfalso;omega)|skip))|fail
  all_goals (conv => whnf)
  all_goals rfl
end
end Go.V
namespace Go.V
open Go.N
set_option maxRecDepth 20000
theorem ten_le : ∀ (e n : Nat), e ≤ n → 10 ^ e ≤ 10 ^ n := fun e n h => Nat.pow_le_pow_right (by decide) h
theorem TOP_is {n : Nat} (h : n = 30000) : TOP = 10 ^ n := by subst h; unfold TOP; rfl
theorem TOP_pow {e : Nat} (h : e ≤ 30000) : 10 ^ e ≤ TOP := by
  obtain ⟨n, hn⟩ : ∃ n : Nat, n = 30000 := ⟨_, rfl⟩
  rw [TOP_is hn]
  exact ten_le e n (by omega)
theorem RS_of {x : Rat} {e : Nat} (h : MM x ≤ 10 ^ e) (he : e ≤ 30000) : RS x := ⟨Nat.le_trans h (TOP_pow he)⟩
theorem ten_mono {a b : Nat} (h : a ≤ b) : 10 ^ a ≤ 10 ^ b := Nat.pow_le_pow_right (by decide) h
theorem ten_two {e : Nat} (h : 1 ≤ e) : 2 ≤ 10 ^ e := Nat.le_trans (by decide) (ten_mono h)
theorem ten_mul {x y E F : Nat} (hx : x ≤ 10 ^ E) (hy : y ≤ 10 ^ F) : x * y ≤ 10 ^ (E + F) := by rw [Nat.pow_add]; exact Nat.mul_le_mul hx hy
theorem sum_pow {l : List Rat} {E : Nat} (N : Nat) (h : ∀ y ∈ l, MM y ≤ 10 ^ E) (hl : l.length * E ≤ N) (hN : 1 ≤ N) (hN2 : N ≤ 30000) : ∀ k, k ≤ l.length → RS (sumR (l.take k)) := fun k hk => by
  refine RS_of (e := N) (MM_sum_top (C := 10 ^ N) h ?_ (ten_two hN) k hk) hN2
  rw [← Nat.pow_mul, Nat.mul_comm]
  exact ten_mono hl
theorem MM_reluR (x : Rat) : MM (reluR x) ≤ MM x := by
  unfold reluR; split
  · exact Nat.le_refl _
  · rw [MM_zero]; exact MM_two x
theorem MM_absR (x : Rat) : MM (absR x) ≤ MM x := by
  unfold absR; split
  · exact Nat.le_refl _
  · rw [MM_neg]; exact Nat.le_refl _
theorem MM_stepR (x : Rat) : MM (stepR x) = 2 := by unfold stepR; split <;> rfl
theorem MM_signR (x : Rat) : MM (signR x) = 2 := by
  unfold signR; split
  · rw [MM_neg, MM_one]
  · split <;> rfl
theorem MM_aboveR (x y : Rat) : MM (aboveR x y) = 2 := by unfold aboveR; split <;> rfl
theorem MM_maxR {x y : Rat} {E F : Nat} (hx : MM x ≤ 10 ^ E) (hy : MM y ≤ 10 ^ F) : MM (maxR x y) ≤ 10 ^ (E + F) := by
  unfold maxR; split
  · exact Nat.le_trans hx (ten_mono (Nat.le_add_right _ _))
  · exact Nat.le_trans hy (ten_mono (Nat.le_add_left _ _))
theorem mem_zipW {f : Rat → Rat → Rat} : ∀ {a b : List Rat} {z : Rat}, z ∈ List.zipWith f a b → ∃ x ∈ a, ∃ y ∈ b, z = f x y
  | [], _, z, h => by simp at h
  | _ :: _, [], z, h => by simp at h
  | x :: a, y :: b, z, h => by
    rw [List.zipWith_cons_cons, List.mem_cons] at h
    rcases h with rfl | h
    · exact ⟨x, List.mem_cons_self, y, List.mem_cons_self, rfl⟩
    · obtain ⟨u, hu, v, hv, e⟩ := mem_zipW h
      exact ⟨u, List.mem_cons_of_mem _ hu, v, List.mem_cons_of_mem _ hv, e⟩
theorem MM_atR {a : List Rat} {E : Nat} (h : ∀ x ∈ a, MM x ≤ 10 ^ E) (hE : 1 ≤ E) (i : Nat) : MM (atR a i) ≤ 10 ^ E := by
  unfold atR
  cases he : a[i]? with
  | none => exact Nat.le_trans (Nat.le_of_eq MM_zero) (ten_two hE)
  | some x => exact h x (List.mem_of_getElem? he)
noncomputable def valO (o : Opc) (s : List Int) (k : ByteArray) (n : Int) (d : List ByteArray) (sa : List Int) (a : List Rat) (sb : List Int) (b : List Rat) : List Rat := match o with
  | .param | .input => []
  | .const => d.map ratV
  | .add => List.zipWith (fun x y => x + y) a b
  | .sub => List.zipWith (fun x y => x - y) a b
  | .mul => List.zipWith (fun x y => x * y) a b
  | .max => List.zipWith maxR a b
  | .above => List.zipWith aboveR a b
  | .matmul => matV (sa[0]?.getD 0).toNat (sa[1]?.getD 0).toNat (sb[1]?.getD 0).toNat a b
  | .relu => a.map reluR
  | .abs => a.map absR
  | .step => a.map stepR
  | .sign => a.map signR
  | .scale => a.map fun x => x * ratV k
  | .power => a.map fun x => x ^ n.toNat
  | .transpose => transV (sa[0]?.getD 0).toNat (sa[1]?.getD 0).toNat a
  | .sum => [sumR a]
  | .reshape => a
  | .spread => List.replicate (prodZ s).toNat (atR a 0)
def expO (o : Opc) (n : Int) (sa : List Int) (m Ea Eb Ek Ed : Nat) : Nat := match o with
  | .add | .sub | .mul | .max => Ea + Eb
  | .matmul => (sa[1]?.getD 0).toNat * (Ea + Eb)
  | .sum => m * Ea
  | .scale => Ea + Ek
  | .power => Ea * max 1 n.toNat
  | .above | .step | .sign | .param | .input => 1
  | .const => Ed
  | _ => Ea
theorem okZ_some {r : List Int × Bool} {s : List Int} (h : okZ r = some s) : r = (s, true) ∧ okShape s = true := by
  unfold okZ at h
  split at h
  · rename_i h1
    obtain ⟨s', c⟩ := r
    simp only [Bool.and_eq_true] at h1
    cases h
    exact ⟨by rw [h1.1], h1.2⟩
  · cases h
theorem sizeZ_ok {s : List Int} (h : okShape s = true) : sizeZ s = prodZ s := if_pos h
theorem prodZ_ok {s : List Int} (h : okShape s = true) : 1 ≤ prodZ s ∧ prodZ s ≤ 64 := by
  have := okShape_mid h s.length
  rwa [List.take_length] at this
theorem rats_map {d : List ByteArray} (h : ∀ s ∈ d, ratOK s = true) : (d.map ratV).map ratB = d := by
  rw [List.map_map]
  conv => rhs; rw [← List.map_id d]
  exact List.map_congr_left fun s hs => ratB_ratV (h s hs)
structure FitIn (sa : List Int) (a : List Rat) (E : Nat) : Prop where
  mm : ∀ x ∈ a, MM x ≤ 10 ^ E
  one : 1 ≤ E
theorem fit_of {o : Opc} {A B : Int} {name : ByteArray} {s : List Int} {k : ByteArray} {n : Int} {d : List ByteArray} {sa : List Int} {a : List Rat} {sb : List Int} {b : List Rat} {Ea Eb Ek Ed : Nat}
    (hnn : namedOp o.str = false) (hz : okZ (ofZ ⟨o.str, A, B, name, s, k, n, d⟩ sa sb) = some s)
    (ha : 0 < o.many → VT sa a) (hb : 1 < o.many → VT sb b) (hEa : FitIn sa a Ea) (hEb : FitIn sb b Eb) (hEk : 1 ≤ Ek) (hEd : 1 ≤ Ed) (hkM : ratOK k = true → MM (ratV k) ≤ 10 ^ Ek) (hks : k.size ≤ 1000)
    (hd : ∀ y ∈ d, ratOK y = true → MM (ratV y) ≤ 10 ^ Ed) (hs : ∀ j, j ≤ a.length → RS (sumR (a.take j))) (hkE : Ek ≤ 30000) (hab : Ea + Eb ≤ 30000)
    (hR : expO o n sa a.length Ea Eb Ek Ed ≤ 30000) :
    FitV o s k n d sa a sb b (valO o s k n d sa a sb b) ∧ (∀ y ∈ valO o s k n d sa a sb b, MM y ≤ 10 ^ expO o n sa a.length Ea Eb Ek Ed) ∧ (((valO o s k n d sa a sb b).length : Nat) : Int) = prodZ s := by
  obtain ⟨hz, hok⟩ := okZ_some hz
  have hp := prodZ_ok hok
  have hzip : ∀ (f : Rat → Rat → Rat) (C : Nat), (∀ x y, MM x ≤ 10 ^ Ea → MM y ≤ 10 ^ Eb → MM (f x y) ≤ 10 ^ C) → ∀ z ∈ List.zipWith f a b, MM z ≤ 10 ^ C := fun f C h z hz => by
    obtain ⟨x, hx, y, hy, rfl⟩ := mem_zipW hz
    exact h x y (hEa.mm x hx) (hEb.mm y hy)
  have hmap : ∀ (f : Rat → Rat) (C : Nat), (∀ x, MM x ≤ 10 ^ Ea → MM (f x) ≤ 10 ^ C) → ∀ z ∈ a.map f, MM z ≤ 10 ^ C := fun f C h z hz => by
    obtain ⟨x, hx, rfl⟩ := List.mem_map.1 hz
    exact h x (hEa.mm x hx)
  have hzl : ∀ f : Rat → Rat → Rat, VT sa a → VT sa b → (((List.zipWith f a b).length : Nat) : Int) = prodZ sa := fun f h1 h2 => by
    rw [List.length_zipWith]
    have := h1.len; have := h2.len
    omega
  have hdif : VT sa a → VT sa b → ∀ i (h : i < a.length) (h2 : i < b.length), RS (a[i] - b[i]) := fun h1 h2 i h h' =>
    RS_of (Nat.le_trans (MM_sub _ _) (ten_mul (hEa.mm _ (List.getElem_mem h)) (hEb.mm _ (List.getElem_mem h')))) hab
  have o1 := hEa.one
  have o2 := hEb.one
  cases o
  case param => cases hnn
  case input => cases hnn
  case const =>
    rw [show ofZ ⟨Opc.str .const, A, B, name, s, k, n, d⟩ sa sb = (s, decide ((d.length : Int) = sizeZ s) && !(d.any fun d => !ratOK d)) from rfl] at hz
    have h1 := congrArg Prod.snd hz
    simp only [Bool.and_eq_true, decide_eq_true_eq, Bool.not_eq_true', List.any_eq_false, Bool.not_eq_false'] at h1
    have hr : ∀ y ∈ d, ratOK y = true := fun y hy => by have := h1.2 y hy; simpa using this
    have hm : ∀ z ∈ d.map ratV, MM z ≤ 10 ^ Ed := fun z hz => by
      obtain ⟨y, hy, rfl⟩ := List.mem_map.1 hz
      exact hd y hy (hr y hy)
    have hl : (((d.map ratV).length : Nat) : Int) = prodZ s := by rw [List.length_map, ← sizeZ_ok hok]; exact h1.1
    have hv : VT s (d.map ratV) := ⟨hok, hl, fun z hz => RS_of (hm z hz) hR⟩
    refine ⟨?_, hm, hl⟩
    have := FitV.const (k := k) (n := n) (sa := sa) (a := a) (sb := sb) (b := b) hv
    rw [rats_map hr] at this
    exact this
  case add =>
    rw [show ofZ ⟨Opc.str .add, A, B, name, s, k, n, d⟩ sa sb = (sa, decide (sa = sb)) from rfl] at hz
    obtain ⟨rfl, h2⟩ := Prod.mk.inj hz
    obtain rfl := of_decide_eq_true h2
    have ha := ha (by decide); have hb := hb (by decide)
    have hm := hzip (fun x y => x + y) (Ea + Eb) fun x y h1 h2 => Nat.le_trans (MM_add _ _) (ten_mul h1 h2)
    exact ⟨.add ha hb fun x hx => RS_of (hm x hx) hR, hm, hzl _ ha hb⟩
  case sub =>
    rw [show ofZ ⟨Opc.str .sub, A, B, name, s, k, n, d⟩ sa sb = (sa, decide (sa = sb)) from rfl] at hz
    obtain ⟨rfl, h2⟩ := Prod.mk.inj hz
    obtain rfl := of_decide_eq_true h2
    have ha := ha (by decide); have hb := hb (by decide)
    have hm := hzip (fun x y => x - y) (Ea + Eb) fun x y h1 h2 => Nat.le_trans (MM_sub _ _) (ten_mul h1 h2)
    exact ⟨.sub ha hb fun x hx => RS_of (hm x hx) hR, hm, hzl _ ha hb⟩
  case mul =>
    rw [show ofZ ⟨Opc.str .mul, A, B, name, s, k, n, d⟩ sa sb = (sa, decide (sa = sb)) from rfl] at hz
    obtain ⟨rfl, h2⟩ := Prod.mk.inj hz
    obtain rfl := of_decide_eq_true h2
    have ha := ha (by decide); have hb := hb (by decide)
    have hm := hzip (fun x y => x * y) (Ea + Eb) fun x y h1 h2 => Nat.le_trans (MM_mul _ _) (ten_mul h1 h2)
    exact ⟨.mul ha hb fun x hx => RS_of (hm x hx) hR, hm, hzl _ ha hb⟩
  case max =>
    rw [show ofZ ⟨Opc.str .max, A, B, name, s, k, n, d⟩ sa sb = (sa, decide (sa = sb)) from rfl] at hz
    obtain ⟨rfl, h2⟩ := Prod.mk.inj hz
    obtain rfl := of_decide_eq_true h2
    have ha := ha (by decide); have hb := hb (by decide)
    have hm := hzip maxR (Ea + Eb) fun x y h1 h2 => MM_maxR h1 h2
    exact ⟨.max ha hb (fun i h => hdif ha hb i h _) fun x hx => RS_of (hm x hx) hR, hm, hzl _ ha hb⟩
  case above =>
    rw [show ofZ ⟨Opc.str .above, A, B, name, s, k, n, d⟩ sa sb = (sa, decide (sa = sb)) from rfl] at hz
    obtain ⟨rfl, h2⟩ := Prod.mk.inj hz
    obtain rfl := of_decide_eq_true h2
    have ha := ha (by decide); have hb := hb (by decide)
    have hm := hzip aboveR 1 fun x y h1 h2 => Nat.le_trans (Nat.le_of_eq (MM_aboveR x y)) (by decide)
    exact ⟨.above ha hb (fun i h => hdif ha hb i h _) fun x hx => RS_of (hm x hx) hR, hm, hzl _ ha hb⟩
  case relu =>
    rw [show ofZ ⟨Opc.str .relu, A, B, name, s, k, n, d⟩ sa sb = (sa, true) from rfl] at hz
    obtain ⟨rfl, _⟩ := Prod.mk.inj hz
    have ha := ha (by decide)
    exact ⟨.relu ha, hmap reluR Ea fun x h => Nat.le_trans (MM_reluR x) h, by rw [← ha.len]; exact congrArg _ (List.length_map _)⟩
  case abs =>
    rw [show ofZ ⟨Opc.str .abs, A, B, name, s, k, n, d⟩ sa sb = (sa, true) from rfl] at hz
    obtain ⟨rfl, _⟩ := Prod.mk.inj hz
    have ha := ha (by decide)
    exact ⟨.abs ha, hmap absR Ea fun x h => Nat.le_trans (MM_absR x) h, by rw [← ha.len]; exact congrArg _ (List.length_map _)⟩
  case step =>
    rw [show ofZ ⟨Opc.str .step, A, B, name, s, k, n, d⟩ sa sb = (sa, true) from rfl] at hz
    obtain ⟨rfl, _⟩ := Prod.mk.inj hz
    have ha := ha (by decide)
    exact ⟨.step ha, hmap stepR 1 fun x h => Nat.le_trans (Nat.le_of_eq (MM_stepR x)) (by decide), by rw [← ha.len]; exact congrArg _ (List.length_map _)⟩
  case sign =>
    rw [show ofZ ⟨Opc.str .sign, A, B, name, s, k, n, d⟩ sa sb = (sa, true) from rfl] at hz
    obtain ⟨rfl, _⟩ := Prod.mk.inj hz
    have ha := ha (by decide)
    exact ⟨.sign ha, hmap signR 1 fun x h => Nat.le_trans (Nat.le_of_eq (MM_signR x)) (by decide), by rw [← ha.len]; exact congrArg _ (List.length_map _)⟩
  case scale =>
    rw [show ofZ ⟨Opc.str .scale, A, B, name, s, k, n, d⟩ sa sb = (sa, ratOK k) from rfl] at hz
    obtain ⟨rfl, hk⟩ := Prod.mk.inj hz
    have ha := ha (by decide)
    have hkM := hkM hk
    have hm := hmap (fun x => x * ratV k) (Ea + Ek) fun x h => Nat.le_trans (MM_mul _ _) (ten_mul h hkM)
    refine ⟨?_, hm, by rw [← ha.len]; exact congrArg _ (List.length_map _)⟩
    have := FitV.scale (n := n) (d := d) (sb := sb) (b := b) ha (RS_of hkM hkE) (fun x hx => RS_of (hm _ (List.mem_map.2 ⟨x, hx, rfl⟩)) hR) hs
    rw [ratB_ratV hk] at this
    exact this
  case power =>
    rw [show ofZ ⟨Opc.str .power, A, B, name, s, k, n, d⟩ sa sb = (sa, decide (0 ≤ n) && decide (n ≤ 6)) from rfl] at hz
    obtain ⟨rfl, hn⟩ := Prod.mk.inj hz
    simp only [Bool.and_eq_true, decide_eq_true_eq] at hn
    obtain ⟨nn, rfl⟩ : ∃ m : Nat, n = m := ⟨n.toNat, by omega⟩
    have ha := ha (by decide)
    have hpw : ∀ x, MM x ≤ 10 ^ Ea → ∀ j, j ≤ nn → MM (x ^ j) ≤ 10 ^ (Ea * max 1 nn) := fun x h j hj =>
      MM_pow_top (n := max 1 nn) h (by rw [← Nat.pow_mul]; exact Nat.le_refl _) (ten_two (Nat.le_trans o1 (Nat.le_mul_of_pos_right _ (by omega)))) j (by omega)
    have hm := hmap (fun x => x ^ nn) (Ea * max 1 nn) fun x h => hpw x h nn (Nat.le_refl _)
    exact ⟨.power (by omega) ha (by omega) (fun x hx j hj => RS_of (hpw x (hEa.mm x hx) j hj) hR) hs, hm, by rw [← ha.len]; exact congrArg _ (List.length_map _)⟩
  case transpose =>
    have ha := ha (by decide)
    have h2 : sa.length = 2 := by
      rcases Nat.decEq sa.length 2 with h | h
      · rw [show ofZ ⟨Opc.str .transpose, A, B, name, s, k, n, d⟩ sa sb = _ from transpose_not h] at hz
        cases hz
      · exact h
    obtain ⟨p, q, rfl⟩ := two_of h2
    rw [show ofZ ⟨Opc.str .transpose, A, B, name, s, k, n, d⟩ [p, q] sb = ([q, p], true) from rfl] at hz
    obtain ⟨rfl, _⟩ := Prod.mk.inj hz
    have hdm := okShape_dim ha.ok
    have h1 := hdm p (by simp)
    have h2 := hdm q (by simp)
    obtain ⟨p, rfl⟩ : ∃ m : Nat, p = m := ⟨p.toNat, by omega⟩
    obtain ⟨q, rfl⟩ : ∃ m : Nat, q = m := ⟨q.toNat, by omega⟩
    refine ⟨.transpose ha, fun z hz => ?_, ?_⟩
    · obtain ⟨j, _, rfl⟩ := List.mem_map.1 (show z ∈ transV p q a from hz)
      exact MM_atR hEa.mm o1 _
    · show (((transV p q a).length : Nat) : Int) = _
      rw [transV_len]; simp [prodZ]
  case sum =>
    rw [show ofZ ⟨Opc.str .sum, A, B, name, s, k, n, d⟩ sa sb = ([], true) from rfl] at hz
    obtain ⟨rfl, _⟩ := Prod.mk.inj hz
    have ha := ha (by decide)
    have hvl := ha.vl
    refine ⟨.sum (by omega) ha hs, fun z hz => ?_, rfl⟩
    obtain rfl := List.mem_singleton.1 (show z ∈ [sumR a] from hz)
    have := MM_sum_top hEa.mm (C := 10 ^ (a.length * Ea)) (by rw [← Nat.pow_mul, Nat.mul_comm]; exact Nat.le_refl _) (ten_two (Nat.le_trans o1 (Nat.le_mul_of_pos_left _ (by omega)))) a.length (Nat.le_refl _)
    rwa [List.take_length] at this
  case reshape =>
    rw [show ofZ ⟨Opc.str .reshape, A, B, name, s, k, n, d⟩ sa sb = (s, decide (sizeZ s = sizeZ sa)) from rfl] at hz
    have h2 := of_decide_eq_true (congrArg Prod.snd hz)
    have ha := ha (by decide)
    rw [sizeZ_ok hok, sizeZ_ok ha.ok] at h2
    have hl : ((a.length : Nat) : Int) = prodZ s := by rw [h2]; exact ha.len
    exact ⟨.reshape ha hok hl, hEa.mm, hl⟩
  case spread =>
    rw [show ofZ ⟨Opc.str .spread, A, B, name, s, k, n, d⟩ sa sb = (s, decide ((sa.length : Int) = 0)) from rfl] at hz
    have h2 := of_decide_eq_true (congrArg Prod.snd hz)
    have ha := ha (by decide)
    obtain rfl : sa = [] := List.length_eq_zero_iff.1 (by omega)
    have hl := ha.len
    rw [show prodZ [] = 1 from rfl] at hl
    obtain ⟨x, rfl⟩ : ∃ x, a = [x] := List.length_eq_one_iff.1 (by omega)
    obtain ⟨m, hm⟩ : ∃ m : Nat, prodZ s = ((m + 1 : Nat) : Int) := ⟨(prodZ s).toNat - 1, by omega⟩
    have e : valO .spread s k n d [] [x] sb b = List.replicate (m + 1) x := by show List.replicate (prodZ s).toNat x = _; rw [hm]; rfl
    rw [e]
    refine ⟨.spread (by omega) (ha.rs x List.mem_cons_self) hok hm, fun z hz => ?_, by rw [List.length_replicate, hm]⟩
    rw [List.eq_of_mem_replicate hz]
    exact hEa.mm x List.mem_cons_self
  case matmul =>
    have ha := ha (by decide)
    have hb := hb (by decide)
    by_cases h : sa.length = 2 ∧ sb.length = 2 ∧ sa[1]? = sb[0]?
    case neg =>
      rw [show ofZ ⟨Opc.str .matmul, A, B, name, s, k, n, d⟩ sa sb = _ from matmul_not h] at hz
      cases hz
    obtain ⟨p, q, rfl⟩ := two_of h.1
    obtain ⟨q', c, rfl⟩ := two_of h.2.1
    obtain rfl : q = q' := Option.some.inj h.2.2
    rw [show ofZ ⟨Opc.str .matmul, A, B, name, s, k, n, d⟩ [p, q] [q, c] = ([p, c], true) from if_pos rfl] at hz
    obtain ⟨rfl, _⟩ := Prod.mk.inj hz
    have h1 := okShape_dim ha.ok p (by simp)
    have h2 := okShape_dim ha.ok q (by simp)
    have h3 := okShape_dim hb.ok c (by simp)
    obtain ⟨p, rfl⟩ : ∃ m : Nat, p = m := ⟨p.toNat, by omega⟩
    obtain ⟨q, rfl⟩ : ∃ m : Nat, q = m := ⟨q.toNat, by omega⟩
    obtain ⟨c, rfl⟩ : ∃ m : Nat, c = m := ⟨c.toNat, by omega⟩
    have hR : q * (Ea + Eb) ≤ 30000 := hR
    have ht : ∀ i j, MM (atR a i * atR b j) ≤ 10 ^ (Ea + Eb) := fun i j => Nat.le_trans (MM_mul _ _) (ten_mul (MM_atR hEa.mm o1 _) (MM_atR hEb.mm o2 _))
    have hsum : ∀ i k j, j ≤ q → MM (sumR ((termsV q c a b i k).take j)) ≤ 10 ^ (q * (Ea + Eb)) := fun i k j hj => by
      refine MM_sum_top (A := 10 ^ (Ea + Eb)) (fun z hz => ?_) ?_ (ten_two (Nat.le_trans o1 (Nat.le_trans (Nat.le_add_right _ _) (Nat.le_mul_of_pos_left _ (by omega))))) j (by rw [termsV_len]; exact hj)
      · obtain ⟨t, _, rfl⟩ := List.mem_map.1 hz
        exact ht _ _
      · rw [termsV_len, ← Nat.pow_mul, Nat.mul_comm]; exact Nat.le_refl _
    refine ⟨.matmul ha hb hok (fun i k j _ _ _ => RS_of (ht _ _) hab) (fun i k j _ _ hj => RS_of (hsum i k j hj) hR), fun z hz => ?_, ?_⟩
    · obtain ⟨t, _, rfl⟩ := List.mem_map.1 (show z ∈ matV p q c a b from hz)
      have := hsum (t / c) (t % c) q (Nat.le_refl _)
      rwa [List.take_of_length_le (by rw [termsV_len]; exact Nat.le_refl _)] at this
    · show (((matV p q c a b).length : Nat) : Int) = _
      rw [matV_len]; simp [prodZ]
end Go.V
