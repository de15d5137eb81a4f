/-
  Lemmas (part 2) for: EvalNode, EvalSums, EvalBehind and EvalOrder hold for all arguments; no condition.
-/
import Derived.Test.YtndiceggidmgkaaGreatDoorEval1
import Derived.Test.YtndiceggidmgkaaGreatDoorFold10
import Derived.Test.YtndiceggidmgkaaGreatDoorFold5
import Derived.Test.YtndiceggidmgkaaGreatDoorFold8
set_option linter.all false
namespace Go.V
open Go.N
set_option maxRecDepth 20000
def allOps : List Opc := [.param, .input, .const, .relu, .abs, .step, .sign, .scale, .power, .transpose, .sum, .reshape, .spread, .add, .sub, .mul, .max, .above, .matmul]
def opcOf (s : ByteArray) : Opc := (allOps.find? fun o => decide (s = o.str)).getD .param
theorem opcOf_str (o : Opc) : opcOf o.str = o := by cases o <;> rfl
theorem wList_take {l : List Nd} {i : Nat} : ∀ {j : Nat}, i ≤ j → j ≤ l.length → wList l i = (wList l j).take i
  | 0, h, _ => by obtain rfl : i = 0 := by omega
                  rfl
  | j + 1, h, hj => by
    rcases Nat.lt_or_ge j i with h1 | h1
    · obtain rfl : i = j + 1 := by omega
      rw [List.take_of_length_le (by rw [wList_len _ hj]; exact Nat.le_refl _)]
    · rw [wList_step (by omega), List.take_append_of_le_length (by rw [wList_len _ (by omega)]; exact h1)]
      exact wList_take h1 (by omega)
def wAt (l : List Nd) (j : Nat) : Int := (wList l l.length)[j]?.getD 1
theorem wAt_in (l : List Nd) (j : Nat) : 1 ≤ wAt l j ∧ wAt l j ≤ 100000 := by
  unfold wAt
  cases h : (wList l l.length)[j]? with
  | none => exact ⟨by decide, by decide⟩
  | some w => exact wList_in l.length (Nat.le_refl _) w (List.mem_of_getElem? h)
theorem wAt_max (l : List Nd) (j : Nat) : wAt l j ≤ maxL (wList l l.length) := by
  have h1 : ∀ (w : List Int) (b : Int), b ≤ w.foldl (fun m x => if m < x then x else m) b ∧ ∀ x ∈ w, x ≤ w.foldl (fun m x => if m < x then x else m) b := fun w => by
    induction w with
    | nil => intro b; exact ⟨Int.le_refl _, fun x hx => by simp at hx⟩
    | cons y w ih =>
      intro b
      rw [List.foldl_cons]
      have h2 := ih (if b < y then y else b)
      have h3 : b ≤ (if b < y then y else b) ∧ y ≤ (if b < y then y else b) := by split <;> omega
      refine ⟨by omega, fun x hx => ?_⟩
      rcases List.mem_cons.1 hx with rfl | hx
      · omega
      · exact h2.2 x hx
  unfold wAt
  cases h : (wList l l.length)[j]? with
  | none => exact (h1 _ 1).1
  | some w => exact (h1 _ 1).2 w (List.mem_of_getElem? h)
theorem wAt_eq {l : List Nd} {j : Nat} {x : Nd} (hx : l[j]? = some x) : wAt l j = betw (wRaw x.op (partZw (wList l j) x.a) (partZw (wList l j) x.b) (wShape l j x) x.n) 100000 := by
  obtain ⟨h, rfl⟩ := List.getElem?_eq_some_iff.1 hx
  have h1 := wList_take (l := l) (i := j + 1) (j := l.length) (by omega) (Nat.le_refl _)
  have h2 : (wList l (j + 1))[j]? = some (wNode l (wList l j) j l[j]) := by
    have := wList_len (l := l) j (by omega)
    rw [wList_step h, List.getElem?_append_right (by omega), this, Nat.sub_self]; rfl
  rw [h1, List.getElem?_take_of_lt (by omega)] at h2
  rw [wAt, h2]; rfl
theorem partZw_at {l : List Nd} {p j : Nat} (hp : p < j) (hj : j ≤ l.length) : partZw (wList l j) (p : Nat) = wAt l p := by
  have hl := wList_len (l := l) j hj
  rw [partZw, if_pos ⟨by omega, by rw [Int.toNat_natCast, hl]; exact hp⟩, Int.toNat_natCast, wAt, wList_take hj (Nat.le_refl _), List.getElem?_take_of_lt hp]
theorem betw_eq {n m : Int} (h1 : 1 ≤ n) (h2 : n ≤ m) : betw n m = n := by rw [betw, if_neg (by omega), if_neg (by omega)]
theorem manyZ_ok {s : List Int} (h : okShape s = true) : manyZ s = prodZ s := by
  have hd := okShape_dim h
  have h4 := okShape_len h
  have : ∀ i, i ≤ s.length → manyZ (s.take i) = prodZ (s.take i) := fun i => by
    induction i with
    | zero => intro _; rfl
    | succ i ih =>
      intro hi
      have h1 := okShape_mid h (i + 1)
      have h2 := hd s[i] (List.getElem_mem (by omega))
      rw [prodZ_take (by omega)] at h1 ⊢
      rw [manyZ_step (by omega) (by omega), ih (by omega), betw_eq h2.1 h2.2, betw_eq h1.1 h1.2]
  have := this s.length (Nat.le_refl _)
  rwa [List.take_length] at this
noncomputable def valN (bd : Nd → List Rat) (l : List Nd) (vs : List (List Rat)) (x : Nd) : List Rat :=
  if namedOp x.op = true then bd x else valO (opcOf x.op) x.shape x.k x.n x.data (shAt l x.a) (vs[x.a.toNat]?.getD []) (shAt l x.b) (vs[x.b.toNat]?.getD [])
noncomputable def vals (bd : Nd → List Rat) (l : List Nd) : Nat → List (List Rat)
  | 0 => []
  | i + 1 => match l[i]? with
    | none => vals bd l i
    | some x => vals bd l i ++ [valN bd l (vals bd l i) x]
theorem vals_step {bd : Nd → List Rat} {l : List Nd} {i : Nat} {x : Nd} (h : l[i]? = some x) : vals bd l (i + 1) = vals bd l i ++ [valN bd l (vals bd l i) x] := by simp only [vals, h]
theorem vals_len {bd : Nd → List Rat} {l : List Nd} : ∀ i, i ≤ l.length → (vals bd l i).length = i
  | 0, _ => rfl
  | i + 1, h => by rw [vals_step (List.getElem?_eq_getElem (by omega)), List.length_append, vals_len i (by omega)]; rfl
theorem vals_take {bd : Nd → List Rat} {l : List Nd} {i : Nat} : ∀ {j : Nat}, i ≤ j → j ≤ l.length → vals bd l i = (vals bd l j).take i
  | 0, h, _ => by obtain rfl : i = 0 := by omega
                  rfl
  | j + 1, h, hj => by
    rcases Nat.lt_or_ge j i with h1 | h1
    · obtain rfl : i = j + 1 := by omega
      rw [List.take_of_length_le (by rw [vals_len _ hj]; exact Nat.le_refl _)]
    · rw [vals_step (List.getElem?_eq_getElem (by omega)), List.take_append_of_le_length (by rw [vals_len _ (by omega)]; exact h1)]
      exact vals_take h1 (by omega)
noncomputable def valAt (bd : Nd → List Rat) (l : List Nd) (j : Nat) : List Rat := (vals bd l l.length)[j]?.getD []
theorem valAt_eq {bd : Nd → List Rat} {l : List Nd} {j : Nat} {x : Nd} (hx : l[j]? = some x) : valAt bd l j = valN bd l (vals bd l j) x := by
  have h := (List.getElem?_eq_some_iff.1 hx).1
  have h1 := vals_take (bd := bd) (l := l) (i := j + 1) (j := l.length) (by omega) (Nat.le_refl _)
  have h2 : (vals bd l (j + 1))[j]? = some (valN bd l (vals bd l j) x) := by
    have := vals_len (bd := bd) (l := l) j (by omega)
    rw [vals_step hx, List.getElem?_append_right (by omega), this, Nat.sub_self]; rfl
  rw [h1, List.getElem?_take_of_lt (by omega)] at h2
  rw [valAt, h2]; rfl
theorem vals_at {bd : Nd → List Rat} {l : List Nd} {p j : Nat} (hp : p < j) (hj : j ≤ l.length) : (vals bd l j)[(p : Int).toNat]?.getD [] = valAt bd l p := by
  rw [Int.toNat_natCast, valAt, vals_take hj (Nat.le_refl _), List.getElem?_take_of_lt hp]
theorem shAt_take {l : List Nd} {p j : Nat} (hp : p < j) : shAt (l.take j) (p : Nat) = shAt l (p : Nat) := by
  rw [shAt, shAt, Int.toNat_natCast, List.getElem?_take_of_lt hp]
theorem FitV.any {o : Opc} {s : List Int} {k : ByteArray} {n : Int} {d : List ByteArray} {sa sa' : List Int} {a a' : List Rat} {sb sb' : List Int} {b b' r : List Rat} (h : FitV o s k n d sa a sb b r)
    (ha : 0 < o.many → sa' = sa ∧ a' = a) (hb : 1 < o.many → sb' = sb ∧ b' = b) : FitV o s k n d sa' a' sb' b' r := by
  cases h <;> (first | (have e := ha (by decide); obtain ⟨rfl, rfl⟩ := e) | skip) <;> (first | (have e := hb (by decide); obtain ⟨rfl, rfl⟩ := e) | skip) <;> constructor <;> assumption
def GoodV (bd : Nd → List Rat) (l : List Nd) : Prop := ∀ (j : Nat) (x : Nd) (o : Opc), l[j]? = some x → x.op = o.str → namedOp x.op = false → ∀ (sa : List Int) (a : List Rat) (sb : List Int) (b : List Rat),
  (0 < o.many → sa = shAt l x.a ∧ a = valAt bd l x.a.toNat) → (1 < o.many → sb = shAt l x.b ∧ b = valAt bd l x.b.toNat) → FitV o x.shape x.k x.n x.data sa a sb b (valAt bd l j)
structure Hi (bd : Nd → List Rat) (l : List Nd) (c : Nat) (j : Nat) (x : Nd) : Prop where
  ok : okShape x.shape = true
  len : (((valAt bd l j).length : Nat) : Int) = prodZ x.shape
  mm : ∀ y ∈ valAt bd l j, MM y ≤ 10 ^ (c * (wAt l j).toNat)
structure Given (bd : Nd → List Rat) (l : List Nd) (c : Nat) : Prop where
  two : 2 ≤ c
  right : ∀ i x, l[i]? = some x → inferN (l.take i) x = some x.shape
  data : ∀ x ∈ l, ∀ d ∈ x.data, ratOK d = true → MM (ratV d) ≤ 10 ^ c
  k : ∀ x ∈ l, ratOK x.k = true → MM (ratV x.k) ≤ 10 ^ c
  ks : ∀ x ∈ l, x.k.size ≤ 1000
  bdl : ∀ x ∈ l, namedOp x.op = true → (((bd x).length : Nat) : Int) = prodZ x.shape
  bdm : ∀ x ∈ l, namedOp x.op = true → ∀ y ∈ bd x, MM y ≤ 10 ^ c
  w : ∀ j, j < l.length → (c : Int) * wAt l j ≤ 400
theorem infer_ok {l : List Nd} {x : Nd} {o : Opc} (ho : x.op = o.str) (h : inferN l x = some x.shape) : Fit l x o.many ∧ okZ (ofZ x (if o.many = 0 then [] else shAt l x.a) (if o.many < 2 then [] else shAt l x.b)) = some x.shape := by
  have hp : opParts x.op = some o.many := by rw [ho, opc_many]
  cases hf : fitN l x o.many with
  | false => rw [inferN_bad hp hf] at h; cases h
  | true => rw [inferN_ok hp hf] at h; exact ⟨(fit_iff _ _ _).1 hf, h⟩
theorem c_mul {c : Nat} {w v : Int} (h : w ≤ v) (hv : (c : Int) * v ≤ 400) : (c : Int) * w ≤ 400 := Int.le_trans (Int.mul_le_mul_of_nonneg_left h (by omega)) hv
theorem exp_w {o : Opc} {n : Int} {sa : List Int} {m c wa wb : Nat} {A B : Int} {name : ByteArray} {s : List Int} {k : ByteArray} {d : List ByteArray} {sb : List Int}
    (hz : okZ (ofZ ⟨o.str, A, B, name, s, k, n, d⟩ sa sb) = some s) (hok : 0 < o.many → okShape sa = true) (hm : 0 < o.many → (m : Int) = prodZ sa) (h1 : 1 ≤ wa) (h2 : 1 ≤ c) :
    expO o n sa m (c * wa) (c * wb) c c ≤ c * (wRawO o (wa : Nat) (wb : Nat) sa n).toNat := by
  have hx : ∀ {p q : Nat}, p = q → c * p ≤ c * q := fun h => Nat.mul_le_mul_left c (Nat.le_of_eq h)
  cases o
  case sum =>
    show m * (c * wa) ≤ c * (manyZ sa * (wa : Nat)).toNat
    rw [manyZ_ok (hok (by decide)), ← hm (by decide), Nat.mul_left_comm]
    exact hx (by rw [← Int.natCast_mul, Int.toNat_natCast])
  case matmul =>
    obtain ⟨hz, _⟩ := okZ_some hz
    have h2 : sa.length = 2 := by
      by_cases h : sa.length = 2 ∧ sb.length = 2 ∧ sa[1]? = sb[0]?
      · exact h.1
      · rw [show ofZ ⟨Opc.str .matmul, A, B, name, s, k, n, d⟩ sa sb = _ from matmul_not h] at hz
        cases hz
    obtain ⟨p, q, rfl⟩ := two_of h2
    have hq := okShape_dim (hok (by decide)) q (by simp)
    obtain ⟨q, rfl⟩ : ∃ m : Nat, q = m := ⟨q.toNat, by omega⟩
    show (q : Int).toNat * (c * wa + c * wb) ≤ c * (betw (q : Nat) 64 * ((wa : Nat) + (wb : Nat) : Int)).toNat
    rw [betw_eq hq.1 hq.2, ← Nat.mul_add, Int.toNat_natCast, Nat.mul_left_comm]
    exact hx (by rw [← Int.natCast_add, ← Int.natCast_mul, Int.toNat_natCast])
  case power =>
    obtain ⟨hz, _⟩ := okZ_some hz
    rw [show ofZ ⟨Opc.str .power, A, B, name, s, k, n, d⟩ sa sb = (sa, decide (0 ≤ n) && decide (n ≤ 6)) from rfl] at hz
    have hn := congrArg Prod.snd hz
    simp only [Bool.and_eq_true, decide_eq_true_eq] at hn
    obtain ⟨n, rfl⟩ : ∃ m : Nat, n = m := ⟨n.toNat, by omega⟩
    have e : betw (n : Nat) 6 = ((max 1 n : Nat) : Int) := by
      unfold betw
      split
      · omega
      · rw [if_neg (by omega)]; omega
    show c * wa * max 1 ((n : Int).toNat) ≤ c * ((wa : Nat) * betw (n : Nat) 6 : Int).toNat
    rw [e, Nat.mul_assoc, Int.toNat_natCast]
    exact hx (by rw [← Int.natCast_mul, Int.toNat_natCast])
  all_goals dsimp only [expO, wRawO]
  all_goals first
    | (rw [← Nat.mul_add]; exact hx (by omega))
    | exact hx (by omega)
    | (rw [show c * wa + c = c * (wa + 1) from rfl]; exact hx (by omega))
    | (show 1 ≤ c * 1; omega)
    | (exact Nat.le_of_eq (Nat.mul_one c).symm)
theorem part_of {l : List Nd} {j : Nat} {p : Int} (h : inR p (l.take j) = true) : ∃ q : Nat, p = q ∧ q < j ∧ q < l.length := by
  obtain ⟨q, hq, hl⟩ := inR_nat h
  rw [List.length_take] at hl
  exact ⟨q, hq, by omega, by omega⟩
theorem wRawO_any {o : Opc} {xa xa' xb xb' : Int} {s s' : List Int} {n : Int} (ha : 0 < o.many → xa = xa' ∧ s = s') (hb : 1 < o.many → xb = xb') : wRawO o xa xb s n = wRawO o xa' xb' s' n := by
  cases o <;> (first | (have e := ha (by decide); obtain ⟨rfl, rfl⟩ := e) | skip) <;> (first | (have e := hb (by decide); obtain rfl := e) | skip) <;> rfl
theorem valO_any {o : Opc} {s : List Int} {k : ByteArray} {n : Int} {d : List ByteArray} {sa sa' : List Int} {a a' : List Rat} {sb sb' : List Int} {b b' : List Rat}
    (ha : 0 < o.many → sa = sa' ∧ a = a') (hb : 1 < o.many → sb = sb' ∧ b = b') : valO o s k n d sa a sb b = valO o s k n d sa' a' sb' b' := by
  cases o <;> (first | (have e := ha (by decide); obtain ⟨rfl, rfl⟩ := e) | skip) <;> (first | (have e := hb (by decide); obtain ⟨rfl, rfl⟩ := e) | skip) <;> rfl
theorem betw_le {n : Int} (h : betw n 100000 ≤ 400) : n ≤ betw n 100000 := by
  unfold betw at h ⊢
  split at h
  · rw [if_pos (by assumption)]; omega
  · split at h
    · omega
    · rw [if_neg (by assumption), if_neg (by assumption)]; exact Int.le_refl _
theorem hi_step {bd : Nd → List Rat} {l : List Nd} {c : Nat} (G : Given bd l c) {j : Nat} {x : Nd} {o : Opc} (ho : x.op = o.str) (hx : l[j]? = some x) (ih : ∀ p y, p < j → l[p]? = some y → Hi bd l c p y) :
    Hi bd l c j x ∧ (namedOp x.op = false → FitV o x.shape x.k x.n x.data (if o.many = 0 then [] else shAt l x.a) (if o.many = 0 then [] else valAt bd l x.a.toNat) (if o.many < 2 then [] else shAt l x.b) (if o.many < 2 then [] else valAt bd l x.b.toNat) (valAt bd l j)) := by
  have hj := (List.getElem?_eq_some_iff.1 hx).1
  have hmem : x ∈ l := List.mem_of_getElem? hx
  have hin := G.right j x hx
  obtain ⟨F, hz⟩ := infer_ok ho hin
  have hwj := wAt_in l j
  have hcw := G.w j hj
  have h2 := G.two
  have e0 := valAt_eq (bd := bd) hx
  cases hnm : namedOp x.op with
  | true =>
    have hok : okShape x.shape = true := (okZ_some hz).2
    have e1 : valAt bd l j = bd x := by rw [e0, valN, hnm, if_pos rfl]
    refine ⟨⟨hok, by rw [e1]; exact G.bdl x hmem hnm, fun y hy => ?_⟩, fun h => absurd h (by simp)⟩
    rw [e1] at hy
    exact Nat.le_trans (G.bdm x hmem hnm y hy) (ten_mono (Nat.le_mul_of_pos_right _ (by omega)))
  | false =>
    have hpa : 0 < o.many → ∃ q : Nat, x.a = q ∧ q < j ∧ q < l.length := fun h => part_of (F.ia h)
    have hpb : 1 < o.many → ∃ q : Nat, x.b = q ∧ q < j ∧ q < l.length := fun h => part_of (F.ib h)
    have ea : (if o.many = 0 then [] else shAt (l.take j) x.a) = if o.many = 0 then [] else shAt l x.a := by
      rcases Nat.eq_zero_or_pos o.many with h | h
      · rw [if_pos h, if_pos h]
      · obtain ⟨q, hq, h3, _⟩ := hpa h
        rw [if_neg (by omega), if_neg (by omega), hq, shAt_take h3]
    have eb : (if o.many < 2 then [] else shAt (l.take j) x.b) = if o.many < 2 then [] else shAt l x.b := by
      rcases Nat.lt_or_ge o.many 2 with h | h
      · rw [if_pos h, if_pos h]
      · obtain ⟨q, hq, h3, _⟩ := hpb h
        rw [if_neg (by omega), if_neg (by omega), hq, shAt_take h3]
    rw [ea, eb] at hz
    clear ea eb
    have hsw : 0 < o.many → wShape l j x = shAt l x.a := fun h => by
      obtain ⟨q, hq, h3, _⟩ := hpa h
      rw [wShape, hq, if_pos ⟨by omega, by omega⟩]
    have hc1 : c * 1 ≤ 400 := by
      have := c_mul hwj.1 hcw
      omega
    obtain ⟨wa, hwa1, hwa2, hwa3, hwa4⟩ : ∃ wa : Nat, 1 ≤ wa ∧ c * wa ≤ 400 ∧ (0 < o.many → (wa : Int) = wAt l x.a.toNat) ∧ (0 < o.many → partZw (wList l j) x.a = (wa : Int)) := by
      by_cases hm : 0 < o.many
      · obtain ⟨q, hq, h3, h4⟩ := hpa hm
        have h := wAt_in l q
        have hw := G.w q h4
        refine ⟨(wAt l q).toNat, by omega, ?_, fun _ => ?_, fun _ => ?_⟩
        · have e : ((wAt l q).toNat : Int) = wAt l q := Int.toNat_of_nonneg (by omega)
          rw [← e, ← Int.natCast_mul] at hw; omega
        · rw [hq, Int.toNat_natCast]; exact Int.toNat_of_nonneg (by omega)
        · rw [hq, partZw_at h3 (by omega)]; exact (Int.toNat_of_nonneg (by omega)).symm
      · exact ⟨1, Nat.le_refl _, hc1, fun h => absurd h hm, fun h => absurd h hm⟩
    obtain ⟨wb, hwb1, hwb2, hwb3, hwb4⟩ : ∃ wb : Nat, 1 ≤ wb ∧ c * wb ≤ 400 ∧ (1 < o.many → (wb : Int) = wAt l x.b.toNat) ∧ (1 < o.many → partZw (wList l j) x.b = (wb : Int)) := by
      by_cases hm : 1 < o.many
      · obtain ⟨q, hq, h3, h4⟩ := hpb hm
        have h := wAt_in l q
        have hw := G.w q h4
        refine ⟨(wAt l q).toNat, by omega, ?_, fun _ => ?_, fun _ => ?_⟩
        · have e : ((wAt l q).toNat : Int) = wAt l q := Int.toNat_of_nonneg (by omega)
          rw [← e, ← Int.natCast_mul] at hw; omega
        · rw [hq, Int.toNat_natCast]; exact Int.toNat_of_nonneg (by omega)
        · rw [hq, partZw_at h3 (by omega)]; exact (Int.toNat_of_nonneg (by omega)).symm
      · exact ⟨1, Nat.le_refl _, hc1, fun h => absurd h hm, fun h => absurd h hm⟩
    have hw0 := wAt_eq hx
    rw [ho, wRaw_str, wRawO_any (xa' := (wa : Int)) (xb' := (wb : Int)) (s' := if o.many = 0 then [] else shAt l x.a) (fun h => ⟨hwa4 h, by rw [if_neg (by omega), hsw h]⟩) hwb4] at hw0
    have A1 : 0 < o.many → VT (shAt l x.a) (valAt bd l x.a.toNat) ∧ ∀ y ∈ valAt bd l x.a.toNat, MM y ≤ 10 ^ (c * wa) := fun h => by
      obtain ⟨q, hq, h3, h4⟩ := hpa h
      have H := ih q l[q] h3 (List.getElem?_eq_getElem h4)
      have hww := hwa3 h
      rw [hq] at hww ⊢
      rw [Int.toNat_natCast] at hww ⊢
      rw [shAt_nat h4]
      have e : (wAt l q).toNat = wa := by omega
      have hm := H.mm
      rw [e] at hm
      exact ⟨⟨H.ok, H.len, fun y hy => RS_of (hm y hy) (by omega)⟩, hm⟩
    have B1 : 1 < o.many → VT (shAt l x.b) (valAt bd l x.b.toNat) ∧ ∀ y ∈ valAt bd l x.b.toNat, MM y ≤ 10 ^ (c * wb) := fun h => by
      obtain ⟨q, hq, h3, h4⟩ := hpb h
      have H := ih q l[q] h3 (List.getElem?_eq_getElem h4)
      have hww := hwb3 h
      rw [hq] at hww ⊢
      rw [Int.toNat_natCast] at hww ⊢
      rw [shAt_nat h4]
      have e : (wAt l q).toNat = wb := by omega
      have hm := H.mm
      rw [e] at hm
      exact ⟨⟨H.ok, H.len, fun y hy => RS_of (hm y hy) (by omega)⟩, hm⟩
    have hval : valAt bd l j = valO o x.shape x.k x.n x.data (if o.many = 0 then [] else shAt l x.a) (if o.many = 0 then [] else valAt bd l x.a.toNat) (if o.many < 2 then [] else shAt l x.b) (if o.many < 2 then [] else valAt bd l x.b.toNat) := by
      rw [e0, valN, hnm, if_neg (by simp), ho, opcOf_str]
      refine valO_any (fun h => ?_) (fun h => ?_)
      · obtain ⟨q, hq, h3, h4⟩ := hpa h
        rw [if_neg (by omega), if_neg (by omega), hq, vals_at h3 (by omega), Int.toNat_natCast]
        exact ⟨rfl, rfl⟩
      · obtain ⟨q, hq, h3, h4⟩ := hpb h
        rw [if_neg (by omega), if_neg (by omega), hq, vals_at h3 (by omega), Int.toNat_natCast]
        exact ⟨rfl, rfl⟩
    clear e0 hpa hpb hsw ih
    have A2 : 0 < o.many → VT (if o.many = 0 then [] else shAt l x.a) (if o.many = 0 then [] else valAt bd l x.a.toNat) := fun h => by rw [if_neg (by omega), if_neg (by omega)]; exact (A1 h).1
    have A3 : ∀ y ∈ (if o.many = 0 then [] else valAt bd l x.a.toNat), MM y ≤ 10 ^ (c * wa) := fun y hy => by
      rcases Nat.eq_zero_or_pos o.many with h | h
      · rw [if_pos h] at hy; simp at hy
      · rw [if_neg (by omega)] at hy; exact (A1 h).2 y hy
    have B2 : 1 < o.many → VT (if o.many < 2 then [] else shAt l x.b) (if o.many < 2 then [] else valAt bd l x.b.toNat) := fun h => by rw [if_neg (by omega), if_neg (by omega)]; exact (B1 h).1
    have B3 : ∀ y ∈ (if o.many < 2 then [] else valAt bd l x.b.toNat), MM y ≤ 10 ^ (c * wb) := fun y hy => by
      rcases Nat.lt_or_ge o.many 2 with h | h
      · rw [if_pos h] at hy; simp at hy
      · rw [if_neg (by omega)] at hy; exact (B1 (by omega)).2 y hy
    have A4 : (if o.many = 0 then [] else valAt bd l x.a.toNat).length ≤ 64 := by
      rcases Nat.eq_zero_or_pos o.many with h | h
      · rw [if_pos h]; decide
      · exact (A2 h).vl.2
    generalize (if o.many = 0 then [] else shAt l x.a) = sa at *
    generalize (if o.many = 0 then [] else valAt bd l x.a.toNat) = a at *
    generalize (if o.many < 2 then [] else shAt l x.b) = sb at *
    generalize (if o.many < 2 then [] else valAt bd l x.b.toNat) = b at *
    have hdat := G.data x hmem
    have hk := G.k x hmem
    have hks := G.ks x hmem
    obtain ⟨op, A, B, name, s, k, n, d⟩ := x
    dsimp only at *
    subst ho
    have hexp := exp_w (m := a.length) (c := c) (wa := wa) (wb := wb) hz (fun h => (A2 h).ok) (fun h => (A2 h).len) hwa1 (by omega)
    have hle : (wRawO o (wa : Nat) (wb : Nat) sa n).toNat ≤ (wAt l j).toNat := by
      have h3 : wAt l j ≤ 400 := by
        have := Int.mul_le_mul_of_nonneg_right (show (1 : Int) ≤ c by omega) (show 0 ≤ wAt l j by omega)
        omega
      have := betw_le (n := wRawO o (wa : Nat) (wb : Nat) sa n) (by rw [← hw0]; exact h3)
      rw [← hw0] at this
      omega
    have hle2 : c * (wAt l j).toNat ≤ 400 := by
      have e : ((wAt l j).toNat : Int) = wAt l j := Int.toNat_of_nonneg (by omega)
      rw [← e, ← Int.natCast_mul] at hcw; omega
    have hexp2 := Nat.le_trans hexp (Nat.mul_le_mul_left c hle)
    have R := fit_of (o := o) (A := A) (B := B) (name := name) (s := s) (k := k) (n := n) (d := d) hnm hz A2 B2 ⟨A3, by have := Nat.mul_le_mul h2 hwa1; omega⟩ ⟨B3, by have := Nat.mul_le_mul h2 hwb1; omega⟩
      (by omega) (by omega) hk hks hdat (sum_pow 25600 A3 (Nat.le_trans (Nat.mul_le_mul A4 hwa2) (by decide)) (by decide) (by decide)) (by omega) (by omega) (by omega)
    rw [← hval] at R
    refine ⟨⟨(okZ_some hz).2, R.2.2, fun y hy => Nat.le_trans (R.2.1 y hy) (ten_mono hexp2)⟩, fun _ => R.1⟩
theorem opc_of {l : List Nd} {x : Nd} {s : List Int} (h : inferN l x = some s) : ∃ o : Opc, x.op = o.str := by
  rcases opc_cases x.op with h1 | h1
  · exact h1
  · rw [inferN_none h1] at h; cases h
theorem hi_all {bd : Nd → List Rat} {l : List Nd} {c : Nat} (G : Given bd l c) : ∀ (j : Nat) (x : Nd), l[j]? = some x → Hi bd l c j x := fun j => by
  induction j using Nat.strongRecOn with
  | _ j ih =>
    intro x hx
    obtain ⟨o, ho⟩ := opc_of (G.right j x hx)
    exact (hi_step G ho hx fun p y hp hy => ih p hp y hy).1
theorem good_of {bd : Nd → List Rat} {l : List Nd} {c : Nat} (G : Given bd l c) : GoodV bd l := fun j x o hx ho hn sa a sb b ha hb => by
  refine ((hi_step G ho hx fun p y _ hy => hi_all G p y hy).2 hn).any (fun h => ?_) (fun h => ?_)
  · rw [if_neg (by omega), if_neg (by omega)]; exact ha h
  · rw [if_neg (by omega), if_neg (by omega)]; exact hb h
end Go.V
namespace Go.V
open Go.N
set_option maxRecDepth 20000
section
variable {bd : Nd → List Rat} {l : List Nd}
end
theorem partsN_str (o : Opc) : partsN o.str = o.many := by rw [partsN, opc_many]; rfl
theorem ok_opc {g : Gr} (h : grOK g = true) {i : Nat} {x : Nd} (hx : g.nodes[i]? = some x) : ∃ o : Opc, x.op = o.str ∧ Fit (g.nodes.take i) x o.many := by
  have h1 := ok_infer h hx
  obtain ⟨o, ho⟩ := opc_of h1
  exact ⟨o, ho, (infer_ok ho h1).1⟩
theorem ok_named {g : Gr} (h : grOK g = true) {i : Nat} {x : Nd} (hx : g.nodes[i]? = some x) : x.name = ⟨#[]⟩ ↔ namedOp x.op = false := by
  obtain ⟨o, ho, F⟩ := ok_opc h hx
  constructor
  · intro e
    cases hn : namedOp x.op
    · rfl
    · have := F.nm hn
      rw [e, isName_empty] at this; cases this
  · exact F.nn
theorem ok_leaf {g : Gr} (h : grOK g = true) {i : Nat} {x : Nd} (hx : g.nodes[i]? = some x) (hn : namedOp x.op = false) (hp : partsN x.op = 0) : x.op = sConst := by
  obtain ⟨o, ho, F⟩ := ok_opc h hx
  rw [ho] at hn hp ⊢
  rw [partsN_str] at hp
  cases o <;> first | rfl | (exact absurd hp (by decide)) | (exact absurd hn (by decide))
section
variable {bd : Nd → List Rat} {g : Gr}
end
end Go.V
namespace Go.V
open Go.N
set_option maxRecDepth 20000
structure Bd where
  name : ByteArray
  shape : List Int
  data : List ByteArray
def Bd.cells (b : Bd) : List AV := [.str b.name, .ro 1 (rowZ b.shape), .ro 1 (rowS b.data)]
def rowBd (l : List Bd) : List (List AV) := l.map Bd.cells
theorem rowBd_length (l : List Bd) : (rowBd l).length = l.length := by simp [rowBd]
theorem rowBd_get {l : List Bd} {k : Nat} (h : k < l.length) : (rowBd l)[k]? = some l[k].cells := by simp [rowBd, h]
structure Bd.Sm (b : Bd) : Prop where
  name : b.name.size ≤ 1000
  shape : b.shape.length ≤ 1000
  data : b.data.length ≤ 1000
  each : ∀ d ∈ b.data, d.size ≤ 1000
theorem fmax_ge {α : Type} (f : α → Nat) : ∀ (l : List α) (b : Nat), b ≤ l.foldl (fun n x => max n (f x)) b ∧ ∀ x ∈ l, f x ≤ l.foldl (fun n x => max n (f x)) b
  | [], b => ⟨Nat.le_refl _, fun x hx => by simp at hx⟩
  | y :: l, b => by
    rw [List.foldl_cons]
    have h := fmax_ge f l (max b (f y))
    refine ⟨by omega, fun x hx => ?_⟩
    rcases List.mem_cons.1 hx with rfl | hx
    · omega
    · exact h.2 x hx
theorem fmax_le {α : Type} (f : α → Nat) {m : Nat} : ∀ (l : List α) (b : Nat), b ≤ m → (∀ x ∈ l, f x ≤ m) → l.foldl (fun n x => max n (f x)) b ≤ m
  | [], b, h, _ => h
  | y :: l, b, h, hx => by
    rw [List.foldl_cons]
    have := hx y List.mem_cons_self
    exact fmax_le f l _ (by omega) fun x h => hx x (List.mem_cons_of_mem _ h)
theorem lngN_fmax (l : List ByteArray) : lngN l = l.foldl (fun n x => max n x.size) 1 := by
  unfold lngN
  congr 1
  funext n x
  split <;> omega
theorem lngN_ge {l : List ByteArray} {x : ByteArray} (h : x ∈ l) : x.size ≤ lngN l := by rw [lngN_fmax]; exact (fmax_ge ByteArray.size l 1).2 x h
theorem lngN_le {l : List ByteArray} {m : Nat} (h1 : 1 ≤ m) (h : ∀ x ∈ l, x.size ≤ m) : lngN l ≤ m := by rw [lngN_fmax]; exact fmax_le ByteArray.size l 1 h1 h
def calmS (l : List Nd) : Nat := l.foldl (fun n x => max n (max (lngN x.data) x.k.size)) 1
def calmB (n : Nat) (bs : List Bd) : Nat := bs.foldl (fun n b => max n (lngN b.data)) n
theorem calmS_step {l : List Nd} {i : Nat} (h : i < l.length) : calmS (l.take (i + 1)) = max (calmS (l.take i)) (max (lngN l[i].data) l[i].k.size) := by
  rw [calmS, List.take_succ_eq_append_getElem h, List.foldl_append]; rfl
theorem calmB_step (n : Nat) {l : List Bd} {i : Nat} (h : i < l.length) : calmB n (l.take (i + 1)) = max (calmB n (l.take i)) (lngN l[i].data) := by
  rw [calmB, List.take_succ_eq_append_getElem h, List.foldl_append]; rfl
theorem calmS_in {l : List Nd} (h : ∀ x ∈ l, x.Sm) : 1 ≤ calmS l ∧ calmS l ≤ 1000 := by
  refine ⟨(fmax_ge (fun x : Nd => max (lngN x.data) x.k.size) l 1).1, fmax_le (fun x : Nd => max (lngN x.data) x.k.size) l 1 (by decide) fun x hx => ?_⟩
  have h1 := (h x hx).k
  have h2 := lngN_le (m := 1000) (by decide) (h x hx).each
  omega
theorem calmB_in {n : Nat} {l : List Bd} (h : ∀ x ∈ l, x.Sm) (hn : n ≤ 1000) : n ≤ calmB n l ∧ calmB n l ≤ 1000 := by
  refine ⟨(fmax_ge (fun x : Bd => lngN x.data) l n).1, fmax_le (fun x : Bd => lngN x.data) l n hn fun x hx => lngN_le (m := 1000) (by decide) (h x hx).each⟩
def calmZ (l : List Nd) (bs : List Bd) : Int := (calmB (calmS l) bs : Nat) * (2 * maxL (wList l l.length))
def zerosR (s : List Int) : List Rat := List.replicate (prodZ s).toNat 0
noncomputable def bdB (bs : List Bd) (x : Nd) : List Rat := match bs.find? fun b => decide (b.name = x.name) with
  | some b => if okT b.shape b.data = true ∧ b.shape = x.shape then b.data.map ratV else zerosR x.shape
  | none => zerosR x.shape
theorem MM_text {d : ByteArray} {n : Nat} (h : d.size ≤ n) (hr : ratOK d = true) : MM (ratV d) ≤ 10 ^ (2 * n) := MM_size (by rw [ratB_ratV hr]; exact h)
theorem okT_iff {s : List Int} {l : List ByteArray} : okT s l = true ↔ okShape s = true ∧ (l.length : Int) = sizeZ s ∧ ∀ d ∈ l, ratOK d = true := by
  simp only [okT, Bool.and_eq_true, decide_eq_true_eq, Bool.not_eq_true', List.any_eq_false]
  constructor
  · rintro ⟨h1, h2, h3⟩; exact ⟨h1, h2, fun d hd => by have := h3 d hd; simpa using this⟩
  · rintro ⟨h1, h2, h3⟩; exact ⟨h1, h2, fun d hd => by simp [h3 d hd]⟩
theorem calm_given {g : Gr} (hg : grOK g = true) (hsm : ∀ x ∈ g.nodes, x.Sm) (bs : List Bd) (hbs : ∀ b ∈ bs, b.Sm) (hc : calmZ g.nodes bs ≤ 400) : Given (bdB bs) g.nodes (2 * calmB (calmS g.nodes) bs) := by
  have hS := calmS_in hsm
  have hB := calmB_in (l := bs) hbs hS.2
  have hnode : ∀ x ∈ g.nodes, max (lngN x.data) x.k.size ≤ calmS g.nodes := (fmax_ge (fun x : Nd => max (lngN x.data) x.k.size) g.nodes 1).2
  have hbind : ∀ b ∈ bs, lngN b.data ≤ calmB (calmS g.nodes) bs := (fmax_ge (fun x : Bd => lngN x.data) bs (calmS g.nodes)).2
  unfold calmZ at hc
  generalize calmB (calmS g.nodes) bs = n at *
  have hoks : ∀ x ∈ g.nodes, okShape x.shape = true := fun x hx => by
    obtain ⟨i, hi⟩ := List.mem_iff_getElem?.1 hx
    obtain ⟨o, ho⟩ := opc_of (ok_infer hg hi)
    exact (okZ_some (infer_ok ho (ok_infer hg hi)).2).2
  have hz : ∀ x ∈ g.nodes, ((((zerosR x.shape).length : Nat) : Int) = prodZ x.shape) ∧ ∀ y ∈ zerosR x.shape, MM y ≤ 10 ^ (2 * n) := fun x hx => by
    have := prodZ_ok (hoks x hx)
    refine ⟨by rw [zerosR, List.length_replicate]; omega, fun y hy => ?_⟩
    rw [List.eq_of_mem_replicate hy, MM_zero]
    exact ten_two (by omega)
  have hb : ∀ x ∈ g.nodes, ((((bdB bs x).length : Nat) : Int) = prodZ x.shape) ∧ ∀ y ∈ bdB bs x, MM y ≤ 10 ^ (2 * n) := fun x hx => by
    unfold bdB
    split
    · rename_i b hf
      split
      · rename_i h
        obtain ⟨h1, h2, h3⟩ := okT_iff.1 h.1
        have hmem := List.mem_of_find?_eq_some hf
        refine ⟨by rw [List.length_map, h2, sizeZ_ok h1, h.2], fun y hy => ?_⟩
        obtain ⟨d, hd, rfl⟩ := List.mem_map.1 hy
        exact MM_text (Nat.le_trans (lngN_ge hd) (hbind b hmem)) (h3 d hd)
      · exact hz x hx
    · exact hz x hx
  refine ⟨by omega, fun i x hx => ok_infer hg hx, fun x hx d hd hr => ?_, fun x hx hr => ?_, fun x hx => (hsm x hx).k, fun x hx _ => (hb x hx).1, fun x hx _ => (hb x hx).2, fun j hj => ?_⟩
  · have h1 := hnode x hx
    have h2 := lngN_ge hd
    exact MM_text (by omega) hr
  · have h1 := hnode x hx
    exact MM_text (by omega) hr
  · have h1 := wAt_max g.nodes j
    have h2 : ((n : Nat) : Int) * (2 * wAt g.nodes j) ≤ 400 := Int.le_trans (Int.mul_le_mul_of_nonneg_left (by omega) (by omega)) hc
    rw [Int.natCast_mul, Int.mul_comm (2 : Nat) (n : Int), Int.mul_assoc]
    exact h2
theorem calm_good {g : Gr} (hg : grOK g = true) (hsm : ∀ x ∈ g.nodes, x.Sm) (bs : List Bd) (hbs : ∀ b ∈ bs, b.Sm) (hc : calmZ g.nodes bs ≤ 400) : GoodV (bdB bs) g.nodes := good_of (calm_given hg hsm bs hbs hc)
end Go.V
namespace Go.V
open Go.N
set_option maxRecDepth 20000
def T_r12_Calm : Tab := [(24, i24), (22, i22), (36, i36), (3, i3), (34, i34), (9, i9), (49, i49), (65, i65), (40, i40)]
theorem TOK_r12_Calm : TOK Go.Proofs.Tryz.prog T_r12_Calm := ⟨K24, ⟨K22, ⟨K36, ⟨K3, ⟨K34, ⟨K9, ⟨K49, ⟨K65, ⟨K40, trivial⟩⟩⟩⟩⟩⟩⟩⟩⟩
def T_r12_Small : Tab := [(49, i49), (65, i65), (3, i3), (40, i40), (4, i4), (9, i9)]
theorem TOK_r12_Small : TOK Go.Proofs.Tryz.prog T_r12_Small := ⟨K49, ⟨K65, ⟨K3, ⟨K40, ⟨K4, ⟨K9, trivial⟩⟩⟩⟩⟩⟩
theorem calmS_pre {l : List Nd} (h : ∀ x ∈ l, x.Sm) (i : Nat) : 1 ≤ calmS (l.take i) ∧ calmS (l.take i) ≤ 1000 := calmS_in fun x hx => h x (List.mem_of_mem_take hx)
set_option maxHeartbeats 4000000 in
theorem c_Calm (l : List Nd) (p : Int) (bs : List Bd) (hl : l.length ≤ 1000) (hsm : ∀ x ∈ l, x.Sm) (hbl : bs.length ≤ 1000) (hbs : ∀ b ∈ bs, b.Sm) :
    VCall Go.Proofs.Tryz.prog GL 16 [.agg [.ro 8 (rowN l), .int .i64 p], .ro 3 (rowBd bs), .int .i64 1] (fun y => y = .bool (decide (calmZ l bs ≤ 400))) := by
  have hlr := rowN_length l
  have hbr := rowBd_length bs
  have hD := c_Degree l p hl hsm
  have hDi := maxL_in (wList_in (l := l) l.length (Nat.le_refl _))
  have hZ : calmZ l bs = (calmB (calmS l) bs : Nat) * (2 * maxL (wList l l.length)) := rfl
  generalize calmZ l bs = Z at hZ ⊢
  generalize maxL (wList l l.length) = D at hD hDi hZ
  refine vcall_of TOK_r12_Calm HM Go.Proofs.Tryz.func16 rfl (by decide +kernel) (by decide +kernel) rfl ?_
  repeat' first|refine sY ⟨?_⟩|(refine sq ?_ ?_<;>refine fun h=>⟨?_⟩<;>(first|contradiction|(exfalso;omega)|skip))|fail
  refine ⟨[1, 2, 3, 7, 8], [0], fun m st => ∃ i : Nat, i ≤ l.length ∧ m = l.length - i ∧ st = ⟨[(1, .ro 3 (rowBd bs)), (2, .int .i64 1), (3, .bptr 0 0), (7, .int .i64 ((calmS (l.take i) : Nat) : Int)), (8, .int .i64 (i : Nat))], [.box 24 [.ro 8 (rowN l), .int .i64 p]]⟩, rfl, ⟨l.length, 0, by omega, rfl, rfl⟩, ?_⟩
  rintro m _ ⟨i, hi, hm, rfl⟩
  rcases Nat.lt_or_ge i l.length with hil | hge
  · have g : (rowN l)[i]? = some (l[i]).cells := rowN_get hil
    have hst := calmS_step hil
    have hn := calmS_pre hsm i
    have hx := hsm l[i] (List.getElem_mem hil)
    have hlg := c_longest l[i].data hx.data (fun d hd => Nat.le_trans (hx.each d hd) (by decide))
    have hLb := lngN_le (m := 1000) (by decide) hx.each
    have hkb := hx.k
    clear hx
    generalize l[i] = x at g hst hlg hLb hkb
    obtain ⟨op, a, b, name, shape, k, n, data⟩ := x
    dsimp only at hst hlg hLb hkb
    generalize lngN data = L at hst hlg hLb
    generalize calmS (l.take i) = c at hst hn
    have hb := c_between (c : Nat) 100000
    rw [betw_eq (by omega) (by omega)] at hb
    repeat' first|refine sY ⟨?_⟩|(refine sq ?_ ?_<;>refine fun h=>⟨?_⟩<;>(first|contradiction|(exfalso;omega)|skip))|fail
    all_goals exact ⟨[0], l.length - (i + 1), rfl, by omega, i + 1, by omega, rfl, Eq.trans rfl (congrArg (fun z : Int => (⟨[(1, .ro 3 (rowBd bs)), (2, .int .i64 1), (3, .bptr 0 0), (7, .int .i64 z), (8, .int .i64 ((i + 1 : Nat) : Int))], [.box 24 [.ro 8 (rowN l), .int .i64 p]]⟩ : St)) (by (try dsimp only); rw [hst]; omega))⟩
  · have e : l.take i = l := List.take_of_length_le (by omega)
    rw [e]
    have hS := calmS_in hsm
    generalize calmS l = c at hS hZ
    repeat' first|refine sY ⟨?_⟩|(refine sq ?_ ?_<;>refine fun h=>⟨?_⟩<;>(first|contradiction|(exfalso;omega)|skip))|fail
    refine ⟨[1, 2, 3, 7, 10], [0], fun m st => ∃ i : Nat, i ≤ bs.length ∧ m = bs.length - i ∧ st = ⟨[(1, .ro 3 (rowBd bs)), (2, .int .i64 1), (3, .bptr 0 0), (7, .int .i64 ((calmB c (bs.take i) : Nat) : Int)), (10, .int .i64 (i : Nat))], [.box 24 [.ro 8 (rowN l), .int .i64 p]]⟩, rfl, ⟨bs.length, 0, by omega, rfl, rfl⟩, ?_⟩
    rintro m _ ⟨i, hi, hm, rfl⟩
    have hn := calmB_in (n := c) (l := bs.take i) (fun b hb => hbs b (List.mem_of_mem_take hb)) hS.2
    rcases Nat.lt_or_ge i bs.length with hil | hge
    · have g : (rowBd bs)[i]? = some (bs[i]).cells := rowBd_get hil
      have hst := calmB_step c hil
      have hx := hbs bs[i] (List.getElem_mem hil)
      have hlg := c_longest bs[i].data hx.data (fun d hd => Nat.le_trans (hx.each d hd) (by decide))
      have hLb := lngN_le (m := 1000) (by decide) hx.each
      clear hx
      generalize bs[i] = x at g hst hlg hLb
      obtain ⟨name, shape, data⟩ := x
      dsimp only at hst hlg hLb
      generalize lngN data = L at hst hlg hLb
      generalize calmB c (bs.take i) = e at hst hn
      repeat' first|refine sY ⟨?_⟩|(refine sq ?_ ?_<;>refine fun h=>⟨?_⟩<;>(first|contradiction|(exfalso;omega)|skip))|fail
      all_goals exact ⟨[0], bs.length - (i + 1), rfl, by omega, i + 1, by omega, rfl, Eq.trans rfl (congrArg (fun z : Int => (⟨[(1, .ro 3 (rowBd bs)), (2, .int .i64 1), (3, .bptr 0 0), (7, .int .i64 z), (10, .int .i64 ((i + 1 : Nat) : Int))], [.box 24 [.ro 8 (rowN l), .int .i64 p]]⟩ : St)) (by (try dsimp only); rw [hst]; omega))⟩
    · have e : bs.take i = bs := List.take_of_length_le (by omega)
      rw [e] at hn ⊢
      generalize calmB c bs = n at hn hZ
      have hp : 0 ≤ ((n : Nat) : Int) * (2 * D) ∧ ((n : Nat) : Int) * (2 * D) ≤ 200000000 :=
        ⟨Int.mul_nonneg (by omega) (by omega), Int.le_trans (Int.mul_le_mul (show ((n : Nat) : Int) ≤ 1000 by omega) (show 2 * D ≤ 200000 by omega) (by omega) (by omega)) (by decide)⟩
      repeat' first|refine sY ⟨?_⟩|(refine sq ?_ ?_<;>refine fun h=>⟨?_⟩<;>(first|contradiction|(exfalso;omega)|skip))|fail
      refine ⟨[2, 7, 12, 13], [], fun m st => (m = 1 ∧ st = ⟨[(2, .int .i64 1), (7, .int .i64 (n : Nat)), (12, .int .i64 (2 * D)), (13, .int .i64 0)], []⟩) ∨ (m = 0 ∧ ((n : Nat) : Int) * (2 * D) ≤ 400 ∧ st = ⟨[(2, .int .i64 1), (7, .int .i64 ((n : Nat) * (2 * D))), (12, .int .i64 (2 * D)), (13, .int .i64 1)], []⟩), rfl, ⟨1, .inl ⟨rfl, rfl⟩⟩, ?_⟩
      rintro m _ (⟨hm, rfl⟩ | ⟨hm, h4, rfl⟩)
      · by_cases h4 : ((n : Nat) : Int) * (2 * D) ≤ 400
        · repeat' first|refine sY ⟨?_⟩|(refine sq ?_ ?_<;>refine fun h=>⟨?_⟩<;>(first|contradiction|(exfalso;omega)|skip))|fail
          all_goals exact ⟨[], 0, rfl, by omega, .inr ⟨rfl, h4, rfl⟩⟩
        · rw [show decide (Z ≤ 400) = false from decide_eq_false (by rw [hZ]; exact h4)]
          repeat' first|refine sY ⟨?_⟩|(refine sq ?_ ?_<;>refine fun h=>⟨?_⟩<;>(first|contradiction|(exfalso;omega)|skip))|fail
          all_goals (conv => whnf)
          all_goals rfl
      · rw [show decide (Z ≤ 400) = true from decide_eq_true (by rw [hZ]; exact h4)]
        repeat' first|refine sY ⟨?_⟩|(refine sq ?_ ?_<;>refine fun h=>⟨?_⟩<;>(first|contradiction|(exfalso;omega)|skip))|fail
        all_goals (conv => whnf)
        all_goals rfl
def smallBd (b : Bd) : Bool := smallT b.shape b.data && decide (b.name.size ≤ 30)
def smallBs (l : List Bd) : Bool := decide (l.length ≤ 12) && l.all smallBd
theorem smallBd_sm {b : Bd} (h : smallBd b = true) : b.Sm := by
  simp only [smallBd, smallT, Bool.and_eq_true, decide_eq_true_eq, List.all_eq_true] at h
  exact ⟨by omega, by omega, by omega, fun d hd => by have := h.1.2.2 d hd; omega⟩
theorem smallBs_sm {l : List Bd} (h : smallBs l = true) : l.length ≤ 12 ∧ ∀ b ∈ l, b.Sm := by
  simp only [smallBs, Bool.and_eq_true, decide_eq_true_eq, List.all_eq_true] at h
  exact ⟨h.1, fun b hb => smallBd_sm (h.2 b hb)⟩
set_option maxHeartbeats 1000000 in
theorem c_r12_Small (l : List Bd) : VCall Go.Proofs.Tryz.prog GL 28 [.ro 3 (rowBd l)] (fun y => y = .bool (smallBs l)) := by
  have hll := rowBd_length l
  by_cases h1 : l.length ≤ 12
  case neg =>
    rw [show smallBs l = false by rw [smallBs, decide_eq_false h1]; rfl]
    refine vcall_of TOK_r12_Small HM Go.Proofs.Tryz.func28 rfl (by decide +kernel) (by decide +kernel) rfl ?_
    repeat' first|refine sY ⟨?_⟩|(refine sq ?_ ?_<;>refine fun h=>⟨?_⟩<;>(first|contradiction|(exfalso;omega)|skip))|fail
    all_goals (conv => whnf)
    all_goals rfl
  rw [show smallBs l = l.all smallBd by rw [smallBs, decide_eq_true h1]; rfl]
  refine vcall_of TOK_r12_Small HM Go.Proofs.Tryz.func28 rfl (by decide +kernel) (by decide +kernel) rfl ?_
  repeat' first|refine sY ⟨?_⟩|(refine sq ?_ ?_<;>refine fun h=>⟨?_⟩<;>(first|contradiction|(exfalso;omega)|skip))|fail
  refine ⟨[0, 3], [], fun m st => ∃ i : Nat, i ≤ l.length ∧ m = l.length - i ∧ (l.take i).all smallBd = true ∧ st = ⟨[(0, .ro 3 (rowBd l)), (3, .int .i64 (i : Nat))], []⟩, rfl, ⟨l.length, 0, by omega, rfl, rfl, rfl⟩, ?_⟩
  rintro m _ ⟨i, hi, hm, hall, rfl⟩
  rcases Nat.lt_or_ge i l.length with hil | hge
  · have g := rowBd_get hil
    have hst := fun h => all_snoc (p := smallBd) hil hall h
    have hbad := fun h => all_bad (p := smallBd) hil h
    generalize l.all smallBd = T at hbad ⊢
    generalize l[i] = x at g hst hbad
    obtain ⟨name, shape, data⟩ := x
    have hs := c_r05_Small shape data
    unfold tenA at hs
    have hv : smallBd ⟨name, shape, data⟩ = (smallT shape data && decide (name.size ≤ 30)) := rfl
    rw [hv] at hst hbad
    clear hv
    generalize smallT shape data = S at hs hst hbad
    by_cases hn : name.size ≤ 30
    · cases S
      · obtain rfl : T = false := hbad rfl
        repeat' first|refine sY ⟨?_⟩|(refine sq ?_ ?_<;>refine fun h=>⟨?_⟩<;>(first|contradiction|(exfalso;omega)|skip))|fail
        all_goals (conv => whnf)
        all_goals rfl
      · have hU := hst (by rw [decide_eq_true hn]; rfl)
        repeat' first|refine sY ⟨?_⟩|(refine sq ?_ ?_<;>refine fun h=>⟨?_⟩<;>(first|contradiction|(exfalso;omega)|skip))|fail
        all_goals exact ⟨[], l.length - (i + 1), rfl, by omega, i + 1, by omega, rfl, hU, rfl⟩
    · obtain rfl : T = false := hbad (by rw [decide_eq_false hn, Bool.and_false])
      cases S
      · repeat' first|refine sY ⟨?_⟩|(refine sq ?_ ?_<;>refine fun h=>⟨?_⟩<;>(first|contradiction|(exfalso;omega)|skip))|fail
        all_goals (conv => whnf)
        all_goals rfl
      · repeat' first|refine sY ⟨?_⟩|(refine sq ?_ ?_<;>refine fun h=>⟨?_⟩<;>(first|contradiction|(exfalso;omega)|skip))|fail
        all_goals (conv => whnf)
        all_goals rfl
  · rw [List.take_of_length_le (by omega)] at hall
    rw [hall]
    repeat' first|refine sY ⟨?_⟩|(refine sq ?_ ?_<;>refine fun h=>⟨?_⟩<;>(first|contradiction|(exfalso;omega)|skip))|fail
    all_goals (conv => whnf)
    all_goals rfl
end Go.V
namespace Go.V
open Go.N
set_option maxRecDepth 20000
def zeroT : AV := .agg [.nils, .nils]
end Go.V
namespace Go.V
open Go.N
set_option maxRecDepth 20000
section
variable {bd : Nd → List Rat} {l : List Nd}
end
end Go.V
namespace Go.V
open Go.N
set_option maxRecDepth 20000
def T_ebound1 : Tab := [(62, i62), (9, i9), (36, i36)]
theorem TOK_ebound1 : TOK Go.Proofs.Tryz.prog T_ebound1 := ⟨K62, ⟨K9, ⟨K36, trivial⟩⟩⟩
def T_ebound : Tab := [(36, i36), (40, i40), (47, i47), (62, i62), (120, i120), (3, i3), (4, i4), (33, i33)]
theorem TOK_ebound : TOK Go.Proofs.Tryz.prog T_ebound := ⟨K36, ⟨K40, ⟨K47, ⟨K62, ⟨K120, ⟨K3, ⟨K4, ⟨K33, trivial⟩⟩⟩⟩⟩⟩⟩⟩
def T_IndexFuncB : Tab := [(47, i47), (62, i62), (3, i3)]
theorem TOK_IndexFuncB : TOK Go.Proofs.Tryz.prog T_IndexFuncB := ⟨K47, ⟨K62, ⟨K3, trivial⟩⟩⟩
def T_eAll : Tab := [(24, i24), (4, i4), (22, i22), (36, i36), (51, i51), (40, i40), (3, i3), (9, i9), (47, i47), (62, i62), (28, i28)]
theorem TOK_eAll : TOK Go.Proofs.Tryz.prog T_eAll := ⟨K24, ⟨K4, ⟨K22, ⟨K36, ⟨K51, ⟨K40, ⟨K3, ⟨K9, ⟨K47, ⟨K62, ⟨K28, trivial⟩⟩⟩⟩⟩⟩⟩⟩⟩⟩⟩
def bndOK (bs : List Bd) (x : Nd) : Bool := match bs.find? fun b => decide (b.name = x.name) with
  | some b => okT b.shape b.data && decide (b.shape = x.shape)
  | none => false
theorem find_first (bs : List Bd) (n : ByteArray) : (bs.find? (fun b => decide (b.name = n)) = none ∧ ∀ j (h : j < bs.length), bs[j].name ≠ n) ∨
    ∃ k, ∃ h : k < bs.length, bs.find? (fun b => decide (b.name = n)) = some bs[k] ∧ bs[k].name = n ∧ ∀ j (h : j < bs.length), j < k → bs[j].name ≠ n := by
  cases hf : bs.find? (fun b => decide (b.name = n)) with
  | none =>
    left
    refine ⟨rfl, fun j h => ?_⟩
    have := List.find?_eq_none.1 hf bs[j] (List.getElem_mem h)
    simpa using this
  | some b =>
    right
    obtain ⟨h1, i, hi, rfl, h2⟩ := List.find?_eq_some_iff_getElem.1 hf
    refine ⟨i, hi, rfl, by simpa using h1, fun j h hj => ?_⟩
    have := h2 j hj
    simpa using this
theorem c_bnd1 (b : Bd) (x : Nd) : VCall Go.Proofs.Tryz.prog GL 99 [.agg b.cells, .rp x.cells] (fun y => y = .bool (decide (b.name = x.name))) := by
  obtain ⟨bn, bsh, bd⟩ := b
  obtain ⟨op, A, B, name, s, k, n, d⟩ := x
  refine vcall_of TOK_ebound1 HM Go.Proofs.Tryz.func99 rfl (by decide +kernel) (by decide +kernel) rfl ?_
  repeat' first|refine sY ⟨?_⟩|(refine sq ?_ ?_<;>refine fun h=>⟨?_⟩<;>(first|contradiction|(exfalso;omega)|skip))|fail
  all_goals (conv => whnf)
  all_goals rfl
theorem c_IdxB (f : FuncId) (cs : List AV) (l : List Bd) (n : ByteArray) (r : Int) (hll : l.length ≤ 1000) (hc : ∀ b ∈ l, VCall Go.Proofs.Tryz.prog GL f [.agg b.cells, .rp cs] (fun y => y = .bool (decide (b.name = n))))
    (hr : (∃ k : Nat, ∃ h : k < l.length, r = k ∧ l[k].name = n ∧ ∀ j (h : j < l.length), j < k → l[j].name ≠ n) ∨ (r = -1 ∧ ∀ j (h : j < l.length), l[j].name ≠ n)) :
    VCall Go.Proofs.Tryz.prog GL 98 [.ro 3 (rowBd l), .fn f [.rp cs]] (fun x => x = .int .i64 r) := by
  have hl := rowBd_length l
  refine vcall_of TOK_IndexFuncB HM Go.Proofs.Tryz.func98 rfl (by decide +kernel) (by decide +kernel) rfl ?_
  repeat' first|refine sY ⟨?_⟩|(refine sq ?_ ?_<;>refine fun h=>⟨?_⟩<;>(first|contradiction|(exfalso;omega)|skip))|fail
  refine ⟨[0, 1, 7, 8], [], fun m st => ∃ i : Nat, i ≤ l.length ∧ m = l.length - i ∧ (∀ j (h : j < l.length), j < i → l[j].name ≠ n) ∧
    st = ⟨[(0, .ro 3 (rowBd l)), (1, .fn f [.rp cs]), (7, .int .i64 ((rowBd l).length : Nat)), (8, .int .i64 (i : Nat))], []⟩, rfl, ⟨l.length, 0, by omega, rfl, fun j h h0 => absurd h0 (Nat.not_lt_zero _), rfl⟩, ?_⟩
  rintro m _ ⟨i, hi, hm, ha, rfl⟩
  rcases Nat.lt_or_ge i l.length with hil | hge
  · have g := rowBd_get hil
    have hci := hc l[i] (List.getElem_mem hil)
    by_cases hp : l[i].name = n
    · rw [decide_eq_true hp] at hci
      obtain rfl : r = i := by
        rcases hr with ⟨k, hk, rfl, h1, h2⟩ | ⟨_, h2⟩
        · rcases Nat.lt_trichotomy k i with h | h | h
          · exact absurd h1 (ha k hk h)
          · rw [h]
          · exact absurd hp (h2 i hil h)
        · exact absurd hp (h2 i hil)
      generalize l[i] = b at g hci
      obtain ⟨bn, bsh, bd⟩ := b
      repeat' first|refine sY ⟨?_⟩|(refine sq ?_ ?_<;>refine fun h=>⟨?_⟩<;>(first|contradiction|(exfalso;omega)|skip))|fail
      all_goals (conv => whnf)
      all_goals rfl
    · rw [decide_eq_false hp] at hci
      have hx : ∀ j (h : j < l.length), j < i + 1 → l[j].name ≠ n := fun j h hj => (Nat.lt_succ_iff_lt_or_eq.1 hj).elim (ha j h) (fun e => by subst e; exact hp)
      clear hp
      generalize l[i] = b at g hci
      obtain ⟨bn, bsh, bd⟩ := b
      repeat' first|refine sY ⟨?_⟩|(refine sq ?_ ?_<;>refine fun h=>⟨?_⟩<;>(first|contradiction|(exfalso;omega)|skip))|fail
      all_goals exact ⟨[], l.length - (i + 1), rfl, by omega, i + 1, by omega, rfl, hx, rfl⟩
  · obtain rfl : r = -1 := by
      rcases hr with ⟨k, hk, rfl, h1, h2⟩ | ⟨h, _⟩
      · exact absurd h1 (ha k hk (by omega))
      · exact h
    repeat' first|refine sY ⟨?_⟩|(refine sq ?_ ?_<;>refine fun h=>⟨?_⟩<;>(first|contradiction|(exfalso;omega)|skip))|fail
    all_goals (conv => whnf)
    all_goals rfl
theorem bdB_ok {bs : List Bd} {x : Nd} {k : Nat} (hk : k < bs.length) (hf : bs.find? (fun b => decide (b.name = x.name)) = some bs[k]) (h : okT bs[k].shape bs[k].data = true ∧ bs[k].shape = x.shape) :
    bndOK bs x = true ∧ bs[k].data = (bdB bs x).map ratB := by
  refine ⟨by rw [bndOK, hf]; dsimp only; rw [h.1, decide_eq_true h.2]; rfl, ?_⟩
  rw [bdB, hf]
  dsimp only
  rw [if_pos h, rats_map (okT_iff.1 h.1).2.2]
set_option maxHeartbeats 4000000 in
theorem c_eBound (bs : List Bd) (x : Nd) (hbl : bs.length ≤ 1000) (hbs : ∀ b ∈ bs, b.Sm) (hx : x.Sm) : VCall Go.Proofs.Tryz.prog GL 51 [.agg x.cells, .ro 3 (rowBd bs)]
    (fun y => y = if bndOK bs x = true then .tup [tenR x.shape (bdB bs x), .bool true] else .tup [zeroT, .bool false]) := by
  have hbr := rowBd_length bs
  have hxs := hx.shape
  rcases find_first bs x.name with ⟨hf, hall⟩ | ⟨k, hk, hf, hn, hall⟩
  · have hi := c_IdxB 99 x.cells bs x.name (-1) hbl (fun b _ => c_bnd1 b x) (.inr ⟨rfl, hall⟩)
    rw [show bndOK bs x = false by rw [bndOK, hf], if_neg (by simp)]
    clear hall hf
    obtain ⟨op, A, B, name, s, kk, n, d⟩ := x
    unfold zeroT
    refine vcall_of TOK_ebound HM Go.Proofs.Tryz.func51 rfl (by decide +kernel) (by decide +kernel) rfl ?_
    repeat' first|refine sY ⟨?_⟩|(refine sq ?_ ?_<;>refine fun h=>⟨?_⟩<;>(first|contradiction|(exfalso;omega)|skip))|fail
    refine ⟨by decide +kernel, [0, 1, 3, 7, 7, 31, 63, 127, 255, 511, 1023, 2047, 4095, 4095, 16383, 32767, 65535, 131071, 4095, 266239, 1048575, 2097151, 4194303], by decide +kernel, ?_⟩
    repeat' first|refine sY ⟨?_⟩|(refine sq ?_ ?_<;>refine fun h=>⟨?_⟩<;>(first|contradiction|(exfalso;omega)|skip))|fail
    all_goals (conv => whnf)
    all_goals rfl
  · have hi := c_IdxB 99 x.cells bs x.name (k : Nat) hbl (fun b _ => c_bnd1 b x) (.inl ⟨k, hk, rfl, hn, hall⟩)
    have g := rowBd_get hk
    have hb := hbs bs[k] (List.getElem_mem hk)
    have hR := c_tRight bs[k].shape bs[k].data hb.shape hb.data (fun d hd => Nat.lt_of_le_of_lt (hb.each d hd) (by decide))
    have hS := c_shape_Same GL bs[k].shape x.shape (by have := hb.shape; omega) (by omega)
    have hok := @bdB_ok bs x k hk hf
    have hb1 : ¬ (okT bs[k].shape bs[k].data = true ∧ bs[k].shape = x.shape) → bndOK bs x = false := fun h => by
      rw [bndOK, hf]
      dsimp only
      cases h1 : okT bs[k].shape bs[k].data
      · rfl
      · exact decide_eq_false fun h2 => h ⟨h1, h2⟩
    clear hall hf hb hn
    generalize bndOK bs x = T at hok hb1 ⊢
    generalize bdB bs x = V at hok ⊢
    generalize bs[k] = b at g hR hS hok hb1
    obtain ⟨bn, bsh, bda⟩ := b
    obtain ⟨op, A, B, name, s, kk, n, d⟩ := x
    dsimp only at hR hS hok hb1 ⊢
    unfold tenA at hR
    by_cases h1 : okT bsh bda = true
    · rw [h1] at hR
      by_cases h2 : bsh = s
      · obtain ⟨hT, hd⟩ := hok ⟨h1, h2⟩
        subst hT h2
        rw [decide_eq_true rfl] at hS
        rw [if_pos rfl]
        unfold tenR rowR
        rw [← hd]
        refine vcall_of TOK_ebound HM Go.Proofs.Tryz.func51 rfl (by decide +kernel) (by decide +kernel) rfl ?_
        repeat' first|refine sY ⟨?_⟩|(refine sq ?_ ?_<;>refine fun h=>⟨?_⟩<;>(first|contradiction|(exfalso;omega)|skip))|fail
        refine ⟨by decide +kernel, [0, 1, 3, 7, 7, 31, 63, 127, 255, 511, 1023, 2047, 4095, 4095, 16383, 32767, 65535, 131071, 4095, 266239, 1048575, 2097151, 4194303], by decide +kernel, ?_⟩
        repeat' first|refine sY ⟨?_⟩|(refine sq ?_ ?_<;>refine fun h=>⟨?_⟩<;>(first|contradiction|(exfalso;omega)|skip))|fail
        all_goals (conv => whnf)
        all_goals rfl
      · rw [decide_eq_false h2] at hS
        rw [hb1 (fun h => h2 h.2), if_neg (by simp)]
        unfold zeroT
        refine vcall_of TOK_ebound HM Go.Proofs.Tryz.func51 rfl (by decide +kernel) (by decide +kernel) rfl ?_
        repeat' first|refine sY ⟨?_⟩|(refine sq ?_ ?_<;>refine fun h=>⟨?_⟩<;>(first|contradiction|(exfalso;omega)|skip))|fail
        refine ⟨by decide +kernel, [0, 1, 3, 7, 7, 31, 63, 127, 255, 511, 1023, 2047, 4095, 4095, 16383, 32767, 65535, 131071, 4095, 266239, 1048575, 2097151, 4194303], by decide +kernel, ?_⟩
        repeat' first|refine sY ⟨?_⟩|(refine sq ?_ ?_<;>refine fun h=>⟨?_⟩<;>(first|contradiction|(exfalso;omega)|skip))|fail
        all_goals (conv => whnf)
        all_goals rfl
    · rw [hb1 (fun h => h1 h.1), if_neg (by simp)]
      rw [show okT bsh bda = false by simpa using h1] at hR
      unfold zeroT
      refine vcall_of TOK_ebound HM Go.Proofs.Tryz.func51 rfl (by decide +kernel) (by decide +kernel) rfl ?_
      repeat' first|refine sY ⟨?_⟩|(refine sq ?_ ?_<;>refine fun h=>⟨?_⟩<;>(first|contradiction|(exfalso;omega)|skip))|fail
      refine ⟨by decide +kernel, [0, 1, 3, 7, 7, 31, 63, 127, 255, 511, 1023, 2047, 4095, 4095, 16383, 32767, 65535, 131071, 4095, 266239, 1048575, 2097151, 4194303], by decide +kernel, ?_⟩
      repeat' first|refine sY ⟨?_⟩|(refine sq ?_ ?_<;>refine fun h=>⟨?_⟩<;>(first|contradiction|(exfalso;omega)|skip))|fail
      all_goals (conv => whnf)
      all_goals rfl
end Go.V
namespace Go.V
open Go.N
set_option maxRecDepth 20000
noncomputable def tcE (bd : Nd → List Rat) (l : List Nd) (j : Nat) : List AV := [.ro 1 (rowZ (shAt l (j : Nat))), .ro 1 (rowR (valAt bd l j))]
noncomputable def rowTs (bd : Nd → List Rat) (l : List Nd) (i : Nat) : List (List AV) := (List.range i).map (tcE bd l)
theorem rowTs_len (bd : Nd → List Rat) (l : List Nd) (i : Nat) : (rowTs bd l i).length = i := by simp [rowTs]
theorem rowTs_get {bd : Nd → List Rat} {l : List Nd} {i j : Nat} (h : j < i) : (rowTs bd l i)[j]? = some (tcE bd l j) := by simp [rowTs, h]
theorem rowTs_succ (bd : Nd → List Rat) (l : List Nd) (i : Nat) : rowTs bd l (i + 1) = rowTs bd l i ++ [tcE bd l i] := by simp [rowTs, List.range_succ]
noncomputable def rowTz (bd : Nd → List Rat) (l : List Nd) (n i : Nat) : List (List AV) := rowTs bd l i ++ List.replicate (n - i) [.nils, .nils]
theorem rowTz_len {bd : Nd → List Rat} {l : List Nd} {n i : Nat} (h : i ≤ n) : (rowTz bd l n i).length = n := by rw [rowTz, List.length_append, rowTs_len, List.length_replicate]; omega
theorem rowTz_lt {bd : Nd → List Rat} {l : List Nd} {n i j : Nat} (h : j < i) : (rowTz bd l n i)[j]? = some (tcE bd l j) := by
  rw [rowTz, List.getElem?_append_left (by rw [rowTs_len]; exact h)]; exact rowTs_get h
theorem rowTz_ge {bd : Nd → List Rat} {l : List Nd} {n i j : Nat} (h : i ≤ j) (hj : j < n) : (rowTz bd l n i)[j]? = some [.nils, .nils] := by
  rw [rowTz, List.getElem?_append_right (by rw [rowTs_len]; exact h), rowTs_len, List.getElem?_replicate, if_pos (by omega)]
theorem rowTz_set {bd : Nd → List Rat} {l : List Nd} {n i : Nat} (h : i < n) {c : List AV} (hc : c = tcE bd l i) : (rowTz bd l n i).set (0 + i) c = rowTz bd l n (i + 1) := by
  rw [Nat.zero_add, rowTz, List.set_append_right _ _ (by rw [rowTs_len]; exact Nat.le_refl _), rowTs_len, Nat.sub_self, rowTz, rowTs_succ, List.append_assoc, hc]
  obtain ⟨m, rfl⟩ : ∃ m, n = i + m + 1 := ⟨n - i - 1, by omega⟩
  rw [show i + m + 1 - i = m + 1 by omega, show i + m + 1 - (i + 1) = m by omega, List.replicate_succ]
  rfl
theorem rowTz_zero (bd : Nd → List Rat) (l : List Nd) (n : Nat) : List.replicate n [.nils, .nils] = rowTz bd l n 0 := by simp [rowTz, rowTs]
theorem rowTz_end (bd : Nd → List Rat) (l : List Nd) (n : Nat) : rowTz bd l n n = rowTs bd l n := by simp [rowTz]
theorem tenR_tcE {bd : Nd → List Rat} {l : List Nd} {j : Nat} {x : Nd} (hx : l[j]? = some x) : tenR x.shape (valAt bd l j) = .agg (tcE bd l j) := by
  obtain ⟨h, e⟩ := List.getElem?_eq_some_iff.1 hx
  rw [tcE, shAt_nat h, e]; rfl
def allOKB (bs : List Bd) (l : List Nd) : Bool := l.all fun x => decide (x.name = ⟨#[]⟩) || bndOK bs x
theorem eval_parts {bd : Nd → List Rat} {g : Gr} (hg : grOK g = true) (G : GoodV bd g.nodes) {i : Nat} {x : Nd} (hx : g.nodes[i]? = some x) (hn : x.name = ⟨#[]⟩) :
    ∃ o : Opc, x.op = o.str ∧ ∃ p q : Nat, x.a = (p : Nat) ∧ x.b = (q : Nat) ∧
    ((i = 0 ∧ p = 0 ∧ q = 0 ∧ x.op = sConst ∧ FitV o x.shape x.k x.n x.data [] [] [] [] (valAt bd g.nodes i)) ∨
     (p < i ∧ q < i ∧ FitV o x.shape x.k x.n x.data (shAt g.nodes (p : Nat)) (valAt bd g.nodes p) (shAt g.nodes (q : Nat)) (valAt bd g.nodes q) (valAt bd g.nodes i))) := by
  obtain ⟨o, ho, F⟩ := ok_opc hg hx
  have hnn := (ok_named hg hx).1 hn
  have hm2 := opParts_le (opc_many o)
  refine ⟨o, ho, ?_⟩
  rcases Nat.eq_zero_or_pos o.many with h0 | h0
  · refine ⟨0, 0, F.a0 h0, F.b0 (by omega), ?_⟩
    have hc := ok_leaf hg hx hnn (by rw [ho, partsN_str]; exact h0)
    rcases Nat.eq_zero_or_pos i with hi | hi
    · exact .inl ⟨hi, rfl, rfl, hc, G i x o hx ho hnn _ _ _ _ (fun h => absurd h (by omega)) (fun h => absurd h (by omega))⟩
    · exact .inr ⟨hi, hi, G i x o hx ho hnn _ _ _ _ (fun h => absurd h (by omega)) (fun h => absurd h (by omega))⟩
  · obtain ⟨p, hp1, hp2, hp3⟩ := part_of (F.ia h0)
    rcases Nat.lt_or_ge o.many 2 with h2 | h2
    · exact ⟨p, 0, hp1, F.b0 h2, .inr ⟨hp2, by omega, G i x o hx ho hnn _ _ _ _ (fun _ => ⟨by rw [hp1], by rw [hp1, Int.toNat_natCast]⟩) (fun h => absurd h (by omega))⟩⟩
    · obtain ⟨q, hq1, hq2, hq3⟩ := part_of (F.ib h2)
      exact ⟨p, q, hp1, hq1, .inr ⟨hp2, hq2, G i x o hx ho hnn _ _ _ _ (fun _ => ⟨by rw [hp1], by rw [hp1, Int.toNat_natCast]⟩) (fun _ => ⟨by rw [hq1], by rw [hq1, Int.toNat_natCast]⟩)⟩⟩
theorem bd_val {bs : List Bd} {g : Gr} (hg : grOK g = true) {i : Nat} {x : Nd} (hx : g.nodes[i]? = some x) (hn : x.name ≠ ⟨#[]⟩) : valAt (bdB bs) g.nodes i = bdB bs x := by
  have h : namedOp x.op = true := by
    cases h : namedOp x.op
    · exact absurd ((ok_named hg hx).2 h) hn
    · rfl
  rw [valAt_eq hx, valN, h, if_pos rfl]
set_option maxHeartbeats 8000000 in
theorem c_eAll (bs : List Bd) (g : Gr) (hs : ∀ x ∈ g.nodes, x.Sm) (hl : g.nodes.length ≤ 1000) (hbl : bs.length ≤ 1000) (hbs : ∀ b ∈ bs, b.Sm) (hG : grOK g = true → GoodV (bdB bs) g.nodes) :
    VCall Go.Proofs.Tryz.prog GL 31 [.agg g.cells, .ro 3 (rowBd bs)]
      (fun y => y = if grOK g = true then (if allOKB bs g.nodes = true then .tup [.ro 2 (rowTs (bdB bs) g.nodes g.nodes.length), .int .i64 0] else .tup [.ro 2 [], .int .i64 10]) else .tup [.ro 2 [], .int .i64 1]) := by
  have hr := c_gRight g hs hl
  refine VCall.taken ?_
  cases hok : grOK g
  · rw [hok] at hr
    rw [if_neg (by simp)]
    refine vcall_of TOK_eAll HM Go.Proofs.Tryz.func31 rfl (by decide +kernel) (by decide +kernel) rfl ?_
    repeat' first|refine sY ⟨?_⟩|(refine sq ?_ ?_<;>refine fun h=>⟨?_⟩<;>(first|contradiction|(exfalso;omega)|skip))|fail
    all_goals (conv => whnf)
    exact ⟨_, roTo2 (show RoTo .nils (.ro 2 []) from ⟨2, rfl⟩) rfl, rfl⟩
  have hG := hG hok
  rw [hok] at hr
  rw [if_pos rfl]
  obtain ⟨h1, h2, q, hq1, hq⟩ := ok_pre hok
  have hpt := fun {i : Nat} {x : Nd} => @eval_parts (bdB bs) g hok hG i x
  have hbv := fun {i : Nat} {x : Nd} => @bd_val bs g hok i x
  have hgx : ∀ i (h : i < g.nodes.length), g.nodes[i]? = some g.nodes[i] := fun i h => List.getElem?_eq_getElem h
  have hbo := fun i (h : i < g.nodes.length) => c_eBound bs g.nodes[i] hbl hbs (hs _ (List.getElem_mem h))
  have hbad : ∀ i (h : i < g.nodes.length), g.nodes[i].name ≠ ⟨#[]⟩ → bndOK bs g.nodes[i] = false → allOKB bs g.nodes = false := fun i h h1 h2 => List.all_eq_false.2 ⟨_, List.getElem_mem h, by simp [h1, h2]⟩
  have hgood : (∀ i (h : i < g.nodes.length), g.nodes[i].name ≠ ⟨#[]⟩ → bndOK bs g.nodes[i] = true) → allOKB bs g.nodes = true := fun h => List.all_eq_true.2 fun x hx => by
    obtain ⟨k, hk, rfl⟩ := List.getElem_of_mem hx
    by_cases hn : g.nodes[k].name = ⟨#[]⟩
    · simp [hn]
    · simp [h k hk hn]
  generalize allOKB bs g.nodes = T at hbad hgood ⊢
  have hY1 : T = true → (if T = true then AV.tup [.ro 2 (rowTs (bdB bs) g.nodes g.nodes.length), .int .i64 0] else .tup [.ro 2 [], .int .i64 10]) = .tup [.ro 2 (rowTs (bdB bs) g.nodes g.nodes.length), .int .i64 0] := fun h => if_pos h
  have hY2 : T = false → (if T = true then AV.tup [.ro 2 (rowTs (bdB bs) g.nodes g.nodes.length), .int .i64 0] else .tup [.ro 2 [], .int .i64 10]) = .tup [.ro 2 [], .int .i64 10] := fun h => if_neg (by simp [h])
  generalize (if T = true then AV.tup [.ro 2 (rowTs (bdB bs) g.nodes g.nodes.length), .int .i64 0] else .tup [.ro 2 [], .int .i64 10]) = Z at hY1 hY2 ⊢
  generalize hbd : bdB bs = bd at *
  clear hG hok hbd
  obtain ⟨l, p⟩ := g
  dsimp only at *
  show VCall _ _ _ [.agg [.ro 8 (rowN l), .int .i64 p], _] _
  have hlr := rowN_length l
  have hbr := rowBd_length bs
  have hGL : ∀ i (h : i < l.length), shAt l (i : Nat) = l[i].shape := fun i h => shAt_nat h
  refine vcall_of TOK_eAll HM Go.Proofs.Tryz.func31 rfl (by decide +kernel) (by decide +kernel) rfl ?_
  repeat' first|refine sY ⟨?_⟩|(refine sq ?_ ?_<;>refine fun h=>⟨?_⟩<;>(first|contradiction|(exfalso;omega)|skip))|fail
  refine ⟨by omega, Int.le_refl _, by omega, (show ((rowN l).length : Int) * ((48 : Nat) : Int) ≤ 140737488355328 by omega), l.length, congrArg Nat.cast hlr, ?_⟩
  repeat' first|refine sY ⟨?_⟩|(refine sq ?_ ?_<;>refine fun h=>⟨?_⟩<;>(first|contradiction|(exfalso;omega)|skip))|fail
  refine ⟨[1, 6, 21, 22, 23], [1], fun m st => ∃ i : Nat, i ≤ l.length ∧ m = l.length - i ∧ (∀ j (h : j < l.length), j < i → l[j].name ≠ ⟨#[]⟩ → bndOK bs l[j] = true) ∧
    st = ⟨[(1, .ro 3 (rowBd bs)), (6, .own 0 0 l.length), (21, .ro 8 (rowN l)), (22, .int .i64 ((rowN l).length : Nat)), (23, .int .i64 ((i : Nat)))], [.row false 40 2 (rowTz bd l l.length i)]⟩, rfl, ⟨l.length, 0, by omega, rfl, fun j h h0 => absurd h0 (Nat.not_lt_zero _), ?_⟩, ?_⟩
  · exact Eq.trans rfl (congrArg (fun z : List (List AV) => (⟨[(1, .ro 3 (rowBd bs)), (6, .own 0 0 l.length), (21, .ro 8 (rowN l)), (22, .int .i64 ((rowN l).length : Nat)), (23, .int .i64 (((0 : Nat) : Int)))], [.row false 40 2 z]⟩ : St)) (rowTz_zero bd l l.length))
  rintro m _ ⟨i, hi, hm, hall, rfl⟩
  have htl := rowTz_len (bd := bd) (l := l) hi
  rcases Nat.lt_or_ge i l.length with hil | hge
  · have hx := hgx i hil
    have g1 := rowN_get hil
    have hset : (rowTz bd l l.length i).set (0 + i) [.ro 1 (rowZ l[i].shape), .ro 1 (rowR (valAt bd l i))] = rowTz bd l l.length (i + 1) := rowTz_set hil (by rw [tcE, hGL i hil])
    have hend : ∀ {c : List (List AV)}, c = rowTz bd l l.length (i + 1) → (⟨[(1, .ro 3 (rowBd bs)), (6, .own 0 0 l.length), (21, .ro 8 (rowN l)), (22, .int .i64 ((rowN l).length : Nat)), (23, .int .i64 (((i + 1 : Nat) : Int)))], [.row false 40 2 c]⟩ : St) = ⟨[(1, .ro 3 (rowBd bs)), (6, .own 0 0 l.length), (21, .ro 8 (rowN l)), (22, .int .i64 ((rowN l).length : Nat)), (23, .int .i64 (((i + 1 : Nat) : Int)))], [.row false 40 2 (rowTz bd l l.length (i + 1))]⟩ := fun h => by rw [h]
    have gi : (rowTz bd l l.length i)[0 + i]? = some [.nils, .nils] := by rw [Nat.zero_add]; exact rowTz_ge (Nat.le_refl _) hil
    have hnx : (l[i].name ≠ ⟨#[]⟩ → bndOK bs l[i] = true) → ∀ j (h : j < l.length), j < i + 1 → l[j].name ≠ ⟨#[]⟩ → bndOK bs l[j] = true := fun h j hj hji => (Nat.lt_succ_iff_lt_or_eq.1 hji).elim (hall j hj) (fun e => by subst e; exact h)
    have hb := hbo i hil
    have hbd := hbad i hil
    by_cases hn : l[i].name = ⟨#[]⟩
    · have hnx := hnx fun h => absurd hn h
      obtain ⟨o, ho, p1, q1, hp, hq', hcase⟩ := hpt hx hn
      generalize valAt bd l i = V at hset hcase
      generalize l[i] = x at g1 hset hn ho hp hq' hcase
      obtain ⟨op, A, B, name, s, k, n, d⟩ := x
      dsimp only at hset hn ho hp hq' hcase
      subst hn ho hp hq'
      rcases hcase with ⟨rfl, rfl, rfl, _, hfit⟩ | ⟨hp2, hq2, hfit⟩
      · have hnode := c_eNode ((0 : Nat) : Int) ((0 : Nat) : Int) ⟨#[]⟩ hfit
        unfold nodeC tenR at hnode
        have ga : (rowTz bd l l.length 0)[0 + 0]? = some [.nils, .nils] := rowTz_ge (Nat.le_refl _) hil
        repeat' first|refine sY ⟨?_⟩|(refine sq ?_ ?_<;>refine fun h=>⟨?_⟩<;>(first|contradiction|(exfalso;omega)|skip))|fail
        refine ⟨by decide +kernel, [0, 0, 0, 4, 14, 30, 0, 0, 128, 448, 960, 2047, 4095, 8191, 8191, 0, 49151, 131071], by decide +kernel, ?_⟩
        repeat' first|refine sY ⟨?_⟩|(refine sq ?_ ?_<;>refine fun h=>⟨?_⟩<;>(first|contradiction|(exfalso;omega)|skip))|fail
        all_goals exact ⟨[0], l.length - (0 + 1), rfl, by omega, 0 + 1, by omega, rfl, hnx, Eq.trans rfl (hend hset)⟩
      · have hnode := c_eNode ((p1 : Nat) : Int) ((q1 : Nat) : Int) ⟨#[]⟩ hfit
        unfold nodeC tenR at hnode
        have ga : (rowTz bd l l.length i)[0 + p1]? = some [.ro 1 (rowZ (shAt l (p1 : Nat))), .ro 1 (rowR (valAt bd l p1))] := by rw [Nat.zero_add]; exact rowTz_lt hp2
        have gb : (rowTz bd l l.length i)[0 + q1]? = some [.ro 1 (rowZ (shAt l (q1 : Nat))), .ro 1 (rowR (valAt bd l q1))] := by rw [Nat.zero_add]; exact rowTz_lt hq2
        repeat' first|refine sY ⟨?_⟩|(refine sq ?_ ?_<;>refine fun h=>⟨?_⟩<;>(first|contradiction|(exfalso;omega)|skip))|fail
        refine ⟨by decide +kernel, [0, 0, 0, 4, 14, 30, 0, 0, 128, 448, 960, 2047, 4095, 8191, 8191, 0, 49151, 131071], by decide +kernel, ?_⟩
        repeat' first|refine sY ⟨?_⟩|(refine sq ?_ ?_<;>refine fun h=>⟨?_⟩<;>(first|contradiction|(exfalso;omega)|skip))|fail
        all_goals exact ⟨[0], l.length - (i + 1), rfl, by omega, i + 1, by omega, rfl, hnx, Eq.trans rfl (hend hset)⟩
    · have hv := hbv hx hn
      rw [hv] at hset
      have hbd := hbd hn
      generalize bd l[i] = V at hset hb
      generalize bndOK bs l[i] = ok at hb hbd hnx
      generalize l[i] = x at g1 hset hn hb hnx
      obtain ⟨op, A, B, name, s, k, n, d⟩ := x
      dsimp only at hset hn hb
      cases ok
      · rw [if_neg (by simp)] at hb
        have hT := hY2 (hbd rfl)
        unfold zeroT at hb
        repeat' first|refine sY ⟨?_⟩|(refine sq ?_ ?_<;>refine fun h=>⟨?_⟩<;>(first|contradiction|(exfalso;omega)|skip))|fail
        all_goals (conv => whnf)
        all_goals exact ⟨_, roTo2 (show RoTo .nils (.ro 2 []) from ⟨2, rfl⟩) rfl, hT.symm⟩
      · rw [if_pos rfl] at hb
        have hnx := hnx fun _ => rfl
        unfold tenR at hb
        repeat' first|refine sY ⟨?_⟩|(refine sq ?_ ?_<;>refine fun h=>⟨?_⟩<;>(first|contradiction|(exfalso;omega)|skip))|fail
        all_goals exact ⟨[0], l.length - (i + 1), rfl, by omega, i + 1, by omega, rfl, hnx, Eq.trans rfl (hend hset)⟩
  · have hl2 : i = l.length := by omega
    subst hl2
    have hT := hY1 (hgood fun j h => hall j h h)
    repeat' first|refine sY ⟨?_⟩|(refine sq ?_ ?_<;>refine fun h=>⟨?_⟩<;>(first|contradiction|(exfalso;omega)|skip))|fail
    conv => whnf
    refine .inl ⟨by omega, ?_⟩
    repeat' first|refine sY ⟨?_⟩|(refine sq ?_ ?_<;>refine fun h=>⟨?_⟩<;>(first|contradiction|(exfalso;omega)|skip))|fail
    all_goals (conv => whnf)
    all_goals exact ⟨_, roTo2 rfl rfl, (congrArg (fun z : List (List AV) => AV.tup [.ro 2 z, .int .i64 0]) (rowTz_end bd l l.length)).trans hT.symm⟩
end Go.V
namespace Go.V
open Go.N
set_option maxRecDepth 20000
mutual
theorem asRo_refl : ∀ x : AV, AsRo x x
  | .nils => .inl rfl
  | .ro sz es => ⟨es, rfl, asRoLL_refl es⟩
  | .agg cs => ⟨cs, rfl, asRoL_refl cs⟩
  | .j | .u | .int _ _ | .bool _ | .str _ | .nili | .tup _ | .fr _ _ _ | .own _ _ _ | .ptr _ _ _ | .bptr _ _ | .map _ | .rp _ | .fn _ _ | .iface _ _ => by simp only [AsRo]
theorem asRoL_refl : ∀ xs : List AV, AsRoL xs xs
  | [] => rfl
  | x :: xs => ⟨x, xs, rfl, asRo_refl x, asRoL_refl xs⟩
theorem asRoLL_refl : ∀ xs : List (List AV), AsRoLL xs xs
  | [] => rfl
  | x :: xs => ⟨x, xs, rfl, asRoL_refl x, asRoLL_refl xs⟩
end
theorem asRo_nils (sz : Nat) : AsRo .nils (.ro sz []) := .inr ⟨sz, rfl⟩
end Go.V
namespace Go.V
open Go.N
set_option maxRecDepth 20000
end Go.V
namespace Go.V
open Go.N
set_option maxRecDepth 20000
def T_refs12 : Tab := [(47, i47), (62, i62), (3, i3), (49, i49), (65, i65)]
theorem TOK_refs12 : TOK Go.Proofs.Tryz.prog T_refs12 := ⟨K47, ⟨K62, ⟨K3, ⟨K49, ⟨K65, trivial⟩⟩⟩⟩⟩
def T_eLoss : Tab := [(24, i24), (47, i47), (62, i62), (28, i28), (3, i3), (51, i51), (40, i40), (34, i34), (9, i9)]
theorem TOK_eLoss : TOK Go.Proofs.Tryz.prog T_eLoss := ⟨K24, ⟨K47, ⟨K62, ⟨K28, ⟨K3, ⟨K51, ⟨K40, ⟨K34, ⟨K9, trivial⟩⟩⟩⟩⟩⟩⟩⟩⟩
def T_awake12 : Tab := [(36, i36), (22, i22), (24, i24), (34, i34), (9, i9), (40, i40), (62, i62), (47, i47), (28, i28)]
theorem TOK_awake12 : TOK Go.Proofs.Tryz.prog T_awake12 := ⟨K36, ⟨K22, ⟨K24, ⟨K34, ⟨K9, ⟨K40, ⟨K62, ⟨K47, ⟨K28, trivial⟩⟩⟩⟩⟩⟩⟩⟩⟩
theorem rowBd_snoc {l : List Bd} {i : Nat} (h : i < l.length) : rowBd (l.take (i + 1)) = List.take (rowBd (l.take i)).length (rowBd (l.take i)) ++ [l[i].cells] := by
  rw [List.take_length, List.take_succ_eq_append_getElem h]; unfold rowBd; rw [List.map_append]; rfl
set_option maxHeartbeats 2000000 in
theorem c_refs (l : List Bd) (hl : l.length * 64 ≤ 140737488351232) : VCall Go.Proofs.Tryz.prog GL 29 [.ro 3 (rowBd l)] (fun y => y = .ro 3 (rowBd l)) := by
  refine VCall.taken ?_
  have hlr := rowBd_length l
  refine vcall_of TOK_refs12 HM Go.Proofs.Tryz.func29 rfl (by decide +kernel) (by decide +kernel) rfl ?_
  repeat' first|refine sY ⟨?_⟩|(refine sq ?_ ?_<;>refine fun h=>⟨?_⟩<;>(first|contradiction|(exfalso;omega)|skip))|fail
  refine ⟨[3, 6, 7, 8], [], fun m st => ∃ i : Nat, i ≤ l.length ∧ m = l.length - i ∧
    ((i = 0 ∧ st = ⟨[(3, .nils), (6, .ro 3 (rowBd l)), (7, .int .i64 ((rowBd l).length : Nat)), (8, .int .i64 (i : Nat))], []⟩) ∨
    (0 < i ∧ st = ⟨[(3, .own 0 0 (rowBd (l.take i)).length), (6, .ro 3 (rowBd l)), (7, .int .i64 ((rowBd l).length : Nat)), (8, .int .i64 (i : Nat))], [.row false 65 3 (rowBd (l.take i))]⟩)), rfl, ⟨l.length, 0, by omega, rfl, .inl ⟨rfl, rfl⟩⟩, ?_⟩
  rintro m _ ⟨i, hi, hm, hst⟩
  have htl : (rowBd (l.take i)).length = i := by rw [rowBd_length, List.length_take]; omega
  rcases Nat.lt_or_ge i l.length with hil | hge
  · have g := rowBd_get hil
    have hsn := rowBd_snoc hil
    have hone : i = 0 → rowBd (l.take (i + 1)) = [l[i].cells] := fun h => by subst h; rw [rowBd_snoc hil]; simp [rowBd]
    generalize l[i] = b at g hsn hone
    obtain ⟨bn, bsh, bda⟩ := b
    rcases hst with ⟨rfl, rfl⟩ | ⟨h0, rfl⟩
    · have hone := hone rfl
      repeat' first|refine sY ⟨?_⟩|(refine sq ?_ ?_<;>refine fun h=>⟨?_⟩<;>(first|contradiction|(exfalso;omega)|skip))|fail
      conv => whnf
      refine ⟨Nat.le_of_ble_eq_true rfl, fun h => Nat.succ_ne_zero _ (congrArg List.length h), ?_⟩
      repeat' first|refine sY ⟨?_⟩|(refine sq ?_ ?_<;>refine fun h=>⟨?_⟩<;>(first|contradiction|(exfalso;omega)|skip))|fail
      all_goals exact ⟨[2], l.length - (0 + 1), rfl, by omega, 0 + 1, by omega, rfl, .inr ⟨by omega, Eq.trans rfl (congrArg (fun z : List (List AV) => (⟨[(3, .own 0 0 z.length), (6, .ro 3 (rowBd l)), (7, .int .i64 ((rowBd l).length : Nat)), (8, .int .i64 ((0 + 1 : Nat) : Int))], [.row false 65 3 z]⟩ : St)) hone.symm)⟩⟩
    · repeat' first|refine sY ⟨?_⟩|(refine sq ?_ ?_<;>refine fun h=>⟨?_⟩<;>(first|contradiction|(exfalso;omega)|skip))|fail
      refine ⟨Nat.le_refl _, (show ((rowBd (l.take i)).length + 1) * 64 ≤ 140737488355328 by omega), _, hsn, ?_⟩
      repeat' first|refine sY ⟨?_⟩|(refine sq ?_ ?_<;>refine fun h=>⟨?_⟩<;>(first|contradiction|(exfalso;omega)|skip))|fail
      all_goals exact ⟨[3], l.length - (i + 1), rfl, by omega, i + 1, by omega, rfl, .inr ⟨by omega, rfl⟩⟩
  · have e : l.take i = l := List.take_of_length_le (by omega)
    rcases hst with ⟨h0, rfl⟩ | ⟨h0, rfl⟩
    · obtain rfl : l = [] := List.length_eq_zero_iff.1 (by omega)
      repeat' first|refine sY ⟨?_⟩|(refine sq ?_ ?_<;>refine fun h=>⟨?_⟩<;>(first|contradiction|(exfalso;omega)|skip))|fail
      all_goals (conv => whnf)
      all_goals exact ⟨_, (show RoTo .nils (.ro 3 []) from ⟨3, rfl⟩), rfl⟩
    · rw [e]
      repeat' first|refine sY ⟨?_⟩|(refine sq ?_ ?_<;>refine fun h=>⟨?_⟩<;>(first|contradiction|(exfalso;omega)|skip))|fail
      all_goals (conv => whnf)
      all_goals exact ⟨_, rfl, rfl⟩
noncomputable def lossR (bs : List Bd) (g : Gr) : Rat := atR (valAt (bdB bs) g.nodes g.loss.toNat) 0
theorem loss_val {bs : List Bd} {g : Gr} (hg : grOK g = true) (hlen : ∀ j x, g.nodes[j]? = some x → (((valAt (bdB bs) g.nodes j).length : Nat) : Int) = prodZ x.shape) {q : Nat} (hq1 : g.loss = q) (hq : q < g.nodes.length) : valAt (bdB bs) g.nodes q = [lossR bs g] := by
  have hs : shAt g.nodes g.loss = [] := by
    simp only [grOK, preG, Bool.and_eq_true, decide_eq_true_eq] at hg
    exact hg.1.2
  rw [hq1, shAt_nat hq] at hs
  have hl := hlen q _ (List.getElem?_eq_getElem hq)
  rw [hs, show prodZ [] = 1 from rfl] at hl
  obtain ⟨v, hv⟩ : ∃ v, valAt (bdB bs) g.nodes q = [v] := List.length_eq_one_iff.1 (by omega)
  rw [lossR, hq1, Int.toNat_natCast, hv]; rfl
set_option maxHeartbeats 2000000 in
theorem c_eLoss (bs : List Bd) (g : Gr) (hs : ∀ x ∈ g.nodes, x.Sm) (hl : g.nodes.length ≤ 1000) (hbl : bs.length ≤ 1000) (hbs : ∀ b ∈ bs, b.Sm) (hG : grOK g = true → GoodV (bdB bs) g.nodes)
    (hlen : grOK g = true → ∀ j x, g.nodes[j]? = some x → (((valAt (bdB bs) g.nodes j).length : Nat) : Int) = prodZ x.shape) :
    VCall Go.Proofs.Tryz.prog GL 33 [.agg g.cells, .ro 3 (rowBd bs)]
      (fun y => y = if grOK g = true then (if allOKB bs g.nodes = true then .tup [.str (ratB (lossR bs g)), .int .i64 0] else .tup [.str ⟨#[]⟩, .int .i64 10]) else .tup [.str ⟨#[]⟩, .int .i64 1]) := by
  have ha := c_eAll bs g hs hl hbl hbs hG
  cases hok : grOK g
  · rw [hok, if_neg (by simp)] at ha
    rw [if_neg (by simp)]
    obtain ⟨l, p⟩ := g
    refine vcall_of TOK_eLoss HM Go.Proofs.Tryz.func33 rfl (by decide +kernel) (by decide +kernel) rfl ?_
    repeat' first|refine sY ⟨?_⟩|(refine sq ?_ ?_<;>refine fun h=>⟨?_⟩<;>(first|contradiction|(exfalso;omega)|skip))|fail
    all_goals (conv => whnf)
    all_goals rfl
  rw [hok, if_pos rfl] at ha
  rw [if_pos rfl]
  cases hall : allOKB bs g.nodes
  · rw [hall, if_neg (by simp)] at ha
    rw [if_neg (by simp)]
    obtain ⟨l, p⟩ := g
    refine vcall_of TOK_eLoss HM Go.Proofs.Tryz.func33 rfl (by decide +kernel) (by decide +kernel) rfl ?_
    repeat' first|refine sY ⟨?_⟩|(refine sq ?_ ?_<;>refine fun h=>⟨?_⟩<;>(first|contradiction|(exfalso;omega)|skip))|fail
    all_goals (conv => whnf)
    all_goals rfl
  rw [hall, if_pos rfl] at ha
  rw [if_pos rfl]
  obtain ⟨h1, h2, q, hq1, hq⟩ := ok_pre hok
  have hv := loss_val hok (hlen hok) hq1 hq
  generalize lossR bs g = v at hv ⊢
  have gq : (rowTs (bdB bs) g.nodes g.nodes.length)[q]? = some [.ro 1 (rowZ (shAt g.nodes (q : Nat))), .ro 1 [[.str (ratB v)]]] := by rw [rowTs_get hq, tcE, hv]; rfl
  have htl := rowTs_len (bdB bs) g.nodes g.nodes.length
  generalize rowTs (bdB bs) g.nodes g.nodes.length = R at ha gq htl
  generalize shAt g.nodes (q : Nat) = sh at gq
  obtain ⟨l, p⟩ := g
  dsimp only at hq1 hq ha htl
  subst hq1
  refine vcall_of TOK_eLoss HM Go.Proofs.Tryz.func33 rfl (by decide +kernel) (by decide +kernel) rfl ?_
  repeat' first|refine sY ⟨?_⟩|(refine sq ?_ ?_<;>refine fun h=>⟨?_⟩<;>(first|contradiction|(exfalso;omega)|skip))|fail
  all_goals (conv => whnf)
  all_goals rfl
def G12 : Gr := ⟨[⟨sParam, 0, 0, ⟨#[119]⟩, [], ⟨#[]⟩, 0, []⟩, ⟨sScale, 0, 0, ⟨#[]⟩, [], ⟨#[50]⟩, 0, []⟩], 1⟩
def B12 : List Bd := [⟨⟨#[119]⟩, [], [⟨#[51]⟩]⟩]
theorem G12_ok : grOK G12 = true := by decide +kernel
theorem G12_sm : ∀ x ∈ G12.nodes, x.Sm := fun x hx => by
  simp only [G12, List.mem_cons, List.not_mem_nil, or_false] at hx
  rcases hx with rfl | rfl
  · exact ⟨by decide, by decide, by decide, by decide, fun d hd => by simp at hd⟩
  · exact ⟨by decide, by decide, by decide, by decide, fun d hd => by simp at hd⟩
theorem B12_sm : ∀ b ∈ B12, b.Sm := fun b hb => by
  simp only [B12, List.mem_cons, List.not_mem_nil, or_false] at hb
  subst hb
  exact ⟨by decide, by decide, by decide, fun d hd => by simp at hd; subst hd; decide⟩
theorem given_len {bd : Nd → List Rat} {l : List Nd} {c : Nat} (G : Given bd l c) : ∀ j x, l[j]? = some x → (((valAt bd l j).length : Nat) : Int) = prodZ x.shape := fun j x hx => (hi_all G j x hx).len
theorem G12_v0 : valAt (bdB B12) G12.nodes 0 = [3] := by
  rw [valAt_eq (x := ⟨sParam, 0, 0, ⟨#[119]⟩, [], ⟨#[]⟩, 0, []⟩) rfl, valN, if_pos (by decide)]
  have h : okT ([] : List Int) [⟨#[51]⟩] = true := by decide +kernel
  show (if okT ([] : List Int) [⟨#[51]⟩] = true ∧ ([] : List Int) = [] then [ratV ⟨#[51]⟩] else zerosR []) = [3]
  rw [if_pos ⟨h, rfl⟩, show (⟨#[51]⟩ : ByteArray) = ratB 3 by decide +kernel, ratV_ratB]
theorem G12_v1 : valAt (bdB B12) G12.nodes 1 = [6] := by
  rw [valAt_eq (x := ⟨sScale, 0, 0, ⟨#[]⟩, [], ⟨#[50]⟩, 0, []⟩) rfl, valN, if_neg (by decide)]
  show List.map (fun x : Rat => x * ratV ⟨#[50]⟩) ((vals (bdB B12) G12.nodes 1)[((0 : Nat) : Int).toNat]?.getD []) = [6]
  rw [vals_at (by decide) (by decide), G12_v0, show (⟨#[50]⟩ : ByteArray) = ratB 2 by decide +kernel, ratV_ratB]
  decide +kernel
theorem c_awake12 : VCall Go.Proofs.Tryz.prog GL 30 [] (fun r => r = .bool true) := by
  have h1 := c_eLoss B12 G12 G12_sm (by decide) (by decide) B12_sm (fun _ => calm_good G12_ok G12_sm B12 B12_sm (by decide +kernel)) (fun _ => given_len (calm_given G12_ok G12_sm B12 B12_sm (by decide +kernel)))
  have h2 := c_eLoss [] G12 G12_sm (by decide) (by decide) (fun b hb => by simp at hb) (fun _ => calm_good G12_ok G12_sm [] (fun b hb => by simp at hb) (by decide +kernel)) (fun _ => given_len (calm_given G12_ok G12_sm [] (fun b hb => by simp at hb) (by decide +kernel)))
  rw [G12_ok, if_pos rfl, if_pos (show allOKB B12 G12.nodes = true by decide +kernel)] at h1
  rw [G12_ok, if_pos rfl, if_neg (show ¬ allOKB [] G12.nodes = true by decide +kernel)] at h2
  have hl : lossR B12 G12 = 6 := by
    show atR (valAt (bdB B12) G12.nodes 1) 0 = 6
    rw [G12_v1]; rfl
  rw [hl, show ratB 6 = ⟨#[54]⟩ by decide +kernel] at h1
  have a : AsRoL [.agg [.ro 8 [[.str sParam, .int .i64 0, .int .i64 0, .str ⟨#[119]⟩, .nils, .str ⟨#[]⟩, .int .i64 0, .nils], [.str sScale, .int .i64 0, .int .i64 0, .str ⟨#[]⟩, .nils, .str ⟨#[50]⟩, .int .i64 0, .nils]], .int .i64 1]] [.agg G12.cells] :=
    ⟨_, _, rfl, ⟨_, rfl, _, _, rfl, ⟨_, rfl, _, _, rfl, ⟨_, _, rfl, rfl, _, _, rfl, rfl, _, _, rfl, rfl, _, _, rfl, rfl, _, _, rfl, asRo_nils 1, _, _, rfl, rfl, _, _, rfl, rfl, _, _, rfl, asRo_nils 1, rfl⟩,
      _, _, rfl, ⟨_, _, rfl, rfl, _, _, rfl, rfl, _, _, rfl, rfl, _, _, rfl, rfl, _, _, rfl, asRo_nils 1, _, _, rfl, rfl, _, _, rfl, rfl, _, _, rfl, asRo_nils 1, rfl⟩, rfl⟩, _, _, rfl, rfl, rfl⟩, rfl⟩
  obtain ⟨y, r, e, a, hr⟩ := a
  cases e
  have h1 := h1.args (xs := [.agg [.ro 8 [[.str sParam, .int .i64 0, .int .i64 0, .str ⟨#[119]⟩, .nils, .str ⟨#[]⟩, .int .i64 0, .nils], [.str sScale, .int .i64 0, .int .i64 0, .str ⟨#[]⟩, .nils, .str ⟨#[50]⟩, .int .i64 0, .nils]], .int .i64 1], .ro 3 [[.str ⟨#[119]⟩, .nils, .ro 1 [[.str ⟨#[51]⟩]]]]])
    ⟨_, _, rfl, a, _, _, rfl, ⟨_, rfl, _, _, rfl, ⟨_, _, rfl, rfl, _, _, rfl, asRo_nils 1, _, _, rfl, asRo_refl _, rfl⟩, rfl⟩, rfl⟩
  have h2 := h2.args (xs := [.agg [.ro 8 [[.str sParam, .int .i64 0, .int .i64 0, .str ⟨#[119]⟩, .nils, .str ⟨#[]⟩, .int .i64 0, .nils], [.str sScale, .int .i64 0, .int .i64 0, .str ⟨#[]⟩, .nils, .str ⟨#[50]⟩, .int .i64 0, .nils]], .int .i64 1], .ro 3 []])
    ⟨_, _, rfl, a, _, _, rfl, asRo_refl _, rfl⟩
  refine vcall_of TOK_awake12 HM Go.Proofs.Tryz.func30 rfl (by decide +kernel) (by decide +kernel) rfl ?_
  repeat' first|refine sY ⟨?_⟩|(refine sq ?_ ?_<;>refine fun h=>⟨?_⟩<;>(first|contradiction|(exfalso;omega)|skip))|fail
  all_goals (conv => whnf)
  all_goals rfl
end Go.V
