/-
  Lemmas (part 12) for: What fold.Fold makes of any graph is what the document says (FoldMakes, FoldAll, FoldNames, FoldLeaves hold for every graph); no condition.
-/
import Derived.Test.YtndiceggidmgkaaGreatDoorFold5
import Derived.Test.YtndiceggidmgkaaGreatDoorFold8
import Derived.Test.YtndiceggidmgkaaGreatDoorFold10
import Derived.Test.YtndiceggidmgkaaGreatDoorFold11
set_option linter.all false
namespace Go.V
open Go.N
set_option maxRecDepth 20000
def allOps : List Opc := [.param, .input, .const, .relu, .abs, .step, .sign, .scale, .power, .transpose, .sum, .reshape, .spread, .add, .sub, .mul, .max, .above, .matmul]
def opcOf (s : ByteArray) : Opc := (allOps.find? fun o => decide (s = o.str)).getD .param
theorem opcOf_str (o : Opc) : opcOf o.str = o := by cases o <;> rfl
theorem wList_take {l : List Nd} {i : Nat} : ∀ {j : Nat}, i ≤ j → j ≤ l.length → wList l i = (wList l j).take i
  | 0, h, _ => by obtain rfl : i = 0 := by omega
                  rfl
  | j + 1, h, hj => by
    rcases Nat.lt_or_ge j i with h1 | h1
    · obtain rfl : i = j + 1 := by omega
      rw [List.take_of_length_le (by rw [wList_len _ hj]; exact Nat.le_refl _)]
    · rw [wList_step (by omega), List.take_append_of_le_length (by rw [wList_len _ (by omega)]; exact h1)]
      exact wList_take h1 (by omega)
def wAt (l : List Nd) (j : Nat) : Int := (wList l l.length)[j]?.getD 1
theorem wAt_in (l : List Nd) (j : Nat) : 1 ≤ wAt l j ∧ wAt l j ≤ 100000 := by
  unfold wAt
  cases h : (wList l l.length)[j]? with
  | none => exact ⟨by decide, by decide⟩
  | some w => exact wList_in l.length (Nat.le_refl _) w (List.mem_of_getElem? h)
theorem wAt_max (l : List Nd) (j : Nat) : wAt l j ≤ maxL (wList l l.length) := by
  have h1 : ∀ (w : List Int) (b : Int), b ≤ w.foldl (fun m x => if m < x then x else m) b ∧ ∀ x ∈ w, x ≤ w.foldl (fun m x => if m < x then x else m) b := fun w => by
    induction w with
    | nil => intro b; exact ⟨Int.le_refl _, fun x hx => by simp at hx⟩
    | cons y w ih =>
      intro b
      rw [List.foldl_cons]
      have h2 := ih (if b < y then y else b)
      have h3 : b ≤ (if b < y then y else b) ∧ y ≤ (if b < y then y else b) := by split <;> omega
      refine ⟨by omega, fun x hx => ?_⟩
      rcases List.mem_cons.1 hx with rfl | hx
      · omega
      · exact h2.2 x hx
  unfold wAt
  cases h : (wList l l.length)[j]? with
  | none => exact (h1 _ 1).1
  | some w => exact (h1 _ 1).2 w (List.mem_of_getElem? h)
theorem wAt_eq {l : List Nd} {j : Nat} {x : Nd} (hx : l[j]? = some x) : wAt l j = betw (wRaw x.op (partZw (wList l j) x.a) (partZw (wList l j) x.b) (wShape l j x) x.n) 100000 := by
  obtain ⟨h, rfl⟩ := List.getElem?_eq_some_iff.1 hx
  have h1 := wList_take (l := l) (i := j + 1) (j := l.length) (by omega) (Nat.le_refl _)
  have h2 : (wList l (j + 1))[j]? = some (wNode l (wList l j) j l[j]) := by
    have := wList_len (l := l) j (by omega)
    rw [wList_step h, List.getElem?_append_right (by omega), this, Nat.sub_self]; rfl
  rw [h1, List.getElem?_take_of_lt (by omega)] at h2
  rw [wAt, h2]; rfl
theorem partZw_at {l : List Nd} {p j : Nat} (hp : p < j) (hj : j ≤ l.length) : partZw (wList l j) (p : Nat) = wAt l p := by
  have hl := wList_len (l := l) j hj
  rw [partZw, if_pos ⟨by omega, by rw [Int.toNat_natCast, hl]; exact hp⟩, Int.toNat_natCast, wAt, wList_take hj (Nat.le_refl _), List.getElem?_take_of_lt hp]
theorem betw_eq {n m : Int} (h1 : 1 ≤ n) (h2 : n ≤ m) : betw n m = n := by rw [betw, if_neg (by omega), if_neg (by omega)]
theorem manyZ_ok {s : List Int} (h : okShape s = true) : manyZ s = prodZ s := by
  have hd := okShape_dim h
  have h4 := okShape_len h
  have : ∀ i, i ≤ s.length → manyZ (s.take i) = prodZ (s.take i) := fun i => by
    induction i with
    | zero => intro _; rfl
    | succ i ih =>
      intro hi
      have h1 := okShape_mid h (i + 1)
      have h2 := hd s[i] (List.getElem_mem (by omega))
      rw [prodZ_take (by omega)] at h1 ⊢
      rw [manyZ_step (by omega) (by omega), ih (by omega), betw_eq h2.1 h2.2, betw_eq h1.1 h1.2]
  have := this s.length (Nat.le_refl _)
  rwa [List.take_length] at this
noncomputable def valN (bd : Nd → List Rat) (l : List Nd) (vs : List (List Rat)) (x : Nd) : List Rat :=
  if namedOp x.op = true then bd x else valO (opcOf x.op) x.shape x.k x.n x.data (shAt l x.a) (vs[x.a.toNat]?.getD []) (shAt l x.b) (vs[x.b.toNat]?.getD [])
noncomputable def vals (bd : Nd → List Rat) (l : List Nd) : Nat → List (List Rat)
  | 0 => []
  | i + 1 => match l[i]? with
    | none => vals bd l i
    | some x => vals bd l i ++ [valN bd l (vals bd l i) x]
theorem vals_step {bd : Nd → List Rat} {l : List Nd} {i : Nat} {x : Nd} (h : l[i]? = some x) : vals bd l (i + 1) = vals bd l i ++ [valN bd l (vals bd l i) x] := by simp only [vals, h]
theorem vals_len {bd : Nd → List Rat} {l : List Nd} : ∀ i, i ≤ l.length → (vals bd l i).length = i
  | 0, _ => rfl
  | i + 1, h => by rw [vals_step (List.getElem?_eq_getElem (by omega)), List.length_append, vals_len i (by omega)]; rfl
theorem vals_take {bd : Nd → List Rat} {l : List Nd} {i : Nat} : ∀ {j : Nat}, i ≤ j → j ≤ l.length → vals bd l i = (vals bd l j).take i
  | 0, h, _ => by obtain rfl : i = 0 := by omega
                  rfl
  | j + 1, h, hj => by
    rcases Nat.lt_or_ge j i with h1 | h1
    · obtain rfl : i = j + 1 := by omega
      rw [List.take_of_length_le (by rw [vals_len _ hj]; exact Nat.le_refl _)]
    · rw [vals_step (List.getElem?_eq_getElem (by omega)), List.take_append_of_le_length (by rw [vals_len _ (by omega)]; exact h1)]
      exact vals_take h1 (by omega)
noncomputable def valAt (bd : Nd → List Rat) (l : List Nd) (j : Nat) : List Rat := (vals bd l l.length)[j]?.getD []
theorem valAt_eq {bd : Nd → List Rat} {l : List Nd} {j : Nat} {x : Nd} (hx : l[j]? = some x) : valAt bd l j = valN bd l (vals bd l j) x := by
  have h := (List.getElem?_eq_some_iff.1 hx).1
  have h1 := vals_take (bd := bd) (l := l) (i := j + 1) (j := l.length) (by omega) (Nat.le_refl _)
  have h2 : (vals bd l (j + 1))[j]? = some (valN bd l (vals bd l j) x) := by
    have := vals_len (bd := bd) (l := l) j (by omega)
    rw [vals_step hx, List.getElem?_append_right (by omega), this, Nat.sub_self]; rfl
  rw [h1, List.getElem?_take_of_lt (by omega)] at h2
  rw [valAt, h2]; rfl
theorem vals_at {bd : Nd → List Rat} {l : List Nd} {p j : Nat} (hp : p < j) (hj : j ≤ l.length) : (vals bd l j)[(p : Int).toNat]?.getD [] = valAt bd l p := by
  rw [Int.toNat_natCast, valAt, vals_take hj (Nat.le_refl _), List.getElem?_take_of_lt hp]
theorem shAt_take {l : List Nd} {p j : Nat} (hp : p < j) : shAt (l.take j) (p : Nat) = shAt l (p : Nat) := by
  rw [shAt, shAt, Int.toNat_natCast, List.getElem?_take_of_lt hp]
theorem FitV.any {o : Opc} {s : List Int} {k : ByteArray} {n : Int} {d : List ByteArray} {sa sa' : List Int} {a a' : List Rat} {sb sb' : List Int} {b b' r : List Rat} (h : FitV o s k n d sa a sb b r)
    (ha : 0 < o.many → sa' = sa ∧ a' = a) (hb : 1 < o.many → sb' = sb ∧ b' = b) : FitV o s k n d sa' a' sb' b' r := by
  cases h <;> (first | (have e := ha (by decide); obtain ⟨rfl, rfl⟩ := e) | skip) <;> (first | (have e := hb (by decide); obtain ⟨rfl, rfl⟩ := e) | skip) <;> constructor <;> assumption
def GoodV (bd : Nd → List Rat) (l : List Nd) : Prop := ∀ (j : Nat) (x : Nd) (o : Opc), l[j]? = some x → x.op = o.str → namedOp x.op = false → ∀ (sa : List Int) (a : List Rat) (sb : List Int) (b : List Rat),
  (0 < o.many → sa = shAt l x.a ∧ a = valAt bd l x.a.toNat) → (1 < o.many → sb = shAt l x.b ∧ b = valAt bd l x.b.toNat) → FitV o x.shape x.k x.n x.data sa a sb b (valAt bd l j)
structure Hi (bd : Nd → List Rat) (l : List Nd) (c : Nat) (j : Nat) (x : Nd) : Prop where
  ok : okShape x.shape = true
  len : (((valAt bd l j).length : Nat) : Int) = prodZ x.shape
  mm : ∀ y ∈ valAt bd l j, MM y ≤ 10 ^ (c * (wAt l j).toNat)
structure Given (bd : Nd → List Rat) (l : List Nd) (c : Nat) : Prop where
  two : 2 ≤ c
  right : ∀ i x, l[i]? = some x → inferN (l.take i) x = some x.shape
  data : ∀ x ∈ l, ∀ d ∈ x.data, ratOK d = true → MM (ratV d) ≤ 10 ^ c
  k : ∀ x ∈ l, ratOK x.k = true → MM (ratV x.k) ≤ 10 ^ c
  ks : ∀ x ∈ l, x.k.size ≤ 1000
  bdl : ∀ x ∈ l, namedOp x.op = true → (((bd x).length : Nat) : Int) = prodZ x.shape
  bdm : ∀ x ∈ l, namedOp x.op = true → ∀ y ∈ bd x, MM y ≤ 10 ^ c
  w : ∀ j, j < l.length → (c : Int) * wAt l j ≤ 400
theorem infer_ok {l : List Nd} {x : Nd} {o : Opc} (ho : x.op = o.str) (h : inferN l x = some x.shape) : Fit l x o.many ∧ okZ (ofZ x (if o.many = 0 then [] else shAt l x.a) (if o.many < 2 then [] else shAt l x.b)) = some x.shape := by
  have hp : opParts x.op = some o.many := by rw [ho, opc_many]
  cases hf : fitN l x o.many with
  | false => rw [inferN_bad hp hf] at h; cases h
  | true => rw [inferN_ok hp hf] at h; exact ⟨(fit_iff _ _ _).1 hf, h⟩
theorem c_mul {c : Nat} {w v : Int} (h : w ≤ v) (hv : (c : Int) * v ≤ 400) : (c : Int) * w ≤ 400 := Int.le_trans (Int.mul_le_mul_of_nonneg_left h (by omega)) hv
theorem exp_w {o : Opc} {n : Int} {sa : List Int} {m c wa wb : Nat} {A B : Int} {name : ByteArray} {s : List Int} {k : ByteArray} {d : List ByteArray} {sb : List Int}
    (hz : okZ (ofZ ⟨o.str, A, B, name, s, k, n, d⟩ sa sb) = some s) (hok : 0 < o.many → okShape sa = true) (hm : 0 < o.many → (m : Int) = prodZ sa) (h1 : 1 ≤ wa) (h2 : 1 ≤ c) :
    expO o n sa m (c * wa) (c * wb) c c ≤ c * (wRawO o (wa : Nat) (wb : Nat) sa n).toNat := by
  have hx : ∀ {p q : Nat}, p = q → c * p ≤ c * q := fun h => Nat.mul_le_mul_left c (Nat.le_of_eq h)
  cases o
  case sum =>
    show m * (c * wa) ≤ c * (manyZ sa * (wa : Nat)).toNat
    rw [manyZ_ok (hok (by decide)), ← hm (by decide), Nat.mul_left_comm]
    exact hx (by rw [← Int.natCast_mul, Int.toNat_natCast])
  case matmul =>
    obtain ⟨hz, _⟩ := okZ_some hz
    have h2 : sa.length = 2 := by
      by_cases h : sa.length = 2 ∧ sb.length = 2 ∧ sa[1]? = sb[0]?
      · exact h.1
      · rw [show ofZ ⟨Opc.str .matmul, A, B, name, s, k, n, d⟩ sa sb = _ from matmul_not h] at hz
        cases hz
    obtain ⟨p, q, rfl⟩ := two_of h2
    have hq := okShape_dim (hok (by decide)) q (by simp)
    obtain ⟨q, rfl⟩ : ∃ m : Nat, q = m := ⟨q.toNat, by omega⟩
    show (q : Int).toNat * (c * wa + c * wb) ≤ c * (betw (q : Nat) 64 * ((wa : Nat) + (wb : Nat) : Int)).toNat
    rw [betw_eq hq.1 hq.2, ← Nat.mul_add, Int.toNat_natCast, Nat.mul_left_comm]
    exact hx (by rw [← Int.natCast_add, ← Int.natCast_mul, Int.toNat_natCast])
  case power =>
    obtain ⟨hz, _⟩ := okZ_some hz
    rw [show ofZ ⟨Opc.str .power, A, B, name, s, k, n, d⟩ sa sb = (sa, decide (0 ≤ n) && decide (n ≤ 6)) from rfl] at hz
    have hn := congrArg Prod.snd hz
    simp only [Bool.and_eq_true, decide_eq_true_eq] at hn
    obtain ⟨n, rfl⟩ : ∃ m : Nat, n = m := ⟨n.toNat, by omega⟩
    have e : betw (n : Nat) 6 = ((max 1 n : Nat) : Int) := by
      unfold betw
      split
      · omega
      · rw [if_neg (by omega)]; omega
    show c * wa * max 1 ((n : Int).toNat) ≤ c * ((wa : Nat) * betw (n : Nat) 6 : Int).toNat
    rw [e, Nat.mul_assoc, Int.toNat_natCast]
    exact hx (by rw [← Int.natCast_mul, Int.toNat_natCast])
  all_goals dsimp only [expO, wRawO]
  all_goals first
    | (rw [← Nat.mul_add]; exact hx (by omega))
    | exact hx (by omega)
    | (rw [show c * wa + c = c * (wa + 1) from rfl]; exact hx (by omega))
    | (show 1 ≤ c * 1; omega)
    | (exact Nat.le_of_eq (Nat.mul_one c).symm)
theorem part_of {l : List Nd} {j : Nat} {p : Int} (h : inR p (l.take j) = true) : ∃ q : Nat, p = q ∧ q < j ∧ q < l.length := by
  obtain ⟨q, hq, hl⟩ := inR_nat h
  rw [List.length_take] at hl
  exact ⟨q, hq, by omega, by omega⟩
theorem wRawO_any {o : Opc} {xa xa' xb xb' : Int} {s s' : List Int} {n : Int} (ha : 0 < o.many → xa = xa' ∧ s = s') (hb : 1 < o.many → xb = xb') : wRawO o xa xb s n = wRawO o xa' xb' s' n := by
  cases o <;> (first | (have e := ha (by decide); obtain ⟨rfl, rfl⟩ := e) | skip) <;> (first | (have e := hb (by decide); obtain rfl := e) | skip) <;> rfl
theorem valO_any {o : Opc} {s : List Int} {k : ByteArray} {n : Int} {d : List ByteArray} {sa sa' : List Int} {a a' : List Rat} {sb sb' : List Int} {b b' : List Rat}
    (ha : 0 < o.many → sa = sa' ∧ a = a') (hb : 1 < o.many → sb = sb' ∧ b = b') : valO o s k n d sa a sb b = valO o s k n d sa' a' sb' b' := by
  cases o <;> (first | (have e := ha (by decide); obtain ⟨rfl, rfl⟩ := e) | skip) <;> (first | (have e := hb (by decide); obtain ⟨rfl, rfl⟩ := e) | skip) <;> rfl
theorem betw_le {n : Int} (h : betw n 100000 ≤ 400) : n ≤ betw n 100000 := by
  unfold betw at h ⊢
  split at h
  · rw [if_pos (by assumption)]; omega
  · split at h
    · omega
    · rw [if_neg (by assumption), if_neg (by assumption)]; exact Int.le_refl _
theorem hi_step {bd : Nd → List Rat} {l : List Nd} {c : Nat} (G : Given bd l c) {j : Nat} {x : Nd} {o : Opc} (ho : x.op = o.str) (hx : l[j]? = some x) (ih : ∀ p y, p < j → l[p]? = some y → Hi bd l c p y) :
    Hi bd l c j x ∧ (namedOp x.op = false → FitV o x.shape x.k x.n x.data (if o.many = 0 then [] else shAt l x.a) (if o.many = 0 then [] else valAt bd l x.a.toNat) (if o.many < 2 then [] else shAt l x.b) (if o.many < 2 then [] else valAt bd l x.b.toNat) (valAt bd l j)) := by
  have hj := (List.getElem?_eq_some_iff.1 hx).1
  have hmem : x ∈ l := List.mem_of_getElem? hx
  have hin := G.right j x hx
  obtain ⟨F, hz⟩ := infer_ok ho hin
  have hwj := wAt_in l j
  have hcw := G.w j hj
  have h2 := G.two
  have e0 := valAt_eq (bd := bd) hx
  cases hnm : namedOp x.op with
  | true =>
    have hok : okShape x.shape = true := (okZ_some hz).2
    have e1 : valAt bd l j = bd x := by rw [e0, valN, hnm, if_pos rfl]
    refine ⟨⟨hok, by rw [e1]; exact G.bdl x hmem hnm, fun y hy => ?_⟩, fun h => absurd h (by simp)⟩
    rw [e1] at hy
    exact Nat.le_trans (G.bdm x hmem hnm y hy) (ten_mono (Nat.le_mul_of_pos_right _ (by omega)))
  | false =>
    have hpa : 0 < o.many → ∃ q : Nat, x.a = q ∧ q < j ∧ q < l.length := fun h => part_of (F.ia h)
    have hpb : 1 < o.many → ∃ q : Nat, x.b = q ∧ q < j ∧ q < l.length := fun h => part_of (F.ib h)
    have ea : (if o.many = 0 then [] else shAt (l.take j) x.a) = if o.many = 0 then [] else shAt l x.a := by
      rcases Nat.eq_zero_or_pos o.many with h | h
      · rw [if_pos h, if_pos h]
      · obtain ⟨q, hq, h3, _⟩ := hpa h
        rw [if_neg (by omega), if_neg (by omega), hq, shAt_take h3]
    have eb : (if o.many < 2 then [] else shAt (l.take j) x.b) = if o.many < 2 then [] else shAt l x.b := by
      rcases Nat.lt_or_ge o.many 2 with h | h
      · rw [if_pos h, if_pos h]
      · obtain ⟨q, hq, h3, _⟩ := hpb h
        rw [if_neg (by omega), if_neg (by omega), hq, shAt_take h3]
    rw [ea, eb] at hz
    clear ea eb
    have hsw : 0 < o.many → wShape l j x = shAt l x.a := fun h => by
      obtain ⟨q, hq, h3, _⟩ := hpa h
      rw [wShape, hq, if_pos ⟨by omega, by omega⟩]
    have hc1 : c * 1 ≤ 400 := by
      have := c_mul hwj.1 hcw
      omega
    obtain ⟨wa, hwa1, hwa2, hwa3, hwa4⟩ : ∃ wa : Nat, 1 ≤ wa ∧ c * wa ≤ 400 ∧ (0 < o.many → (wa : Int) = wAt l x.a.toNat) ∧ (0 < o.many → partZw (wList l j) x.a = (wa : Int)) := by
      by_cases hm : 0 < o.many
      · obtain ⟨q, hq, h3, h4⟩ := hpa hm
        have h := wAt_in l q
        have hw := G.w q h4
        refine ⟨(wAt l q).toNat, by omega, ?_, fun _ => ?_, fun _ => ?_⟩
        · have e : ((wAt l q).toNat : Int) = wAt l q := Int.toNat_of_nonneg (by omega)
          rw [← e, ← Int.natCast_mul] at hw; omega
        · rw [hq, Int.toNat_natCast]; exact Int.toNat_of_nonneg (by omega)
        · rw [hq, partZw_at h3 (by omega)]; exact (Int.toNat_of_nonneg (by omega)).symm
      · exact ⟨1, Nat.le_refl _, hc1, fun h => absurd h hm, fun h => absurd h hm⟩
    obtain ⟨wb, hwb1, hwb2, hwb3, hwb4⟩ : ∃ wb : Nat, 1 ≤ wb ∧ c * wb ≤ 400 ∧ (1 < o.many → (wb : Int) = wAt l x.b.toNat) ∧ (1 < o.many → partZw (wList l j) x.b = (wb : Int)) := by
      by_cases hm : 1 < o.many
      · obtain ⟨q, hq, h3, h4⟩ := hpb hm
        have h := wAt_in l q
        have hw := G.w q h4
        refine ⟨(wAt l q).toNat, by omega, ?_, fun _ => ?_, fun _ => ?_⟩
        · have e : ((wAt l q).toNat : Int) = wAt l q := Int.toNat_of_nonneg (by omega)
          rw [← e, ← Int.natCast_mul] at hw; omega
        · rw [hq, Int.toNat_natCast]; exact Int.toNat_of_nonneg (by omega)
        · rw [hq, partZw_at h3 (by omega)]; exact (Int.toNat_of_nonneg (by omega)).symm
      · exact ⟨1, Nat.le_refl _, hc1, fun h => absurd h hm, fun h => absurd h hm⟩
    have hw0 := wAt_eq hx
    rw [ho, wRaw_str, wRawO_any (xa' := (wa : Int)) (xb' := (wb : Int)) (s' := if o.many = 0 then [] else shAt l x.a) (fun h => ⟨hwa4 h, by rw [if_neg (by omega), hsw h]⟩) hwb4] at hw0
    have A1 : 0 < o.many → VT (shAt l x.a) (valAt bd l x.a.toNat) ∧ ∀ y ∈ valAt bd l x.a.toNat, MM y ≤ 10 ^ (c * wa) := fun h => by
      obtain ⟨q, hq, h3, h4⟩ := hpa h
      have H := ih q l[q] h3 (List.getElem?_eq_getElem h4)
      have hww := hwa3 h
      rw [hq] at hww ⊢
      rw [Int.toNat_natCast] at hww ⊢
      rw [shAt_nat h4]
      have e : (wAt l q).toNat = wa := by omega
      have hm := H.mm
      rw [e] at hm
      exact ⟨⟨H.ok, H.len, fun y hy => RS_of (hm y hy) (by omega)⟩, hm⟩
    have B1 : 1 < o.many → VT (shAt l x.b) (valAt bd l x.b.toNat) ∧ ∀ y ∈ valAt bd l x.b.toNat, MM y ≤ 10 ^ (c * wb) := fun h => by
      obtain ⟨q, hq, h3, h4⟩ := hpb h
      have H := ih q l[q] h3 (List.getElem?_eq_getElem h4)
      have hww := hwb3 h
      rw [hq] at hww ⊢
      rw [Int.toNat_natCast] at hww ⊢
      rw [shAt_nat h4]
      have e : (wAt l q).toNat = wb := by omega
      have hm := H.mm
      rw [e] at hm
      exact ⟨⟨H.ok, H.len, fun y hy => RS_of (hm y hy) (by omega)⟩, hm⟩
    have hval : valAt bd l j = valO o x.shape x.k x.n x.data (if o.many = 0 then [] else shAt l x.a) (if o.many = 0 then [] else valAt bd l x.a.toNat) (if o.many < 2 then [] else shAt l x.b) (if o.many < 2 then [] else valAt bd l x.b.toNat) := by
      rw [e0, valN, hnm, if_neg (by simp), ho, opcOf_str]
      refine valO_any (fun h => ?_) (fun h => ?_)
      · obtain ⟨q, hq, h3, h4⟩ := hpa h
        rw [if_neg (by omega), if_neg (by omega), hq, vals_at h3 (by omega), Int.toNat_natCast]
        exact ⟨rfl, rfl⟩
      · obtain ⟨q, hq, h3, h4⟩ := hpb h
        rw [if_neg (by omega), if_neg (by omega), hq, vals_at h3 (by omega), Int.toNat_natCast]
        exact ⟨rfl, rfl⟩
    clear e0 hpa hpb hsw ih
    have A2 : 0 < o.many → VT (if o.many = 0 then [] else shAt l x.a) (if o.many = 0 then [] else valAt bd l x.a.toNat) := fun h => by rw [if_neg (by omega), if_neg (by omega)]; exact (A1 h).1
    have A3 : ∀ y ∈ (if o.many = 0 then [] else valAt bd l x.a.toNat), MM y ≤ 10 ^ (c * wa) := fun y hy => by
      rcases Nat.eq_zero_or_pos o.many with h | h
      · rw [if_pos h] at hy; simp at hy
      · rw [if_neg (by omega)] at hy; exact (A1 h).2 y hy
    have B2 : 1 < o.many → VT (if o.many < 2 then [] else shAt l x.b) (if o.many < 2 then [] else valAt bd l x.b.toNat) := fun h => by rw [if_neg (by omega), if_neg (by omega)]; exact (B1 h).1
    have B3 : ∀ y ∈ (if o.many < 2 then [] else valAt bd l x.b.toNat), MM y ≤ 10 ^ (c * wb) := fun y hy => by
      rcases Nat.lt_or_ge o.many 2 with h | h
      · rw [if_pos h] at hy; simp at hy
      · rw [if_neg (by omega)] at hy; exact (B1 (by omega)).2 y hy
    have A4 : (if o.many = 0 then [] else valAt bd l x.a.toNat).length ≤ 64 := by
      rcases Nat.eq_zero_or_pos o.many with h | h
      · rw [if_pos h]; decide
      · exact (A2 h).vl.2
    generalize (if o.many = 0 then [] else shAt l x.a) = sa at *
    generalize (if o.many = 0 then [] else valAt bd l x.a.toNat) = a at *
    generalize (if o.many < 2 then [] else shAt l x.b) = sb at *
    generalize (if o.many < 2 then [] else valAt bd l x.b.toNat) = b at *
    have hdat := G.data x hmem
    have hk := G.k x hmem
    have hks := G.ks x hmem
    obtain ⟨op, A, B, name, s, k, n, d⟩ := x
    dsimp only at *
    subst ho
    have hexp := exp_w (m := a.length) (c := c) (wa := wa) (wb := wb) hz (fun h => (A2 h).ok) (fun h => (A2 h).len) hwa1 (by omega)
    have hle : (wRawO o (wa : Nat) (wb : Nat) sa n).toNat ≤ (wAt l j).toNat := by
      have h3 : wAt l j ≤ 400 := by
        have := Int.mul_le_mul_of_nonneg_right (show (1 : Int) ≤ c by omega) (show 0 ≤ wAt l j by omega)
        omega
      have := betw_le (n := wRawO o (wa : Nat) (wb : Nat) sa n) (by rw [← hw0]; exact h3)
      rw [← hw0] at this
      omega
    have hle2 : c * (wAt l j).toNat ≤ 400 := by
      have e : ((wAt l j).toNat : Int) = wAt l j := Int.toNat_of_nonneg (by omega)
      rw [← e, ← Int.natCast_mul] at hcw; omega
    have hexp2 := Nat.le_trans hexp (Nat.mul_le_mul_left c hle)
    have R := fit_of (o := o) (A := A) (B := B) (name := name) (s := s) (k := k) (n := n) (d := d) hnm hz A2 B2 ⟨A3, by have := Nat.mul_le_mul h2 hwa1; omega⟩ ⟨B3, by have := Nat.mul_le_mul h2 hwb1; omega⟩
      (by omega) (by omega) hk hks hdat (sum_pow 25600 A3 (Nat.le_trans (Nat.mul_le_mul A4 hwa2) (by decide)) (by decide) (by decide)) (by omega) (by omega) (by omega)
    rw [← hval] at R
    refine ⟨⟨(okZ_some hz).2, R.2.2, fun y hy => Nat.le_trans (R.2.1 y hy) (ten_mono hexp2)⟩, fun _ => R.1⟩
theorem opc_of {l : List Nd} {x : Nd} {s : List Int} (h : inferN l x = some s) : ∃ o : Opc, x.op = o.str := by
  rcases opc_cases x.op with h1 | h1
  · exact h1
  · rw [inferN_none h1] at h; cases h
theorem hi_all {bd : Nd → List Rat} {l : List Nd} {c : Nat} (G : Given bd l c) : ∀ (j : Nat) (x : Nd), l[j]? = some x → Hi bd l c j x := fun j => by
  induction j using Nat.strongRecOn with
  | _ j ih =>
    intro x hx
    obtain ⟨o, ho⟩ := opc_of (G.right j x hx)
    exact (hi_step G ho hx fun p y hp hy => ih p hp y hy).1
theorem good_of {bd : Nd → List Rat} {l : List Nd} {c : Nat} (G : Given bd l c) : GoodV bd l := fun j x o hx ho hn sa a sb b ha hb => by
  refine ((hi_step G ho hx fun p y _ hy => hi_all G p y hy).2 hn).any (fun h => ?_) (fun h => ?_)
  · rw [if_neg (by omega), if_neg (by omega)]; exact ha h
  · rw [if_neg (by omega), if_neg (by omega)]; exact hb h
end Go.V
namespace Go.V
open Go.N
set_option maxRecDepth 20000
def constN (s : List Int) (d : List ByteArray) : Nd := ⟨sConst, 0, 0, ⟨#[]⟩, s, ⟨#[]⟩, 0, d⟩
def opAt (l : List Nd) (i : Int) : ByteArray := match l[i.toNat]? with | some x => x.op | none => ⟨#[]⟩
theorem opAt_nat {l : List Nd} {k : Nat} {x : Nd} (h : l[k]? = some x) : opAt l k = x.op := by rw [opAt, Int.toNat_natCast, h]
def goes (l : List Nd) (x : Nd) : Bool := decide (0 < partsN x.op) && (decide (opAt l x.a = sConst) && (decide (partsN x.op < 2) || decide (opAt l x.b = sConst)))
noncomputable def foldN (out : List Nd) (x : Nd) (v : List Rat) : Nd := if goes out x = true then constN x.shape (v.map ratB) else x
noncomputable def foldTo (bd : Nd → List Rat) (l : List Nd) : Nat → List Nd
  | 0 => []
  | i + 1 => match l[i]? with
    | none => foldTo bd l i
    | some x => foldTo bd l i ++ [foldN (foldTo bd l i) x (valAt bd l i)]
noncomputable def foldG (bd : Nd → List Rat) (g : Gr) : Gr := ⟨foldTo bd g.nodes g.nodes.length, g.loss⟩
section
variable {bd : Nd → List Rat} {l : List Nd}
theorem foldTo_step {i : Nat} {x : Nd} (h : l[i]? = some x) : foldTo bd l (i + 1) = foldTo bd l i ++ [foldN (foldTo bd l i) x (valAt bd l i)] := by simp only [foldTo, h]
theorem foldTo_len : ∀ i, i ≤ l.length → (foldTo bd l i).length = i
  | 0, _ => rfl
  | i + 1, h => by rw [foldTo_step (List.getElem?_eq_getElem (by omega)), List.length_append, foldTo_len i (by omega)]; rfl
theorem foldTo_get {j : Nat} {x : Nd} (hx : l[j]? = some x) : ∀ {i : Nat}, j < i → i ≤ l.length → (foldTo bd l i)[j]? = some (foldN (foldTo bd l j) x (valAt bd l j))
  | 0, h, _ => absurd h (Nat.not_lt_zero _)
  | i + 1, h, hi => by
    have hl := foldTo_len (bd := bd) (l := l) i (by omega)
    rcases Nat.lt_or_ge j i with h1 | h1
    · rw [foldTo_step (List.getElem?_eq_getElem (by omega)), List.getElem?_append_left (by omega)]
      exact foldTo_get hx h1 (by omega)
    · obtain rfl : j = i := by omega
      rw [foldTo_step hx, List.getElem?_append_right (by omega), hl, Nat.sub_self]; rfl
theorem foldTo_same {j i k : Nat} (h1 : j < i) (h2 : i ≤ l.length) (h3 : j < k) (h4 : k ≤ l.length) : (foldTo bd l i)[j]? = (foldTo bd l k)[j]? := by
  have hx : l[j]? = some l[j] := List.getElem?_eq_getElem (by omega)
  rw [foldTo_get hx h1 h2, foldTo_get hx h3 h4]
theorem foldN_shape (out : List Nd) (x : Nd) (v : List Rat) : (foldN out x v).shape = x.shape := by unfold foldN; split <;> rfl
theorem goes_no {out : List Nd} {x : Nd} (h : partsN x.op = 0) : goes out x = false := by rw [goes, h]; rfl
theorem foldN_no {out : List Nd} {x : Nd} {v : List Rat} (h : goes out x = false) : foldN out x v = x := by rw [foldN, h]; rfl
theorem foldN_yes {out : List Nd} {x : Nd} {v : List Rat} (h : goes out x = true) : foldN out x v = constN x.shape (v.map ratB) := by rw [foldN, if_pos h]
theorem const_data {s : List Int} {k : ByteArray} {n : Int} {d : List ByteArray} {sa : List Int} {a : List Rat} {sb : List Int} {b v : List Rat} (h : FitV .const s k n d sa a sb b v) : d = v.map ratB ∧ VT s v := by
  cases h with
  | const h => exact ⟨rfl, h⟩
theorem foldN_data (G : GoodV bd l) {j : Nat} {x : Nd} (hx : l[j]? = some x) {out : List Nd} (h : (foldN out x (valAt bd l j)).op = sConst) : (foldN out x (valAt bd l j)).data = (valAt bd l j).map ratB := by
  unfold foldN at h ⊢
  split
  · rfl
  · rename_i hg
    rw [if_neg hg] at h
    exact (const_data (G j x .const hx h (by rw [h]; decide) [] [] [] [] (fun h => absurd h (by decide)) (fun h => absurd h (by decide)))).1
theorem opAt_fold {p i : Nat} (h1 : p < i) (h2 : i ≤ l.length) : opAt (foldTo bd l i) (p : Nat) = opAt (foldTo bd l l.length) (p : Nat) := by
  rw [opAt, opAt, Int.toNat_natCast, foldTo_same h1 h2 (by omega) (Nat.le_refl _)]
end
theorem partsN_str (o : Opc) : partsN o.str = o.many := by rw [partsN, opc_many]; rfl
theorem partsN_named {s : ByteArray} (h : namedOp s = true) : partsN s = 0 ∧ s ≠ sConst := by
  simp only [namedOp, Bool.or_eq_true, decide_eq_true_eq] at h
  rcases h with rfl | rfl <;> exact ⟨by decide, by decide⟩
theorem ok_opc {g : Gr} (h : grOK g = true) {i : Nat} {x : Nd} (hx : g.nodes[i]? = some x) : ∃ o : Opc, x.op = o.str ∧ Fit (g.nodes.take i) x o.many := by
  have h1 := ok_infer h hx
  obtain ⟨o, ho⟩ := opc_of h1
  exact ⟨o, ho, (infer_ok ho h1).1⟩
theorem ok_pa {g : Gr} (h : grOK g = true) {i : Nat} {x : Nd} (hx : g.nodes[i]? = some x) (hp : 0 < partsN x.op) : ∃ q : Nat, x.a = q ∧ q < i ∧ q < g.nodes.length := by
  obtain ⟨o, ho, F⟩ := ok_opc h hx
  rw [ho, partsN_str] at hp
  exact part_of (F.ia hp)
theorem ok_pb {g : Gr} (h : grOK g = true) {i : Nat} {x : Nd} (hx : g.nodes[i]? = some x) (hp : 1 < partsN x.op) : ∃ q : Nat, x.b = q ∧ q < i ∧ q < g.nodes.length := by
  obtain ⟨o, ho, F⟩ := ok_opc h hx
  rw [ho, partsN_str] at hp
  exact part_of (F.ib hp)
theorem ok_named {g : Gr} (h : grOK g = true) {i : Nat} {x : Nd} (hx : g.nodes[i]? = some x) : x.name = ⟨#[]⟩ ↔ namedOp x.op = false := by
  obtain ⟨o, ho, F⟩ := ok_opc h hx
  constructor
  · intro e
    cases hn : namedOp x.op
    · rfl
    · have := F.nm hn
      rw [e, isName_empty] at this; cases this
  · exact F.nn
theorem ok_leaf {g : Gr} (h : grOK g = true) {i : Nat} {x : Nd} (hx : g.nodes[i]? = some x) (hn : namedOp x.op = false) (hp : partsN x.op = 0) : x.op = sConst := by
  obtain ⟨o, ho, F⟩ := ok_opc h hx
  rw [ho] at hn hp ⊢
  rw [partsN_str] at hp
  cases o <;> first | rfl | (exact absurd hp (by decide)) | (exact absurd hn (by decide))
section
variable {bd : Nd → List Rat} {g : Gr}
theorem fold_a (hg : grOK g = true) (hn : ∀ x ∈ g.nodes, x.name = ⟨#[]⟩) : ∀ j (h : j < g.nodes.length), opAt (foldTo bd g.nodes g.nodes.length) (j : Nat) = sConst := fun j => by
  induction j using Nat.strongRecOn with
  | _ j ih =>
    intro h
    have hx : g.nodes[j]? = some g.nodes[j] := List.getElem?_eq_getElem h
    have hnm := (ok_named hg hx).1 (hn _ (List.getElem_mem h))
    rw [opAt_nat (foldTo_get hx h (Nat.le_refl _))]
    rcases Nat.eq_zero_or_pos (partsN g.nodes[j].op) with h0 | h0
    · rw [foldN_no (goes_no h0)]
      exact ok_leaf hg hx hnm h0
    · rw [foldN_yes]
      · rfl
      · obtain ⟨p, hp1, hp2, hp3⟩ := ok_pa hg hx h0
        have e1 := ih p hp2 hp3
        rw [← opAt_fold hp2 (Nat.le_of_lt h)] at e1
        rw [goes, decide_eq_true h0, hp1, decide_eq_true e1, Bool.true_and, Bool.true_and]
        rcases Nat.lt_or_ge (partsN g.nodes[j].op) 2 with h2 | h2
        · rw [decide_eq_true h2]; rfl
        · obtain ⟨q, hq1, hq2, hq3⟩ := ok_pb hg hx h2
          have e2 := ih q hq2 hq3
          rw [← opAt_fold hq2 (Nat.le_of_lt h)] at e2
          rw [hq1, decide_eq_true e2, Bool.or_true]
theorem fold_b (hn : ∀ x ∈ g.nodes, x.op ≠ sConst) : ∀ i, i ≤ g.nodes.length → foldTo bd g.nodes i = g.nodes.take i
  | 0, _ => rfl
  | i + 1, h => by
    have hx : g.nodes[i]? = some g.nodes[i] := List.getElem?_eq_getElem (by omega)
    rw [foldTo_step hx, fold_b hn i (by omega), List.take_succ_eq_append_getElem (by omega), foldN_no]
    have : opAt (g.nodes.take i) g.nodes[i].a ≠ sConst := by
      unfold opAt
      split
      · rename_i y hy
        exact hn y (List.mem_of_mem_take (List.mem_of_getElem? hy))
      · decide
    rw [goes, decide_eq_false this, Bool.false_and, Bool.and_false]
theorem fold_named (hg : grOK g = true) {j : Nat} {x : Nd} (hx : g.nodes[j]? = some x) (hn : x.name ≠ ⟨#[]⟩) (out : List Nd) (v : List Rat) : foldN out x v = x ∧ x.op ≠ sConst := by
  have h : namedOp x.op = true := by
    cases h : namedOp x.op
    · exact absurd ((ok_named hg hx).2 h) hn
    · rfl
  exact ⟨foldN_no (goes_no (partsN_named h).1), (partsN_named h).2⟩
theorem fold_name (hg : grOK g = true) {j : Nat} {x : Nd} (hx : g.nodes[j]? = some x) (out : List Nd) (v : List Rat) : (foldN out x v).name = x.name := by
  by_cases hn : x.name = ⟨#[]⟩
  · unfold foldN; split
    · exact hn.symm
    · rfl
  · rw [(fold_named hg hx hn out v).1]
theorem fold_behind (hg : grOK g = true) {j : Nat} {x : Nd} (hx : g.nodes[j]? = some x) (hc : x.op ≠ sConst) (hn : x.name = ⟨#[]⟩) : ∃ q y, x.a = ((q : Nat) : Int) ∧ g.nodes[q]? = some y ∧ (y.name ≠ ⟨#[]⟩ → foldN (foldTo bd g.nodes j) x (valAt bd g.nodes j) = x) := by
  have hj := (List.getElem?_eq_some_iff.1 hx).1
  have hp : 0 < partsN x.op := by
    rcases Nat.eq_zero_or_pos (partsN x.op) with h0 | h0
    · exact absurd (ok_leaf hg hx ((ok_named hg hx).1 hn) h0) hc
    · exact h0
  obtain ⟨q, hq1, hq2, hq3⟩ := ok_pa hg hx hp
  have hy : g.nodes[q]? = some g.nodes[q] := List.getElem?_eq_getElem hq3
  refine ⟨q, _, hq1, hy, fun h => ?_⟩
  obtain ⟨e1, e2⟩ := fold_named hg hy h (foldTo bd g.nodes q) (valAt bd g.nodes q)
  have e : opAt (foldTo bd g.nodes j) x.a = g.nodes[q].op := by rw [hq1, opAt_nat (foldTo_get hy hq2 (by omega)), e1]
  refine foldN_no ?_
  rw [goes, e, decide_eq_false e2, Bool.false_and, Bool.and_false]
theorem fold_left (hg : grOK g = true) {j : Nat} {y : Nd} (hy : (foldTo bd g.nodes g.nodes.length)[j]? = some y) (hp : 0 < partsN y.op) : goes (foldTo bd g.nodes g.nodes.length) y = false ∧ g.nodes[j]? = some y := by
  have hj : j < g.nodes.length := by
    have := (List.getElem?_eq_some_iff.1 hy).1
    rwa [foldTo_len _ (Nat.le_refl _)] at this
  have hx : g.nodes[j]? = some g.nodes[j] := List.getElem?_eq_getElem hj
  rw [foldTo_get hx hj (Nat.le_refl _)] at hy
  cases hg1 : goes (foldTo bd g.nodes j) g.nodes[j] with
  | true =>
    rw [foldN_yes hg1] at hy
    cases hy
    exact absurd hp (show ¬ 0 < partsN sConst by decide)
  | false =>
    rw [foldN_no hg1] at hy
    cases hy
    refine ⟨?_, hx⟩
    obtain ⟨p, hp1, hp2, hp3⟩ := ok_pa hg hx hp
    rw [← hg1, goes, goes, hp1, opAt_fold hp2 (Nat.le_of_lt hj)]
    rcases Nat.lt_or_ge (partsN g.nodes[j].op) 2 with h2 | h2
    · rw [decide_eq_true h2]; rfl
    · obtain ⟨q, hq1, hq2, hq3⟩ := ok_pb hg hx h2
      rw [hq1, opAt_fold hq2 (Nat.le_of_lt hj)]
end
end Go.V
namespace Go.V
open Go.N
set_option maxRecDepth 20000
structure Bd where
  name : ByteArray
  shape : List Int
  data : List ByteArray
def Bd.cells (b : Bd) : List AV := [.str b.name, .ro 1 (rowZ b.shape), .ro 1 (rowS b.data)]
def rowBd (l : List Bd) : List (List AV) := l.map Bd.cells
theorem rowBd_length (l : List Bd) : (rowBd l).length = l.length := by simp [rowBd]
theorem rowBd_get {l : List Bd} {k : Nat} (h : k < l.length) : (rowBd l)[k]? = some l[k].cells := by simp [rowBd, h]
structure Bd.Sm (b : Bd) : Prop where
  name : b.name.size ≤ 1000
  shape : b.shape.length ≤ 1000
  data : b.data.length ≤ 1000
  each : ∀ d ∈ b.data, d.size ≤ 1000
theorem fmax_ge {α : Type} (f : α → Nat) : ∀ (l : List α) (b : Nat), b ≤ l.foldl (fun n x => max n (f x)) b ∧ ∀ x ∈ l, f x ≤ l.foldl (fun n x => max n (f x)) b
  | [], b => ⟨Nat.le_refl _, fun x hx => by simp at hx⟩
  | y :: l, b => by
    rw [List.foldl_cons]
    have h := fmax_ge f l (max b (f y))
    refine ⟨by omega, fun x hx => ?_⟩
    rcases List.mem_cons.1 hx with rfl | hx
    · omega
    · exact h.2 x hx
theorem fmax_le {α : Type} (f : α → Nat) {m : Nat} : ∀ (l : List α) (b : Nat), b ≤ m → (∀ x ∈ l, f x ≤ m) → l.foldl (fun n x => max n (f x)) b ≤ m
  | [], b, h, _ => h
  | y :: l, b, h, hx => by
    rw [List.foldl_cons]
    have := hx y List.mem_cons_self
    exact fmax_le f l _ (by omega) fun x h => hx x (List.mem_cons_of_mem _ h)
theorem lngN_fmax (l : List ByteArray) : lngN l = l.foldl (fun n x => max n x.size) 1 := by
  unfold lngN
  congr 1
  funext n x
  split <;> omega
theorem lngN_ge {l : List ByteArray} {x : ByteArray} (h : x ∈ l) : x.size ≤ lngN l := by rw [lngN_fmax]; exact (fmax_ge ByteArray.size l 1).2 x h
theorem lngN_le {l : List ByteArray} {m : Nat} (h1 : 1 ≤ m) (h : ∀ x ∈ l, x.size ≤ m) : lngN l ≤ m := by rw [lngN_fmax]; exact fmax_le ByteArray.size l 1 h1 h
def calmS (l : List Nd) : Nat := l.foldl (fun n x => max n (max (lngN x.data) x.k.size)) 1
def calmB (n : Nat) (bs : List Bd) : Nat := bs.foldl (fun n b => max n (lngN b.data)) n
theorem calmS_step {l : List Nd} {i : Nat} (h : i < l.length) : calmS (l.take (i + 1)) = max (calmS (l.take i)) (max (lngN l[i].data) l[i].k.size) := by
  rw [calmS, List.take_succ_eq_append_getElem h, List.foldl_append]; rfl
theorem calmB_step (n : Nat) {l : List Bd} {i : Nat} (h : i < l.length) : calmB n (l.take (i + 1)) = max (calmB n (l.take i)) (lngN l[i].data) := by
  rw [calmB, List.take_succ_eq_append_getElem h, List.foldl_append]; rfl
theorem calmS_in {l : List Nd} (h : ∀ x ∈ l, x.Sm) : 1 ≤ calmS l ∧ calmS l ≤ 1000 := by
  refine ⟨(fmax_ge (fun x : Nd => max (lngN x.data) x.k.size) l 1).1, fmax_le (fun x : Nd => max (lngN x.data) x.k.size) l 1 (by decide) fun x hx => ?_⟩
  have h1 := (h x hx).k
  have h2 := lngN_le (m := 1000) (by decide) (h x hx).each
  omega
theorem calmB_in {n : Nat} {l : List Bd} (h : ∀ x ∈ l, x.Sm) (hn : n ≤ 1000) : n ≤ calmB n l ∧ calmB n l ≤ 1000 := by
  refine ⟨(fmax_ge (fun x : Bd => lngN x.data) l n).1, fmax_le (fun x : Bd => lngN x.data) l n hn fun x hx => lngN_le (m := 1000) (by decide) (h x hx).each⟩
def calmZ (l : List Nd) (bs : List Bd) : Int := (calmB (calmS l) bs : Nat) * (2 * maxL (wList l l.length))
def zerosR (s : List Int) : List Rat := List.replicate (prodZ s).toNat 0
noncomputable def bdB (bs : List Bd) (x : Nd) : List Rat := match bs.find? fun b => decide (b.name = x.name) with
  | some b => if okT b.shape b.data = true ∧ b.shape = x.shape then b.data.map ratV else zerosR x.shape
  | none => zerosR x.shape
theorem MM_text {d : ByteArray} {n : Nat} (h : d.size ≤ n) (hr : ratOK d = true) : MM (ratV d) ≤ 10 ^ (2 * n) := MM_size (by rw [ratB_ratV hr]; exact h)
theorem okT_iff {s : List Int} {l : List ByteArray} : okT s l = true ↔ okShape s = true ∧ (l.length : Int) = sizeZ s ∧ ∀ d ∈ l, ratOK d = true := by
  simp only [okT, Bool.and_eq_true, decide_eq_true_eq, Bool.not_eq_true', List.any_eq_false]
  constructor
  · rintro ⟨h1, h2, h3⟩; exact ⟨h1, h2, fun d hd => by have := h3 d hd; simpa using this⟩
  · rintro ⟨h1, h2, h3⟩; exact ⟨h1, h2, fun d hd => by simp [h3 d hd]⟩
theorem calm_given {g : Gr} (hg : grOK g = true) (hsm : ∀ x ∈ g.nodes, x.Sm) (bs : List Bd) (hbs : ∀ b ∈ bs, b.Sm) (hc : calmZ g.nodes bs ≤ 400) : Given (bdB bs) g.nodes (2 * calmB (calmS g.nodes) bs) := by
  have hS := calmS_in hsm
  have hB := calmB_in (l := bs) hbs hS.2
  have hnode : ∀ x ∈ g.nodes, max (lngN x.data) x.k.size ≤ calmS g.nodes := (fmax_ge (fun x : Nd => max (lngN x.data) x.k.size) g.nodes 1).2
  have hbind : ∀ b ∈ bs, lngN b.data ≤ calmB (calmS g.nodes) bs := (fmax_ge (fun x : Bd => lngN x.data) bs (calmS g.nodes)).2
  unfold calmZ at hc
  generalize calmB (calmS g.nodes) bs = n at *
  have hoks : ∀ x ∈ g.nodes, okShape x.shape = true := fun x hx => by
    obtain ⟨i, hi⟩ := List.mem_iff_getElem?.1 hx
    obtain ⟨o, ho⟩ := opc_of (ok_infer hg hi)
    exact (okZ_some (infer_ok ho (ok_infer hg hi)).2).2
  have hz : ∀ x ∈ g.nodes, ((((zerosR x.shape).length : Nat) : Int) = prodZ x.shape) ∧ ∀ y ∈ zerosR x.shape, MM y ≤ 10 ^ (2 * n) := fun x hx => by
    have := prodZ_ok (hoks x hx)
    refine ⟨by rw [zerosR, List.length_replicate]; omega, fun y hy => ?_⟩
    rw [List.eq_of_mem_replicate hy, MM_zero]
    exact ten_two (by omega)
  have hb : ∀ x ∈ g.nodes, ((((bdB bs x).length : Nat) : Int) = prodZ x.shape) ∧ ∀ y ∈ bdB bs x, MM y ≤ 10 ^ (2 * n) := fun x hx => by
    unfold bdB
    split
    · rename_i b hf
      split
      · rename_i h
        obtain ⟨h1, h2, h3⟩ := okT_iff.1 h.1
        have hmem := List.mem_of_find?_eq_some hf
        refine ⟨by rw [List.length_map, h2, sizeZ_ok h1, h.2], fun y hy => ?_⟩
        obtain ⟨d, hd, rfl⟩ := List.mem_map.1 hy
        exact MM_text (Nat.le_trans (lngN_ge hd) (hbind b hmem)) (h3 d hd)
      · exact hz x hx
    · exact hz x hx
  refine ⟨by omega, fun i x hx => ok_infer hg hx, fun x hx d hd hr => ?_, fun x hx hr => ?_, fun x hx => (hsm x hx).k, fun x hx _ => (hb x hx).1, fun x hx _ => (hb x hx).2, fun j hj => ?_⟩
  · have h1 := hnode x hx
    have h2 := lngN_ge hd
    exact MM_text (by omega) hr
  · have h1 := hnode x hx
    exact MM_text (by omega) hr
  · have h1 := wAt_max g.nodes j
    have h2 : ((n : Nat) : Int) * (2 * wAt g.nodes j) ≤ 400 := Int.le_trans (Int.mul_le_mul_of_nonneg_left (by omega) (by omega)) hc
    rw [Int.natCast_mul, Int.mul_comm (2 : Nat) (n : Int), Int.mul_assoc]
    exact h2
theorem calm_good {g : Gr} (hg : grOK g = true) (hsm : ∀ x ∈ g.nodes, x.Sm) (bs : List Bd) (hbs : ∀ b ∈ bs, b.Sm) (hc : calmZ g.nodes bs ≤ 400) : GoodV (bdB bs) g.nodes := good_of (calm_given hg hsm bs hbs hc)
end Go.V
namespace Go.V
open Go.N
set_option maxRecDepth 20000
def T_r12_Calm : Tab := [(24, i24), (22, i22), (36, i36), (3, i3), (34, i34), (9, i9), (49, i49), (65, i65), (40, i40)]
theorem TOK_r12_Calm : TOK Go.Proofs.Tryz.prog T_r12_Calm := ⟨K24, ⟨K22, ⟨K36, ⟨K3, ⟨K34, ⟨K9, ⟨K49, ⟨K65, ⟨K40, trivial⟩⟩⟩⟩⟩⟩⟩⟩⟩
theorem calmS_pre {l : List Nd} (h : ∀ x ∈ l, x.Sm) (i : Nat) : 1 ≤ calmS (l.take i) ∧ calmS (l.take i) ≤ 1000 := calmS_in fun x hx => h x (List.mem_of_mem_take hx)
set_option maxHeartbeats 4000000 in
theorem c_Calm (l : List Nd) (p : Int) (bs : List Bd) (hl : l.length ≤ 1000) (hsm : ∀ x ∈ l, x.Sm) (hbl : bs.length ≤ 1000) (hbs : ∀ b ∈ bs, b.Sm) :
    VCall Go.Proofs.Tryz.prog GL 16 [.agg [.ro 8 (rowN l), .int .i64 p], .ro 3 (rowBd bs), .int .i64 1] (fun y => y = .bool (decide (calmZ l bs ≤ 400))) := by
  have hlr := rowN_length l
  have hbr := rowBd_length bs
  have hD := c_Degree l p hl hsm
  have hDi := maxL_in (wList_in (l := l) l.length (Nat.le_refl _))
  have hZ : calmZ l bs = (calmB (calmS l) bs : Nat) * (2 * maxL (wList l l.length)) := rfl
  generalize calmZ l bs = Z at hZ ⊢
  generalize maxL (wList l l.length) = D at hD hDi hZ
  refine vcall_of TOK_r12_Calm HM Go.Proofs.Tryz.func16 rfl (by decide +kernel) (by decide +kernel) rfl ?_
  repeat' first|refine sY ⟨?_⟩|(refine sq ?_ ?_<;>refine fun h=>⟨?_⟩<;>(first|contradiction|(exfalso;omega)|skip))|fail
  refine ⟨[1, 2, 3, 7, 8], [0], fun m st => ∃ i : Nat, i ≤ l.length ∧ m = l.length - i ∧ st = ⟨[(1, .ro 3 (rowBd bs)), (2, .int .i64 1), (3, .bptr 0 0), (7, .int .i64 ((calmS (l.take i) : Nat) : Int)), (8, .int .i64 (i : Nat))], [.box 24 [.ro 8 (rowN l), .int .i64 p]]⟩, rfl, ⟨l.length, 0, by omega, rfl, rfl⟩, ?_⟩
  rintro m _ ⟨i, hi, hm, rfl⟩
  rcases Nat.lt_or_ge i l.length with hil | hge
  · have g : (rowN l)[i]? = some (l[i]).cells := rowN_get hil
    have hst := calmS_step hil
    have hn := calmS_pre hsm i
    have hx := hsm l[i] (List.getElem_mem hil)
    have hlg := c_longest l[i].data hx.data (fun d hd => Nat.le_trans (hx.each d hd) (by decide))
    have hLb := lngN_le (m := 1000) (by decide) hx.each
    have hkb := hx.k
    clear hx
    generalize l[i] = x at g hst hlg hLb hkb
    obtain ⟨op, a, b, name, shape, k, n, data⟩ := x
    dsimp only at hst hlg hLb hkb
    generalize lngN data = L at hst hlg hLb
    generalize calmS (l.take i) = c at hst hn
    have hb := c_between (c : Nat) 100000
    rw [betw_eq (by omega) (by omega)] at hb
    repeat' first|refine sY ⟨?_⟩|(refine sq ?_ ?_<;>refine fun h=>⟨?_⟩<;>(first|contradiction|(exfalso;omega)|skip))|fail
    all_goals exact ⟨[0], l.length - (i + 1), rfl, by omega, i + 1, by omega, rfl, Eq.trans rfl (congrArg (fun z : Int => (⟨[(1, .ro 3 (rowBd bs)), (2, .int .i64 1), (3, .bptr 0 0), (7, .int .i64 z), (8, .int .i64 ((i + 1 : Nat) : Int))], [.box 24 [.ro 8 (rowN l), .int .i64 p]]⟩ : St)) (by (try dsimp only); rw [hst]; omega))⟩
  · have e : l.take i = l := List.take_of_length_le (by omega)
    rw [e]
    have hS := calmS_in hsm
    generalize calmS l = c at hS hZ
    repeat' first|refine sY ⟨?_⟩|(refine sq ?_ ?_<;>refine fun h=>⟨?_⟩<;>(first|contradiction|(exfalso;omega)|skip))|fail
    refine ⟨[1, 2, 3, 7, 10], [0], fun m st => ∃ i : Nat, i ≤ bs.length ∧ m = bs.length - i ∧ st = ⟨[(1, .ro 3 (rowBd bs)), (2, .int .i64 1), (3, .bptr 0 0), (7, .int .i64 ((calmB c (bs.take i) : Nat) : Int)), (10, .int .i64 (i : Nat))], [.box 24 [.ro 8 (rowN l), .int .i64 p]]⟩, rfl, ⟨bs.length, 0, by omega, rfl, rfl⟩, ?_⟩
    rintro m _ ⟨i, hi, hm, rfl⟩
    have hn := calmB_in (n := c) (l := bs.take i) (fun b hb => hbs b (List.mem_of_mem_take hb)) hS.2
    rcases Nat.lt_or_ge i bs.length with hil | hge
    · have g : (rowBd bs)[i]? = some (bs[i]).cells := rowBd_get hil
      have hst := calmB_step c hil
      have hx := hbs bs[i] (List.getElem_mem hil)
      have hlg := c_longest bs[i].data hx.data (fun d hd => Nat.le_trans (hx.each d hd) (by decide))
      have hLb := lngN_le (m := 1000) (by decide) hx.each
      clear hx
      generalize bs[i] = x at g hst hlg hLb
      obtain ⟨name, shape, data⟩ := x
      dsimp only at hst hlg hLb
      generalize lngN data = L at hst hlg hLb
      generalize calmB c (bs.take i) = e at hst hn
      repeat' first|refine sY ⟨?_⟩|(refine sq ?_ ?_<;>refine fun h=>⟨?_⟩<;>(first|contradiction|(exfalso;omega)|skip))|fail
      all_goals exact ⟨[0], bs.length - (i + 1), rfl, by omega, i + 1, by omega, rfl, Eq.trans rfl (congrArg (fun z : Int => (⟨[(1, .ro 3 (rowBd bs)), (2, .int .i64 1), (3, .bptr 0 0), (7, .int .i64 z), (10, .int .i64 ((i + 1 : Nat) : Int))], [.box 24 [.ro 8 (rowN l), .int .i64 p]]⟩ : St)) (by (try dsimp only); rw [hst]; omega))⟩
    · have e : bs.take i = bs := List.take_of_length_le (by omega)
      rw [e] at hn ⊢
      generalize calmB c bs = n at hn hZ
      have hp : 0 ≤ ((n : Nat) : Int) * (2 * D) ∧ ((n : Nat) : Int) * (2 * D) ≤ 200000000 :=
        ⟨Int.mul_nonneg (by omega) (by omega), Int.le_trans (Int.mul_le_mul (show ((n : Nat) : Int) ≤ 1000 by omega) (show 2 * D ≤ 200000 by omega) (by omega) (by omega)) (by decide)⟩
      repeat' first|refine sY ⟨?_⟩|(refine sq ?_ ?_<;>refine fun h=>⟨?_⟩<;>(first|contradiction|(exfalso;omega)|skip))|fail
      refine ⟨[2, 7, 12, 13], [], fun m st => (m = 1 ∧ st = ⟨[(2, .int .i64 1), (7, .int .i64 (n : Nat)), (12, .int .i64 (2 * D)), (13, .int .i64 0)], []⟩) ∨ (m = 0 ∧ ((n : Nat) : Int) * (2 * D) ≤ 400 ∧ st = ⟨[(2, .int .i64 1), (7, .int .i64 ((n : Nat) * (2 * D))), (12, .int .i64 (2 * D)), (13, .int .i64 1)], []⟩), rfl, ⟨1, .inl ⟨rfl, rfl⟩⟩, ?_⟩
      rintro m _ (⟨hm, rfl⟩ | ⟨hm, h4, rfl⟩)
      · by_cases h4 : ((n : Nat) : Int) * (2 * D) ≤ 400
        · repeat' first|refine sY ⟨?_⟩|(refine sq ?_ ?_<;>refine fun h=>⟨?_⟩<;>(first|contradiction|(exfalso;omega)|skip))|fail
          all_goals exact ⟨[], 0, rfl, by omega, .inr ⟨rfl, h4, rfl⟩⟩
        · rw [show decide (Z ≤ 400) = false from decide_eq_false (by rw [hZ]; exact h4)]
          repeat' first|refine sY ⟨?_⟩|(refine sq ?_ ?_<;>refine fun h=>⟨?_⟩<;>(first|contradiction|(exfalso;omega)|skip))|fail
          all_goals (conv => whnf)
          all_goals rfl
      · rw [show decide (Z ≤ 400) = true from decide_eq_true (by rw [hZ]; exact h4)]
        repeat' first|refine sY ⟨?_⟩|(refine sq ?_ ?_<;>refine fun h=>⟨?_⟩<;>(first|contradiction|(exfalso;omega)|skip))|fail
        all_goals (conv => whnf)
        all_goals rfl
end Go.V
namespace Go.V
open Go.N
set_option maxRecDepth 20000
def T_CloneN : Tab := [(22, i22), (36, i36)]
theorem TOK_CloneN : TOK Go.Proofs.Tryz.prog T_CloneN := ⟨K22, ⟨K36, trivial⟩⟩
def T_fParts : Tab := [(36, i36), (40, i40), (3, i3), (22, i22), (9, i9), (33, i33), (34, i34)]
theorem TOK_fParts : TOK Go.Proofs.Tryz.prog T_fParts := ⟨K36, ⟨K40, ⟨K3, ⟨K22, ⟨K9, ⟨K33, ⟨K34, trivial⟩⟩⟩⟩⟩⟩⟩
def T_fFold : Tab := [(24, i24), (4, i4), (22, i22), (36, i36), (3, i3), (40, i40), (28, i28), (33, i33), (34, i34)]
theorem TOK_fFold : TOK Go.Proofs.Tryz.prog T_fFold := ⟨K24, ⟨K4, ⟨K22, ⟨K36, ⟨K3, ⟨K40, ⟨K28, ⟨K33, ⟨K34, trivial⟩⟩⟩⟩⟩⟩⟩⟩⟩
theorem c_CloneN (x : Nd) (l : List Nd) (hll : l.length < 1000) : VCall Go.Proofs.Tryz.prog GL 45 [.ro 8 (rowN (x :: l))] (fun y => y = .fr 36 8 (rowN (x :: l))) := by
  have hlen : (rowN (x :: l)).length = l.length + 1 := rowN_length (x :: l)
  refine vcall_of TOK_CloneN HM Go.Proofs.Tryz.func45 rfl (by decide +kernel) (by decide +kernel) rfl ?_
  repeat' first|refine sX ⟨?_⟩|(refine sp ?_ ?_<;>refine fun h=>⟨?_⟩)|fail
  conv => whnf
  refine ⟨Nat.le_refl _, (show (0 + (rowN (x :: l)).length) * 120 ≤ _ by omega), rowN (x :: l), rfl, ?_⟩
  repeat' first|refine sX ⟨?_⟩|(refine sp ?_ ?_<;>refine fun h=>⟨?_⟩)|fail
  conv => whnf
  rfl
def zeroT : AV := .agg [.nils, .nils]
set_option maxHeartbeats 4000000 in
theorem c_fParts0 (L : List Nd) (x : Nd) (o : Opc) (ho : x.op = o.str) (hm : o.many = 0) (hL : 0 < L.length) (hxa : x.a = 0) : VCallH Go.Proofs.Tryz.prog GL 46 [.own 0 0 (rowN L).length, .agg x.cells] [.row false 36 8 (rowN L)]
    (fun y h => y = .tup [zeroT, zeroT, .bool false] ∧ h = [.row false 36 8 (rowN L)]) := by
  have hlr := rowN_length L
  have ga : (rowN L)[0 + 0]? = some (L[0]).cells := rowN_get hL
  obtain ⟨op, A, B, name, s, k, n, d⟩ := x
  dsimp only at ho hxa
  subst ho hxa
  generalize L[0] = y at ga
  obtain ⟨oa, aa, ba, na, sa, ka, nna, da⟩ := y
  unfold zeroT
  cases o
  all_goals first | (exact absurd hm (by decide)) | skip
  all_goals
    refine vcallH_of TOK_fParts HM Go.Proofs.Tryz.func46 rfl (by decide +kernel) (by decide +kernel) rfl ?_
    repeat' first|refine sY ⟨?_⟩|(refine sq ?_ ?_<;>refine fun h=>⟨?_⟩<;>(first|contradiction|(exfalso;omega)|skip))|fail
    all_goals (conv => whnf)
    all_goals exact ⟨[0], rfl, rfl, rfl⟩
set_option maxHeartbeats 4000000 in
theorem c_fParts1 (L : List Nd) (x : Nd) (o : Opc) (ho : x.op = o.str) (hm : o.many = 1) (j : Nat) (hj : j < L.length) (hxa : x.a = (j : Nat)) : VCallH Go.Proofs.Tryz.prog GL 46 [.own 0 0 (rowN L).length, .agg x.cells] [.row false 36 8 (rowN L)]
    (fun y h => y = .tup [tenA L[j].shape L[j].data, tenA L[j].shape L[j].data, .bool (decide (L[j].op = sConst))] ∧ h = [.row false 36 8 (rowN L)]) := by
  have hlr := rowN_length L
  have ga : (rowN L)[0 + j]? = some (L[j]).cells := by rw [Nat.zero_add]; exact rowN_get hj
  have h1 : ∀ p : Opc, p.many ≠ 1 → ¬ x.op = p.str := fun p hp e => by
    rw [ho] at e
    have := congrArg opcOf e
    rw [opcOf_str, opcOf_str] at this
    subst this; exact hp hm
  have k1 : ¬ x.op = sParam := h1 .param (by decide)
  have k2 : ¬ x.op = sInput := h1 .input (by decide)
  have k3 : ¬ x.op = sConst := h1 .const (by decide)
  have k4 : ¬ x.op = sAdd := h1 .add (by decide)
  have k5 : ¬ x.op = sSub := h1 .sub (by decide)
  have k6 : ¬ x.op = sMul := h1 .mul (by decide)
  have k7 : ¬ x.op = sMax := h1 .max (by decide)
  have k8 : ¬ x.op = sAbove := h1 .above (by decide)
  have k9 : ¬ x.op = sMatmul := h1 .matmul (by decide)
  clear h1 ho
  obtain ⟨op, A, B, name, s, k, n, d⟩ := x
  dsimp only at hxa k1 k2 k3 k4 k5 k6 k7 k8 k9
  subst hxa
  generalize L[j] = y at ga ⊢
  obtain ⟨oa, aa, ba, na, sa, ka, nna, da⟩ := y
  dsimp only
  unfold tenA
  by_cases hc : oa = sConst
  · subst hc
    rw [show decide (sConst = sConst) = true from rfl]
    refine vcallH_of TOK_fParts HM Go.Proofs.Tryz.func46 rfl (by decide +kernel) (by decide +kernel) rfl ?_
    repeat' first|refine sY ⟨?_⟩|(refine sq ?_ ?_<;>refine fun h=>⟨?_⟩<;>(first|contradiction|(exfalso;omega)|skip))|fail
    refine ⟨by decide +kernel, [0, 1, 0, 4, 15, 0, 32, 0, 128, 480, 0, 1024, 3072, 7168, 15360, 31744, 64512, 130048, 15391, 278527, 1048575], by decide +kernel, ?_⟩
    repeat' first|refine sY ⟨?_⟩|(refine sq ?_ ?_<;>refine fun h=>⟨?_⟩<;>(first|contradiction|(exfalso;omega)|skip))|fail
    all_goals (conv => whnf)
    all_goals exact ⟨[0], rfl, rfl, rfl⟩
  · rw [decide_eq_false hc]
    refine vcallH_of TOK_fParts HM Go.Proofs.Tryz.func46 rfl (by decide +kernel) (by decide +kernel) rfl ?_
    repeat' first|refine sY ⟨?_⟩|(refine sq ?_ ?_<;>refine fun h=>⟨?_⟩<;>(first|contradiction|(exfalso;omega)|skip))|fail
    refine ⟨by decide +kernel, [0, 1, 0, 4, 15, 0, 32, 0, 128, 480, 0, 1024, 3072, 7168, 15360, 31744, 64512, 130048, 15391, 278527, 1048575], by decide +kernel, ?_⟩
    repeat' first|refine sY ⟨?_⟩|(refine sq ?_ ?_<;>refine fun h=>⟨?_⟩<;>(first|contradiction|(exfalso;omega)|skip))|fail
    all_goals (conv => whnf)
    all_goals exact ⟨[0], rfl, rfl, rfl⟩
set_option maxHeartbeats 16000000 in
theorem c_fParts2 (L : List Nd) (x : Nd) (o : Opc) (ho : x.op = o.str) (hm : o.many = 2) (j : Nat) (hj : j < L.length) (hxa : x.a = (j : Nat)) (i : Nat) (hi : i < L.length) (hxb : x.b = (i : Nat)) : VCallH Go.Proofs.Tryz.prog GL 46 [.own 0 0 (rowN L).length, .agg x.cells] [.row false 36 8 (rowN L)]
    (fun y h => y = .tup [tenA L[j].shape L[j].data, tenA L[i].shape L[i].data, .bool (decide (L[j].op = sConst) && decide (L[i].op = sConst))] ∧ h = [.row false 36 8 (rowN L)]) := by
  have hlr := rowN_length L
  have ga : (rowN L)[0 + j]? = some (L[j]).cells := by rw [Nat.zero_add]; exact rowN_get hj
  have gb : (rowN L)[0 + i]? = some (L[i]).cells := by rw [Nat.zero_add]; exact rowN_get hi
  obtain ⟨op, A, B, name, s, k, n, d⟩ := x
  dsimp only at ho hxa hxb
  subst ho hxa hxb
  generalize L[j] = y at ga ⊢
  generalize L[i] = z at gb ⊢
  obtain ⟨oa, aa, ba, na, sa, ka, nna, da⟩ := y
  obtain ⟨ob, ab, bb, nb, sb, kb, nnb, db⟩ := z
  dsimp only
  unfold tenA
  cases o
  all_goals first | (exact absurd hm (by decide)) | skip
  all_goals
    refine vcallH_of TOK_fParts HM Go.Proofs.Tryz.func46 rfl (by decide +kernel) (by decide +kernel) rfl ?_
    repeat' first|refine sY ⟨?_⟩|(refine sq ?_ ?_<;>refine fun h=>⟨?_⟩<;>(first|contradiction|(exfalso;omega)|skip))|fail
    refine ⟨by decide +kernel, [0, 1, 0, 4, 15, 0, 32, 0, 128, 480, 0, 1024, 3072, 7168, 15360, 31744, 64512, 130048, 15391, 278527, 1048575], by decide +kernel, ?_⟩
    repeat' first|refine sY ⟨?_⟩|(refine sq ?_ ?_<;>refine fun h=>⟨?_⟩<;>(first|contradiction|(exfalso;omega)|skip))|fail
    all_goals (conv => whnf)
    all_goals exact ⟨[0], rfl, congrArg (fun b : Bool => AV.tup [.agg [.ro 1 (rowZ sa), .ro 1 (rowS da)], .agg [.ro 1 (rowZ sb), .ro 1 (rowS db)], .bool b]) (by simp [*]), rfl⟩
end Go.V
namespace Go.V
open Go.N
set_option maxRecDepth 20000
section
variable {bd : Nd → List Rat} {l : List Nd}
noncomputable def layF (bd : Nd → List Rat) (l : List Nd) (i : Nat) : List Nd := foldTo bd l i ++ l.drop i
theorem layF_len {i : Nat} (h : i ≤ l.length) : (layF bd l i).length = l.length := by rw [layF, List.length_append, foldTo_len i h, List.length_drop]; omega
theorem layF_zero : layF bd l 0 = l := by simp [layF, foldTo]
theorem layF_end : layF bd l l.length = foldTo bd l l.length := by simp [layF]
theorem layF_at {i : Nat} {x : Nd} (hx : l[i]? = some x) : (layF bd l i)[i]? = some x := by
  have hi := (List.getElem?_eq_some_iff.1 hx).1
  rw [layF, List.getElem?_append_right (by rw [foldTo_len i (by omega)]; exact Nat.le_refl _), foldTo_len i (by omega), Nat.sub_self, List.getElem?_drop]; exact hx
theorem layF_lt {i p : Nat} (hp : p < i) (hi : i ≤ l.length) : (layF bd l i)[p]? = (foldTo bd l l.length)[p]? := by
  rw [layF, List.getElem?_append_left (by rw [foldTo_len i hi]; exact hp)]; exact foldTo_same hp hi (by omega) (Nat.le_refl _)
theorem layF_set {i : Nat} {x : Nd} (hx : l[i]? = some x) : layF bd l (i + 1) = (layF bd l i).set i (foldN (foldTo bd l i) x (valAt bd l i)) := by
  have hi := (List.getElem?_eq_some_iff.1 hx).1
  have e : l.drop i = x :: l.drop (i + 1) := by rw [List.drop_eq_getElem_cons hi, (List.getElem?_eq_some_iff.1 hx).2]
  rw [layF, layF, foldTo_step hx, List.set_append_right _ _ (by rw [foldTo_len i (by omega)]; exact Nat.le_refl _), foldTo_len i (by omega), Nat.sub_self, List.append_assoc, e]
  rfl
theorem layF_no {i : Nat} {x : Nd} (hx : l[i]? = some x) (h : goes (foldTo bd l i) x = false) : layF bd l (i + 1) = layF bd l i := by
  have h1 := layF_at (bd := bd) hx
  obtain ⟨h2, h3⟩ := List.getElem?_eq_some_iff.1 h1
  rw [layF_set hx, foldN_no h]
  conv => lhs; rw [← h3]
  exact List.set_getElem_self h2
theorem fold_at {g : Gr} (hg : grOK g = true) (G : GoodV bd g.nodes) {p : Nat} (hp : p < g.nodes.length) : ∃ y, (foldTo bd g.nodes g.nodes.length)[p]? = some y ∧ y.shape = shAt g.nodes (p : Nat) ∧ (y.op = sConst → y.data = (valAt bd g.nodes p).map ratB) ∧ ∃ v : List Rat, y.data = v.map ratB := by
  have hx : g.nodes[p]? = some g.nodes[p] := List.getElem?_eq_getElem hp
  have hc : ∀ h : (foldN (foldTo bd g.nodes p) g.nodes[p] (valAt bd g.nodes p)).op = sConst, (foldN (foldTo bd g.nodes p) g.nodes[p] (valAt bd g.nodes p)).data = (valAt bd g.nodes p).map ratB := fun h => foldN_data G hx h
  refine ⟨_, foldTo_get hx hp (Nat.le_refl _), by rw [foldN_shape, shAt_nat hp], hc, ?_⟩
  by_cases h : (foldN (foldTo bd g.nodes p) g.nodes[p] (valAt bd g.nodes p)).op = sConst
  · exact ⟨_, hc h⟩
  · refine ⟨[], ?_⟩
    unfold foldN at h ⊢
    split at h
    · exact absurd rfl h
    · rename_i h2
      rw [if_neg h2]
      obtain ⟨o, ho, F⟩ := ok_opc hg hx
      exact List.length_eq_zero_iff.1 (F.d h)
end
theorem fold_parts {bd : Nd → List Rat} {g : Gr} (hg : grOK g = true) (G : GoodV bd g.nodes) (hl : g.nodes.length ≤ 1000) {i : Nat} {x : Nd} (hx : g.nodes[i]? = some x) :
    (goes (foldTo bd g.nodes i) x = false ∧ VCallH Go.Proofs.Tryz.prog GL 46 [.own 0 0 (rowN (layF bd g.nodes i)).length, .agg x.cells] [.row false 36 8 (rowN (layF bd g.nodes i))] (fun y h => y = .tup [zeroT, zeroT, .bool false] ∧ h = [.row false 36 8 (rowN (layF bd g.nodes i))])) ∨
    (goes (foldTo bd g.nodes i) x = false ∧ ∃ sa da sb db, VCallH Go.Proofs.Tryz.prog GL 46 [.own 0 0 (rowN (layF bd g.nodes i)).length, .agg x.cells] [.row false 36 8 (rowN (layF bd g.nodes i))] (fun y h => y = .tup [tenA sa da, tenA sb db, .bool false] ∧ h = [.row false 36 8 (rowN (layF bd g.nodes i))])) ∨
    (goes (foldTo bd g.nodes i) x = true ∧ ∃ o sa a sb b, x.op = Opc.str o ∧ FitV o x.shape x.k x.n x.data sa a sb b (valAt bd g.nodes i) ∧ VCallH Go.Proofs.Tryz.prog GL 46 [.own 0 0 (rowN (layF bd g.nodes i)).length, .agg x.cells] [.row false 36 8 (rowN (layF bd g.nodes i))] (fun y h => y = .tup [tenR sa a, tenR sb b, .bool true] ∧ h = [.row false 36 8 (rowN (layF bd g.nodes i))])) := by
  have hi := (List.getElem?_eq_some_iff.1 hx).1
  have hll := layF_len (bd := bd) (Nat.le_of_lt hi)
  obtain ⟨o, ho, F⟩ := ok_opc hg hx
  have hpn : partsN x.op = o.many := by rw [ho, partsN_str]
  rcases Nat.eq_zero_or_pos o.many with h0 | h0
  · exact .inl ⟨goes_no (by rw [hpn, h0]), c_fParts0 _ x o ho h0 (by omega) (F.a0 h0)⟩
  have hnn : namedOp x.op = false := by
    rw [ho]; cases o <;> first | rfl | (exact absurd h0 (by decide))
  right
  obtain ⟨p, hp1, hp2, hp3⟩ := part_of (F.ia h0)
  obtain ⟨ya, ha1, ha2, ha3, _⟩ := fold_at hg G hp3
  rw [← layF_lt hp2 (Nat.le_of_lt hi)] at ha1
  obtain ⟨hpl, hpe⟩ := List.getElem?_eq_some_iff.1 ha1
  have hoa : opAt (foldTo bd g.nodes i) x.a = ya.op := by
    rw [layF_lt hp2 (Nat.le_of_lt hi), foldTo_same (k := i) hp3 (Nat.le_refl _) hp2 (Nat.le_of_lt hi)] at ha1
    rw [hp1, opAt_nat ha1]
  rcases Nat.lt_or_ge o.many 2 with h2 | h2
  · have h1 : o.many = 1 := by omega
    have hgo : goes (foldTo bd g.nodes i) x = decide (ya.op = sConst) := by rw [goes, hpn, hoa, decide_eq_true h0, decide_eq_true h2]; simp
    have hc := c_fParts1 _ x o ho h1 p hpl hp1
    rw [hpe] at hc
    by_cases hk : ya.op = sConst
    · right
      refine ⟨by rw [hgo]; exact decide_eq_true hk, o, shAt g.nodes x.a, valAt bd g.nodes p, shAt g.nodes x.a, valAt bd g.nodes p, ho, G i x o hx ho hnn _ _ _ _ (fun _ => ⟨rfl, by rw [hp1, Int.toNat_natCast]⟩) (fun h => absurd h (by omega)), ?_⟩
      rw [ha2, ha3 hk, decide_eq_true hk, ← hp1] at hc
      exact hc
    · left
      rw [decide_eq_false hk] at hc hgo
      exact ⟨hgo, _, _, _, _, hc⟩
  · have h1 : o.many = 2 := by have := opParts_le (opc_many o); omega
    obtain ⟨q, hq1, hq2, hq3⟩ := part_of (F.ib h2)
    obtain ⟨yb, hb1, hb2, hb3, _⟩ := fold_at hg G hq3
    rw [← layF_lt hq2 (Nat.le_of_lt hi)] at hb1
    obtain ⟨hql, hqe⟩ := List.getElem?_eq_some_iff.1 hb1
    have hob : opAt (foldTo bd g.nodes i) x.b = yb.op := by
      rw [layF_lt hq2 (Nat.le_of_lt hi), foldTo_same (k := i) hq3 (Nat.le_refl _) hq2 (Nat.le_of_lt hi)] at hb1
      rw [hq1, opAt_nat hb1]
    have hgo : goes (foldTo bd g.nodes i) x = (decide (ya.op = sConst) && decide (yb.op = sConst)) := by
      rw [goes, hpn, hoa, hob, decide_eq_true h0, decide_eq_false (by omega : ¬ o.many < 2)]; simp
    have hc := c_fParts2 _ x o ho h1 p hpl hp1 q hql hq1
    rw [hpe, hqe, ← hgo] at hc
    cases hk : goes (foldTo bd g.nodes i) x with
    | true =>
      right
      rw [hk] at hc
      rw [hgo, Bool.and_eq_true, decide_eq_true_eq, decide_eq_true_eq] at hk
      refine ⟨rfl, o, shAt g.nodes x.a, valAt bd g.nodes p, shAt g.nodes x.b, valAt bd g.nodes q, ho, G i x o hx ho hnn _ _ _ _ (fun _ => ⟨rfl, by rw [hp1, Int.toNat_natCast]⟩) (fun _ => ⟨rfl, by rw [hq1, Int.toNat_natCast]⟩), ?_⟩
      rw [ha2, ha3 hk.1, hb2, hb3 hk.2, ← hp1, ← hq1] at hc
      exact hc
    | false =>
      left
      rw [hk] at hc
      exact ⟨rfl, _, _, _, _, hc⟩
theorem rowN_set (l : List Nd) (i : Nat) (x : Nd) {c : List AV} (h : c = x.cells) : (rowN l).set (0 + i) c = rowN (l.set i x) := by rw [Nat.zero_add, h]; simp [rowN, List.map_set]
set_option maxHeartbeats 8000000 in
theorem c_fFold (bd : Nd → List Rat) (g : Gr) (hs : ∀ x ∈ g.nodes, x.Sm) (hl : g.nodes.length ≤ 1000) (hG : grOK g = true → GoodV bd g.nodes) : VCall Go.Proofs.Tryz.prog GL 18 [.agg g.cells]
    (fun y => y = if grOK g = true then .tup [.agg (foldG bd g).cells, .int .i64 0] else .tup [.agg [.ro 8 [], .int .i64 0], .int .i64 1]) := by
  have hr := c_gRight g hs hl
  refine VCall.taken ?_
  cases hok : grOK g
  · rw [hok] at hr
    rw [if_neg (by simp)]
    refine vcall_of TOK_fFold HM Go.Proofs.Tryz.func18 rfl (by decide +kernel) (by decide +kernel) rfl ?_
    repeat' first|refine sY ⟨?_⟩|(refine sq ?_ ?_<;>refine fun h=>⟨?_⟩<;>(first|contradiction|(exfalso;omega)|skip))|fail
    all_goals (conv => whnf)
    exact ⟨_, roTo2 (roToA (show RoTo .nils (.ro 8 []) from ⟨8, rfl⟩) rfl) rfl, rfl⟩
  have hG := hG hok
  rw [hok] at hr
  rw [if_pos rfl]
  obtain ⟨h1, h2, q, hq1, hq⟩ := ok_pre hok
  have hpt := fun {i : Nat} {x : Nd} => @fold_parts bd g hok hG hl i x
  have hget : ∀ i (h : i < g.nodes.length), g.nodes[i]? = some g.nodes[i] := fun i h => List.getElem?_eq_getElem h
  have hF : foldG bd g = ⟨foldTo bd g.nodes g.nodes.length, g.loss⟩ := rfl
  rw [hF]
  clear hF hG
  obtain ⟨l, p⟩ := g
  dsimp only at hs hl h1 h2 hq1 hq hpt hget ⊢
  have hcl : VCall Go.Proofs.Tryz.prog GL 45 [.ro 8 (rowN l)] (fun y => y = .fr 36 8 (rowN l)) := by
    match l, hl, h1 with
    | x :: l, hl, _ => exact c_CloneN x l (by rw [List.length_cons] at hl; omega)
  show VCall _ _ _ [.agg [.ro 8 (rowN l), .int .i64 p]] _
  replace hr : VCall Go.Proofs.Tryz.prog GL 44 [.agg [.ro 8 (rowN l), .int .i64 p]] (fun r => r = .bool true) := hr
  have hlr := rowN_length l
  refine vcall_of TOK_fFold HM Go.Proofs.Tryz.func18 rfl (by decide +kernel) (by decide +kernel) rfl ?_
  repeat' first|refine sY ⟨?_⟩|(refine sq ?_ ?_<;>refine fun h=>⟨?_⟩<;>(first|contradiction|(exfalso;omega)|skip))|fail
  refine ⟨by decide +kernel, [0, 1, 3, 0, 8, 31, 0, 127], by decide +kernel, ?_⟩
  repeat' first|refine sY ⟨?_⟩|(refine sq ?_ ?_<;>refine fun h=>⟨?_⟩<;>(first|contradiction|(exfalso;omega)|skip))|fail
  refine ⟨[2, 4, 23, 24, 25], [1, 3, 2], fun m st => ∃ i : Nat, i ≤ l.length ∧ m = l.length - i ∧
    st = ⟨[(2, .bptr 0 0), (4, .bptr 1 0), (23, .own 2 0 (rowN l).length), (24, .int .i64 ((rowN l).length : Nat)), (25, .int .i64 ((i : Nat)))], [.box 24 [.nils, .int .i64 0], .box 24 [.own 2 0 (rowN l).length, .int .i64 p], .row false 36 8 (rowN (layF bd l i))]⟩, rfl, ⟨l.length, 0, by omega, rfl, ?_⟩, ?_⟩
  · exact Eq.trans rfl (congrArg (fun z : List (List AV) => (⟨[(2, .bptr 0 0), (4, .bptr 1 0), (23, .own 2 0 (rowN l).length), (24, .int .i64 ((rowN l).length : Nat)), (25, .int .i64 (((0 : Nat) : Int)))], [.box 24 [.nils, .int .i64 0], .box 24 [.own 2 0 (rowN l).length, .int .i64 p], .row false 36 8 z]⟩ : St)) (congrArg rowN (layF_zero (bd := bd) (l := l)).symm))
  rintro m _ ⟨i, hi, hm, rfl⟩
  have hll := layF_len (bd := bd) hi
  have hrl := rowN_length (layF bd l i)
  rcases Nat.lt_or_ge i l.length with hil | hge
  · have hx := hget i hil
    have hat := layF_at (bd := bd) hx
    have hset := layF_set (bd := bd) hx
    have hno := layF_no (bd := bd) hx
    have g1 : (rowN (layF bd l i))[0 + i]? = some (l[i]).cells := by
      obtain ⟨k1, k2⟩ := List.getElem?_eq_some_iff.1 hat
      rw [Nat.zero_add, rowN_get k1, k2]
    have hcall := hpt hx
    have hfy := fun (h : goes (foldTo bd l i) l[i] = true) => foldN_yes (x := l[i]) (v := valAt bd l i) (out := foldTo bd l i) h
    have hend : ∀ {L' : List Nd} {c : List (List AV)}, layF bd l (i + 1) = L' → c = rowN L' → (⟨[(2, .bptr 0 0), (4, .bptr 1 0), (23, .own 2 0 (rowN l).length), (24, .int .i64 ((rowN l).length : Nat)), (25, .int .i64 (((i + 1 : Nat) : Int)))], [.box 24 [.nils, .int .i64 0], .box 24 [.own 2 0 (rowN l).length, .int .i64 p], .row false 36 8 c]⟩ : St) = ⟨[(2, .bptr 0 0), (4, .bptr 1 0), (23, .own 2 0 (rowN l).length), (24, .int .i64 ((rowN l).length : Nat)), (25, .int .i64 (((i + 1 : Nat) : Int)))], [.box 24 [.nils, .int .i64 0], .box 24 [.own 2 0 (rowN l).length, .int .i64 p], .row false 36 8 (rowN (layF bd l (i + 1)))]⟩ := fun h1 h2 => by rw [h1, h2]
    generalize goes (foldTo bd l i) l[i] = go at hcall hno hfy
    generalize foldN (foldTo bd l i) l[i] (valAt bd l i) = fx at hset hfy
    generalize valAt bd l i = V at hcall hfy
    generalize layF bd l i = L at hll hrl g1 hcall hset hno
    clear hx hat
    generalize l[i] = x at g1 hcall hfy
    rw [show (rowN L).length = (rowN l).length by omega] at hcall
    rcases hcall with ⟨rfl, hcall⟩ | ⟨rfl, sa, da, sb, db, hcall⟩ | ⟨rfl, o, sa, a, sb, b, ho, hfit, hcall⟩
    · have hL := hno rfl
      obtain ⟨op, A, B, name, s, k, n, d⟩ := x
      unfold zeroT at hcall
      repeat' first|refine sY ⟨?_⟩|(refine sq ?_ ?_<;>refine fun h=>⟨?_⟩<;>(first|contradiction|(exfalso;omega)|skip))|fail
      conv => whnf
      refine .inr ⟨[2], rfl, _, hcall, ?_⟩
      rintro _ _ ⟨rfl, rfl⟩
      repeat' first|refine sY ⟨?_⟩|(refine sq ?_ ?_<;>refine fun h=>⟨?_⟩<;>(first|contradiction|(exfalso;omega)|skip))|fail
      all_goals exact ⟨[0, 1, 2], l.length - (i + 1), rfl, by omega, i + 1, by omega, rfl, Eq.trans rfl (hend hL rfl)⟩
    · have hL := hno rfl
      obtain ⟨op, A, B, name, s, k, n, d⟩ := x
      unfold tenA at hcall
      repeat' first|refine sY ⟨?_⟩|(refine sq ?_ ?_<;>refine fun h=>⟨?_⟩<;>(first|contradiction|(exfalso;omega)|skip))|fail
      conv => whnf
      refine .inr ⟨[2], rfl, _, hcall, ?_⟩
      rintro _ _ ⟨rfl, rfl⟩
      repeat' first|refine sY ⟨?_⟩|(refine sq ?_ ?_<;>refine fun h=>⟨?_⟩<;>(first|contradiction|(exfalso;omega)|skip))|fail
      all_goals exact ⟨[0, 1, 2], l.length - (i + 1), rfl, by omega, i + 1, by omega, rfl, Eq.trans rfl (hend hL rfl)⟩
    · have hfx := hfy rfl
      subst hfx
      obtain ⟨op, A, B, name, s, k, n, d⟩ := x
      dsimp only at ho hfit hset
      subst ho
      have hnode := c_eNode A B name hfit
      unfold nodeC tenR at hnode
      unfold tenR at hcall
      have hsetr := rowN_set L i (constN s (V.map ratB)) (c := [.str sConst, .int .i64 0, .int .i64 0, .str ⟨#[]⟩, .ro 1 (rowZ s), .str ⟨#[]⟩, .int .i64 0, .ro 1 (rowR V)]) rfl
      repeat' first|refine sY ⟨?_⟩|(refine sq ?_ ?_<;>refine fun h=>⟨?_⟩<;>(first|contradiction|(exfalso;omega)|skip))|fail
      conv => whnf
      refine .inr ⟨[2], rfl, _, hcall, ?_⟩
      rintro _ _ ⟨rfl, rfl⟩
      repeat' first|refine sY ⟨?_⟩|(refine sq ?_ ?_<;>refine fun h=>⟨?_⟩<;>(first|contradiction|(exfalso;omega)|skip))|fail
      all_goals exact ⟨[0, 1, 2], l.length - (i + 1), rfl, by omega, i + 1, by omega, rfl, Eq.trans rfl (hend hset hsetr)⟩
  · have hl2 : i = l.length := by omega
    subst hl2
    have e : layF bd l l.length = foldTo bd l l.length := layF_end
    repeat' first|refine sY ⟨?_⟩|(refine sq ?_ ?_<;>refine fun h=>⟨?_⟩<;>(first|contradiction|(exfalso;omega)|skip))|fail
    conv => whnf
    refine .inl ⟨by omega, ?_⟩
    repeat' first|refine sY ⟨?_⟩|(refine sq ?_ ?_<;>refine fun h=>⟨?_⟩<;>(first|contradiction|(exfalso;omega)|skip))|fail
    all_goals (conv => whnf)
    all_goals exact ⟨_, roTo2 (roToA rfl rfl) rfl, congrArg (fun z : List Nd => AV.tup [.agg [.ro 8 (rowN z), .int .i64 p], .int .i64 0]) e⟩
end Go.V
namespace Go.V
open Go.N
set_option maxRecDepth 20000
def T_r14_Fold : Tab := [(24, i24), (3, i3), (22, i22), (36, i36), (9, i9), (33, i33), (34, i34), (40, i40)]
theorem TOK_r14_Fold : TOK Go.Proofs.Tryz.prog T_r14_Fold := ⟨K24, ⟨K3, ⟨K22, ⟨K36, ⟨K9, ⟨K33, ⟨K34, ⟨K40, trivial⟩⟩⟩⟩⟩⟩⟩⟩
def T_awake14 : Tab := [(34, i34), (9, i9), (36, i36), (22, i22), (24, i24), (28, i28), (3, i3)]
theorem TOK_awake14 : TOK Go.Proofs.Tryz.prog T_awake14 := ⟨K34, ⟨K9, ⟨K36, ⟨K22, ⟨K24, ⟨K28, ⟨K3, trivial⟩⟩⟩⟩⟩⟩⟩
mutual
theorem asRo_refl : ∀ x : AV, AsRo x x
  | .nils => .inl rfl
  | .ro sz es => ⟨es, rfl, asRoLL_refl es⟩
  | .agg cs => ⟨cs, rfl, asRoL_refl cs⟩
  | .j | .u | .int _ _ | .bool _ | .str _ | .nili | .tup _ | .fr _ _ _ | .own _ _ _ | .ptr _ _ _ | .bptr _ _ | .map _ | .rp _ | .fn _ _ | .iface _ _ => by simp only [AsRo]
theorem asRoL_refl : ∀ xs : List AV, AsRoL xs xs
  | [] => rfl
  | x :: xs => ⟨x, xs, rfl, asRo_refl x, asRoL_refl xs⟩
theorem asRoLL_refl : ∀ xs : List (List AV), AsRoLL xs xs
  | [] => rfl
  | x :: xs => ⟨x, xs, rfl, asRoL_refl x, asRoLL_refl xs⟩
end
theorem asRo_nils (sz : Nat) : AsRo .nils (.ro sz []) := .inr ⟨sz, rfl⟩
theorem fold_parts2 {bd : Nd → List Rat} {g : Gr} (hg : grOK g = true) (G : GoodV bd g.nodes) {i : Nat} {x : Nd} (hx : g.nodes[i]? = some x) :
    (goes (foldTo bd g.nodes i) x = false ∧ partsZ x.op = 0) ∨
    (∃ p ya, x.a = ((p : Nat) : Int) ∧ p < i ∧ (foldTo bd g.nodes i)[p]? = some ya ∧
      ((goes (foldTo bd g.nodes i) x = false ∧ 0 < partsZ x.op ∧ ya.op ≠ sConst) ∨
      (∃ q yb, x.b = ((q : Nat) : Int) ∧ q < i ∧ (foldTo bd g.nodes i)[q]? = some yb ∧ ya.op = sConst ∧
        ((goes (foldTo bd g.nodes i) x = false ∧ partsZ x.op = 2 ∧ yb.op ≠ sConst) ∨
        (goes (foldTo bd g.nodes i) x = true ∧ (partsZ x.op = 1 ∨ (partsZ x.op = 2 ∧ yb.op = sConst)) ∧ ∃ o a b, x.op = Opc.str o ∧ ya.data = List.map ratB a ∧ yb.data = List.map ratB b ∧ FitV o x.shape x.k x.n x.data ya.shape a yb.shape b (valAt bd g.nodes i)))))) := by
  have hi := (List.getElem?_eq_some_iff.1 hx).1
  obtain ⟨o, ho, F⟩ := ok_opc hg hx
  have hpn : partsN x.op = o.many := by rw [ho, partsN_str]
  have hpz : partsZ x.op = (o.many : Nat) := by rw [ho, partsZ, opc_many]
  rcases Nat.eq_zero_or_pos o.many with h0 | h0
  · exact .inl ⟨goes_no (by rw [hpn, h0]), by rw [hpz, h0]; rfl⟩
  have hnn : namedOp x.op = false := by
    rw [ho]; cases o <;> first | rfl | (exact absurd h0 (by decide))
  right
  obtain ⟨p, hp1, hp2, hp3⟩ := part_of (F.ia h0)
  obtain ⟨ya, ha1, ha2, ha3, va, hva⟩ := fold_at hg G hp3
  rw [foldTo_same (k := i) hp3 (Nat.le_refl _) hp2 (Nat.le_of_lt hi)] at ha1
  refine ⟨p, ya, hp1, hp2, ha1, ?_⟩
  have hoa : opAt (foldTo bd g.nodes i) x.a = ya.op := by rw [hp1, opAt_nat ha1]
  by_cases hk : ya.op = sConst
  case neg => exact .inl ⟨by rw [goes, hoa, decide_eq_false hk, Bool.false_and, Bool.and_false], by rw [hpz]; omega, hk⟩
  right
  rcases Nat.lt_or_ge o.many 2 with h2 | h2
  · have h1 : o.many = 1 := by omega
    have h0i : 0 < g.nodes.length := by omega
    obtain ⟨yb, hb1, hb2, hb3, vb, hvb⟩ := fold_at hg G h0i
    rw [foldTo_same (k := i) h0i (Nat.le_refl _) (by omega) (Nat.le_of_lt hi)] at hb1
    refine ⟨0, yb, F.b0 h2, by omega, hb1, hk, .inr ⟨by rw [goes, hpn, hoa, decide_eq_true h0, decide_eq_true h2, decide_eq_true hk]; rfl, .inl (by rw [hpz, h1]; rfl), o, _, vb, ho, ha3 hk, hvb, ?_⟩⟩
    exact G i x o hx ho hnn _ _ _ _ (fun _ => ⟨by rw [ha2, hp1], by rw [hp1, Int.toNat_natCast]⟩) (fun h => absurd h (by omega))
  · have h1 : o.many = 2 := by have := opParts_le (opc_many o); omega
    obtain ⟨q, hq1, hq2, hq3⟩ := part_of (F.ib h2)
    obtain ⟨yb, hb1, hb2, hb3, vb, hvb⟩ := fold_at hg G hq3
    rw [foldTo_same (k := i) hq3 (Nat.le_refl _) hq2 (Nat.le_of_lt hi)] at hb1
    have hob : opAt (foldTo bd g.nodes i) x.b = yb.op := by rw [hq1, opAt_nat hb1]
    refine ⟨q, yb, hq1, hq2, hb1, hk, ?_⟩
    have hgo : goes (foldTo bd g.nodes i) x = decide (yb.op = sConst) := by
      rw [goes, hpn, hoa, hob, decide_eq_true h0, decide_eq_false (by omega : ¬ o.many < 2), decide_eq_true hk]; simp
    by_cases hk2 : yb.op = sConst
    · exact .inr ⟨by rw [hgo]; exact decide_eq_true hk2, .inr ⟨by rw [hpz, h1]; rfl, hk2⟩, o, _, _, ho, ha3 hk, hb3 hk2,
        G i x o hx ho hnn _ _ _ _ (fun _ => ⟨by rw [ha2, hp1], by rw [hp1, Int.toNat_natCast]⟩) (fun _ => ⟨by rw [hb2, hq1], by rw [hq1, Int.toNat_natCast]⟩)⟩
    · exact .inl ⟨by rw [hgo]; exact decide_eq_false hk2, by rw [hpz, h1]; rfl, hk2⟩
set_option maxHeartbeats 8000000 in
theorem c_r14Fold (bd : Nd → List Rat) (g : Gr) (hg : grOK g = true) (hG : GoodV bd g.nodes) : VCall Go.Proofs.Tryz.prog GL 21 [.agg g.cells] (fun y => y = .agg (foldG bd g).cells) := by
  refine VCall.taken ?_
  obtain ⟨h1, h2, q, hq1, hq⟩ := ok_pre hg
  have hpt := fun {i : Nat} {x : Nd} => @fold_parts2 bd g hg hG i x
  have hget : ∀ i (h : i < g.nodes.length), g.nodes[i]? = some g.nodes[i] := fun i h => List.getElem?_eq_getElem h
  have hst := fun {i : Nat} {x : Nd} => @foldTo_step bd g.nodes i x
  have hfl := @foldTo_len bd g.nodes
  have hF : foldG bd g = ⟨foldTo bd g.nodes g.nodes.length, g.loss⟩ := rfl
  rw [hF]
  clear hF hG hg
  obtain ⟨l, p⟩ := g
  dsimp only at h1 h2 hq1 hq hpt hget hst hfl ⊢
  show VCall _ _ _ [.agg [.ro 8 (rowN l), .int .i64 p]] _
  have hlr := rowN_length l
  refine vcall_of TOK_r14_Fold HM Go.Proofs.Tryz.func21 rfl (by decide +kernel) (by decide +kernel) rfl ?_
  repeat' first|refine sY ⟨?_⟩|(refine sq ?_ ?_<;>refine fun h=>⟨?_⟩<;>(first|contradiction|(exfalso;omega)|skip))|fail
  refine ⟨[1, 2, 3, 4], [0, 1, 2], fun m st => ∃ i : Nat, i ≤ l.length ∧ m = l.length - i ∧
    ((i = 0 ∧ st = ⟨[(1, .bptr 0 0), (2, .bptr 1 0), (3, .bptr 2 0), (4, .int .i64 ((i : Nat)))], [.box 24 [.ro 8 (rowN l), .int .i64 p], .box 24 [.nils, .int .i64 0], .box 24 [.nils, .int .i64 p]]⟩) ∨
    (0 < i ∧ st = ⟨[(1, .bptr 0 0), (2, .bptr 1 0), (3, .bptr 2 0), (4, .int .i64 ((i : Nat)))], [.box 24 [.ro 8 (rowN l), .int .i64 p], .box 24 [.nils, .int .i64 0], .box 24 [.own 3 0 (rowN (foldTo bd l i)).length, .int .i64 p], .row false 36 8 (rowN (foldTo bd l i))]⟩)), rfl, ⟨l.length, 0, by omega, rfl, .inl ⟨rfl, rfl⟩⟩, ?_⟩
  rintro m _ ⟨i, hi, hm, hst'⟩
  have hfli := hfl i hi
  have hrl := rowN_length (foldTo bd l i)
  rcases Nat.lt_or_ge i l.length with hil | hge
  · have hx := hget i hil
    have g1 := rowN_get hil
    have hstep := hst hx
    have hcase := hpt hx
    have hno := fun (h : goes (foldTo bd l i) l[i] = false) => foldN_no (x := l[i]) (v := valAt bd l i) (out := foldTo bd l i) h
    have hfy := fun (h : goes (foldTo bd l i) l[i] = true) => foldN_yes (x := l[i]) (v := valAt bd l i) (out := foldTo bd l i) h
    have hp := c_r10_Parts GL l[i].op
    have hend : ∀ {L' : List Nd}, foldTo bd l (i + 1) = L' → (⟨[(1, .bptr 0 0), (2, .bptr 1 0), (3, .bptr 2 0), (4, .int .i64 ((i + 1 : Nat) : Int))], [.box 24 [.ro 8 (rowN l), .int .i64 p], .box 24 [.nils, .int .i64 0], .box 24 [.own 3 0 (rowN L').length, .int .i64 p], .row false 36 8 (rowN L')]⟩ : St) = ⟨[(1, .bptr 0 0), (2, .bptr 1 0), (3, .bptr 2 0), (4, .int .i64 ((i + 1 : Nat) : Int))], [.box 24 [.ro 8 (rowN l), .int .i64 p], .box 24 [.nils, .int .i64 0], .box 24 [.own 3 0 (rowN (foldTo bd l (i + 1))).length, .int .i64 p], .row false 36 8 (rowN (foldTo bd l (i + 1)))]⟩ := fun h => by rw [h]
    have h0nil : i = 0 → foldTo bd l i = [] := fun h => by subst h; rfl
    generalize goes (foldTo bd l i) l[i] = go at hcase hno hfy
    generalize foldN (foldTo bd l i) l[i] (valAt bd l i) = fx at hstep hno hfy
    generalize valAt bd l i = V at hcase hfy
    generalize foldTo bd l i = L at hfli hrl hstep hcase h0nil hst'
    generalize l[i] = x at g1 hcase hno hfy hp
    clear hx hpt hget hst hfl
    rcases hst' with ⟨rfl, rfl⟩ | ⟨h0, rfl⟩
    · have h0nil := h0nil rfl
      subst h0nil
      rcases hcase with ⟨rfl, hz⟩ | ⟨pa, ya, _, hlt, _⟩
      · have hfx := hno rfl
        subst hfx
        obtain ⟨op, A, B, name, s, k, n, d⟩ := fx
        dsimp only at hp hz
        rw [hz] at hp
        repeat' first|refine sY ⟨?_⟩|(refine sq ?_ ?_<;>refine fun h=>⟨?_⟩<;>(first|contradiction|(exfalso;omega)|skip))|fail
        conv => whnf
        refine ⟨Nat.le_of_ble_eq_true rfl, fun h => Nat.succ_ne_zero _ (congrArg List.length h), ?_⟩
        repeat' first|refine sY ⟨?_⟩|(refine sq ?_ ?_<;>refine fun h=>⟨?_⟩<;>(first|contradiction|(exfalso;omega)|skip))|fail
        all_goals exact ⟨[0, 1, 2, 5], l.length - (0 + 1), rfl, by omega, 0 + 1, by omega, rfl, .inr ⟨by omega, Eq.trans rfl (hend hstep)⟩⟩
      · exact absurd hlt (Nat.not_lt_zero _)
    · rcases hcase with ⟨rfl, hz⟩ | ⟨pa, ya, hpa, hplt, hya, hcase⟩
      · have hfx := hno rfl
        subst hfx
        obtain ⟨op, A, B, name, s, k, n, d⟩ := fx
        dsimp only at hp hz
        rw [hz] at hp
        repeat' first|refine sY ⟨?_⟩|(refine sq ?_ ?_<;>refine fun h=>⟨?_⟩<;>(first|contradiction|(exfalso;omega)|skip))|fail
        refine ⟨Nat.le_refl _, (show ((rowN L).length + 1) * 120 ≤ 140737488355328 by omega), _, rowN_snoc L ⟨op, A, B, name, s, k, n, d⟩ rfl, ?_⟩
        repeat' first|refine sY ⟨?_⟩|(refine sq ?_ ?_<;>refine fun h=>⟨?_⟩<;>(first|contradiction|(exfalso;omega)|skip))|fail
        all_goals exact ⟨[0, 1, 2, 6], l.length - (i + 1), rfl, by omega, i + 1, by omega, rfl, .inr ⟨by omega, Eq.trans rfl (hend hstep)⟩⟩
      · have ga : (rowN L)[0 + pa]? = some ya.cells := by
          obtain ⟨k1, k2⟩ := List.getElem?_eq_some_iff.1 hya
          rw [Nat.zero_add, rowN_get k1, k2]
        rcases hcase with ⟨rfl, hz, hne⟩ | ⟨pb, yb, hpb, hqlt, hyb, hca, hcase⟩
        · have hfx := hno rfl
          subst hfx
          obtain ⟨op, A, B, name, s, k, n, d⟩ := fx
          obtain ⟨oa, aa, ba, na, sa, ka, nna, da⟩ := ya
          dsimp only at hp hz hpa hne
          subst hpa
          generalize partsZ op = Z at hp hz
          repeat' first|refine sY ⟨?_⟩|(refine sq ?_ ?_<;>refine fun h=>⟨?_⟩<;>(first|contradiction|(exfalso;omega)|skip))|fail
          refine ⟨Nat.le_refl _, (show ((rowN L).length + 1) * 120 ≤ 140737488355328 by omega), _, rowN_snoc L ⟨op, (pa : Nat), B, name, s, k, n, d⟩ rfl, ?_⟩
          repeat' first|refine sY ⟨?_⟩|(refine sq ?_ ?_<;>refine fun h=>⟨?_⟩<;>(first|contradiction|(exfalso;omega)|skip))|fail
          all_goals exact ⟨[0, 1, 2, 6], l.length - (i + 1), rfl, by omega, i + 1, by omega, rfl, .inr ⟨by omega, Eq.trans rfl (hend hstep)⟩⟩
        · have gb : (rowN L)[0 + pb]? = some yb.cells := by
            obtain ⟨k1, k2⟩ := List.getElem?_eq_some_iff.1 hyb
            rw [Nat.zero_add, rowN_get k1, k2]
          rcases hcase with ⟨rfl, hz, hne⟩ | ⟨rfl, hz, o, a, b, ho, hda, hdb, hfit⟩
          · have hfx := hno rfl
            subst hfx
            obtain ⟨op, A, B, name, s, k, n, d⟩ := fx
            obtain ⟨oa, aa, ba, na, sa, ka, nna, da⟩ := ya
            obtain ⟨ob, ab, bb, nb, sb, kb, nnb, db⟩ := yb
            dsimp only at hp hz hpa hpb hne hca
            subst hpa hpb hca
            rw [hz] at hp
            repeat' first|refine sY ⟨?_⟩|(refine sq ?_ ?_<;>refine fun h=>⟨?_⟩<;>(first|contradiction|(exfalso;omega)|skip))|fail
            refine ⟨Nat.le_refl _, (show ((rowN L).length + 1) * 120 ≤ 140737488355328 by omega), _, rowN_snoc L ⟨op, (pa : Nat), (pb : Nat), name, s, k, n, d⟩ rfl, ?_⟩
            repeat' first|refine sY ⟨?_⟩|(refine sq ?_ ?_<;>refine fun h=>⟨?_⟩<;>(first|contradiction|(exfalso;omega)|skip))|fail
            all_goals exact ⟨[0, 1, 2, 6], l.length - (i + 1), rfl, by omega, i + 1, by omega, rfl, .inr ⟨by omega, Eq.trans rfl (hend hstep)⟩⟩
          · have hfx := hfy rfl
            subst hfx
            obtain ⟨op, A, B, name, s, k, n, d⟩ := x
            obtain ⟨oa, aa, ba, na, sa, ka, nna, da⟩ := ya
            obtain ⟨ob, ab, bb, nb, sb, kb, nnb, db⟩ := yb
            dsimp only at hp hz hpa hpb hca ho hda hdb hfit hstep
            subst hpa hpb hca ho hda hdb
            have hv := c_ValueO (pa : Nat) (pb : Nat) name hfit
            unfold nodeC tenR rowR at hv
            rcases hz with hz | ⟨hz, hcb⟩
            · rw [hz] at hp
              repeat' first|refine sY ⟨?_⟩|(refine sq ?_ ?_<;>refine fun h=>⟨?_⟩<;>(first|contradiction|(exfalso;omega)|skip))|fail
              refine ⟨by decide +kernel, [0, 1, 0, 4, 15, 31, 0, 64, 0, 256, 960, 1984, 0, 0, 12351, 32767], by decide +kernel, ?_⟩
              repeat' first|refine sY ⟨?_⟩|(refine sq ?_ ?_<;>refine fun h=>⟨?_⟩<;>(first|contradiction|(exfalso;omega)|skip))|fail
              refine ⟨Nat.le_refl _, (show ((rowN L).length + 1) * 120 ≤ 140737488355328 by omega), _, rowN_snoc L (constN s (V.map ratB)) rfl, ?_⟩
              repeat' first|refine sY ⟨?_⟩|(refine sq ?_ ?_<;>refine fun h=>⟨?_⟩<;>(first|contradiction|(exfalso;omega)|skip))|fail
              all_goals exact ⟨[0, 1, 2, 9], l.length - (i + 1), rfl, by omega, i + 1, by omega, rfl, .inr ⟨by omega, Eq.trans rfl (hend hstep)⟩⟩
            · subst hcb
              rw [hz] at hp
              repeat' first|refine sY ⟨?_⟩|(refine sq ?_ ?_<;>refine fun h=>⟨?_⟩<;>(first|contradiction|(exfalso;omega)|skip))|fail
              refine ⟨by decide +kernel, [0, 1, 0, 4, 15, 31, 0, 64, 0, 256, 960, 1984, 0, 0, 12351, 32767], by decide +kernel, ?_⟩
              repeat' first|refine sY ⟨?_⟩|(refine sq ?_ ?_<;>refine fun h=>⟨?_⟩<;>(first|contradiction|(exfalso;omega)|skip))|fail
              refine ⟨Nat.le_refl _, (show ((rowN L).length + 1) * 120 ≤ 140737488355328 by omega), _, rowN_snoc L (constN s (V.map ratB)) rfl, ?_⟩
              repeat' first|refine sY ⟨?_⟩|(refine sq ?_ ?_<;>refine fun h=>⟨?_⟩<;>(first|contradiction|(exfalso;omega)|skip))|fail
              all_goals exact ⟨[0, 1, 2, 9], l.length - (i + 1), rfl, by omega, i + 1, by omega, rfl, .inr ⟨by omega, Eq.trans rfl (hend hstep)⟩⟩
  · have hl2 : i = l.length := by omega
    subst hl2
    rcases hst' with ⟨h0, rfl⟩ | ⟨h0, rfl⟩
    · omega
    · repeat' first|refine sY ⟨?_⟩|(refine sq ?_ ?_<;>refine fun h=>⟨?_⟩<;>(first|contradiction|(exfalso;omega)|skip))|fail
      all_goals (conv => whnf)
      exact ⟨_, roToA rfl rfl, rfl⟩
end Go.V
namespace Go.V
open Go.N
set_option maxRecDepth 20000
def T_FoldMakes : Tab := [(24, i24), (4, i4), (49, i49), (65, i65), (3, i3), (22, i22), (36, i36), (28, i28)]
theorem TOK_FoldMakes : TOK Go.Proofs.Tryz.prog T_FoldMakes := ⟨K24, ⟨K4, ⟨K49, ⟨K65, ⟨K3, ⟨K22, ⟨K36, ⟨K28, trivial⟩⟩⟩⟩⟩⟩⟩⟩
theorem size_of_MM {x : Rat} (h : MM x ≤ 10 ^ 400) : (ratB x).size ≤ 1000 := by
  have h0 := ht_pos x
  have h1 : ht x < 10 ^ 400 := by
    unfold MM at h
    generalize 10 ^ 400 = T at h ⊢
    omega
  have h2 : x.num.natAbs < 10 ^ 400 := Nat.lt_of_le_of_lt (Nat.le_max_left _ _) h1
  have h3 : x.den < 10 ^ 400 := Nat.lt_of_le_of_lt (Nat.le_max_right _ _) h1
  have h4 := (dec_length_lt _ _ (by decide)).2 h2
  have h5 := (dec_length_lt _ _ (by decide)).2 h3
  have := ratB_size x
  omega
theorem fold_sm {bd : Nd → List Rat} {l : List Nd} {c : Nat} (G : Given bd l c) (hs : ∀ x ∈ l, x.Sm) : ∀ y ∈ foldTo bd l l.length, y.Sm := fun y hy => by
  obtain ⟨j, hj⟩ := List.mem_iff_getElem?.1 hy
  have hjl : j < l.length := by
    have := (List.getElem?_eq_some_iff.1 hj).1
    rwa [foldTo_len _ (Nat.le_refl _)] at this
  have hx : l[j]? = some l[j] := List.getElem?_eq_getElem hjl
  rw [foldTo_get hx hjl (Nat.le_refl _)] at hj
  cases hj
  have H := hi_all G j _ hx
  have hS := hs l[j] (List.getElem_mem hjl)
  have hw := G.w j hjl
  have hwi := wAt_in l j
  have hm : ∀ z ∈ valAt bd l j, MM z ≤ 10 ^ 400 := fun z hz => by
    refine Nat.le_trans (H.mm z hz) (ten_mono (a := c * (wAt l j).toNat) (b := 400) ?_)
    have e : ((wAt l j).toNat : Int) = wAt l j := Int.toNat_of_nonneg (by omega)
    rw [← e, ← Int.natCast_mul] at hw; omega
  unfold foldN
  split
  · have h4 := okShape_len H.ok
    have hp := prodZ_ok H.ok
    have hl := H.len
    refine ⟨(show (⟨#[]⟩ : ByteArray).size ≤ 1000 by decide), (show (⟨#[]⟩ : ByteArray).size ≤ 1000 by decide), (show l[j].shape.length ≤ 1000 by omega), (show ((valAt bd l j).map ratB).length ≤ 1000 by rw [List.length_map]; omega), fun d hd => ?_⟩
    obtain ⟨z, hz, rfl⟩ := List.mem_map.1 (show d ∈ (valAt bd l j).map ratB from hd)
    exact size_of_MM (hm z hz)
  · exact hS
def G14 : Gr := ⟨[⟨sConst, 0, 0, ⟨#[]⟩, [], ⟨#[]⟩, 0, [⟨#[50]⟩]⟩, ⟨sPower, 0, 0, ⟨#[]⟩, [], ⟨#[]⟩, 3, []⟩], 1⟩
theorem G14_ok : grOK G14 = true := by decide +kernel
theorem G14_sm : ∀ x ∈ G14.nodes, x.Sm := fun x hx => by
  simp only [G14, List.mem_cons, List.not_mem_nil, or_false] at hx
  rcases hx with rfl | rfl
  · exact ⟨by decide, by decide, by decide, by decide, fun d hd => by simp at hd; subst hd; decide⟩
  · exact ⟨by decide, by decide, by decide, by decide, fun d hd => by simp at hd⟩
theorem G14_good : GoodV (bdB []) G14.nodes := calm_good G14_ok G14_sm [] (fun b hb => by simp at hb) (by decide +kernel)
theorem G14_v0 : valAt (bdB []) G14.nodes 0 = [2] := by
  rw [valAt_eq (x := ⟨sConst, 0, 0, ⟨#[]⟩, [], ⟨#[]⟩, 0, [⟨#[50]⟩]⟩) rfl, valN, if_neg (by decide)]
  show [ratV ⟨#[50]⟩] = [2]
  rw [show (⟨#[50]⟩ : ByteArray) = ratB 2 by decide +kernel, ratV_ratB]
theorem G14_v1 : valAt (bdB []) G14.nodes 1 = [8] := by
  rw [valAt_eq (x := ⟨sPower, 0, 0, ⟨#[]⟩, [], ⟨#[]⟩, 3, []⟩) rfl, valN, if_neg (by decide)]
  show List.map (fun x : Rat => x ^ 3) ((vals (bdB []) G14.nodes 1)[((0 : Nat) : Int).toNat]?.getD []) = [8]
  rw [vals_at (by decide) (by decide), G14_v0]
  decide +kernel
theorem G14_fold : foldG (bdB []) G14 = ⟨[⟨sConst, 0, 0, ⟨#[]⟩, [], ⟨#[]⟩, 0, [⟨#[50]⟩]⟩, ⟨sConst, 0, 0, ⟨#[]⟩, [], ⟨#[]⟩, 0, [⟨#[56]⟩]⟩], 1⟩ := by
  have h1 := foldTo_step (bd := bdB []) (l := G14.nodes) (i := 0) (x := ⟨sConst, 0, 0, ⟨#[]⟩, [], ⟨#[]⟩, 0, [⟨#[50]⟩]⟩) rfl
  rw [foldN_no (goes_no (by decide))] at h1
  have h2 := foldTo_step (bd := bdB []) (l := G14.nodes) (i := 1) (x := ⟨sPower, 0, 0, ⟨#[]⟩, [], ⟨#[]⟩, 3, []⟩) rfl
  rw [h1, G14_v1, foldN_yes (by decide +kernel)] at h2
  have e : foldG (bdB []) G14 = ⟨foldTo (bdB []) G14.nodes 2, 1⟩ := rfl
  rw [e, h2]
  show (⟨[_, ⟨sConst, 0, 0, ⟨#[]⟩, [], ⟨#[]⟩, 0, [ratB 8]⟩], 1⟩ : Gr) = _
  rw [show ratB 8 = ⟨#[56]⟩ by decide +kernel]
def cN (op : ByteArray) (n : Int) (d : AV) : List AV := [.str op, .int .i64 0, .int .i64 0, .str ⟨#[]⟩, .nils, .str ⟨#[]⟩, .int .i64 n, d]
theorem c_awake14 : VCall Go.Proofs.Tryz.prog GL 17 [] (fun r => r = .bool true) := by
  have hf := c_fFold (bdB []) G14 G14_sm (by decide) (fun _ => G14_good)
  rw [G14_ok, if_pos rfl, G14_fold] at hf
  have hf := hf.args (xs := [.agg [.ro 8 [cN sConst 0 (.ro 1 [[.str ⟨#[50]⟩]]), cN sPower 3 .nils], .int .i64 1]])
    ⟨_, _, rfl, ⟨_, rfl, _, _, rfl, ⟨_, rfl, _, _, rfl, ⟨_, _, rfl, rfl, _, _, rfl, rfl, _, _, rfl, rfl, _, _, rfl, rfl, _, _, rfl, asRo_nils 1, _, _, rfl, rfl, _, _, rfl, rfl, _, _, rfl, asRo_refl _, rfl⟩,
      _, _, rfl, ⟨_, _, rfl, rfl, _, _, rfl, rfl, _, _, rfl, rfl, _, _, rfl, rfl, _, _, rfl, asRo_nils 1, _, _, rfl, rfl, _, _, rfl, rfl, _, _, rfl, asRo_nils 1, rfl⟩, rfl⟩, _, _, rfl, rfl, rfl⟩, rfl⟩
  refine vcall_of TOK_awake14 HM Go.Proofs.Tryz.func17 rfl (by decide +kernel) (by decide +kernel) rfl ?_
  repeat' first|refine sY ⟨?_⟩|(refine sq ?_ ?_<;>refine fun h=>⟨?_⟩<;>(first|contradiction|(exfalso;omega)|skip))|fail
  all_goals (conv => whnf)
  all_goals rfl
set_option maxHeartbeats 4000000 in
open Classical in
theorem c_FoldMakes (g : Gr) : VCall Go.Proofs.Tryz.prog GL 3 [.agg g.cells] (fun r => r = .bool true) := by
  have haw := c_awake14
  obtain ⟨l, p⟩ := g
  show VCall _ _ _ [.agg [.ro 8 (rowN l), .int .i64 p]] _
  have hsm := c_r10_Small GL ⟨l, p⟩
  have hlr := rowN_length l
  cases hS : smallG ⟨l, p⟩
  · rw [hS] at hsm
    refine vcall_of TOK_FoldMakes HM Go.Proofs.Tryz.func3 rfl (by decide +kernel) (by decide +kernel) rfl ?_
    repeat' first|refine sY ⟨?_⟩|(refine sq ?_ ?_<;>refine fun h=>⟨?_⟩<;>(first|contradiction|(exfalso;omega)|skip))|fail
    all_goals (conv => whnf)
    all_goals rfl
  rw [hS] at hsm
  simp only [smallG, Bool.and_eq_true, decide_eq_true_eq, List.all_eq_true] at hS
  obtain ⟨hl, hs⟩ := hS
  have hs := fun x hx => smallN_sm (hs x hx)
  have hcm := c_Calm l p [] (by omega) hs (by decide) (fun b hb => by simp at hb)
  by_cases hC : calmZ l [] ≤ 400
  case neg =>
    rw [decide_eq_false hC] at hcm
    refine vcall_of TOK_FoldMakes HM Go.Proofs.Tryz.func3 rfl (by decide +kernel) (by decide +kernel) rfl ?_
    repeat' first|refine sY ⟨?_⟩|(refine sq ?_ ?_<;>refine fun h=>⟨?_⟩<;>(first|contradiction|(exfalso;omega)|skip))|fail
    all_goals (conv => whnf)
    all_goals rfl
  rw [decide_eq_true hC] at hcm
  have hf := c_fFold (bdB []) ⟨l, p⟩ hs (by dsimp only; omega) (fun h => calm_good h hs [] (fun b hb => by simp at hb) hC)
  have hR := c_r10_Right GL ⟨l, p⟩ hs (by dsimp only; omega)
  cases hg : grOK ⟨l, p⟩
  · rw [hg, if_neg (by simp)] at hf
    rw [hg] at hR
    refine vcall_of TOK_FoldMakes HM Go.Proofs.Tryz.func3 rfl (by decide +kernel) (by decide +kernel) rfl ?_
    repeat' first|refine sY ⟨?_⟩|(refine sq ?_ ?_<;>refine fun h=>⟨?_⟩<;>(first|contradiction|(exfalso;omega)|skip))|fail
    all_goals (conv => whnf)
    all_goals rfl
  rw [hg, if_pos rfl] at hf
  rw [hg] at hR
  have hG := calm_good hg hs [] (fun b hb => by simp at hb) hC
  have hF : foldG (bdB []) ⟨l, p⟩ = ⟨foldTo (bdB []) l l.length, p⟩ := rfl
  rw [hF] at hf
  clear hF
  have hsm2 := fold_sm (calm_given hg hs [] (fun b hb => by simp at hb) hC) hs
  have hln := foldTo_len (bd := bdB []) (l := l) l.length (Nat.le_refl _)
  have hLr := rowN_length (foldTo (bdB []) l l.length)
  dsimp only at hs hl hsm2 hG
  have h14 := c_r14Fold (bdB []) ⟨l, p⟩ hg hG
  rw [show foldG (bdB []) ⟨l, p⟩ = ⟨foldTo (bdB []) l l.length, p⟩ from rfl] at h14
  generalize foldTo (bdB []) l l.length = L at hf h14 hsm2 hln hLr
  have hE := c_r10_Equal GL ⟨L, p⟩ ⟨L, p⟩ hsm2 hsm2 (by dsimp only; omega)
  rw [decide_eq_true rfl] at hE
  refine vcall_of TOK_FoldMakes HM Go.Proofs.Tryz.func3 rfl (by decide +kernel) (by decide +kernel) rfl ?_
  repeat' first|refine sY ⟨?_⟩|(refine sq ?_ ?_<;>refine fun h=>⟨?_⟩<;>(first|contradiction|(exfalso;omega)|skip))|fail
  refine ⟨by decide +kernel, [0, 0, 2, 7, 15, 31, 63, 127, 255, 511, 1023, 2047], by decide +kernel, ?_⟩
  repeat' first|refine sY ⟨?_⟩|(refine sq ?_ ?_<;>refine fun h=>⟨?_⟩<;>(first|contradiction|(exfalso;omega)|skip))|fail
  all_goals (conv => whnf)
  all_goals rfl
def cntB (f : Nat → Bool) : Nat → Nat
  | 0 => 0
  | i + 1 => cntB f i + (if f i = true then 1 else 0)
theorem cntB_bound (f : Nat → Bool) : ∀ n, cntB f n ≤ n
  | 0 => Nat.le_refl _
  | n + 1 => by have := cntB_bound f n; unfold cntB; split <;> omega
theorem cntB_zero {f : Nat → Bool} : ∀ {n}, cntB f n = 0 → ∀ j, j < n → f j = false
  | 0, _, j, h => absurd h (Nat.not_lt_zero _)
  | n + 1, h, j, hj => by
    unfold cntB at h
    rcases Nat.lt_succ_iff_lt_or_eq.1 hj with h1 | h1
    · exact cntB_zero (by omega) j h1
    · subst h1
      cases hf : f j
      · rfl
      · rw [hf] at h; simp at h
theorem cntB_none {f : Nat → Bool} : ∀ {n}, (∀ j, j < n → f j = false) → cntB f n = 0
  | 0, _ => rfl
  | n + 1, h => by unfold cntB; rw [h n (by omega), cntB_none fun j hj => h j (by omega)]; rfl
theorem cntB_le {f g : Nat → Bool} : ∀ {n}, (∀ j, j < n → f j = true → g j = true) → cntB f n ≤ cntB g n
  | 0, _ => Nat.le_refl _
  | n + 1, h => by
    have h1 := cntB_le (n := n) fun j hj => h j (by omega)
    unfold cntB
    cases hf : f n
    · rw [if_neg (by simp)]; split <;> omega
    · rw [if_pos rfl, if_pos (h n (by omega) hf)]; omega
theorem cntB_t {f : Nat → Bool} {i : Nat} (h : f i = true) : ((cntB f (i + 1) : Nat) : Int) = (cntB f i : Nat) + 1 := by rw [cntB, if_pos h]; rfl
theorem cntB_f {f : Nat → Bool} {i : Nat} (h : f i = false) : ((cntB f (i + 1) : Nat) : Int) = (cntB f i : Nat) := by rw [cntB, h]; rfl
end Go.V
namespace Go.V
open Go.N
set_option maxRecDepth 20000
def T_FoldAll : Tab := [(24, i24), (4, i4), (49, i49), (65, i65), (3, i3), (28, i28), (22, i22), (36, i36), (9, i9)]
theorem TOK_FoldAll : TOK Go.Proofs.Tryz.prog T_FoldAll := ⟨K24, ⟨K4, ⟨K49, ⟨K65, ⟨K3, ⟨K28, ⟨K22, ⟨K36, ⟨K9, trivial⟩⟩⟩⟩⟩⟩⟩⟩⟩
def T_FoldNames : Tab := [(24, i24), (4, i4), (49, i49), (65, i65), (3, i3), (28, i28), (22, i22), (36, i36), (9, i9), (33, i33)]
theorem TOK_FoldNames : TOK Go.Proofs.Tryz.prog T_FoldNames := ⟨K24, ⟨K4, ⟨K49, ⟨K65, ⟨K3, ⟨K28, ⟨K22, ⟨K36, ⟨K9, ⟨K33, trivial⟩⟩⟩⟩⟩⟩⟩⟩⟩⟩
def T_FoldLeaves : Tab := [(24, i24), (4, i4), (49, i49), (65, i65), (3, i3), (28, i28), (22, i22), (36, i36), (9, i9)]
theorem TOK_FoldLeaves : TOK Go.Proofs.Tryz.prog T_FoldLeaves := ⟨K24, ⟨K4, ⟨K49, ⟨K65, ⟨K3, ⟨K28, ⟨K22, ⟨K36, ⟨K9, trivial⟩⟩⟩⟩⟩⟩⟩⟩⟩
def nmB (l : List Nd) (j : Nat) : Bool := match l[j]? with | some x => !decide (x.name = ⟨#[]⟩) | none => false
def coB (l : List Nd) (j : Nat) : Bool := match l[j]? with | some x => decide (x.op = sConst) | none => false
def ncB (l : List Nd) (j : Nat) : Bool := match l[j]? with | some x => !decide (x.op = sConst) | none => false
theorem nmB_get {l : List Nd} {j : Nat} {x : Nd} (h : l[j]? = some x) : nmB l j = !decide (x.name = ⟨#[]⟩) := by rw [nmB, h]
theorem coB_get {l : List Nd} {j : Nat} {x : Nd} (h : l[j]? = some x) : coB l j = decide (x.op = sConst) := by rw [coB, h]
theorem ncB_get {l : List Nd} {j : Nat} {x : Nd} (h : l[j]? = some x) : ncB l j = !decide (x.op = sConst) := by rw [ncB, h]
set_option maxHeartbeats 4000000 in
open Classical in
theorem c_FoldAll (g : Gr) : VCall Go.Proofs.Tryz.prog GL 4 [.agg g.cells] (fun r => r = .bool true) := by
  have haw := c_awake14
  obtain ⟨l, p⟩ := g
  show VCall _ _ _ [.agg [.ro 8 (rowN l), .int .i64 p]] _
  have hsm := c_r10_Small GL ⟨l, p⟩
  have hlr := rowN_length l
  cases hS : smallG ⟨l, p⟩
  · rw [hS] at hsm
    refine vcall_of TOK_FoldAll HM Go.Proofs.Tryz.func4 rfl (by decide +kernel) (by decide +kernel) rfl ?_
    repeat' first|refine sY ⟨?_⟩|(refine sq ?_ ?_<;>refine fun h=>⟨?_⟩<;>(first|contradiction|(exfalso;omega)|skip))|fail
    all_goals (conv => whnf)
    all_goals rfl
  rw [hS] at hsm
  simp only [smallG, Bool.and_eq_true, decide_eq_true_eq, List.all_eq_true] at hS
  obtain ⟨hl, hs⟩ := hS
  have hs := fun x hx => smallN_sm (hs x hx)
  have hcm := c_Calm l p [] (by omega) hs (by decide) (fun b hb => by simp at hb)
  by_cases hC : calmZ l [] ≤ 400
  case neg =>
    rw [decide_eq_false hC] at hcm
    refine vcall_of TOK_FoldAll HM Go.Proofs.Tryz.func4 rfl (by decide +kernel) (by decide +kernel) rfl ?_
    repeat' first|refine sY ⟨?_⟩|(refine sq ?_ ?_<;>refine fun h=>⟨?_⟩<;>(first|contradiction|(exfalso;omega)|skip))|fail
    all_goals (conv => whnf)
    all_goals rfl
  rw [decide_eq_true hC] at hcm
  have hf := c_fFold (bdB []) ⟨l, p⟩ hs (by dsimp only; omega) (fun h => calm_good h hs [] (fun b hb => by simp at hb) hC)
  have hR := c_r10_Right GL ⟨l, p⟩ hs (by dsimp only; omega)
  cases hg : grOK ⟨l, p⟩
  · rw [hg, if_neg (by simp)] at hf
    rw [hg] at hR
    refine vcall_of TOK_FoldAll HM Go.Proofs.Tryz.func4 rfl (by decide +kernel) (by decide +kernel) rfl ?_
    repeat' first|refine sY ⟨?_⟩|(refine sq ?_ ?_<;>refine fun h=>⟨?_⟩<;>(first|contradiction|(exfalso;omega)|skip))|fail
    all_goals (conv => whnf)
    all_goals rfl
  rw [hg, if_pos rfl] at hf
  rw [hg] at hR
  have hG := calm_good hg hs [] (fun b hb => by simp at hb) hC
  have hF : foldG (bdB []) ⟨l, p⟩ = ⟨foldTo (bdB []) l l.length, p⟩ := rfl
  rw [hF] at hf
  clear hF
  have hsm2 := fold_sm (calm_given hg hs [] (fun b hb => by simp at hb) hC) hs
  have hln := foldTo_len (bd := bdB []) (l := l) l.length (Nat.le_refl _)
  have hLr := rowN_length (foldTo (bdB []) l l.length)
  dsimp only at hs hl hsm2 hG
  obtain ⟨h1, h2, q, hq1, hq⟩ := ok_pre hg
  have hA : cntB (nmB l) l.length = 0 → cntB (ncB (foldTo (bdB []) l l.length)) l.length = 0 := fun h => cntB_none fun j hj => by
    have hx := foldTo_get (bd := bdB []) (l := l) (List.getElem?_eq_getElem hj) hj (Nat.le_refl _)
    have := fold_a (bd := bdB []) hg (fun x hx => by
      obtain ⟨k, hk⟩ := List.mem_iff_getElem?.1 hx
      have := cntB_zero h k (List.getElem?_eq_some_iff.1 hk).1
      rw [nmB_get hk] at this; simpa using this) j hj
    rw [opAt_nat hx] at this
    rw [ncB_get hx, this]; rfl
  have hB : cntB (coB l) l.length = 0 → foldTo (bdB []) l l.length = l := fun h => by
    have := fold_b (bd := bdB []) (g := ⟨l, p⟩) (fun x hx => by
      obtain ⟨k, hk⟩ := List.mem_iff_getElem?.1 hx
      have := cntB_zero h k (List.getElem?_eq_some_iff.1 hk).1
      rw [coB_get hk] at this; simpa using this) l.length (Nat.le_refl _)
    rwa [List.take_length] at this
  have hL : cntB (nmB l) l.length ≤ cntB (ncB (foldTo (bdB []) l l.length)) l.length := cntB_le fun j hj hn => by
    have hx : l[j]? = some l[j] := List.getElem?_eq_getElem hj
    rw [nmB_get hx] at hn
    obtain ⟨e1, e2⟩ := fold_named hg hx (by simpa using hn) (foldTo (bdB []) l j) (valAt (bdB []) l j)
    rw [ncB_get (foldTo_get (bd := bdB []) hx hj (Nat.le_refl _)), e1]
    simpa using e2
  have hE := c_r10_Equal GL ⟨foldTo (bdB []) l l.length, p⟩ ⟨l, p⟩ hsm2 hs (by dsimp only; omega)
  have hE2 : cntB (coB l) l.length = 0 → decide ((⟨foldTo (bdB []) l l.length, p⟩ : Gr) = ⟨l, p⟩) = true := fun h => decide_eq_true (by rw [hB h])
  generalize decide ((⟨foldTo (bdB []) l l.length, p⟩ : Gr) = ⟨l, p⟩) = eq at hE hE2
  clear hB
  dsimp only at h1 h2
  generalize foldTo (bdB []) l l.length = L at hf hsm2 hln hLr hA hL hE
  have b1 := cntB_bound (nmB l)
  have b2 := cntB_bound (coB l)
  have b3 := cntB_bound (ncB L)
  refine vcall_of TOK_FoldAll HM Go.Proofs.Tryz.func4 rfl (by decide +kernel) (by decide +kernel) rfl ?_
  repeat' first|refine sY ⟨?_⟩|(refine sq ?_ ?_<;>refine fun h=>⟨?_⟩<;>(first|contradiction|(exfalso;omega)|skip))|fail
  refine ⟨[1, 3, 5, 6, 7, 34, 35, 36], [0, 1], fun m st => ∃ i : Nat, i ≤ l.length ∧ m = l.length - i ∧
    st = ⟨[(1, .bptr 0 0), (3, .bptr 1 0), (5, .int .i64 (cntB (nmB l) i : Nat)), (6, .int .i64 (cntB (coB l) i : Nat)), (7, .int .i64 (cntB (ncB L) i : Nat)), (34, .ro 8 (rowN l)), (35, .int .i64 ((rowN l).length : Nat)), (36, .int .i64 (i : Nat))], [.box 24 [.ro 8 (rowN l), .int .i64 p], .box 24 [.ro 8 (rowN L), .int .i64 p]]⟩, rfl, ⟨l.length, 0, by omega, rfl, rfl⟩, ?_⟩
  rintro m _ ⟨i, hi, hm, rfl⟩
  rcases Nat.lt_or_ge i l.length with hil | hge
  · have g1 : (rowN l)[i]? = some (l[i]).cells := rowN_get hil
    have g2 : (rowN L)[i]? = some (L[i]).cells := rowN_get (by omega)
    have n1 := nmB_get (List.getElem?_eq_getElem hil)
    have n2 := coB_get (List.getElem?_eq_getElem hil)
    have n3 := ncB_get (List.getElem?_eq_getElem (by omega : i < L.length))
    have c1 := b1 i
    have c2 := b2 i
    have c3 := b3 i
    generalize l[i] = x at g1 n1 n2
    generalize L[i] = y at g2 n3
    obtain ⟨op, a, b, name, shape, k, n, data⟩ := x
    obtain ⟨opy, ay, b_y, namey, shapey, ky, ny, datay⟩ := y
    dsimp only at n1 n2 n3
    by_cases e1 : name = ⟨#[]⟩
    · rw [decide_eq_true e1] at n1
      by_cases e2 : op = sConst
      · rw [decide_eq_true e2] at n2
        by_cases e3 : opy = sConst
        · rw [decide_eq_true e3] at n3
          repeat' first|refine sY ⟨?_⟩|(refine sq ?_ ?_<;>refine fun h=>⟨?_⟩<;>(first|contradiction|(exfalso;omega)|skip))|fail
          all_goals exact ⟨[0, 1], l.length - (i + 1), rfl, by omega, i + 1, by omega, rfl, Eq.trans rfl (congrArg (fun z : Int × Int × Int => (⟨[(1, .bptr 0 0), (3, .bptr 1 0), (5, .int .i64 z.1), (6, .int .i64 z.2.1), (7, .int .i64 z.2.2), (34, .ro 8 (rowN l)), (35, .int .i64 ((rowN l).length : Nat)), (36, .int .i64 ((i + 1 : Nat) : Int))], [.box 24 [.ro 8 (rowN l), .int .i64 p], .box 24 [.ro 8 (rowN L), .int .i64 p]]⟩ : St)) (show (_, _, _) = (((cntB (nmB l) (i + 1) : Nat) : Int), ((cntB (coB l) (i + 1) : Nat) : Int), ((cntB (ncB L) (i + 1) : Nat) : Int)) by rw [cntB_f n1, cntB_t n2, cntB_f n3]))⟩
        · rw [decide_eq_false e3] at n3
          repeat' first|refine sY ⟨?_⟩|(refine sq ?_ ?_<;>refine fun h=>⟨?_⟩<;>(first|contradiction|(exfalso;omega)|skip))|fail
          all_goals exact ⟨[0, 1], l.length - (i + 1), rfl, by omega, i + 1, by omega, rfl, Eq.trans rfl (congrArg (fun z : Int × Int × Int => (⟨[(1, .bptr 0 0), (3, .bptr 1 0), (5, .int .i64 z.1), (6, .int .i64 z.2.1), (7, .int .i64 z.2.2), (34, .ro 8 (rowN l)), (35, .int .i64 ((rowN l).length : Nat)), (36, .int .i64 ((i + 1 : Nat) : Int))], [.box 24 [.ro 8 (rowN l), .int .i64 p], .box 24 [.ro 8 (rowN L), .int .i64 p]]⟩ : St)) (show (_, _, _) = (((cntB (nmB l) (i + 1) : Nat) : Int), ((cntB (coB l) (i + 1) : Nat) : Int), ((cntB (ncB L) (i + 1) : Nat) : Int)) by rw [cntB_f n1, cntB_t n2, cntB_t n3]))⟩
      · rw [decide_eq_false e2] at n2
        by_cases e3 : opy = sConst
        · rw [decide_eq_true e3] at n3
          repeat' first|refine sY ⟨?_⟩|(refine sq ?_ ?_<;>refine fun h=>⟨?_⟩<;>(first|contradiction|(exfalso;omega)|skip))|fail
          all_goals exact ⟨[0, 1], l.length - (i + 1), rfl, by omega, i + 1, by omega, rfl, Eq.trans rfl (congrArg (fun z : Int × Int × Int => (⟨[(1, .bptr 0 0), (3, .bptr 1 0), (5, .int .i64 z.1), (6, .int .i64 z.2.1), (7, .int .i64 z.2.2), (34, .ro 8 (rowN l)), (35, .int .i64 ((rowN l).length : Nat)), (36, .int .i64 ((i + 1 : Nat) : Int))], [.box 24 [.ro 8 (rowN l), .int .i64 p], .box 24 [.ro 8 (rowN L), .int .i64 p]]⟩ : St)) (show (_, _, _) = (((cntB (nmB l) (i + 1) : Nat) : Int), ((cntB (coB l) (i + 1) : Nat) : Int), ((cntB (ncB L) (i + 1) : Nat) : Int)) by rw [cntB_f n1, cntB_f n2, cntB_f n3]))⟩
        · rw [decide_eq_false e3] at n3
          repeat' first|refine sY ⟨?_⟩|(refine sq ?_ ?_<;>refine fun h=>⟨?_⟩<;>(first|contradiction|(exfalso;omega)|skip))|fail
          all_goals exact ⟨[0, 1], l.length - (i + 1), rfl, by omega, i + 1, by omega, rfl, Eq.trans rfl (congrArg (fun z : Int × Int × Int => (⟨[(1, .bptr 0 0), (3, .bptr 1 0), (5, .int .i64 z.1), (6, .int .i64 z.2.1), (7, .int .i64 z.2.2), (34, .ro 8 (rowN l)), (35, .int .i64 ((rowN l).length : Nat)), (36, .int .i64 ((i + 1 : Nat) : Int))], [.box 24 [.ro 8 (rowN l), .int .i64 p], .box 24 [.ro 8 (rowN L), .int .i64 p]]⟩ : St)) (show (_, _, _) = (((cntB (nmB l) (i + 1) : Nat) : Int), ((cntB (coB l) (i + 1) : Nat) : Int), ((cntB (ncB L) (i + 1) : Nat) : Int)) by rw [cntB_f n1, cntB_f n2, cntB_t n3]))⟩
    · rw [decide_eq_false e1] at n1
      by_cases e2 : op = sConst
      · rw [decide_eq_true e2] at n2
        by_cases e3 : opy = sConst
        · rw [decide_eq_true e3] at n3
          repeat' first|refine sY ⟨?_⟩|(refine sq ?_ ?_<;>refine fun h=>⟨?_⟩<;>(first|contradiction|(exfalso;omega)|skip))|fail
          all_goals exact ⟨[0, 1], l.length - (i + 1), rfl, by omega, i + 1, by omega, rfl, Eq.trans rfl (congrArg (fun z : Int × Int × Int => (⟨[(1, .bptr 0 0), (3, .bptr 1 0), (5, .int .i64 z.1), (6, .int .i64 z.2.1), (7, .int .i64 z.2.2), (34, .ro 8 (rowN l)), (35, .int .i64 ((rowN l).length : Nat)), (36, .int .i64 ((i + 1 : Nat) : Int))], [.box 24 [.ro 8 (rowN l), .int .i64 p], .box 24 [.ro 8 (rowN L), .int .i64 p]]⟩ : St)) (show (_, _, _) = (((cntB (nmB l) (i + 1) : Nat) : Int), ((cntB (coB l) (i + 1) : Nat) : Int), ((cntB (ncB L) (i + 1) : Nat) : Int)) by rw [cntB_t n1, cntB_t n2, cntB_f n3]))⟩
        · rw [decide_eq_false e3] at n3
          repeat' first|refine sY ⟨?_⟩|(refine sq ?_ ?_<;>refine fun h=>⟨?_⟩<;>(first|contradiction|(exfalso;omega)|skip))|fail
          all_goals exact ⟨[0, 1], l.length - (i + 1), rfl, by omega, i + 1, by omega, rfl, Eq.trans rfl (congrArg (fun z : Int × Int × Int => (⟨[(1, .bptr 0 0), (3, .bptr 1 0), (5, .int .i64 z.1), (6, .int .i64 z.2.1), (7, .int .i64 z.2.2), (34, .ro 8 (rowN l)), (35, .int .i64 ((rowN l).length : Nat)), (36, .int .i64 ((i + 1 : Nat) : Int))], [.box 24 [.ro 8 (rowN l), .int .i64 p], .box 24 [.ro 8 (rowN L), .int .i64 p]]⟩ : St)) (show (_, _, _) = (((cntB (nmB l) (i + 1) : Nat) : Int), ((cntB (coB l) (i + 1) : Nat) : Int), ((cntB (ncB L) (i + 1) : Nat) : Int)) by rw [cntB_t n1, cntB_t n2, cntB_t n3]))⟩
      · rw [decide_eq_false e2] at n2
        by_cases e3 : opy = sConst
        · rw [decide_eq_true e3] at n3
          repeat' first|refine sY ⟨?_⟩|(refine sq ?_ ?_<;>refine fun h=>⟨?_⟩<;>(first|contradiction|(exfalso;omega)|skip))|fail
          all_goals exact ⟨[0, 1], l.length - (i + 1), rfl, by omega, i + 1, by omega, rfl, Eq.trans rfl (congrArg (fun z : Int × Int × Int => (⟨[(1, .bptr 0 0), (3, .bptr 1 0), (5, .int .i64 z.1), (6, .int .i64 z.2.1), (7, .int .i64 z.2.2), (34, .ro 8 (rowN l)), (35, .int .i64 ((rowN l).length : Nat)), (36, .int .i64 ((i + 1 : Nat) : Int))], [.box 24 [.ro 8 (rowN l), .int .i64 p], .box 24 [.ro 8 (rowN L), .int .i64 p]]⟩ : St)) (show (_, _, _) = (((cntB (nmB l) (i + 1) : Nat) : Int), ((cntB (coB l) (i + 1) : Nat) : Int), ((cntB (ncB L) (i + 1) : Nat) : Int)) by rw [cntB_t n1, cntB_f n2, cntB_f n3]))⟩
        · rw [decide_eq_false e3] at n3
          repeat' first|refine sY ⟨?_⟩|(refine sq ?_ ?_<;>refine fun h=>⟨?_⟩<;>(first|contradiction|(exfalso;omega)|skip))|fail
          all_goals exact ⟨[0, 1], l.length - (i + 1), rfl, by omega, i + 1, by omega, rfl, Eq.trans rfl (congrArg (fun z : Int × Int × Int => (⟨[(1, .bptr 0 0), (3, .bptr 1 0), (5, .int .i64 z.1), (6, .int .i64 z.2.1), (7, .int .i64 z.2.2), (34, .ro 8 (rowN l)), (35, .int .i64 ((rowN l).length : Nat)), (36, .int .i64 ((i + 1 : Nat) : Int))], [.box 24 [.ro 8 (rowN l), .int .i64 p], .box 24 [.ro 8 (rowN L), .int .i64 p]]⟩ : St)) (show (_, _, _) = (((cntB (nmB l) (i + 1) : Nat) : Int), ((cntB (coB l) (i + 1) : Nat) : Int), ((cntB (ncB L) (i + 1) : Nat) : Int)) by rw [cntB_t n1, cntB_f n2, cntB_t n3]))⟩
  · obtain rfl : i = l.length := by omega
    generalize cntB (nmB l) l.length = A at hA hL ⊢
    generalize cntB (coB l) l.length = B at hE2 ⊢
    generalize cntB (ncB L) l.length = C at hA hL ⊢
    rcases Nat.eq_zero_or_pos A with hA0 | hA0
    · have hC0 := hA hA0
      rcases Nat.eq_zero_or_pos B with hB0 | hB0
      · have := hE2 hB0
        subst this
        repeat' first|refine sY ⟨?_⟩|(refine sq ?_ ?_<;>refine fun h=>⟨?_⟩<;>(first|contradiction|(exfalso;omega)|skip))|fail
        all_goals (conv => whnf)
        all_goals rfl
      · repeat' first|refine sY ⟨?_⟩|(refine sq ?_ ?_<;>refine fun h=>⟨?_⟩<;>(first|contradiction|(exfalso;omega)|skip))|fail
        all_goals (conv => whnf)
        all_goals rfl
    · rcases Nat.eq_zero_or_pos B with hB0 | hB0
      · have := hE2 hB0
        subst this
        repeat' first|refine sY ⟨?_⟩|(refine sq ?_ ?_<;>refine fun h=>⟨?_⟩<;>(first|contradiction|(exfalso;omega)|skip))|fail
        all_goals (conv => whnf)
        all_goals rfl
      · repeat' first|refine sY ⟨?_⟩|(refine sq ?_ ?_<;>refine fun h=>⟨?_⟩<;>(first|contradiction|(exfalso;omega)|skip))|fail
        all_goals (conv => whnf)
        all_goals rfl
set_option maxHeartbeats 4000000 in
open Classical in
theorem c_FoldNames (g : Gr) : VCall Go.Proofs.Tryz.prog GL 5 [.agg g.cells] (fun r => r = .bool true) := by
  have haw := c_awake14
  obtain ⟨l, p⟩ := g
  show VCall _ _ _ [.agg [.ro 8 (rowN l), .int .i64 p]] _
  have hsm := c_r10_Small GL ⟨l, p⟩
  have hlr := rowN_length l
  cases hS : smallG ⟨l, p⟩
  · rw [hS] at hsm
    refine vcall_of TOK_FoldNames HM Go.Proofs.Tryz.func5 rfl (by decide +kernel) (by decide +kernel) rfl ?_
    repeat' first|refine sY ⟨?_⟩|(refine sq ?_ ?_<;>refine fun h=>⟨?_⟩<;>(first|contradiction|(exfalso;omega)|skip))|fail
    all_goals (conv => whnf)
    all_goals rfl
  rw [hS] at hsm
  simp only [smallG, Bool.and_eq_true, decide_eq_true_eq, List.all_eq_true] at hS
  obtain ⟨hl, hs⟩ := hS
  have hs := fun x hx => smallN_sm (hs x hx)
  have hcm := c_Calm l p [] (by omega) hs (by decide) (fun b hb => by simp at hb)
  by_cases hC : calmZ l [] ≤ 400
  case neg =>
    rw [decide_eq_false hC] at hcm
    refine vcall_of TOK_FoldNames HM Go.Proofs.Tryz.func5 rfl (by decide +kernel) (by decide +kernel) rfl ?_
    repeat' first|refine sY ⟨?_⟩|(refine sq ?_ ?_<;>refine fun h=>⟨?_⟩<;>(first|contradiction|(exfalso;omega)|skip))|fail
    all_goals (conv => whnf)
    all_goals rfl
  rw [decide_eq_true hC] at hcm
  have hf := c_fFold (bdB []) ⟨l, p⟩ hs (by dsimp only; omega) (fun h => calm_good h hs [] (fun b hb => by simp at hb) hC)
  have hR := c_r10_Right GL ⟨l, p⟩ hs (by dsimp only; omega)
  cases hg : grOK ⟨l, p⟩
  · rw [hg, if_neg (by simp)] at hf
    rw [hg] at hR
    refine vcall_of TOK_FoldNames HM Go.Proofs.Tryz.func5 rfl (by decide +kernel) (by decide +kernel) rfl ?_
    repeat' first|refine sY ⟨?_⟩|(refine sq ?_ ?_<;>refine fun h=>⟨?_⟩<;>(first|contradiction|(exfalso;omega)|skip))|fail
    all_goals (conv => whnf)
    all_goals rfl
  rw [hg, if_pos rfl] at hf
  rw [hg] at hR
  have hG := calm_good hg hs [] (fun b hb => by simp at hb) hC
  have hF : foldG (bdB []) ⟨l, p⟩ = ⟨foldTo (bdB []) l l.length, p⟩ := rfl
  rw [hF] at hf
  clear hF
  have hsm2 := fold_sm (calm_given hg hs [] (fun b hb => by simp at hb) hC) hs
  have hln := foldTo_len (bd := bdB []) (l := l) l.length (Nat.le_refl _)
  have hLr := rowN_length (foldTo (bdB []) l l.length)
  dsimp only at hs hl hsm2 hG
  have hfb := fun {i : Nat} {x : Nd} => @fold_behind (bdB []) ⟨l, p⟩ hg i x
  have hfn := fun {i : Nat} {x : Nd} (hx : l[i]? = some x) => fold_name (g := ⟨l, p⟩) hg hx (foldTo (bdB []) l i) (valAt (bdB []) l i)
  have hfg := fun {i : Nat} {x : Nd} (hx : l[i]? = some x) (h : i < l.length) => foldTo_get (bd := bdB []) hx h (Nat.le_refl _)
  have hfs := fun {i : Nat} {x : Nd} (hx : l[i]? = some x) => foldN_shape (foldTo (bdB []) l i) x (valAt (bdB []) l i)
  clear hR hG
  have hR := c_r10_Right GL ⟨l, p⟩ hs (by dsimp only; omega)
  rw [hg] at hR
  have hfull : ∀ i (h : i < l.length), ∃ y, (foldTo (bdB []) l l.length)[i]? = some y ∧ y.Sm ∧ y.name = l[i].name ∧ y.shape = l[i].shape ∧ (l[i].op ≠ sConst → l[i].name = ⟨#[]⟩ → ∃ q z, l[i].a = ((q : Nat) : Int) ∧ l[q]? = some z ∧ (z.name ≠ ⟨#[]⟩ → y = l[i])) := fun i h => by
    have hx : l[i]? = some l[i] := List.getElem?_eq_getElem h
    exact ⟨_, hfg hx h, hsm2 _ (List.mem_of_getElem? (hfg hx h)), hfn hx, hfs hx, fun hc hn => hfb hx hc hn⟩
  clear hfb hfn hfg hfs hg
  generalize foldTo (bdB []) l l.length = L at hf hsm2 hln hLr hfull
  refine vcall_of TOK_FoldNames HM Go.Proofs.Tryz.func5 rfl (by decide +kernel) (by decide +kernel) rfl ?_
  repeat' first|refine sY ⟨?_⟩|(refine sq ?_ ?_<;>refine fun h=>⟨?_⟩<;>(first|contradiction|(exfalso;omega)|skip))|fail
  refine ⟨[1, 3, 51, 52, 53], [0, 1], fun m st => ∃ i : Nat, i ≤ l.length ∧ m = l.length - i ∧
    st = ⟨[(1, .bptr 0 0), (3, .bptr 1 0), (51, .ro 8 (rowN l)), (52, .int .i64 ((rowN l).length : Nat)), (53, .int .i64 (i : Nat))], [.box 24 [.ro 8 (rowN l), .int .i64 p], .box 24 [.ro 8 (rowN L), .int .i64 p]]⟩, rfl, ⟨l.length, 0, by omega, rfl, rfl⟩, ?_⟩
  rintro m _ ⟨i, hi, hm, rfl⟩
  rcases Nat.lt_or_ge i l.length with hil | hge
  · have g1 : (rowN l)[i]? = some (l[i]).cells := rowN_get hil
    obtain ⟨y, hy, hys, hyn, hyh, hyb⟩ := hfull i hil
    have g2 : (rowN L)[i]? = some y.cells := by
      obtain ⟨hy1, hy2⟩ := List.getElem?_eq_some_iff.1 hy
      rw [rowN_get hy1, hy2]
    have hxs := hs l[i] (List.getElem_mem hil)
    have hS := c_r10_Same GL y l[i] hys hxs
    have hq : ∀ (q : Nat) (z : Nd), l[q]? = some z → (rowN l)[q]? = some z.cells := fun q z hz => by
      obtain ⟨hy1, hy2⟩ := List.getElem?_eq_some_iff.1 hz
      rw [rowN_get hy1, hy2]
    have hsl := hxs.shape
    generalize l[i] = x at g1 hyn hyh hyb hS hsl
    clear hy hys hxs
    obtain ⟨op, a, b, name, shape, k, n, data⟩ := x
    obtain ⟨opy, ay, b_y, namey, shapey, ky, ny, datay⟩ := y
    dsimp only at hyn hyh hyb hsl
    subst hyn hyh
    have hsh := c_r04_Same GL shapey shapey (by omega) (by omega)
    rw [decide_eq_true rfl] at hsh
    by_cases e2 : op = sConst
    · repeat' first|refine sY ⟨?_⟩|(refine sq ?_ ?_<;>refine fun h=>⟨?_⟩<;>(first|contradiction|(exfalso;omega)|skip))|fail
      all_goals exact ⟨[0, 1], l.length - (i + 1), rfl, by omega, i + 1, by omega, rfl, rfl⟩
    · by_cases e1 : namey = ⟨#[]⟩
      · obtain ⟨q, z, hq1, hq2, hq3⟩ := hyb e2 e1
        have g3 := hq q z hq2
        obtain ⟨opz, az, bz, namez, shapez, kz, nz, dataz⟩ := z
        dsimp only at hq3
        subst hq1
        by_cases e3 : namez = ⟨#[]⟩
        · repeat' first|refine sY ⟨?_⟩|(refine sq ?_ ?_<;>refine fun h=>⟨?_⟩<;>(first|contradiction|(exfalso;omega)|skip))|fail
          all_goals exact ⟨[0, 1], l.length - (i + 1), rfl, by omega, i + 1, by omega, rfl, rfl⟩
        · have hq3 := hq3 e3
          rw [decide_eq_true hq3] at hS
          repeat' first|refine sY ⟨?_⟩|(refine sq ?_ ?_<;>refine fun h=>⟨?_⟩<;>(first|contradiction|(exfalso;omega)|skip))|fail
          all_goals exact ⟨[0, 1], l.length - (i + 1), rfl, by omega, i + 1, by omega, rfl, rfl⟩
      · repeat' first|refine sY ⟨?_⟩|(refine sq ?_ ?_<;>refine fun h=>⟨?_⟩<;>(first|contradiction|(exfalso;omega)|skip))|fail
        all_goals exact ⟨[0, 1], l.length - (i + 1), rfl, by omega, i + 1, by omega, rfl, rfl⟩
  · repeat' first|refine sY ⟨?_⟩|(refine sq ?_ ?_<;>refine fun h=>⟨?_⟩<;>(first|contradiction|(exfalso;omega)|skip))|fail
    all_goals (conv => whnf)
    all_goals rfl
set_option maxHeartbeats 4000000 in
open Classical in
theorem c_FoldLeaves (g : Gr) : VCall Go.Proofs.Tryz.prog GL 7 [.agg g.cells] (fun r => r = .bool true) := by
  have haw := c_awake14
  obtain ⟨l, p⟩ := g
  show VCall _ _ _ [.agg [.ro 8 (rowN l), .int .i64 p]] _
  have hsm := c_r10_Small GL ⟨l, p⟩
  have hlr := rowN_length l
  cases hS : smallG ⟨l, p⟩
  · rw [hS] at hsm
    refine vcall_of TOK_FoldLeaves HM Go.Proofs.Tryz.func7 rfl (by decide +kernel) (by decide +kernel) rfl ?_
    repeat' first|refine sY ⟨?_⟩|(refine sq ?_ ?_<;>refine fun h=>⟨?_⟩<;>(first|contradiction|(exfalso;omega)|skip))|fail
    all_goals (conv => whnf)
    all_goals rfl
  rw [hS] at hsm
  simp only [smallG, Bool.and_eq_true, decide_eq_true_eq, List.all_eq_true] at hS
  obtain ⟨hl, hs⟩ := hS
  have hs := fun x hx => smallN_sm (hs x hx)
  have hcm := c_Calm l p [] (by omega) hs (by decide) (fun b hb => by simp at hb)
  by_cases hC : calmZ l [] ≤ 400
  case neg =>
    rw [decide_eq_false hC] at hcm
    refine vcall_of TOK_FoldLeaves HM Go.Proofs.Tryz.func7 rfl (by decide +kernel) (by decide +kernel) rfl ?_
    repeat' first|refine sY ⟨?_⟩|(refine sq ?_ ?_<;>refine fun h=>⟨?_⟩<;>(first|contradiction|(exfalso;omega)|skip))|fail
    all_goals (conv => whnf)
    all_goals rfl
  rw [decide_eq_true hC] at hcm
  have hf := c_fFold (bdB []) ⟨l, p⟩ hs (by dsimp only; omega) (fun h => calm_good h hs [] (fun b hb => by simp at hb) hC)
  have hR := c_r10_Right GL ⟨l, p⟩ hs (by dsimp only; omega)
  cases hg : grOK ⟨l, p⟩
  · rw [hg, if_neg (by simp)] at hf
    rw [hg] at hR
    refine vcall_of TOK_FoldLeaves HM Go.Proofs.Tryz.func7 rfl (by decide +kernel) (by decide +kernel) rfl ?_
    repeat' first|refine sY ⟨?_⟩|(refine sq ?_ ?_<;>refine fun h=>⟨?_⟩<;>(first|contradiction|(exfalso;omega)|skip))|fail
    all_goals (conv => whnf)
    all_goals rfl
  rw [hg, if_pos rfl] at hf
  rw [hg] at hR
  have hG := calm_good hg hs [] (fun b hb => by simp at hb) hC
  have hF : foldG (bdB []) ⟨l, p⟩ = ⟨foldTo (bdB []) l l.length, p⟩ := rfl
  rw [hF] at hf
  clear hF
  have hsm2 := fold_sm (calm_given hg hs [] (fun b hb => by simp at hb) hC) hs
  have hln := foldTo_len (bd := bdB []) (l := l) l.length (Nat.le_refl _)
  have hLr := rowN_length (foldTo (bdB []) l l.length)
  dsimp only at hs hl hsm2 hG
  have hfull : ∀ i (h : i < (foldTo (bdB []) l l.length).length), partsZ (foldTo (bdB []) l l.length)[i].op = 0 ∨ (0 < partsZ (foldTo (bdB []) l l.length)[i].op ∧ partsZ (foldTo (bdB []) l l.length)[i].op ≤ 2 ∧ ∃ q r, (foldTo (bdB []) l l.length)[i].a = ((q : Nat) : Int) ∧ (foldTo (bdB []) l l.length)[i].b = ((r : Nat) : Int) ∧
      ∃ (hq : q < (foldTo (bdB []) l l.length).length) (hr : r < (foldTo (bdB []) l l.length).length), (foldTo (bdB []) l l.length)[q].op = sConst → (partsZ (foldTo (bdB []) l l.length)[i].op = 2 ∧ (foldTo (bdB []) l l.length)[r].op ≠ sConst)) := fun i h => by
    have hy : (foldTo (bdB []) l l.length)[i]? = some (foldTo (bdB []) l l.length)[i] := List.getElem?_eq_getElem h
    have hpz : ∀ m, partsN (foldTo (bdB []) l l.length)[i].op = m → opParts (foldTo (bdB []) l l.length)[i].op ≠ none → partsZ (foldTo (bdB []) l l.length)[i].op = (m : Nat) := fun m h1 h2 => by
      rw [partsN] at h1
      rw [partsZ]
      cases ho : opParts (foldTo (bdB []) l l.length)[i].op with
      | none => exact absurd ho h2
      | some k => rw [ho] at h1; cases h1; rfl
    rcases Nat.eq_zero_or_pos (partsN (foldTo (bdB []) l l.length)[i].op) with h0 | h0
    · left
      refine hpz 0 h0 ?_
      rw [hln] at h
      have hx : l[i]? = some l[i] := List.getElem?_eq_getElem h
      rw [foldTo_get hx h (Nat.le_refl _)] at hy
      rw [← Option.some.inj hy]
      unfold foldN
      split
      · show opParts sConst ≠ none; decide
      · obtain ⟨o, ho, _⟩ := ok_opc hg hx
        rw [ho, opc_many]; simp
    · right
      obtain ⟨hgo, hx⟩ := fold_left hg hy h0
      obtain ⟨o, ho, F⟩ := ok_opc hg hx
      have hpn : partsN (foldTo (bdB []) l l.length)[i].op = o.many := by rw [ho, partsN_str]
      have hz : partsZ (foldTo (bdB []) l l.length)[i].op = (o.many : Nat) := hpz _ hpn (by rw [ho, opc_many]; simp)
      have hm2 := opParts_le (opc_many o)
      obtain ⟨q, hq1, hq2, hq3⟩ := ok_pa hg hx h0
      have hr : ∃ r : Nat, (foldTo (bdB []) l l.length)[i].b = r ∧ r < l.length := by
        rcases Nat.lt_or_ge o.many 2 with h2 | h2
        · exact ⟨0, F.b0 h2, by dsimp only at hq3; omega⟩
        · obtain ⟨r, hr1, hr2, hr3⟩ := ok_pb hg hx (by rw [hpn]; exact h2)
          exact ⟨r, hr1, hr3⟩
      obtain ⟨r, hr1, hr2⟩ := hr
      have hq3' : q < (foldTo (bdB []) l l.length).length := by rw [hln]; exact hq3
      have hr3' : r < (foldTo (bdB []) l l.length).length := by rw [hln]; exact hr2
      refine ⟨by rw [hz]; omega, by rw [hz]; omega, q, r, hq1, hr1, hq3', hr3', fun hc => ?_⟩
      rw [goes, hq1, hr1, opAt_nat (List.getElem?_eq_getElem hq3'), opAt_nat (List.getElem?_eq_getElem hr3'), hc, hpn] at hgo
      rcases Nat.lt_or_ge o.many 2 with h2 | h2
      · rw [decide_eq_true h2, decide_eq_true (by omega : 0 < o.many)] at hgo; simp at hgo
      · refine ⟨by rw [hz]; omega, fun e => ?_⟩
        rw [e, decide_eq_true (by omega : 0 < o.many)] at hgo; simp at hgo
  clear hR hG hg
  generalize foldTo (bdB []) l l.length = L at hf hsm2 hln hLr hfull
  refine vcall_of TOK_FoldLeaves HM Go.Proofs.Tryz.func7 rfl (by decide +kernel) (by decide +kernel) rfl ?_
  repeat' first|refine sY ⟨?_⟩|(refine sq ?_ ?_<;>refine fun h=>⟨?_⟩<;>(first|contradiction|(exfalso;omega)|skip))|fail
  refine ⟨[1, 3, 32, 33, 34], [0, 1], fun m st => ∃ i : Nat, i ≤ L.length ∧ m = L.length - i ∧
    st = ⟨[(1, .bptr 0 0), (3, .bptr 1 0), (32, .ro 8 (rowN L)), (33, .int .i64 ((rowN L).length : Nat)), (34, .int .i64 (i : Nat))], [.box 24 [.ro 8 (rowN l), .int .i64 p], .box 24 [.ro 8 (rowN L), .int .i64 p]]⟩, rfl, ⟨L.length, 0, by omega, rfl, rfl⟩, ?_⟩
  rintro m _ ⟨i, hi, hm, rfl⟩
  rcases Nat.lt_or_ge i L.length with hil | hge
  · have g1 : (rowN L)[i]? = some (L[i]).cells := rowN_get hil
    have hp := c_r10_Parts GL L[i].op
    have hfi := hfull i hil
    generalize L[i] = x at g1 hp hfi
    obtain ⟨op, a, b, name, shape, k, n, data⟩ := x
    dsimp only at hp hfi
    generalize partsZ op = Z at hp hfi
    rcases hfi with rfl | ⟨hZ1, hZ2, q, r, rfl, rfl, hq, hr, hc⟩
    · repeat' first|refine sY ⟨?_⟩|(refine sq ?_ ?_<;>refine fun h=>⟨?_⟩<;>(first|contradiction|(exfalso;omega)|skip))|fail
      all_goals exact ⟨[0, 1], L.length - (i + 1), rfl, by omega, i + 1, by omega, rfl, rfl⟩
    · have g2 : (rowN L)[q]? = some (L[q]).cells := rowN_get hq
      have g3 : (rowN L)[r]? = some (L[r]).cells := rowN_get hr
      generalize L[q] = y at g2 hc
      generalize L[r] = z at g3 hc
      obtain ⟨opy, ay, b_y, namey, shapey, ky, ny, datay⟩ := y
      obtain ⟨opz, az, bz, namez, shapez, kz, nz, dataz⟩ := z
      dsimp only at hc
      by_cases e : opy = sConst
      · obtain ⟨rfl, hc2⟩ := hc e
        repeat' first|refine sY ⟨?_⟩|(refine sq ?_ ?_<;>refine fun h=>⟨?_⟩<;>(first|contradiction|(exfalso;omega)|skip))|fail
        all_goals exact ⟨[0, 1], L.length - (i + 1), rfl, by omega, i + 1, by omega, rfl, rfl⟩
      · repeat' first|refine sY ⟨?_⟩|(refine sq ?_ ?_<;>refine fun h=>⟨?_⟩<;>(first|contradiction|(exfalso;omega)|skip))|fail
        all_goals exact ⟨[0, 1], L.length - (i + 1), rfl, by omega, i + 1, by omega, rfl, rfl⟩
  · repeat' first|refine sY ⟨?_⟩|(refine sq ?_ ?_<;>refine fun h=>⟨?_⟩<;>(first|contradiction|(exfalso;omega)|skip))|fail
    all_goals (conv => whnf)
    all_goals rfl
end Go.V
