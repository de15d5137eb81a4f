/-
  Lemmas (part 4) for: Proved: the card of the law (DeadAll; DeadFew) of layer 16, for every graph and every row of numbers (and every number), with no condition of ours.
-/
import Derived.Test.YtnifmgbamcllaaaDoorDead3
import Derived.Lib.Bytealg
import Derived.Laws.Externs
set_option linter.all false
namespace Go.V
open Go.N
variable (gl : Gl)
def ixOf (c : UInt8) : List UInt8 → Option Nat
  | [] => none
  | x :: l => if x = c then some 0 else (ixOf c l).map (· + 1)
def ixI (o : Option Nat) : Int := match o with | some k => k | none => -1
theorem ixOf_lt {c : UInt8} : ∀ {l : List UInt8} {k : Nat}, ixOf c l = some k → k < l.length
  | [], k, h => by simp [ixOf] at h
  | x :: l, k, h => by
    simp only [ixOf] at h
    split at h
    · simp at h; subst h; simp
    · cases hi : ixOf c l with
      | none => rw [hi] at h; simp at h
      | some j =>
        rw [hi] at h; simp at h; subst h
        have := ixOf_lt hi
        simp; omega
theorem ixOf_lib (c : UInt8) : ∀ l : List UInt8, Lib.indexByte l c = ixI (ixOf c l)
  | [] => rfl
  | x :: l => by
    have ih := ixOf_lib c l
    simp only [Lib.indexByte, ixOf, ih]
    by_cases h : x = c
    · simp [h, ixI]
    · have hb : (x == c) = false := by simpa using h
      simp only [hb, h, if_false, Bool.false_eq_true]
      cases hi : ixOf c l with
      | none => simp [ixI]
      | some j =>
        show (if ((j : Int) == -1) = true then (-1 : Int) else (j : Int) + 1) = ((j + 1 : Nat) : Int)
        have e : ((j : Int) == -1) = false := by rw [beq_eq_false_iff_ne]; omega
        rw [e]; simp
theorem c_IndexByteString (s : ByteArray) (c : Int) : VCall Go.Proofs.Tryd.prog gl 86 [.str s, .int .u8 c] (fun x => x = .int .i64 (ixI (ixOf c.toNat.toUInt8 s.toList))) := by
  intro S w vs hS hgl h
  simp only [RepL, RepV] at h
  obtain ⟨v1, r1, rfl, rfl, v2, r2, rfl, rfl, rfl⟩ := h
  refine .inr (.inl ⟨Value.int .i64 (ixI (ixOf c.toNat.toUInt8 s.toList)), w, ?_, ⟨_, rfl, ⟨S, [], ?_, by simp, by simp, fun b hb => ⟨hS b hb, .inl hb⟩⟩, ⟨rfl, rfl, rfl, Nat.le_refl _, fun _ _ => rfl⟩⟩⟩)
  · rw [run_callFunc_extern Go.Proofs.Tryd.func86 (by kernel_rfl) (by kernel_rfl) (by kernel_rfl) (e := Extern.BytealgIndexByte.indexByte) (by kernel_rfl), Lib.run_indexByteString]
    simp only [Result.andThen, ixOf_lib, ByteArray.toList_eq]
  · simp only [RepF, RepV]
    exact ⟨trivial, trivial⟩
def T_liteIndexByte : Tab := [(9, ⟨.str, 1, 16, (.string .empty), [0]⟩), (5, ⟨.int .u8, 1, 1, (.int .u8 0), [0]⟩)]
theorem TOK_liteIndexByte : TOK Go.Proofs.Tryd.prog T_liteIndexByte := ⟨⟨info_of Go.Proofs.Tryd.type9 rfl, by decide +kernel, by decide +kernel⟩, ⟨⟨info_of Go.Proofs.Tryd.type5 rfl, by decide +kernel, by decide +kernel⟩, trivial⟩⟩
def T_liteIndex : Tab := [(9, ⟨.str, 1, 16, (.string .empty), [0]⟩), (3, ⟨.int .i64, 1, 8, (.int .i64 0), [0]⟩), (5, ⟨.int .u8, 1, 1, (.int .u8 0), [0]⟩)]
theorem TOK_liteIndex : TOK Go.Proofs.Tryd.prog T_liteIndex := ⟨⟨info_of Go.Proofs.Tryd.type9 rfl, by decide +kernel, by decide +kernel⟩, ⟨⟨info_of Go.Proofs.Tryd.type3 rfl, by decide +kernel, by decide +kernel⟩, ⟨⟨info_of Go.Proofs.Tryd.type5 rfl, by decide +kernel, by decide +kernel⟩, trivial⟩⟩⟩
def T_liteCut : Tab := [(9, ⟨.str, 1, 16, (.string .empty), [0]⟩), (3, ⟨.int .i64, 1, 8, (.int .i64 0), [0]⟩)]
theorem TOK_liteCut : TOK Go.Proofs.Tryd.prog T_liteCut := ⟨⟨info_of Go.Proofs.Tryd.type9 rfl, by decide +kernel, by decide +kernel⟩, ⟨⟨info_of Go.Proofs.Tryd.type3 rfl, by decide +kernel, by decide +kernel⟩, trivial⟩⟩
def T_Cut : Tab := [(9, ⟨.str, 1, 16, (.string .empty), [0]⟩)]
theorem TOK_Cut : TOK Go.Proofs.Tryd.prog T_Cut := ⟨⟨info_of Go.Proofs.Tryd.type9 rfl, by decide +kernel, by decide +kernel⟩, trivial⟩
theorem c_liteIndexByte (s : ByteArray) (c : Int) : VCall Go.Proofs.Tryd.prog gl 74 [.str s, .int .u8 c] (fun x => x = .int .i64 (ixI (ixOf c.toNat.toUInt8 s.toList))) := by
  refine vcall_of TOK_liteIndexByte HM Go.Proofs.Tryd.func74 rfl (by decide +kernel) (by decide +kernel) rfl ?_
  repeat' ((conv => whnf); first | (with_reducible first | apply Xa | (first | apply xi | apply xu | apply x8 | apply x3 | apply xn | apply xp | apply xP | refine xs ?_ ?_ | refine xS ?_ ?_ | refine xZ ?_ ?_ | refine xl ?_ ?_ | refine xd ?_ ?_ | refine xy ?_ ?_ | refine xL ?_ ?_ | refine xD ?_ ?_ | apply xx); omega | apply Xm | apply Xe) | refine Xo (by assumption) ?_ | refine Or.inl ⟨rfl, ?_⟩ | (split <;> (first | (rename_i u h; clear u) | rename_i h) <;> (try rewrite [h]) <;> (first | replace h := dt h | replace h := df h | replace h := Nt h | replace h := Nf h | skip)))
  conv => whnf
  refine .inl ⟨_, c_IndexByteString gl s c, ?_⟩
  rintro _ rfl
  repeat' ((conv => whnf); first | (with_reducible first | apply Xa | (first | apply xi | apply xu | apply x8 | apply x3 | apply xn | apply xp | apply xP | refine xs ?_ ?_ | refine xS ?_ ?_ | refine xZ ?_ ?_ | refine xl ?_ ?_ | refine xd ?_ ?_ | refine xy ?_ ?_ | refine xL ?_ ?_ | refine xD ?_ ?_ | apply xx); omega | apply Xm | apply Xe) | refine Xo (by assumption) ?_ | refine Or.inl ⟨rfl, ?_⟩ | (split <;> (first | (rename_i u h; clear u) | rename_i h) <;> (try rewrite [h]) <;> (first | replace h := dt h | replace h := df h | replace h := Nt h | replace h := Nf h | skip)))
  conv => whnf
  rfl
abbrev slashB : ByteArray := ⟨#[47]⟩
theorem slash_list : slashB.toList = [47] := by rw [ByteArray.toList_eq]
theorem c_liteIndex (s : ByteArray) (hs : s.size < 9000000000) : VCall Go.Proofs.Tryd.prog gl 61 [.str s, .str slashB] (fun x => x = .int .i64 (ixI (ixOf 47 s.toList))) := by
  refine vcall_of TOK_liteIndex HM Go.Proofs.Tryd.func61 rfl (by decide +kernel) (by decide +kernel) rfl ?_
  repeat' ((conv => whnf); first | (with_reducible first | apply Xa | (first | apply xi | apply xu | apply x8 | apply x3 | apply xn | apply xp | apply xP | refine xs ?_ ?_ | refine xS ?_ ?_ | refine xZ ?_ ?_ | refine xl ?_ ?_ | refine xd ?_ ?_ | refine xy ?_ ?_ | refine xL ?_ ?_ | refine xD ?_ ?_ | apply xx); omega | apply Xm | apply Xe) | refine Xo (by assumption) ?_ | refine Or.inl ⟨rfl, ?_⟩ | (split <;> (first | (rename_i u h; clear u) | rename_i h) <;> (try rewrite [h]) <;> (first | replace h := dt h | replace h := df h | replace h := Nt h | replace h := Nf h | skip)))
  · conv => whnf
    rw [← h, slash_list]; rfl
  · conv => whnf
    refine ⟨0, 47, rfl, by rw [slash_list]; rfl, ?_⟩
    repeat' ((conv => whnf); first | (with_reducible first | apply Xa | (first | apply xi | apply xu | apply x8 | apply x3 | apply xn | apply xp | apply xP | refine xs ?_ ?_ | refine xS ?_ ?_ | refine xZ ?_ ?_ | refine xl ?_ ?_ | refine xd ?_ ?_ | refine xy ?_ ?_ | refine xL ?_ ?_ | refine xD ?_ ?_ | apply xx); omega | apply Xm | apply Xe) | refine Xo (by assumption) ?_ | refine Or.inl ⟨rfl, ?_⟩ | (split <;> (first | (rename_i u h; clear u) | rename_i h) <;> (try rewrite [h]) <;> (first | replace h := dt h | replace h := df h | replace h := Nt h | replace h := Nf h | skip)))
    conv => whnf
    refine .inl ⟨_, c_liteIndexByte gl s 47, ?_⟩
    rintro _ rfl
    repeat' ((conv => whnf); first | (with_reducible first | apply Xa | (first | apply xi | apply xu | apply x8 | apply x3 | apply xn | apply xp | apply xP | refine xs ?_ ?_ | refine xS ?_ ?_ | refine xZ ?_ ?_ | refine xl ?_ ?_ | refine xd ?_ ?_ | refine xy ?_ ?_ | refine xL ?_ ?_ | refine xD ?_ ?_ | apply xx); omega | apply Xm | apply Xe) | refine Xo (by assumption) ?_ | refine Or.inl ⟨rfl, ?_⟩ | (split <;> (first | (rename_i u h; clear u) | rename_i h) <;> (try rewrite [h]) <;> (first | replace h := dt h | replace h := df h | replace h := Nt h | replace h := Nf h | skip)))
    conv => whnf
    rfl
def cutP (s : ByteArray) : ByteArray × ByteArray × Bool :=
  match ixOf 47 s.toList with
  | some k => (⟨(s.toList.take k).toArray⟩, ⟨(s.toList.drop (k + 1)).toArray⟩, true)
  | none => (s, ⟨#[]⟩, false)
theorem c_liteCut (s : ByteArray) (hs : s.size < 9000000000) : VCall Go.Proofs.Tryd.prog gl 49 [.str s, .str slashB] (fun x => x = .tup [.str (cutP s).1, .str (cutP s).2.1, .bool (cutP s).2.2]) := by
  refine vcall_of TOK_liteCut HM Go.Proofs.Tryd.func49 rfl (by decide +kernel) (by decide +kernel) rfl ?_
  have hl := Go.N.len_toList s
  have hsl : slashB.size = 1 := rfl
  have hc := c_liteIndex gl s hs
  cases hi : ixOf 47 s.toList with
  | none =>
    have e : cutP s = (s, ⟨#[]⟩, false) := by simp only [cutP, hi]
    rw [e]
    rw [hi] at hc
    repeat' ((conv => whnf); first | (with_reducible first | apply Xa | (first | apply xi | apply xu | apply x8 | apply x3 | apply xn | apply xp | apply xP | refine xs ?_ ?_ | refine xS ?_ ?_ | refine xZ ?_ ?_ | refine xl ?_ ?_ | refine xd ?_ ?_ | refine xy ?_ ?_ | refine xL ?_ ?_ | refine xD ?_ ?_ | apply xx); omega | apply Xm | apply Xe) | refine Xo (by assumption) ?_ | refine Or.inl ⟨rfl, ?_⟩ | (split <;> (first | (rename_i u h; clear u) | rename_i h) <;> (try rewrite [h]) <;> (first | replace h := dt h | replace h := df h | replace h := Nt h | replace h := Nf h | skip)))
    conv => whnf
    refine .inl ⟨_, hc, ?_⟩
    rintro _ rfl
    repeat' ((conv => whnf); first | (with_reducible first | apply Xa | (first | apply xi | apply xu | apply x8 | apply x3 | apply xn | apply xp | apply xP | refine xs ?_ ?_ | refine xS ?_ ?_ | refine xZ ?_ ?_ | refine xl ?_ ?_ | refine xd ?_ ?_ | refine xy ?_ ?_ | refine xL ?_ ?_ | refine xD ?_ ?_ | apply xx); omega | apply Xm | apply Xe) | refine Xo (by assumption) ?_ | refine Or.inl ⟨rfl, ?_⟩ | (split <;> (first | (rename_i u h; clear u) | rename_i h) <;> (try rewrite [h]) <;> (first | replace h := dt h | replace h := df h | replace h := Nt h | replace h := Nf h | skip)))
    conv => whnf
    rfl
  | some k =>
    have hk := ixOf_lt hi
    have e : cutP s = (⟨(s.toList.take k).toArray⟩, ⟨(s.toList.drop (k + 1)).toArray⟩, true) := by simp only [cutP, hi]
    rw [e]
    rw [hi] at hc
    have hc : VCall Go.Proofs.Tryd.prog gl 61 [.str s, .str slashB] (fun x => x = .int .i64 ((k : Nat) : Int)) := hc
    have e1 : s.extract (0 : Int).toNat ((k : Nat) : Int).toNat = ⟨(s.toList.take k).toArray⟩ := by
      refine toList_inj ?_
      rw [ext_toList, toList_mk]; simp
    have e2 : s.extract ((k : Int) + 1).toNat ((s.size : Nat) : Int).toNat = ⟨(s.toList.drop (k + 1)).toArray⟩ := by
      refine toList_inj ?_
      rw [ext_toList, show ((k : Int) + 1).toNat = k + 1 by omega, Int.toNat_natCast, List.take_of_length_le (l := s.toList.drop (k + 1)) (by simp [hl])]
      exact (toList_mk _).symm
    rw [← e1, ← e2]
    repeat' ((conv => whnf); first | (with_reducible first | apply Xa | (first | apply xi | apply xu | apply x8 | apply x3 | apply xn | apply xp | apply xP | refine xs ?_ ?_ | refine xS ?_ ?_ | refine xZ ?_ ?_ | refine xl ?_ ?_ | refine xd ?_ ?_ | refine xy ?_ ?_ | refine xL ?_ ?_ | refine xD ?_ ?_ | apply xx); omega | apply Xm | apply Xe) | refine Xo (by assumption) ?_ | refine Or.inl ⟨rfl, ?_⟩ | (split <;> (first | (rename_i u h; clear u) | rename_i h) <;> (try rewrite [h]) <;> (first | replace h := dt h | replace h := df h | replace h := Nt h | replace h := Nf h | skip)))
    conv => whnf
    refine .inl ⟨_, hc, ?_⟩
    rintro _ rfl
    repeat' ((conv => whnf); first | (with_reducible first | apply Xa | (first | apply xi | apply xu | apply x8 | apply x3 | apply xn | apply xp | apply xP | refine xs ?_ ?_ | refine xS ?_ ?_ | refine xZ ?_ ?_ | refine xl ?_ ?_ | refine xd ?_ ?_ | refine xy ?_ ?_ | refine xL ?_ ?_ | refine xD ?_ ?_ | apply xx); omega | apply Xm | apply Xe) | refine Xo (by assumption) ?_ | refine Or.inl ⟨rfl, ?_⟩ | (split <;> (first | (rename_i u h; clear u) | rename_i h) <;> (try rewrite [h]) <;> (first | replace h := dt h | replace h := df h | replace h := Nt h | replace h := Nf h | skip)))
    refine ⟨by decide +kernel, [0, 0, 3, 0, 0, 0, 32, 112, 248, 7, 1023, 2047], by decide +kernel, ?_⟩
    repeat' ((conv => whnf); first | (with_reducible first | apply Xa | (first | apply xi | apply xu | apply x8 | apply x3 | apply xn | apply xp | apply xP | refine xs ?_ ?_ | refine xS ?_ ?_ | refine xZ ?_ ?_ | refine xl ?_ ?_ | refine xd ?_ ?_ | refine xy ?_ ?_ | refine xL ?_ ?_ | refine xD ?_ ?_ | apply xx); omega | apply Xm | apply Xe) | refine Xo (by assumption) ?_ | refine Or.inl ⟨rfl, ?_⟩ | (split <;> (first | (rename_i u h; clear u) | rename_i h) <;> (try rewrite [h]) <;> (first | replace h := dt h | replace h := df h | replace h := Nt h | replace h := Nf h | skip)))
    conv => whnf
    rfl
theorem c_Cut (s : ByteArray) (hs : s.size < 9000000000) : VCall Go.Proofs.Tryd.prog gl 40 [.str s, .str slashB] (fun x => x = .tup [.str (cutP s).1, .str (cutP s).2.1, .bool (cutP s).2.2]) := by
  refine vcall_of TOK_Cut HM Go.Proofs.Tryd.func40 rfl (by decide +kernel) (by decide +kernel) rfl ?_
  repeat' ((conv => whnf); first | (with_reducible first | apply Xa | (first | apply xi | apply xu | apply x8 | apply x3 | apply xn | apply xp | apply xP | refine xs ?_ ?_ | refine xS ?_ ?_ | refine xZ ?_ ?_ | refine xl ?_ ?_ | refine xd ?_ ?_ | refine xy ?_ ?_ | refine xL ?_ ?_ | refine xD ?_ ?_ | apply xx); omega | apply Xm | apply Xe) | refine Xo (by assumption) ?_ | refine Or.inl ⟨rfl, ?_⟩ | (split <;> (first | (rename_i u h; clear u) | rename_i h) <;> (try rewrite [h]) <;> (first | replace h := dt h | replace h := df h | replace h := Nt h | replace h := Nf h | skip)))
  conv => whnf
  refine .inl ⟨_, c_liteCut gl s hs, ?_⟩
  rintro _ rfl
  repeat' ((conv => whnf); first | (with_reducible first | apply Xa | (first | apply xi | apply xu | apply x8 | apply x3 | apply xn | apply xp | apply xP | refine xs ?_ ?_ | refine xS ?_ ?_ | refine xZ ?_ ?_ | refine xl ?_ ?_ | refine xd ?_ ?_ | refine xy ?_ ?_ | refine xL ?_ ?_ | refine xD ?_ ?_ | apply xx); omega | apply Xm | apply Xe) | refine Xo (by assumption) ?_ | refine Or.inl ⟨rfl, ?_⟩ | (split <;> (first | (rename_i u h; clear u) | rename_i h) <;> (try rewrite [h]) <;> (first | replace h := dt h | replace h := df h | replace h := Nt h | replace h := Nf h | skip)))
  conv => whnf
  rfl
end Go.V
namespace Go.V
open Go.N
variable (gl : Gl)
def T_Wread : Tab := [(85, ⟨.strc [(0, 1, false), (1, 1, false)], 2, 24, (.agg #[(.bool false), (.string .empty)]), [0, 0]⟩), (9, ⟨.str, 1, 16, (.string .empty), [0]⟩), (4, ⟨.bool, 1, 1, (.bool false), [0]⟩)]
theorem TOK_Wread : TOK Go.Proofs.Tryd.prog T_Wread := ⟨⟨info_of Go.Proofs.Tryd.type85 rfl, by decide +kernel, by decide +kernel⟩, ⟨⟨info_of Go.Proofs.Tryd.type9 rfl, by decide +kernel, by decide +kernel⟩, ⟨⟨info_of Go.Proofs.Tryd.type4 rfl, by decide +kernel, by decide +kernel⟩, trivial⟩⟩⟩
def T_WRight : Tab := [(9, ⟨.str, 1, 16, (.string .empty), [0]⟩), (85, ⟨.strc [(0, 1, false), (1, 1, false)], 2, 24, (.agg #[(.bool false), (.string .empty)]), [0, 0]⟩)]
theorem TOK_WRight : TOK Go.Proofs.Tryd.prog T_WRight := ⟨⟨info_of Go.Proofs.Tryd.type9 rfl, by decide +kernel, by decide +kernel⟩, ⟨⟨info_of Go.Proofs.Tryd.type85 rfl, by decide +kernel, by decide +kernel⟩, trivial⟩⟩
def T_Wtext : Tab := [(85, ⟨.strc [(0, 1, false), (1, 1, false)], 2, 24, (.agg #[(.bool false), (.string .empty)]), [0, 0]⟩), (4, ⟨.bool, 1, 1, (.bool false), [0]⟩), (9, ⟨.str, 1, 16, (.string .empty), [0]⟩)]
theorem TOK_Wtext : TOK Go.Proofs.Tryd.prog T_Wtext := ⟨⟨info_of Go.Proofs.Tryd.type85 rfl, by decide +kernel, by decide +kernel⟩, ⟨⟨info_of Go.Proofs.Tryd.type4 rfl, by decide +kernel, by decide +kernel⟩, ⟨⟨info_of Go.Proofs.Tryd.type9 rfl, by decide +kernel, by decide +kernel⟩, trivial⟩⟩⟩
def T_WNeg : Tab := [(9, ⟨.str, 1, 16, (.string .empty), [0]⟩), (85, ⟨.strc [(0, 1, false), (1, 1, false)], 2, 24, (.agg #[(.bool false), (.string .empty)]), [0, 0]⟩), (4, ⟨.bool, 1, 1, (.bool false), [0]⟩)]
theorem TOK_WNeg : TOK Go.Proofs.Tryd.prog T_WNeg := ⟨⟨info_of Go.Proofs.Tryd.type9 rfl, by decide +kernel, by decide +kernel⟩, ⟨⟨info_of Go.Proofs.Tryd.type85 rfl, by decide +kernel, by decide +kernel⟩, ⟨⟨info_of Go.Proofs.Tryd.type4 rfl, by decide +kernel, by decide +kernel⟩, trivial⟩⟩⟩
def T_Rsize : Tab := [(9, ⟨.str, 1, 16, (.string .empty), [0]⟩)]
theorem TOK_Rsize : TOK Go.Proofs.Tryd.prog T_Rsize := ⟨⟨info_of Go.Proofs.Tryd.type9 rfl, by decide +kernel, by decide +kernel⟩, trivial⟩
theorem minus_list : minusB.toList = [45] := by rw [ByteArray.toList_eq]
theorem minus_cons (l : List UInt8) : hasP ⟨(45 :: l).toArray⟩ minusB = true ∧ trimP ⟨(45 :: l).toArray⟩ minusB = ⟨l.toArray⟩ := by
  have h : hasP ⟨(45 :: l).toArray⟩ minusB = true := by rw [hasP_minus, toList_mk]; simp
  refine ⟨h, ?_⟩
  rw [trimP, if_pos h]
  refine toList_inj ?_
  rw [ext_toList, toList_mk, toList_mk]
  rw [show minusB.size = 1 from rfl]
  have : (⟨(45 :: l).toArray⟩ : ByteArray).size = l.length + 1 := by rw [← Go.N.len_toList, toList_mk]; rfl
  rw [this]; simp
theorem minus_cases (s : ByteArray) : (hasP s minusB = true ∧ s = ⟨(45 :: (trimP s minusB).toList).toArray⟩) ∨ (hasP s minusB = false ∧ trimP s minusB = s ∧ s.toList[0]? ≠ some 45) := by
  cases hb : hasP s minusB with
  | true =>
    left
    refine ⟨rfl, ?_⟩
    rw [hasP_minus, decide_eq_true_eq] at hb
    have h0 : 0 < s.toList.length := (List.getElem?_eq_some_iff.1 hb).1
    obtain ⟨a, l, hal⟩ := List.exists_cons_of_length_pos h0
    rw [hal] at hb
    simp at hb
    subst hb
    have e : s = ⟨(45 :: l).toArray⟩ := by rw [← mk_toList s, hal]
    rw [e, (minus_cons l).2, toList_mk]
  | false =>
    right
    refine ⟨rfl, ?_, ?_⟩
    · rw [trimP, if_neg (by simp [hb])]
    · rw [hasP_minus, decide_eq_false_iff_not] at hb; exact hb
theorem minus_zero (s : ByteArray) : (hasP s minusB = true ∧ trimP s minusB = ⟨#[48]⟩) ↔ s = ⟨#[45, 48]⟩ := by
  constructor
  · rintro ⟨h1, h2⟩
    rcases minus_cases s with ⟨_, h⟩ | ⟨h, _⟩
    · rw [h, h2]
      have e : (⟨#[48]⟩ : ByteArray).toList = [48] := by rw [ByteArray.toList_eq]
      rw [e]
    · rw [h] at h1; cases h1
  · intro h
    rw [h]
    exact minus_cons [48]
theorem c_Wread (s : ByteArray) (hs : s.size < 9000000000) : VCall Go.Proofs.Tryd.prog gl 50 [.str s] (fun x => x = .tup [.agg [.bool (hasP s minusB), .str (trimP s minusB)], .bool (isWhole s)]) := by
  refine vcall_of TOK_Wread HM Go.Proofs.Tryd.func50 rfl (by decide +kernel) (by decide +kernel) rfl ?_
  have ht := trimP_size s minusB
  have hz := minus_zero s
  repeat' ((conv => whnf); first | (with_reducible first | apply Xa | (first | apply xi | apply xu | apply x8 | apply x3 | apply xn | apply xp | apply xP | refine xs ?_ ?_ | refine xS ?_ ?_ | refine xZ ?_ ?_ | refine xl ?_ ?_ | refine xd ?_ ?_ | refine xy ?_ ?_ | refine xL ?_ ?_ | refine xD ?_ ?_ | apply xx); omega | apply Xm | apply Xe) | refine Xo (by assumption) ?_ | refine Or.inl ⟨rfl, ?_⟩ | (split <;> (first | (rename_i u h; clear u) | rename_i h) <;> (try rewrite [h]) <;> (first | replace h := dt h | replace h := df h | replace h := Nt h | replace h := Nf h | skip)))
  conv => whnf
  refine .inl ⟨_, c_CutPrefix gl s minusB hs (by decide), ?_⟩
  rintro _ rfl
  repeat' ((conv => whnf); first | (with_reducible first | apply Xa | (first | apply xi | apply xu | apply x8 | apply x3 | apply xn | apply xp | apply xP | refine xs ?_ ?_ | refine xS ?_ ?_ | refine xZ ?_ ?_ | refine xl ?_ ?_ | refine xd ?_ ?_ | refine xy ?_ ?_ | refine xL ?_ ?_ | refine xD ?_ ?_ | apply xx); omega | apply Xm | apply Xe) | refine Xo (by assumption) ?_ | refine Or.inl ⟨rfl, ?_⟩ | (split <;> (first | (rename_i u h; clear u) | rename_i h) <;> (try rewrite [h]) <;> (first | replace h := dt h | replace h := df h | replace h := Nt h | replace h := Nf h | skip)))
  conv => whnf
  refine .inl ⟨_, c_NRight gl (trimP s minusB) (by omega), ?_⟩
  rintro _ rfl
  cases hb : hasP s minusB <;> cases hc : isNat (trimP s minusB).toList
  · repeat' ((conv => whnf); first | (with_reducible first | apply Xa | (first | apply xi | apply xu | apply x8 | apply x3 | apply xn | apply xp | apply xP | refine xs ?_ ?_ | refine xS ?_ ?_ | refine xZ ?_ ?_ | refine xl ?_ ?_ | refine xd ?_ ?_ | refine xy ?_ ?_ | refine xL ?_ ?_ | refine xD ?_ ?_ | apply xx); omega | apply Xm | apply Xe) | refine Xo (by assumption) ?_ | refine Or.inl ⟨rfl, ?_⟩ | (split <;> (first | (rename_i u h; clear u) | rename_i h) <;> (try rewrite [h]) <;> (first | replace h := dt h | replace h := df h | replace h := Nt h | replace h := Nf h | skip)))
    conv => whnf
    simp [isWhole, hc, one]
  · have hne : ¬ s = ⟨#[45, 48]⟩ := fun e => by have := (hz.2 e).1; rw [hb] at this; cases this
    repeat' ((conv => whnf); first | (with_reducible first | apply Xa | (first | apply xi | apply xu | apply x8 | apply x3 | apply xn | apply xp | apply xP | refine xs ?_ ?_ | refine xS ?_ ?_ | refine xZ ?_ ?_ | refine xl ?_ ?_ | refine xd ?_ ?_ | refine xy ?_ ?_ | refine xL ?_ ?_ | refine xD ?_ ?_ | apply xx); omega | apply Xm | apply Xe) | refine Xo (by assumption) ?_ | refine Or.inl ⟨rfl, ?_⟩ | (split <;> (first | (rename_i u h; clear u) | rename_i h) <;> (try rewrite [h]) <;> (first | replace h := dt h | replace h := df h | replace h := Nt h | replace h := Nf h | skip)))
    conv => whnf
    simp [isWhole, hc, one, hne]
  · repeat' ((conv => whnf); first | (with_reducible first | apply Xa | (first | apply xi | apply xu | apply x8 | apply x3 | apply xn | apply xp | apply xP | refine xs ?_ ?_ | refine xS ?_ ?_ | refine xZ ?_ ?_ | refine xl ?_ ?_ | refine xd ?_ ?_ | refine xy ?_ ?_ | refine xL ?_ ?_ | refine xD ?_ ?_ | apply xx); omega | apply Xm | apply Xe) | refine Xo (by assumption) ?_ | refine Or.inl ⟨rfl, ?_⟩ | (split <;> (first | (rename_i u h; clear u) | rename_i h) <;> (try rewrite [h]) <;> (first | replace h := dt h | replace h := df h | replace h := Nt h | replace h := Nf h | skip)))
    conv => whnf
    simp [isWhole, hc, one]
  · repeat' ((conv => whnf); first | (with_reducible first | apply Xa | (first | apply xi | apply xu | apply x8 | apply x3 | apply xn | apply xp | apply xP | refine xs ?_ ?_ | refine xS ?_ ?_ | refine xZ ?_ ?_ | refine xl ?_ ?_ | refine xd ?_ ?_ | refine xy ?_ ?_ | refine xL ?_ ?_ | refine xD ?_ ?_ | apply xx); omega | apply Xm | apply Xe) | refine Xo (by assumption) ?_ | refine Or.inl ⟨rfl, ?_⟩ | (split <;> (first | (rename_i u h; clear u) | rename_i h) <;> (try rewrite [h]) <;> (first | replace h := dt h | replace h := df h | replace h := Nt h | replace h := Nf h | skip)))
    conv => whnf
    by_cases h : trimP s minusB = ⟨#[48]⟩
    · have e := hz.1 ⟨hb, h⟩
      have e2 : isWhole s = false := by rw [isWhole]; simp [e]
      rw [e2]
      simp [one, h]
    · have e : ¬ s = ⟨#[45, 48]⟩ := fun e => h (hz.2 e).2
      have e2 : isWhole s = true := by rw [isWhole, hc]; simp [e]
      rw [e2]
      simp [one, h]
theorem c_WRight (s : ByteArray) (hs : s.size < 9000000000) : VCall Go.Proofs.Tryd.prog gl 41 [.str s] (fun x => x = .bool (isWhole s)) := by
  refine vcall_of TOK_WRight HM Go.Proofs.Tryd.func41 rfl (by decide +kernel) (by decide +kernel) rfl ?_
  repeat' ((conv => whnf); first | (with_reducible first | apply Xa | (first | apply xi | apply xu | apply x8 | apply x3 | apply xn | apply xp | apply xP | refine xs ?_ ?_ | refine xS ?_ ?_ | refine xZ ?_ ?_ | refine xl ?_ ?_ | refine xd ?_ ?_ | refine xy ?_ ?_ | refine xL ?_ ?_ | refine xD ?_ ?_ | apply xx); omega | apply Xm | apply Xe) | refine Xo (by assumption) ?_ | refine Or.inl ⟨rfl, ?_⟩ | (split <;> (first | (rename_i u h; clear u) | rename_i h) <;> (try rewrite [h]) <;> (first | replace h := dt h | replace h := df h | replace h := Nt h | replace h := Nf h | skip)))
  conv => whnf
  refine .inl ⟨_, c_Wread gl s hs, ?_⟩
  rintro _ rfl
  repeat' ((conv => whnf); first | (with_reducible first | apply Xa | (first | apply xi | apply xu | apply x8 | apply x3 | apply xn | apply xp | apply xP | refine xs ?_ ?_ | refine xS ?_ ?_ | refine xZ ?_ ?_ | refine xl ?_ ?_ | refine xd ?_ ?_ | refine xy ?_ ?_ | refine xL ?_ ?_ | refine xD ?_ ?_ | apply xx); omega | apply Xm | apply Xe) | refine Xo (by assumption) ?_ | refine Or.inl ⟨rfl, ?_⟩ | (split <;> (first | (rename_i u h; clear u) | rename_i h) <;> (try rewrite [h]) <;> (first | replace h := dt h | replace h := df h | replace h := Nt h | replace h := Nf h | skip)))
  conv => whnf
  rfl
theorem c_Wtext (m : Bool) (s : ByteArray) (hs : s.size < 9000000000) : VCall Go.Proofs.Tryd.prog gl 65 [.agg [.bool m, .str s]] (fun x => x = .str (if m = true ∧ s ≠ decB 0 then minusB ++ s else s)) := by
  refine vcall_of TOK_Wtext HM Go.Proofs.Tryd.func65 rfl (by decide +kernel) (by decide +kernel) rfl ?_
  rw [← zero_decB]
  generalize hR : (if m = true ∧ s ≠ ⟨#[48]⟩ then minusB ++ s else s) = R
  cases m
  · rw [if_neg (by simp)] at hR
    repeat' ((conv => whnf); first | (with_reducible first | apply Xa | (first | apply xi | apply xu | apply x8 | apply x3 | apply xn | apply xp | apply xP | refine xs ?_ ?_ | refine xS ?_ ?_ | refine xZ ?_ ?_ | refine xl ?_ ?_ | refine xd ?_ ?_ | refine xy ?_ ?_ | refine xL ?_ ?_ | refine xD ?_ ?_ | apply xx); omega | apply Xm | apply Xe) | refine Xo (by assumption) ?_ | refine Or.inl ⟨rfl, ?_⟩ | (split <;> (first | (rename_i u h; clear u) | rename_i h) <;> (try rewrite [h]) <;> (first | replace h := dt h | replace h := df h | replace h := Nt h | replace h := Nf h | skip)))
    conv => whnf
    exact congrArg AV.str hR
  · repeat' ((conv => whnf); first | (with_reducible first | apply Xa | (first | apply xi | apply xu | apply x8 | apply x3 | apply xn | apply xp | apply xP | refine xs ?_ ?_ | refine xS ?_ ?_ | refine xZ ?_ ?_ | refine xl ?_ ?_ | refine xd ?_ ?_ | refine xy ?_ ?_ | refine xL ?_ ?_ | refine xD ?_ ?_ | apply xx); omega | apply Xm | apply Xe) | refine Xo (by assumption) ?_ | refine Or.inl ⟨rfl, ?_⟩ | (split <;> (first | (rename_i u h; clear u) | rename_i h) <;> (try rewrite [h]) <;> (first | replace h := dt h | replace h := df h | replace h := Nt h | replace h := Nf h | skip)))
    · refine ⟨(show 1 + s.size ≤ 9223372036854775807 by omega), ?_⟩
      repeat' ((conv => whnf); first | (with_reducible first | apply Xa | (first | apply xi | apply xu | apply x8 | apply x3 | apply xn | apply xp | apply xP | refine xs ?_ ?_ | refine xS ?_ ?_ | refine xZ ?_ ?_ | refine xl ?_ ?_ | refine xd ?_ ?_ | refine xy ?_ ?_ | refine xL ?_ ?_ | refine xD ?_ ?_ | apply xx); omega | apply Xm | apply Xe) | refine Xo (by assumption) ?_ | refine Or.inl ⟨rfl, ?_⟩ | (split <;> (first | (rename_i u h; clear u) | rename_i h) <;> (try rewrite [h]) <;> (first | replace h := dt h | replace h := df h | replace h := Nt h | replace h := Nf h | skip)))
      conv => whnf
      rw [if_pos ⟨rfl, h⟩] at hR
      exact congrArg AV.str hR
    · conv => whnf
      rw [if_neg (fun hh => hh.2 h)] at hR
      exact congrArg AV.str hR
theorem c_WNeg (n : Nat) (hn0 : n ≠ 0) (hn : (dec n).length < 9000000) : VCall Go.Proofs.Tryd.prog gl 54 [.str (decB n)] (fun x => x = .tup [.str (minusB ++ decB n), .int .i64 0]) := by
  refine vcall_of TOK_WNeg HM Go.Proofs.Tryd.func54 rfl (by decide +kernel) (by decide +kernel) rfl ?_
  have hz := decB_size n
  have hnm : hasP (decB n) minusB = false := by
    rw [hasP_minus, decide_eq_false_iff_not, decB_toList]
    intro e
    have h1 := List.all_eq_true.1 (dec_dig n) 45 (List.mem_of_getElem? e)
    simp [isDig] at h1
  have htr : trimP (decB n) minusB = decB n := by rw [trimP, if_neg (by simp [hnm])]
  have hw : isWhole (decB n) = true := by
    have : ¬ decB n = ⟨#[45, 48]⟩ := fun e => by
      have := (minus_zero (decB n)).2 e
      rw [hnm] at this; cases this.1
    rw [isWhole, htr, decB_toList, isNat_dec]; simp [this]
  have hr := c_Wread gl (decB n) (by omega)
  rw [hnm, htr, hw] at hr
  have htx := c_Wtext gl true (decB n) (by omega)
  rw [if_pos ⟨rfl, fun e => hn0 (decB_inj.1 e)⟩] at htx
  repeat' ((conv => whnf); first | (with_reducible first | apply Xa | (first | apply xi | apply xu | apply x8 | apply x3 | apply xn | apply xp | apply xP | refine xs ?_ ?_ | refine xS ?_ ?_ | refine xZ ?_ ?_ | refine xl ?_ ?_ | refine xd ?_ ?_ | refine xy ?_ ?_ | refine xL ?_ ?_ | refine xD ?_ ?_ | apply xx); omega | apply Xm | apply Xe) | refine Xo (by assumption) ?_ | refine Or.inl ⟨rfl, ?_⟩ | (split <;> (first | (rename_i u h; clear u) | rename_i h) <;> (try rewrite [h]) <;> (first | replace h := dt h | replace h := df h | replace h := Nt h | replace h := Nf h | skip)))
  conv => whnf
  refine .inl ⟨_, hr, ?_⟩
  rintro _ rfl
  repeat' ((conv => whnf); first | (with_reducible first | apply Xa | (first | apply xi | apply xu | apply x8 | apply x3 | apply xn | apply xp | apply xP | refine xs ?_ ?_ | refine xS ?_ ?_ | refine xZ ?_ ?_ | refine xl ?_ ?_ | refine xd ?_ ?_ | refine xy ?_ ?_ | refine xL ?_ ?_ | refine xD ?_ ?_ | apply xx); omega | apply Xm | apply Xe) | refine Xo (by assumption) ?_ | refine Or.inl ⟨rfl, ?_⟩ | (split <;> (first | (rename_i u h; clear u) | rename_i h) <;> (try rewrite [h]) <;> (first | replace h := dt h | replace h := df h | replace h := Nt h | replace h := Nf h | skip)))
  conv => whnf
  refine .inl ⟨_, htx, ?_⟩
  rintro _ rfl
  repeat' ((conv => whnf); first | (with_reducible first | apply Xa | (first | apply xi | apply xu | apply x8 | apply x3 | apply xn | apply xp | apply xP | refine xs ?_ ?_ | refine xS ?_ ?_ | refine xZ ?_ ?_ | refine xl ?_ ?_ | refine xd ?_ ?_ | refine xy ?_ ?_ | refine xL ?_ ?_ | refine xD ?_ ?_ | apply xx); omega | apply Xm | apply Xe) | refine Xo (by assumption) ?_ | refine Or.inl ⟨rfl, ?_⟩ | (split <;> (first | (rename_i u h; clear u) | rename_i h) <;> (try rewrite [h]) <;> (first | replace h := dt h | replace h := df h | replace h := Nt h | replace h := Nf h | skip)))
  conv => whnf
  rfl
theorem c_Rsize (s : ByteArray) (hs : s.size < 9000000000) : VCall Go.Proofs.Tryd.prog gl 55 [.str s] (fun x => x = .str (trimP s minusB)) := by
  refine vcall_of TOK_Rsize HM Go.Proofs.Tryd.func55 rfl (by decide +kernel) (by decide +kernel) rfl ?_
  repeat' ((conv => whnf); first | (with_reducible first | apply Xa | (first | apply xi | apply xu | apply x8 | apply x3 | apply xn | apply xp | apply xP | refine xs ?_ ?_ | refine xS ?_ ?_ | refine xZ ?_ ?_ | refine xl ?_ ?_ | refine xd ?_ ?_ | refine xy ?_ ?_ | refine xL ?_ ?_ | refine xD ?_ ?_ | apply xx); omega | apply Xm | apply Xe) | refine Xo (by assumption) ?_ | refine Or.inl ⟨rfl, ?_⟩ | (split <;> (first | (rename_i u h; clear u) | rename_i h) <;> (try rewrite [h]) <;> (first | replace h := dt h | replace h := df h | replace h := Nt h | replace h := Nf h | skip)))
  conv => whnf
  refine .inl ⟨_, c_TrimPrefix gl s minusB hs (by decide), ?_⟩
  rintro _ rfl
  repeat' ((conv => whnf); first | (with_reducible first | apply Xa | (first | apply xi | apply xu | apply x8 | apply x3 | apply xn | apply xp | apply xP | refine xs ?_ ?_ | refine xS ?_ ?_ | refine xZ ?_ ?_ | refine xl ?_ ?_ | refine xd ?_ ?_ | refine xy ?_ ?_ | refine xL ?_ ?_ | refine xD ?_ ?_ | apply xx); omega | apply Xm | apply Xe) | refine Xo (by assumption) ?_ | refine Or.inl ⟨rfl, ?_⟩ | (split <;> (first | (rename_i u h; clear u) | rename_i h) <;> (try rewrite [h]) <;> (first | replace h := dt h | replace h := df h | replace h := Nt h | replace h := Nf h | skip)))
  conv => whnf
  rfl
end Go.V
namespace Go.V
open Go.N
variable (gl : Gl)
def T_Rtext : Tab := [(61, ⟨.strc [(0, 1, false), (1, 1, false)], 2, 32, (.agg #[(.string .empty), (.string .empty)]), [0, 0]⟩), (9, ⟨.str, 1, 16, (.string .empty), [0]⟩)]
theorem TOK_Rtext : TOK Go.Proofs.Tryd.prog T_Rtext := ⟨⟨info_of Go.Proofs.Tryd.type61 rfl, by decide +kernel, by decide +kernel⟩, ⟨⟨info_of Go.Proofs.Tryd.type9 rfl, by decide +kernel, by decide +kernel⟩, trivial⟩⟩
def T_Rlowest : Tab := [(61, ⟨.strc [(0, 1, false), (1, 1, false)], 2, 32, (.agg #[(.string .empty), (.string .empty)]), [0, 0]⟩), (9, ⟨.str, 1, 16, (.string .empty), [0]⟩), (63, ⟨.iface, 1, 16, .nilIface, [0]⟩), (77, ⟨.strc [(0, 1, false), (1, 1, false)], 2, 32, (.agg #[(.string .empty), .nilIface]), [0, 0]⟩), (75, ⟨.ptr 77, 1, 8, (.pointer none), [0]⟩), (28, ⟨.int .i64, 1, 8, (.int .i64 0), [0]⟩), (97, ⟨.strc [(0, 1, false)], 1, 8, (.agg #[(.int .i64 0)]), [0]⟩), (95, ⟨.ptr 97, 1, 8, (.pointer none), [0]⟩)]
theorem TOK_Rlowest : TOK Go.Proofs.Tryd.prog T_Rlowest := ⟨⟨info_of Go.Proofs.Tryd.type61 rfl, by decide +kernel, by decide +kernel⟩, ⟨⟨info_of Go.Proofs.Tryd.type9 rfl, by decide +kernel, by decide +kernel⟩, ⟨⟨info_of Go.Proofs.Tryd.type63 rfl, by decide +kernel, by decide +kernel⟩, ⟨⟨info_of Go.Proofs.Tryd.type77 rfl, by decide +kernel, by decide +kernel⟩, ⟨⟨info_of Go.Proofs.Tryd.type75 rfl, by decide +kernel, by decide +kernel⟩, ⟨⟨info_of Go.Proofs.Tryd.type28 rfl, by decide +kernel, by decide +kernel⟩, ⟨⟨info_of Go.Proofs.Tryd.type97 rfl, by decide +kernel, by decide +kernel⟩, ⟨⟨info_of Go.Proofs.Tryd.type95 rfl, by decide +kernel, by decide +kernel⟩, trivial⟩⟩⟩⟩⟩⟩⟩⟩
def T_Rread : Tab := [(61, ⟨.strc [(0, 1, false), (1, 1, false)], 2, 32, (.agg #[(.string .empty), (.string .empty)]), [0, 0]⟩), (9, ⟨.str, 1, 16, (.string .empty), [0]⟩), (4, ⟨.bool, 1, 1, (.bool false), [0]⟩), (63, ⟨.iface, 1, 16, .nilIface, [0]⟩), (77, ⟨.strc [(0, 1, false), (1, 1, false)], 2, 32, (.agg #[(.string .empty), .nilIface]), [0, 0]⟩), (75, ⟨.ptr 77, 1, 8, (.pointer none), [0]⟩)]
theorem TOK_Rread : TOK Go.Proofs.Tryd.prog T_Rread := ⟨⟨info_of Go.Proofs.Tryd.type61 rfl, by decide +kernel, by decide +kernel⟩, ⟨⟨info_of Go.Proofs.Tryd.type9 rfl, by decide +kernel, by decide +kernel⟩, ⟨⟨info_of Go.Proofs.Tryd.type4 rfl, by decide +kernel, by decide +kernel⟩, ⟨⟨info_of Go.Proofs.Tryd.type63 rfl, by decide +kernel, by decide +kernel⟩, ⟨⟨info_of Go.Proofs.Tryd.type77 rfl, by decide +kernel, by decide +kernel⟩, ⟨⟨info_of Go.Proofs.Tryd.type75 rfl, by decide +kernel, by decide +kernel⟩, trivial⟩⟩⟩⟩⟩⟩
def T_RRight : Tab := [(9, ⟨.str, 1, 16, (.string .empty), [0]⟩), (61, ⟨.strc [(0, 1, false), (1, 1, false)], 2, 32, (.agg #[(.string .empty), (.string .empty)]), [0, 0]⟩), (63, ⟨.iface, 1, 16, .nilIface, [0]⟩)]
theorem TOK_RRight : TOK Go.Proofs.Tryd.prog T_RRight := ⟨⟨info_of Go.Proofs.Tryd.type9 rfl, by decide +kernel, by decide +kernel⟩, ⟨⟨info_of Go.Proofs.Tryd.type61 rfl, by decide +kernel, by decide +kernel⟩, ⟨⟨info_of Go.Proofs.Tryd.type63 rfl, by decide +kernel, by decide +kernel⟩, trivial⟩⟩⟩
def pairT (p q : ByteArray) : ByteArray := if q = ⟨#[49]⟩ then p else p ++ slashB ++ q
theorem c_Rtext (p q : ByteArray) (hp : p.size < 9000000) (hq : q.size < 9000000) : VCall Go.Proofs.Tryd.prog gl 44 [.agg [.str p, .str q]] (fun x => x = .str (pairT p q)) := by
  refine vcall_of TOK_Rtext HM Go.Proofs.Tryd.func44 rfl (by decide +kernel) (by decide +kernel) rfl ?_
  have hsl : slashB.size = 1 := rfl
  repeat' ((conv => whnf); first | (with_reducible first | apply Xa | (first | apply xi | apply xu | apply x8 | apply x3 | apply xn | apply xp | apply xP | refine xs ?_ ?_ | refine xS ?_ ?_ | refine xZ ?_ ?_ | refine xl ?_ ?_ | refine xd ?_ ?_ | refine xy ?_ ?_ | refine xL ?_ ?_ | refine xD ?_ ?_ | apply xx); omega | apply Xm | apply Xe) | refine Xo (by assumption) ?_ | refine Or.inl ⟨rfl, ?_⟩ | (split <;> (first | (rename_i u h; clear u) | rename_i h) <;> (try rewrite [h]) <;> (first | replace h := dt h | replace h := df h | replace h := Nt h | replace h := Nf h | skip)))
  · conv => whnf
    exact congrArg AV.str (by rw [pairT, if_pos h])
  · refine ⟨(show p.size + 1 ≤ _ by omega), ?_⟩
    have hs2 : (p ++ slashB).size = p.size + 1 := by rw [ByteArray.size_append]; rfl
    repeat' ((conv => whnf); first | (with_reducible first | apply Xa | (first | apply xi | apply xu | apply x8 | apply x3 | apply xn | apply xp | apply xP | refine xs ?_ ?_ | refine xS ?_ ?_ | refine xZ ?_ ?_ | refine xl ?_ ?_ | refine xd ?_ ?_ | refine xy ?_ ?_ | refine xL ?_ ?_ | refine xD ?_ ?_ | apply xx); omega | apply Xm | apply Xe) | refine Xo (by assumption) ?_ | refine Or.inl ⟨rfl, ?_⟩ | (split <;> (first | (rename_i u h; clear u) | rename_i h) <;> (try rewrite [h]) <;> (first | replace h := dt h | replace h := df h | replace h := Nt h | replace h := Nf h | skip)))
    refine ⟨(show (p ++ slashB).size + q.size ≤ _ by omega), ?_⟩
    repeat' ((conv => whnf); first | (with_reducible first | apply Xa | (first | apply xi | apply xu | apply x8 | apply x3 | apply xn | apply xp | apply xP | refine xs ?_ ?_ | refine xS ?_ ?_ | refine xZ ?_ ?_ | refine xl ?_ ?_ | refine xd ?_ ?_ | refine xy ?_ ?_ | refine xL ?_ ?_ | refine xD ?_ ?_ | apply xx); omega | apply Xm | apply Xe) | refine Xo (by assumption) ?_ | refine Or.inl ⟨rfl, ?_⟩ | (split <;> (first | (rename_i u h; clear u) | rename_i h) <;> (try rewrite [h]) <;> (first | replace h := dt h | replace h := df h | replace h := Nt h | replace h := Nf h | skip)))
    conv => whnf
    exact congrArg AV.str (by rw [pairT, if_neg h])
def absW (p : ByteArray) : Nat := dval (trimP p minusB).toList
def lowP (p : ByteArray) (n : Nat) : ByteArray := if hasP p minusB = true then minusB ++ decB (absW p / Nat.gcd (absW p) n) else decB (absW p / Nat.gcd (absW p) n)
def lowQ (p : ByteArray) (n : Nat) : ByteArray := decB (n / Nat.gcd (absW p) n)
structure Low (p : ByteArray) (n : Nat) : Prop where
  tr : trimP p minusB = decB (absW p)
  len : (dec (absW p)).length = (trimP p minusB).size
  neg : hasP p minusB = true → absW p ≠ 0
  qneg : hasP (decB n) minusB = false
  qtr : trimP (decB n) minusB = decB n
theorem low_of {p : ByteArray} {n : Nat} (hp : isWhole p = true) : Low p n := by
  simp only [isWhole, Bool.and_eq_true, Bool.not_eq_true', decide_eq_false_iff_not] at hp
  have h1 := isNat_decB hp.1
  have hnm : hasP (decB n) minusB = false := by
    rw [hasP_minus, decide_eq_false_iff_not, decB_toList]
    intro e
    have h1 := List.all_eq_true.1 (dec_dig n) 45 (List.mem_of_getElem? e)
    simp [isDig] at h1
  refine ⟨h1, ?_, fun h e => ?_, hnm, by rw [trimP, if_neg (by simp [hnm])]⟩
  · rw [← decB_size]; unfold absW; rw [← h1]
  · refine hp.2 ((minus_zero p).1 ⟨h, ?_⟩)
    rw [h1]
    show decB (absW p) = _
    rw [e, zero_decB]
set_option maxHeartbeats 4000000 in
theorem c_Rlowest (p : ByteArray) (n : Nat) (hw : isWhole p = true) (hn0 : n ≠ 0) (hp : p.size < 200000) (hn : (dec n).length < 200000) : VCall Go.Proofs.Tryd.prog gl 43 [.str p, .str (decB n)]
    (fun x => x = .tup [.agg [.str (lowP p n), .str (lowQ p n)], .nili]) := by
  refine vcall_of TOK_Rlowest HM Go.Proofs.Tryd.func43 rfl (by decide +kernel) (by decide +kernel) rfl ?_
  have L := low_of (n := n) hw
  have ht := trimP_size p minusB
  have hlen := L.len
  have hz := decB_size n
  have hg0 : 0 < Nat.gcd (absW p) n := Nat.gcd_pos_of_pos_right _ (by omega)
  have hgl : (dec (Nat.gcd (absW p) n)).length ≤ (dec n).length := dec_mono (Nat.gcd_le_right _ (by omega))
  have hq0 : ¬ decB n = ⟨#[48]⟩ := fun e => hn0 (by rw [zero_decB] at e; exact decB_inj.1 e)
  have hql : (dec (absW p / Nat.gcd (absW p) n)).length ≤ (dec (absW p)).length := dec_mono (Nat.div_le_self _ _)
  have h1 := c_HasPrefix gl (decB n) minusB (by omega) (by decide)
  rw [L.qneg] at h1
  have h2 := c_Rsize gl p (by omega)
  rw [L.tr] at h2
  have h3 := c_NGcd gl (absW p) n (by omega) (by omega)
  have h4 := c_NDiv gl (absW p) (Nat.gcd (absW p) n) hg0 (by omega) (by omega)
  have h5 := c_NDiv gl n (Nat.gcd (absW p) n) hg0 (by omega) (by omega)
  have h6 := c_HasPrefix gl p minusB (by omega) (by decide)
  repeat' ((conv => whnf); first | (with_reducible first | apply Xa | (first | apply xi | apply xu | apply x8 | apply x3 | apply xn | apply xp | apply xP | refine xs ?_ ?_ | refine xS ?_ ?_ | refine xZ ?_ ?_ | refine xl ?_ ?_ | refine xd ?_ ?_ | refine xy ?_ ?_ | refine xL ?_ ?_ | refine xD ?_ ?_ | apply xx); omega | apply Xm | apply Xe) | refine Xo (by assumption) ?_ | refine Or.inl ⟨rfl, ?_⟩ | (split <;> (first | (rename_i u h; clear u) | rename_i h) <;> (try rewrite [h]) <;> (first | replace h := dt h | replace h := df h | replace h := Nt h | replace h := Nf h | skip)))
  · exact absurd h hq0
  conv => whnf
  refine .inl ⟨_, h1, ?_⟩
  rintro _ rfl
  repeat' ((conv => whnf); first | (with_reducible first | apply Xa | (first | apply xi | apply xu | apply x8 | apply x3 | apply xn | apply xp | apply xP | refine xs ?_ ?_ | refine xS ?_ ?_ | refine xZ ?_ ?_ | refine xl ?_ ?_ | refine xd ?_ ?_ | refine xy ?_ ?_ | refine xL ?_ ?_ | refine xD ?_ ?_ | apply xx); omega | apply Xm | apply Xe) | refine Xo (by assumption) ?_ | refine Or.inl ⟨rfl, ?_⟩ | (split <;> (first | (rename_i u h; clear u) | rename_i h) <;> (try rewrite [h]) <;> (first | replace h := dt h | replace h := df h | replace h := Nt h | replace h := Nf h | skip)))
  conv => whnf
  refine .inl ⟨_, h2, ?_⟩
  rintro _ rfl
  repeat' ((conv => whnf); first | (with_reducible first | apply Xa | (first | apply xi | apply xu | apply x8 | apply x3 | apply xn | apply xp | apply xP | refine xs ?_ ?_ | refine xS ?_ ?_ | refine xZ ?_ ?_ | refine xl ?_ ?_ | refine xd ?_ ?_ | refine xy ?_ ?_ | refine xL ?_ ?_ | refine xD ?_ ?_ | apply xx); omega | apply Xm | apply Xe) | refine Xo (by assumption) ?_ | refine Or.inl ⟨rfl, ?_⟩ | (split <;> (first | (rename_i u h; clear u) | rename_i h) <;> (try rewrite [h]) <;> (first | replace h := dt h | replace h := df h | replace h := Nt h | replace h := Nf h | skip)))
  conv => whnf
  refine .inl ⟨_, h3, ?_⟩
  rintro _ rfl
  repeat' ((conv => whnf); first | (with_reducible first | apply Xa | (first | apply xi | apply xu | apply x8 | apply x3 | apply xn | apply xp | apply xP | refine xs ?_ ?_ | refine xS ?_ ?_ | refine xZ ?_ ?_ | refine xl ?_ ?_ | refine xd ?_ ?_ | refine xy ?_ ?_ | refine xL ?_ ?_ | refine xD ?_ ?_ | apply xx); omega | apply Xm | apply Xe) | refine Xo (by assumption) ?_ | refine Or.inl ⟨rfl, ?_⟩ | (split <;> (first | (rename_i u h; clear u) | rename_i h) <;> (try rewrite [h]) <;> (first | replace h := dt h | replace h := df h | replace h := Nt h | replace h := Nf h | skip)))
  conv => whnf
  refine .inl ⟨_, h2, ?_⟩
  rintro _ rfl
  repeat' ((conv => whnf); first | (with_reducible first | apply Xa | (first | apply xi | apply xu | apply x8 | apply x3 | apply xn | apply xp | apply xP | refine xs ?_ ?_ | refine xS ?_ ?_ | refine xZ ?_ ?_ | refine xl ?_ ?_ | refine xd ?_ ?_ | refine xy ?_ ?_ | refine xL ?_ ?_ | refine xD ?_ ?_ | apply xx); omega | apply Xm | apply Xe) | refine Xo (by assumption) ?_ | refine Or.inl ⟨rfl, ?_⟩ | (split <;> (first | (rename_i u h; clear u) | rename_i h) <;> (try rewrite [h]) <;> (first | replace h := dt h | replace h := df h | replace h := Nt h | replace h := Nf h | skip)))
  conv => whnf
  refine .inl ⟨_, h4, ?_⟩
  rintro _ rfl
  repeat' ((conv => whnf); first | (with_reducible first | apply Xa | (first | apply xi | apply xu | apply x8 | apply x3 | apply xn | apply xp | apply xP | refine xs ?_ ?_ | refine xS ?_ ?_ | refine xZ ?_ ?_ | refine xl ?_ ?_ | refine xd ?_ ?_ | refine xy ?_ ?_ | refine xL ?_ ?_ | refine xD ?_ ?_ | apply xx); omega | apply Xm | apply Xe) | refine Xo (by assumption) ?_ | refine Or.inl ⟨rfl, ?_⟩ | (split <;> (first | (rename_i u h; clear u) | rename_i h) <;> (try rewrite [h]) <;> (first | replace h := dt h | replace h := df h | replace h := Nt h | replace h := Nf h | skip)))
  conv => whnf
  refine .inl ⟨_, h5, ?_⟩
  rintro _ rfl
  repeat' ((conv => whnf); first | (with_reducible first | apply Xa | (first | apply xi | apply xu | apply x8 | apply x3 | apply xn | apply xp | apply xP | refine xs ?_ ?_ | refine xS ?_ ?_ | refine xZ ?_ ?_ | refine xl ?_ ?_ | refine xd ?_ ?_ | refine xy ?_ ?_ | refine xL ?_ ?_ | refine xD ?_ ?_ | apply xx); omega | apply Xm | apply Xe) | refine Xo (by assumption) ?_ | refine Or.inl ⟨rfl, ?_⟩ | (split <;> (first | (rename_i u h; clear u) | rename_i h) <;> (try rewrite [h]) <;> (first | replace h := dt h | replace h := df h | replace h := Nt h | replace h := Nf h | skip)))
  conv => whnf
  refine .inl ⟨_, h6, ?_⟩
  rintro _ rfl
  cases hb : hasP p minusB
  · repeat' ((conv => whnf); first | (with_reducible first | apply Xa | (first | apply xi | apply xu | apply x8 | apply x3 | apply xn | apply xp | apply xP | refine xs ?_ ?_ | refine xS ?_ ?_ | refine xZ ?_ ?_ | refine xl ?_ ?_ | refine xd ?_ ?_ | refine xy ?_ ?_ | refine xL ?_ ?_ | refine xD ?_ ?_ | apply xx); omega | apply Xm | apply Xe) | refine Xo (by assumption) ?_ | refine Or.inl ⟨rfl, ?_⟩ | (split <;> (first | (rename_i u h; clear u) | rename_i h) <;> (try rewrite [h]) <;> (first | replace h := dt h | replace h := df h | replace h := Nt h | replace h := Nf h | skip)))
    conv => whnf
    simp [lowP, lowQ, hb, one]
  · have hd0 : absW p / Nat.gcd (absW p) n ≠ 0 := by
      have h1 := Nat.div_pos (Nat.le_of_dvd (Nat.pos_of_ne_zero (L.neg hb)) (Nat.gcd_dvd_left (absW p) n)) hg0
      omega
    have h7 := c_WNeg gl (absW p / Nat.gcd (absW p) n) hd0 (by omega)
    repeat' ((conv => whnf); first | (with_reducible first | apply Xa | (first | apply xi | apply xu | apply x8 | apply x3 | apply xn | apply xp | apply xP | refine xs ?_ ?_ | refine xS ?_ ?_ | refine xZ ?_ ?_ | refine xl ?_ ?_ | refine xd ?_ ?_ | refine xy ?_ ?_ | refine xL ?_ ?_ | refine xD ?_ ?_ | apply xx); omega | apply Xm | apply Xe) | refine Xo (by assumption) ?_ | refine Or.inl ⟨rfl, ?_⟩ | (split <;> (first | (rename_i u h; clear u) | rename_i h) <;> (try rewrite [h]) <;> (first | replace h := dt h | replace h := df h | replace h := Nt h | replace h := Nf h | skip)))
    conv => whnf
    refine .inl ⟨_, h7, ?_⟩
    rintro _ rfl
    repeat' ((conv => whnf); first | (with_reducible first | apply Xa | (first | apply xi | apply xu | apply x8 | apply x3 | apply xn | apply xp | apply xP | refine xs ?_ ?_ | refine xS ?_ ?_ | refine xZ ?_ ?_ | refine xl ?_ ?_ | refine xd ?_ ?_ | refine xy ?_ ?_ | refine xL ?_ ?_ | refine xD ?_ ?_ | apply xx); omega | apply Xm | apply Xe) | refine Xo (by assumption) ?_ | refine Or.inl ⟨rfl, ?_⟩ | (split <;> (first | (rename_i u h; clear u) | rename_i h) <;> (try rewrite [h]) <;> (first | replace h := dt h | replace h := df h | replace h := Nt h | replace h := Nf h | skip)))
    conv => whnf
    simp [lowP, lowQ, hb, one]
end Go.V
namespace Go.V
open Go.N
def GL : Gl := [(0, [.iface 134 .j])]
theorem cutP_size (s : ByteArray) : (cutP s).1.size ≤ s.size ∧ (cutP s).2.1.size ≤ s.size := by
  have hl := Go.N.len_toList s
  unfold cutP
  split
  · rename_i k hk
    have := ixOf_lt hk
    refine ⟨?_, ?_⟩
    · rw [← Go.N.len_toList, toList_mk]; simp; omega
    · rw [← Go.N.len_toList, toList_mk]; simp; omega
  · exact ⟨Nat.le_refl _, Nat.zero_le _⟩
abbrev oneB : ByteArray := ⟨#[49]⟩
theorem one_decB : oneB = decB 1 := by decide +kernel
def ratQ (s : ByteArray) : ByteArray := if (cutP s).2.2 = true then (cutP s).2.1 else oneB
def ratOK1 (s : ByteArray) : Bool := isWhole (cutP s).1 && isNat (ratQ s).toList && !decide (ratQ s = ⟨#[48]⟩) && !((cutP s).2.2 && decide (ratQ s = oneB))
def ratN (s : ByteArray) : Nat := dval (ratQ s).toList
def ratOK (s : ByteArray) : Bool := ratOK1 s && decide (pairT (lowP (cutP s).1 (ratN s)) (lowQ (cutP s).1 (ratN s)) = s)
theorem low_size {p : ByteArray} {n : Nat} (hp : isWhole p = true) : (lowP p n).size ≤ p.size + 1 ∧ (lowQ p n).size ≤ (dec n).length := by
  have L := low_of (n := n) hp
  have ht := trimP_size p minusB
  have h1 : (dec (absW p / Nat.gcd (absW p) n)).length ≤ (dec (absW p)).length := dec_mono (Nat.div_le_self _ _)
  have h2 : (dec (n / Nat.gcd (absW p) n)).length ≤ (dec n).length := dec_mono (Nat.div_le_self _ _)
  have hl := L.len
  refine ⟨?_, by rw [lowQ, decB_size]; exact h2⟩
  unfold lowP
  split
  · rw [ByteArray.size_append, decB_size]
    have : minusB.size = 1 := rfl
    omega
  · rw [decB_size]; omega
set_option maxHeartbeats 4000000 in
theorem c_Rread (s : ByteArray) (hs : s.size < 190000) : VCall Go.Proofs.Tryd.prog GL 32 [.str s]
    (fun x => x = if ratOK s = true then .tup [.agg [.str (lowP (cutP s).1 (ratN s)), .str (lowQ (cutP s).1 (ratN s))], .nili] else .tup [.agg [.str ⟨#[]⟩, .str ⟨#[]⟩], .iface 75 .j]) := by
  refine vcall_of TOK_Rread HM Go.Proofs.Tryd.func32 rfl (by decide +kernel) (by decide +kernel) rfl ?_
  have hcs := cutP_size s
  have hc := c_Cut GL s (by omega)
  generalize hR : (if ratOK s = true then AV.tup [.agg [.str (lowP (cutP s).1 (ratN s)), .str (lowQ (cutP s).1 (ratN s))], .nili] else .tup [.agg [.str ⟨#[]⟩, .str ⟨#[]⟩], .iface 75 .j]) = R
  have hR0 : ratOK1 s = false → R = .tup [.agg [.str ⟨#[]⟩, .str ⟨#[]⟩], .iface 75 .j] := fun h => by
    rw [← hR, if_neg (by simp [ratOK, h])]
  obtain ⟨p, hp⟩ : ∃ p, p = (cutP s).1 := ⟨_, rfl⟩
  obtain ⟨q0, hq0⟩ : ∃ q, q = (cutP s).2.1 := ⟨_, rfl⟩
  rw [← hp, ← hq0] at hcs
  rw [← hp, ← hq0] at hc
  have hw := c_WRight GL p (by omega)
  cases htwo : (cutP s).2.2
  · rw [htwo] at hc
    have hq : ratQ s = oneB := by rw [ratQ, if_neg (by simp [htwo])]
    have hr := c_NRight GL oneB (by decide)
    have hn1 : isNat oneB.toList = true := by rw [one_decB, decB_toList]; exact isNat_dec 1
    rw [hn1] at hr
    cases hwp : isWhole p
    · rw [hwp] at hw
      have hbad : ratOK1 s = false := by simp [ratOK1, ← hp, hwp]
      rw [hR0 hbad]
      repeat' ((conv => whnf); first | (with_reducible first | apply Xa | (first | apply xi | apply xu | apply x8 | apply x3 | apply xn | apply xp | apply xP | refine xs ?_ ?_ | refine xS ?_ ?_ | refine xZ ?_ ?_ | refine xl ?_ ?_ | refine xd ?_ ?_ | refine xy ?_ ?_ | refine xL ?_ ?_ | refine xD ?_ ?_ | apply xx); omega | apply Xm | apply Xe) | refine Xo (by assumption) ?_ | refine Or.inl ⟨rfl, ?_⟩ | (split <;> (first | (rename_i u h; clear u) | rename_i h) <;> (try rewrite [h]) <;> (first | replace h := dt h | replace h := df h | replace h := Nt h | replace h := Nf h | skip)))
      conv => whnf
      refine .inl ⟨_, hc, ?_⟩
      rintro _ rfl
      repeat' ((conv => whnf); first | (with_reducible first | apply Xa | (first | apply xi | apply xu | apply x8 | apply x3 | apply xn | apply xp | apply xP | refine xs ?_ ?_ | refine xS ?_ ?_ | refine xZ ?_ ?_ | refine xl ?_ ?_ | refine xd ?_ ?_ | refine xy ?_ ?_ | refine xL ?_ ?_ | refine xD ?_ ?_ | apply xx); omega | apply Xm | apply Xe) | refine Xo (by assumption) ?_ | refine Or.inl ⟨rfl, ?_⟩ | (split <;> (first | (rename_i u h; clear u) | rename_i h) <;> (try rewrite [h]) <;> (first | replace h := dt h | replace h := df h | replace h := Nt h | replace h := Nf h | skip)))
      conv => whnf
      refine .inl ⟨_, hw, ?_⟩
      rintro _ rfl
      repeat' ((conv => whnf); first | (with_reducible first | apply Xa | (first | apply xi | apply xu | apply x8 | apply x3 | apply xn | apply xp | apply xP | refine xs ?_ ?_ | refine xS ?_ ?_ | refine xZ ?_ ?_ | refine xl ?_ ?_ | refine xd ?_ ?_ | refine xy ?_ ?_ | refine xL ?_ ?_ | refine xD ?_ ?_ | apply xx); omega | apply Xm | apply Xe) | refine Xo (by assumption) ?_ | refine Or.inl ⟨rfl, ?_⟩ | (split <;> (first | (rename_i u h; clear u) | rename_i h) <;> (try rewrite [h]) <;> (first | replace h := dt h | replace h := df h | replace h := Nt h | replace h := Nf h | skip)))
      refine ⟨by decide +kernel, [0, 0, 0, 6, 14, 30, 1, 127], by decide +kernel, ?_⟩
      repeat' ((conv => whnf); first | (with_reducible first | apply Xa | (first | apply xi | apply xu | apply x8 | apply x3 | apply xn | apply xp | apply xP | refine xs ?_ ?_ | refine xS ?_ ?_ | refine xZ ?_ ?_ | refine xl ?_ ?_ | refine xd ?_ ?_ | refine xy ?_ ?_ | refine xL ?_ ?_ | refine xD ?_ ?_ | apply xx); omega | apply Xm | apply Xe) | refine Xo (by assumption) ?_ | refine Or.inl ⟨rfl, ?_⟩ | (split <;> (first | (rename_i u h; clear u) | rename_i h) <;> (try rewrite [h]) <;> (first | replace h := dt h | replace h := df h | replace h := Nt h | replace h := Nf h | skip)))
      conv => whnf
      rfl
    · rw [hwp] at hw
      have hN : ratN s = 1 := by rw [ratN, hq, one_decB, dval_decB]
      have hok : ratOK1 s = true := by
        rw [ratOK1, ← hp, hwp, hq, hn1, htwo]
        have : ¬ oneB = ⟨#[48]⟩ := by decide
        simp [this]
      have L := low_of (n := 1) hwp
      have hd1 : (dec 1).length = 1 := by rw [dec_lt (by omega)]; rfl
      have hlw := c_Rlowest GL p 1 hwp (by omega) (by omega) (by omega)
      have hsz := low_size hwp (n := 1)
      have htx := c_Rtext GL (lowP p 1) (lowQ p 1) (by omega) (by omega)
      rw [← one_decB] at hlw
      rw [← hN] at hlw htx
      repeat' ((conv => whnf); first | (with_reducible first | apply Xa | (first | apply xi | apply xu | apply x8 | apply x3 | apply xn | apply xp | apply xP | refine xs ?_ ?_ | refine xS ?_ ?_ | refine xZ ?_ ?_ | refine xl ?_ ?_ | refine xd ?_ ?_ | refine xy ?_ ?_ | refine xL ?_ ?_ | refine xD ?_ ?_ | apply xx); omega | apply Xm | apply Xe) | refine Xo (by assumption) ?_ | refine Or.inl ⟨rfl, ?_⟩ | (split <;> (first | (rename_i u h; clear u) | rename_i h) <;> (try rewrite [h]) <;> (first | replace h := dt h | replace h := df h | replace h := Nt h | replace h := Nf h | skip)))
      conv => whnf
      refine .inl ⟨_, hc, ?_⟩
      rintro _ rfl
      repeat' ((conv => whnf); first | (with_reducible first | apply Xa | (first | apply xi | apply xu | apply x8 | apply x3 | apply xn | apply xp | apply xP | refine xs ?_ ?_ | refine xS ?_ ?_ | refine xZ ?_ ?_ | refine xl ?_ ?_ | refine xd ?_ ?_ | refine xy ?_ ?_ | refine xL ?_ ?_ | refine xD ?_ ?_ | apply xx); omega | apply Xm | apply Xe) | refine Xo (by assumption) ?_ | refine Or.inl ⟨rfl, ?_⟩ | (split <;> (first | (rename_i u h; clear u) | rename_i h) <;> (try rewrite [h]) <;> (first | replace h := dt h | replace h := df h | replace h := Nt h | replace h := Nf h | skip)))
      conv => whnf
      refine .inl ⟨_, hw, ?_⟩
      rintro _ rfl
      repeat' ((conv => whnf); first | (with_reducible first | apply Xa | (first | apply xi | apply xu | apply x8 | apply x3 | apply xn | apply xp | apply xP | refine xs ?_ ?_ | refine xS ?_ ?_ | refine xZ ?_ ?_ | refine xl ?_ ?_ | refine xd ?_ ?_ | refine xy ?_ ?_ | refine xL ?_ ?_ | refine xD ?_ ?_ | apply xx); omega | apply Xm | apply Xe) | refine Xo (by assumption) ?_ | refine Or.inl ⟨rfl, ?_⟩ | (split <;> (first | (rename_i u h; clear u) | rename_i h) <;> (try rewrite [h]) <;> (first | replace h := dt h | replace h := df h | replace h := Nt h | replace h := Nf h | skip)))
      conv => whnf
      refine .inl ⟨_, hr, ?_⟩
      rintro _ rfl
      repeat' ((conv => whnf); first | (with_reducible first | apply Xa | (first | apply xi | apply xu | apply x8 | apply x3 | apply xn | apply xp | apply xP | refine xs ?_ ?_ | refine xS ?_ ?_ | refine xZ ?_ ?_ | refine xl ?_ ?_ | refine xd ?_ ?_ | refine xy ?_ ?_ | refine xL ?_ ?_ | refine xD ?_ ?_ | apply xx); omega | apply Xm | apply Xe) | refine Xo (by assumption) ?_ | refine Or.inl ⟨rfl, ?_⟩ | (split <;> (first | (rename_i u h; clear u) | rename_i h) <;> (try rewrite [h]) <;> (first | replace h := dt h | replace h := df h | replace h := Nt h | replace h := Nf h | skip)))
      conv => whnf
      refine .inl ⟨_, hlw, ?_⟩
      rintro _ rfl
      repeat' ((conv => whnf); first | (with_reducible first | apply Xa | (first | apply xi | apply xu | apply x8 | apply x3 | apply xn | apply xp | apply xP | refine xs ?_ ?_ | refine xS ?_ ?_ | refine xZ ?_ ?_ | refine xl ?_ ?_ | refine xd ?_ ?_ | refine xy ?_ ?_ | refine xL ?_ ?_ | refine xD ?_ ?_ | apply xx); omega | apply Xm | apply Xe) | refine Xo (by assumption) ?_ | refine Or.inl ⟨rfl, ?_⟩ | (split <;> (first | (rename_i u h; clear u) | rename_i h) <;> (try rewrite [h]) <;> (first | replace h := dt h | replace h := df h | replace h := Nt h | replace h := Nf h | skip)))
      conv => whnf
      refine .inl ⟨_, htx, ?_⟩
      rintro _ rfl
      by_cases heq : pairT (lowP p (ratN s)) (lowQ p (ratN s)) = s
      · have hfin : R = .tup [.agg [.str (lowP p (ratN s)), .str (lowQ p (ratN s))], .nili] := by
          rw [← hR, if_pos (by rw [ratOK, hok, ← hp]; simp [heq]), ← hp]
        rw [hfin]
        repeat' ((conv => whnf); first | (with_reducible first | apply Xa | (first | apply xi | apply xu | apply x8 | apply x3 | apply xn | apply xp | apply xP | refine xs ?_ ?_ | refine xS ?_ ?_ | refine xZ ?_ ?_ | refine xl ?_ ?_ | refine xd ?_ ?_ | refine xy ?_ ?_ | refine xL ?_ ?_ | refine xD ?_ ?_ | apply xx); omega | apply Xm | apply Xe) | refine Xo (by assumption) ?_ | refine Or.inl ⟨rfl, ?_⟩ | (split <;> (first | (rename_i u h; clear u) | rename_i h) <;> (try rewrite [h]) <;> (first | replace h := dt h | replace h := df h | replace h := Nt h | replace h := Nf h | skip)))
        · exact absurd heq (by simpa using h)
        conv => whnf
        rfl
      · have hfin : R = .tup [.agg [.str ⟨#[]⟩, .str ⟨#[]⟩], .iface 75 .j] := by
          rw [← hR, if_neg (by rw [ratOK, hok, ← hp]; simp [heq])]
        rw [hfin]
        repeat' ((conv => whnf); first | (with_reducible first | apply Xa | (first | apply xi | apply xu | apply x8 | apply x3 | apply xn | apply xp | apply xP | refine xs ?_ ?_ | refine xS ?_ ?_ | refine xZ ?_ ?_ | refine xl ?_ ?_ | refine xd ?_ ?_ | refine xy ?_ ?_ | refine xL ?_ ?_ | refine xD ?_ ?_ | apply xx); omega | apply Xm | apply Xe) | refine Xo (by assumption) ?_ | refine Or.inl ⟨rfl, ?_⟩ | (split <;> (first | (rename_i u h; clear u) | rename_i h) <;> (try rewrite [h]) <;> (first | replace h := dt h | replace h := df h | replace h := Nt h | replace h := Nf h | skip)))
        rotate_left
        · exact absurd (by simpa using h) heq
        refine ⟨by decide +kernel, [0, 0, 0, 6, 14, 30, 1, 127], by decide +kernel, ?_⟩
        repeat' ((conv => whnf); first | (with_reducible first | apply Xa | (first | apply xi | apply xu | apply x8 | apply x3 | apply xn | apply xp | apply xP | refine xs ?_ ?_ | refine xS ?_ ?_ | refine xZ ?_ ?_ | refine xl ?_ ?_ | refine xd ?_ ?_ | refine xy ?_ ?_ | refine xL ?_ ?_ | refine xD ?_ ?_ | apply xx); omega | apply Xm | apply Xe) | refine Xo (by assumption) ?_ | refine Or.inl ⟨rfl, ?_⟩ | (split <;> (first | (rename_i u h; clear u) | rename_i h) <;> (try rewrite [h]) <;> (first | replace h := dt h | replace h := df h | replace h := Nt h | replace h := Nf h | skip)))
        conv => whnf
        rfl
  · rw [htwo] at hc
    have hq : ratQ s = q0 := by rw [ratQ, if_pos htwo, hq0]
    have hr := c_NRight GL q0 (by omega)
    cases hwp : isWhole p
    · rw [hwp] at hw
      have hbad : ratOK1 s = false := by simp [ratOK1, ← hp, hwp]
      rw [hR0 hbad]
      repeat' ((conv => whnf); first | (with_reducible first | apply Xa | (first | apply xi | apply xu | apply x8 | apply x3 | apply xn | apply xp | apply xP | refine xs ?_ ?_ | refine xS ?_ ?_ | refine xZ ?_ ?_ | refine xl ?_ ?_ | refine xd ?_ ?_ | refine xy ?_ ?_ | refine xL ?_ ?_ | refine xD ?_ ?_ | apply xx); omega | apply Xm | apply Xe) | refine Xo (by assumption) ?_ | refine Or.inl ⟨rfl, ?_⟩ | (split <;> (first | (rename_i u h; clear u) | rename_i h) <;> (try rewrite [h]) <;> (first | replace h := dt h | replace h := df h | replace h := Nt h | replace h := Nf h | skip)))
      conv => whnf
      refine .inl ⟨_, hc, ?_⟩
      rintro _ rfl
      repeat' ((conv => whnf); first | (with_reducible first | apply Xa | (first | apply xi | apply xu | apply x8 | apply x3 | apply xn | apply xp | apply xP | refine xs ?_ ?_ | refine xS ?_ ?_ | refine xZ ?_ ?_ | refine xl ?_ ?_ | refine xd ?_ ?_ | refine xy ?_ ?_ | refine xL ?_ ?_ | refine xD ?_ ?_ | apply xx); omega | apply Xm | apply Xe) | refine Xo (by assumption) ?_ | refine Or.inl ⟨rfl, ?_⟩ | (split <;> (first | (rename_i u h; clear u) | rename_i h) <;> (try rewrite [h]) <;> (first | replace h := dt h | replace h := df h | replace h := Nt h | replace h := Nf h | skip)))
      conv => whnf
      refine .inl ⟨_, hw, ?_⟩
      rintro _ rfl
      repeat' ((conv => whnf); first | (with_reducible first | apply Xa | (first | apply xi | apply xu | apply x8 | apply x3 | apply xn | apply xp | apply xP | refine xs ?_ ?_ | refine xS ?_ ?_ | refine xZ ?_ ?_ | refine xl ?_ ?_ | refine xd ?_ ?_ | refine xy ?_ ?_ | refine xL ?_ ?_ | refine xD ?_ ?_ | apply xx); omega | apply Xm | apply Xe) | refine Xo (by assumption) ?_ | refine Or.inl ⟨rfl, ?_⟩ | (split <;> (first | (rename_i u h; clear u) | rename_i h) <;> (try rewrite [h]) <;> (first | replace h := dt h | replace h := df h | replace h := Nt h | replace h := Nf h | skip)))
      refine ⟨by decide +kernel, [0, 0, 0, 6, 14, 30, 1, 127], by decide +kernel, ?_⟩
      repeat' ((conv => whnf); first | (with_reducible first | apply Xa | (first | apply xi | apply xu | apply x8 | apply x3 | apply xn | apply xp | apply xP | refine xs ?_ ?_ | refine xS ?_ ?_ | refine xZ ?_ ?_ | refine xl ?_ ?_ | refine xd ?_ ?_ | refine xy ?_ ?_ | refine xL ?_ ?_ | refine xD ?_ ?_ | apply xx); omega | apply Xm | apply Xe) | refine Xo (by assumption) ?_ | refine Or.inl ⟨rfl, ?_⟩ | (split <;> (first | (rename_i u h; clear u) | rename_i h) <;> (try rewrite [h]) <;> (first | replace h := dt h | replace h := df h | replace h := Nt h | replace h := Nf h | skip)))
      conv => whnf
      rfl
    · rw [hwp] at hw
      cases hn1 : isNat q0.toList
      · rw [hn1] at hr
        have hbad : ratOK1 s = false := by simp [ratOK1, hq, hn1]
        rw [hR0 hbad]
        repeat' ((conv => whnf); first | (with_reducible first | apply Xa | (first | apply xi | apply xu | apply x8 | apply x3 | apply xn | apply xp | apply xP | refine xs ?_ ?_ | refine xS ?_ ?_ | refine xZ ?_ ?_ | refine xl ?_ ?_ | refine xd ?_ ?_ | refine xy ?_ ?_ | refine xL ?_ ?_ | refine xD ?_ ?_ | apply xx); omega | apply Xm | apply Xe) | refine Xo (by assumption) ?_ | refine Or.inl ⟨rfl, ?_⟩ | (split <;> (first | (rename_i u h; clear u) | rename_i h) <;> (try rewrite [h]) <;> (first | replace h := dt h | replace h := df h | replace h := Nt h | replace h := Nf h | skip)))
        conv => whnf
        refine .inl ⟨_, hc, ?_⟩
        rintro _ rfl
        repeat' ((conv => whnf); first | (with_reducible first | apply Xa | (first | apply xi | apply xu | apply x8 | apply x3 | apply xn | apply xp | apply xP | refine xs ?_ ?_ | refine xS ?_ ?_ | refine xZ ?_ ?_ | refine xl ?_ ?_ | refine xd ?_ ?_ | refine xy ?_ ?_ | refine xL ?_ ?_ | refine xD ?_ ?_ | apply xx); omega | apply Xm | apply Xe) | refine Xo (by assumption) ?_ | refine Or.inl ⟨rfl, ?_⟩ | (split <;> (first | (rename_i u h; clear u) | rename_i h) <;> (try rewrite [h]) <;> (first | replace h := dt h | replace h := df h | replace h := Nt h | replace h := Nf h | skip)))
        conv => whnf
        refine .inl ⟨_, hw, ?_⟩
        rintro _ rfl
        repeat' ((conv => whnf); first | (with_reducible first | apply Xa | (first | apply xi | apply xu | apply x8 | apply x3 | apply xn | apply xp | apply xP | refine xs ?_ ?_ | refine xS ?_ ?_ | refine xZ ?_ ?_ | refine xl ?_ ?_ | refine xd ?_ ?_ | refine xy ?_ ?_ | refine xL ?_ ?_ | refine xD ?_ ?_ | apply xx); omega | apply Xm | apply Xe) | refine Xo (by assumption) ?_ | refine Or.inl ⟨rfl, ?_⟩ | (split <;> (first | (rename_i u h; clear u) | rename_i h) <;> (try rewrite [h]) <;> (first | replace h := dt h | replace h := df h | replace h := Nt h | replace h := Nf h | skip)))
        conv => whnf
        refine .inl ⟨_, hr, ?_⟩
        rintro _ rfl
        repeat' ((conv => whnf); first | (with_reducible first | apply Xa | (first | apply xi | apply xu | apply x8 | apply x3 | apply xn | apply xp | apply xP | refine xs ?_ ?_ | refine xS ?_ ?_ | refine xZ ?_ ?_ | refine xl ?_ ?_ | refine xd ?_ ?_ | refine xy ?_ ?_ | refine xL ?_ ?_ | refine xD ?_ ?_ | apply xx); omega | apply Xm | apply Xe) | refine Xo (by assumption) ?_ | refine Or.inl ⟨rfl, ?_⟩ | (split <;> (first | (rename_i u h; clear u) | rename_i h) <;> (try rewrite [h]) <;> (first | replace h := dt h | replace h := df h | replace h := Nt h | replace h := Nf h | skip)))
        refine ⟨by decide +kernel, [0, 0, 0, 6, 14, 30, 1, 127], by decide +kernel, ?_⟩
        repeat' ((conv => whnf); first | (with_reducible first | apply Xa | (first | apply xi | apply xu | apply x8 | apply x3 | apply xn | apply xp | apply xP | refine xs ?_ ?_ | refine xS ?_ ?_ | refine xZ ?_ ?_ | refine xl ?_ ?_ | refine xd ?_ ?_ | refine xy ?_ ?_ | refine xL ?_ ?_ | refine xD ?_ ?_ | apply xx); omega | apply Xm | apply Xe) | refine Xo (by assumption) ?_ | refine Or.inl ⟨rfl, ?_⟩ | (split <;> (first | (rename_i u h; clear u) | rename_i h) <;> (try rewrite [h]) <;> (first | replace h := dt h | replace h := df h | replace h := Nt h | replace h := Nf h | skip)))
        conv => whnf
        rfl
      · rw [hn1] at hr
        have hqd := isNat_decB hn1
        have hN : ratN s = dval q0.toList := by rw [ratN, hq]
        by_cases hz : q0 = ⟨#[48]⟩
        · have hbad : ratOK1 s = false := by simp [ratOK1, hq, hz]
          rw [hR0 hbad]
          repeat' ((conv => whnf); first | (with_reducible first | apply Xa | (first | apply xi | apply xu | apply x8 | apply x3 | apply xn | apply xp | apply xP | refine xs ?_ ?_ | refine xS ?_ ?_ | refine xZ ?_ ?_ | refine xl ?_ ?_ | refine xd ?_ ?_ | refine xy ?_ ?_ | refine xL ?_ ?_ | refine xD ?_ ?_ | apply xx); omega | apply Xm | apply Xe) | refine Xo (by assumption) ?_ | refine Or.inl ⟨rfl, ?_⟩ | (split <;> (first | (rename_i u h; clear u) | rename_i h) <;> (try rewrite [h]) <;> (first | replace h := dt h | replace h := df h | replace h := Nt h | replace h := Nf h | skip)))
          conv => whnf
          refine .inl ⟨_, hc, ?_⟩
          rintro _ rfl
          repeat' ((conv => whnf); first | (with_reducible first | apply Xa | (first | apply xi | apply xu | apply x8 | apply x3 | apply xn | apply xp | apply xP | refine xs ?_ ?_ | refine xS ?_ ?_ | refine xZ ?_ ?_ | refine xl ?_ ?_ | refine xd ?_ ?_ | refine xy ?_ ?_ | refine xL ?_ ?_ | refine xD ?_ ?_ | apply xx); omega | apply Xm | apply Xe) | refine Xo (by assumption) ?_ | refine Or.inl ⟨rfl, ?_⟩ | (split <;> (first | (rename_i u h; clear u) | rename_i h) <;> (try rewrite [h]) <;> (first | replace h := dt h | replace h := df h | replace h := Nt h | replace h := Nf h | skip)))
          conv => whnf
          refine .inl ⟨_, hw, ?_⟩
          rintro _ rfl
          repeat' ((conv => whnf); first | (with_reducible first | apply Xa | (first | apply xi | apply xu | apply x8 | apply x3 | apply xn | apply xp | apply xP | refine xs ?_ ?_ | refine xS ?_ ?_ | refine xZ ?_ ?_ | refine xl ?_ ?_ | refine xd ?_ ?_ | refine xy ?_ ?_ | refine xL ?_ ?_ | refine xD ?_ ?_ | apply xx); omega | apply Xm | apply Xe) | refine Xo (by assumption) ?_ | refine Or.inl ⟨rfl, ?_⟩ | (split <;> (first | (rename_i u h; clear u) | rename_i h) <;> (try rewrite [h]) <;> (first | replace h := dt h | replace h := df h | replace h := Nt h | replace h := Nf h | skip)))
          conv => whnf
          refine .inl ⟨_, hr, ?_⟩
          rintro _ rfl
          repeat' ((conv => whnf); first | (with_reducible first | apply Xa | (first | apply xi | apply xu | apply x8 | apply x3 | apply xn | apply xp | apply xP | refine xs ?_ ?_ | refine xS ?_ ?_ | refine xZ ?_ ?_ | refine xl ?_ ?_ | refine xd ?_ ?_ | refine xy ?_ ?_ | refine xL ?_ ?_ | refine xD ?_ ?_ | apply xx); omega | apply Xm | apply Xe) | refine Xo (by assumption) ?_ | refine Or.inl ⟨rfl, ?_⟩ | (split <;> (first | (rename_i u h; clear u) | rename_i h) <;> (try rewrite [h]) <;> (first | replace h := dt h | replace h := df h | replace h := Nt h | replace h := Nf h | skip)))
          all_goals first | exact absurd hz (by assumption) | skip
          refine ⟨by decide +kernel, [0, 0, 0, 6, 14, 30, 1, 127], by decide +kernel, ?_⟩
          repeat' ((conv => whnf); first | (with_reducible first | apply Xa | (first | apply xi | apply xu | apply x8 | apply x3 | apply xn | apply xp | apply xP | refine xs ?_ ?_ | refine xS ?_ ?_ | refine xZ ?_ ?_ | refine xl ?_ ?_ | refine xd ?_ ?_ | refine xy ?_ ?_ | refine xL ?_ ?_ | refine xD ?_ ?_ | apply xx); omega | apply Xm | apply Xe) | refine Xo (by assumption) ?_ | refine Or.inl ⟨rfl, ?_⟩ | (split <;> (first | (rename_i u h; clear u) | rename_i h) <;> (try rewrite [h]) <;> (first | replace h := dt h | replace h := df h | replace h := Nt h | replace h := Nf h | skip)))
          conv => whnf
          rfl
        · by_cases h1 : q0 = oneB
          · have hbad : ratOK1 s = false := by simp [ratOK1, hq, h1, htwo]
            rw [hR0 hbad]
            repeat' ((conv => whnf); first | (with_reducible first | apply Xa | (first | apply xi | apply xu | apply x8 | apply x3 | apply xn | apply xp | apply xP | refine xs ?_ ?_ | refine xS ?_ ?_ | refine xZ ?_ ?_ | refine xl ?_ ?_ | refine xd ?_ ?_ | refine xy ?_ ?_ | refine xL ?_ ?_ | refine xD ?_ ?_ | apply xx); omega | apply Xm | apply Xe) | refine Xo (by assumption) ?_ | refine Or.inl ⟨rfl, ?_⟩ | (split <;> (first | (rename_i u h; clear u) | rename_i h) <;> (try rewrite [h]) <;> (first | replace h := dt h | replace h := df h | replace h := Nt h | replace h := Nf h | skip)))
            conv => whnf
            refine .inl ⟨_, hc, ?_⟩
            rintro _ rfl
            repeat' ((conv => whnf); first | (with_reducible first | apply Xa | (first | apply xi | apply xu | apply x8 | apply x3 | apply xn | apply xp | apply xP | refine xs ?_ ?_ | refine xS ?_ ?_ | refine xZ ?_ ?_ | refine xl ?_ ?_ | refine xd ?_ ?_ | refine xy ?_ ?_ | refine xL ?_ ?_ | refine xD ?_ ?_ | apply xx); omega | apply Xm | apply Xe) | refine Xo (by assumption) ?_ | refine Or.inl ⟨rfl, ?_⟩ | (split <;> (first | (rename_i u h; clear u) | rename_i h) <;> (try rewrite [h]) <;> (first | replace h := dt h | replace h := df h | replace h := Nt h | replace h := Nf h | skip)))
            conv => whnf
            refine .inl ⟨_, hw, ?_⟩
            rintro _ rfl
            repeat' ((conv => whnf); first | (with_reducible first | apply Xa | (first | apply xi | apply xu | apply x8 | apply x3 | apply xn | apply xp | apply xP | refine xs ?_ ?_ | refine xS ?_ ?_ | refine xZ ?_ ?_ | refine xl ?_ ?_ | refine xd ?_ ?_ | refine xy ?_ ?_ | refine xL ?_ ?_ | refine xD ?_ ?_ | apply xx); omega | apply Xm | apply Xe) | refine Xo (by assumption) ?_ | refine Or.inl ⟨rfl, ?_⟩ | (split <;> (first | (rename_i u h; clear u) | rename_i h) <;> (try rewrite [h]) <;> (first | replace h := dt h | replace h := df h | replace h := Nt h | replace h := Nf h | skip)))
            conv => whnf
            refine .inl ⟨_, hr, ?_⟩
            rintro _ rfl
            repeat' ((conv => whnf); first | (with_reducible first | apply Xa | (first | apply xi | apply xu | apply x8 | apply x3 | apply xn | apply xp | apply xP | refine xs ?_ ?_ | refine xS ?_ ?_ | refine xZ ?_ ?_ | refine xl ?_ ?_ | refine xd ?_ ?_ | refine xy ?_ ?_ | refine xL ?_ ?_ | refine xD ?_ ?_ | apply xx); omega | apply Xm | apply Xe) | refine Xo (by assumption) ?_ | refine Or.inl ⟨rfl, ?_⟩ | (split <;> (first | (rename_i u h; clear u) | rename_i h) <;> (try rewrite [h]) <;> (first | replace h := dt h | replace h := df h | replace h := Nt h | replace h := Nf h | skip)))
            all_goals first | exact absurd h1 (by assumption) | exact absurd (by assumption) hz | skip
            refine ⟨by decide +kernel, [0, 0, 0, 6, 14, 30, 1, 127], by decide +kernel, ?_⟩
            repeat' ((conv => whnf); first | (with_reducible first | apply Xa | (first | apply xi | apply xu | apply x8 | apply x3 | apply xn | apply xp | apply xP | refine xs ?_ ?_ | refine xS ?_ ?_ | refine xZ ?_ ?_ | refine xl ?_ ?_ | refine xd ?_ ?_ | refine xy ?_ ?_ | refine xL ?_ ?_ | refine xD ?_ ?_ | apply xx); omega | apply Xm | apply Xe) | refine Xo (by assumption) ?_ | refine Or.inl ⟨rfl, ?_⟩ | (split <;> (first | (rename_i u h; clear u) | rename_i h) <;> (try rewrite [h]) <;> (first | replace h := dt h | replace h := df h | replace h := Nt h | replace h := Nf h | skip)))
            conv => whnf
            rfl
          · have hok : ratOK1 s = true := by
              rw [ratOK1, ← hp, hwp, hq, hn1, htwo]
              simp [hz, h1]
            have hn0 : dval q0.toList ≠ 0 := fun e => hz (by rw [hqd, e, zero_decB])
            have hdl : (dec (dval q0.toList)).length = q0.size := by rw [← decB_size, ← hqd]
            have hlw := c_Rlowest GL p (dval q0.toList) hwp hn0 (by omega) (by omega)
            have hsz := low_size hwp (n := dval q0.toList)
            have htx := c_Rtext GL (lowP p (dval q0.toList)) (lowQ p (dval q0.toList)) (by omega) (by omega)
            rw [← hqd] at hlw
            rw [← hN] at hlw htx
            repeat' ((conv => whnf); first | (with_reducible first | apply Xa | (first | apply xi | apply xu | apply x8 | apply x3 | apply xn | apply xp | apply xP | refine xs ?_ ?_ | refine xS ?_ ?_ | refine xZ ?_ ?_ | refine xl ?_ ?_ | refine xd ?_ ?_ | refine xy ?_ ?_ | refine xL ?_ ?_ | refine xD ?_ ?_ | apply xx); omega | apply Xm | apply Xe) | refine Xo (by assumption) ?_ | refine Or.inl ⟨rfl, ?_⟩ | (split <;> (first | (rename_i u h; clear u) | rename_i h) <;> (try rewrite [h]) <;> (first | replace h := dt h | replace h := df h | replace h := Nt h | replace h := Nf h | skip)))
            conv => whnf
            refine .inl ⟨_, hc, ?_⟩
            rintro _ rfl
            repeat' ((conv => whnf); first | (with_reducible first | apply Xa | (first | apply xi | apply xu | apply x8 | apply x3 | apply xn | apply xp | apply xP | refine xs ?_ ?_ | refine xS ?_ ?_ | refine xZ ?_ ?_ | refine xl ?_ ?_ | refine xd ?_ ?_ | refine xy ?_ ?_ | refine xL ?_ ?_ | refine xD ?_ ?_ | apply xx); omega | apply Xm | apply Xe) | refine Xo (by assumption) ?_ | refine Or.inl ⟨rfl, ?_⟩ | (split <;> (first | (rename_i u h; clear u) | rename_i h) <;> (try rewrite [h]) <;> (first | replace h := dt h | replace h := df h | replace h := Nt h | replace h := Nf h | skip)))
            conv => whnf
            refine .inl ⟨_, hw, ?_⟩
            rintro _ rfl
            repeat' ((conv => whnf); first | (with_reducible first | apply Xa | (first | apply xi | apply xu | apply x8 | apply x3 | apply xn | apply xp | apply xP | refine xs ?_ ?_ | refine xS ?_ ?_ | refine xZ ?_ ?_ | refine xl ?_ ?_ | refine xd ?_ ?_ | refine xy ?_ ?_ | refine xL ?_ ?_ | refine xD ?_ ?_ | apply xx); omega | apply Xm | apply Xe) | refine Xo (by assumption) ?_ | refine Or.inl ⟨rfl, ?_⟩ | (split <;> (first | (rename_i u h; clear u) | rename_i h) <;> (try rewrite [h]) <;> (first | replace h := dt h | replace h := df h | replace h := Nt h | replace h := Nf h | skip)))
            conv => whnf
            refine .inl ⟨_, hr, ?_⟩
            rintro _ rfl
            repeat' ((conv => whnf); first | (with_reducible first | apply Xa | (first | apply xi | apply xu | apply x8 | apply x3 | apply xn | apply xp | apply xP | refine xs ?_ ?_ | refine xS ?_ ?_ | refine xZ ?_ ?_ | refine xl ?_ ?_ | refine xd ?_ ?_ | refine xy ?_ ?_ | refine xL ?_ ?_ | refine xD ?_ ?_ | apply xx); omega | apply Xm | apply Xe) | refine Xo (by assumption) ?_ | refine Or.inl ⟨rfl, ?_⟩ | (split <;> (first | (rename_i u h; clear u) | rename_i h) <;> (try rewrite [h]) <;> (first | replace h := dt h | replace h := df h | replace h := Nt h | replace h := Nf h | skip)))
            all_goals first | exact absurd (by assumption) h1 | exact absurd (by assumption) hz | skip
            conv => whnf
            refine .inl ⟨_, hlw, ?_⟩
            rintro _ rfl
            repeat' ((conv => whnf); first | (with_reducible first | apply Xa | (first | apply xi | apply xu | apply x8 | apply x3 | apply xn | apply xp | apply xP | refine xs ?_ ?_ | refine xS ?_ ?_ | refine xZ ?_ ?_ | refine xl ?_ ?_ | refine xd ?_ ?_ | refine xy ?_ ?_ | refine xL ?_ ?_ | refine xD ?_ ?_ | apply xx); omega | apply Xm | apply Xe) | refine Xo (by assumption) ?_ | refine Or.inl ⟨rfl, ?_⟩ | (split <;> (first | (rename_i u h; clear u) | rename_i h) <;> (try rewrite [h]) <;> (first | replace h := dt h | replace h := df h | replace h := Nt h | replace h := Nf h | skip)))
            conv => whnf
            refine .inl ⟨_, htx, ?_⟩
            rintro _ rfl
            by_cases heq : pairT (lowP p (ratN s)) (lowQ p (ratN s)) = s
            · have hfin : R = .tup [.agg [.str (lowP p (ratN s)), .str (lowQ p (ratN s))], .nili] := by
                rw [← hR, if_pos (by rw [ratOK, hok, ← hp]; simp [heq]), ← hp]
              rw [hfin]
              repeat' ((conv => whnf); first | (with_reducible first | apply Xa | (first | apply xi | apply xu | apply x8 | apply x3 | apply xn | apply xp | apply xP | refine xs ?_ ?_ | refine xS ?_ ?_ | refine xZ ?_ ?_ | refine xl ?_ ?_ | refine xd ?_ ?_ | refine xy ?_ ?_ | refine xL ?_ ?_ | refine xD ?_ ?_ | apply xx); omega | apply Xm | apply Xe) | refine Xo (by assumption) ?_ | refine Or.inl ⟨rfl, ?_⟩ | (split <;> (first | (rename_i u h; clear u) | rename_i h) <;> (try rewrite [h]) <;> (first | replace h := dt h | replace h := df h | replace h := Nt h | replace h := Nf h | skip)))
              · exact absurd heq (by simpa using h)
              conv => whnf
              rfl
            · have hfin : R = .tup [.agg [.str ⟨#[]⟩, .str ⟨#[]⟩], .iface 75 .j] := by
                rw [← hR, if_neg (by rw [ratOK, hok, ← hp]; simp [heq])]
              rw [hfin]
              repeat' ((conv => whnf); first | (with_reducible first | apply Xa | (first | apply xi | apply xu | apply x8 | apply x3 | apply xn | apply xp | apply xP | refine xs ?_ ?_ | refine xS ?_ ?_ | refine xZ ?_ ?_ | refine xl ?_ ?_ | refine xd ?_ ?_ | refine xy ?_ ?_ | refine xL ?_ ?_ | refine xD ?_ ?_ | apply xx); omega | apply Xm | apply Xe) | refine Xo (by assumption) ?_ | refine Or.inl ⟨rfl, ?_⟩ | (split <;> (first | (rename_i u h; clear u) | rename_i h) <;> (try rewrite [h]) <;> (first | replace h := dt h | replace h := df h | replace h := Nt h | replace h := Nf h | skip)))
              rotate_left
              · exact absurd (by simpa using h) heq
              refine ⟨by decide +kernel, [0, 0, 0, 6, 14, 30, 1, 127], by decide +kernel, ?_⟩
              repeat' ((conv => whnf); first | (with_reducible first | apply Xa | (first | apply xi | apply xu | apply x8 | apply x3 | apply xn | apply xp | apply xP | refine xs ?_ ?_ | refine xS ?_ ?_ | refine xZ ?_ ?_ | refine xl ?_ ?_ | refine xd ?_ ?_ | refine xy ?_ ?_ | refine xL ?_ ?_ | refine xD ?_ ?_ | apply xx); omega | apply Xm | apply Xe) | refine Xo (by assumption) ?_ | refine Or.inl ⟨rfl, ?_⟩ | (split <;> (first | (rename_i u h; clear u) | rename_i h) <;> (try rewrite [h]) <;> (first | replace h := dt h | replace h := df h | replace h := Nt h | replace h := Nf h | skip)))
              conv => whnf
              rfl
end Go.V
namespace Go.V
open Go.N
theorem c_RRight (s : ByteArray) (hs : s.size < 190000) : VCall Go.Proofs.Tryd.prog GL 29 [.str s] (fun x => x = .bool (ratOK s)) := by
  refine vcall_of TOK_RRight HM Go.Proofs.Tryd.func29 rfl (by decide +kernel) (by decide +kernel) rfl ?_
  have h := c_Rread s hs
  cases hb : ratOK s
  · rw [if_neg (by simp [hb])] at h
    repeat' ((conv => whnf); first | (with_reducible first | apply Xa | (first | apply xi | apply xu | apply x8 | apply x3 | apply xn | apply xp | apply xP | refine xs ?_ ?_ | refine xS ?_ ?_ | refine xZ ?_ ?_ | refine xl ?_ ?_ | refine xd ?_ ?_ | refine xy ?_ ?_ | refine xL ?_ ?_ | refine xD ?_ ?_ | apply xx); omega | apply Xm | apply Xe) | refine Xo (by assumption) ?_ | refine Or.inl ⟨rfl, ?_⟩ | (split <;> (first | (rename_i u h; clear u) | rename_i h) <;> (try rewrite [h]) <;> (first | replace h := dt h | replace h := df h | replace h := Nt h | replace h := Nf h | skip)))
    conv => whnf
    refine .inl ⟨_, h, ?_⟩
    rintro _ rfl
    repeat' ((conv => whnf); first | (with_reducible first | apply Xa | (first | apply xi | apply xu | apply x8 | apply x3 | apply xn | apply xp | apply xP | refine xs ?_ ?_ | refine xS ?_ ?_ | refine xZ ?_ ?_ | refine xl ?_ ?_ | refine xd ?_ ?_ | refine xy ?_ ?_ | refine xL ?_ ?_ | refine xD ?_ ?_ | apply xx); omega | apply Xm | apply Xe) | refine Xo (by assumption) ?_ | refine Or.inl ⟨rfl, ?_⟩ | (split <;> (first | (rename_i u h; clear u) | rename_i h) <;> (try rewrite [h]) <;> (first | replace h := dt h | replace h := df h | replace h := Nt h | replace h := Nf h | skip)))
    conv => whnf
    rfl
  · rw [if_pos hb] at h
    repeat' ((conv => whnf); first | (with_reducible first | apply Xa | (first | apply xi | apply xu | apply x8 | apply x3 | apply xn | apply xp | apply xP | refine xs ?_ ?_ | refine xS ?_ ?_ | refine xZ ?_ ?_ | refine xl ?_ ?_ | refine xd ?_ ?_ | refine xy ?_ ?_ | refine xL ?_ ?_ | refine xD ?_ ?_ | apply xx); omega | apply Xm | apply Xe) | refine Xo (by assumption) ?_ | refine Or.inl ⟨rfl, ?_⟩ | (split <;> (first | (rename_i u h; clear u) | rename_i h) <;> (try rewrite [h]) <;> (first | replace h := dt h | replace h := df h | replace h := Nt h | replace h := Nf h | skip)))
    conv => whnf
    refine .inl ⟨_, h, ?_⟩
    rintro _ rfl
    repeat' ((conv => whnf); first | (with_reducible first | apply Xa | (first | apply xi | apply xu | apply x8 | apply x3 | apply xn | apply xp | apply xP | refine xs ?_ ?_ | refine xS ?_ ?_ | refine xZ ?_ ?_ | refine xl ?_ ?_ | refine xd ?_ ?_ | refine xy ?_ ?_ | refine xL ?_ ?_ | refine xD ?_ ?_ | apply xx); omega | apply Xm | apply Xe) | refine Xo (by assumption) ?_ | refine Or.inl ⟨rfl, ?_⟩ | (split <;> (first | (rename_i u h; clear u) | rename_i h) <;> (try rewrite [h]) <;> (first | replace h := dt h | replace h := df h | replace h := Nt h | replace h := Nf h | skip)))
    conv => whnf
    rfl
variable (gl : Gl)
end Go.V
namespace Go.V
open Go.N
variable (gl : Gl)
def atF (s : ByteArray) (j : Nat) : Nat := match ixOf 47 (s.toList.drop j) with | some k => j + k | none => s.size
theorem atF_step (s : ByteArray) (j : Nat) (h : j < s.toList.length) : atF s j = if s.toList[j] = 47 then j else atF s (j + 1) := by
  unfold atF
  rw [List.drop_eq_getElem_cons h]
  by_cases h47 : s.toList[j] = 47
  · simp [ixOf, h47]
  · simp only [ixOf, h47, if_false]
    cases ixOf 47 (s.toList.drop (j + 1)) with
    | none => rfl
    | some k => simp only [Option.map_some]; omega
end Go.V
namespace Go.V
open Go.N
open Go.RowKit
mutual
def RoTo : AV → AV → Prop
  | .fr _ sz es, y => y = .ro sz es
  | .nils, y => ∃ sz, y = .ro sz []
  | .agg xs, y => ∃ ys, y = .agg ys ∧ RoToL xs ys
  | .tup xs, y => ∃ ys, y = .tup ys ∧ RoToL xs ys
  | x, y => y = x
def RoToL : List AV → List AV → Prop
  | [], ys => ys = []
  | x :: xs, ys => ∃ y r, ys = y :: r ∧ RoTo x y ∧ RoToL xs r
end
mutual
theorem repF_lt {S : Nat → Prop} {b : Nat} {w : World} : ∀ (x : AV) (v : Value) (F : List (Nat × Nat)), RepF S b w x v F → ∀ q ∈ F, q.1 < w.heap.size
  | .fr e sz es, v, F, h => by
    simp only [RepF] at h
    obtain ⟨c, cap, rfl, _, _, cur, vss, hh, _⟩ := h
    intro q hq; simp at hq; subst hq
    exact (Array.getElem?_eq_some_iff.1 hh).1
  | .agg cs, v, F, h => by
    simp only [RepF] at h
    obtain ⟨vs, e, h1, h2⟩ := h
    exact repFL_lt' cs vs F h2
  | .tup cs, v, F, h => by
    simp only [RepF] at h
    obtain ⟨vs, e, h2⟩ := h
    exact repFL_lt' cs vs F h2
  | .j, v, F, h | .u, v, F, h | .int _ _, v, F, h | .bool _, v, F, h | .str _, v, F, h | .nils, v, F, h | .nili, v, F, h
  | .own _ _ _, v, F, h | .ptr _ _ _, v, F, h | .bptr _ _, v, F, h | .map _, v, F, h | .rp _, v, F, h | .ro _ _, v, F, h | .fn _ _, v, F, h | .iface _ _, v, F, h => by
    simp only [RepF] at h; rw [h.1]; simp
theorem repFL_lt' {S : Nat → Prop} {b : Nat} {w : World} : ∀ (xs : List AV) (vs : List Value) (F : List (Nat × Nat)), RepFL S b w xs vs F → ∀ q ∈ F, q.1 < w.heap.size
  | [], vs, F, h => by simp only [RepFL] at h; rw [h.2]; simp
  | x :: xs, vs, F, h => by
    simp only [RepFL] at h
    obtain ⟨v, r, F1, F2, rfl, rfl, h1, h2⟩ := h
    intro q hq
    rcases List.mem_append.1 hq with hq | hq
    · exact repF_lt x v F1 h1 q hq
    · exact repFL_lt' xs r F2 h2 q hq
end
mutual
theorem roTo_rep {S : Nat → Prop} {b : Nat} {w : World} : ∀ (x y : AV) (v : Value) (F : List (Nat × Nat)), RoTo x y → RepF S b w x v F → RepF (fun q => S q ∨ q ∈ F.map (·.1)) b w y v []
  | .fr e sz es, y, v, F, hy, h => by
    simp only [RoTo] at hy
    subst hy
    simp only [RepF] at h ⊢
    obtain ⟨c, cap, rfl, rfl, hB, hrow⟩ := h
    exact ⟨trivial, row_ro hrow (.inr (by simp)) fun q hq => .inl hq⟩
  | .nils, y, v, F, hy, h => by
    simp only [RoTo] at hy
    obtain ⟨sz, rfl⟩ := hy
    simp only [RepF, RepV] at h ⊢
    obtain ⟨rfl, rfl⟩ := h
    refine ⟨trivial, none, 0, ?_⟩
    simp
  | .agg xs, y, v, F, hy, h => by
    simp only [RoTo] at hy
    obtain ⟨ys, rfl, hl⟩ := hy
    simp only [RepF] at h ⊢
    obtain ⟨vs, e, h1, h2⟩ := h
    exact ⟨vs, e, h1, roToL_rep xs ys vs F hl h2⟩
  | .tup xs, y, v, F, hy, h => by
    simp only [RoTo] at hy
    obtain ⟨ys, rfl, hl⟩ := hy
    simp only [RepF] at h ⊢
    obtain ⟨vs, e, h2⟩ := h
    exact ⟨vs, e, roToL_rep xs ys vs F hl h2⟩
  | .j, y, v, F, hy, h | .u, y, v, F, hy, h | .int _ _, y, v, F, hy, h | .bool _, y, v, F, hy, h | .str _, y, v, F, hy, h | .nili, y, v, F, hy, h
  | .own _ _ _, y, v, F, hy, h | .ptr _ _ _, y, v, F, hy, h | .bptr _ _, y, v, F, hy, h | .map _, y, v, F, hy, h | .rp _, y, v, F, hy, h | .ro _ _, y, v, F, hy, h | .fn _ _, y, v, F, hy, h | .iface _ _, y, v, F, hy, h => by
    simp only [RoTo] at hy
    subst hy
    simp only [RepF] at h ⊢
    exact ⟨trivial, RepV.later (later_sub fun q hq => .inl hq) _ v h.2⟩
theorem roToL_rep {S : Nat → Prop} {b : Nat} {w : World} : ∀ (xs ys : List AV) (vs : List Value) (F : List (Nat × Nat)), RoToL xs ys → RepFL S b w xs vs F → RepFL (fun q => S q ∨ q ∈ F.map (·.1)) b w ys vs []
  | [], ys, vs, F, hy, h => by
    simp only [RoToL] at hy
    subst hy
    simp only [RepFL] at h ⊢; exact ⟨h.1, trivial⟩
  | x :: xs, ys, vs, F, hy, h => by
    simp only [RoToL] at hy
    obtain ⟨y, r', rfl, hy1, hy2⟩ := hy
    simp only [RepFL] at h ⊢
    obtain ⟨v, r, F1, F2, rfl, rfl, h1, h2⟩ := h
    have k1 := roTo_rep x y v F1 hy1 h1
    have k2 := roToL_rep xs r' r F2 hy2 h2
    refine ⟨v, r, [], [], rfl, rfl, repF_later (later_sub fun q hq => ?_) _ _ _ k1 (by simp), repFL_later (later_sub fun q hq => ?_) _ _ _ k2 (by simp)⟩
    · rcases hq with hq | hq
      · exact .inl hq
      · exact .inr (by rw [List.map_append]; exact List.mem_append_left _ hq)
    · rcases hq with hq | hq
      · exact .inl hq
      · exact .inr (by rw [List.map_append]; exact List.mem_append_right _ hq)
end
theorem VCall.taken {P : Program} {gl : Gl} {f : FuncId} {args : List AV} {R : AV → Prop} (h : VCall P gl f args (fun x => ∃ y, RoTo x y ∧ R y)) : VCall P gl f args R := by
  intro S w vs h1 h2 h3
  refine (h S w vs h1 h2 h3).mono fun v w' hh => ?_
  obtain ⟨x, ⟨y, hxy, hR⟩, ⟨S', F, hF, hnd, hFS, hS'⟩, hb⟩ := hh
  refine ⟨y, hR, ?_, hb⟩
  have hge := repF_ge _ _ _ hF
  have hlt := repF_lt _ _ _ hF
  refine ⟨fun q => S' q ∨ q ∈ F.map (·.1), [], roTo_rep _ _ _ _ hxy hF, by simp, by simp, ?_⟩
  rintro q (hq | hq)
  · exact hS' q hq
  · obtain ⟨y, hy, rfl⟩ := List.mem_map.1 hq
    exact ⟨hlt y hy, .inr (hge y hy)⟩
end Go.V
namespace Go.V
open Go.N
structure Nd where
  op : ByteArray
  a : Int
  b : Int
  name : ByteArray
  shape : List Int
  k : ByteArray
  n : Int
  data : List ByteArray
structure Gr where
  nodes : List Nd
  loss : Int
def Nd.cells (x : Nd) : List AV := [.str x.op, .int .i64 x.a, .int .i64 x.b, .str x.name, .ro 1 (rowZ x.shape), .str x.k, .int .i64 x.n, .ro 1 (rowS x.data)]
def rowN (l : List Nd) : List (List AV) := l.map Nd.cells
@[simp] theorem rowN_length (l : List Nd) : (rowN l).length = l.length := by simp [rowN]
theorem rowN_get {l : List Nd} {k : Nat} (h : k < l.length) : (rowN l)[k]? = some l[k].cells := by simp [rowN, h]
def Gr.cells (g : Gr) : List AV := [.ro 8 (rowN g.nodes), .int .i64 g.loss]
abbrev sParam : ByteArray := ⟨#[112, 97, 114, 97, 109]⟩
abbrev sInput : ByteArray := ⟨#[105, 110, 112, 117, 116]⟩
abbrev sConst : ByteArray := ⟨#[99, 111, 110, 115, 116]⟩
abbrev sRelu : ByteArray := ⟨#[114, 101, 108, 117]⟩
abbrev sAbs : ByteArray := ⟨#[97, 98, 115]⟩
abbrev sStep : ByteArray := ⟨#[115, 116, 101, 112]⟩
abbrev sSign : ByteArray := ⟨#[115, 105, 103, 110]⟩
abbrev sScale : ByteArray := ⟨#[115, 99, 97, 108, 101]⟩
abbrev sPower : ByteArray := ⟨#[112, 111, 119, 101, 114]⟩
abbrev sTranspose : ByteArray := ⟨#[116, 114, 97, 110, 115, 112, 111, 115, 101]⟩
abbrev sSum : ByteArray := ⟨#[115, 117, 109]⟩
abbrev sReshape : ByteArray := ⟨#[114, 101, 115, 104, 97, 112, 101]⟩
abbrev sSpread : ByteArray := ⟨#[115, 112, 114, 101, 97, 100]⟩
abbrev sAdd : ByteArray := ⟨#[97, 100, 100]⟩
abbrev sSub : ByteArray := ⟨#[115, 117, 98]⟩
abbrev sMul : ByteArray := ⟨#[109, 117, 108]⟩
abbrev sMax : ByteArray := ⟨#[109, 97, 120]⟩
abbrev sAbove : ByteArray := ⟨#[97, 98, 111, 118, 101]⟩
abbrev sMatmul : ByteArray := ⟨#[109, 97, 116, 109, 117, 108]⟩
def ops0 : List ByteArray := [sParam, sInput, sConst]
def ops1 : List ByteArray := [sRelu, sAbs, sStep, sSign, sScale, sPower, sTranspose, sSum, sReshape, sSpread]
def ops2 : List ByteArray := [sAdd, sSub, sMul, sMax, sAbove, sMatmul]
def inOps (s : ByteArray) (l : List ByteArray) : Bool := l.any fun t => decide (s = t)
def opParts (s : ByteArray) : Option Nat := if inOps s ops0 = true then some 0 else if inOps s ops1 = true then some 1 else if inOps s ops2 = true then some 2 else none
def partsN (s : ByteArray) : Nat := (opParts s).getD 0
inductive Opc where
  | param | input | const | relu | abs | step | sign | scale | power | transpose | sum | reshape | spread | add | sub | mul | max | above | matmul
def Opc.str : Opc → ByteArray
  | .param => sParam | .input => sInput | .const => sConst | .relu => sRelu | .abs => sAbs | .step => sStep | .sign => sSign | .scale => sScale | .power => sPower | .transpose => sTranspose | .sum => sSum
  | .reshape => sReshape | .spread => sSpread | .add => sAdd | .sub => sSub | .mul => sMul | .max => sMax | .above => sAbove | .matmul => sMatmul
theorem inOps_str {s : ByteArray} {l : List ByteArray} (k : List Opc) (e : l = k.map Opc.str) (h : inOps s l = true) : ∃ o, s = Opc.str o := by
  obtain ⟨t, ht, h2⟩ := List.any_eq_true.1 h
  rw [e] at ht
  obtain ⟨o, _, rfl⟩ := List.mem_map.1 ht
  exact ⟨o, of_decide_eq_true h2⟩
theorem opc_cases (s : ByteArray) : (∃ o, s = Opc.str o) ∨ opParts s = none := by
  cases h0 : inOps s ops0
  · cases h1 : inOps s ops1
    · cases h2 : inOps s ops2
      · right; rw [opParts, h0, h1, h2]; rfl
      · exact .inl (inOps_str [.add, .sub, .mul, .max, .above, .matmul] rfl h2)
    · exact .inl (inOps_str [.relu, .abs, .step, .sign, .scale, .power, .transpose, .sum, .reshape, .spread] rfl h1)
  · exact .inl (inOps_str [.param, .input, .const] rfl h0)
theorem opParts_le {s : ByteArray} {m : Nat} (h : opParts s = some m) : m ≤ 2 := by
  unfold opParts at h
  split at h
  · cases h; omega
  · split at h
    · cases h; omega
    · split at h
      · cases h; omega
      · cases h
theorem partsN_le (s : ByteArray) : partsN s ≤ 2 := by
  unfold partsN
  cases h : opParts s with
  | none => exact Nat.zero_le _
  | some m => exact opParts_le h
def partsZ (s : ByteArray) : Int := match opParts s with | some m => (m : Int) | none => -1
def dParts (x : Nd) : List Int := match opParts x.op with | some 0 => [] | some 2 => [x.a, x.b] | _ => [x.a]
def isName (s : ByteArray) : Bool := decide (0 < s.size ∧ s.size < 9) && s.toList.all nameC && (match s.toList.head? with | none => false | some c => decide (97 ≤ c.toNat ∧ c.toNat ≤ 122))
theorem isName_iff {s : ByteArray} (h1 : 0 < s.toList.length) : isName s = true ↔ s.size < 9 ∧ s.toList.all nameC = true ∧ 97 ≤ s.toList[0].toNat ∧ s.toList[0].toNat ≤ 122 := by
  have hl := Go.N.len_toList s
  have e : s.toList.head? = some s.toList[0] := by rw [List.head?_eq_getElem?, List.getElem?_eq_getElem h1]
  rw [isName, e]
  simp only [Bool.and_eq_true, decide_eq_true_eq]
  constructor
  · rintro ⟨⟨⟨_, a⟩, b⟩, c⟩; exact ⟨a, b, c⟩
  · rintro ⟨a, b, c⟩; exact ⟨⟨⟨by omega, a⟩, b⟩, c⟩
theorem isName_empty : isName ⟨#[]⟩ = false := by decide +kernel
theorem eq_empty {s : ByteArray} (h : s.size = 0) : s = ⟨#[]⟩ := toList_inj (by
  have : s.toList = [] := List.length_eq_zero_iff.1 (by rw [Go.N.len_toList]; exact h)
  rw [this, ByteArray.toList_eq])
def namedOp (s : ByteArray) : Bool := decide (s = sParam) || decide (s = sInput)
def bareOK (x : Nd) (m : Nat) : Bool :=
  (decide (0 < (m : Int)) || decide (x.a = 0)) && ((decide (1 < (m : Int)) || decide (x.b = 0)) && ((isName x.name == namedOp x.op) && ((namedOp x.op || decide (x.name = ⟨#[]⟩)) &&
    ((decide (x.k = ⟨#[]⟩) || decide (x.op = sScale)) && ((decide (x.n = 0) || decide (x.op = sPower)) && (decide ((x.data.length : Int) = 0) || decide (x.op = sConst)))))))
structure Nd.Sm (x : Nd) : Prop where
  name : x.name.size ≤ 1000
  k : x.k.size ≤ 1000
  shape : x.shape.length ≤ 1000
  data : x.data.length ≤ 1000
  each : ∀ d ∈ x.data, d.size ≤ 1000
def ofZ (x : Nd) (a b : List Int) : List Int × Bool :=
  if x.op = sConst then (x.shape, decide ((x.data.length : Int) = sizeZ x.shape) && !(x.data.any fun d => !ratOK d))
  else if x.op = sAdd ∨ x.op = sSub ∨ x.op = sMul ∨ x.op = sMax ∨ x.op = sAbove then (a, decide (a = b))
  else if x.op = sMatmul then (match a, b with | [p, q], [r, s] => if q = r then ([p, s], true) else ([], false) | _, _ => ([], false))
  else if x.op = sRelu ∨ x.op = sAbs ∨ x.op = sStep ∨ x.op = sSign then (a, true)
  else if x.op = sScale then (a, ratOK x.k)
  else if x.op = sPower then (a, decide (0 ≤ x.n) && decide (x.n ≤ 6))
  else if x.op = sTranspose then (match a with | [p, q] => ([q, p], true) | _ => ([], false))
  else if x.op = sSum then ([], true)
  else if x.op = sReshape then (x.shape, decide (sizeZ x.shape = sizeZ a))
  else if x.op = sSpread then (x.shape, decide ((a.length : Int) = 0))
  else (x.shape, true)
def shapeOf (x : Nd) (a b : List Int) : Option (List Int) := if (ofZ x a b).2 = true then some (ofZ x a b).1 else none
theorem matmul_not {a b : List Int} (h : ¬ (a.length = 2 ∧ b.length = 2 ∧ a[1]? = b[0]?)) : (match a, b with | [p, q], [r, s] => if q = r then (([p, s] : List Int), true) else ([], false) | _, _ => ([], false)) = ([], false) := by
  split
  · rename_i p q r s
    rw [if_neg]
    intro e; subst e; exact h ⟨rfl, rfl, rfl⟩
  · rfl
theorem transpose_not {a : List Int} (h : a.length ≠ 2) : (match a with | [p, q] => (([q, p] : List Int), true) | _ => ([], false)) = ([], false) := by
  split
  · exact absurd rfl h
  · rfl
theorem two_of {a : List Int} (h : a.length = 2) : ∃ p q, a = [p, q] := by
  match a, h with
  | [p, q], _ => exact ⟨p, q, rfl⟩
theorem opc_none {s : ByteArray} (h : opParts s = none) (o : Opc) : ¬ s = o.str := fun e => by
  rw [e] at h
  cases o <;> exact absurd h (by decide)
theorem ofZ_none {x : Nd} {a b : List Int} (h : opParts x.op = none) : ofZ x a b = (x.shape, true) := by
  have k := opc_none h
  have k1 : ¬ x.op = sConst := k .const
  have k2 : ¬ (x.op = sAdd ∨ x.op = sSub ∨ x.op = sMul ∨ x.op = sMax ∨ x.op = sAbove) := by
    rintro (e | e | e | e | e)
    · exact k .add e
    · exact k .sub e
    · exact k .mul e
    · exact k .max e
    · exact k .above e
  have k3 : ¬ x.op = sMatmul := k .matmul
  have k4 : ¬ (x.op = sRelu ∨ x.op = sAbs ∨ x.op = sStep ∨ x.op = sSign) := by
    rintro (e | e | e | e)
    · exact k .relu e
    · exact k .abs e
    · exact k .step e
    · exact k .sign e
  have k5 : ¬ x.op = sScale := k .scale
  have k6 : ¬ x.op = sPower := k .power
  have k7 : ¬ x.op = sTranspose := k .transpose
  have k8 : ¬ x.op = sSum := k .sum
  have k9 : ¬ x.op = sReshape := k .reshape
  have k0 : ¬ x.op = sSpread := k .spread
  unfold ofZ
  rw [if_neg k1, if_neg k2, if_neg k3, if_neg k4, if_neg k5, if_neg k6, if_neg k7, if_neg k8, if_neg k9, if_neg k0]
theorem x_0 {es : List (List AV)} {c : List AV} {K : List AV → Prop} (h : es[0]? = some c) (k : K c) : ∃ (m : Nat) (x : List AV), (0 : Int) = (m : Int) ∧ es[m]? = some x ∧ K x := ⟨0, c, rfl, h, k⟩
theorem x_1 {es : List (List AV)} {c : List AV} {K : List AV → Prop} (h : es[1]? = some c) (k : K c) : ∃ (m : Nat) (x : List AV), (1 : Int) = (m : Int) ∧ es[m]? = some x ∧ K x := ⟨1, c, rfl, h, k⟩
theorem roTo2 {a b c d : AV} (h1 : RoTo a c) (h2 : RoTo b d) : RoTo (.tup [a, b]) (.tup [c, d]) := ⟨_, rfl, _, _, rfl, h1, _, _, rfl, h2, rfl⟩
theorem roTo3 {a b c d e f : AV} (h1 : RoTo a d) (h2 : RoTo b e) (h3 : RoTo c f) : RoTo (.tup [a, b, c]) (.tup [d, e, f]) := ⟨_, rfl, _, _, rfl, h1, _, _, rfl, h2, _, _, rfl, h3, rfl⟩
theorem roToA {a b c d : AV} (h1 : RoTo a c) (h2 : RoTo b d) : RoTo (.agg [a, b]) (.agg [c, d]) := ⟨_, rfl, _, _, rfl, h1, _, _, rfl, h2, rfl⟩
theorem ofZ_len {x : Nd} {a b : List Int} (hx : x.Sm) (ha : a.length ≤ 1000) (hb : b.length ≤ 1000) : (ofZ x a b).1.length ≤ 1000 := by
  have := hx.shape
  unfold ofZ
  repeat' split
  all_goals simp
  all_goals assumption
def inR (i : Int) (l : List Nd) : Bool := decide (0 ≤ i) && decide (i < l.length)
theorem inR_nat {i : Int} {l : List Nd} (h : inR i l = true) : ∃ k : Nat, i = k ∧ k < l.length := by
  simp only [inR, Bool.and_eq_true, decide_eq_true_eq] at h
  exact ⟨i.toNat, by omega, by omega⟩
theorem inR_not {i : Int} {l : List Nd} (h : inR i l = false) : i < 0 ∨ (l.length : Int) ≤ i := by
  simp only [inR, Bool.and_eq_false_iff, decide_eq_false_iff_not] at h
  omega
def shAt (l : List Nd) (i : Int) : List Int := match l[i.toNat]? with | some x => x.shape | none => []
theorem shAt_nat {l : List Nd} {k : Nat} (h : k < l.length) : shAt l k = l[k].shape := by
  rw [shAt, Int.toNat_natCast, List.getElem?_eq_getElem h]
def fitN (l : List Nd) (x : Nd) (m : Nat) : Bool := bareOK x m && ((decide (m = 0) || inR x.a l) && (decide (m < 2) || inR x.b l))
def okZ (r : List Int × Bool) : Option (List Int) := if (r.2 && okShape r.1) = true then some r.1 else none
def inferN (l : List Nd) (x : Nd) : Option (List Int) :=
  match opParts x.op with
  | none => none
  | some m => if fitN l x m = true then okZ (ofZ x (if m = 0 then [] else shAt l x.a) (if m < 2 then [] else shAt l x.b)) else none
theorem inferN_none {l : List Nd} {x : Nd} (h : opParts x.op = none) : inferN l x = none := by simp only [inferN, h]
theorem inferN_bad {l : List Nd} {x : Nd} {m : Nat} (h : opParts x.op = some m) (hb : fitN l x m = false) : inferN l x = none := by simp [inferN, h, hb]
theorem inferN_ok {l : List Nd} {x : Nd} {m : Nat} (h : opParts x.op = some m) (hb : fitN l x m = true) : inferN l x = okZ (ofZ x (if m = 0 then [] else shAt l x.a) (if m < 2 then [] else shAt l x.b)) := by simp only [inferN, h, hb, if_true]
def refZ (x : Nd) (a b : List Int) : List Int × Bool :=
  if (ofZ x a b).2 = false then ([], false) else if okShape (ofZ x a b).1 = true then ((ofZ x a b).1, true) else if x.op = sConst ∨ x.op = sReshape then ([], false) else ((ofZ x a b).1, false)
def refN (l : List Nd) (x : Nd) : List Int × Bool :=
  match opParts x.op with
  | none => ([], false)
  | some m => if fitN l x m = true then refZ x (if m = 0 then [] else shAt l x.a) (if m < 2 then [] else shAt l x.b) else ([], false)
theorem refN_none {l : List Nd} {x : Nd} (h : opParts x.op = none) : refN l x = ([], false) := by simp only [refN, h]
theorem refN_bad {l : List Nd} {x : Nd} {m : Nat} (h : opParts x.op = some m) (hb : fitN l x m = false) : refN l x = ([], false) := by simp [refN, h, hb]
theorem refN_ok {l : List Nd} {x : Nd} {m : Nat} (h : opParts x.op = some m) (hb : fitN l x m = true) : refN l x = refZ x (if m = 0 then [] else shAt l x.a) (if m < 2 then [] else shAt l x.b) := by simp only [refN, h, hb, if_true]
theorem refZ_2 (x : Nd) (a b : List Int) : (refZ x a b).2 = (okZ (ofZ x a b)).isSome ∧ ((refZ x a b).2 = true → okZ (ofZ x a b) = some (refZ x a b).1) := by
  unfold refZ okZ
  generalize ofZ x a b = r
  obtain ⟨s, ok⟩ := r
  cases ok <;> cases h : okShape s <;> simp [h]
  all_goals split <;> simp
theorem refN_infer (l : List Nd) (x : Nd) : (refN l x).2 = (inferN l x).isSome ∧ ((refN l x).2 = true → inferN l x = some (refN l x).1) := by
  unfold refN inferN
  cases opParts x.op with
  | none => simp
  | some m =>
    dsimp only
    cases fitN l x m with
    | false => simp
    | true => simp only [if_true]; exact refZ_2 _ _ _
structure Fit (l : List Nd) (x : Nd) (m : Nat) : Prop where
  a0 : m = 0 → x.a = 0
  b0 : m < 2 → x.b = 0
  nm : namedOp x.op = true → isName x.name = true
  nn : namedOp x.op = false → x.name = ⟨#[]⟩
  k : x.op ≠ sScale → x.k = ⟨#[]⟩
  n : x.op ≠ sPower → x.n = 0
  d : x.op ≠ sConst → x.data.length = 0
  ia : 0 < m → inR x.a l = true
  ib : 1 < m → inR x.b l = true
theorem fit_iff (l : List Nd) (x : Nd) (m : Nat) : fitN l x m = true ↔ Fit l x m := by
  have e : ∀ {p : Prop} {q : Prop} [Decidable p] [Decidable q], (decide p || decide q) = true ↔ (¬ p → q) := by intro p q _ _; by_cases p <;> by_cases q <;> simp_all
  have e2 : (decide ((x.data.length : Int) = 0) || decide (x.op = sConst)) = true ↔ (x.op ≠ sConst → x.data.length = 0) := by
    rw [Bool.or_comm, e]; constructor <;> intro h1 h2 <;> have := h1 h2 <;> omega
  have e3 : (isName x.name == namedOp x.op) = true ∧ (namedOp x.op || decide (x.name = ⟨#[]⟩)) = true ↔ ((namedOp x.op = true → isName x.name = true) ∧ (namedOp x.op = false → x.name = ⟨#[]⟩)) := by
    cases h : namedOp x.op
    · simp only [beq_false, Bool.not_eq_true', Bool.false_or, decide_eq_true_eq, Bool.false_eq_true, false_implies, true_and, forall_const]
      exact ⟨fun hh => hh.2, fun hh => ⟨by rw [hh]; exact isName_empty, hh⟩⟩
    · simp
  have e4 : (decide (0 < (m : Int)) || decide (x.a = 0)) = true ↔ (m = 0 → x.a = 0) := by rw [e]; constructor <;> intro h1 h2 <;> exact h1 (by omega)
  have e5 : (decide (1 < (m : Int)) || decide (x.b = 0)) = true ↔ (m < 2 → x.b = 0) := by rw [e]; constructor <;> intro h1 h2 <;> exact h1 (by omega)
  have e6 : (decide (x.k = ⟨#[]⟩) || decide (x.op = sScale)) = true ↔ (x.op ≠ sScale → x.k = ⟨#[]⟩) := by rw [Bool.or_comm, e]
  have e7 : (decide (x.n = 0) || decide (x.op = sPower)) = true ↔ (x.op ≠ sPower → x.n = 0) := by rw [Bool.or_comm, e]
  have e8 : (decide (m = 0) || inR x.a l) = true ↔ (0 < m → inR x.a l = true) := by
    rcases Nat.eq_zero_or_pos m with h | h
    · simp [h]
    · have : ¬ m = 0 := by omega
      simp [h, this]
  have e9 : (decide (m < 2) || inR x.b l) = true ↔ (1 < m → inR x.b l = true) := by
    rcases Nat.lt_or_ge m 2 with h | h
    · have : ¬ 1 < m := by omega
      simp [h, this]
    · have h1 : ¬ m < 2 := by omega
      have h2 : 1 < m := by omega
      simp [h1, h2]
  rw [fitN, Bool.and_eq_true, Bool.and_eq_true, e8, e9, bareOK, Bool.and_eq_true, Bool.and_eq_true, Bool.and_eq_true, Bool.and_eq_true, Bool.and_eq_true, Bool.and_eq_true, e2, e4, e5, e6, e7]
  constructor
  · rintro ⟨⟨h1, h2, h3, h4, h5, h6, h7⟩, h8, h9⟩
    have := e3.1 ⟨h3, h4⟩
    exact ⟨h1, h2, this.1, this.2, h5, h6, h7, h8, h9⟩
  · intro h
    have := e3.2 ⟨h.nm, h.nn⟩
    exact ⟨⟨h.a0, h.b0, this.1, this.2, h.k, h.n, h.d⟩, h.ia, h.ib⟩
theorem fit_no {l : List Nd} {x : Nd} {m : Nat} (h : fitN l x m = false) (k : Fit l x m) : False := by rw [(fit_iff l x m).2 k] at h; cases h
def Opc.many : Opc → Nat
  | .param | .input | .const => 0
  | .relu | .abs | .step | .sign | .scale | .power | .transpose | .sum | .reshape | .spread => 1
  | _ => 2
theorem opc_many (o : Opc) : opParts o.str = some o.many := by cases o <;> rfl
theorem refZ_of {x : Nd} {a b s : List Int} (h : ofZ x a b = (s, true)) (hc : ¬ (x.op = sConst ∨ x.op = sReshape)) : refZ x a b = (s, okShape s) := by
  rw [refZ, h, if_neg (by simp), if_neg hc]
  cases okShape s <;> rfl
theorem refZ_ok {x : Nd} {a b s : List Int} (h : ofZ x a b = (s, true)) (hs : okShape s = true) : refZ x a b = (s, true) := by
  rw [refZ, h, if_neg (by simp), if_pos hs]
theorem refZ_no {x : Nd} {a b : List Int} (h : (ofZ x a b).2 = false) : refZ x a b = ([], false) := by rw [refZ, if_pos h]
theorem refZ_bad {x : Nd} {a b : List Int} (hc : x.op = sConst ∨ x.op = sReshape) (h : okShape (ofZ x a b).1 = false) : refZ x a b = ([], false) := by
  rw [refZ, h, if_neg (by simp : ¬ false = true), if_pos hc]
  split <;> rfl
theorem inR_of {i : Int} {l : List Nd} (h1 : ¬ i < 0) (h2 : ¬ (l.length : Int) ≤ i) : inR i l = true := by simp [inR]; omega
theorem refZ_at (o : Opc) {x : Nd} {a b s : List Int} (ho : x.op = o.str) (h : ofZ x a b = (s, true)) (hc : ¬ (o.str = sConst ∨ o.str = sReshape)) : refZ x a b = (s, okShape s) := refZ_of h (by rw [ho]; exact hc)
theorem rowN_sh {l : List Nd} {i : Nat} (h : i < l.length) : ∃ o1 a1 b1 n1 k1 m1 d1, (rowN l)[i]? = some [.str o1, .int .i64 a1, .int .i64 b1, .str n1, .ro 1 (rowZ l[i].shape), .str k1, .int .i64 m1, .ro 1 d1] := ⟨_, _, _, _, _, _, _, rowN_get h⟩
def newName (x y : Nd) : Bool := decide (x.name = ⟨#[]⟩) || !decide (y.name = x.name)
def ndOK (l : List Nd) (x : Nd) : Bool := decide (inferN l x = some x.shape) && l.all (newName x)
def ndAt (l : List Nd) (k : Nat) : Bool := match l[k]? with | some x => ndOK (l.take k) x | none => true
theorem ndAt_lt {l : List Nd} {k : Nat} (h : k < l.length) : ndAt l k = ndOK (l.take k) l[k] := by rw [ndAt, List.getElem?_eq_getElem h]
def allTo (l : List Nd) (i : Nat) : Bool := (List.range i).all (ndAt l)
theorem allTo_succ (l : List Nd) (i : Nat) : allTo l (i + 1) = (allTo l i && ndAt l i) := by simp [allTo, List.range_succ]
theorem allTo_bad {l : List Nd} {i n : Nat} (h : i < n) (hb : ndAt l i = false) : allTo l n = false := List.all_eq_false.2 ⟨i, List.mem_range.2 h, by simp [hb]⟩
def preG (g : Gr) : Bool := decide (1 ≤ g.nodes.length) && decide (g.nodes.length ≤ 200) && inR g.loss g.nodes && decide (shAt g.nodes g.loss = [])
def grOK (g : Gr) : Bool := preG g && allTo g.nodes g.nodes.length
theorem findK_setK (x : ByteArray) (v : AV) (y : ByteArray) : ∀ l, findK (setK l x v) y = if y = x then some v else findK l y
  | [] => by simp [setK, findK]
  | (k, w) :: r => by
    unfold setK
    split
    · rename_i h; subst h; simp only [findK]; split <;> rfl
    · rename_i h
      simp only [findK, findK_setK x v y r]
      by_cases h2 : y = k
      · have : ¬ y = x := fun e => h (by rw [← e, h2])
        simp [h2, show ¬ k = x from fun e => h e.symm]
      · simp [h2]
def cntN (l : List Nd) (s : ByteArray) : Nat := l.countP fun y => decide (y.name = s)
def MapOK (kv : List (ByteArray × AV)) (l : List Nd) : Prop := ∀ s, AV.int .i64 ((cntN l s : Nat) : Int) = (findK kv s).getD (.int .i64 0)
theorem mapOK_nil : MapOK [] [] := fun s => rfl
theorem mapOK_snoc {kv : List (ByteArray × AV)} {l : List Nd} {x : Nd} {e : Int} (h : MapOK kv l) (he : e = (cntN l x.name : Nat) + 1) : MapOK (setK kv x.name (.int .i64 e)) (l ++ [x]) := fun s => by
  rw [findK_setK, cntN, List.countP_append]
  by_cases hs : s = x.name
  · subst hs; rw [if_pos rfl, he]; simp [cntN]
  · rw [if_neg hs, ← h s]; simp [cntN, show ¬ x.name = s from fun e => hs e.symm]
theorem cnt_pos {l : List Nd} {x : Nd} (hn : x.name ≠ ⟨#[]⟩) : 0 < cntN l x.name ↔ l.all (newName x) = false := by
  rw [cntN, List.countP_pos_iff, List.all_eq_false]
  constructor
  · rintro ⟨y, hy, h⟩; exact ⟨y, hy, by simp only [newName, decide_eq_true_eq] at h ⊢; simp [hn, h]⟩
  · rintro ⟨y, hy, h⟩; refine ⟨y, hy, ?_⟩; simp only [newName] at h; simp [hn] at h; simp [h]
theorem cnt_le (l : List Nd) (s : ByteArray) : cntN l s ≤ l.length := List.countP_le_length
theorem Xq {l : List (ByteArray × AV)} {k : ByteArray} {d v : AV} {K : AV → Prop} (h : v = (findK l k).getD d) (hk : K v) : ∃ r, r = (findK l k).getD d ∧ K r := ⟨v, h, hk⟩
theorem sl_take (l : List Nd) (i : Nat) : rowN (l.take i) = ((rowN l).drop (0 : Int).toNat).take ((i : Int).toNat - (0 : Int).toNat) := by simp [rowN]
end Go.V
namespace Go.V
open Go.N
variable (gl : Gl)
def T_gparts : Tab := [(9, ⟨.str, 1, 16, (.string .empty), [0]⟩)]
theorem TOK_gparts : TOK Go.Proofs.Tryd.prog T_gparts := ⟨⟨info_of Go.Proofs.Tryd.type9 rfl, by decide +kernel, by decide +kernel⟩, trivial⟩
def T_dparts : Tab := [(39, ⟨.strc [(0, 1, false), (1, 1, false), (2, 1, false), (3, 1, false), (4, 1, false), (5, 1, false), (6, 1, false), (7, 1, false)], 8, 120, (.agg #[(.string .empty), (.int .i64 0), (.int .i64 0), (.string .empty), (.slice none 0 0), (.string .empty), (.int .i64 0), (.slice none 0 0)]), [0, 0, 0, 0, 1, 0, 0, 1]⟩), (9, ⟨.str, 1, 16, (.string .empty), [0]⟩), (3, ⟨.int .i64, 1, 8, (.int .i64 0), [0]⟩), (25, ⟨.slice 3, 1, 24, (.slice none 0 0), [1]⟩)]
theorem TOK_dparts : TOK Go.Proofs.Tryd.prog T_dparts := ⟨⟨info_of Go.Proofs.Tryd.type39 rfl, by decide +kernel, by decide +kernel⟩, ⟨⟨info_of Go.Proofs.Tryd.type9 rfl, by decide +kernel, by decide +kernel⟩, ⟨⟨info_of Go.Proofs.Tryd.type3 rfl, by decide +kernel, by decide +kernel⟩, ⟨⟨info_of Go.Proofs.Tryd.type25 rfl, by decide +kernel, by decide +kernel⟩, trivial⟩⟩⟩⟩
theorem c_lexName (s : ByteArray) (hs : s.size < 1000000) : VCall Go.Proofs.Tryd.prog gl 25 [.str s] (fun x => x = .bool (isName s)) := by
  refine vcall_of TOK_lexName HM Go.Proofs.Tryd.func25 rfl (by decide +kernel) (by decide +kernel) rfl ?_
  rcases Nat.eq_zero_or_pos s.size with h0 | h0
  · rw [eq_empty h0]
    repeat' ((conv => whnf); first | (with_reducible first | apply Xa | (first | apply xi | apply xu | apply x8 | apply x3 | apply xn | apply xp | apply xP | refine xs ?_ ?_ | refine xS ?_ ?_ | refine xZ ?_ ?_ | refine xl ?_ ?_ | refine xd ?_ ?_ | refine xy ?_ ?_ | refine xL ?_ ?_ | refine xD ?_ ?_ | apply xx); omega | apply Xm | apply Xe | refine Xg (by assumption) ?_) | refine Xo (by assumption) ?_ | refine Or.inl ⟨rfl, ?_⟩ | (split <;> (first | (rename_i u h; clear u) | rename_i h) <;> (try rewrite [h]) <;> (first | replace h := dt h | replace h := df h | replace h := Nt h | replace h := Nf h | skip)))
    conv => whnf
    exact congrArg AV.bool isName_empty.symm
  have hl := Go.N.len_toList s
  have hne : ¬ s = ⟨#[]⟩ := fun e => by rw [e] at h0; exact absurd h0 (by decide)
  have h1 : 0 < s.toList.length := by omega
  have hi := isName_iff h1
  have hT := c_sTrim gl s hs (by omega)
  repeat' ((conv => whnf); first | (with_reducible first | apply Xa | (first | apply xi | apply xu | apply x8 | apply x3 | apply xn | apply xp | apply xP | refine xs ?_ ?_ | refine xS ?_ ?_ | refine xZ ?_ ?_ | refine xl ?_ ?_ | refine xd ?_ ?_ | refine xy ?_ ?_ | refine xL ?_ ?_ | refine xD ?_ ?_ | apply xx); omega | apply Xm | apply Xe | refine Xg (by assumption) ?_) | refine Xo (by assumption) ?_ | refine Or.inl ⟨rfl, ?_⟩ | (split <;> (first | (rename_i u h; clear u) | rename_i h) <;> (try rewrite [h]) <;> (first | replace h := dt h | replace h := df h | replace h := Nt h | replace h := Nf h | skip)))
  all_goals first | exact absurd (by assumption) hne | skip
  · conv => whnf
    exact congrArg AV.bool (Eq.symm (Bool.eq_false_iff.2 fun hh => by have := hi.1 hh; omega))
  · conv => whnf
    exact congrArg AV.bool (Eq.symm (Bool.eq_false_iff.2 fun hh => by have := hi.1 hh; omega))
  · conv => whnf
    exact congrArg AV.bool (Eq.symm (Bool.eq_false_iff.2 fun hh => by have := hi.1 hh; omega))
  conv => whnf
  refine .inl ⟨_, hT, ?_⟩
  rintro _ ⟨r, rfl, hr⟩
  have e : decide (r = ⟨#[]⟩) = isName s := by
    rw [Bool.eq_iff_iff, decide_eq_true_eq, hr, hi]
    constructor
    · intro hh; exact ⟨by omega, hh, by omega, by omega⟩
    · intro hh; exact hh.2.1
  repeat' ((conv => whnf); first | (with_reducible first | apply Xa | (first | apply xi | apply xu | apply x8 | apply x3 | apply xn | apply xp | apply xP | refine xs ?_ ?_ | refine xS ?_ ?_ | refine xZ ?_ ?_ | refine xl ?_ ?_ | refine xd ?_ ?_ | refine xy ?_ ?_ | refine xL ?_ ?_ | refine xD ?_ ?_ | apply xx); omega | apply Xm | apply Xe | refine Xg (by assumption) ?_) | refine Xo (by assumption) ?_ | refine Or.inl ⟨rfl, ?_⟩ | (split <;> (first | (rename_i u h; clear u) | rename_i h) <;> (try rewrite [h]) <;> (first | replace h := dt h | replace h := df h | replace h := Nt h | replace h := Nf h | skip)))
  conv => whnf
  exact congrArg AV.bool e
end Go.V
namespace Go.V
open Go.N
variable (gl : Gl)
theorem c_gparts (s : ByteArray) : VCall Go.Proofs.Tryd.prog gl 19 [.str s] (fun x => x = .tup [.int .i64 (partsN s : Nat), .bool (opParts s).isSome]) := by
  rcases opc_cases s with ⟨o, rfl⟩ | hn
  · refine vcall_of TOK_gparts HM Go.Proofs.Tryd.func19 rfl (by decide +kernel) (by decide +kernel) rfl ?_
    cases o
    all_goals (repeat' ((conv => whnf); first | (with_reducible first | apply Xa | (first | apply xi | apply xu | apply x8 | apply x3 | apply xn | apply xp | apply xP | refine xs ?_ ?_ | refine xS ?_ ?_ | refine xZ ?_ ?_ | refine xl ?_ ?_ | refine xd ?_ ?_ | refine xy ?_ ?_ | refine xL ?_ ?_ | refine xD ?_ ?_ | apply xx); omega | apply Xm | apply Xe | refine Xg (by assumption) ?_) | refine Xo (by assumption) ?_ | refine Or.inl ⟨rfl, ?_⟩ | (split <;> (first | (rename_i u h; clear u) | rename_i h) <;> (try rewrite [h]) <;> (first | replace h := dt h | replace h := df h | replace h := Nt h | replace h := Nf h | skip))))
    all_goals (conv => whnf)
    all_goals rfl
  · have e1 : partsN s = 0 := by rw [partsN, hn]; rfl
    rw [e1, hn]
    refine vcall_of TOK_gparts HM Go.Proofs.Tryd.func19 rfl (by decide +kernel) (by decide +kernel) rfl ?_
    repeat' ((conv => whnf); first | (with_reducible first | apply Xa | (first | apply xi | apply xu | apply x8 | apply x3 | apply xn | apply xp | apply xP | refine xs ?_ ?_ | refine xS ?_ ?_ | refine xZ ?_ ?_ | refine xl ?_ ?_ | refine xd ?_ ?_ | refine xy ?_ ?_ | refine xL ?_ ?_ | refine xD ?_ ?_ | apply xx); omega | apply Xm | apply Xe | refine Xg (by assumption) ?_) | refine Xo (by assumption) ?_ | refine Or.inl ⟨rfl, ?_⟩ | (split <;> (first | (rename_i u h; clear u) | rename_i h) <;> (try rewrite [h]) <;> (first | replace h := dt h | replace h := df h | replace h := Nt h | replace h := Nf h | skip)))
    all_goals first | exact absurd hn (by rw [h]; decide) | skip
    conv => whnf
    rfl
theorem rowS_lit (l : List ByteArray) : rowS l = l.map fun x => [.str x] := rfl
theorem c_dparts (x : Nd) : VCall Go.Proofs.Tryd.prog gl 11 [.agg x.cells] (fun y => y = .ro 1 (rowZ (dParts x))) := by
  obtain ⟨op, a, b, name, shape, k, n, data⟩ := x
  refine VCall.taken ?_
  rcases opc_cases op with ⟨o, rfl⟩ | hn
  · refine vcall_of TOK_dparts HM Go.Proofs.Tryd.func11 rfl (by decide +kernel) (by decide +kernel) rfl ?_
    cases o
    all_goals (repeat' ((conv => whnf); first | (with_reducible first | apply Xa | (first | apply xi | apply xu | apply x8 | apply x3 | apply xn | apply xp | apply xP | refine xs ?_ ?_ | refine xS ?_ ?_ | refine xZ ?_ ?_ | refine xl ?_ ?_ | refine xd ?_ ?_ | refine xy ?_ ?_ | refine xL ?_ ?_ | refine xD ?_ ?_ | apply xx); omega | apply Xm | apply Xe | refine Xg (by assumption) ?_) | refine Xo (by assumption) ?_ | refine Or.inl ⟨rfl, ?_⟩ | (split <;> (first | (rename_i u h; clear u) | rename_i h) <;> (try rewrite [h]) <;> (first | replace h := dt h | replace h := df h | replace h := Nt h | replace h := Nf h | skip))))
    all_goals (conv => whnf)
    all_goals first | exact ⟨_, (show RoTo .nils (.ro 1 []) from ⟨1, rfl⟩), rfl⟩ | exact ⟨_, rfl, rfl⟩
  · have e1 : dParts ⟨op, a, b, name, shape, k, n, data⟩ = [a] := by simp only [dParts, hn]
    rw [e1]
    refine vcall_of TOK_dparts HM Go.Proofs.Tryd.func11 rfl (by decide +kernel) (by decide +kernel) rfl ?_
    repeat' ((conv => whnf); first | (with_reducible first | apply Xa | (first | apply xi | apply xu | apply x8 | apply x3 | apply xn | apply xp | apply xP | refine xs ?_ ?_ | refine xS ?_ ?_ | refine xZ ?_ ?_ | refine xl ?_ ?_ | refine xd ?_ ?_ | refine xy ?_ ?_ | refine xL ?_ ?_ | refine xD ?_ ?_ | apply xx); omega | apply Xm | apply Xe | refine Xg (by assumption) ?_) | refine Xo (by assumption) ?_ | refine Or.inl ⟨rfl, ?_⟩ | (split <;> (first | (rename_i u h; clear u) | rename_i h) <;> (try rewrite [h]) <;> (first | replace h := dt h | replace h := df h | replace h := Nt h | replace h := Nf h | skip)))
    all_goals first | exact absurd hn (by rw [show op = _ from h]; decide) | skip
    conv => whnf
    exact ⟨_, rfl, rfl⟩
end Go.V
namespace Go.V
open Go.N
variable (gl : Gl)
def T_gbare : Tab := [(39, ⟨.strc [(0, 1, false), (1, 1, false), (2, 1, false), (3, 1, false), (4, 1, false), (5, 1, false), (6, 1, false), (7, 1, false)], 8, 120, (.agg #[(.string .empty), (.int .i64 0), (.int .i64 0), (.string .empty), (.slice none 0 0), (.string .empty), (.int .i64 0), (.slice none 0 0)]), [0, 0, 0, 0, 1, 0, 0, 1]⟩), (9, ⟨.str, 1, 16, (.string .empty), [0]⟩), (3, ⟨.int .i64, 1, 8, (.int .i64 0), [0]⟩), (4, ⟨.bool, 1, 1, (.bool false), [0]⟩), (37, ⟨.slice 9, 1, 24, (.slice none 0 0), [1]⟩)]
theorem TOK_gbare : TOK Go.Proofs.Tryd.prog T_gbare := ⟨⟨info_of Go.Proofs.Tryd.type39 rfl, by decide +kernel, by decide +kernel⟩, ⟨⟨info_of Go.Proofs.Tryd.type9 rfl, by decide +kernel, by decide +kernel⟩, ⟨⟨info_of Go.Proofs.Tryd.type3 rfl, by decide +kernel, by decide +kernel⟩, ⟨⟨info_of Go.Proofs.Tryd.type4 rfl, by decide +kernel, by decide +kernel⟩, ⟨⟨info_of Go.Proofs.Tryd.type37 rfl, by decide +kernel, by decide +kernel⟩, trivial⟩⟩⟩⟩⟩
set_option maxHeartbeats 4000000 in
theorem c_gbare (x : Nd) (m : Nat) (hx : x.Sm) (hm : m ≤ 2) : VCall Go.Proofs.Tryd.prog gl 20 [.agg x.cells, .int .i64 (m : Nat)] (fun y => y = .bool (bareOK x m)) := by
  obtain ⟨op, a, b, name, shape, k, n, data⟩ := x
  have hname := c_lexName gl name (Nat.lt_of_le_of_lt hx.name (by decide))
  have hlen : (rowS data).length = data.length := rowS_length data
  simp only [bareOK]
  generalize isName name = nm at hname ⊢
  by_cases h1 : op = sParam
  · subst h1
    rw [show namedOp sParam = true from rfl, show decide (sParam = sScale) = false from rfl, show decide (sParam = sPower) = false from rfl, show decide (sParam = sConst) = false from rfl]
    refine vcall_of TOK_gbare HM Go.Proofs.Tryd.func20 rfl (by decide +kernel) (by decide +kernel) rfl ?_
    repeat' ((conv => whnf); first | ((with_reducible apply Xq); assumption) | (with_reducible first | apply Xa | (first | apply xi | apply xp | apply xP); omega | apply Xe | refine Xg (by assumption) ?_) | refine Xo (by assumption) ?_ | refine x_0 (by first | assumption | rfl) ?_ | refine x_1 (by first | assumption | rfl) ?_ | refine Or.inl ⟨rfl, ?_⟩ | (split <;> (first | (rename_i u h; clear u) | rename_i h) <;> (try rewrite [h]) <;> (first | replace h := dt h | replace h := df h | replace h := Nt h | replace h := Nf h | skip) <;> (try dsimp only at h) <;> (first | contradiction | (exfalso; omega) | skip)) | (refine Or.inl ⟨_, by assumption, ?_⟩; first | rintro _ rfl | skip))
    all_goals (conv => whnf)
    all_goals (clear hname hx)
    all_goals simp_all [one]
  by_cases h2 : op = sInput
  · subst h2
    rw [show namedOp sInput = true from rfl, show decide (sInput = sScale) = false from rfl, show decide (sInput = sPower) = false from rfl, show decide (sInput = sConst) = false from rfl]
    refine vcall_of TOK_gbare HM Go.Proofs.Tryd.func20 rfl (by decide +kernel) (by decide +kernel) rfl ?_
    repeat' ((conv => whnf); first | ((with_reducible apply Xq); assumption) | (with_reducible first | apply Xa | (first | apply xi | apply xp | apply xP); omega | apply Xe | refine Xg (by assumption) ?_) | refine Xo (by assumption) ?_ | refine x_0 (by first | assumption | rfl) ?_ | refine x_1 (by first | assumption | rfl) ?_ | refine Or.inl ⟨rfl, ?_⟩ | (split <;> (first | (rename_i u h; clear u) | rename_i h) <;> (try rewrite [h]) <;> (first | replace h := dt h | replace h := df h | replace h := Nt h | replace h := Nf h | skip) <;> (try dsimp only at h) <;> (first | contradiction | (exfalso; omega) | skip)) | (refine Or.inl ⟨_, by assumption, ?_⟩; first | rintro _ rfl | skip))
    all_goals (conv => whnf)
    all_goals (clear hname hx)
    all_goals simp_all [one]
  by_cases h3 : op = sScale
  · subst h3
    rw [show namedOp sScale = false from rfl, show decide (sScale = sScale) = true from rfl, show decide (sScale = sPower) = false from rfl, show decide (sScale = sConst) = false from rfl]
    refine vcall_of TOK_gbare HM Go.Proofs.Tryd.func20 rfl (by decide +kernel) (by decide +kernel) rfl ?_
    repeat' ((conv => whnf); first | ((with_reducible apply Xq); assumption) | (with_reducible first | apply Xa | (first | apply xi | apply xp | apply xP); omega | apply Xe | refine Xg (by assumption) ?_) | refine Xo (by assumption) ?_ | refine x_0 (by first | assumption | rfl) ?_ | refine x_1 (by first | assumption | rfl) ?_ | refine Or.inl ⟨rfl, ?_⟩ | (split <;> (first | (rename_i u h; clear u) | rename_i h) <;> (try rewrite [h]) <;> (first | replace h := dt h | replace h := df h | replace h := Nt h | replace h := Nf h | skip) <;> (try dsimp only at h) <;> (first | contradiction | (exfalso; omega) | skip)) | (refine Or.inl ⟨_, by assumption, ?_⟩; first | rintro _ rfl | skip))
    all_goals (conv => whnf)
    all_goals (clear hname hx)
    all_goals simp_all [one]
  by_cases h4 : op = sPower
  · subst h4
    rw [show namedOp sPower = false from rfl, show decide (sPower = sScale) = false from rfl, show decide (sPower = sPower) = true from rfl, show decide (sPower = sConst) = false from rfl]
    refine vcall_of TOK_gbare HM Go.Proofs.Tryd.func20 rfl (by decide +kernel) (by decide +kernel) rfl ?_
    repeat' ((conv => whnf); first | ((with_reducible apply Xq); assumption) | (with_reducible first | apply Xa | (first | apply xi | apply xp | apply xP); omega | apply Xe | refine Xg (by assumption) ?_) | refine Xo (by assumption) ?_ | refine x_0 (by first | assumption | rfl) ?_ | refine x_1 (by first | assumption | rfl) ?_ | refine Or.inl ⟨rfl, ?_⟩ | (split <;> (first | (rename_i u h; clear u) | rename_i h) <;> (try rewrite [h]) <;> (first | replace h := dt h | replace h := df h | replace h := Nt h | replace h := Nf h | skip) <;> (try dsimp only at h) <;> (first | contradiction | (exfalso; omega) | skip)) | (refine Or.inl ⟨_, by assumption, ?_⟩; first | rintro _ rfl | skip))
    all_goals (conv => whnf)
    all_goals (clear hname hx)
    all_goals simp_all [one]
  by_cases h5 : op = sConst
  · subst h5
    rw [show namedOp sConst = false from rfl, show decide (sConst = sScale) = false from rfl, show decide (sConst = sPower) = false from rfl, show decide (sConst = sConst) = true from rfl]
    refine vcall_of TOK_gbare HM Go.Proofs.Tryd.func20 rfl (by decide +kernel) (by decide +kernel) rfl ?_
    repeat' ((conv => whnf); first | ((with_reducible apply Xq); assumption) | (with_reducible first | apply Xa | (first | apply xi | apply xp | apply xP); omega | apply Xe | refine Xg (by assumption) ?_) | refine Xo (by assumption) ?_ | refine x_0 (by first | assumption | rfl) ?_ | refine x_1 (by first | assumption | rfl) ?_ | refine Or.inl ⟨rfl, ?_⟩ | (split <;> (first | (rename_i u h; clear u) | rename_i h) <;> (try rewrite [h]) <;> (first | replace h := dt h | replace h := df h | replace h := Nt h | replace h := Nf h | skip) <;> (try dsimp only at h) <;> (first | contradiction | (exfalso; omega) | skip)) | (refine Or.inl ⟨_, by assumption, ?_⟩; first | rintro _ rfl | skip))
    all_goals (conv => whnf)
    all_goals (clear hname hx)
    all_goals simp_all [one]
  rw [show namedOp op = false by rw [namedOp, decide_eq_false h1, decide_eq_false h2]; rfl, decide_eq_false h3, decide_eq_false h4, decide_eq_false h5]
  refine vcall_of TOK_gbare HM Go.Proofs.Tryd.func20 rfl (by decide +kernel) (by decide +kernel) rfl ?_
  repeat' ((conv => whnf); first | ((with_reducible apply Xq); assumption) | (with_reducible first | apply Xa | (first | apply xi | apply xp | apply xP); omega | apply Xe | refine Xg (by assumption) ?_) | refine Xo (by assumption) ?_ | refine x_0 (by first | assumption | rfl) ?_ | refine x_1 (by first | assumption | rfl) ?_ | refine Or.inl ⟨rfl, ?_⟩ | (split <;> (first | (rename_i u h; clear u) | rename_i h) <;> (try rewrite [h]) <;> (first | replace h := dt h | replace h := df h | replace h := Nt h | replace h := Nf h | skip) <;> (try dsimp only at h) <;> (first | contradiction | (exfalso; omega) | skip)) | (refine Or.inl ⟨_, by assumption, ?_⟩; first | rintro _ rfl | skip))
  all_goals (conv => whnf)
  all_goals (clear hname hx)
  all_goals simp_all [one]
end Go.V
namespace Go.V
open Go.N
set_option maxRecDepth 20000
def T_gof : Tab := [(39, ⟨.strc [(0, 1, false), (1, 1, false), (2, 1, false), (3, 1, false), (4, 1, false), (5, 1, false), (6, 1, false), (7, 1, false)], 8, 120, (.agg #[(.string .empty), (.int .i64 0), (.int .i64 0), (.string .empty), (.slice none 0 0), (.string .empty), (.int .i64 0), (.slice none 0 0)]), [0, 0, 0, 0, 1, 0, 0, 1]⟩), (9, ⟨.str, 1, 16, (.string .empty), [0]⟩), (25, ⟨.slice 3, 1, 24, (.slice none 0 0), [1]⟩), (37, ⟨.slice 9, 1, 24, (.slice none 0 0), [1]⟩), (3, ⟨.int .i64, 1, 8, (.int .i64 0), [0]⟩), (4, ⟨.bool, 1, 1, (.bool false), [0]⟩)]
theorem TOK_gof : TOK Go.Proofs.Tryd.prog T_gof := ⟨⟨info_of Go.Proofs.Tryd.type39 rfl, by decide +kernel, by decide +kernel⟩, ⟨⟨info_of Go.Proofs.Tryd.type9 rfl, by decide +kernel, by decide +kernel⟩, ⟨⟨info_of Go.Proofs.Tryd.type25 rfl, by decide +kernel, by decide +kernel⟩, ⟨⟨info_of Go.Proofs.Tryd.type37 rfl, by decide +kernel, by decide +kernel⟩, ⟨⟨info_of Go.Proofs.Tryd.type3 rfl, by decide +kernel, by decide +kernel⟩, ⟨⟨info_of Go.Proofs.Tryd.type4 rfl, by decide +kernel, by decide +kernel⟩, trivial⟩⟩⟩⟩⟩⟩
def T_gof1 : Tab := [(9, ⟨.str, 1, 16, (.string .empty), [0]⟩), (4, ⟨.bool, 1, 1, (.bool false), [0]⟩)]
theorem TOK_gof1 : TOK Go.Proofs.Tryd.prog T_gof1 := ⟨⟨info_of Go.Proofs.Tryd.type9 rfl, by decide +kernel, by decide +kernel⟩, ⟨⟨info_of Go.Proofs.Tryd.type4 rfl, by decide +kernel, by decide +kernel⟩, trivial⟩⟩
theorem c_gof1 (s : ByteArray) (hs : s.size < 190000) : VCall Go.Proofs.Tryd.prog GL 28 [.str s] (fun x => x = .bool (!ratOK s)) := by
  have hr := c_RRight s hs
  refine vcall_of TOK_gof1 HM Go.Proofs.Tryd.func28 rfl (by decide +kernel) (by decide +kernel) rfl ?_
  repeat' ((conv => whnf); first | ((with_reducible apply Xq); assumption) | (with_reducible first | apply Xa | (first | apply xi | apply xp | apply xP); omega | apply Xe | refine Xg (by assumption) ?_) | refine Xo (by assumption) ?_ | refine x_0 (by first | assumption | rfl) ?_ | refine x_1 (by first | assumption | rfl) ?_ | refine Or.inl ⟨rfl, ?_⟩ | (split <;> (first | (rename_i u h; clear u) | rename_i h) <;> (try rewrite [h]) <;> (first | replace h := dt h | replace h := df h | replace h := Nt h | replace h := Nf h | skip) <;> (try dsimp only at h) <;> (first | contradiction | (exfalso; omega) | skip)) | (refine Or.inl ⟨_, by assumption, ?_⟩; first | rintro _ rfl | skip))
  conv => whnf
  rfl
set_option maxHeartbeats 4000000 in
theorem c_gof (x : Nd) (a b : List Int) (hx : x.Sm) (ha : a.length ≤ 1000) (hb : b.length ≤ 1000) :
    VCall Go.Proofs.Tryd.prog GL 21 [.agg x.cells, .ro 1 (rowZ a), .ro 1 (rowZ b)] (fun y => y = .tup [.ro 1 (rowZ (ofZ x a b).1), .bool (ofZ x a b).2]) := by
  obtain ⟨op, na, nb, name, shape, k, n, data⟩ := x
  have hsz := c_shape_Size GL shape (Nat.lt_of_le_of_lt hx.shape (by decide))
  have hsza := c_shape_Size GL a (by omega)
  have hsame := c_shape_Same GL a b (by omega) (by omega)
  have hrk := c_RRight k (Nat.lt_of_le_of_lt hx.k (by decide))
  have hcf := c_ContainsFuncS GL 28 data (fun d => !ratOK d) (Nat.lt_of_le_of_lt hx.data (by decide)) (fun d hd => c_gof1 d (Nat.lt_of_le_of_lt (hx.each d hd) (by decide)))
  have hla : (rowZ a).length = a.length := rowZ_length a
  have hlb : (rowZ b).length = b.length := rowZ_length b
  have hld : (rowS data).length = data.length := rowS_length data
  refine VCall.taken ?_
  rcases opc_cases op with ⟨o, rfl⟩ | hn
  · cases o
    case const =>
      rw [show ofZ ⟨Opc.str .const, na, nb, name, shape, k, n, data⟩ a b = (shape, decide ((data.length : Int) = sizeZ shape) && !(data.any fun d => !ratOK d)) from rfl]
      rw [← rowS_length]
      refine vcall_of TOK_gof HM Go.Proofs.Tryd.func21 rfl (by decide +kernel) (by decide +kernel) rfl ?_
      repeat' ((conv => whnf); first | ((with_reducible apply Xq); assumption) | (with_reducible first | apply Xa | (first | apply xi | apply xp | apply xP); omega | apply Xe | refine Xg (by assumption) ?_) | refine Xo (by assumption) ?_ | refine x_0 (by first | assumption | rfl) ?_ | refine x_1 (by first | assumption | rfl) ?_ | refine Or.inl ⟨rfl, ?_⟩ | (split <;> (first | (rename_i u h; clear u) | rename_i h) <;> (try rewrite [h]) <;> (first | replace h := dt h | replace h := df h | replace h := Nt h | replace h := Nf h | skip) <;> (try dsimp only at h) <;> (first | contradiction | (exfalso; omega) | skip)) | (refine Or.inl ⟨_, by assumption, ?_⟩; first | rintro _ rfl | skip))
      refine ⟨by decide +kernel, [0, 1, 0, 4, 12, 0, 32, 96, 252, 508, 1020, 2044, 4092, 8188, 16380, 8191, 65535], by decide +kernel, ?_⟩
      repeat' ((conv => whnf); first | ((with_reducible apply Xq); assumption) | (with_reducible first | apply Xa | (first | apply xi | apply xp | apply xP); omega | apply Xe | refine Xg (by assumption) ?_) | refine Xo (by assumption) ?_ | refine x_0 (by first | assumption | rfl) ?_ | refine x_1 (by first | assumption | rfl) ?_ | refine Or.inl ⟨rfl, ?_⟩ | (split <;> (first | (rename_i u h; clear u) | rename_i h) <;> (try rewrite [h]) <;> (first | replace h := dt h | replace h := df h | replace h := Nt h | replace h := Nf h | skip) <;> (try dsimp only at h) <;> (first | contradiction | (exfalso; omega) | skip)) | (refine Or.inl ⟨_, by assumption, ?_⟩; first | rintro _ rfl | skip))
      all_goals (conv => whnf)
      all_goals first | exact ⟨_, roTo2 rfl rfl, rfl⟩ | exact ⟨_, roTo2 ⟨1, rfl⟩ rfl, rfl⟩ | exact ⟨_, roTo2 rfl (congrArg AV.bool (by simp [h])), rfl⟩
    case add =>
      refine vcall_of TOK_gof HM Go.Proofs.Tryd.func21 rfl (by decide +kernel) (by decide +kernel) rfl ?_
      repeat' ((conv => whnf); first | ((with_reducible apply Xq); assumption) | (with_reducible first | apply Xa | (first | apply xi | apply xp | apply xP); omega | apply Xe | refine Xg (by assumption) ?_) | refine Xo (by assumption) ?_ | refine x_0 (by first | assumption | rfl) ?_ | refine x_1 (by first | assumption | rfl) ?_ | refine Or.inl ⟨rfl, ?_⟩ | (split <;> (first | (rename_i u h; clear u) | rename_i h) <;> (try rewrite [h]) <;> (first | replace h := dt h | replace h := df h | replace h := Nt h | replace h := Nf h | skip) <;> (try dsimp only at h) <;> (first | contradiction | (exfalso; omega) | skip)) | (refine Or.inl ⟨_, by assumption, ?_⟩; first | rintro _ rfl | skip))
      all_goals (conv => whnf)
      all_goals first | exact ⟨_, roTo2 rfl rfl, rfl⟩ | exact ⟨_, roTo2 ⟨1, rfl⟩ rfl, rfl⟩ | exact ⟨_, roTo2 rfl (congrArg AV.bool (by simp [h])), rfl⟩
    case sub =>
      refine vcall_of TOK_gof HM Go.Proofs.Tryd.func21 rfl (by decide +kernel) (by decide +kernel) rfl ?_
      repeat' ((conv => whnf); first | ((with_reducible apply Xq); assumption) | (with_reducible first | apply Xa | (first | apply xi | apply xp | apply xP); omega | apply Xe | refine Xg (by assumption) ?_) | refine Xo (by assumption) ?_ | refine x_0 (by first | assumption | rfl) ?_ | refine x_1 (by first | assumption | rfl) ?_ | refine Or.inl ⟨rfl, ?_⟩ | (split <;> (first | (rename_i u h; clear u) | rename_i h) <;> (try rewrite [h]) <;> (first | replace h := dt h | replace h := df h | replace h := Nt h | replace h := Nf h | skip) <;> (try dsimp only at h) <;> (first | contradiction | (exfalso; omega) | skip)) | (refine Or.inl ⟨_, by assumption, ?_⟩; first | rintro _ rfl | skip))
      all_goals (conv => whnf)
      all_goals first | exact ⟨_, roTo2 rfl rfl, rfl⟩ | exact ⟨_, roTo2 ⟨1, rfl⟩ rfl, rfl⟩ | exact ⟨_, roTo2 rfl (congrArg AV.bool (by simp [h])), rfl⟩
    case mul =>
      refine vcall_of TOK_gof HM Go.Proofs.Tryd.func21 rfl (by decide +kernel) (by decide +kernel) rfl ?_
      repeat' ((conv => whnf); first | ((with_reducible apply Xq); assumption) | (with_reducible first | apply Xa | (first | apply xi | apply xp | apply xP); omega | apply Xe | refine Xg (by assumption) ?_) | refine Xo (by assumption) ?_ | refine x_0 (by first | assumption | rfl) ?_ | refine x_1 (by first | assumption | rfl) ?_ | refine Or.inl ⟨rfl, ?_⟩ | (split <;> (first | (rename_i u h; clear u) | rename_i h) <;> (try rewrite [h]) <;> (first | replace h := dt h | replace h := df h | replace h := Nt h | replace h := Nf h | skip) <;> (try dsimp only at h) <;> (first | contradiction | (exfalso; omega) | skip)) | (refine Or.inl ⟨_, by assumption, ?_⟩; first | rintro _ rfl | skip))
      all_goals (conv => whnf)
      all_goals first | exact ⟨_, roTo2 rfl rfl, rfl⟩ | exact ⟨_, roTo2 ⟨1, rfl⟩ rfl, rfl⟩ | exact ⟨_, roTo2 rfl (congrArg AV.bool (by simp [h])), rfl⟩
    case max =>
      refine vcall_of TOK_gof HM Go.Proofs.Tryd.func21 rfl (by decide +kernel) (by decide +kernel) rfl ?_
      repeat' ((conv => whnf); first | ((with_reducible apply Xq); assumption) | (with_reducible first | apply Xa | (first | apply xi | apply xp | apply xP); omega | apply Xe | refine Xg (by assumption) ?_) | refine Xo (by assumption) ?_ | refine x_0 (by first | assumption | rfl) ?_ | refine x_1 (by first | assumption | rfl) ?_ | refine Or.inl ⟨rfl, ?_⟩ | (split <;> (first | (rename_i u h; clear u) | rename_i h) <;> (try rewrite [h]) <;> (first | replace h := dt h | replace h := df h | replace h := Nt h | replace h := Nf h | skip) <;> (try dsimp only at h) <;> (first | contradiction | (exfalso; omega) | skip)) | (refine Or.inl ⟨_, by assumption, ?_⟩; first | rintro _ rfl | skip))
      all_goals (conv => whnf)
      all_goals first | exact ⟨_, roTo2 rfl rfl, rfl⟩ | exact ⟨_, roTo2 ⟨1, rfl⟩ rfl, rfl⟩ | exact ⟨_, roTo2 rfl (congrArg AV.bool (by simp [h])), rfl⟩
    case above =>
      refine vcall_of TOK_gof HM Go.Proofs.Tryd.func21 rfl (by decide +kernel) (by decide +kernel) rfl ?_
      repeat' ((conv => whnf); first | ((with_reducible apply Xq); assumption) | (with_reducible first | apply Xa | (first | apply xi | apply xp | apply xP); omega | apply Xe | refine Xg (by assumption) ?_) | refine Xo (by assumption) ?_ | refine x_0 (by first | assumption | rfl) ?_ | refine x_1 (by first | assumption | rfl) ?_ | refine Or.inl ⟨rfl, ?_⟩ | (split <;> (first | (rename_i u h; clear u) | rename_i h) <;> (try rewrite [h]) <;> (first | replace h := dt h | replace h := df h | replace h := Nt h | replace h := Nf h | skip) <;> (try dsimp only at h) <;> (first | contradiction | (exfalso; omega) | skip)) | (refine Or.inl ⟨_, by assumption, ?_⟩; first | rintro _ rfl | skip))
      all_goals (conv => whnf)
      all_goals first | exact ⟨_, roTo2 rfl rfl, rfl⟩ | exact ⟨_, roTo2 ⟨1, rfl⟩ rfl, rfl⟩ | exact ⟨_, roTo2 rfl (congrArg AV.bool (by simp [h])), rfl⟩
    case relu =>
      refine vcall_of TOK_gof HM Go.Proofs.Tryd.func21 rfl (by decide +kernel) (by decide +kernel) rfl ?_
      repeat' ((conv => whnf); first | ((with_reducible apply Xq); assumption) | (with_reducible first | apply Xa | (first | apply xi | apply xp | apply xP); omega | apply Xe | refine Xg (by assumption) ?_) | refine Xo (by assumption) ?_ | refine x_0 (by first | assumption | rfl) ?_ | refine x_1 (by first | assumption | rfl) ?_ | refine Or.inl ⟨rfl, ?_⟩ | (split <;> (first | (rename_i u h; clear u) | rename_i h) <;> (try rewrite [h]) <;> (first | replace h := dt h | replace h := df h | replace h := Nt h | replace h := Nf h | skip) <;> (try dsimp only at h) <;> (first | contradiction | (exfalso; omega) | skip)) | (refine Or.inl ⟨_, by assumption, ?_⟩; first | rintro _ rfl | skip))
      all_goals (conv => whnf)
      all_goals first | exact ⟨_, roTo2 rfl rfl, rfl⟩ | exact ⟨_, roTo2 ⟨1, rfl⟩ rfl, rfl⟩ | exact ⟨_, roTo2 rfl (congrArg AV.bool (by simp [h])), rfl⟩
    case abs =>
      refine vcall_of TOK_gof HM Go.Proofs.Tryd.func21 rfl (by decide +kernel) (by decide +kernel) rfl ?_
      repeat' ((conv => whnf); first | ((with_reducible apply Xq); assumption) | (with_reducible first | apply Xa | (first | apply xi | apply xp | apply xP); omega | apply Xe | refine Xg (by assumption) ?_) | refine Xo (by assumption) ?_ | refine x_0 (by first | assumption | rfl) ?_ | refine x_1 (by first | assumption | rfl) ?_ | refine Or.inl ⟨rfl, ?_⟩ | (split <;> (first | (rename_i u h; clear u) | rename_i h) <;> (try rewrite [h]) <;> (first | replace h := dt h | replace h := df h | replace h := Nt h | replace h := Nf h | skip) <;> (try dsimp only at h) <;> (first | contradiction | (exfalso; omega) | skip)) | (refine Or.inl ⟨_, by assumption, ?_⟩; first | rintro _ rfl | skip))
      all_goals (conv => whnf)
      all_goals first | exact ⟨_, roTo2 rfl rfl, rfl⟩ | exact ⟨_, roTo2 ⟨1, rfl⟩ rfl, rfl⟩ | exact ⟨_, roTo2 rfl (congrArg AV.bool (by simp [h])), rfl⟩
    case step =>
      refine vcall_of TOK_gof HM Go.Proofs.Tryd.func21 rfl (by decide +kernel) (by decide +kernel) rfl ?_
      repeat' ((conv => whnf); first | ((with_reducible apply Xq); assumption) | (with_reducible first | apply Xa | (first | apply xi | apply xp | apply xP); omega | apply Xe | refine Xg (by assumption) ?_) | refine Xo (by assumption) ?_ | refine x_0 (by first | assumption | rfl) ?_ | refine x_1 (by first | assumption | rfl) ?_ | refine Or.inl ⟨rfl, ?_⟩ | (split <;> (first | (rename_i u h; clear u) | rename_i h) <;> (try rewrite [h]) <;> (first | replace h := dt h | replace h := df h | replace h := Nt h | replace h := Nf h | skip) <;> (try dsimp only at h) <;> (first | contradiction | (exfalso; omega) | skip)) | (refine Or.inl ⟨_, by assumption, ?_⟩; first | rintro _ rfl | skip))
      all_goals (conv => whnf)
      all_goals first | exact ⟨_, roTo2 rfl rfl, rfl⟩ | exact ⟨_, roTo2 ⟨1, rfl⟩ rfl, rfl⟩ | exact ⟨_, roTo2 rfl (congrArg AV.bool (by simp [h])), rfl⟩
    case sign =>
      refine vcall_of TOK_gof HM Go.Proofs.Tryd.func21 rfl (by decide +kernel) (by decide +kernel) rfl ?_
      repeat' ((conv => whnf); first | ((with_reducible apply Xq); assumption) | (with_reducible first | apply Xa | (first | apply xi | apply xp | apply xP); omega | apply Xe | refine Xg (by assumption) ?_) | refine Xo (by assumption) ?_ | refine x_0 (by first | assumption | rfl) ?_ | refine x_1 (by first | assumption | rfl) ?_ | refine Or.inl ⟨rfl, ?_⟩ | (split <;> (first | (rename_i u h; clear u) | rename_i h) <;> (try rewrite [h]) <;> (first | replace h := dt h | replace h := df h | replace h := Nt h | replace h := Nf h | skip) <;> (try dsimp only at h) <;> (first | contradiction | (exfalso; omega) | skip)) | (refine Or.inl ⟨_, by assumption, ?_⟩; first | rintro _ rfl | skip))
      all_goals (conv => whnf)
      all_goals first | exact ⟨_, roTo2 rfl rfl, rfl⟩ | exact ⟨_, roTo2 ⟨1, rfl⟩ rfl, rfl⟩ | exact ⟨_, roTo2 rfl (congrArg AV.bool (by simp [h])), rfl⟩
    case scale =>
      refine vcall_of TOK_gof HM Go.Proofs.Tryd.func21 rfl (by decide +kernel) (by decide +kernel) rfl ?_
      repeat' ((conv => whnf); first | ((with_reducible apply Xq); assumption) | (with_reducible first | apply Xa | (first | apply xi | apply xp | apply xP); omega | apply Xe | refine Xg (by assumption) ?_) | refine Xo (by assumption) ?_ | refine x_0 (by first | assumption | rfl) ?_ | refine x_1 (by first | assumption | rfl) ?_ | refine Or.inl ⟨rfl, ?_⟩ | (split <;> (first | (rename_i u h; clear u) | rename_i h) <;> (try rewrite [h]) <;> (first | replace h := dt h | replace h := df h | replace h := Nt h | replace h := Nf h | skip) <;> (try dsimp only at h) <;> (first | contradiction | (exfalso; omega) | skip)) | (refine Or.inl ⟨_, by assumption, ?_⟩; first | rintro _ rfl | skip))
      all_goals (conv => whnf)
      all_goals first | exact ⟨_, roTo2 rfl rfl, rfl⟩ | exact ⟨_, roTo2 ⟨1, rfl⟩ rfl, rfl⟩ | exact ⟨_, roTo2 rfl (congrArg AV.bool (by simp [h])), rfl⟩
    case sum =>
      refine vcall_of TOK_gof HM Go.Proofs.Tryd.func21 rfl (by decide +kernel) (by decide +kernel) rfl ?_
      repeat' ((conv => whnf); first | ((with_reducible apply Xq); assumption) | (with_reducible first | apply Xa | (first | apply xi | apply xp | apply xP); omega | apply Xe | refine Xg (by assumption) ?_) | refine Xo (by assumption) ?_ | refine x_0 (by first | assumption | rfl) ?_ | refine x_1 (by first | assumption | rfl) ?_ | refine Or.inl ⟨rfl, ?_⟩ | (split <;> (first | (rename_i u h; clear u) | rename_i h) <;> (try rewrite [h]) <;> (first | replace h := dt h | replace h := df h | replace h := Nt h | replace h := Nf h | skip) <;> (try dsimp only at h) <;> (first | contradiction | (exfalso; omega) | skip)) | (refine Or.inl ⟨_, by assumption, ?_⟩; first | rintro _ rfl | skip))
      all_goals (conv => whnf)
      all_goals first | exact ⟨_, roTo2 rfl rfl, rfl⟩ | exact ⟨_, roTo2 ⟨1, rfl⟩ rfl, rfl⟩ | exact ⟨_, roTo2 rfl (congrArg AV.bool (by simp [h])), rfl⟩
    case param =>
      refine vcall_of TOK_gof HM Go.Proofs.Tryd.func21 rfl (by decide +kernel) (by decide +kernel) rfl ?_
      repeat' ((conv => whnf); first | ((with_reducible apply Xq); assumption) | (with_reducible first | apply Xa | (first | apply xi | apply xp | apply xP); omega | apply Xe | refine Xg (by assumption) ?_) | refine Xo (by assumption) ?_ | refine x_0 (by first | assumption | rfl) ?_ | refine x_1 (by first | assumption | rfl) ?_ | refine Or.inl ⟨rfl, ?_⟩ | (split <;> (first | (rename_i u h; clear u) | rename_i h) <;> (try rewrite [h]) <;> (first | replace h := dt h | replace h := df h | replace h := Nt h | replace h := Nf h | skip) <;> (try dsimp only at h) <;> (first | contradiction | (exfalso; omega) | skip)) | (refine Or.inl ⟨_, by assumption, ?_⟩; first | rintro _ rfl | skip))
      all_goals (conv => whnf)
      all_goals first | exact ⟨_, roTo2 rfl rfl, rfl⟩ | exact ⟨_, roTo2 ⟨1, rfl⟩ rfl, rfl⟩ | exact ⟨_, roTo2 rfl (congrArg AV.bool (by simp [h])), rfl⟩
    case input =>
      refine vcall_of TOK_gof HM Go.Proofs.Tryd.func21 rfl (by decide +kernel) (by decide +kernel) rfl ?_
      repeat' ((conv => whnf); first | ((with_reducible apply Xq); assumption) | (with_reducible first | apply Xa | (first | apply xi | apply xp | apply xP); omega | apply Xe | refine Xg (by assumption) ?_) | refine Xo (by assumption) ?_ | refine x_0 (by first | assumption | rfl) ?_ | refine x_1 (by first | assumption | rfl) ?_ | refine Or.inl ⟨rfl, ?_⟩ | (split <;> (first | (rename_i u h; clear u) | rename_i h) <;> (try rewrite [h]) <;> (first | replace h := dt h | replace h := df h | replace h := Nt h | replace h := Nf h | skip) <;> (try dsimp only at h) <;> (first | contradiction | (exfalso; omega) | skip)) | (refine Or.inl ⟨_, by assumption, ?_⟩; first | rintro _ rfl | skip))
      all_goals (conv => whnf)
      all_goals first | exact ⟨_, roTo2 rfl rfl, rfl⟩ | exact ⟨_, roTo2 ⟨1, rfl⟩ rfl, rfl⟩ | exact ⟨_, roTo2 rfl (congrArg AV.bool (by simp [h])), rfl⟩
    case power =>
      rw [show ofZ ⟨Opc.str .power, na, nb, name, shape, k, n, data⟩ a b = (a, decide (0 ≤ n) && decide (n ≤ 6)) from rfl]
      refine vcall_of TOK_gof HM Go.Proofs.Tryd.func21 rfl (by decide +kernel) (by decide +kernel) rfl ?_
      repeat' ((conv => whnf); first | ((with_reducible apply Xq); assumption) | (with_reducible first | apply Xa | (first | apply xi | apply xp | apply xP); omega | apply Xe | refine Xg (by assumption) ?_) | refine Xo (by assumption) ?_ | refine x_0 (by first | assumption | rfl) ?_ | refine x_1 (by first | assumption | rfl) ?_ | refine Or.inl ⟨rfl, ?_⟩ | (split <;> (first | (rename_i u h; clear u) | rename_i h) <;> (try rewrite [h]) <;> (first | replace h := dt h | replace h := df h | replace h := Nt h | replace h := Nf h | skip) <;> (try dsimp only at h) <;> (first | contradiction | (exfalso; omega) | skip)) | (refine Or.inl ⟨_, by assumption, ?_⟩; first | rintro _ rfl | skip))
      refine ⟨by decide +kernel, [0, 0, 2, 6, 14, 30, 62, 126, 254, 31, 1023], by decide +kernel, ?_⟩
      repeat' ((conv => whnf); first | ((with_reducible apply Xq); assumption) | (with_reducible first | apply Xa | (first | apply xi | apply xp | apply xP); omega | apply Xe | refine Xg (by assumption) ?_) | refine Xo (by assumption) ?_ | refine x_0 (by first | assumption | rfl) ?_ | refine x_1 (by first | assumption | rfl) ?_ | refine Or.inl ⟨rfl, ?_⟩ | (split <;> (first | (rename_i u h; clear u) | rename_i h) <;> (try rewrite [h]) <;> (first | replace h := dt h | replace h := df h | replace h := Nt h | replace h := Nf h | skip) <;> (try dsimp only at h) <;> (first | contradiction | (exfalso; omega) | skip)) | (refine Or.inl ⟨_, by assumption, ?_⟩; first | rintro _ rfl | skip))
      all_goals (conv => whnf)
      all_goals first | exact ⟨_, roTo2 rfl rfl, rfl⟩ | exact ⟨_, roTo2 ⟨1, rfl⟩ rfl, rfl⟩ | exact ⟨_, roTo2 rfl (congrArg AV.bool (by simp [h])), rfl⟩
    case reshape =>
      refine vcall_of TOK_gof HM Go.Proofs.Tryd.func21 rfl (by decide +kernel) (by decide +kernel) rfl ?_
      repeat' ((conv => whnf); first | ((with_reducible apply Xq); assumption) | (with_reducible first | apply Xa | (first | apply xi | apply xp | apply xP); omega | apply Xe | refine Xg (by assumption) ?_) | refine Xo (by assumption) ?_ | refine x_0 (by first | assumption | rfl) ?_ | refine x_1 (by first | assumption | rfl) ?_ | refine Or.inl ⟨rfl, ?_⟩ | (split <;> (first | (rename_i u h; clear u) | rename_i h) <;> (try rewrite [h]) <;> (first | replace h := dt h | replace h := df h | replace h := Nt h | replace h := Nf h | skip) <;> (try dsimp only at h) <;> (first | contradiction | (exfalso; omega) | skip)) | (refine Or.inl ⟨_, by assumption, ?_⟩; first | rintro _ rfl | skip))
      refine ⟨by decide +kernel, [0, 1, 0, 4, 12, 0, 60, 124, 127, 511], by decide +kernel, ?_⟩
      repeat' ((conv => whnf); first | ((with_reducible apply Xq); assumption) | (with_reducible first | apply Xa | (first | apply xi | apply xp | apply xP); omega | apply Xe | refine Xg (by assumption) ?_) | refine Xo (by assumption) ?_ | refine x_0 (by first | assumption | rfl) ?_ | refine x_1 (by first | assumption | rfl) ?_ | refine Or.inl ⟨rfl, ?_⟩ | (split <;> (first | (rename_i u h; clear u) | rename_i h) <;> (try rewrite [h]) <;> (first | replace h := dt h | replace h := df h | replace h := Nt h | replace h := Nf h | skip) <;> (try dsimp only at h) <;> (first | contradiction | (exfalso; omega) | skip)) | (refine Or.inl ⟨_, by assumption, ?_⟩; first | rintro _ rfl | skip))
      all_goals (conv => whnf)
      all_goals first | exact ⟨_, roTo2 rfl rfl, rfl⟩ | exact ⟨_, roTo2 ⟨1, rfl⟩ rfl, rfl⟩ | exact ⟨_, roTo2 rfl (congrArg AV.bool (by simp [h])), rfl⟩
    case spread =>
      rw [show ofZ ⟨Opc.str .spread, na, nb, name, shape, k, n, data⟩ a b = (shape, decide ((a.length : Int) = 0)) from rfl]
      rw [← rowZ_length]
      refine vcall_of TOK_gof HM Go.Proofs.Tryd.func21 rfl (by decide +kernel) (by decide +kernel) rfl ?_
      repeat' ((conv => whnf); first | ((with_reducible apply Xq); assumption) | (with_reducible first | apply Xa | (first | apply xi | apply xp | apply xP); omega | apply Xe | refine Xg (by assumption) ?_) | refine Xo (by assumption) ?_ | refine x_0 (by first | assumption | rfl) ?_ | refine x_1 (by first | assumption | rfl) ?_ | refine Or.inl ⟨rfl, ?_⟩ | (split <;> (first | (rename_i u h; clear u) | rename_i h) <;> (try rewrite [h]) <;> (first | replace h := dt h | replace h := df h | replace h := Nt h | replace h := Nf h | skip) <;> (try dsimp only at h) <;> (first | contradiction | (exfalso; omega) | skip)) | (refine Or.inl ⟨_, by assumption, ?_⟩; first | rintro _ rfl | skip))
      all_goals (conv => whnf)
      all_goals first | exact ⟨_, roTo2 rfl rfl, rfl⟩ | exact ⟨_, roTo2 ⟨1, rfl⟩ rfl, rfl⟩ | exact ⟨_, roTo2 rfl (congrArg AV.bool (by simp [h])), rfl⟩
    case transpose =>
      by_cases h2 : a.length = 2
      · obtain ⟨p, q, rfl⟩ := two_of h2
        refine vcall_of TOK_gof HM Go.Proofs.Tryd.func21 rfl (by decide +kernel) (by decide +kernel) rfl ?_
        repeat' ((conv => whnf); first | ((with_reducible apply Xq); assumption) | (with_reducible first | apply Xa | (first | apply xi | apply xp | apply xP); omega | apply Xe | refine Xg (by assumption) ?_) | refine Xo (by assumption) ?_ | refine x_0 (by first | assumption | rfl) ?_ | refine x_1 (by first | assumption | rfl) ?_ | refine Or.inl ⟨rfl, ?_⟩ | (split <;> (first | (rename_i u h; clear u) | rename_i h) <;> (try rewrite [h]) <;> (first | replace h := dt h | replace h := df h | replace h := Nt h | replace h := Nf h | skip) <;> (try dsimp only at h) <;> (first | contradiction | (exfalso; omega) | skip)) | (refine Or.inl ⟨_, by assumption, ?_⟩; first | rintro _ rfl | skip))
        refine ⟨by decide +kernel, [0, 1, 3, 0, 8, 24, 63, 127, 255], by decide +kernel, ?_⟩
        repeat' ((conv => whnf); first | ((with_reducible apply Xq); assumption) | (with_reducible first | apply Xa | (first | apply xi | apply xp | apply xP); omega | apply Xe | refine Xg (by assumption) ?_) | refine Xo (by assumption) ?_ | refine x_0 (by first | assumption | rfl) ?_ | refine x_1 (by first | assumption | rfl) ?_ | refine Or.inl ⟨rfl, ?_⟩ | (split <;> (first | (rename_i u h; clear u) | rename_i h) <;> (try rewrite [h]) <;> (first | replace h := dt h | replace h := df h | replace h := Nt h | replace h := Nf h | skip) <;> (try dsimp only at h) <;> (first | contradiction | (exfalso; omega) | skip)) | (refine Or.inl ⟨_, by assumption, ?_⟩; first | rintro _ rfl | skip))
        all_goals (conv => whnf)
        all_goals first | exact ⟨_, roTo2 rfl rfl, rfl⟩ | exact ⟨_, roTo2 ⟨1, rfl⟩ rfl, rfl⟩ | exact ⟨_, roTo2 rfl (congrArg AV.bool (by simp [h])), rfl⟩
      · rw [show ofZ ⟨Opc.str .transpose, na, nb, name, shape, k, n, data⟩ a b = _ from transpose_not h2]
        refine vcall_of TOK_gof HM Go.Proofs.Tryd.func21 rfl (by decide +kernel) (by decide +kernel) rfl ?_
        repeat' ((conv => whnf); first | ((with_reducible apply Xq); assumption) | (with_reducible first | apply Xa | (first | apply xi | apply xp | apply xP); omega | apply Xe | refine Xg (by assumption) ?_) | refine Xo (by assumption) ?_ | refine x_0 (by first | assumption | rfl) ?_ | refine x_1 (by first | assumption | rfl) ?_ | refine Or.inl ⟨rfl, ?_⟩ | (split <;> (first | (rename_i u h; clear u) | rename_i h) <;> (try rewrite [h]) <;> (first | replace h := dt h | replace h := df h | replace h := Nt h | replace h := Nf h | skip) <;> (try dsimp only at h) <;> (first | contradiction | (exfalso; omega) | skip)) | (refine Or.inl ⟨_, by assumption, ?_⟩; first | rintro _ rfl | skip))
        all_goals (conv => whnf)
        all_goals first | exact ⟨_, roTo2 rfl rfl, rfl⟩ | exact ⟨_, roTo2 ⟨1, rfl⟩ rfl, rfl⟩ | exact ⟨_, roTo2 rfl (congrArg AV.bool (by simp [h])), rfl⟩
    case matmul =>
      by_cases h2 : a.length = 2 ∧ b.length = 2
      · obtain ⟨ha2, hb2⟩ := h2
        obtain ⟨p, q, rfl⟩ := two_of ha2
        obtain ⟨r, s, rfl⟩ := two_of hb2
        by_cases hqr : q = r
        · rw [show ofZ ⟨Opc.str .matmul, na, nb, name, shape, k, n, data⟩ [p, q] [r, s] = ([p, s], true) from if_pos hqr]
          refine vcall_of TOK_gof HM Go.Proofs.Tryd.func21 rfl (by decide +kernel) (by decide +kernel) rfl ?_
          repeat' ((conv => whnf); first | ((with_reducible apply Xq); assumption) | (with_reducible first | apply Xa | (first | apply xi | apply xp | apply xP); omega | apply Xe | refine Xg (by assumption) ?_) | refine Xo (by assumption) ?_ | refine x_0 (by first | assumption | rfl) ?_ | refine x_1 (by first | assumption | rfl) ?_ | refine Or.inl ⟨rfl, ?_⟩ | (split <;> (first | (rename_i u h; clear u) | rename_i h) <;> (try rewrite [h]) <;> (first | replace h := dt h | replace h := df h | replace h := Nt h | replace h := Nf h | skip) <;> (try dsimp only at h) <;> (first | contradiction | (exfalso; omega) | skip)) | (refine Or.inl ⟨_, by assumption, ?_⟩; first | rintro _ rfl | skip))
          refine ⟨by decide +kernel, [0, 1, 3, 7, 15, 31, 63, 127, 255, 511, 1023, 2047, 511, 4607, 12799, 32767, 65535], by decide +kernel, ?_⟩
          repeat' ((conv => whnf); first | ((with_reducible apply Xq); assumption) | (with_reducible first | apply Xa | (first | apply xi | apply xp | apply xP); omega | apply Xe | refine Xg (by assumption) ?_) | refine Xo (by assumption) ?_ | refine x_0 (by first | assumption | rfl) ?_ | refine x_1 (by first | assumption | rfl) ?_ | refine Or.inl ⟨rfl, ?_⟩ | (split <;> (first | (rename_i u h; clear u) | rename_i h) <;> (try rewrite [h]) <;> (first | replace h := dt h | replace h := df h | replace h := Nt h | replace h := Nf h | skip) <;> (try dsimp only at h) <;> (first | contradiction | (exfalso; omega) | skip)) | (refine Or.inl ⟨_, by assumption, ?_⟩; first | rintro _ rfl | skip))
          refine ⟨by decide +kernel, [0, 1, 3, 0, 8, 24, 63, 127, 255], by decide +kernel, ?_⟩
          repeat' ((conv => whnf); first | ((with_reducible apply Xq); assumption) | (with_reducible first | apply Xa | (first | apply xi | apply xp | apply xP); omega | apply Xe | refine Xg (by assumption) ?_) | refine Xo (by assumption) ?_ | refine x_0 (by first | assumption | rfl) ?_ | refine x_1 (by first | assumption | rfl) ?_ | refine Or.inl ⟨rfl, ?_⟩ | (split <;> (first | (rename_i u h; clear u) | rename_i h) <;> (try rewrite [h]) <;> (first | replace h := dt h | replace h := df h | replace h := Nt h | replace h := Nf h | skip) <;> (try dsimp only at h) <;> (first | contradiction | (exfalso; omega) | skip)) | (refine Or.inl ⟨_, by assumption, ?_⟩; first | rintro _ rfl | skip))
          all_goals (conv => whnf)
          all_goals first | exact ⟨_, roTo2 rfl rfl, rfl⟩ | exact ⟨_, roTo2 ⟨1, rfl⟩ rfl, rfl⟩ | exact ⟨_, roTo2 rfl (congrArg AV.bool (by simp [h])), rfl⟩
        · rw [show ofZ ⟨Opc.str .matmul, na, nb, name, shape, k, n, data⟩ [p, q] [r, s] = ([], false) from if_neg hqr]
          refine vcall_of TOK_gof HM Go.Proofs.Tryd.func21 rfl (by decide +kernel) (by decide +kernel) rfl ?_
          repeat' ((conv => whnf); first | ((with_reducible apply Xq); assumption) | (with_reducible first | apply Xa | (first | apply xi | apply xp | apply xP); omega | apply Xe | refine Xg (by assumption) ?_) | refine Xo (by assumption) ?_ | refine x_0 (by first | assumption | rfl) ?_ | refine x_1 (by first | assumption | rfl) ?_ | refine Or.inl ⟨rfl, ?_⟩ | (split <;> (first | (rename_i u h; clear u) | rename_i h) <;> (try rewrite [h]) <;> (first | replace h := dt h | replace h := df h | replace h := Nt h | replace h := Nf h | skip) <;> (try dsimp only at h) <;> (first | contradiction | (exfalso; omega) | skip)) | (refine Or.inl ⟨_, by assumption, ?_⟩; first | rintro _ rfl | skip))
          refine ⟨by decide +kernel, [0, 1, 3, 7, 15, 31, 63, 127, 255, 511, 1023, 2047, 511, 4607, 12799, 32767, 65535], by decide +kernel, ?_⟩
          repeat' ((conv => whnf); first | ((with_reducible apply Xq); assumption) | (with_reducible first | apply Xa | (first | apply xi | apply xp | apply xP); omega | apply Xe | refine Xg (by assumption) ?_) | refine Xo (by assumption) ?_ | refine x_0 (by first | assumption | rfl) ?_ | refine x_1 (by first | assumption | rfl) ?_ | refine Or.inl ⟨rfl, ?_⟩ | (split <;> (first | (rename_i u h; clear u) | rename_i h) <;> (try rewrite [h]) <;> (first | replace h := dt h | replace h := df h | replace h := Nt h | replace h := Nf h | skip) <;> (try dsimp only at h) <;> (first | contradiction | (exfalso; omega) | skip)) | (refine Or.inl ⟨_, by assumption, ?_⟩; first | rintro _ rfl | skip))
          all_goals (conv => whnf)
          all_goals first | exact ⟨_, roTo2 rfl rfl, rfl⟩ | exact ⟨_, roTo2 ⟨1, rfl⟩ rfl, rfl⟩ | exact ⟨_, roTo2 rfl (congrArg AV.bool (by simp [h])), rfl⟩
      · rw [show ofZ ⟨Opc.str .matmul, na, nb, name, shape, k, n, data⟩ a b = _ from matmul_not fun h => h2 ⟨h.1, h.2.1⟩]
        refine vcall_of TOK_gof HM Go.Proofs.Tryd.func21 rfl (by decide +kernel) (by decide +kernel) rfl ?_
        repeat' ((conv => whnf); first | ((with_reducible apply Xq); assumption) | (with_reducible first | apply Xa | (first | apply xi | apply xp | apply xP); omega | apply Xe | refine Xg (by assumption) ?_) | refine Xo (by assumption) ?_ | refine x_0 (by first | assumption | rfl) ?_ | refine x_1 (by first | assumption | rfl) ?_ | refine Or.inl ⟨rfl, ?_⟩ | (split <;> (first | (rename_i u h; clear u) | rename_i h) <;> (try rewrite [h]) <;> (first | replace h := dt h | replace h := df h | replace h := Nt h | replace h := Nf h | skip) <;> (try dsimp only at h) <;> (first | contradiction | (exfalso; omega) | skip)) | (refine Or.inl ⟨_, by assumption, ?_⟩; first | rintro _ rfl | skip))
        refine ⟨by decide +kernel, [0, 1, 3, 7, 15, 31, 63, 127, 255, 511, 1023, 2047, 511, 4607, 12799, 32767, 65535], by decide +kernel, ?_⟩
        repeat' ((conv => whnf); first | ((with_reducible apply Xq); assumption) | (with_reducible first | apply Xa | (first | apply xi | apply xp | apply xP); omega | apply Xe | refine Xg (by assumption) ?_) | refine Xo (by assumption) ?_ | refine x_0 (by first | assumption | rfl) ?_ | refine x_1 (by first | assumption | rfl) ?_ | refine Or.inl ⟨rfl, ?_⟩ | (split <;> (first | (rename_i u h; clear u) | rename_i h) <;> (try rewrite [h]) <;> (first | replace h := dt h | replace h := df h | replace h := Nt h | replace h := Nf h | skip) <;> (try dsimp only at h) <;> (first | contradiction | (exfalso; omega) | skip)) | (refine Or.inl ⟨_, by assumption, ?_⟩; first | rintro _ rfl | skip))
        all_goals (conv => whnf)
        all_goals first | exact ⟨_, roTo2 rfl rfl, rfl⟩ | exact ⟨_, roTo2 ⟨1, rfl⟩ rfl, rfl⟩ | exact ⟨_, roTo2 rfl (congrArg AV.bool (by simp [h])), rfl⟩
  · rw [ofZ_none hn]
    have kk := opc_none hn
    have k0 : ¬ op = sConst := kk .const
    have k1 : ¬ op = sAdd := kk .add
    have k2 : ¬ op = sSub := kk .sub
    have k3 : ¬ op = sMul := kk .mul
    have k4 : ¬ op = sMax := kk .max
    have k5 : ¬ op = sAbove := kk .above
    have k6 : ¬ op = sMatmul := kk .matmul
    have k7 : ¬ op = sRelu := kk .relu
    have k8 : ¬ op = sAbs := kk .abs
    have k9 : ¬ op = sStep := kk .step
    have k10 : ¬ op = sSign := kk .sign
    have k11 : ¬ op = sScale := kk .scale
    have k12 : ¬ op = sPower := kk .power
    have k13 : ¬ op = sTranspose := kk .transpose
    have k14 : ¬ op = sSum := kk .sum
    have k15 : ¬ op = sReshape := kk .reshape
    have k16 : ¬ op = sSpread := kk .spread
    refine vcall_of TOK_gof HM Go.Proofs.Tryd.func21 rfl (by decide +kernel) (by decide +kernel) rfl ?_
    repeat' ((conv => whnf); first | ((with_reducible apply Xq); assumption) | (with_reducible first | apply Xa | (first | apply xi | apply xp | apply xP); omega | apply Xe | refine Xg (by assumption) ?_) | refine Xo (by assumption) ?_ | refine x_0 (by first | assumption | rfl) ?_ | refine x_1 (by first | assumption | rfl) ?_ | refine Or.inl ⟨rfl, ?_⟩ | (split <;> (first | (rename_i u h; clear u) | rename_i h) <;> (try rewrite [h]) <;> (first | replace h := dt h | replace h := df h | replace h := Nt h | replace h := Nf h | skip) <;> (try dsimp only at h) <;> (first | contradiction | (exfalso; omega) | skip)) | (refine Or.inl ⟨_, by assumption, ?_⟩; first | rintro _ rfl | skip))
    all_goals (conv => whnf)
    all_goals first | exact ⟨_, roTo2 rfl rfl, rfl⟩ | exact ⟨_, roTo2 ⟨1, rfl⟩ rfl, rfl⟩ | exact ⟨_, roTo2 rfl (congrArg AV.bool (by simp [h])), rfl⟩
end Go.V
namespace Go.V
open Go.N
set_option maxRecDepth 20000
def T_gInfer : Tab := [(39, ⟨.strc [(0, 1, false), (1, 1, false), (2, 1, false), (3, 1, false), (4, 1, false), (5, 1, false), (6, 1, false), (7, 1, false)], 8, 120, (.agg #[(.string .empty), (.int .i64 0), (.int .i64 0), (.string .empty), (.slice none 0 0), (.string .empty), (.int .i64 0), (.slice none 0 0)]), [0, 0, 0, 0, 1, 0, 0, 1]⟩), (9, ⟨.str, 1, 16, (.string .empty), [0]⟩), (4, ⟨.bool, 1, 1, (.bool false), [0]⟩), (3, ⟨.int .i64, 1, 8, (.int .i64 0), [0]⟩), (22, ⟨.slice 39, 1, 24, (.slice none 0 0), [8]⟩), (25, ⟨.slice 3, 1, 24, (.slice none 0 0), [1]⟩)]
theorem TOK_gInfer : TOK Go.Proofs.Tryd.prog T_gInfer := ⟨⟨info_of Go.Proofs.Tryd.type39 rfl, by decide +kernel, by decide +kernel⟩, ⟨⟨info_of Go.Proofs.Tryd.type9 rfl, by decide +kernel, by decide +kernel⟩, ⟨⟨info_of Go.Proofs.Tryd.type4 rfl, by decide +kernel, by decide +kernel⟩, ⟨⟨info_of Go.Proofs.Tryd.type3 rfl, by decide +kernel, by decide +kernel⟩, ⟨⟨info_of Go.Proofs.Tryd.type22 rfl, by decide +kernel, by decide +kernel⟩, ⟨⟨info_of Go.Proofs.Tryd.type25 rfl, by decide +kernel, by decide +kernel⟩, trivial⟩⟩⟩⟩⟩⟩
theorem c_CloneR (gl : Gl) (l : List Int) (hll : l.length < 1000000) : VCall Go.Proofs.Tryd.prog gl 23 [.ro 1 (rowZ l)] (fun x => x = .ro 1 (rowZ l)) :=
  VCall.taken ((c_CloneI gl l hll).mono fun x hx => by
    rcases hx with rfl | ⟨rfl, rfl⟩
    · exact ⟨_, rfl, rfl⟩
    · exact ⟨_, (show RoTo .nils (.ro 1 []) from ⟨1, rfl⟩), rfl⟩)
theorem z1 {s : List Int} {ok : Bool} (h : (!ok) = true) : okZ (s, ok) = none := by simp at h; simp [okZ, h]
theorem z2 {s : List Int} {ok : Bool} (h : (!okShape s) = true) : okZ (s, ok) = none := by simp at h; simp [okZ, h]
theorem z3 {s : List Int} {ok : Bool} (h1 : (!ok) = false) (h : (!okShape s) = false) : okZ (s, ok) = some s := by simp at h h1; simp [okZ, h, h1]
set_option maxHeartbeats 4000000 in
theorem c_gInfer (l : List Nd) (x : Nd) (hx : x.Sm) (hl : ∀ y ∈ l, y.Sm) (hll : l.length ≤ 1000) :
    VCall Go.Proofs.Tryd.prog GL 16 [.ro 8 (rowN l), .agg x.cells] (fun y => y = .tup [.ro 1 (rowZ ((inferN l x).getD [])), .bool (inferN l x).isSome]) := by
  obtain ⟨op, a, b, name, shape, k, n, data⟩ := x
  have hp := c_gparts GL op
  have hlr : (rowN l).length = l.length := rowN_length l
  refine VCall.taken ?_
  cases hop : opParts op with
  | none =>
    rw [inferN_none hop]
    rw [partsN, hop] at hp
    refine vcall_of TOK_gInfer HM Go.Proofs.Tryd.func16 rfl (by decide +kernel) (by decide +kernel) rfl ?_
    repeat' ((conv => whnf); first | ((with_reducible apply Xq); assumption) | (with_reducible first | apply Xa | (first | apply xi | apply xp | apply xP); omega | apply Xe | refine Xg (by assumption) ?_) | refine Xo (by assumption) ?_ | refine x_0 (by first | assumption | rfl) ?_ | refine x_1 (by first | assumption | rfl) ?_ | refine Or.inl ⟨rfl, ?_⟩ | (split <;> (first | (rename_i u h; clear u) | rename_i h) <;> (try rewrite [h]) <;> (first | replace h := dt h | replace h := df h | replace h := Nt h | replace h := Nf h | skip) <;> (try dsimp only at h) <;> (first | contradiction | (exfalso; omega) | skip)) | (refine Or.inl ⟨_, by assumption, ?_⟩; first | rintro _ rfl | skip))
    all_goals (conv => whnf)
    all_goals exact ⟨_, roTo2 (show RoTo .nils (.ro 1 []) from ⟨1, rfl⟩) rfl, rfl⟩
  | some m =>
    rw [partsN, hop] at hp
    have hm := opParts_le hop
    have hb := c_gbare GL ⟨op, a, b, name, shape, k, n, data⟩ m hx hm
    have hfe : fitN l ⟨op, a, b, name, shape, k, n, data⟩ m = (bareOK ⟨op, a, b, name, shape, k, n, data⟩ m && ((decide (m = 0) || inR a l) && (decide (m < 2) || inR b l))) := rfl
    cases hbr : bareOK ⟨op, a, b, name, shape, k, n, data⟩ m with
    | false =>
      rw [inferN_bad hop (by rw [hfe, hbr]; rfl)]
      rw [hbr] at hb
      refine vcall_of TOK_gInfer HM Go.Proofs.Tryd.func16 rfl (by decide +kernel) (by decide +kernel) rfl ?_
      repeat' ((conv => whnf); first | ((with_reducible apply Xq); assumption) | (with_reducible first | apply Xa | (first | apply xi | apply xp | apply xP); omega | apply Xe | refine Xg (by assumption) ?_) | refine Xo (by assumption) ?_ | refine x_0 (by first | assumption | rfl) ?_ | refine x_1 (by first | assumption | rfl) ?_ | refine Or.inl ⟨rfl, ?_⟩ | (split <;> (first | (rename_i u h; clear u) | rename_i h) <;> (try rewrite [h]) <;> (first | replace h := dt h | replace h := df h | replace h := Nt h | replace h := Nf h | skip) <;> (try dsimp only at h) <;> (first | contradiction | (exfalso; omega) | skip)) | (refine Or.inl ⟨_, by assumption, ?_⟩; first | rintro _ rfl | skip))
      all_goals (conv => whnf)
      all_goals exact ⟨_, roTo2 (show RoTo .nils (.ro 1 []) from ⟨1, rfl⟩) rfl, rfl⟩
    | true =>
      rw [hbr] at hb hfe
      have h3 : m = 0 ∨ m = 1 ∨ m = 2 := by omega
      rcases h3 with rfl | rfl | rfl
      · have hf : fitN l ⟨op, a, b, name, shape, k, n, data⟩ 0 = true := hfe
        rw [inferN_ok hop hf]
        rw [if_pos rfl, if_pos (by omega)]
        have hof := c_gof ⟨op, a, b, name, shape, k, n, data⟩ [] [] hx (by simp) (by simp)
        have hlen := ofZ_len (x := ⟨op, a, b, name, shape, k, n, data⟩) (a := []) (b := []) hx (by simp) (by simp)
        generalize ofZ ⟨op, a, b, name, shape, k, n, data⟩ [] [] = r at hof hlen ⊢
        obtain ⟨s, ok⟩ := r
        have hsr := c_shape_Right GL s (by dsimp only at hlen; omega)
        have hcl := c_CloneR GL s (by dsimp only at hlen; omega)
        dsimp only at hof
        refine vcall_of TOK_gInfer HM Go.Proofs.Tryd.func16 rfl (by decide +kernel) (by decide +kernel) rfl ?_
        repeat' ((conv => whnf); first | ((with_reducible apply Xq); assumption) | (with_reducible first | apply Xa | (first | apply xi | apply xp | apply xP); omega | apply Xe | refine Xg (by assumption) ?_) | refine Xo (by assumption) ?_ | refine x_0 (by first | assumption | rfl) ?_ | refine x_1 (by first | assumption | rfl) ?_ | refine Or.inl ⟨rfl, ?_⟩ | (split <;> (first | (rename_i u h; clear u) | rename_i h) <;> (try rewrite [h]) <;> (first | replace h := dt h | replace h := df h | replace h := Nt h | replace h := Nf h | skip) <;> (try dsimp only at h) <;> (first | contradiction | (exfalso; omega) | skip)) | (refine Or.inl ⟨_, by assumption, ?_⟩; first | rintro _ rfl | skip))
        all_goals (conv => whnf)
        all_goals first | exact ⟨_, roTo2 (show RoTo .nils (.ro 1 []) from ⟨1, rfl⟩) rfl, by rw [z1 h]; rfl⟩ | exact ⟨_, roTo2 (show RoTo .nils (.ro 1 []) from ⟨1, rfl⟩) rfl, by rw [z2 h]; rfl⟩ | exact ⟨_, roTo2 rfl rfl, by rw [z3 (by assumption) h]; rfl⟩
      · cases ha : inR a l with
        | false =>
          rw [inferN_bad hop (by rw [hfe, ha]; rfl)]
          have := inR_not ha
          refine vcall_of TOK_gInfer HM Go.Proofs.Tryd.func16 rfl (by decide +kernel) (by decide +kernel) rfl ?_
          repeat' ((conv => whnf); first | ((with_reducible apply Xq); assumption) | (with_reducible first | apply Xa | (first | apply xi | apply xp | apply xP); omega | apply Xe | refine Xg (by assumption) ?_) | refine Xo (by assumption) ?_ | refine x_0 (by first | assumption | rfl) ?_ | refine x_1 (by first | assumption | rfl) ?_ | refine Or.inl ⟨rfl, ?_⟩ | (split <;> (first | (rename_i u h; clear u) | rename_i h) <;> (try rewrite [h]) <;> (first | replace h := dt h | replace h := df h | replace h := Nt h | replace h := Nf h | skip) <;> (try dsimp only at h) <;> (first | contradiction | (exfalso; omega) | skip)) | (refine Or.inl ⟨_, by assumption, ?_⟩; first | rintro _ rfl | skip))
          all_goals (conv => whnf)
          all_goals exact ⟨_, roTo2 (show RoTo .nils (.ro 1 []) from ⟨1, rfl⟩) rfl, rfl⟩
        | true =>
          have hf : fitN l ⟨op, a, b, name, shape, k, n, data⟩ 1 = true := by rw [hfe, ha]; rfl
          obtain ⟨i, hi1, hi2⟩ := inR_nat ha
          subst hi1
          have g := rowN_get hi2
          have hs := (hl _ (List.getElem_mem hi2)).shape
          rw [inferN_ok hop hf]
          rw [if_neg (by omega), if_pos (by omega)]; dsimp only; rw [shAt_nat hi2]
          have hof := c_gof ⟨op, (i : Int), b, name, shape, k, n, data⟩ l[i].shape [] hx (by assumption) (by simp)
          have hlen := ofZ_len (x := ⟨op, (i : Int), b, name, shape, k, n, data⟩) (a := l[i].shape) (b := []) hx (by assumption) (by simp)
          generalize ofZ ⟨op, (i : Int), b, name, shape, k, n, data⟩ l[i].shape [] = r at hof hlen ⊢
          obtain ⟨s, ok⟩ := r
          have hsr := c_shape_Right GL s (by dsimp only at hlen; omega)
          have hcl := c_CloneR GL s (by dsimp only at hlen; omega)
          dsimp only at hof
          refine vcall_of TOK_gInfer HM Go.Proofs.Tryd.func16 rfl (by decide +kernel) (by decide +kernel) rfl ?_
          repeat' ((conv => whnf); first | ((with_reducible apply Xq); assumption) | (with_reducible first | apply Xa | (first | apply xi | apply xp | apply xP); omega | apply Xe | refine Xg (by assumption) ?_) | refine Xo (by assumption) ?_ | refine x_0 (by first | assumption | rfl) ?_ | refine x_1 (by first | assumption | rfl) ?_ | refine Or.inl ⟨rfl, ?_⟩ | (split <;> (first | (rename_i u h; clear u) | rename_i h) <;> (try rewrite [h]) <;> (first | replace h := dt h | replace h := df h | replace h := Nt h | replace h := Nf h | skip) <;> (try dsimp only at h) <;> (first | contradiction | (exfalso; omega) | skip)) | (refine Or.inl ⟨_, by assumption, ?_⟩; first | rintro _ rfl | skip))
          all_goals (conv => whnf)
          all_goals first | exact ⟨_, roTo2 (show RoTo .nils (.ro 1 []) from ⟨1, rfl⟩) rfl, by rw [z1 h]; rfl⟩ | exact ⟨_, roTo2 (show RoTo .nils (.ro 1 []) from ⟨1, rfl⟩) rfl, by rw [z2 h]; rfl⟩ | exact ⟨_, roTo2 rfl rfl, by rw [z3 (by assumption) h]; rfl⟩
      · cases ha : inR a l with
        | false =>
          rw [inferN_bad hop (by rw [hfe, ha]; rfl)]
          have := inR_not ha
          refine vcall_of TOK_gInfer HM Go.Proofs.Tryd.func16 rfl (by decide +kernel) (by decide +kernel) rfl ?_
          repeat' ((conv => whnf); first | ((with_reducible apply Xq); assumption) | (with_reducible first | apply Xa | (first | apply xi | apply xp | apply xP); omega | apply Xe | refine Xg (by assumption) ?_) | refine Xo (by assumption) ?_ | refine x_0 (by first | assumption | rfl) ?_ | refine x_1 (by first | assumption | rfl) ?_ | refine Or.inl ⟨rfl, ?_⟩ | (split <;> (first | (rename_i u h; clear u) | rename_i h) <;> (try rewrite [h]) <;> (first | replace h := dt h | replace h := df h | replace h := Nt h | replace h := Nf h | skip) <;> (try dsimp only at h) <;> (first | contradiction | (exfalso; omega) | skip)) | (refine Or.inl ⟨_, by assumption, ?_⟩; first | rintro _ rfl | skip))
          all_goals (conv => whnf)
          all_goals exact ⟨_, roTo2 (show RoTo .nils (.ro 1 []) from ⟨1, rfl⟩) rfl, rfl⟩
        | true =>
          obtain ⟨i, hi1, hi2⟩ := inR_nat ha
          subst hi1
          cases hbn : inR b l with
          | false =>
            rw [inferN_bad hop (by rw [hfe, ha, hbn]; rfl)]
            have := inR_not hbn
            refine vcall_of TOK_gInfer HM Go.Proofs.Tryd.func16 rfl (by decide +kernel) (by decide +kernel) rfl ?_
            repeat' ((conv => whnf); first | ((with_reducible apply Xq); assumption) | (with_reducible first | apply Xa | (first | apply xi | apply xp | apply xP); omega | apply Xe | refine Xg (by assumption) ?_) | refine Xo (by assumption) ?_ | refine x_0 (by first | assumption | rfl) ?_ | refine x_1 (by first | assumption | rfl) ?_ | refine Or.inl ⟨rfl, ?_⟩ | (split <;> (first | (rename_i u h; clear u) | rename_i h) <;> (try rewrite [h]) <;> (first | replace h := dt h | replace h := df h | replace h := Nt h | replace h := Nf h | skip) <;> (try dsimp only at h) <;> (first | contradiction | (exfalso; omega) | skip)) | (refine Or.inl ⟨_, by assumption, ?_⟩; first | rintro _ rfl | skip))
            all_goals (conv => whnf)
            all_goals exact ⟨_, roTo2 (show RoTo .nils (.ro 1 []) from ⟨1, rfl⟩) rfl, rfl⟩
          | true =>
            have hf : fitN l ⟨op, (i : Int), b, name, shape, k, n, data⟩ 2 = true := by rw [hfe, ha, hbn]; rfl
            obtain ⟨j, hj1, hj2⟩ := inR_nat hbn
            subst hj1
            have g := rowN_get hi2
            have g2 := rowN_get hj2
            have hs := (hl _ (List.getElem_mem hi2)).shape
            have hs2 := (hl _ (List.getElem_mem hj2)).shape
            rw [inferN_ok hop hf]
            rw [if_neg (by omega), if_neg (by omega)]; dsimp only; rw [shAt_nat hi2, shAt_nat hj2]
            have hof := c_gof ⟨op, (i : Int), (j : Int), name, shape, k, n, data⟩ l[i].shape l[j].shape hx (by exact hs) (by exact hs2)
            have hlen := ofZ_len (x := ⟨op, (i : Int), (j : Int), name, shape, k, n, data⟩) (a := l[i].shape) (b := l[j].shape) hx (by exact hs) (by exact hs2)
            generalize ofZ ⟨op, (i : Int), (j : Int), name, shape, k, n, data⟩ l[i].shape l[j].shape = r at hof hlen ⊢
            obtain ⟨s, ok⟩ := r
            have hsr := c_shape_Right GL s (by dsimp only at hlen; omega)
            have hcl := c_CloneR GL s (by dsimp only at hlen; omega)
            dsimp only at hof
            refine vcall_of TOK_gInfer HM Go.Proofs.Tryd.func16 rfl (by decide +kernel) (by decide +kernel) rfl ?_
            repeat' ((conv => whnf); first | ((with_reducible apply Xq); assumption) | (with_reducible first | apply Xa | (first | apply xi | apply xp | apply xP); omega | apply Xe | refine Xg (by assumption) ?_) | refine Xo (by assumption) ?_ | refine x_0 (by first | assumption | rfl) ?_ | refine x_1 (by first | assumption | rfl) ?_ | refine Or.inl ⟨rfl, ?_⟩ | (split <;> (first | (rename_i u h; clear u) | rename_i h) <;> (try rewrite [h]) <;> (first | replace h := dt h | replace h := df h | replace h := Nt h | replace h := Nf h | skip) <;> (try dsimp only at h) <;> (first | contradiction | (exfalso; omega) | skip)) | (refine Or.inl ⟨_, by assumption, ?_⟩; first | rintro _ rfl | skip))
            all_goals (conv => whnf)
            all_goals first | exact ⟨_, roTo2 (show RoTo .nils (.ro 1 []) from ⟨1, rfl⟩) rfl, by rw [z1 h]; rfl⟩ | exact ⟨_, roTo2 (show RoTo .nils (.ro 1 []) from ⟨1, rfl⟩) rfl, by rw [z2 h]; rfl⟩ | exact ⟨_, roTo2 rfl rfl, by rw [z3 (by assumption) h]; rfl⟩
end Go.V
namespace Go.V
open Go.N
set_option maxRecDepth 20000
variable (gl : Gl)
end Go.V
namespace Go.V
open Go.N
set_option maxRecDepth 20000
variable (gl : Gl)
end Go.V
namespace Go.V
open Go.N
set_option maxRecDepth 20000
variable (gl : Gl)
def T_r10_Small : Tab := [(24, ⟨.strc [(0, 1, false), (1, 1, false)], 2, 32, (.agg #[(.slice none 0 0), (.int .i64 0)]), [8, 0]⟩), (22, ⟨.slice 39, 1, 24, (.slice none 0 0), [8]⟩), (39, ⟨.strc [(0, 1, false), (1, 1, false), (2, 1, false), (3, 1, false), (4, 1, false), (5, 1, false), (6, 1, false), (7, 1, false)], 8, 120, (.agg #[(.string .empty), (.int .i64 0), (.int .i64 0), (.string .empty), (.slice none 0 0), (.string .empty), (.int .i64 0), (.slice none 0 0)]), [0, 0, 0, 0, 1, 0, 0, 1]⟩), (3, ⟨.int .i64, 1, 8, (.int .i64 0), [0]⟩), (25, ⟨.slice 3, 1, 24, (.slice none 0 0), [1]⟩), (37, ⟨.slice 9, 1, 24, (.slice none 0 0), [1]⟩), (9, ⟨.str, 1, 16, (.string .empty), [0]⟩)]
theorem TOK_r10_Small : TOK Go.Proofs.Tryd.prog T_r10_Small := ⟨⟨info_of Go.Proofs.Tryd.type24 rfl, by decide +kernel, by decide +kernel⟩, ⟨⟨info_of Go.Proofs.Tryd.type22 rfl, by decide +kernel, by decide +kernel⟩, ⟨⟨info_of Go.Proofs.Tryd.type39 rfl, by decide +kernel, by decide +kernel⟩, ⟨⟨info_of Go.Proofs.Tryd.type3 rfl, by decide +kernel, by decide +kernel⟩, ⟨⟨info_of Go.Proofs.Tryd.type25 rfl, by decide +kernel, by decide +kernel⟩, ⟨⟨info_of Go.Proofs.Tryd.type37 rfl, by decide +kernel, by decide +kernel⟩, ⟨⟨info_of Go.Proofs.Tryd.type9 rfl, by decide +kernel, by decide +kernel⟩, trivial⟩⟩⟩⟩⟩⟩⟩
def T_r10_Same : Tab := [(39, ⟨.strc [(0, 1, false), (1, 1, false), (2, 1, false), (3, 1, false), (4, 1, false), (5, 1, false), (6, 1, false), (7, 1, false)], 8, 120, (.agg #[(.string .empty), (.int .i64 0), (.int .i64 0), (.string .empty), (.slice none 0 0), (.string .empty), (.int .i64 0), (.slice none 0 0)]), [0, 0, 0, 0, 1, 0, 0, 1]⟩), (9, ⟨.str, 1, 16, (.string .empty), [0]⟩), (3, ⟨.int .i64, 1, 8, (.int .i64 0), [0]⟩), (25, ⟨.slice 3, 1, 24, (.slice none 0 0), [1]⟩), (4, ⟨.bool, 1, 1, (.bool false), [0]⟩), (37, ⟨.slice 9, 1, 24, (.slice none 0 0), [1]⟩)]
theorem TOK_r10_Same : TOK Go.Proofs.Tryd.prog T_r10_Same := ⟨⟨info_of Go.Proofs.Tryd.type39 rfl, by decide +kernel, by decide +kernel⟩, ⟨⟨info_of Go.Proofs.Tryd.type9 rfl, by decide +kernel, by decide +kernel⟩, ⟨⟨info_of Go.Proofs.Tryd.type3 rfl, by decide +kernel, by decide +kernel⟩, ⟨⟨info_of Go.Proofs.Tryd.type25 rfl, by decide +kernel, by decide +kernel⟩, ⟨⟨info_of Go.Proofs.Tryd.type4 rfl, by decide +kernel, by decide +kernel⟩, ⟨⟨info_of Go.Proofs.Tryd.type37 rfl, by decide +kernel, by decide +kernel⟩, trivial⟩⟩⟩⟩⟩⟩
def T_r10_Equal : Tab := [(24, ⟨.strc [(0, 1, false), (1, 1, false)], 2, 32, (.agg #[(.slice none 0 0), (.int .i64 0)]), [8, 0]⟩), (3, ⟨.int .i64, 1, 8, (.int .i64 0), [0]⟩), (22, ⟨.slice 39, 1, 24, (.slice none 0 0), [8]⟩), (39, ⟨.strc [(0, 1, false), (1, 1, false), (2, 1, false), (3, 1, false), (4, 1, false), (5, 1, false), (6, 1, false), (7, 1, false)], 8, 120, (.agg #[(.string .empty), (.int .i64 0), (.int .i64 0), (.string .empty), (.slice none 0 0), (.string .empty), (.int .i64 0), (.slice none 0 0)]), [0, 0, 0, 0, 1, 0, 0, 1]⟩), (4, ⟨.bool, 1, 1, (.bool false), [0]⟩)]
theorem TOK_r10_Equal : TOK Go.Proofs.Tryd.prog T_r10_Equal := ⟨⟨info_of Go.Proofs.Tryd.type24 rfl, by decide +kernel, by decide +kernel⟩, ⟨⟨info_of Go.Proofs.Tryd.type3 rfl, by decide +kernel, by decide +kernel⟩, ⟨⟨info_of Go.Proofs.Tryd.type22 rfl, by decide +kernel, by decide +kernel⟩, ⟨⟨info_of Go.Proofs.Tryd.type39 rfl, by decide +kernel, by decide +kernel⟩, ⟨⟨info_of Go.Proofs.Tryd.type4 rfl, by decide +kernel, by decide +kernel⟩, trivial⟩⟩⟩⟩⟩
def smallS (s : ByteArray) : Bool := decide (s.size ≤ 30)
def smallN (x : Nd) : Bool := decide (x.shape.length ≤ 10) && decide (x.data.length ≤ 70) && decide (x.k.size ≤ 30) && decide (x.name.size ≤ 30) && x.data.all smallS
def smallG (g : Gr) : Bool := decide (g.nodes.length ≤ 40) && g.nodes.all smallN
theorem all_bad {α : Type} {l : List α} {p : α → Bool} {i : Nat} (h : i < l.length) (hp : p l[i] = false) : l.all p = false := List.all_eq_false.2 ⟨_, List.getElem_mem h, by simp [hp]⟩
theorem all_snoc {α : Type} {l : List α} {p : α → Bool} {i : Nat} (h : i < l.length) (ha : (l.take i).all p = true) (hp : p l[i] = true) : (l.take (i + 1)).all p = true := by
  rw [List.take_succ_eq_append_getElem h, List.all_append, ha]; simp [hp]
theorem smallN_sm {x : Nd} (h : smallN x = true) : x.Sm := by
  simp only [smallN, Bool.and_eq_true, decide_eq_true_eq, List.all_eq_true] at h
  exact ⟨by omega, by omega, by omega, by omega, fun d hd => by have := h.2 d hd; simp only [smallS, decide_eq_true_eq] at this; omega⟩
set_option maxHeartbeats 4000000 in
theorem c_r10_Small (g : Gr) : VCall Go.Proofs.Tryd.prog gl 5 [.agg g.cells] (fun x => x = .bool (smallG g)) := by
  obtain ⟨l, loss⟩ := g
  have hl : (rowN l).length = l.length := rowN_length l
  by_cases h40 : l.length ≤ 40
  · have hb : l.all smallN = false → smallG ⟨l, loss⟩ = false := fun h => by simp [smallG, h]
    have ho : l.all smallN = true → smallG ⟨l, loss⟩ = true := fun h => by simp [smallG, h, h40]
    generalize smallG ⟨l, loss⟩ = T at hb ho ⊢
    refine vcall_of TOK_r10_Small HM Go.Proofs.Tryd.func5 rfl (by decide +kernel) (by decide +kernel) rfl ?_
    repeat' ((conv => whnf); first | ((with_reducible apply Xq); assumption) | (with_reducible first | apply Xa | (first | apply xi | apply xp | apply xP); omega | apply Xe | refine Xg (by assumption) ?_) | refine Xo (by assumption) ?_ | refine x_0 (by first | assumption | rfl) ?_ | refine x_1 (by first | assumption | rfl) ?_ | refine Or.inl ⟨rfl, ?_⟩ | (split <;> (first | (rename_i u h; clear u) | rename_i h) <;> (try rewrite [h]) <;> (first | replace h := dt h | replace h := df h | replace h := Nt h | replace h := Nf h | skip) <;> (try dsimp only at h) <;> (first | contradiction | (exfalso; omega) | skip)) | (refine Or.inl ⟨_, by assumption, ?_⟩; first | rintro _ rfl | skip))
    refine ⟨[12, 13, 14], [], fun m st => ∃ i : Nat, i ≤ l.length ∧ m = l.length - i ∧ (l.take i).all smallN = true ∧
      st = ⟨[(12, .ro 8 (rowN l)), (13, .int .i64 ((rowN l).length : Nat)), (14, .int .i64 (i : Nat))], []⟩, rfl, ⟨l.length, 0, by omega, rfl, rfl, rfl⟩, ?_⟩
    rintro m _ ⟨i, hi, hm, ha, rfl⟩
    rcases Nat.lt_or_ge i l.length with hil | hge
    · obtain ⟨x, hx⟩ : ∃ x, x = l[i] := ⟨_, rfl⟩
      have g : (rowN l)[i]? = some x.cells := by rw [hx]; exact rowN_get hil
      have hbad : smallN x = false → T = false := fun h => hb (all_bad hil (by rw [← hx]; exact h))
      have hstep : smallN x = true → (l.take (i + 1)).all smallN = true := fun h => all_snoc hil ha (by rw [← hx]; exact h)
      clear hx
      obtain ⟨op, a, b, name, shape, k, n, data⟩ := x
      have hls : (rowZ shape).length = shape.length := rowZ_length shape
      have hld : (rowS data).length = data.length := rowS_length data
      by_cases hpre : shape.length ≤ 10 ∧ data.length ≤ 70 ∧ k.size ≤ 30 ∧ name.size ≤ 30
      · obtain ⟨h1, h2, h3, h4⟩ := hpre
        have hb2 : data.all smallS = false → T = false := fun h => hbad (by simp [smallN, h])
        have ho2 : data.all smallS = true → (l.take (i + 1)).all smallN = true := fun h => hstep (by simp [smallN, h, h1, h2, h3, h4])
        repeat' ((conv => whnf); first | ((with_reducible apply Xq); assumption) | (with_reducible first | apply Xa | (first | apply xi | apply xp | apply xP); omega | apply Xe | refine Xg (by assumption) ?_) | refine Xo (by assumption) ?_ | refine x_0 (by first | assumption | rfl) ?_ | refine x_1 (by first | assumption | rfl) ?_ | refine Or.inl ⟨rfl, ?_⟩ | (split <;> (first | (rename_i u h; clear u) | rename_i h) <;> (try rewrite [h]) <;> (first | replace h := dt h | replace h := df h | replace h := Nt h | replace h := Nf h | skip) <;> (try dsimp only at h) <;> (first | contradiction | (exfalso; omega) | skip)) | (refine Or.inl ⟨_, by assumption, ?_⟩; first | rintro _ rfl | skip))
        refine ⟨[12, 13, 14, 41, 42, 43], [], fun m st => ∃ j : Nat, j ≤ data.length ∧ m = data.length - j ∧ (data.take j).all smallS = true ∧
          st = ⟨[(12, .ro 8 (rowN l)), (13, .int .i64 ((rowN l).length : Nat)), (14, .int .i64 (i : Nat)), (41, .ro 1 (rowS data)), (42, .int .i64 ((rowS data).length : Nat)), (43, .int .i64 (j : Nat))], []⟩, rfl, ⟨data.length, 0, by omega, rfl, rfl, rfl⟩, ?_⟩
        rintro m2 _ ⟨j, hj, hm2, ha2, rfl⟩
        rcases Nat.lt_or_ge j data.length with hjl | hge
        · have g2 := rowS_get hjl
          by_cases hs : data[j].size ≤ 30
          · repeat' ((conv => whnf); first | ((with_reducible apply Xq); assumption) | (with_reducible first | apply Xa | (first | apply xi | apply xp | apply xP); omega | apply Xe | refine Xg (by assumption) ?_) | refine Xo (by assumption) ?_ | refine x_0 (by first | assumption | rfl) ?_ | refine x_1 (by first | assumption | rfl) ?_ | refine Or.inl ⟨rfl, ?_⟩ | (split <;> (first | (rename_i u h; clear u) | rename_i h) <;> (try rewrite [h]) <;> (first | replace h := dt h | replace h := df h | replace h := Nt h | replace h := Nf h | skip) <;> (try dsimp only at h) <;> (first | contradiction | (exfalso; omega) | skip)) | (refine Or.inl ⟨_, by assumption, ?_⟩; first | rintro _ rfl | skip))
            exact ⟨[], data.length - (j + 1), rfl, by omega, j + 1, by omega, rfl, all_snoc hjl ha2 (by simp [smallS, hs]), rfl⟩
          · rw [hb2 (all_bad hjl (by simp [smallS, hs]))]
            repeat' ((conv => whnf); first | ((with_reducible apply Xq); assumption) | (with_reducible first | apply Xa | (first | apply xi | apply xp | apply xP); omega | apply Xe | refine Xg (by assumption) ?_) | refine Xo (by assumption) ?_ | refine x_0 (by first | assumption | rfl) ?_ | refine x_1 (by first | assumption | rfl) ?_ | refine Or.inl ⟨rfl, ?_⟩ | (split <;> (first | (rename_i u h; clear u) | rename_i h) <;> (try rewrite [h]) <;> (first | replace h := dt h | replace h := df h | replace h := Nt h | replace h := Nf h | skip) <;> (try dsimp only at h) <;> (first | contradiction | (exfalso; omega) | skip)) | (refine Or.inl ⟨_, by assumption, ?_⟩; first | rintro _ rfl | skip))
            all_goals (conv => whnf)
            rfl
        · rw [List.take_of_length_le (by omega)] at ha2
          repeat' ((conv => whnf); first | ((with_reducible apply Xq); assumption) | (with_reducible first | apply Xa | (first | apply xi | apply xp | apply xP); omega | apply Xe | refine Xg (by assumption) ?_) | refine Xo (by assumption) ?_ | refine x_0 (by first | assumption | rfl) ?_ | refine x_1 (by first | assumption | rfl) ?_ | refine Or.inl ⟨rfl, ?_⟩ | (split <;> (first | (rename_i u h; clear u) | rename_i h) <;> (try rewrite [h]) <;> (first | replace h := dt h | replace h := df h | replace h := Nt h | replace h := Nf h | skip) <;> (try dsimp only at h) <;> (first | contradiction | (exfalso; omega) | skip)) | (refine Or.inl ⟨_, by assumption, ?_⟩; first | rintro _ rfl | skip))
          exact ⟨[], l.length - (i + 1), rfl, by omega, i + 1, by omega, rfl, ho2 ha2, rfl⟩
      · rw [hbad (by
          rw [Bool.eq_false_iff]; simp only [smallN, ne_eq, Bool.and_eq_true, decide_eq_true_eq]; intro e; exact hpre ⟨e.1.1.1.1, e.1.1.1.2, e.1.1.2, e.1.2⟩)]
        repeat' ((conv => whnf); first | ((with_reducible apply Xq); assumption) | (with_reducible first | apply Xa | (first | apply xi | apply xp | apply xP); omega | apply Xe | refine Xg (by assumption) ?_) | refine Xo (by assumption) ?_ | refine x_0 (by first | assumption | rfl) ?_ | refine x_1 (by first | assumption | rfl) ?_ | refine Or.inl ⟨rfl, ?_⟩ | (split <;> (first | (rename_i u h; clear u) | rename_i h) <;> (try rewrite [h]) <;> (first | replace h := dt h | replace h := df h | replace h := Nt h | replace h := Nf h | skip) <;> (try dsimp only at h) <;> (first | contradiction | (exfalso; omega) | skip)) | (refine Or.inl ⟨_, by assumption, ?_⟩; first | rintro _ rfl | skip))
        all_goals first | ((conv => whnf); rfl) | omega
    · rw [List.take_of_length_le (by omega)] at ha
      rw [ho ha]
      repeat' ((conv => whnf); first | ((with_reducible apply Xq); assumption) | (with_reducible first | apply Xa | (first | apply xi | apply xp | apply xP); omega | apply Xe | refine Xg (by assumption) ?_) | refine Xo (by assumption) ?_ | refine x_0 (by first | assumption | rfl) ?_ | refine x_1 (by first | assumption | rfl) ?_ | refine Or.inl ⟨rfl, ?_⟩ | (split <;> (first | (rename_i u h; clear u) | rename_i h) <;> (try rewrite [h]) <;> (first | replace h := dt h | replace h := df h | replace h := Nt h | replace h := Nf h | skip) <;> (try dsimp only at h) <;> (first | contradiction | (exfalso; omega) | skip)) | (refine Or.inl ⟨_, by assumption, ?_⟩; first | rintro _ rfl | skip))
      all_goals (conv => whnf)
      rfl
  · rw [show smallG ⟨l, loss⟩ = false by simp [smallG, h40]]
    refine vcall_of TOK_r10_Small HM Go.Proofs.Tryd.func5 rfl (by decide +kernel) (by decide +kernel) rfl ?_
    repeat' ((conv => whnf); first | ((with_reducible apply Xq); assumption) | (with_reducible first | apply Xa | (first | apply xi | apply xp | apply xP); omega | apply Xe | refine Xg (by assumption) ?_) | refine Xo (by assumption) ?_ | refine x_0 (by first | assumption | rfl) ?_ | refine x_1 (by first | assumption | rfl) ?_ | refine Or.inl ⟨rfl, ?_⟩ | (split <;> (first | (rename_i u h; clear u) | rename_i h) <;> (try rewrite [h]) <;> (first | replace h := dt h | replace h := df h | replace h := Nt h | replace h := Nf h | skip) <;> (try dsimp only at h) <;> (first | contradiction | (exfalso; omega) | skip)) | (refine Or.inl ⟨_, by assumption, ?_⟩; first | rintro _ rfl | skip))
    all_goals (conv => whnf)
    rfl
open Classical in
set_option maxHeartbeats 4000000 in
theorem c_r10_Same (x y : Nd) (hx : x.Sm) (hy : y.Sm) : VCall Go.Proofs.Tryd.prog gl 15 [.agg x.cells, .agg y.cells] (fun r => r = .bool (decide (x = y))) := by
  obtain ⟨op, a, b, name, shape, k, n, data⟩ := x
  obtain ⟨op2, a2, b2, name2, shape2, k2, n2, data2⟩ := y
  have hsame := c_r04_Same gl shape shape2 (Nat.lt_of_le_of_lt hx.shape (by decide)) (Nat.lt_of_le_of_lt hy.shape (by decide))
  have hld : (rowS data).length = data.length := rowS_length data
  have hld2 : (rowS data2).length = data2.length := rowS_length data2
  have hdl : data.length ≤ 1000 := hx.data
  by_cases hpre : op = op2 ∧ a = a2 ∧ b = b2 ∧ name = name2 ∧ k = k2 ∧ n = n2 ∧ shape = shape2 ∧ data.length = data2.length
  · obtain ⟨rfl, rfl, rfl, rfl, rfl, rfl, rfl, hdd⟩ := hpre
    have hT : decide ((⟨op, a, b, name, shape, k, n, data⟩ : Nd) = ⟨op, a, b, name, shape, k, n, data2⟩) = decide (data = data2) := by
      rw [Bool.eq_iff_iff, decide_eq_true_eq, decide_eq_true_eq]
      exact ⟨fun e => by injection e, fun e => by rw [e]⟩
    rw [hT]
    rw [decide_eq_true (rfl : shape = shape)] at hsame
    clear hT hx hy
    refine vcall_of TOK_r10_Same HM Go.Proofs.Tryd.func15 rfl (by decide +kernel) (by decide +kernel) rfl ?_
    repeat' ((conv => whnf); first | ((with_reducible apply Xq); assumption) | (with_reducible first | apply Xa | (first | apply xi | apply xp | apply xP); omega | apply Xe | refine Xg (by assumption) ?_) | refine Xo (by assumption) ?_ | refine x_0 (by first | assumption | rfl) ?_ | refine x_1 (by first | assumption | rfl) ?_ | refine Or.inl ⟨rfl, ?_⟩ | (split <;> (first | (rename_i u h; clear u) | rename_i h) <;> (try rewrite [h]) <;> (first | replace h := dt h | replace h := df h | replace h := Nt h | replace h := Nf h | skip) <;> (try dsimp only at h) <;> (first | contradiction | (exfalso; omega) | skip)) | (refine Or.inl ⟨_, by assumption, ?_⟩; first | rintro _ rfl | skip))
    refine ⟨[2, 3, 5], [0, 1], fun m st => ∃ i : Nat, i ≤ data.length ∧ m = data.length - i ∧ data.take i = data2.take i ∧
      st = ⟨[(2, .bptr 0 0), (3, .bptr 1 0), (5, .int .i64 (i : Nat))], [.box 39 (Nd.cells ⟨op, a, b, name, shape, k, n, data⟩), .box 39 (Nd.cells ⟨op, a, b, name, shape, k, n, data2⟩)]⟩, rfl, ⟨data.length, 0, by omega, rfl, rfl, rfl⟩, ?_⟩
    rintro m _ ⟨i, hi, hm, ha, rfl⟩
    rcases Nat.lt_or_ge i data.length with hil | hge
    · have hil2 : i < data2.length := by omega
      have g := rowS_get hil
      have g2 := rowS_get hil2
      by_cases he : data[i] = data2[i]
      · repeat' ((conv => whnf); first | ((with_reducible apply Xq); assumption) | (with_reducible first | apply Xa | (first | apply xi | apply xp | apply xP); omega | apply Xe | refine Xg (by assumption) ?_) | refine Xo (by assumption) ?_ | refine x_0 (by first | assumption | rfl) ?_ | refine x_1 (by first | assumption | rfl) ?_ | refine Or.inl ⟨rfl, ?_⟩ | (split <;> (first | (rename_i u h; clear u) | rename_i h) <;> (try rewrite [h]) <;> (first | replace h := dt h | replace h := df h | replace h := Nt h | replace h := Nf h | skip) <;> (try dsimp only at h) <;> (first | contradiction | (exfalso; omega) | skip)) | (refine Or.inl ⟨_, by assumption, ?_⟩; first | rintro _ rfl | skip))
        refine ⟨by decide +kernel, [0, 1, 0, 7, 15, 0, 32, 0, 224, 480, 1023], by decide +kernel, ?_⟩
        repeat' ((conv => whnf); first | ((with_reducible apply Xq); assumption) | (with_reducible first | apply Xa | (first | apply xi | apply xp | apply xP); omega | apply Xe | refine Xg (by assumption) ?_) | refine Xo (by assumption) ?_ | refine x_0 (by first | assumption | rfl) ?_ | refine x_1 (by first | assumption | rfl) ?_ | refine Or.inl ⟨rfl, ?_⟩ | (split <;> (first | (rename_i u h; clear u) | rename_i h) <;> (try rewrite [h]) <;> (first | replace h := dt h | replace h := df h | replace h := Nt h | replace h := Nf h | skip) <;> (try dsimp only at h) <;> (first | contradiction | (exfalso; omega) | skip)) | (refine Or.inl ⟨_, by assumption, ?_⟩; first | rintro _ rfl | skip))
        exact ⟨[0, 1], data.length - (i + 1), rfl, by omega, i + 1, by omega, rfl, take_ext hil hil2 ha he, rfl⟩
      · rw [decide_eq_false (fun e : data = data2 => he (by subst e; rfl))]
        repeat' ((conv => whnf); first | ((with_reducible apply Xq); assumption) | (with_reducible first | apply Xa | (first | apply xi | apply xp | apply xP); omega | apply Xe | refine Xg (by assumption) ?_) | refine Xo (by assumption) ?_ | refine x_0 (by first | assumption | rfl) ?_ | refine x_1 (by first | assumption | rfl) ?_ | refine Or.inl ⟨rfl, ?_⟩ | (split <;> (first | (rename_i u h; clear u) | rename_i h) <;> (try rewrite [h]) <;> (first | replace h := dt h | replace h := df h | replace h := Nt h | replace h := Nf h | skip) <;> (try dsimp only at h) <;> (first | contradiction | (exfalso; omega) | skip)) | (refine Or.inl ⟨_, by assumption, ?_⟩; first | rintro _ rfl | skip))
        refine ⟨by decide +kernel, [0, 1, 0, 7, 15, 0, 32, 0, 224, 480, 1023], by decide +kernel, ?_⟩
        repeat' ((conv => whnf); first | ((with_reducible apply Xq); assumption) | (with_reducible first | apply Xa | (first | apply xi | apply xp | apply xP); omega | apply Xe | refine Xg (by assumption) ?_) | refine Xo (by assumption) ?_ | refine x_0 (by first | assumption | rfl) ?_ | refine x_1 (by first | assumption | rfl) ?_ | refine Or.inl ⟨rfl, ?_⟩ | (split <;> (first | (rename_i u h; clear u) | rename_i h) <;> (try rewrite [h]) <;> (first | replace h := dt h | replace h := df h | replace h := Nt h | replace h := Nf h | skip) <;> (try dsimp only at h) <;> (first | contradiction | (exfalso; omega) | skip)) | (refine Or.inl ⟨_, by assumption, ?_⟩; first | rintro _ rfl | skip))
        all_goals (conv => whnf)
        rfl
    · rw [List.take_of_length_le (by omega), List.take_of_length_le (by omega)] at ha
      rw [decide_eq_true ha]
      repeat' ((conv => whnf); first | ((with_reducible apply Xq); assumption) | (with_reducible first | apply Xa | (first | apply xi | apply xp | apply xP); omega | apply Xe | refine Xg (by assumption) ?_) | refine Xo (by assumption) ?_ | refine x_0 (by first | assumption | rfl) ?_ | refine x_1 (by first | assumption | rfl) ?_ | refine Or.inl ⟨rfl, ?_⟩ | (split <;> (first | (rename_i u h; clear u) | rename_i h) <;> (try rewrite [h]) <;> (first | replace h := dt h | replace h := df h | replace h := Nt h | replace h := Nf h | skip) <;> (try dsimp only at h) <;> (first | contradiction | (exfalso; omega) | skip)) | (refine Or.inl ⟨_, by assumption, ?_⟩; first | rintro _ rfl | skip))
      all_goals (conv => whnf)
      rfl
  · rw [decide_eq_false (fun e => hpre (by cases e; exact ⟨rfl, rfl, rfl, rfl, rfl, rfl, rfl, rfl⟩))]
    refine vcall_of TOK_r10_Same HM Go.Proofs.Tryd.func15 rfl (by decide +kernel) (by decide +kernel) rfl ?_
    repeat' ((conv => whnf); first | ((with_reducible apply Xq); assumption) | (with_reducible first | apply Xa | (first | apply xi | apply xp | apply xP); omega | apply Xe | refine Xg (by assumption) ?_) | refine Xo (by assumption) ?_ | refine x_0 (by first | assumption | rfl) ?_ | refine x_1 (by first | assumption | rfl) ?_ | refine Or.inl ⟨rfl, ?_⟩ | (split <;> (first | (rename_i u h; clear u) | rename_i h) <;> (try rewrite [h]) <;> (first | replace h := dt h | replace h := df h | replace h := Nt h | replace h := Nf h | skip) <;> (try dsimp only at h) <;> (first | contradiction | (exfalso; omega) | skip)) | (refine Or.inl ⟨_, by assumption, ?_⟩; first | rintro _ rfl | skip))
    all_goals first | ((conv => whnf); rfl) | (clear hsame hx hy; exfalso; apply hpre; simp_all; done) | (clear hsame hx hy; exfalso; apply hpre; simp_all; omega)
theorem Gr.ext' {g h : Gr} (h1 : g.loss = h.loss) (h2 : g.nodes = h.nodes) : g = h := by cases g; cases h; simp_all
open Classical in
set_option maxHeartbeats 4000000 in
theorem c_r10_Equal (g h : Gr) (hg : ∀ x ∈ g.nodes, x.Sm) (hh : ∀ x ∈ h.nodes, x.Sm) (hgl : g.nodes.length ≤ 1000) : VCall Go.Proofs.Tryd.prog gl 9 [.agg g.cells, .agg h.cells] (fun r => r = .bool (decide (g = h))) := by
  obtain ⟨l, p⟩ := g
  obtain ⟨l2, p2⟩ := h
  have hld : (rowN l).length = l.length := rowN_length l
  have hld2 : (rowN l2).length = l2.length := rowN_length l2
  dsimp only at hg hh hgl
  by_cases hpre : p = p2 ∧ l.length = l2.length
  · obtain ⟨rfl, hdd⟩ := hpre
    have hT : decide ((⟨l, p⟩ : Gr) = ⟨l2, p⟩) = decide (l = l2) := by
      rw [Bool.eq_iff_iff, decide_eq_true_eq, decide_eq_true_eq]
      exact ⟨fun e => by injection e, fun e => by rw [e]⟩
    rw [hT]
    clear hT
    refine vcall_of TOK_r10_Equal HM Go.Proofs.Tryd.func9 rfl (by decide +kernel) (by decide +kernel) rfl ?_
    repeat' ((conv => whnf); first | ((with_reducible apply Xq); assumption) | (with_reducible first | apply Xa | (first | apply xi | apply xp | apply xP); omega | apply Xe | refine Xg (by assumption) ?_) | refine Xo (by assumption) ?_ | refine x_0 (by first | assumption | rfl) ?_ | refine x_1 (by first | assumption | rfl) ?_ | refine Or.inl ⟨rfl, ?_⟩ | (split <;> (first | (rename_i u h; clear u) | rename_i h) <;> (try rewrite [h]) <;> (first | replace h := dt h | replace h := df h | replace h := Nt h | replace h := Nf h | skip) <;> (try dsimp only at h) <;> (first | contradiction | (exfalso; omega) | skip)) | (refine Or.inl ⟨_, by assumption, ?_⟩; first | rintro _ rfl | skip))
    refine ⟨[2, 3, 5], [0, 1], fun m st => ∃ i : Nat, i ≤ l.length ∧ m = l.length - i ∧ l.take i = l2.take i ∧
      st = ⟨[(2, .bptr 0 0), (3, .bptr 1 0), (5, .int .i64 (i : Nat))], [.box 24 (Gr.cells ⟨l, p⟩), .box 24 (Gr.cells ⟨l2, p⟩)]⟩, rfl, ⟨l.length, 0, by omega, rfl, rfl, rfl⟩, ?_⟩
    rintro m _ ⟨i, hi, hm, ha, rfl⟩
    rcases Nat.lt_or_ge i l.length with hil | hge
    · have hil2 : i < l2.length := by omega
      have g := rowN_get hil
      have g2 := rowN_get hil2
      have hs := c_r10_Same gl l[i] l2[i] (hg _ (List.getElem_mem hil)) (hh _ (List.getElem_mem hil2))
      by_cases he : l[i] = l2[i]
      · rw [decide_eq_true he] at hs
        repeat' ((conv => whnf); first | ((with_reducible apply Xq); assumption) | (with_reducible first | apply Xa | (first | apply xi | apply xp | apply xP); omega | apply Xe | refine Xg (by assumption) ?_) | refine Xo (by assumption) ?_ | refine x_0 (by first | assumption | rfl) ?_ | refine x_1 (by first | assumption | rfl) ?_ | refine Or.inl ⟨rfl, ?_⟩ | (split <;> (first | (rename_i u h; clear u) | rename_i h) <;> (try rewrite [h]) <;> (first | replace h := dt h | replace h := df h | replace h := Nt h | replace h := Nf h | skip) <;> (try dsimp only at h) <;> (first | contradiction | (exfalso; omega) | skip)) | (refine Or.inl ⟨_, by assumption, ?_⟩; first | rintro _ rfl | skip))
        refine ⟨by decide +kernel, [0, 1, 0, 7, 15, 0, 32, 0, 224, 480, 1023, 2047], by decide +kernel, ?_⟩
        repeat' ((conv => whnf); first | ((with_reducible apply Xq); assumption) | (with_reducible first | apply Xa | (first | apply xi | apply xp | apply xP); omega | apply Xe | refine Xg (by assumption) ?_) | refine Xo (by assumption) ?_ | refine x_0 (by first | assumption | rfl) ?_ | refine x_1 (by first | assumption | rfl) ?_ | refine Or.inl ⟨rfl, ?_⟩ | (split <;> (first | (rename_i u h; clear u) | rename_i h) <;> (try rewrite [h]) <;> (first | replace h := dt h | replace h := df h | replace h := Nt h | replace h := Nf h | skip) <;> (try dsimp only at h) <;> (first | contradiction | (exfalso; omega) | skip)) | (refine Or.inl ⟨_, by assumption, ?_⟩; first | rintro _ rfl | skip))
        exact ⟨[0, 1], l.length - (i + 1), rfl, by omega, i + 1, by omega, rfl, take_ext hil hil2 ha he, rfl⟩
      · rw [decide_eq_false he] at hs
        rw [decide_eq_false (fun e : l = l2 => he (by subst e; rfl))]
        repeat' ((conv => whnf); first | ((with_reducible apply Xq); assumption) | (with_reducible first | apply Xa | (first | apply xi | apply xp | apply xP); omega | apply Xe | refine Xg (by assumption) ?_) | refine Xo (by assumption) ?_ | refine x_0 (by first | assumption | rfl) ?_ | refine x_1 (by first | assumption | rfl) ?_ | refine Or.inl ⟨rfl, ?_⟩ | (split <;> (first | (rename_i u h; clear u) | rename_i h) <;> (try rewrite [h]) <;> (first | replace h := dt h | replace h := df h | replace h := Nt h | replace h := Nf h | skip) <;> (try dsimp only at h) <;> (first | contradiction | (exfalso; omega) | skip)) | (refine Or.inl ⟨_, by assumption, ?_⟩; first | rintro _ rfl | skip))
        refine ⟨by decide +kernel, [0, 1, 0, 7, 15, 0, 32, 0, 224, 480, 1023, 2047], by decide +kernel, ?_⟩
        repeat' ((conv => whnf); first | ((with_reducible apply Xq); assumption) | (with_reducible first | apply Xa | (first | apply xi | apply xp | apply xP); omega | apply Xe | refine Xg (by assumption) ?_) | refine Xo (by assumption) ?_ | refine x_0 (by first | assumption | rfl) ?_ | refine x_1 (by first | assumption | rfl) ?_ | refine Or.inl ⟨rfl, ?_⟩ | (split <;> (first | (rename_i u h; clear u) | rename_i h) <;> (try rewrite [h]) <;> (first | replace h := dt h | replace h := df h | replace h := Nt h | replace h := Nf h | skip) <;> (try dsimp only at h) <;> (first | contradiction | (exfalso; omega) | skip)) | (refine Or.inl ⟨_, by assumption, ?_⟩; first | rintro _ rfl | skip))
        all_goals (conv => whnf)
        rfl
    · rw [List.take_of_length_le (by omega), List.take_of_length_le (by omega)] at ha
      rw [decide_eq_true ha]
      repeat' ((conv => whnf); first | ((with_reducible apply Xq); assumption) | (with_reducible first | apply Xa | (first | apply xi | apply xp | apply xP); omega | apply Xe | refine Xg (by assumption) ?_) | refine Xo (by assumption) ?_ | refine x_0 (by first | assumption | rfl) ?_ | refine x_1 (by first | assumption | rfl) ?_ | refine Or.inl ⟨rfl, ?_⟩ | (split <;> (first | (rename_i u h; clear u) | rename_i h) <;> (try rewrite [h]) <;> (first | replace h := dt h | replace h := df h | replace h := Nt h | replace h := Nf h | skip) <;> (try dsimp only at h) <;> (first | contradiction | (exfalso; omega) | skip)) | (refine Or.inl ⟨_, by assumption, ?_⟩; first | rintro _ rfl | skip))
      all_goals (conv => whnf)
      rfl
  · rw [decide_eq_false (fun e => hpre (by cases e; exact ⟨rfl, rfl⟩))]
    refine vcall_of TOK_r10_Equal HM Go.Proofs.Tryd.func9 rfl (by decide +kernel) (by decide +kernel) rfl ?_
    repeat' ((conv => whnf); first | ((with_reducible apply Xq); assumption) | (with_reducible first | apply Xa | (first | apply xi | apply xp | apply xP); omega | apply Xe | refine Xg (by assumption) ?_) | refine Xo (by assumption) ?_ | refine x_0 (by first | assumption | rfl) ?_ | refine x_1 (by first | assumption | rfl) ?_ | refine Or.inl ⟨rfl, ?_⟩ | (split <;> (first | (rename_i u h; clear u) | rename_i h) <;> (try rewrite [h]) <;> (first | replace h := dt h | replace h := df h | replace h := Nt h | replace h := Nf h | skip) <;> (try dsimp only at h) <;> (first | contradiction | (exfalso; omega) | skip)) | (refine Or.inl ⟨_, by assumption, ?_⟩; first | rintro _ rfl | skip))
    all_goals first | ((conv => whnf); rfl) | (exfalso; apply hpre; simp_all; done) | (exfalso; apply hpre; simp_all; omega)
end Go.V
namespace Go.V
open Go.N
set_option maxRecDepth 20000
def T_gRight : Tab := [(24, ⟨.strc [(0, 1, false), (1, 1, false)], 2, 32, (.agg #[(.slice none 0 0), (.int .i64 0)]), [8, 0]⟩), (22, ⟨.slice 39, 1, 24, (.slice none 0 0), [8]⟩), (39, ⟨.strc [(0, 1, false), (1, 1, false), (2, 1, false), (3, 1, false), (4, 1, false), (5, 1, false), (6, 1, false), (7, 1, false)], 8, 120, (.agg #[(.string .empty), (.int .i64 0), (.int .i64 0), (.string .empty), (.slice none 0 0), (.string .empty), (.int .i64 0), (.slice none 0 0)]), [0, 0, 0, 0, 1, 0, 0, 1]⟩), (3, ⟨.int .i64, 1, 8, (.int .i64 0), [0]⟩), (25, ⟨.slice 3, 1, 24, (.slice none 0 0), [1]⟩), (45, ⟨.map 3, 1, 8, (.map none), [0]⟩), (4, ⟨.bool, 1, 1, (.bool false), [0]⟩), (9, ⟨.str, 1, 16, (.string .empty), [0]⟩)]
theorem TOK_gRight : TOK Go.Proofs.Tryd.prog T_gRight := ⟨⟨info_of Go.Proofs.Tryd.type24 rfl, by decide +kernel, by decide +kernel⟩, ⟨⟨info_of Go.Proofs.Tryd.type22 rfl, by decide +kernel, by decide +kernel⟩, ⟨⟨info_of Go.Proofs.Tryd.type39 rfl, by decide +kernel, by decide +kernel⟩, ⟨⟨info_of Go.Proofs.Tryd.type3 rfl, by decide +kernel, by decide +kernel⟩, ⟨⟨info_of Go.Proofs.Tryd.type25 rfl, by decide +kernel, by decide +kernel⟩, ⟨⟨info_of Go.Proofs.Tryd.type45 rfl, by decide +kernel, by decide +kernel⟩, ⟨⟨info_of Go.Proofs.Tryd.type4 rfl, by decide +kernel, by decide +kernel⟩, ⟨⟨info_of Go.Proofs.Tryd.type9 rfl, by decide +kernel, by decide +kernel⟩, trivial⟩⟩⟩⟩⟩⟩⟩⟩
theorem okZ_sh {r : List Int × Bool} {s : List Int} (h : okZ r = some s) : okShape s = true := by
  rw [okZ] at h
  by_cases hh : (r.2 && okShape r.1) = true
  · rw [if_pos hh] at h
    cases h
    rw [Bool.and_eq_true] at hh
    exact hh.2
  · rw [if_neg hh] at h; cases h
theorem inferN_sh {l : List Nd} {x : Nd} {s : List Int} (h : inferN l x = some s) : okShape s = true := by
  cases hp : opParts x.op with
  | none => rw [inferN_none hp] at h; cases h
  | some m =>
    cases hf : fitN l x m with
    | false => rw [inferN_bad hp hf] at h; cases h
    | true => rw [inferN_ok hp hf] at h; exact okZ_sh h
def renK (kv : List (ByteArray × AV)) : List (ByteArray × AV) := kv.map fun kx => (kx.1, ren [0, 1] kx.2)
theorem map_setK (f : AV → AV) (x : ByteArray) (v : AV) : ∀ l : List (ByteArray × AV), (setK l x v).map (fun kx => (kx.1, f kx.2)) = setK (l.map fun kx => (kx.1, f kx.2)) x (f v)
  | [] => rfl
  | (k, w) :: r => by
    unfold setK
    simp only [List.map_cons]
    split
    · rfl
    · simp only [List.map_cons, map_setK f x v r]
theorem renK_set {kv : List (ByteArray × AV)} (h : renK kv = kv) (x : ByteArray) (e : Int) : renK (setK kv x (.int .i64 e)) = setK kv x (.int .i64 e) := by
  rw [renK, map_setK, show (kv.map fun kx => (kx.1, ren [0, 1] kx.2)) = kv from h]; simp [ren]
set_option maxHeartbeats 4000000 in
theorem c_gRight (g : Gr) (hs : ∀ x ∈ g.nodes, x.Sm) (hl : g.nodes.length ≤ 1000) : VCall Go.Proofs.Tryd.prog GL 12 [.agg g.cells] (fun r => r = .bool (grOK g)) := by
  obtain ⟨l, p⟩ := g
  have hlr : (rowN l).length = l.length := rowN_length l
  dsimp only at hs hl
  show VCall _ _ _ [.agg [.ro 8 (rowN l), .int .i64 p]] _
  cases hpre : preG ⟨l, p⟩
  · rw [show grOK ⟨l, p⟩ = false by rw [grOK, hpre]; rfl]
    by_cases h1 : 1 ≤ l.length
    · by_cases h2 : l.length ≤ 200
      · cases h3 : inR p l
        · have := inR_not h3
          refine vcall_of TOK_gRight HM Go.Proofs.Tryd.func12 rfl (by decide +kernel) (by decide +kernel) rfl ?_
          repeat' ((conv => whnf); first | ((with_reducible apply Xq); assumption) | (with_reducible first | apply Xa | (first | apply xi | apply xp | apply xP); omega | apply Xe | refine Xg (by assumption) ?_) | refine Xo (by assumption) ?_ | refine x_0 (by first | assumption | rfl) ?_ | refine x_1 (by first | assumption | rfl) ?_ | refine Or.inl ⟨rfl, ?_⟩ | (split <;> (first | (rename_i u h; clear u) | rename_i h) <;> (try rewrite [h]) <;> (first | replace h := dt h | replace h := df h | replace h := Nt h | replace h := Nf h | skip) <;> (try dsimp only at h) <;> (first | contradiction | (exfalso; omega) | skip)) | (refine Or.inl ⟨_, by assumption, ?_⟩; first | rintro _ rfl | skip))
          all_goals (conv => whnf)
          all_goals rfl
        · obtain ⟨q, rfl, hq⟩ := inR_nat h3
          have h4 : l[q].shape ≠ [] := fun e => by
            simp only [preG, h1, h2, h3, shAt_nat hq, e] at hpre
            simp at hpre
          obtain ⟨_, _, _, _, _, _, _, g⟩ := rowN_sh hq
          generalize l[q].shape = A at g h4
          have h5 : A.length ≠ 0 := fun e => h4 (List.length_eq_zero_iff.1 e)
          have hA := rowZ_length A
          refine vcall_of TOK_gRight HM Go.Proofs.Tryd.func12 rfl (by decide +kernel) (by decide +kernel) rfl ?_
          repeat' ((conv => whnf); first | ((with_reducible apply Xq); assumption) | (with_reducible first | apply Xa | (first | apply xi | apply xp | apply xP); omega | apply Xe | refine Xg (by assumption) ?_) | refine Xo (by assumption) ?_ | refine x_0 (by first | assumption | rfl) ?_ | refine x_1 (by first | assumption | rfl) ?_ | refine Or.inl ⟨rfl, ?_⟩ | (split <;> (first | (rename_i u h; clear u) | rename_i h) <;> (try rewrite [h]) <;> (first | replace h := dt h | replace h := df h | replace h := Nt h | replace h := Nf h | skip) <;> (try dsimp only at h) <;> (first | contradiction | (exfalso; omega) | skip)) | (refine Or.inl ⟨_, by assumption, ?_⟩; first | rintro _ rfl | skip))
          all_goals (conv => whnf)
          all_goals rfl
      · refine vcall_of TOK_gRight HM Go.Proofs.Tryd.func12 rfl (by decide +kernel) (by decide +kernel) rfl ?_
        repeat' ((conv => whnf); first | ((with_reducible apply Xq); assumption) | (with_reducible first | apply Xa | (first | apply xi | apply xp | apply xP); omega | apply Xe | refine Xg (by assumption) ?_) | refine Xo (by assumption) ?_ | refine x_0 (by first | assumption | rfl) ?_ | refine x_1 (by first | assumption | rfl) ?_ | refine Or.inl ⟨rfl, ?_⟩ | (split <;> (first | (rename_i u h; clear u) | rename_i h) <;> (try rewrite [h]) <;> (first | replace h := dt h | replace h := df h | replace h := Nt h | replace h := Nf h | skip) <;> (try dsimp only at h) <;> (first | contradiction | (exfalso; omega) | skip)) | (refine Or.inl ⟨_, by assumption, ?_⟩; first | rintro _ rfl | skip))
        all_goals (conv => whnf)
        all_goals rfl
    · refine vcall_of TOK_gRight HM Go.Proofs.Tryd.func12 rfl (by decide +kernel) (by decide +kernel) rfl ?_
      repeat' ((conv => whnf); first | ((with_reducible apply Xq); assumption) | (with_reducible first | apply Xa | (first | apply xi | apply xp | apply xP); omega | apply Xe | refine Xg (by assumption) ?_) | refine Xo (by assumption) ?_ | refine x_0 (by first | assumption | rfl) ?_ | refine x_1 (by first | assumption | rfl) ?_ | refine Or.inl ⟨rfl, ?_⟩ | (split <;> (first | (rename_i u h; clear u) | rename_i h) <;> (try rewrite [h]) <;> (first | replace h := dt h | replace h := df h | replace h := Nt h | replace h := Nf h | skip) <;> (try dsimp only at h) <;> (first | contradiction | (exfalso; omega) | skip)) | (refine Or.inl ⟨_, by assumption, ?_⟩; first | rintro _ rfl | skip))
      all_goals (conv => whnf)
      all_goals rfl
  have hpre2 := hpre
  simp only [preG, Bool.and_eq_true, decide_eq_true_eq] at hpre2
  obtain ⟨⟨⟨h1, h2⟩, h3⟩, h4⟩ := hpre2
  obtain ⟨q, rfl, hq⟩ := inR_nat h3
  rw [shAt_nat hq] at h4
  obtain ⟨_, _, _, _, _, _, _, g⟩ := rowN_sh hq
  rw [h4] at g
  rw [show grOK ⟨l, (q : Int)⟩ = allTo l l.length by rw [grOK, hpre]; rfl]
  clear hpre h3 h4
  refine vcall_of TOK_gRight HM Go.Proofs.Tryd.func12 rfl (by decide +kernel) (by decide +kernel) rfl ?_
  repeat' ((conv => whnf); first | ((with_reducible apply Xq); assumption) | (with_reducible first | apply Xa | (first | apply xi | apply xp | apply xP); omega | apply Xe | refine Xg (by assumption) ?_) | refine Xo (by assumption) ?_ | refine x_0 (by first | assumption | rfl) ?_ | refine x_1 (by first | assumption | rfl) ?_ | refine Or.inl ⟨rfl, ?_⟩ | (split <;> (first | (rename_i u h; clear u) | rename_i h) <;> (try rewrite [h]) <;> (first | replace h := dt h | replace h := df h | replace h := Nt h | replace h := Nf h | skip) <;> (try dsimp only at h) <;> (first | contradiction | (exfalso; omega) | skip)) | (refine Or.inl ⟨_, by assumption, ?_⟩; first | rintro _ rfl | skip))
  refine ⟨[1, 3, 44, 45, 46], [0, 1], fun m st => ∃ (i : Nat) (kv : List (ByteArray × AV)), i ≤ l.length ∧ m = l.length - i ∧ allTo l i = true ∧ MapOK kv (l.take i) ∧ renK kv = kv ∧
    st = ⟨[(1, .bptr 0 0), (3, .map 1), (44, .ro 8 (rowN l)), (45, .int .i64 ((rowN l).length : Nat)), (46, .int .i64 (i : Nat))], [.box 24 [.ro 8 (rowN l), .int .i64 (q : Nat)], .kv kv]⟩, rfl,
    ⟨l.length, 0, [], by omega, rfl, rfl, mapOK_nil, rfl, rfl⟩, ?_⟩
  rintro m _ ⟨i, kv, hi, hm, ha, hkv, hrk, rfl⟩
  rcases Nat.lt_or_ge i l.length with hil | hge
  · obtain ⟨x, hx⟩ : ∃ x, x = l[i] := ⟨_, rfl⟩
    have g : (rowN l)[i]? = some x.cells := by rw [hx]; exact rowN_get hil
    have hnd : ndAt l i = ndOK (l.take i) x := by rw [hx]; exact ndAt_lt hil
    have hxs : x.Sm := by rw [hx]; exact hs _ (List.getElem_mem hil)
    have htk : l.take (i + 1) = l.take i ++ [x] := by rw [hx]; exact List.take_succ_eq_append_getElem hil
    clear hx
    have hinf := c_gInfer (l.take i) x hxs (fun y hy => hs y (List.mem_of_mem_take hy)) (by rw [List.length_take]; omega)
    have hcl := cnt_le (l.take i) x.name
    have hcp := @cnt_pos (l.take i) x
    have hsn := @mapOK_snoc kv (l.take i) x ((cntN (l.take i) x.name : Nat) + 1) hkv rfl
    rw [← htk] at hsn
    have hrs := renK_set hrk x.name ((cntN (l.take i) x.name : Nat) + 1)
    have hmp := hkv x.name
    rw [List.length_take] at hcl
    generalize cntN (l.take i) x.name = c at hcl hcp hsn hmp hrs
    have hso := allTo_succ l i
    rw [ha, hnd, ndOK, Bool.true_and] at hso
    have hbad : (decide (inferN (l.take i) x = some x.shape) && (l.take i).all (newName x)) = false → allTo l l.length = false := fun h => allTo_bad hil (by rw [hnd, ndOK]; exact h)
    have hnn : x.name = ⟨#[]⟩ → (l.take i).all (newName x) = true := fun e => by rw [List.all_eq_true]; intro y _; simp [newName, e]
    have hlen1 := hxs.shape
    cases hI : inferN (l.take i) x with
    | none =>
      rw [hbad (by simp [hI])]
      rw [hI] at hinf
      obtain ⟨op, a, b, name, shape, k, n, data⟩ := x
      repeat' ((conv => whnf); first | ((with_reducible apply Xq); assumption) | (with_reducible first | apply Xa | (first | apply xi | apply xp | apply xP); omega | apply Xe | refine Xg (by assumption) ?_) | refine Xo (by assumption) ?_ | refine x_0 (by first | assumption | rfl) ?_ | refine x_1 (by first | assumption | rfl) ?_ | refine Or.inl ⟨rfl, ?_⟩ | (split <;> (first | (rename_i u h; clear u) | rename_i h) <;> (try rewrite [h]) <;> (first | replace h := dt h | replace h := df h | replace h := Nt h | replace h := Nf h | skip) <;> (try dsimp only at h) <;> (first | contradiction | (exfalso; omega) | skip)) | (refine Or.inl ⟨_, by assumption, ?_⟩; first | rintro _ rfl | skip))
      refine ⟨by decide +kernel, [0, 1, 0, 7, 0, 31, 63, 127, 127, 255, 1023], by decide +kernel, ?_⟩
      repeat' ((conv => whnf); first | ((with_reducible apply Xq); assumption) | (with_reducible first | apply Xa | (first | apply xi | apply xp | apply xP); omega | apply Xe | refine Xg (by assumption) ?_) | refine Xo (by assumption) ?_ | refine x_0 (by first | assumption | rfl) ?_ | refine x_1 (by first | assumption | rfl) ?_ | refine Or.inl ⟨rfl, ?_⟩ | (split <;> (first | (rename_i u h; clear u) | rename_i h) <;> (try rewrite [h]) <;> (first | replace h := dt h | replace h := df h | replace h := Nt h | replace h := Nf h | skip) <;> (try dsimp only at h) <;> (first | contradiction | (exfalso; omega) | skip)) | (refine Or.inl ⟨_, by assumption, ?_⟩; first | rintro _ rfl | skip))
      refine ⟨Int.le_refl _, by omega, by omega, rowN (l.take i), sl_take l i, ?_⟩
      repeat' ((conv => whnf); first | ((with_reducible apply Xq); assumption) | (with_reducible first | apply Xa | (first | apply xi | apply xp | apply xP); omega | apply Xe | refine Xg (by assumption) ?_) | refine Xo (by assumption) ?_ | refine x_0 (by first | assumption | rfl) ?_ | refine x_1 (by first | assumption | rfl) ?_ | refine Or.inl ⟨rfl, ?_⟩ | (split <;> (first | (rename_i u h; clear u) | rename_i h) <;> (try rewrite [h]) <;> (first | replace h := dt h | replace h := df h | replace h := Nt h | replace h := Nf h | skip) <;> (try dsimp only at h) <;> (first | contradiction | (exfalso; omega) | skip)) | (refine Or.inl ⟨_, by assumption, ?_⟩; first | rintro _ rfl | skip))
      all_goals (conv => whnf)
      all_goals rfl
    | some s =>
      rw [hI] at hinf hbad hso
      have hs2 : s.length ≤ 4 := by
        have : okShape s = true := inferN_sh hI
        exact okShape_len this
      have hsm := c_shape_Same GL s x.shape (by omega) (by omega)
      by_cases hss : s = x.shape
      · rw [decide_eq_true hss] at hsm
        by_cases hn : x.name = ⟨#[]⟩
        · have hgo : allTo l (i + 1) = true := hso.trans (by rw [hnn hn, hss]; simp)
          obtain ⟨op, a, b, name, shape, k, n, data⟩ := x
          repeat' ((conv => whnf); first | ((with_reducible apply Xq); assumption) | (with_reducible first | apply Xa | (first | apply xi | apply xp | apply xP); omega | apply Xe | refine Xg (by assumption) ?_) | refine Xo (by assumption) ?_ | refine x_0 (by first | assumption | rfl) ?_ | refine x_1 (by first | assumption | rfl) ?_ | refine Or.inl ⟨rfl, ?_⟩ | (split <;> (first | (rename_i u h; clear u) | rename_i h) <;> (try rewrite [h]) <;> (first | replace h := dt h | replace h := df h | replace h := Nt h | replace h := Nf h | skip) <;> (try dsimp only at h) <;> (first | contradiction | (exfalso; omega) | skip)) | (refine Or.inl ⟨_, by assumption, ?_⟩; first | rintro _ rfl | skip))
          refine ⟨by decide +kernel, [0, 1, 0, 7, 0, 31, 63, 127, 127, 255, 1023], by decide +kernel, ?_⟩
          repeat' ((conv => whnf); first | ((with_reducible apply Xq); assumption) | (with_reducible first | apply Xa | (first | apply xi | apply xp | apply xP); omega | apply Xe | refine Xg (by assumption) ?_) | refine Xo (by assumption) ?_ | refine x_0 (by first | assumption | rfl) ?_ | refine x_1 (by first | assumption | rfl) ?_ | refine Or.inl ⟨rfl, ?_⟩ | (split <;> (first | (rename_i u h; clear u) | rename_i h) <;> (try rewrite [h]) <;> (first | replace h := dt h | replace h := df h | replace h := Nt h | replace h := Nf h | skip) <;> (try dsimp only at h) <;> (first | contradiction | (exfalso; omega) | skip)) | (refine Or.inl ⟨_, by assumption, ?_⟩; first | rintro _ rfl | skip))
          refine ⟨Int.le_refl _, by omega, by omega, rowN (l.take i), sl_take l i, ?_⟩
          repeat' ((conv => whnf); first | ((with_reducible apply Xq); assumption) | (with_reducible first | apply Xa | (first | apply xi | apply xp | apply xP); omega | apply Xe | refine Xg (by assumption) ?_) | refine Xo (by assumption) ?_ | refine x_0 (by first | assumption | rfl) ?_ | refine x_1 (by first | assumption | rfl) ?_ | refine Or.inl ⟨rfl, ?_⟩ | (split <;> (first | (rename_i u h; clear u) | rename_i h) <;> (try rewrite [h]) <;> (first | replace h := dt h | replace h := df h | replace h := Nt h | replace h := Nf h | skip) <;> (try dsimp only at h) <;> (first | contradiction | (exfalso; omega) | skip)) | (refine Or.inl ⟨_, by assumption, ?_⟩; first | rintro _ rfl | skip))
          all_goals exact ⟨[0, 1], l.length - (i + 1), rfl, by omega, i + 1, _, by omega, rfl, hgo, hsn, hrs, Eq.trans rfl (congrArg (fun z => (⟨[(1, .bptr 0 0), (3, .map 1), (44, .ro 8 (rowN l)), (45, .int .i64 ((rowN l).length : Nat)), (46, .int .i64 ((i + 1 : Nat) : Int))], [.box 24 [.ro 8 (rowN l), .int .i64 (q : Nat)], .kv z]⟩ : St)) hrs)⟩
        · by_cases hc : 0 < c
          · have hT := hbad (by rw [(hcp hn).1 hc]; simp)
            rw [hT]
            obtain ⟨op, a, b, name, shape, k, n, data⟩ := x
            repeat' ((conv => whnf); first | ((with_reducible apply Xq); assumption) | (with_reducible first | apply Xa | (first | apply xi | apply xp | apply xP); omega | apply Xe | refine Xg (by assumption) ?_) | refine Xo (by assumption) ?_ | refine x_0 (by first | assumption | rfl) ?_ | refine x_1 (by first | assumption | rfl) ?_ | refine Or.inl ⟨rfl, ?_⟩ | (split <;> (first | (rename_i u h; clear u) | rename_i h) <;> (try rewrite [h]) <;> (first | replace h := dt h | replace h := df h | replace h := Nt h | replace h := Nf h | skip) <;> (try dsimp only at h) <;> (first | contradiction | (exfalso; omega) | skip)) | (refine Or.inl ⟨_, by assumption, ?_⟩; first | rintro _ rfl | skip))
            refine ⟨by decide +kernel, [0, 1, 0, 7, 0, 31, 63, 127, 127, 255, 1023], by decide +kernel, ?_⟩
            repeat' ((conv => whnf); first | ((with_reducible apply Xq); assumption) | (with_reducible first | apply Xa | (first | apply xi | apply xp | apply xP); omega | apply Xe | refine Xg (by assumption) ?_) | refine Xo (by assumption) ?_ | refine x_0 (by first | assumption | rfl) ?_ | refine x_1 (by first | assumption | rfl) ?_ | refine Or.inl ⟨rfl, ?_⟩ | (split <;> (first | (rename_i u h; clear u) | rename_i h) <;> (try rewrite [h]) <;> (first | replace h := dt h | replace h := df h | replace h := Nt h | replace h := Nf h | skip) <;> (try dsimp only at h) <;> (first | contradiction | (exfalso; omega) | skip)) | (refine Or.inl ⟨_, by assumption, ?_⟩; first | rintro _ rfl | skip))
            refine ⟨Int.le_refl _, by omega, by omega, rowN (l.take i), sl_take l i, ?_⟩
            repeat' ((conv => whnf); first | ((with_reducible apply Xq); assumption) | (with_reducible first | apply Xa | (first | apply xi | apply xp | apply xP); omega | apply Xe | refine Xg (by assumption) ?_) | refine Xo (by assumption) ?_ | refine x_0 (by first | assumption | rfl) ?_ | refine x_1 (by first | assumption | rfl) ?_ | refine Or.inl ⟨rfl, ?_⟩ | (split <;> (first | (rename_i u h; clear u) | rename_i h) <;> (try rewrite [h]) <;> (first | replace h := dt h | replace h := df h | replace h := Nt h | replace h := Nf h | skip) <;> (try dsimp only at h) <;> (first | contradiction | (exfalso; omega) | skip)) | (refine Or.inl ⟨_, by assumption, ?_⟩; first | rintro _ rfl | skip))
            all_goals (conv => whnf)
            all_goals rfl
          · have hall : (l.take i).all (newName x) = true := by
              cases h : (l.take i).all (newName x)
              · exact absurd ((hcp hn).2 h) hc
              · rfl
            have hgo : allTo l (i + 1) = true := hso.trans (by rw [hall, hss]; simp)
            obtain ⟨op, a, b, name, shape, k, n, data⟩ := x
            repeat' ((conv => whnf); first | ((with_reducible apply Xq); assumption) | (with_reducible first | apply Xa | (first | apply xi | apply xp | apply xP); omega | apply Xe | refine Xg (by assumption) ?_) | refine Xo (by assumption) ?_ | refine x_0 (by first | assumption | rfl) ?_ | refine x_1 (by first | assumption | rfl) ?_ | refine Or.inl ⟨rfl, ?_⟩ | (split <;> (first | (rename_i u h; clear u) | rename_i h) <;> (try rewrite [h]) <;> (first | replace h := dt h | replace h := df h | replace h := Nt h | replace h := Nf h | skip) <;> (try dsimp only at h) <;> (first | contradiction | (exfalso; omega) | skip)) | (refine Or.inl ⟨_, by assumption, ?_⟩; first | rintro _ rfl | skip))
            refine ⟨by decide +kernel, [0, 1, 0, 7, 0, 31, 63, 127, 127, 255, 1023], by decide +kernel, ?_⟩
            repeat' ((conv => whnf); first | ((with_reducible apply Xq); assumption) | (with_reducible first | apply Xa | (first | apply xi | apply xp | apply xP); omega | apply Xe | refine Xg (by assumption) ?_) | refine Xo (by assumption) ?_ | refine x_0 (by first | assumption | rfl) ?_ | refine x_1 (by first | assumption | rfl) ?_ | refine Or.inl ⟨rfl, ?_⟩ | (split <;> (first | (rename_i u h; clear u) | rename_i h) <;> (try rewrite [h]) <;> (first | replace h := dt h | replace h := df h | replace h := Nt h | replace h := Nf h | skip) <;> (try dsimp only at h) <;> (first | contradiction | (exfalso; omega) | skip)) | (refine Or.inl ⟨_, by assumption, ?_⟩; first | rintro _ rfl | skip))
            refine ⟨Int.le_refl _, by omega, by omega, rowN (l.take i), sl_take l i, ?_⟩
            repeat' ((conv => whnf); first | ((with_reducible apply Xq); assumption) | (with_reducible first | apply Xa | (first | apply xi | apply xp | apply xP); omega | apply Xe | refine Xg (by assumption) ?_) | refine Xo (by assumption) ?_ | refine x_0 (by first | assumption | rfl) ?_ | refine x_1 (by first | assumption | rfl) ?_ | refine Or.inl ⟨rfl, ?_⟩ | (split <;> (first | (rename_i u h; clear u) | rename_i h) <;> (try rewrite [h]) <;> (first | replace h := dt h | replace h := df h | replace h := Nt h | replace h := Nf h | skip) <;> (try dsimp only at h) <;> (first | contradiction | (exfalso; omega) | skip)) | (refine Or.inl ⟨_, by assumption, ?_⟩; first | rintro _ rfl | skip))
            all_goals exact ⟨[0, 1], l.length - (i + 1), rfl, by omega, i + 1, _, by omega, rfl, hgo, hsn, hrs, Eq.trans rfl (congrArg (fun z => (⟨[(1, .bptr 0 0), (3, .map 1), (44, .ro 8 (rowN l)), (45, .int .i64 ((rowN l).length : Nat)), (46, .int .i64 ((i + 1 : Nat) : Int))], [.box 24 [.ro 8 (rowN l), .int .i64 (q : Nat)], .kv z]⟩ : St)) hrs)⟩
      · rw [decide_eq_false hss] at hsm
        rw [hbad (by simp [hss])]
        obtain ⟨op, a, b, name, shape, k, n, data⟩ := x
        repeat' ((conv => whnf); first | ((with_reducible apply Xq); assumption) | (with_reducible first | apply Xa | (first | apply xi | apply xp | apply xP); omega | apply Xe | refine Xg (by assumption) ?_) | refine Xo (by assumption) ?_ | refine x_0 (by first | assumption | rfl) ?_ | refine x_1 (by first | assumption | rfl) ?_ | refine Or.inl ⟨rfl, ?_⟩ | (split <;> (first | (rename_i u h; clear u) | rename_i h) <;> (try rewrite [h]) <;> (first | replace h := dt h | replace h := df h | replace h := Nt h | replace h := Nf h | skip) <;> (try dsimp only at h) <;> (first | contradiction | (exfalso; omega) | skip)) | (refine Or.inl ⟨_, by assumption, ?_⟩; first | rintro _ rfl | skip))
        refine ⟨by decide +kernel, [0, 1, 0, 7, 0, 31, 63, 127, 127, 255, 1023], by decide +kernel, ?_⟩
        repeat' ((conv => whnf); first | ((with_reducible apply Xq); assumption) | (with_reducible first | apply Xa | (first | apply xi | apply xp | apply xP); omega | apply Xe | refine Xg (by assumption) ?_) | refine Xo (by assumption) ?_ | refine x_0 (by first | assumption | rfl) ?_ | refine x_1 (by first | assumption | rfl) ?_ | refine Or.inl ⟨rfl, ?_⟩ | (split <;> (first | (rename_i u h; clear u) | rename_i h) <;> (try rewrite [h]) <;> (first | replace h := dt h | replace h := df h | replace h := Nt h | replace h := Nf h | skip) <;> (try dsimp only at h) <;> (first | contradiction | (exfalso; omega) | skip)) | (refine Or.inl ⟨_, by assumption, ?_⟩; first | rintro _ rfl | skip))
        refine ⟨Int.le_refl _, by omega, by omega, rowN (l.take i), sl_take l i, ?_⟩
        repeat' ((conv => whnf); first | ((with_reducible apply Xq); assumption) | (with_reducible first | apply Xa | (first | apply xi | apply xp | apply xP); omega | apply Xe | refine Xg (by assumption) ?_) | refine Xo (by assumption) ?_ | refine x_0 (by first | assumption | rfl) ?_ | refine x_1 (by first | assumption | rfl) ?_ | refine Or.inl ⟨rfl, ?_⟩ | (split <;> (first | (rename_i u h; clear u) | rename_i h) <;> (try rewrite [h]) <;> (first | replace h := dt h | replace h := df h | replace h := Nt h | replace h := Nf h | skip) <;> (try dsimp only at h) <;> (first | contradiction | (exfalso; omega) | skip)) | (refine Or.inl ⟨_, by assumption, ?_⟩; first | rintro _ rfl | skip))
        all_goals (conv => whnf)
        all_goals rfl
  · have hi2 : i = l.length := by omega
    subst hi2
    rw [ha]
    repeat' ((conv => whnf); first | ((with_reducible apply Xq); assumption) | (with_reducible first | apply Xa | (first | apply xi | apply xp | apply xP); omega | apply Xe | refine Xg (by assumption) ?_) | refine Xo (by assumption) ?_ | refine x_0 (by first | assumption | rfl) ?_ | refine x_1 (by first | assumption | rfl) ?_ | refine Or.inl ⟨rfl, ?_⟩ | (split <;> (first | (rename_i u h; clear u) | rename_i h) <;> (try rewrite [h]) <;> (first | replace h := dt h | replace h := df h | replace h := Nt h | replace h := Nf h | skip) <;> (try dsimp only at h) <;> (first | contradiction | (exfalso; omega) | skip)) | (refine Or.inl ⟨_, by assumption, ?_⟩; first | rintro _ rfl | skip))
    all_goals (conv => whnf)
    all_goals rfl
end Go.V
namespace Go.V
open Go.N
set_option maxRecDepth 20000
variable (gl : Gl)
theorem newName_take {l : List Nd} {i j : Nat} (hj : j < i) (hi : i ≤ l.length) : (l.take i)[j]'(by rw [List.length_take]; omega) = l[j] := by simp
end Go.V
namespace Go.V
open Go.N
set_option maxRecDepth 20000
def usesN (x : Nd) (k : Nat) : Bool := (decide (0 < partsZ x.op) && decide (x.a = (k : Int))) || (decide (1 < partsZ x.op) && decide (x.b = (k : Int)))
inductive NeedP (g : Gr) (keep : List Int) : Nat → Prop
  | loss {i : Nat} : (i : Int) = g.loss → NeedP g keep i
  | keep {i : Nat} : (i : Int) ∈ keep → NeedP g keep i
  | name {i : Nat} {x : Nd} : g.nodes[i]? = some x → x.name ≠ ⟨#[]⟩ → NeedP g keep i
  | use {i j : Nat} {x : Nd} : i < j → g.nodes[j]? = some x → usesN x i = true → NeedP g keep j → NeedP g keep i
def PreP (g : Gr) (keep : List Int) (m j : Nat) : Prop := (j : Int) = g.loss ∨ (j : Int) ∈ keep ∨ ∃ k x, m ≤ k ∧ g.nodes[k]? = some x ∧ usesN x j = true ∧ NeedP g keep k
theorem need_iff {g : Gr} {keep : List Int} {i : Nat} {x : Nd} (hx : g.nodes[i]? = some x) : NeedP g keep i ↔ PreP g keep (i + 1) i ∨ x.name ≠ ⟨#[]⟩ := by
  constructor
  · intro h
    cases h with
    | loss h => exact .inl (.inl h)
    | keep h => exact .inl (.inr (.inl h))
    | name h1 h2 => rw [hx] at h1; cases h1; exact .inr h2
    | use h1 h2 h3 h4 => exact .inl (.inr (.inr ⟨_, _, h1, h2, h3, h4⟩))
  · rintro ((h | h | ⟨k, y, h1, h2, h3, h4⟩) | h)
    · exact .loss h
    · exact .keep h
    · exact .use h1 h2 h3 h4
    · exact .name hx h
theorem pre_step {g : Gr} {keep : List Int} {i j : Nat} {x : Nd} (hx : g.nodes[i]? = some x) : PreP g keep i j ↔ PreP g keep (i + 1) j ∨ (NeedP g keep i ∧ usesN x j = true) := by
  constructor
  · rintro (h | h | ⟨k, y, h1, h2, h3, h4⟩)
    · exact .inl (.inl h)
    · exact .inl (.inr (.inl h))
    · rcases Nat.eq_or_lt_of_le h1 with h | h
      · subst h; rw [hx] at h2; cases h2; exact .inr ⟨h4, h3⟩
      · exact .inl (.inr (.inr ⟨k, y, h, h2, h3, h4⟩))
  · rintro ((h | h | ⟨k, y, h1, h2, h3, h4⟩) | ⟨h1, h2⟩)
    · exact .inl h
    · exact .inr (.inl h)
    · exact .inr (.inr ⟨k, y, by omega, h2, h3, h4⟩)
    · exact .inr (.inr ⟨i, x, Nat.le_refl _, hx, h2, h1⟩)
theorem pre_top {g : Gr} {keep : List Int} {m j : Nat} (h : g.nodes.length ≤ m) : PreP g keep m j ↔ (j : Int) = g.loss ∨ (j : Int) ∈ keep := by
  constructor
  · rintro (h1 | h1 | ⟨k, y, h1, h2, h3, h4⟩)
    · exact .inl h1
    · exact .inr h1
    · have := (List.getElem?_eq_some_iff.1 h2).1; omega
  · rintro (h1 | h1)
    · exact .inl h1
    · exact .inr (.inl h1)
open Classical in
noncomputable def NB (g : Gr) (keep : List Int) (j : Nat) : Bool := decide (NeedP g keep j)
theorem NB_iff {g : Gr} {keep : List Int} {j : Nat} : NB g keep j = true ↔ NeedP g keep j := by simp [NB]
def fB (n : Nat) (F : Nat → Bool) : List (List AV) := (List.range n).map fun j => [.bool (F j)]
@[simp] theorem fB_length (n : Nat) (F : Nat → Bool) : (fB n F).length = n := by simp [fB]
theorem fB_get {n k : Nat} {F : Nat → Bool} (h : k < n) : (fB n F)[k]? = some [.bool (F k)] := by simp [fB, h]
def updB (F : Nat → Bool) (k : Nat) (v : Bool) : Nat → Bool := fun j => if j = k then v else F j
theorem fB_set (n k : Nat) (F : Nat → Bool) (v : Bool) : (fB n F).set k [.bool v] = fB n (updB F k v) := by
  refine List.ext_getElem? fun j => ?_
  rw [List.getElem?_set]
  by_cases hj : j < n
  · by_cases hk : k = j
    · subst hk; simp [fB, hj, updB]
    · simp [hk, fB, hj, updB, show ¬ j = k from fun e => hk e.symm]
  · have : (fB n (updB F k v))[j]? = none := by simp [fB, hj]
    rw [this]
    by_cases hk : k = j
    · simp [hk, hj]
    · simp [hk, fB, hj]
theorem fB_zero (n : Nat) : List.replicate n [.bool false] = fB n fun _ => false := by simp [fB, List.map_const']
theorem fB_congr {n : Nat} {F G : Nat → Bool} (h : ∀ j, j < n → F j = G j) : fB n F = fB n G := List.map_congr_left fun j hj => by rw [h j (List.mem_range.1 hj)]
theorem updB_same (F : Nat → Bool) (k : Nat) (v : Bool) : updB F k v k = v := if_pos rfl
theorem updB_ne (F : Nat → Bool) {k j : Nat} (v : Bool) (h : j ≠ k) : updB F k v j = F j := if_neg h
def keepOK (g : Gr) (keep : List Int) : Bool := !(keep.any fun x => decide (x < 0) || decide ((g.nodes.length : Int) ≤ x))
def okDead (g : Gr) (keep : List Int) : Bool := grOK g && keepOK g keep
theorem keepOK_get {g : Gr} {keep : List Int} (h : keepOK g keep = true) {x : Int} (hx : x ∈ keep) : ∃ k : Nat, x = k ∧ k < g.nodes.length := by
  simp only [keepOK, Bool.not_eq_true', List.any_eq_false] at h
  have := h x hx
  simp only [Bool.or_eq_true, decide_eq_true_eq] at this
  exact ⟨x.toNat, by omega, by omega⟩
theorem allTo_get {l : List Nd} {n i : Nat} (h : allTo l n = true) (hi : i < n) : ndAt l i = true := List.all_eq_true.1 h i (List.mem_range.2 hi)
theorem ok_node {g : Gr} (h : grOK g = true) {i : Nat} {x : Nd} (hx : g.nodes[i]? = some x) : ndOK (g.nodes.take i) x = true := by
  simp only [grOK, Bool.and_eq_true] at h
  have h1 := (List.getElem?_eq_some_iff.1 hx).1
  have := allTo_get h.2 h1
  rw [ndAt, hx] at this
  exact this
theorem ok_infer {g : Gr} (h : grOK g = true) {i : Nat} {x : Nd} (hx : g.nodes[i]? = some x) : inferN (g.nodes.take i) x = some x.shape := by
  have := ok_node h hx
  simp only [ndOK, Bool.and_eq_true, decide_eq_true_eq] at this
  exact this.1
theorem ok_fit {g : Gr} (h : grOK g = true) {i : Nat} {x : Nd} (hx : g.nodes[i]? = some x) : ∃ m, opParts x.op = some m ∧ Fit (g.nodes.take i) x m := by
  have h1 := ok_infer h hx
  cases hp : opParts x.op with
  | none => rw [inferN_none hp] at h1; cases h1
  | some m =>
    cases hf : fitN (g.nodes.take i) x m with
    | false => rw [inferN_bad hp hf] at h1; cases h1
    | true => exact ⟨m, rfl, (fit_iff _ _ _).1 hf⟩
theorem inR_take {l : List Nd} {i : Nat} {a : Int} (h : inR a (l.take i) = true) : ∃ k : Nat, a = k ∧ k < i := by
  obtain ⟨k, hk, hl⟩ := inR_nat h
  exact ⟨k, hk, by rw [List.length_take] at hl; omega⟩
theorem ok_parts {g : Gr} (h : grOK g = true) {i : Nat} {x : Nd} (hx : g.nodes[i]? = some x) : ∀ p ∈ dParts x, ∃ k : Nat, p = k ∧ k < i := by
  obtain ⟨m, hp, F⟩ := ok_fit h hx
  have hm := opParts_le hp
  intro p hpm
  rw [dParts, hp] at hpm
  have h3 : m = 0 ∨ m = 1 ∨ m = 2 := by omega
  rcases h3 with rfl | rfl | rfl
  · simp at hpm
  · simp at hpm; subst hpm; exact inR_take (F.ia (by decide))
  · simp at hpm
    rcases hpm with rfl | rfl
    · exact inR_take (F.ia (by decide))
    · exact inR_take (F.ib (by decide))
theorem ok_uses {g : Gr} (h : grOK g = true) {i : Nat} {x : Nd} (hx : g.nodes[i]? = some x) (j : Nat) : usesN x j = true ↔ (j : Int) ∈ dParts x := by
  obtain ⟨m, hp, F⟩ := ok_fit h hx
  have hm := opParts_le hp
  have h3 : m = 0 ∨ m = 1 ∨ m = 2 := by omega
  rw [usesN, dParts, partsZ, hp]
  rcases h3 with rfl | rfl | rfl
  · show (false && decide (x.a = (j : Int)) || false && decide (x.b = (j : Int))) = true ↔ (j : Int) ∈ []
    simp only [Bool.false_and, Bool.or_false, List.not_mem_nil, Bool.false_eq_true]
  · show (true && decide (x.a = (j : Int)) || false && decide (x.b = (j : Int))) = true ↔ (j : Int) ∈ [x.a]
    simp only [Bool.true_and, Bool.false_and, Bool.or_false, decide_eq_true_eq, List.mem_singleton]
    exact eq_comm
  · show (true && decide (x.a = (j : Int)) || true && decide (x.b = (j : Int))) = true ↔ (j : Int) ∈ [x.a, x.b]
    simp only [Bool.true_and, Bool.or_eq_true, decide_eq_true_eq, List.mem_cons, List.not_mem_nil, or_false]
    exact ⟨fun e => e.imp Eq.symm Eq.symm, fun e => e.imp Eq.symm Eq.symm⟩
theorem ok_pre {g : Gr} (h : grOK g = true) : 1 ≤ g.nodes.length ∧ g.nodes.length ≤ 200 ∧ ∃ q : Nat, g.loss = q ∧ q < g.nodes.length := by
  simp only [grOK, preG, Bool.and_eq_true, decide_eq_true_eq] at h
  exact ⟨h.1.1.1.1, h.1.1.1.2, inR_nat h.1.1.2⟩
end Go.V
namespace Go.V
open Go.N
set_option maxRecDepth 20000
def T_dNeeded : Tab := [(24, ⟨.strc [(0, 1, false), (1, 1, false)], 2, 32, (.agg #[(.slice none 0 0), (.int .i64 0)]), [8, 0]⟩), (4, ⟨.bool, 1, 1, (.bool false), [0]⟩), (25, ⟨.slice 3, 1, 24, (.slice none 0 0), [1]⟩), (3, ⟨.int .i64, 1, 8, (.int .i64 0), [0]⟩), (22, ⟨.slice 39, 1, 24, (.slice none 0 0), [8]⟩), (39, ⟨.strc [(0, 1, false), (1, 1, false), (2, 1, false), (3, 1, false), (4, 1, false), (5, 1, false), (6, 1, false), (7, 1, false)], 8, 120, (.agg #[(.string .empty), (.int .i64 0), (.int .i64 0), (.string .empty), (.slice none 0 0), (.string .empty), (.int .i64 0), (.slice none 0 0)]), [0, 0, 0, 0, 1, 0, 0, 1]⟩), (31, ⟨.slice 4, 1, 24, (.slice none 0 0), [1]⟩), (9, ⟨.str, 1, 16, (.string .empty), [0]⟩)]
theorem TOK_dNeeded : TOK Go.Proofs.Tryd.prog T_dNeeded := ⟨⟨info_of Go.Proofs.Tryd.type24 rfl, by decide +kernel, by decide +kernel⟩, ⟨⟨info_of Go.Proofs.Tryd.type4 rfl, by decide +kernel, by decide +kernel⟩, ⟨⟨info_of Go.Proofs.Tryd.type25 rfl, by decide +kernel, by decide +kernel⟩, ⟨⟨info_of Go.Proofs.Tryd.type3 rfl, by decide +kernel, by decide +kernel⟩, ⟨⟨info_of Go.Proofs.Tryd.type22 rfl, by decide +kernel, by decide +kernel⟩, ⟨⟨info_of Go.Proofs.Tryd.type39 rfl, by decide +kernel, by decide +kernel⟩, ⟨⟨info_of Go.Proofs.Tryd.type31 rfl, by decide +kernel, by decide +kernel⟩, ⟨⟨info_of Go.Proofs.Tryd.type9 rfl, by decide +kernel, by decide +kernel⟩, trivial⟩⟩⟩⟩⟩⟩⟩⟩
def T_dN1 : Tab := [(3, ⟨.int .i64, 1, 8, (.int .i64 0), [0]⟩), (24, ⟨.strc [(0, 1, false), (1, 1, false)], 2, 32, (.agg #[(.slice none 0 0), (.int .i64 0)]), [8, 0]⟩), (22, ⟨.slice 39, 1, 24, (.slice none 0 0), [8]⟩), (39, ⟨.strc [(0, 1, false), (1, 1, false), (2, 1, false), (3, 1, false), (4, 1, false), (5, 1, false), (6, 1, false), (7, 1, false)], 8, 120, (.agg #[(.string .empty), (.int .i64 0), (.int .i64 0), (.string .empty), (.slice none 0 0), (.string .empty), (.int .i64 0), (.slice none 0 0)]), [0, 0, 0, 0, 1, 0, 0, 1]⟩)]
theorem TOK_dN1 : TOK Go.Proofs.Tryd.prog T_dN1 := ⟨⟨info_of Go.Proofs.Tryd.type3 rfl, by decide +kernel, by decide +kernel⟩, ⟨⟨info_of Go.Proofs.Tryd.type24 rfl, by decide +kernel, by decide +kernel⟩, ⟨⟨info_of Go.Proofs.Tryd.type22 rfl, by decide +kernel, by decide +kernel⟩, ⟨⟨info_of Go.Proofs.Tryd.type39 rfl, by decide +kernel, by decide +kernel⟩, trivial⟩⟩⟩⟩
theorem c_dN1 (gl : Gl) (l : List Nd) (p x : Int) : VCall Go.Proofs.Tryd.prog gl 14 [.int .i64 x, .rp [.ro 8 (rowN l), .int .i64 p]] (fun y => y = .bool (decide (x < 0) || decide ((l.length : Int) ≤ x))) := by
  rw [← rowN_length]
  refine vcall_of TOK_dN1 HM Go.Proofs.Tryd.func14 rfl (by decide +kernel) (by decide +kernel) rfl ?_
  repeat' ((conv => whnf); first | ((with_reducible apply Xq); assumption) | (with_reducible first | apply Xa | (first | apply xi | apply xp | apply xP); omega | apply Xe | refine Xg (by assumption) ?_) | refine Xo (by assumption) ?_ | refine x_0 (by first | assumption | rfl) ?_ | refine x_1 (by first | assumption | rfl) ?_ | refine Or.inl ⟨rfl, ?_⟩ | (split <;> (first | (rename_i u h; clear u) | rename_i h) <;> (try rewrite [h]) <;> (first | replace h := dt h | replace h := df h | replace h := Nt h | replace h := Nf h | skip) <;> (try dsimp only at h) <;> (first | contradiction | (exfalso; omega) | skip)) | (refine Or.inl ⟨_, by assumption, ?_⟩; first | rintro _ rfl | skip))
  all_goals (conv => whnf)
  · exact congrArg AV.bool (by simp [h])
  · exact congrArg AV.bool (by simp [h])
theorem dParts_len (x : Nd) : (dParts x).length ≤ 2 := by unfold dParts; split <;> simp
set_option maxHeartbeats 4000000 in
theorem c_dNeeded (g : Gr) (keep : List Int) (hs : ∀ x ∈ g.nodes, x.Sm) (hl : g.nodes.length ≤ 1000) (hk : keep.length ≤ 1000) :
    VCall Go.Proofs.Tryd.prog GL 8 [.agg g.cells, .ro 1 (rowZ keep)] (fun y => y = if okDead g keep = true then .tup [.ro 1 (fB g.nodes.length (NB g keep)), .int .i64 0] else .tup [.ro 1 [], .int .i64 1]) := by
  have hR := c_gRight g hs hl
  have hpre := @ok_pre g
  have hpt := @ok_parts g
  have hus := @ok_uses g
  have hcf := c_ContainsFuncI GL 14 [.ro 8 (rowN g.nodes), .int .i64 g.loss] keep (fun x => decide (x < 0) || decide ((g.nodes.length : Int) ≤ x)) (by omega) (fun x _ => c_dN1 GL g.nodes g.loss x)
  have hke := @keepOK_get g keep
  have hk2 : keepOK g keep = !(keep.any fun x => decide (x < 0) || decide ((g.nodes.length : Int) ≤ x)) := rfl
  generalize (keep.any fun x => decide (x < 0) || decide ((g.nodes.length : Int) ≤ x)) = bad at hcf hk2
  refine VCall.taken ?_
  cases hok : okDead g keep
  · rw [if_neg (by simp)]
    obtain ⟨l, p⟩ := g
    show VCall _ _ _ [.agg [.ro 8 (rowN l), .int .i64 p], _] _
    refine vcall_of TOK_dNeeded HM Go.Proofs.Tryd.func8 rfl (by decide +kernel) (by decide +kernel) rfl ?_
    cases hg : grOK ⟨l, p⟩
    · rw [hg] at hR
      repeat' ((conv => whnf); first | ((with_reducible apply Xq); assumption) | (with_reducible first | apply Xa | (first | apply xi | apply xp | apply xP); omega | apply Xe | refine Xg (by assumption) ?_) | refine Xo (by assumption) ?_ | refine x_0 (by first | assumption | rfl) ?_ | refine x_1 (by first | assumption | rfl) ?_ | refine Or.inl ⟨rfl, ?_⟩ | (split <;> (first | (rename_i u h; clear u) | rename_i h) <;> (try rewrite [h]) <;> (first | replace h := dt h | replace h := df h | replace h := Nt h | replace h := Nf h | skip) <;> (try dsimp only at h) <;> (first | contradiction | (exfalso; omega) | skip)) | (refine Or.inl ⟨_, by assumption, ?_⟩; first | rintro _ rfl | skip))
      all_goals (conv => whnf)
      all_goals exact ⟨_, roTo2 (show RoTo .nils (.ro 1 []) from ⟨1, rfl⟩) rfl, rfl⟩
    · rw [hg] at hR
      have hb : bad = true := by
        rw [okDead, hg, hk2] at hok
        cases bad
        · exact absurd hok (by decide)
        · rfl
      rw [hb] at hcf
      repeat' ((conv => whnf); first | ((with_reducible apply Xq); assumption) | (with_reducible first | apply Xa | (first | apply xi | apply xp | apply xP); omega | apply Xe | refine Xg (by assumption) ?_) | refine Xo (by assumption) ?_ | refine x_0 (by first | assumption | rfl) ?_ | refine x_1 (by first | assumption | rfl) ?_ | refine Or.inl ⟨rfl, ?_⟩ | (split <;> (first | (rename_i u h; clear u) | rename_i h) <;> (try rewrite [h]) <;> (first | replace h := dt h | replace h := df h | replace h := Nt h | replace h := Nf h | skip) <;> (try dsimp only at h) <;> (first | contradiction | (exfalso; omega) | skip)) | (refine Or.inl ⟨_, by assumption, ?_⟩; first | rintro _ rfl | skip))
      all_goals (conv => whnf)
      all_goals exact ⟨_, roTo2 (show RoTo .nils (.ro 1 []) from ⟨1, rfl⟩) rfl, rfl⟩
  have hg : grOK g = true := by simp only [okDead, Bool.and_eq_true] at hok; exact hok.1
  have hkk : keepOK g keep = true := by simp only [okDead, Bool.and_eq_true] at hok; exact hok.2
  rw [if_pos rfl]
  have hb : bad = false := by rw [hkk] at hk2; cases bad; rfl; exact absurd hk2 (by decide)
  rw [hb] at hcf
  rw [hg] at hR
  obtain ⟨h1, h2, q, hq1, hq⟩ := hpre hg
  have hpt1 := fun {i : Nat} {x : Nd} => @hpt hg i x
  have hus1 := fun {i : Nat} {x : Nd} => @hus hg i x
  have hke1 := @hke hkk
  clear hpt hus hke
  have hni := @need_iff g keep
  have hps := @pre_step g keep
  have hpt2 := @pre_top g keep
  have hNB := @NB_iff g keep
  have hget : ∀ i (h : i < g.nodes.length), g.nodes[i]? = some g.nodes[i] := fun i h => List.getElem?_eq_getElem h
  clear hok hkk hk2 hg hpre
  obtain ⟨l, p⟩ := g
  dsimp only at *
  subst hq1
  generalize NB ⟨l, (q : Int)⟩ keep = N at hNB ⊢
  generalize NeedP ⟨l, (q : Int)⟩ keep = NP at hNB hni hps
  generalize PreP ⟨l, (q : Int)⟩ keep = PP at hni hps hpt2
  show VCall _ _ _ [.agg [.ro 8 (rowN l), .int .i64 (q : Nat)], _] _
  have hlr := rowN_length l
  have hkl := rowZ_length keep
  refine vcall_of TOK_dNeeded HM Go.Proofs.Tryd.func8 rfl (by decide +kernel) (by decide +kernel) rfl ?_
  repeat' ((conv => whnf); first | ((with_reducible apply Xq); assumption) | (with_reducible first | apply Xa | (first | apply xi | apply xp | apply xP); omega | apply Xe | refine Xg (by assumption) ?_) | refine Xo (by assumption) ?_ | refine x_0 (by first | assumption | rfl) ?_ | refine x_1 (by first | assumption | rfl) ?_ | refine Or.inl ⟨rfl, ?_⟩ | (split <;> (first | (rename_i u h; clear u) | rename_i h) <;> (try rewrite [h]) <;> (first | replace h := dt h | replace h := df h | replace h := Nt h | replace h := Nf h | skip) <;> (try dsimp only at h) <;> (first | contradiction | (exfalso; omega) | skip)) | (refine Or.inl ⟨_, by assumption, ?_⟩; first | rintro _ rfl | skip))
  refine ⟨by omega, Int.le_refl _, by omega, (show ((rowN l).length : Int) * ((1 : Nat) : Int) ≤ 140737488355328 by omega), l.length, congrArg Nat.cast hlr, ?_⟩
  have hz : (List.replicate l.length [AV.bool false])[0 + q]? = some [.bool false] := by simp [hq]
  repeat' ((conv => whnf); first | ((with_reducible apply Xq); assumption) | (with_reducible first | apply Xa | (first | apply xi | apply xp | apply xP); omega | apply Xe | refine Xg (by assumption) ?_) | refine Xo (by assumption) ?_ | refine x_0 (by first | assumption | rfl) ?_ | refine x_1 (by first | assumption | rfl) ?_ | refine Or.inl ⟨rfl, ?_⟩ | (split <;> (first | (rename_i u h; clear u) | rename_i h) <;> (try rewrite [h]) <;> (first | replace h := dt h | replace h := df h | replace h := Nt h | replace h := Nf h | skip) <;> (try dsimp only at h) <;> (first | contradiction | (exfalso; omega) | skip)) | (refine Or.inl ⟨_, by assumption, ?_⟩; first | rintro _ rfl | skip))
  refine ⟨[2, 6, 28, 29, 30], [0, 1], fun m st => ∃ (t : Nat) (F : Nat → Bool), t ≤ keep.length ∧ m = keep.length - t ∧ (∀ j, j < l.length → (F j = true ↔ (j = q ∨ (j : Int) ∈ keep.take t))) ∧
    st = ⟨[(2, .bptr 0 0), (6, .own 1 0 l.length), (28, .ro 1 (rowZ keep)), (29, .int .i64 ((rowZ keep).length : Nat)), (30, .int .i64 (t : Nat))], [.box 24 [.ro 8 (rowN l), .int .i64 (q : Nat)], .row false 4 1 (fB l.length F)]⟩, rfl,
    ⟨keep.length, 0, updB (fun _ => false) q true, by omega, rfl, fun j hj => by unfold updB; split <;> simp_all, Eq.trans rfl (congrArg (fun z => (⟨[(2, .bptr 0 0), (6, .own 1 0 l.length), (28, .ro 1 (rowZ keep)), (29, .int .i64 ((rowZ keep).length : Nat)), (30, .int .i64 ((0 : Nat) : Int))], [.box 24 [.ro 8 (rowN l), .int .i64 (q : Nat)], .row false 4 1 z]⟩ : St))
      (show (List.replicate l.length [AV.bool false]).set (0 + q) [.bool true] = _ by rw [fB_zero, Nat.zero_add, fB_set]))⟩, ?_⟩
  rintro m _ ⟨t, F, ht, hm, hF, rfl⟩
  rcases Nat.lt_or_ge t keep.length with htl | hge
  · obtain ⟨k, hk1, hk2⟩ := hke1 (List.getElem_mem htl)
    have g : (rowZ keep)[t]? = some [.int .i64 (k : Nat)] := by rw [rowZ_get htl, hk1]
    have g2 : (fB l.length F)[0 + k]? = some [.bool (F k)] := by rw [Nat.zero_add]; exact fB_get hk2
    have e : (fB l.length F).set (0 + k) [.bool true] = fB l.length (updB F k true) := by rw [Nat.zero_add, fB_set]
    have hF' : ∀ j, j < l.length → (updB F k true j = true ↔ (j = q ∨ (j : Int) ∈ keep.take (t + 1))) := fun j hj => by
      rw [List.take_succ_eq_append_getElem htl, List.mem_append, List.mem_singleton, hk1, Int.ofNat_inj, ← or_assoc, ← hF j hj]
      unfold updB
      split <;> simp_all
    repeat' ((conv => whnf); first | ((with_reducible apply Xq); assumption) | (with_reducible first | apply Xa | (first | apply xi | apply xp | apply xP); omega | apply Xe | refine Xg (by assumption) ?_) | refine Xo (by assumption) ?_ | refine x_0 (by first | assumption | rfl) ?_ | refine x_1 (by first | assumption | rfl) ?_ | refine Or.inl ⟨rfl, ?_⟩ | (split <;> (first | (rename_i u h; clear u) | rename_i h) <;> (try rewrite [h]) <;> (first | replace h := dt h | replace h := df h | replace h := Nt h | replace h := Nf h | skip) <;> (try dsimp only at h) <;> (first | contradiction | (exfalso; omega) | skip)) | (refine Or.inl ⟨_, by assumption, ?_⟩; first | rintro _ rfl | skip))
    exact ⟨[0, 1], keep.length - (t + 1), rfl, by omega, t + 1, _, by omega, rfl, hF', Eq.trans rfl (congrArg (fun z => (⟨[(2, .bptr 0 0), (6, .own 1 0 l.length), (28, .ro 1 (rowZ keep)), (29, .int .i64 ((rowZ keep).length : Nat)), (30, .int .i64 ((t + 1 : Nat) : Int))], [.box 24 [.ro 8 (rowN l), .int .i64 (q : Nat)], .row false 4 1 z]⟩ : St)) e)⟩
  rw [List.take_of_length_le (by omega)] at hF
  repeat' ((conv => whnf); first | ((with_reducible apply Xq); assumption) | (with_reducible first | apply Xa | (first | apply xi | apply xp | apply xP); omega | apply Xe | refine Xg (by assumption) ?_) | refine Xo (by assumption) ?_ | refine x_0 (by first | assumption | rfl) ?_ | refine x_1 (by first | assumption | rfl) ?_ | refine Or.inl ⟨rfl, ?_⟩ | (split <;> (first | (rename_i u h; clear u) | rename_i h) <;> (try rewrite [h]) <;> (first | replace h := dt h | replace h := df h | replace h := Nt h | replace h := Nf h | skip) <;> (try dsimp only at h) <;> (first | contradiction | (exfalso; omega) | skip)) | (refine Or.inl ⟨_, by assumption, ?_⟩; first | rintro _ rfl | skip))
  refine ⟨[2, 6, 9], [0, 1], fun m st => ∃ (e : Int) (F : Nat → Bool), e = (m : Int) - 1 ∧ m ≤ l.length ∧ (∀ j, j < l.length → (F j = true ↔ (if m ≤ j then NP j else PP m j))) ∧
    st = ⟨[(2, .bptr 0 0), (6, .own 1 0 l.length), (9, .int .i64 e)], [.box 24 [.ro 8 (rowN l), .int .i64 (q : Nat)], .row false 4 1 (fB l.length F)]⟩, rfl,
    ⟨l.length, _, F, by omega, Nat.le_refl _, fun j hj => by rw [if_neg (by omega), hpt2 (Nat.le_refl _), hF j hj, Int.ofNat_inj], rfl⟩, ?_⟩
  clear hF hm ht hge F
  rintro m _ ⟨e, F, he, hml, hF, rfl⟩
  rcases m with _ | i
  · have e1 : e = -1 := by omega
    subst e1
    repeat' ((conv => whnf); first | ((with_reducible apply Xq); assumption) | (with_reducible first | apply Xa | (first | apply xi | apply xp | apply xP); omega | apply Xe | refine Xg (by assumption) ?_) | refine Xo (by assumption) ?_ | refine x_0 (by first | assumption | rfl) ?_ | refine x_1 (by first | assumption | rfl) ?_ | refine Or.inl ⟨rfl, ?_⟩ | (split <;> (first | (rename_i u h; clear u) | rename_i h) <;> (try rewrite [h]) <;> (first | replace h := dt h | replace h := df h | replace h := Nt h | replace h := Nf h | skip) <;> (try dsimp only at h) <;> (first | contradiction | (exfalso; omega) | skip)) | (refine Or.inl ⟨_, by assumption, ?_⟩; first | rintro _ rfl | skip))
    refine .inl ⟨(fB_length _ _).symm, ?_⟩
    repeat' ((conv => whnf); first | ((with_reducible apply Xq); assumption) | (with_reducible first | apply Xa | (first | apply xi | apply xp | apply xP); omega | apply Xe | refine Xg (by assumption) ?_) | refine Xo (by assumption) ?_ | refine x_0 (by first | assumption | rfl) ?_ | refine x_1 (by first | assumption | rfl) ?_ | refine Or.inl ⟨rfl, ?_⟩ | (split <;> (first | (rename_i u h; clear u) | rename_i h) <;> (try rewrite [h]) <;> (first | replace h := dt h | replace h := df h | replace h := Nt h | replace h := Nf h | skip) <;> (try dsimp only at h) <;> (first | contradiction | (exfalso; omega) | skip)) | (refine Or.inl ⟨_, by assumption, ?_⟩; first | rintro _ rfl | skip))
    all_goals (conv => whnf)
    exact ⟨_, roTo2 rfl rfl, congrArg (fun z => AV.tup [.ro 1 z, .int .i64 0]) (fB_congr fun j hj => by
      rw [Bool.eq_iff_iff, hNB, hF j hj, if_pos (Nat.zero_le _)])⟩
  have e1 : e = (i : Int) := by omega
  subst e1
  have hil : i < l.length := by omega
  obtain ⟨x, hx⟩ : ∃ x, x = l[i] := ⟨_, rfl⟩
  have hgx : l[i]? = some x := by rw [hx]; exact hget i hil
  have g : (rowN l)[i]? = some x.cells := by rw [hx]; exact rowN_get hil
  have hdp := c_dparts GL x
  have hDn := hpt1 hgx
  have hDu := fun j => hus1 hgx j
  have hni := hni hgx
  have hps := fun j => @hps i j x hgx
  have hFi : F i = true ↔ PP (i + 1) i := by rw [hF i hil, if_neg (by omega)]
  have hlD := rowZ_length (dParts x)
  have hD2 := dParts_len x
  have g2 : (fB l.length F)[0 + i]? = some [.bool (F i)] := by rw [Nat.zero_add]; exact fB_get hil
  have hloop : ∀ (D : List Int) (F0 : Nat → Bool) (t : Nat) (k : Nat) (v : Bool), (∀ j, j < l.length → (F0 j = true ↔ (if i ≤ j then NP j else PP (i + 1) j ∨ (NP i ∧ (j : Int) ∈ D.take t)))) → k < i → (htD : t < D.length) → D[t] = (k : Int) →
      v = (F0 k || F0 i) → ∀ j, j < l.length → (updB F0 k v j = true ↔ (if i ≤ j then NP j else PP (i + 1) j ∨ (NP i ∧ (j : Int) ∈ D.take (t + 1)))) := fun D F0 t k v h0 hki htD hk hv j hj => by
    rw [List.take_succ_eq_append_getElem htD, hk]
    have hi2 := h0 i hil
    rw [if_pos (Nat.le_refl _)] at hi2
    have hk2 := h0 k (by omega)
    rw [if_neg (by omega)] at hk2
    by_cases hjk : j = k
    · subst hjk
      rw [updB_same, if_neg (by omega), hv, Bool.or_eq_true, hk2, hi2]
      simp only [List.mem_append, List.mem_singleton]
      constructor
      · rintro ((h | ⟨h, h'⟩) | h)
        · exact .inl h
        · exact .inr ⟨h, .inl h'⟩
        · exact .inr ⟨h, .inr trivial⟩
      · rintro (h | ⟨h, h'⟩)
        · exact .inl (.inl h)
        · exact .inr h
    · rw [updB_ne _ _ hjk, h0 j hj]
      have : ¬ (j : Int) = (k : Int) := by omega
      simp only [List.mem_append, List.mem_singleton, this, or_false]
  obtain ⟨op, a, b, name, shape, k, n, data⟩ := x
  generalize dParts ⟨op, a, b, name, shape, k, n, data⟩ = D at hdp hDn hDu hlD hD2
  dsimp only at hni
  cases hFb : F i
  · rw [hFb] at g2
    have e : (fB l.length F).set (0 + i) [.bool (!decide (name = ⟨#[]⟩))] = fB l.length (updB F i (!decide (name = ⟨#[]⟩))) := by rw [Nat.zero_add, fB_set]
    have hF0 : ∀ j, j < l.length → (updB F i (!decide (name = ⟨#[]⟩)) j = true ↔ (if i ≤ j then NP j else PP (i + 1) j ∨ (NP i ∧ (j : Int) ∈ D.take 0))) := fun j hj => by
      by_cases hji : j = i
      · subst hji
        rw [updB_same, if_pos (Nat.le_refl _)]
        rw [hFb] at hFi; simp only [Bool.not_eq_true', decide_eq_false_iff_not]; rw [hni, ← hFi]; simp
      · rw [updB_ne _ _ hji, hF j hj]
        by_cases hlt : i ≤ j
        · rw [if_pos hlt, if_pos (by omega)]
        · rw [if_neg hlt, if_neg (by omega)]; simp
    repeat' ((conv => whnf); first | ((with_reducible apply Xq); assumption) | (with_reducible first | apply Xa | (first | apply xi | apply xp | apply xP); omega | apply Xe | refine Xg (by assumption) ?_) | refine Xo (by assumption) ?_ | refine x_0 (by first | assumption | rfl) ?_ | refine x_1 (by first | assumption | rfl) ?_ | refine Or.inl ⟨rfl, ?_⟩ | (split <;> (first | (rename_i u h; clear u) | rename_i h) <;> (try rewrite [h]) <;> (first | replace h := dt h | replace h := df h | replace h := Nt h | replace h := Nf h | skip) <;> (try dsimp only at h) <;> (first | contradiction | (exfalso; omega) | skip)) | (refine Or.inl ⟨_, by assumption, ?_⟩; first | rintro _ rfl | skip))
    all_goals (refine ⟨[2, 6, 9, 67, 68, 69], [0, 1], fun m st => ∃ (t : Nat) (F : Nat → Bool), t ≤ D.length ∧ m = D.length - t ∧ (∀ j, j < l.length → (F j = true ↔ (if i ≤ j then NP j else PP (i + 1) j ∨ (NP i ∧ (j : Int) ∈ D.take t)))) ∧
      st = ⟨[(2, .bptr 0 0), (6, .own 1 0 l.length), (9, .int .i64 (i : Nat)), (67, .ro 1 (rowZ D)), (68, .int .i64 ((rowZ D).length : Nat)), (69, .int .i64 (t : Nat))], [.box 24 [.ro 8 (rowN l), .int .i64 (q : Nat)], .row false 4 1 (fB l.length F)]⟩, rfl,
      ⟨D.length, 0, updB F i (!decide (name = ⟨#[]⟩)), by omega, rfl, hF0, Eq.trans rfl (congrArg (fun z => (⟨[(2, .bptr 0 0), (6, .own 1 0 l.length), (9, .int .i64 (i : Nat)), (67, .ro 1 (rowZ D)), (68, .int .i64 ((rowZ D).length : Nat)), (69, .int .i64 ((0 : Nat) : Int))], [.box 24 [.ro 8 (rowN l), .int .i64 (q : Nat)], .row false 4 1 z]⟩ : St)) e)⟩, ?_⟩)
    clear hF0 e g2 hFb hFi hF F
    rintro m2 _ ⟨t, F, ht, hm2, hF, rfl⟩
    rcases Nat.lt_or_ge t D.length with htl | hge
    · obtain ⟨k, hk1, hk2⟩ := hDn _ (List.getElem_mem htl)
      have g1 : (rowZ D)[t]? = some [.int .i64 (k : Nat)] := by rw [rowZ_get htl, hk1]
      have g3 : (fB l.length F)[0 + k]? = some [.bool (F k)] := by rw [Nat.zero_add]; exact fB_get (by omega)
      have g4 : (fB l.length F)[0 + i]? = some [.bool (F i)] := by rw [Nat.zero_add]; exact fB_get hil
      cases hFk : F k
      · rw [hFk] at g3
        have e : (fB l.length F).set (0 + k) [.bool (F i)] = fB l.length (updB F k (F i)) := by rw [Nat.zero_add, fB_set]
        have hF' := hloop D F t k (F i) hF hk2 htl hk1 (by rw [hFk]; rfl)
        repeat' ((conv => whnf); first | ((with_reducible apply Xq); assumption) | (with_reducible first | apply Xa | (first | apply xi | apply xp | apply xP); omega | apply Xe | refine Xg (by assumption) ?_) | refine Xo (by assumption) ?_ | refine x_0 (by first | assumption | rfl) ?_ | refine x_1 (by first | assumption | rfl) ?_ | refine Or.inl ⟨rfl, ?_⟩ | (split <;> (first | (rename_i u h; clear u) | rename_i h) <;> (try rewrite [h]) <;> (first | replace h := dt h | replace h := df h | replace h := Nt h | replace h := Nf h | skip) <;> (try dsimp only at h) <;> (first | contradiction | (exfalso; omega) | skip)) | (refine Or.inl ⟨_, by assumption, ?_⟩; first | rintro _ rfl | skip))
        exact ⟨[0, 1], D.length - (t + 1), rfl, by omega, t + 1, _, by omega, rfl, hF', Eq.trans rfl (congrArg (fun z => (⟨[(2, .bptr 0 0), (6, .own 1 0 l.length), (9, .int .i64 (i : Nat)), (67, .ro 1 (rowZ D)), (68, .int .i64 ((rowZ D).length : Nat)), (69, .int .i64 ((t + 1 : Nat) : Int))], [.box 24 [.ro 8 (rowN l), .int .i64 (q : Nat)], .row false 4 1 z]⟩ : St)) e)⟩
      · rw [hFk] at g3
        have e : (fB l.length F).set (0 + k) [.bool true] = fB l.length (updB F k true) := by rw [Nat.zero_add, fB_set]
        have hF' := hloop D F t k true hF hk2 htl hk1 (by rw [hFk]; rfl)
        repeat' ((conv => whnf); first | ((with_reducible apply Xq); assumption) | (with_reducible first | apply Xa | (first | apply xi | apply xp | apply xP); omega | apply Xe | refine Xg (by assumption) ?_) | refine Xo (by assumption) ?_ | refine x_0 (by first | assumption | rfl) ?_ | refine x_1 (by first | assumption | rfl) ?_ | refine Or.inl ⟨rfl, ?_⟩ | (split <;> (first | (rename_i u h; clear u) | rename_i h) <;> (try rewrite [h]) <;> (first | replace h := dt h | replace h := df h | replace h := Nt h | replace h := Nf h | skip) <;> (try dsimp only at h) <;> (first | contradiction | (exfalso; omega) | skip)) | (refine Or.inl ⟨_, by assumption, ?_⟩; first | rintro _ rfl | skip))
        exact ⟨[0, 1], D.length - (t + 1), rfl, by omega, t + 1, _, by omega, rfl, hF', Eq.trans rfl (congrArg (fun z => (⟨[(2, .bptr 0 0), (6, .own 1 0 l.length), (9, .int .i64 (i : Nat)), (67, .ro 1 (rowZ D)), (68, .int .i64 ((rowZ D).length : Nat)), (69, .int .i64 ((t + 1 : Nat) : Int))], [.box 24 [.ro 8 (rowN l), .int .i64 (q : Nat)], .row false 4 1 z]⟩ : St)) e)⟩
    rw [List.take_of_length_le (by omega)] at hF
    have hF' : ∀ j, j < l.length → (F j = true ↔ (if i ≤ j then NP j else PP i j)) := fun j hj => by
      rw [hF j hj, hps j, hDu j]
    repeat' ((conv => whnf); first | ((with_reducible apply Xq); assumption) | (with_reducible first | apply Xa | (first | apply xi | apply xp | apply xP); omega | apply Xe | refine Xg (by assumption) ?_) | refine Xo (by assumption) ?_ | refine x_0 (by first | assumption | rfl) ?_ | refine x_1 (by first | assumption | rfl) ?_ | refine Or.inl ⟨rfl, ?_⟩ | (split <;> (first | (rename_i u h; clear u) | rename_i h) <;> (try rewrite [h]) <;> (first | replace h := dt h | replace h := df h | replace h := Nt h | replace h := Nf h | skip) <;> (try dsimp only at h) <;> (first | contradiction | (exfalso; omega) | skip)) | (refine Or.inl ⟨_, by assumption, ?_⟩; first | rintro _ rfl | skip))
    exact ⟨[0, 1], i, rfl, by omega, _, F, rfl, by omega, hF', rfl⟩
  · rw [hFb] at g2
    have e : (fB l.length F).set (0 + i) [.bool true] = fB l.length (updB F i true) := by rw [Nat.zero_add, fB_set]
    have hF0 : ∀ j, j < l.length → (updB F i true j = true ↔ (if i ≤ j then NP j else PP (i + 1) j ∨ (NP i ∧ (j : Int) ∈ D.take 0))) := fun j hj => by
      by_cases hji : j = i
      · subst hji
        rw [updB_same, if_pos (Nat.le_refl _)]
        rw [hFb] at hFi; rw [hni, ← hFi]; simp
      · rw [updB_ne _ _ hji, hF j hj]
        by_cases hlt : i ≤ j
        · rw [if_pos hlt, if_pos (by omega)]
        · rw [if_neg hlt, if_neg (by omega)]; simp
    repeat' ((conv => whnf); first | ((with_reducible apply Xq); assumption) | (with_reducible first | apply Xa | (first | apply xi | apply xp | apply xP); omega | apply Xe | refine Xg (by assumption) ?_) | refine Xo (by assumption) ?_ | refine x_0 (by first | assumption | rfl) ?_ | refine x_1 (by first | assumption | rfl) ?_ | refine Or.inl ⟨rfl, ?_⟩ | (split <;> (first | (rename_i u h; clear u) | rename_i h) <;> (try rewrite [h]) <;> (first | replace h := dt h | replace h := df h | replace h := Nt h | replace h := Nf h | skip) <;> (try dsimp only at h) <;> (first | contradiction | (exfalso; omega) | skip)) | (refine Or.inl ⟨_, by assumption, ?_⟩; first | rintro _ rfl | skip))
    all_goals (refine ⟨[2, 6, 9, 67, 68, 69], [0, 1], fun m st => ∃ (t : Nat) (F : Nat → Bool), t ≤ D.length ∧ m = D.length - t ∧ (∀ j, j < l.length → (F j = true ↔ (if i ≤ j then NP j else PP (i + 1) j ∨ (NP i ∧ (j : Int) ∈ D.take t)))) ∧
      st = ⟨[(2, .bptr 0 0), (6, .own 1 0 l.length), (9, .int .i64 (i : Nat)), (67, .ro 1 (rowZ D)), (68, .int .i64 ((rowZ D).length : Nat)), (69, .int .i64 (t : Nat))], [.box 24 [.ro 8 (rowN l), .int .i64 (q : Nat)], .row false 4 1 (fB l.length F)]⟩, rfl,
      ⟨D.length, 0, updB F i true, by omega, rfl, hF0, Eq.trans rfl (congrArg (fun z => (⟨[(2, .bptr 0 0), (6, .own 1 0 l.length), (9, .int .i64 (i : Nat)), (67, .ro 1 (rowZ D)), (68, .int .i64 ((rowZ D).length : Nat)), (69, .int .i64 ((0 : Nat) : Int))], [.box 24 [.ro 8 (rowN l), .int .i64 (q : Nat)], .row false 4 1 z]⟩ : St)) e)⟩, ?_⟩)
    clear hF0 e g2 hFb hFi hF F
    rintro m2 _ ⟨t, F, ht, hm2, hF, rfl⟩
    rcases Nat.lt_or_ge t D.length with htl | hge
    · obtain ⟨k, hk1, hk2⟩ := hDn _ (List.getElem_mem htl)
      have g1 : (rowZ D)[t]? = some [.int .i64 (k : Nat)] := by rw [rowZ_get htl, hk1]
      have g3 : (fB l.length F)[0 + k]? = some [.bool (F k)] := by rw [Nat.zero_add]; exact fB_get (by omega)
      have g4 : (fB l.length F)[0 + i]? = some [.bool (F i)] := by rw [Nat.zero_add]; exact fB_get hil
      cases hFk : F k
      · rw [hFk] at g3
        have e : (fB l.length F).set (0 + k) [.bool (F i)] = fB l.length (updB F k (F i)) := by rw [Nat.zero_add, fB_set]
        have hF' := hloop D F t k (F i) hF hk2 htl hk1 (by rw [hFk]; rfl)
        repeat' ((conv => whnf); first | ((with_reducible apply Xq); assumption) | (with_reducible first | apply Xa | (first | apply xi | apply xp | apply xP); omega | apply Xe | refine Xg (by assumption) ?_) | refine Xo (by assumption) ?_ | refine x_0 (by first | assumption | rfl) ?_ | refine x_1 (by first | assumption | rfl) ?_ | refine Or.inl ⟨rfl, ?_⟩ | (split <;> (first | (rename_i u h; clear u) | rename_i h) <;> (try rewrite [h]) <;> (first | replace h := dt h | replace h := df h | replace h := Nt h | replace h := Nf h | skip) <;> (try dsimp only at h) <;> (first | contradiction | (exfalso; omega) | skip)) | (refine Or.inl ⟨_, by assumption, ?_⟩; first | rintro _ rfl | skip))
        exact ⟨[0, 1], D.length - (t + 1), rfl, by omega, t + 1, _, by omega, rfl, hF', Eq.trans rfl (congrArg (fun z => (⟨[(2, .bptr 0 0), (6, .own 1 0 l.length), (9, .int .i64 (i : Nat)), (67, .ro 1 (rowZ D)), (68, .int .i64 ((rowZ D).length : Nat)), (69, .int .i64 ((t + 1 : Nat) : Int))], [.box 24 [.ro 8 (rowN l), .int .i64 (q : Nat)], .row false 4 1 z]⟩ : St)) e)⟩
      · rw [hFk] at g3
        have e : (fB l.length F).set (0 + k) [.bool true] = fB l.length (updB F k true) := by rw [Nat.zero_add, fB_set]
        have hF' := hloop D F t k true hF hk2 htl hk1 (by rw [hFk]; rfl)
        repeat' ((conv => whnf); first | ((with_reducible apply Xq); assumption) | (with_reducible first | apply Xa | (first | apply xi | apply xp | apply xP); omega | apply Xe | refine Xg (by assumption) ?_) | refine Xo (by assumption) ?_ | refine x_0 (by first | assumption | rfl) ?_ | refine x_1 (by first | assumption | rfl) ?_ | refine Or.inl ⟨rfl, ?_⟩ | (split <;> (first | (rename_i u h; clear u) | rename_i h) <;> (try rewrite [h]) <;> (first | replace h := dt h | replace h := df h | replace h := Nt h | replace h := Nf h | skip) <;> (try dsimp only at h) <;> (first | contradiction | (exfalso; omega) | skip)) | (refine Or.inl ⟨_, by assumption, ?_⟩; first | rintro _ rfl | skip))
        exact ⟨[0, 1], D.length - (t + 1), rfl, by omega, t + 1, _, by omega, rfl, hF', Eq.trans rfl (congrArg (fun z => (⟨[(2, .bptr 0 0), (6, .own 1 0 l.length), (9, .int .i64 (i : Nat)), (67, .ro 1 (rowZ D)), (68, .int .i64 ((rowZ D).length : Nat)), (69, .int .i64 ((t + 1 : Nat) : Int))], [.box 24 [.ro 8 (rowN l), .int .i64 (q : Nat)], .row false 4 1 z]⟩ : St)) e)⟩
    rw [List.take_of_length_le (by omega)] at hF
    have hF' : ∀ j, j < l.length → (F j = true ↔ (if i ≤ j then NP j else PP i j)) := fun j hj => by
      rw [hF j hj, hps j, hDu j]
    repeat' ((conv => whnf); first | ((with_reducible apply Xq); assumption) | (with_reducible first | apply Xa | (first | apply xi | apply xp | apply xP); omega | apply Xe | refine Xg (by assumption) ?_) | refine Xo (by assumption) ?_ | refine x_0 (by first | assumption | rfl) ?_ | refine x_1 (by first | assumption | rfl) ?_ | refine Or.inl ⟨rfl, ?_⟩ | (split <;> (first | (rename_i u h; clear u) | rename_i h) <;> (try rewrite [h]) <;> (first | replace h := dt h | replace h := df h | replace h := Nt h | replace h := Nf h | skip) <;> (try dsimp only at h) <;> (first | contradiction | (exfalso; omega) | skip)) | (refine Or.inl ⟨_, by assumption, ?_⟩; first | rintro _ rfl | skip))
    exact ⟨[0, 1], i, rfl, by omega, _, F, rfl, by omega, hF', rfl⟩
end Go.V
