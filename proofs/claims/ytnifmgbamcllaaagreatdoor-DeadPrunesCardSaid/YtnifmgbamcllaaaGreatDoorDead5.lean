/-
  Lemmas (part 5) for: Proved: the card of the law (DeadParts; DeadPrunes) of layer 16, for every graph and every row of numbers, with no condition of ours.
-/
import Derived.Test.YtnifmgbamcllaaaGreatDoorDead4
set_option linter.all false
namespace Go.V
open Go.N
set_option maxRecDepth 20000
def T_gof : Tab := [(43, ⟨.strc [(0, 1, false), (1, 1, false), (2, 1, false), (3, 1, false), (4, 1, false), (5, 1, false), (6, 1, false), (7, 1, false)], 8, 120, (.agg #[(.string .empty), (.int .i64 0), (.int .i64 0), (.string .empty), (.slice none 0 0), (.string .empty), (.int .i64 0), (.slice none 0 0)]), [0, 0, 0, 0, 1, 0, 0, 1]⟩), (9, ⟨.str, 1, 16, (.string .empty), [0]⟩), (25, ⟨.slice 3, 1, 24, (.slice none 0 0), [1]⟩), (41, ⟨.slice 9, 1, 24, (.slice none 0 0), [1]⟩), (3, ⟨.int .i64, 1, 8, (.int .i64 0), [0]⟩), (4, ⟨.bool, 1, 1, (.bool false), [0]⟩)]
theorem TOK_gof : TOK Go.Proofs.Tryz.prog T_gof := ⟨⟨info_of Go.Proofs.Tryz.type43 rfl, by decide +kernel, by decide +kernel⟩, ⟨⟨info_of Go.Proofs.Tryz.type9 rfl, by decide +kernel, by decide +kernel⟩, ⟨⟨info_of Go.Proofs.Tryz.type25 rfl, by decide +kernel, by decide +kernel⟩, ⟨⟨info_of Go.Proofs.Tryz.type41 rfl, by decide +kernel, by decide +kernel⟩, ⟨⟨info_of Go.Proofs.Tryz.type3 rfl, by decide +kernel, by decide +kernel⟩, ⟨⟨info_of Go.Proofs.Tryz.type4 rfl, by decide +kernel, by decide +kernel⟩, trivial⟩⟩⟩⟩⟩⟩
def T_gof1 : Tab := [(9, ⟨.str, 1, 16, (.string .empty), [0]⟩), (4, ⟨.bool, 1, 1, (.bool false), [0]⟩)]
theorem TOK_gof1 : TOK Go.Proofs.Tryz.prog T_gof1 := ⟨⟨info_of Go.Proofs.Tryz.type9 rfl, by decide +kernel, by decide +kernel⟩, ⟨⟨info_of Go.Proofs.Tryz.type4 rfl, by decide +kernel, by decide +kernel⟩, trivial⟩⟩
theorem c_gof1 (s : ByteArray) (hs : s.size < 190000) : VCall Go.Proofs.Tryz.prog GL 43 [.str s] (fun x => x = .bool (!ratOK s)) := by
  have hr := c_RRight s hs
  refine vcall_of TOK_gof1 HM Go.Proofs.Tryz.func43 rfl (by decide +kernel) (by decide +kernel) rfl ?_
  repeat' ((conv => whnf); first | ((with_reducible refine Xq ?_ ?_); assumption) | (with_reducible first | apply Xa | (first | apply xi | apply xu | apply x8 | apply x3 | apply xn | apply xp | apply xP | refine xs ?_ ?_ | refine xS ?_ ?_ | refine xZ ?_ ?_ | refine xl ?_ ?_ | refine xd ?_ ?_ | refine xy ?_ ?_ | refine xL ?_ ?_ | refine xD ?_ ?_ | apply xx); omega | apply Xm | apply Xe | refine Xg (by assumption) ?_) | refine Xo (by assumption) ?_ | refine x_0 (by first | assumption | rfl) ?_ | refine x_1 (by first | assumption | rfl) ?_ | refine Or.inl ⟨rfl, ?_⟩ | (split <;> (first | (rename_i u h; clear u) | rename_i h) <;> (try rewrite [h]) <;> (first | replace h := dt h | replace h := df h | replace h := Nt h | replace h := Nf h | skip) <;> (try dsimp only at h) <;> (first | contradiction | (exfalso; omega) | skip)) | (refine Or.inl ⟨_, by assumption, ?_⟩; first | rintro _ rfl | skip))
  conv => whnf
  rfl
set_option maxHeartbeats 4000000 in
theorem c_gof (x : Nd) (a b : List Int) (hx : x.Sm) (ha : a.length ≤ 1000) (hb : b.length ≤ 1000) :
    VCall Go.Proofs.Tryz.prog GL 32 [.agg x.cells, .ro 1 (rowZ a), .ro 1 (rowZ b)] (fun y => y = .tup [.ro 1 (rowZ (ofZ x a b).1), .bool (ofZ x a b).2]) := by
  obtain ⟨op, na, nb, name, shape, k, n, data⟩ := x
  have hsz := c_shape_Size GL shape (Nat.lt_of_le_of_lt hx.shape (by decide))
  have hsza := c_shape_Size GL a (by omega)
  have hsame := c_shape_Same GL a b (by omega) (by omega)
  have hrk := c_RRight k (Nat.lt_of_le_of_lt hx.k (by decide))
  have hcf := c_ContainsFuncS GL 43 data (fun d => !ratOK d) (Nat.lt_of_le_of_lt hx.data (by decide)) (fun d hd => c_gof1 d (Nat.lt_of_le_of_lt (hx.each d hd) (by decide)))
  have hla : (rowZ a).length = a.length := rowZ_length a
  have hlb : (rowZ b).length = b.length := rowZ_length b
  have hld : (rowS data).length = data.length := rowS_length data
  refine VCall.taken ?_
  rcases opc_cases op with ⟨o, rfl⟩ | hn
  · cases o
    case const =>
      rw [show ofZ ⟨Opc.str .const, na, nb, name, shape, k, n, data⟩ a b = (shape, decide ((data.length : Int) = sizeZ shape) && !(data.any fun d => !ratOK d)) from rfl]
      rw [← rowS_length]
      refine vcall_of TOK_gof HM Go.Proofs.Tryz.func32 rfl (by decide +kernel) (by decide +kernel) rfl ?_
      repeat' ((conv => whnf); first | ((with_reducible refine Xq ?_ ?_); assumption) | (with_reducible first | apply Xa | (first | apply xi | apply xu | apply x8 | apply x3 | apply xn | apply xp | apply xP | refine xs ?_ ?_ | refine xS ?_ ?_ | refine xZ ?_ ?_ | refine xl ?_ ?_ | refine xd ?_ ?_ | refine xy ?_ ?_ | refine xL ?_ ?_ | refine xD ?_ ?_ | apply xx); omega | apply Xm | apply Xe | refine Xg (by assumption) ?_) | refine Xo (by assumption) ?_ | refine x_0 (by first | assumption | rfl) ?_ | refine x_1 (by first | assumption | rfl) ?_ | refine Or.inl ⟨rfl, ?_⟩ | (split <;> (first | (rename_i u h; clear u) | rename_i h) <;> (try rewrite [h]) <;> (first | replace h := dt h | replace h := df h | replace h := Nt h | replace h := Nf h | skip) <;> (try dsimp only at h) <;> (first | contradiction | (exfalso; omega) | skip)) | (refine Or.inl ⟨_, by assumption, ?_⟩; first | rintro _ rfl | skip))
      refine ⟨by decide +kernel, [0, 1, 0, 4, 12, 0, 32, 96, 252, 508, 1020, 2044, 4092, 8188, 16380, 8191, 65535], by decide +kernel, ?_⟩
      repeat' ((conv => whnf); first | ((with_reducible refine Xq ?_ ?_); assumption) | (with_reducible first | apply Xa | (first | apply xi | apply xu | apply x8 | apply x3 | apply xn | apply xp | apply xP | refine xs ?_ ?_ | refine xS ?_ ?_ | refine xZ ?_ ?_ | refine xl ?_ ?_ | refine xd ?_ ?_ | refine xy ?_ ?_ | refine xL ?_ ?_ | refine xD ?_ ?_ | apply xx); omega | apply Xm | apply Xe | refine Xg (by assumption) ?_) | refine Xo (by assumption) ?_ | refine x_0 (by first | assumption | rfl) ?_ | refine x_1 (by first | assumption | rfl) ?_ | refine Or.inl ⟨rfl, ?_⟩ | (split <;> (first | (rename_i u h; clear u) | rename_i h) <;> (try rewrite [h]) <;> (first | replace h := dt h | replace h := df h | replace h := Nt h | replace h := Nf h | skip) <;> (try dsimp only at h) <;> (first | contradiction | (exfalso; omega) | skip)) | (refine Or.inl ⟨_, by assumption, ?_⟩; first | rintro _ rfl | skip))
      all_goals (conv => whnf)
      all_goals first | exact ⟨_, roTo2 rfl rfl, rfl⟩ | exact ⟨_, roTo2 ⟨1, rfl⟩ rfl, rfl⟩ | exact ⟨_, roTo2 rfl (congrArg AV.bool (by simp [h])), rfl⟩
    case add =>
      refine vcall_of TOK_gof HM Go.Proofs.Tryz.func32 rfl (by decide +kernel) (by decide +kernel) rfl ?_
      repeat' ((conv => whnf); first | ((with_reducible refine Xq ?_ ?_); assumption) | (with_reducible first | apply Xa | (first | apply xi | apply xu | apply x8 | apply x3 | apply xn | apply xp | apply xP | refine xs ?_ ?_ | refine xS ?_ ?_ | refine xZ ?_ ?_ | refine xl ?_ ?_ | refine xd ?_ ?_ | refine xy ?_ ?_ | refine xL ?_ ?_ | refine xD ?_ ?_ | apply xx); omega | apply Xm | apply Xe | refine Xg (by assumption) ?_) | refine Xo (by assumption) ?_ | refine x_0 (by first | assumption | rfl) ?_ | refine x_1 (by first | assumption | rfl) ?_ | refine Or.inl ⟨rfl, ?_⟩ | (split <;> (first | (rename_i u h; clear u) | rename_i h) <;> (try rewrite [h]) <;> (first | replace h := dt h | replace h := df h | replace h := Nt h | replace h := Nf h | skip) <;> (try dsimp only at h) <;> (first | contradiction | (exfalso; omega) | skip)) | (refine Or.inl ⟨_, by assumption, ?_⟩; first | rintro _ rfl | skip))
      all_goals (conv => whnf)
      all_goals first | exact ⟨_, roTo2 rfl rfl, rfl⟩ | exact ⟨_, roTo2 ⟨1, rfl⟩ rfl, rfl⟩ | exact ⟨_, roTo2 rfl (congrArg AV.bool (by simp [h])), rfl⟩
    case sub =>
      refine vcall_of TOK_gof HM Go.Proofs.Tryz.func32 rfl (by decide +kernel) (by decide +kernel) rfl ?_
      repeat' ((conv => whnf); first | ((with_reducible refine Xq ?_ ?_); assumption) | (with_reducible first | apply Xa | (first | apply xi | apply xu | apply x8 | apply x3 | apply xn | apply xp | apply xP | refine xs ?_ ?_ | refine xS ?_ ?_ | refine xZ ?_ ?_ | refine xl ?_ ?_ | refine xd ?_ ?_ | refine xy ?_ ?_ | refine xL ?_ ?_ | refine xD ?_ ?_ | apply xx); omega | apply Xm | apply Xe | refine Xg (by assumption) ?_) | refine Xo (by assumption) ?_ | refine x_0 (by first | assumption | rfl) ?_ | refine x_1 (by first | assumption | rfl) ?_ | refine Or.inl ⟨rfl, ?_⟩ | (split <;> (first | (rename_i u h; clear u) | rename_i h) <;> (try rewrite [h]) <;> (first | replace h := dt h | replace h := df h | replace h := Nt h | replace h := Nf h | skip) <;> (try dsimp only at h) <;> (first | contradiction | (exfalso; omega) | skip)) | (refine Or.inl ⟨_, by assumption, ?_⟩; first | rintro _ rfl | skip))
      all_goals (conv => whnf)
      all_goals first | exact ⟨_, roTo2 rfl rfl, rfl⟩ | exact ⟨_, roTo2 ⟨1, rfl⟩ rfl, rfl⟩ | exact ⟨_, roTo2 rfl (congrArg AV.bool (by simp [h])), rfl⟩
    case mul =>
      refine vcall_of TOK_gof HM Go.Proofs.Tryz.func32 rfl (by decide +kernel) (by decide +kernel) rfl ?_
      repeat' ((conv => whnf); first | ((with_reducible refine Xq ?_ ?_); assumption) | (with_reducible first | apply Xa | (first | apply xi | apply xu | apply x8 | apply x3 | apply xn | apply xp | apply xP | refine xs ?_ ?_ | refine xS ?_ ?_ | refine xZ ?_ ?_ | refine xl ?_ ?_ | refine xd ?_ ?_ | refine xy ?_ ?_ | refine xL ?_ ?_ | refine xD ?_ ?_ | apply xx); omega | apply Xm | apply Xe | refine Xg (by assumption) ?_) | refine Xo (by assumption) ?_ | refine x_0 (by first | assumption | rfl) ?_ | refine x_1 (by first | assumption | rfl) ?_ | refine Or.inl ⟨rfl, ?_⟩ | (split <;> (first | (rename_i u h; clear u) | rename_i h) <;> (try rewrite [h]) <;> (first | replace h := dt h | replace h := df h | replace h := Nt h | replace h := Nf h | skip) <;> (try dsimp only at h) <;> (first | contradiction | (exfalso; omega) | skip)) | (refine Or.inl ⟨_, by assumption, ?_⟩; first | rintro _ rfl | skip))
      all_goals (conv => whnf)
      all_goals first | exact ⟨_, roTo2 rfl rfl, rfl⟩ | exact ⟨_, roTo2 ⟨1, rfl⟩ rfl, rfl⟩ | exact ⟨_, roTo2 rfl (congrArg AV.bool (by simp [h])), rfl⟩
    case max =>
      refine vcall_of TOK_gof HM Go.Proofs.Tryz.func32 rfl (by decide +kernel) (by decide +kernel) rfl ?_
      repeat' ((conv => whnf); first | ((with_reducible refine Xq ?_ ?_); assumption) | (with_reducible first | apply Xa | (first | apply xi | apply xu | apply x8 | apply x3 | apply xn | apply xp | apply xP | refine xs ?_ ?_ | refine xS ?_ ?_ | refine xZ ?_ ?_ | refine xl ?_ ?_ | refine xd ?_ ?_ | refine xy ?_ ?_ | refine xL ?_ ?_ | refine xD ?_ ?_ | apply xx); omega | apply Xm | apply Xe | refine Xg (by assumption) ?_) | refine Xo (by assumption) ?_ | refine x_0 (by first | assumption | rfl) ?_ | refine x_1 (by first | assumption | rfl) ?_ | refine Or.inl ⟨rfl, ?_⟩ | (split <;> (first | (rename_i u h; clear u) | rename_i h) <;> (try rewrite [h]) <;> (first | replace h := dt h | replace h := df h | replace h := Nt h | replace h := Nf h | skip) <;> (try dsimp only at h) <;> (first | contradiction | (exfalso; omega) | skip)) | (refine Or.inl ⟨_, by assumption, ?_⟩; first | rintro _ rfl | skip))
      all_goals (conv => whnf)
      all_goals first | exact ⟨_, roTo2 rfl rfl, rfl⟩ | exact ⟨_, roTo2 ⟨1, rfl⟩ rfl, rfl⟩ | exact ⟨_, roTo2 rfl (congrArg AV.bool (by simp [h])), rfl⟩
    case above =>
      refine vcall_of TOK_gof HM Go.Proofs.Tryz.func32 rfl (by decide +kernel) (by decide +kernel) rfl ?_
      repeat' ((conv => whnf); first | ((with_reducible refine Xq ?_ ?_); assumption) | (with_reducible first | apply Xa | (first | apply xi | apply xu | apply x8 | apply x3 | apply xn | apply xp | apply xP | refine xs ?_ ?_ | refine xS ?_ ?_ | refine xZ ?_ ?_ | refine xl ?_ ?_ | refine xd ?_ ?_ | refine xy ?_ ?_ | refine xL ?_ ?_ | refine xD ?_ ?_ | apply xx); omega | apply Xm | apply Xe | refine Xg (by assumption) ?_) | refine Xo (by assumption) ?_ | refine x_0 (by first | assumption | rfl) ?_ | refine x_1 (by first | assumption | rfl) ?_ | refine Or.inl ⟨rfl, ?_⟩ | (split <;> (first | (rename_i u h; clear u) | rename_i h) <;> (try rewrite [h]) <;> (first | replace h := dt h | replace h := df h | replace h := Nt h | replace h := Nf h | skip) <;> (try dsimp only at h) <;> (first | contradiction | (exfalso; omega) | skip)) | (refine Or.inl ⟨_, by assumption, ?_⟩; first | rintro _ rfl | skip))
      all_goals (conv => whnf)
      all_goals first | exact ⟨_, roTo2 rfl rfl, rfl⟩ | exact ⟨_, roTo2 ⟨1, rfl⟩ rfl, rfl⟩ | exact ⟨_, roTo2 rfl (congrArg AV.bool (by simp [h])), rfl⟩
    case relu =>
      refine vcall_of TOK_gof HM Go.Proofs.Tryz.func32 rfl (by decide +kernel) (by decide +kernel) rfl ?_
      repeat' ((conv => whnf); first | ((with_reducible refine Xq ?_ ?_); assumption) | (with_reducible first | apply Xa | (first | apply xi | apply xu | apply x8 | apply x3 | apply xn | apply xp | apply xP | refine xs ?_ ?_ | refine xS ?_ ?_ | refine xZ ?_ ?_ | refine xl ?_ ?_ | refine xd ?_ ?_ | refine xy ?_ ?_ | refine xL ?_ ?_ | refine xD ?_ ?_ | apply xx); omega | apply Xm | apply Xe | refine Xg (by assumption) ?_) | refine Xo (by assumption) ?_ | refine x_0 (by first | assumption | rfl) ?_ | refine x_1 (by first | assumption | rfl) ?_ | refine Or.inl ⟨rfl, ?_⟩ | (split <;> (first | (rename_i u h; clear u) | rename_i h) <;> (try rewrite [h]) <;> (first | replace h := dt h | replace h := df h | replace h := Nt h | replace h := Nf h | skip) <;> (try dsimp only at h) <;> (first | contradiction | (exfalso; omega) | skip)) | (refine Or.inl ⟨_, by assumption, ?_⟩; first | rintro _ rfl | skip))
      all_goals (conv => whnf)
      all_goals first | exact ⟨_, roTo2 rfl rfl, rfl⟩ | exact ⟨_, roTo2 ⟨1, rfl⟩ rfl, rfl⟩ | exact ⟨_, roTo2 rfl (congrArg AV.bool (by simp [h])), rfl⟩
    case abs =>
      refine vcall_of TOK_gof HM Go.Proofs.Tryz.func32 rfl (by decide +kernel) (by decide +kernel) rfl ?_
      repeat' ((conv => whnf); first | ((with_reducible refine Xq ?_ ?_); assumption) | (with_reducible first | apply Xa | (first | apply xi | apply xu | apply x8 | apply x3 | apply xn | apply xp | apply xP | refine xs ?_ ?_ | refine xS ?_ ?_ | refine xZ ?_ ?_ | refine xl ?_ ?_ | refine xd ?_ ?_ | refine xy ?_ ?_ | refine xL ?_ ?_ | refine xD ?_ ?_ | apply xx); omega | apply Xm | apply Xe | refine Xg (by assumption) ?_) | refine Xo (by assumption) ?_ | refine x_0 (by first | assumption | rfl) ?_ | refine x_1 (by first | assumption | rfl) ?_ | refine Or.inl ⟨rfl, ?_⟩ | (split <;> (first | (rename_i u h; clear u) | rename_i h) <;> (try rewrite [h]) <;> (first | replace h := dt h | replace h := df h | replace h := Nt h | replace h := Nf h | skip) <;> (try dsimp only at h) <;> (first | contradiction | (exfalso; omega) | skip)) | (refine Or.inl ⟨_, by assumption, ?_⟩; first | rintro _ rfl | skip))
      all_goals (conv => whnf)
      all_goals first | exact ⟨_, roTo2 rfl rfl, rfl⟩ | exact ⟨_, roTo2 ⟨1, rfl⟩ rfl, rfl⟩ | exact ⟨_, roTo2 rfl (congrArg AV.bool (by simp [h])), rfl⟩
    case step =>
      refine vcall_of TOK_gof HM Go.Proofs.Tryz.func32 rfl (by decide +kernel) (by decide +kernel) rfl ?_
      repeat' ((conv => whnf); first | ((with_reducible refine Xq ?_ ?_); assumption) | (with_reducible first | apply Xa | (first | apply xi | apply xu | apply x8 | apply x3 | apply xn | apply xp | apply xP | refine xs ?_ ?_ | refine xS ?_ ?_ | refine xZ ?_ ?_ | refine xl ?_ ?_ | refine xd ?_ ?_ | refine xy ?_ ?_ | refine xL ?_ ?_ | refine xD ?_ ?_ | apply xx); omega | apply Xm | apply Xe | refine Xg (by assumption) ?_) | refine Xo (by assumption) ?_ | refine x_0 (by first | assumption | rfl) ?_ | refine x_1 (by first | assumption | rfl) ?_ | refine Or.inl ⟨rfl, ?_⟩ | (split <;> (first | (rename_i u h; clear u) | rename_i h) <;> (try rewrite [h]) <;> (first | replace h := dt h | replace h := df h | replace h := Nt h | replace h := Nf h | skip) <;> (try dsimp only at h) <;> (first | contradiction | (exfalso; omega) | skip)) | (refine Or.inl ⟨_, by assumption, ?_⟩; first | rintro _ rfl | skip))
      all_goals (conv => whnf)
      all_goals first | exact ⟨_, roTo2 rfl rfl, rfl⟩ | exact ⟨_, roTo2 ⟨1, rfl⟩ rfl, rfl⟩ | exact ⟨_, roTo2 rfl (congrArg AV.bool (by simp [h])), rfl⟩
    case sign =>
      refine vcall_of TOK_gof HM Go.Proofs.Tryz.func32 rfl (by decide +kernel) (by decide +kernel) rfl ?_
      repeat' ((conv => whnf); first | ((with_reducible refine Xq ?_ ?_); assumption) | (with_reducible first | apply Xa | (first | apply xi | apply xu | apply x8 | apply x3 | apply xn | apply xp | apply xP | refine xs ?_ ?_ | refine xS ?_ ?_ | refine xZ ?_ ?_ | refine xl ?_ ?_ | refine xd ?_ ?_ | refine xy ?_ ?_ | refine xL ?_ ?_ | refine xD ?_ ?_ | apply xx); omega | apply Xm | apply Xe | refine Xg (by assumption) ?_) | refine Xo (by assumption) ?_ | refine x_0 (by first | assumption | rfl) ?_ | refine x_1 (by first | assumption | rfl) ?_ | refine Or.inl ⟨rfl, ?_⟩ | (split <;> (first | (rename_i u h; clear u) | rename_i h) <;> (try rewrite [h]) <;> (first | replace h := dt h | replace h := df h | replace h := Nt h | replace h := Nf h | skip) <;> (try dsimp only at h) <;> (first | contradiction | (exfalso; omega) | skip)) | (refine Or.inl ⟨_, by assumption, ?_⟩; first | rintro _ rfl | skip))
      all_goals (conv => whnf)
      all_goals first | exact ⟨_, roTo2 rfl rfl, rfl⟩ | exact ⟨_, roTo2 ⟨1, rfl⟩ rfl, rfl⟩ | exact ⟨_, roTo2 rfl (congrArg AV.bool (by simp [h])), rfl⟩
    case scale =>
      refine vcall_of TOK_gof HM Go.Proofs.Tryz.func32 rfl (by decide +kernel) (by decide +kernel) rfl ?_
      repeat' ((conv => whnf); first | ((with_reducible refine Xq ?_ ?_); assumption) | (with_reducible first | apply Xa | (first | apply xi | apply xu | apply x8 | apply x3 | apply xn | apply xp | apply xP | refine xs ?_ ?_ | refine xS ?_ ?_ | refine xZ ?_ ?_ | refine xl ?_ ?_ | refine xd ?_ ?_ | refine xy ?_ ?_ | refine xL ?_ ?_ | refine xD ?_ ?_ | apply xx); omega | apply Xm | apply Xe | refine Xg (by assumption) ?_) | refine Xo (by assumption) ?_ | refine x_0 (by first | assumption | rfl) ?_ | refine x_1 (by first | assumption | rfl) ?_ | refine Or.inl ⟨rfl, ?_⟩ | (split <;> (first | (rename_i u h; clear u) | rename_i h) <;> (try rewrite [h]) <;> (first | replace h := dt h | replace h := df h | replace h := Nt h | replace h := Nf h | skip) <;> (try dsimp only at h) <;> (first | contradiction | (exfalso; omega) | skip)) | (refine Or.inl ⟨_, by assumption, ?_⟩; first | rintro _ rfl | skip))
      all_goals (conv => whnf)
      all_goals first | exact ⟨_, roTo2 rfl rfl, rfl⟩ | exact ⟨_, roTo2 ⟨1, rfl⟩ rfl, rfl⟩ | exact ⟨_, roTo2 rfl (congrArg AV.bool (by simp [h])), rfl⟩
    case sum =>
      refine vcall_of TOK_gof HM Go.Proofs.Tryz.func32 rfl (by decide +kernel) (by decide +kernel) rfl ?_
      repeat' ((conv => whnf); first | ((with_reducible refine Xq ?_ ?_); assumption) | (with_reducible first | apply Xa | (first | apply xi | apply xu | apply x8 | apply x3 | apply xn | apply xp | apply xP | refine xs ?_ ?_ | refine xS ?_ ?_ | refine xZ ?_ ?_ | refine xl ?_ ?_ | refine xd ?_ ?_ | refine xy ?_ ?_ | refine xL ?_ ?_ | refine xD ?_ ?_ | apply xx); omega | apply Xm | apply Xe | refine Xg (by assumption) ?_) | refine Xo (by assumption) ?_ | refine x_0 (by first | assumption | rfl) ?_ | refine x_1 (by first | assumption | rfl) ?_ | refine Or.inl ⟨rfl, ?_⟩ | (split <;> (first | (rename_i u h; clear u) | rename_i h) <;> (try rewrite [h]) <;> (first | replace h := dt h | replace h := df h | replace h := Nt h | replace h := Nf h | skip) <;> (try dsimp only at h) <;> (first | contradiction | (exfalso; omega) | skip)) | (refine Or.inl ⟨_, by assumption, ?_⟩; first | rintro _ rfl | skip))
      all_goals (conv => whnf)
      all_goals first | exact ⟨_, roTo2 rfl rfl, rfl⟩ | exact ⟨_, roTo2 ⟨1, rfl⟩ rfl, rfl⟩ | exact ⟨_, roTo2 rfl (congrArg AV.bool (by simp [h])), rfl⟩
    case param =>
      refine vcall_of TOK_gof HM Go.Proofs.Tryz.func32 rfl (by decide +kernel) (by decide +kernel) rfl ?_
      repeat' ((conv => whnf); first | ((with_reducible refine Xq ?_ ?_); assumption) | (with_reducible first | apply Xa | (first | apply xi | apply xu | apply x8 | apply x3 | apply xn | apply xp | apply xP | refine xs ?_ ?_ | refine xS ?_ ?_ | refine xZ ?_ ?_ | refine xl ?_ ?_ | refine xd ?_ ?_ | refine xy ?_ ?_ | refine xL ?_ ?_ | refine xD ?_ ?_ | apply xx); omega | apply Xm | apply Xe | refine Xg (by assumption) ?_) | refine Xo (by assumption) ?_ | refine x_0 (by first | assumption | rfl) ?_ | refine x_1 (by first | assumption | rfl) ?_ | refine Or.inl ⟨rfl, ?_⟩ | (split <;> (first | (rename_i u h; clear u) | rename_i h) <;> (try rewrite [h]) <;> (first | replace h := dt h | replace h := df h | replace h := Nt h | replace h := Nf h | skip) <;> (try dsimp only at h) <;> (first | contradiction | (exfalso; omega) | skip)) | (refine Or.inl ⟨_, by assumption, ?_⟩; first | rintro _ rfl | skip))
      all_goals (conv => whnf)
      all_goals first | exact ⟨_, roTo2 rfl rfl, rfl⟩ | exact ⟨_, roTo2 ⟨1, rfl⟩ rfl, rfl⟩ | exact ⟨_, roTo2 rfl (congrArg AV.bool (by simp [h])), rfl⟩
    case input =>
      refine vcall_of TOK_gof HM Go.Proofs.Tryz.func32 rfl (by decide +kernel) (by decide +kernel) rfl ?_
      repeat' ((conv => whnf); first | ((with_reducible refine Xq ?_ ?_); assumption) | (with_reducible first | apply Xa | (first | apply xi | apply xu | apply x8 | apply x3 | apply xn | apply xp | apply xP | refine xs ?_ ?_ | refine xS ?_ ?_ | refine xZ ?_ ?_ | refine xl ?_ ?_ | refine xd ?_ ?_ | refine xy ?_ ?_ | refine xL ?_ ?_ | refine xD ?_ ?_ | apply xx); omega | apply Xm | apply Xe | refine Xg (by assumption) ?_) | refine Xo (by assumption) ?_ | refine x_0 (by first | assumption | rfl) ?_ | refine x_1 (by first | assumption | rfl) ?_ | refine Or.inl ⟨rfl, ?_⟩ | (split <;> (first | (rename_i u h; clear u) | rename_i h) <;> (try rewrite [h]) <;> (first | replace h := dt h | replace h := df h | replace h := Nt h | replace h := Nf h | skip) <;> (try dsimp only at h) <;> (first | contradiction | (exfalso; omega) | skip)) | (refine Or.inl ⟨_, by assumption, ?_⟩; first | rintro _ rfl | skip))
      all_goals (conv => whnf)
      all_goals first | exact ⟨_, roTo2 rfl rfl, rfl⟩ | exact ⟨_, roTo2 ⟨1, rfl⟩ rfl, rfl⟩ | exact ⟨_, roTo2 rfl (congrArg AV.bool (by simp [h])), rfl⟩
    case power =>
      rw [show ofZ ⟨Opc.str .power, na, nb, name, shape, k, n, data⟩ a b = (a, decide (0 ≤ n) && decide (n ≤ 6)) from rfl]
      refine vcall_of TOK_gof HM Go.Proofs.Tryz.func32 rfl (by decide +kernel) (by decide +kernel) rfl ?_
      repeat' ((conv => whnf); first | ((with_reducible refine Xq ?_ ?_); assumption) | (with_reducible first | apply Xa | (first | apply xi | apply xu | apply x8 | apply x3 | apply xn | apply xp | apply xP | refine xs ?_ ?_ | refine xS ?_ ?_ | refine xZ ?_ ?_ | refine xl ?_ ?_ | refine xd ?_ ?_ | refine xy ?_ ?_ | refine xL ?_ ?_ | refine xD ?_ ?_ | apply xx); omega | apply Xm | apply Xe | refine Xg (by assumption) ?_) | refine Xo (by assumption) ?_ | refine x_0 (by first | assumption | rfl) ?_ | refine x_1 (by first | assumption | rfl) ?_ | refine Or.inl ⟨rfl, ?_⟩ | (split <;> (first | (rename_i u h; clear u) | rename_i h) <;> (try rewrite [h]) <;> (first | replace h := dt h | replace h := df h | replace h := Nt h | replace h := Nf h | skip) <;> (try dsimp only at h) <;> (first | contradiction | (exfalso; omega) | skip)) | (refine Or.inl ⟨_, by assumption, ?_⟩; first | rintro _ rfl | skip))
      refine ⟨by decide +kernel, [0, 0, 2, 6, 14, 30, 62, 126, 254, 31, 1023], by decide +kernel, ?_⟩
      repeat' ((conv => whnf); first | ((with_reducible refine Xq ?_ ?_); assumption) | (with_reducible first | apply Xa | (first | apply xi | apply xu | apply x8 | apply x3 | apply xn | apply xp | apply xP | refine xs ?_ ?_ | refine xS ?_ ?_ | refine xZ ?_ ?_ | refine xl ?_ ?_ | refine xd ?_ ?_ | refine xy ?_ ?_ | refine xL ?_ ?_ | refine xD ?_ ?_ | apply xx); omega | apply Xm | apply Xe | refine Xg (by assumption) ?_) | refine Xo (by assumption) ?_ | refine x_0 (by first | assumption | rfl) ?_ | refine x_1 (by first | assumption | rfl) ?_ | refine Or.inl ⟨rfl, ?_⟩ | (split <;> (first | (rename_i u h; clear u) | rename_i h) <;> (try rewrite [h]) <;> (first | replace h := dt h | replace h := df h | replace h := Nt h | replace h := Nf h | skip) <;> (try dsimp only at h) <;> (first | contradiction | (exfalso; omega) | skip)) | (refine Or.inl ⟨_, by assumption, ?_⟩; first | rintro _ rfl | skip))
      all_goals (conv => whnf)
      all_goals first | exact ⟨_, roTo2 rfl rfl, rfl⟩ | exact ⟨_, roTo2 ⟨1, rfl⟩ rfl, rfl⟩ | exact ⟨_, roTo2 rfl (congrArg AV.bool (by simp [h])), rfl⟩
    case reshape =>
      refine vcall_of TOK_gof HM Go.Proofs.Tryz.func32 rfl (by decide +kernel) (by decide +kernel) rfl ?_
      repeat' ((conv => whnf); first | ((with_reducible refine Xq ?_ ?_); assumption) | (with_reducible first | apply Xa | (first | apply xi | apply xu | apply x8 | apply x3 | apply xn | apply xp | apply xP | refine xs ?_ ?_ | refine xS ?_ ?_ | refine xZ ?_ ?_ | refine xl ?_ ?_ | refine xd ?_ ?_ | refine xy ?_ ?_ | refine xL ?_ ?_ | refine xD ?_ ?_ | apply xx); omega | apply Xm | apply Xe | refine Xg (by assumption) ?_) | refine Xo (by assumption) ?_ | refine x_0 (by first | assumption | rfl) ?_ | refine x_1 (by first | assumption | rfl) ?_ | refine Or.inl ⟨rfl, ?_⟩ | (split <;> (first | (rename_i u h; clear u) | rename_i h) <;> (try rewrite [h]) <;> (first | replace h := dt h | replace h := df h | replace h := Nt h | replace h := Nf h | skip) <;> (try dsimp only at h) <;> (first | contradiction | (exfalso; omega) | skip)) | (refine Or.inl ⟨_, by assumption, ?_⟩; first | rintro _ rfl | skip))
      refine ⟨by decide +kernel, [0, 1, 0, 4, 12, 0, 60, 124, 127, 511], by decide +kernel, ?_⟩
      repeat' ((conv => whnf); first | ((with_reducible refine Xq ?_ ?_); assumption) | (with_reducible first | apply Xa | (first | apply xi | apply xu | apply x8 | apply x3 | apply xn | apply xp | apply xP | refine xs ?_ ?_ | refine xS ?_ ?_ | refine xZ ?_ ?_ | refine xl ?_ ?_ | refine xd ?_ ?_ | refine xy ?_ ?_ | refine xL ?_ ?_ | refine xD ?_ ?_ | apply xx); omega | apply Xm | apply Xe | refine Xg (by assumption) ?_) | refine Xo (by assumption) ?_ | refine x_0 (by first | assumption | rfl) ?_ | refine x_1 (by first | assumption | rfl) ?_ | refine Or.inl ⟨rfl, ?_⟩ | (split <;> (first | (rename_i u h; clear u) | rename_i h) <;> (try rewrite [h]) <;> (first | replace h := dt h | replace h := df h | replace h := Nt h | replace h := Nf h | skip) <;> (try dsimp only at h) <;> (first | contradiction | (exfalso; omega) | skip)) | (refine Or.inl ⟨_, by assumption, ?_⟩; first | rintro _ rfl | skip))
      all_goals (conv => whnf)
      all_goals first | exact ⟨_, roTo2 rfl rfl, rfl⟩ | exact ⟨_, roTo2 ⟨1, rfl⟩ rfl, rfl⟩ | exact ⟨_, roTo2 rfl (congrArg AV.bool (by simp [h])), rfl⟩
    case spread =>
      rw [show ofZ ⟨Opc.str .spread, na, nb, name, shape, k, n, data⟩ a b = (shape, decide ((a.length : Int) = 0)) from rfl]
      rw [← rowZ_length]
      refine vcall_of TOK_gof HM Go.Proofs.Tryz.func32 rfl (by decide +kernel) (by decide +kernel) rfl ?_
      repeat' ((conv => whnf); first | ((with_reducible refine Xq ?_ ?_); assumption) | (with_reducible first | apply Xa | (first | apply xi | apply xu | apply x8 | apply x3 | apply xn | apply xp | apply xP | refine xs ?_ ?_ | refine xS ?_ ?_ | refine xZ ?_ ?_ | refine xl ?_ ?_ | refine xd ?_ ?_ | refine xy ?_ ?_ | refine xL ?_ ?_ | refine xD ?_ ?_ | apply xx); omega | apply Xm | apply Xe | refine Xg (by assumption) ?_) | refine Xo (by assumption) ?_ | refine x_0 (by first | assumption | rfl) ?_ | refine x_1 (by first | assumption | rfl) ?_ | refine Or.inl ⟨rfl, ?_⟩ | (split <;> (first | (rename_i u h; clear u) | rename_i h) <;> (try rewrite [h]) <;> (first | replace h := dt h | replace h := df h | replace h := Nt h | replace h := Nf h | skip) <;> (try dsimp only at h) <;> (first | contradiction | (exfalso; omega) | skip)) | (refine Or.inl ⟨_, by assumption, ?_⟩; first | rintro _ rfl | skip))
      all_goals (conv => whnf)
      all_goals first | exact ⟨_, roTo2 rfl rfl, rfl⟩ | exact ⟨_, roTo2 ⟨1, rfl⟩ rfl, rfl⟩ | exact ⟨_, roTo2 rfl (congrArg AV.bool (by simp [h])), rfl⟩
    case transpose =>
      by_cases h2 : a.length = 2
      · obtain ⟨p, q, rfl⟩ := two_of h2
        refine vcall_of TOK_gof HM Go.Proofs.Tryz.func32 rfl (by decide +kernel) (by decide +kernel) rfl ?_
        repeat' ((conv => whnf); first | ((with_reducible refine Xq ?_ ?_); assumption) | (with_reducible first | apply Xa | (first | apply xi | apply xu | apply x8 | apply x3 | apply xn | apply xp | apply xP | refine xs ?_ ?_ | refine xS ?_ ?_ | refine xZ ?_ ?_ | refine xl ?_ ?_ | refine xd ?_ ?_ | refine xy ?_ ?_ | refine xL ?_ ?_ | refine xD ?_ ?_ | apply xx); omega | apply Xm | apply Xe | refine Xg (by assumption) ?_) | refine Xo (by assumption) ?_ | refine x_0 (by first | assumption | rfl) ?_ | refine x_1 (by first | assumption | rfl) ?_ | refine Or.inl ⟨rfl, ?_⟩ | (split <;> (first | (rename_i u h; clear u) | rename_i h) <;> (try rewrite [h]) <;> (first | replace h := dt h | replace h := df h | replace h := Nt h | replace h := Nf h | skip) <;> (try dsimp only at h) <;> (first | contradiction | (exfalso; omega) | skip)) | (refine Or.inl ⟨_, by assumption, ?_⟩; first | rintro _ rfl | skip))
        refine ⟨by decide +kernel, [0, 1, 3, 0, 8, 24, 63, 127, 255], by decide +kernel, ?_⟩
        repeat' ((conv => whnf); first | ((with_reducible refine Xq ?_ ?_); assumption) | (with_reducible first | apply Xa | (first | apply xi | apply xu | apply x8 | apply x3 | apply xn | apply xp | apply xP | refine xs ?_ ?_ | refine xS ?_ ?_ | refine xZ ?_ ?_ | refine xl ?_ ?_ | refine xd ?_ ?_ | refine xy ?_ ?_ | refine xL ?_ ?_ | refine xD ?_ ?_ | apply xx); omega | apply Xm | apply Xe | refine Xg (by assumption) ?_) | refine Xo (by assumption) ?_ | refine x_0 (by first | assumption | rfl) ?_ | refine x_1 (by first | assumption | rfl) ?_ | refine Or.inl ⟨rfl, ?_⟩ | (split <;> (first | (rename_i u h; clear u) | rename_i h) <;> (try rewrite [h]) <;> (first | replace h := dt h | replace h := df h | replace h := Nt h | replace h := Nf h | skip) <;> (try dsimp only at h) <;> (first | contradiction | (exfalso; omega) | skip)) | (refine Or.inl ⟨_, by assumption, ?_⟩; first | rintro _ rfl | skip))
        all_goals (conv => whnf)
        all_goals first | exact ⟨_, roTo2 rfl rfl, rfl⟩ | exact ⟨_, roTo2 ⟨1, rfl⟩ rfl, rfl⟩ | exact ⟨_, roTo2 rfl (congrArg AV.bool (by simp [h])), rfl⟩
      · rw [show ofZ ⟨Opc.str .transpose, na, nb, name, shape, k, n, data⟩ a b = _ from transpose_not h2]
        refine vcall_of TOK_gof HM Go.Proofs.Tryz.func32 rfl (by decide +kernel) (by decide +kernel) rfl ?_
        repeat' ((conv => whnf); first | ((with_reducible refine Xq ?_ ?_); assumption) | (with_reducible first | apply Xa | (first | apply xi | apply xu | apply x8 | apply x3 | apply xn | apply xp | apply xP | refine xs ?_ ?_ | refine xS ?_ ?_ | refine xZ ?_ ?_ | refine xl ?_ ?_ | refine xd ?_ ?_ | refine xy ?_ ?_ | refine xL ?_ ?_ | refine xD ?_ ?_ | apply xx); omega | apply Xm | apply Xe | refine Xg (by assumption) ?_) | refine Xo (by assumption) ?_ | refine x_0 (by first | assumption | rfl) ?_ | refine x_1 (by first | assumption | rfl) ?_ | refine Or.inl ⟨rfl, ?_⟩ | (split <;> (first | (rename_i u h; clear u) | rename_i h) <;> (try rewrite [h]) <;> (first | replace h := dt h | replace h := df h | replace h := Nt h | replace h := Nf h | skip) <;> (try dsimp only at h) <;> (first | contradiction | (exfalso; omega) | skip)) | (refine Or.inl ⟨_, by assumption, ?_⟩; first | rintro _ rfl | skip))
        all_goals (conv => whnf)
        all_goals first | exact ⟨_, roTo2 rfl rfl, rfl⟩ | exact ⟨_, roTo2 ⟨1, rfl⟩ rfl, rfl⟩ | exact ⟨_, roTo2 rfl (congrArg AV.bool (by simp [h])), rfl⟩
    case matmul =>
      by_cases h2 : a.length = 2 ∧ b.length = 2
      · obtain ⟨ha2, hb2⟩ := h2
        obtain ⟨p, q, rfl⟩ := two_of ha2
        obtain ⟨r, s, rfl⟩ := two_of hb2
        by_cases hqr : q = r
        · rw [show ofZ ⟨Opc.str .matmul, na, nb, name, shape, k, n, data⟩ [p, q] [r, s] = ([p, s], true) from if_pos hqr]
          refine vcall_of TOK_gof HM Go.Proofs.Tryz.func32 rfl (by decide +kernel) (by decide +kernel) rfl ?_
          repeat' ((conv => whnf); first | ((with_reducible refine Xq ?_ ?_); assumption) | (with_reducible first | apply Xa | (first | apply xi | apply xu | apply x8 | apply x3 | apply xn | apply xp | apply xP | refine xs ?_ ?_ | refine xS ?_ ?_ | refine xZ ?_ ?_ | refine xl ?_ ?_ | refine xd ?_ ?_ | refine xy ?_ ?_ | refine xL ?_ ?_ | refine xD ?_ ?_ | apply xx); omega | apply Xm | apply Xe | refine Xg (by assumption) ?_) | refine Xo (by assumption) ?_ | refine x_0 (by first | assumption | rfl) ?_ | refine x_1 (by first | assumption | rfl) ?_ | refine Or.inl ⟨rfl, ?_⟩ | (split <;> (first | (rename_i u h; clear u) | rename_i h) <;> (try rewrite [h]) <;> (first | replace h := dt h | replace h := df h | replace h := Nt h | replace h := Nf h | skip) <;> (try dsimp only at h) <;> (first | contradiction | (exfalso; omega) | skip)) | (refine Or.inl ⟨_, by assumption, ?_⟩; first | rintro _ rfl | skip))
          refine ⟨by decide +kernel, [0, 1, 3, 7, 15, 31, 63, 127, 255, 511, 1023, 2047, 511, 4607, 12799, 32767, 65535], by decide +kernel, ?_⟩
          repeat' ((conv => whnf); first | ((with_reducible refine Xq ?_ ?_); assumption) | (with_reducible first | apply Xa | (first | apply xi | apply xu | apply x8 | apply x3 | apply xn | apply xp | apply xP | refine xs ?_ ?_ | refine xS ?_ ?_ | refine xZ ?_ ?_ | refine xl ?_ ?_ | refine xd ?_ ?_ | refine xy ?_ ?_ | refine xL ?_ ?_ | refine xD ?_ ?_ | apply xx); omega | apply Xm | apply Xe | refine Xg (by assumption) ?_) | refine Xo (by assumption) ?_ | refine x_0 (by first | assumption | rfl) ?_ | refine x_1 (by first | assumption | rfl) ?_ | refine Or.inl ⟨rfl, ?_⟩ | (split <;> (first | (rename_i u h; clear u) | rename_i h) <;> (try rewrite [h]) <;> (first | replace h := dt h | replace h := df h | replace h := Nt h | replace h := Nf h | skip) <;> (try dsimp only at h) <;> (first | contradiction | (exfalso; omega) | skip)) | (refine Or.inl ⟨_, by assumption, ?_⟩; first | rintro _ rfl | skip))
          refine ⟨by decide +kernel, [0, 1, 3, 0, 8, 24, 63, 127, 255], by decide +kernel, ?_⟩
          repeat' ((conv => whnf); first | ((with_reducible refine Xq ?_ ?_); assumption) | (with_reducible first | apply Xa | (first | apply xi | apply xu | apply x8 | apply x3 | apply xn | apply xp | apply xP | refine xs ?_ ?_ | refine xS ?_ ?_ | refine xZ ?_ ?_ | refine xl ?_ ?_ | refine xd ?_ ?_ | refine xy ?_ ?_ | refine xL ?_ ?_ | refine xD ?_ ?_ | apply xx); omega | apply Xm | apply Xe | refine Xg (by assumption) ?_) | refine Xo (by assumption) ?_ | refine x_0 (by first | assumption | rfl) ?_ | refine x_1 (by first | assumption | rfl) ?_ | refine Or.inl ⟨rfl, ?_⟩ | (split <;> (first | (rename_i u h; clear u) | rename_i h) <;> (try rewrite [h]) <;> (first | replace h := dt h | replace h := df h | replace h := Nt h | replace h := Nf h | skip) <;> (try dsimp only at h) <;> (first | contradiction | (exfalso; omega) | skip)) | (refine Or.inl ⟨_, by assumption, ?_⟩; first | rintro _ rfl | skip))
          all_goals (conv => whnf)
          all_goals first | exact ⟨_, roTo2 rfl rfl, rfl⟩ | exact ⟨_, roTo2 ⟨1, rfl⟩ rfl, rfl⟩ | exact ⟨_, roTo2 rfl (congrArg AV.bool (by simp [h])), rfl⟩
        · rw [show ofZ ⟨Opc.str .matmul, na, nb, name, shape, k, n, data⟩ [p, q] [r, s] = ([], false) from if_neg hqr]
          refine vcall_of TOK_gof HM Go.Proofs.Tryz.func32 rfl (by decide +kernel) (by decide +kernel) rfl ?_
          repeat' ((conv => whnf); first | ((with_reducible refine Xq ?_ ?_); assumption) | (with_reducible first | apply Xa | (first | apply xi | apply xu | apply x8 | apply x3 | apply xn | apply xp | apply xP | refine xs ?_ ?_ | refine xS ?_ ?_ | refine xZ ?_ ?_ | refine xl ?_ ?_ | refine xd ?_ ?_ | refine xy ?_ ?_ | refine xL ?_ ?_ | refine xD ?_ ?_ | apply xx); omega | apply Xm | apply Xe | refine Xg (by assumption) ?_) | refine Xo (by assumption) ?_ | refine x_0 (by first | assumption | rfl) ?_ | refine x_1 (by first | assumption | rfl) ?_ | refine Or.inl ⟨rfl, ?_⟩ | (split <;> (first | (rename_i u h; clear u) | rename_i h) <;> (try rewrite [h]) <;> (first | replace h := dt h | replace h := df h | replace h := Nt h | replace h := Nf h | skip) <;> (try dsimp only at h) <;> (first | contradiction | (exfalso; omega) | skip)) | (refine Or.inl ⟨_, by assumption, ?_⟩; first | rintro _ rfl | skip))
          refine ⟨by decide +kernel, [0, 1, 3, 7, 15, 31, 63, 127, 255, 511, 1023, 2047, 511, 4607, 12799, 32767, 65535], by decide +kernel, ?_⟩
          repeat' ((conv => whnf); first | ((with_reducible refine Xq ?_ ?_); assumption) | (with_reducible first | apply Xa | (first | apply xi | apply xu | apply x8 | apply x3 | apply xn | apply xp | apply xP | refine xs ?_ ?_ | refine xS ?_ ?_ | refine xZ ?_ ?_ | refine xl ?_ ?_ | refine xd ?_ ?_ | refine xy ?_ ?_ | refine xL ?_ ?_ | refine xD ?_ ?_ | apply xx); omega | apply Xm | apply Xe | refine Xg (by assumption) ?_) | refine Xo (by assumption) ?_ | refine x_0 (by first | assumption | rfl) ?_ | refine x_1 (by first | assumption | rfl) ?_ | refine Or.inl ⟨rfl, ?_⟩ | (split <;> (first | (rename_i u h; clear u) | rename_i h) <;> (try rewrite [h]) <;> (first | replace h := dt h | replace h := df h | replace h := Nt h | replace h := Nf h | skip) <;> (try dsimp only at h) <;> (first | contradiction | (exfalso; omega) | skip)) | (refine Or.inl ⟨_, by assumption, ?_⟩; first | rintro _ rfl | skip))
          all_goals (conv => whnf)
          all_goals first | exact ⟨_, roTo2 rfl rfl, rfl⟩ | exact ⟨_, roTo2 ⟨1, rfl⟩ rfl, rfl⟩ | exact ⟨_, roTo2 rfl (congrArg AV.bool (by simp [h])), rfl⟩
      · rw [show ofZ ⟨Opc.str .matmul, na, nb, name, shape, k, n, data⟩ a b = _ from matmul_not fun h => h2 ⟨h.1, h.2.1⟩]
        refine vcall_of TOK_gof HM Go.Proofs.Tryz.func32 rfl (by decide +kernel) (by decide +kernel) rfl ?_
        repeat' ((conv => whnf); first | ((with_reducible refine Xq ?_ ?_); assumption) | (with_reducible first | apply Xa | (first | apply xi | apply xu | apply x8 | apply x3 | apply xn | apply xp | apply xP | refine xs ?_ ?_ | refine xS ?_ ?_ | refine xZ ?_ ?_ | refine xl ?_ ?_ | refine xd ?_ ?_ | refine xy ?_ ?_ | refine xL ?_ ?_ | refine xD ?_ ?_ | apply xx); omega | apply Xm | apply Xe | refine Xg (by assumption) ?_) | refine Xo (by assumption) ?_ | refine x_0 (by first | assumption | rfl) ?_ | refine x_1 (by first | assumption | rfl) ?_ | refine Or.inl ⟨rfl, ?_⟩ | (split <;> (first | (rename_i u h; clear u) | rename_i h) <;> (try rewrite [h]) <;> (first | replace h := dt h | replace h := df h | replace h := Nt h | replace h := Nf h | skip) <;> (try dsimp only at h) <;> (first | contradiction | (exfalso; omega) | skip)) | (refine Or.inl ⟨_, by assumption, ?_⟩; first | rintro _ rfl | skip))
        refine ⟨by decide +kernel, [0, 1, 3, 7, 15, 31, 63, 127, 255, 511, 1023, 2047, 511, 4607, 12799, 32767, 65535], by decide +kernel, ?_⟩
        repeat' ((conv => whnf); first | ((with_reducible refine Xq ?_ ?_); assumption) | (with_reducible first | apply Xa | (first | apply xi | apply xu | apply x8 | apply x3 | apply xn | apply xp | apply xP | refine xs ?_ ?_ | refine xS ?_ ?_ | refine xZ ?_ ?_ | refine xl ?_ ?_ | refine xd ?_ ?_ | refine xy ?_ ?_ | refine xL ?_ ?_ | refine xD ?_ ?_ | apply xx); omega | apply Xm | apply Xe | refine Xg (by assumption) ?_) | refine Xo (by assumption) ?_ | refine x_0 (by first | assumption | rfl) ?_ | refine x_1 (by first | assumption | rfl) ?_ | refine Or.inl ⟨rfl, ?_⟩ | (split <;> (first | (rename_i u h; clear u) | rename_i h) <;> (try rewrite [h]) <;> (first | replace h := dt h | replace h := df h | replace h := Nt h | replace h := Nf h | skip) <;> (try dsimp only at h) <;> (first | contradiction | (exfalso; omega) | skip)) | (refine Or.inl ⟨_, by assumption, ?_⟩; first | rintro _ rfl | skip))
        all_goals (conv => whnf)
        all_goals first | exact ⟨_, roTo2 rfl rfl, rfl⟩ | exact ⟨_, roTo2 ⟨1, rfl⟩ rfl, rfl⟩ | exact ⟨_, roTo2 rfl (congrArg AV.bool (by simp [h])), rfl⟩
  · rw [ofZ_none hn]
    have kk := opc_none hn
    have k0 : ¬ op = sConst := kk .const
    have k1 : ¬ op = sAdd := kk .add
    have k2 : ¬ op = sSub := kk .sub
    have k3 : ¬ op = sMul := kk .mul
    have k4 : ¬ op = sMax := kk .max
    have k5 : ¬ op = sAbove := kk .above
    have k6 : ¬ op = sMatmul := kk .matmul
    have k7 : ¬ op = sRelu := kk .relu
    have k8 : ¬ op = sAbs := kk .abs
    have k9 : ¬ op = sStep := kk .step
    have k10 : ¬ op = sSign := kk .sign
    have k11 : ¬ op = sScale := kk .scale
    have k12 : ¬ op = sPower := kk .power
    have k13 : ¬ op = sTranspose := kk .transpose
    have k14 : ¬ op = sSum := kk .sum
    have k15 : ¬ op = sReshape := kk .reshape
    have k16 : ¬ op = sSpread := kk .spread
    refine vcall_of TOK_gof HM Go.Proofs.Tryz.func32 rfl (by decide +kernel) (by decide +kernel) rfl ?_
    repeat' ((conv => whnf); first | ((with_reducible refine Xq ?_ ?_); assumption) | (with_reducible first | apply Xa | (first | apply xi | apply xu | apply x8 | apply x3 | apply xn | apply xp | apply xP | refine xs ?_ ?_ | refine xS ?_ ?_ | refine xZ ?_ ?_ | refine xl ?_ ?_ | refine xd ?_ ?_ | refine xy ?_ ?_ | refine xL ?_ ?_ | refine xD ?_ ?_ | apply xx); omega | apply Xm | apply Xe | refine Xg (by assumption) ?_) | refine Xo (by assumption) ?_ | refine x_0 (by first | assumption | rfl) ?_ | refine x_1 (by first | assumption | rfl) ?_ | refine Or.inl ⟨rfl, ?_⟩ | (split <;> (first | (rename_i u h; clear u) | rename_i h) <;> (try rewrite [h]) <;> (first | replace h := dt h | replace h := df h | replace h := Nt h | replace h := Nf h | skip) <;> (try dsimp only at h) <;> (first | contradiction | (exfalso; omega) | skip)) | (refine Or.inl ⟨_, by assumption, ?_⟩; first | rintro _ rfl | skip))
    all_goals (conv => whnf)
    all_goals first | exact ⟨_, roTo2 rfl rfl, rfl⟩ | exact ⟨_, roTo2 ⟨1, rfl⟩ rfl, rfl⟩ | exact ⟨_, roTo2 rfl (congrArg AV.bool (by simp [h])), rfl⟩
end Go.V
namespace Go.V
open Go.N
set_option maxRecDepth 20000
def T_gInfer : Tab := [(43, ⟨.strc [(0, 1, false), (1, 1, false), (2, 1, false), (3, 1, false), (4, 1, false), (5, 1, false), (6, 1, false), (7, 1, false)], 8, 120, (.agg #[(.string .empty), (.int .i64 0), (.int .i64 0), (.string .empty), (.slice none 0 0), (.string .empty), (.int .i64 0), (.slice none 0 0)]), [0, 0, 0, 0, 1, 0, 0, 1]⟩), (9, ⟨.str, 1, 16, (.string .empty), [0]⟩), (4, ⟨.bool, 1, 1, (.bool false), [0]⟩), (3, ⟨.int .i64, 1, 8, (.int .i64 0), [0]⟩), (22, ⟨.slice 43, 1, 24, (.slice none 0 0), [8]⟩), (25, ⟨.slice 3, 1, 24, (.slice none 0 0), [1]⟩)]
theorem TOK_gInfer : TOK Go.Proofs.Tryz.prog T_gInfer := ⟨⟨info_of Go.Proofs.Tryz.type43 rfl, by decide +kernel, by decide +kernel⟩, ⟨⟨info_of Go.Proofs.Tryz.type9 rfl, by decide +kernel, by decide +kernel⟩, ⟨⟨info_of Go.Proofs.Tryz.type4 rfl, by decide +kernel, by decide +kernel⟩, ⟨⟨info_of Go.Proofs.Tryz.type3 rfl, by decide +kernel, by decide +kernel⟩, ⟨⟨info_of Go.Proofs.Tryz.type22 rfl, by decide +kernel, by decide +kernel⟩, ⟨⟨info_of Go.Proofs.Tryz.type25 rfl, by decide +kernel, by decide +kernel⟩, trivial⟩⟩⟩⟩⟩⟩
theorem c_CloneR (gl : Gl) (l : List Int) (hll : l.length < 1000000) : VCall Go.Proofs.Tryz.prog gl 34 [.ro 1 (rowZ l)] (fun x => x = .ro 1 (rowZ l)) :=
  VCall.taken ((c_CloneI gl l hll).mono fun x hx => by
    rcases hx with rfl | ⟨rfl, rfl⟩
    · exact ⟨_, rfl, rfl⟩
    · exact ⟨_, (show RoTo .nils (.ro 1 []) from ⟨1, rfl⟩), rfl⟩)
theorem z1 {s : List Int} {ok : Bool} (h : (!ok) = true) : okZ (s, ok) = none := by simp at h; simp [okZ, h]
theorem z2 {s : List Int} {ok : Bool} (h : (!okShape s) = true) : okZ (s, ok) = none := by simp at h; simp [okZ, h]
theorem z3 {s : List Int} {ok : Bool} (h1 : (!ok) = false) (h : (!okShape s) = false) : okZ (s, ok) = some s := by simp at h h1; simp [okZ, h, h1]
set_option maxHeartbeats 4000000 in
theorem c_gInfer (l : List Nd) (x : Nd) (hx : x.Sm) (hl : ∀ y ∈ l, y.Sm) (hll : l.length ≤ 1000) :
    VCall Go.Proofs.Tryz.prog GL 22 [.ro 8 (rowN l), .agg x.cells] (fun y => y = .tup [.ro 1 (rowZ ((inferN l x).getD [])), .bool (inferN l x).isSome]) := by
  obtain ⟨op, a, b, name, shape, k, n, data⟩ := x
  have hp := c_gparts GL op
  have hlr : (rowN l).length = l.length := rowN_length l
  refine VCall.taken ?_
  cases hop : opParts op with
  | none =>
    rw [inferN_none hop]
    rw [partsN, hop] at hp
    refine vcall_of TOK_gInfer HM Go.Proofs.Tryz.func22 rfl (by decide +kernel) (by decide +kernel) rfl ?_
    repeat' ((conv => whnf); first | ((with_reducible refine Xq ?_ ?_); assumption) | (with_reducible first | apply Xa | (first | apply xi | apply xu | apply x8 | apply x3 | apply xn | apply xp | apply xP | refine xs ?_ ?_ | refine xS ?_ ?_ | refine xZ ?_ ?_ | refine xl ?_ ?_ | refine xd ?_ ?_ | refine xy ?_ ?_ | refine xL ?_ ?_ | refine xD ?_ ?_ | apply xx); omega | apply Xm | apply Xe | refine Xg (by assumption) ?_) | refine Xo (by assumption) ?_ | refine x_0 (by first | assumption | rfl) ?_ | refine x_1 (by first | assumption | rfl) ?_ | refine Or.inl ⟨rfl, ?_⟩ | (split <;> (first | (rename_i u h; clear u) | rename_i h) <;> (try rewrite [h]) <;> (first | replace h := dt h | replace h := df h | replace h := Nt h | replace h := Nf h | skip) <;> (try dsimp only at h) <;> (first | contradiction | (exfalso; omega) | skip)) | (refine Or.inl ⟨_, by assumption, ?_⟩; first | rintro _ rfl | skip))
    all_goals (conv => whnf)
    all_goals exact ⟨_, roTo2 (show RoTo .nils (.ro 1 []) from ⟨1, rfl⟩) rfl, rfl⟩
  | some m =>
    rw [partsN, hop] at hp
    have hm := opParts_le hop
    have hb := c_gbare GL ⟨op, a, b, name, shape, k, n, data⟩ m hx hm
    have hfe : fitN l ⟨op, a, b, name, shape, k, n, data⟩ m = (bareOK ⟨op, a, b, name, shape, k, n, data⟩ m && ((decide (m = 0) || inR a l) && (decide (m < 2) || inR b l))) := rfl
    cases hbr : bareOK ⟨op, a, b, name, shape, k, n, data⟩ m with
    | false =>
      rw [inferN_bad hop (by rw [hfe, hbr]; rfl)]
      rw [hbr] at hb
      refine vcall_of TOK_gInfer HM Go.Proofs.Tryz.func22 rfl (by decide +kernel) (by decide +kernel) rfl ?_
      repeat' ((conv => whnf); first | ((with_reducible refine Xq ?_ ?_); assumption) | (with_reducible first | apply Xa | (first | apply xi | apply xu | apply x8 | apply x3 | apply xn | apply xp | apply xP | refine xs ?_ ?_ | refine xS ?_ ?_ | refine xZ ?_ ?_ | refine xl ?_ ?_ | refine xd ?_ ?_ | refine xy ?_ ?_ | refine xL ?_ ?_ | refine xD ?_ ?_ | apply xx); omega | apply Xm | apply Xe | refine Xg (by assumption) ?_) | refine Xo (by assumption) ?_ | refine x_0 (by first | assumption | rfl) ?_ | refine x_1 (by first | assumption | rfl) ?_ | refine Or.inl ⟨rfl, ?_⟩ | (split <;> (first | (rename_i u h; clear u) | rename_i h) <;> (try rewrite [h]) <;> (first | replace h := dt h | replace h := df h | replace h := Nt h | replace h := Nf h | skip) <;> (try dsimp only at h) <;> (first | contradiction | (exfalso; omega) | skip)) | (refine Or.inl ⟨_, by assumption, ?_⟩; first | rintro _ rfl | skip))
      all_goals (conv => whnf)
      all_goals exact ⟨_, roTo2 (show RoTo .nils (.ro 1 []) from ⟨1, rfl⟩) rfl, rfl⟩
    | true =>
      rw [hbr] at hb hfe
      have h3 : m = 0 ∨ m = 1 ∨ m = 2 := by omega
      rcases h3 with rfl | rfl | rfl
      · have hf : fitN l ⟨op, a, b, name, shape, k, n, data⟩ 0 = true := hfe
        rw [inferN_ok hop hf]
        rw [if_pos rfl, if_pos (by omega)]
        have hof := c_gof ⟨op, a, b, name, shape, k, n, data⟩ [] [] hx (by simp) (by simp)
        have hlen := ofZ_len (x := ⟨op, a, b, name, shape, k, n, data⟩) (a := []) (b := []) hx (by simp) (by simp)
        generalize ofZ ⟨op, a, b, name, shape, k, n, data⟩ [] [] = r at hof hlen ⊢
        obtain ⟨s, ok⟩ := r
        have hsr := c_shape_Right GL s (by dsimp only at hlen; omega)
        have hcl := c_CloneR GL s (by dsimp only at hlen; omega)
        dsimp only at hof
        refine vcall_of TOK_gInfer HM Go.Proofs.Tryz.func22 rfl (by decide +kernel) (by decide +kernel) rfl ?_
        repeat' ((conv => whnf); first | ((with_reducible refine Xq ?_ ?_); assumption) | (with_reducible first | apply Xa | (first | apply xi | apply xu | apply x8 | apply x3 | apply xn | apply xp | apply xP | refine xs ?_ ?_ | refine xS ?_ ?_ | refine xZ ?_ ?_ | refine xl ?_ ?_ | refine xd ?_ ?_ | refine xy ?_ ?_ | refine xL ?_ ?_ | refine xD ?_ ?_ | apply xx); omega | apply Xm | apply Xe | refine Xg (by assumption) ?_) | refine Xo (by assumption) ?_ | refine x_0 (by first | assumption | rfl) ?_ | refine x_1 (by first | assumption | rfl) ?_ | refine Or.inl ⟨rfl, ?_⟩ | (split <;> (first | (rename_i u h; clear u) | rename_i h) <;> (try rewrite [h]) <;> (first | replace h := dt h | replace h := df h | replace h := Nt h | replace h := Nf h | skip) <;> (try dsimp only at h) <;> (first | contradiction | (exfalso; omega) | skip)) | (refine Or.inl ⟨_, by assumption, ?_⟩; first | rintro _ rfl | skip))
        all_goals (conv => whnf)
        all_goals first | exact ⟨_, roTo2 (show RoTo .nils (.ro 1 []) from ⟨1, rfl⟩) rfl, by rw [z1 h]; rfl⟩ | exact ⟨_, roTo2 (show RoTo .nils (.ro 1 []) from ⟨1, rfl⟩) rfl, by rw [z2 h]; rfl⟩ | exact ⟨_, roTo2 rfl rfl, by rw [z3 (by assumption) h]; rfl⟩
      · cases ha : inR a l with
        | false =>
          rw [inferN_bad hop (by rw [hfe, ha]; rfl)]
          have := inR_not ha
          refine vcall_of TOK_gInfer HM Go.Proofs.Tryz.func22 rfl (by decide +kernel) (by decide +kernel) rfl ?_
          repeat' ((conv => whnf); first | ((with_reducible refine Xq ?_ ?_); assumption) | (with_reducible first | apply Xa | (first | apply xi | apply xu | apply x8 | apply x3 | apply xn | apply xp | apply xP | refine xs ?_ ?_ | refine xS ?_ ?_ | refine xZ ?_ ?_ | refine xl ?_ ?_ | refine xd ?_ ?_ | refine xy ?_ ?_ | refine xL ?_ ?_ | refine xD ?_ ?_ | apply xx); omega | apply Xm | apply Xe | refine Xg (by assumption) ?_) | refine Xo (by assumption) ?_ | refine x_0 (by first | assumption | rfl) ?_ | refine x_1 (by first | assumption | rfl) ?_ | refine Or.inl ⟨rfl, ?_⟩ | (split <;> (first | (rename_i u h; clear u) | rename_i h) <;> (try rewrite [h]) <;> (first | replace h := dt h | replace h := df h | replace h := Nt h | replace h := Nf h | skip) <;> (try dsimp only at h) <;> (first | contradiction | (exfalso; omega) | skip)) | (refine Or.inl ⟨_, by assumption, ?_⟩; first | rintro _ rfl | skip))
          all_goals (conv => whnf)
          all_goals exact ⟨_, roTo2 (show RoTo .nils (.ro 1 []) from ⟨1, rfl⟩) rfl, rfl⟩
        | true =>
          have hf : fitN l ⟨op, a, b, name, shape, k, n, data⟩ 1 = true := by rw [hfe, ha]; rfl
          obtain ⟨i, hi1, hi2⟩ := inR_nat ha
          subst hi1
          have g := rowN_get hi2
          have hs := (hl _ (List.getElem_mem hi2)).shape
          rw [inferN_ok hop hf]
          rw [if_neg (by omega), if_pos (by omega)]; dsimp only; rw [shAt_nat hi2]
          have hof := c_gof ⟨op, (i : Int), b, name, shape, k, n, data⟩ l[i].shape [] hx (by assumption) (by simp)
          have hlen := ofZ_len (x := ⟨op, (i : Int), b, name, shape, k, n, data⟩) (a := l[i].shape) (b := []) hx (by assumption) (by simp)
          generalize ofZ ⟨op, (i : Int), b, name, shape, k, n, data⟩ l[i].shape [] = r at hof hlen ⊢
          obtain ⟨s, ok⟩ := r
          have hsr := c_shape_Right GL s (by dsimp only at hlen; omega)
          have hcl := c_CloneR GL s (by dsimp only at hlen; omega)
          dsimp only at hof
          refine vcall_of TOK_gInfer HM Go.Proofs.Tryz.func22 rfl (by decide +kernel) (by decide +kernel) rfl ?_
          repeat' ((conv => whnf); first | ((with_reducible refine Xq ?_ ?_); assumption) | (with_reducible first | apply Xa | (first | apply xi | apply xu | apply x8 | apply x3 | apply xn | apply xp | apply xP | refine xs ?_ ?_ | refine xS ?_ ?_ | refine xZ ?_ ?_ | refine xl ?_ ?_ | refine xd ?_ ?_ | refine xy ?_ ?_ | refine xL ?_ ?_ | refine xD ?_ ?_ | apply xx); omega | apply Xm | apply Xe | refine Xg (by assumption) ?_) | refine Xo (by assumption) ?_ | refine x_0 (by first | assumption | rfl) ?_ | refine x_1 (by first | assumption | rfl) ?_ | refine Or.inl ⟨rfl, ?_⟩ | (split <;> (first | (rename_i u h; clear u) | rename_i h) <;> (try rewrite [h]) <;> (first | replace h := dt h | replace h := df h | replace h := Nt h | replace h := Nf h | skip) <;> (try dsimp only at h) <;> (first | contradiction | (exfalso; omega) | skip)) | (refine Or.inl ⟨_, by assumption, ?_⟩; first | rintro _ rfl | skip))
          all_goals (conv => whnf)
          all_goals first | exact ⟨_, roTo2 (show RoTo .nils (.ro 1 []) from ⟨1, rfl⟩) rfl, by rw [z1 h]; rfl⟩ | exact ⟨_, roTo2 (show RoTo .nils (.ro 1 []) from ⟨1, rfl⟩) rfl, by rw [z2 h]; rfl⟩ | exact ⟨_, roTo2 rfl rfl, by rw [z3 (by assumption) h]; rfl⟩
      · cases ha : inR a l with
        | false =>
          rw [inferN_bad hop (by rw [hfe, ha]; rfl)]
          have := inR_not ha
          refine vcall_of TOK_gInfer HM Go.Proofs.Tryz.func22 rfl (by decide +kernel) (by decide +kernel) rfl ?_
          repeat' ((conv => whnf); first | ((with_reducible refine Xq ?_ ?_); assumption) | (with_reducible first | apply Xa | (first | apply xi | apply xu | apply x8 | apply x3 | apply xn | apply xp | apply xP | refine xs ?_ ?_ | refine xS ?_ ?_ | refine xZ ?_ ?_ | refine xl ?_ ?_ | refine xd ?_ ?_ | refine xy ?_ ?_ | refine xL ?_ ?_ | refine xD ?_ ?_ | apply xx); omega | apply Xm | apply Xe | refine Xg (by assumption) ?_) | refine Xo (by assumption) ?_ | refine x_0 (by first | assumption | rfl) ?_ | refine x_1 (by first | assumption | rfl) ?_ | refine Or.inl ⟨rfl, ?_⟩ | (split <;> (first | (rename_i u h; clear u) | rename_i h) <;> (try rewrite [h]) <;> (first | replace h := dt h | replace h := df h | replace h := Nt h | replace h := Nf h | skip) <;> (try dsimp only at h) <;> (first | contradiction | (exfalso; omega) | skip)) | (refine Or.inl ⟨_, by assumption, ?_⟩; first | rintro _ rfl | skip))
          all_goals (conv => whnf)
          all_goals exact ⟨_, roTo2 (show RoTo .nils (.ro 1 []) from ⟨1, rfl⟩) rfl, rfl⟩
        | true =>
          obtain ⟨i, hi1, hi2⟩ := inR_nat ha
          subst hi1
          cases hbn : inR b l with
          | false =>
            rw [inferN_bad hop (by rw [hfe, ha, hbn]; rfl)]
            have := inR_not hbn
            refine vcall_of TOK_gInfer HM Go.Proofs.Tryz.func22 rfl (by decide +kernel) (by decide +kernel) rfl ?_
            repeat' ((conv => whnf); first | ((with_reducible refine Xq ?_ ?_); assumption) | (with_reducible first | apply Xa | (first | apply xi | apply xu | apply x8 | apply x3 | apply xn | apply xp | apply xP | refine xs ?_ ?_ | refine xS ?_ ?_ | refine xZ ?_ ?_ | refine xl ?_ ?_ | refine xd ?_ ?_ | refine xy ?_ ?_ | refine xL ?_ ?_ | refine xD ?_ ?_ | apply xx); omega | apply Xm | apply Xe | refine Xg (by assumption) ?_) | refine Xo (by assumption) ?_ | refine x_0 (by first | assumption | rfl) ?_ | refine x_1 (by first | assumption | rfl) ?_ | refine Or.inl ⟨rfl, ?_⟩ | (split <;> (first | (rename_i u h; clear u) | rename_i h) <;> (try rewrite [h]) <;> (first | replace h := dt h | replace h := df h | replace h := Nt h | replace h := Nf h | skip) <;> (try dsimp only at h) <;> (first | contradiction | (exfalso; omega) | skip)) | (refine Or.inl ⟨_, by assumption, ?_⟩; first | rintro _ rfl | skip))
            all_goals (conv => whnf)
            all_goals exact ⟨_, roTo2 (show RoTo .nils (.ro 1 []) from ⟨1, rfl⟩) rfl, rfl⟩
          | true =>
            have hf : fitN l ⟨op, (i : Int), b, name, shape, k, n, data⟩ 2 = true := by rw [hfe, ha, hbn]; rfl
            obtain ⟨j, hj1, hj2⟩ := inR_nat hbn
            subst hj1
            have g := rowN_get hi2
            have g2 := rowN_get hj2
            have hs := (hl _ (List.getElem_mem hi2)).shape
            have hs2 := (hl _ (List.getElem_mem hj2)).shape
            rw [inferN_ok hop hf]
            rw [if_neg (by omega), if_neg (by omega)]; dsimp only; rw [shAt_nat hi2, shAt_nat hj2]
            have hof := c_gof ⟨op, (i : Int), (j : Int), name, shape, k, n, data⟩ l[i].shape l[j].shape hx (by exact hs) (by exact hs2)
            have hlen := ofZ_len (x := ⟨op, (i : Int), (j : Int), name, shape, k, n, data⟩) (a := l[i].shape) (b := l[j].shape) hx (by exact hs) (by exact hs2)
            generalize ofZ ⟨op, (i : Int), (j : Int), name, shape, k, n, data⟩ l[i].shape l[j].shape = r at hof hlen ⊢
            obtain ⟨s, ok⟩ := r
            have hsr := c_shape_Right GL s (by dsimp only at hlen; omega)
            have hcl := c_CloneR GL s (by dsimp only at hlen; omega)
            dsimp only at hof
            refine vcall_of TOK_gInfer HM Go.Proofs.Tryz.func22 rfl (by decide +kernel) (by decide +kernel) rfl ?_
            repeat' ((conv => whnf); first | ((with_reducible refine Xq ?_ ?_); assumption) | (with_reducible first | apply Xa | (first | apply xi | apply xu | apply x8 | apply x3 | apply xn | apply xp | apply xP | refine xs ?_ ?_ | refine xS ?_ ?_ | refine xZ ?_ ?_ | refine xl ?_ ?_ | refine xd ?_ ?_ | refine xy ?_ ?_ | refine xL ?_ ?_ | refine xD ?_ ?_ | apply xx); omega | apply Xm | apply Xe | refine Xg (by assumption) ?_) | refine Xo (by assumption) ?_ | refine x_0 (by first | assumption | rfl) ?_ | refine x_1 (by first | assumption | rfl) ?_ | refine Or.inl ⟨rfl, ?_⟩ | (split <;> (first | (rename_i u h; clear u) | rename_i h) <;> (try rewrite [h]) <;> (first | replace h := dt h | replace h := df h | replace h := Nt h | replace h := Nf h | skip) <;> (try dsimp only at h) <;> (first | contradiction | (exfalso; omega) | skip)) | (refine Or.inl ⟨_, by assumption, ?_⟩; first | rintro _ rfl | skip))
            all_goals (conv => whnf)
            all_goals first | exact ⟨_, roTo2 (show RoTo .nils (.ro 1 []) from ⟨1, rfl⟩) rfl, by rw [z1 h]; rfl⟩ | exact ⟨_, roTo2 (show RoTo .nils (.ro 1 []) from ⟨1, rfl⟩) rfl, by rw [z2 h]; rfl⟩ | exact ⟨_, roTo2 rfl rfl, by rw [z3 (by assumption) h]; rfl⟩
end Go.V
namespace Go.V
open Go.N
set_option maxRecDepth 20000
variable (gl : Gl)
def T_r10_Shape : Tab := [(43, ⟨.strc [(0, 1, false), (1, 1, false), (2, 1, false), (3, 1, false), (4, 1, false), (5, 1, false), (6, 1, false), (7, 1, false)], 8, 120, (.agg #[(.string .empty), (.int .i64 0), (.int .i64 0), (.string .empty), (.slice none 0 0), (.string .empty), (.int .i64 0), (.slice none 0 0)]), [0, 0, 0, 0, 1, 0, 0, 1]⟩), (9, ⟨.str, 1, 16, (.string .empty), [0]⟩), (3, ⟨.int .i64, 1, 8, (.int .i64 0), [0]⟩), (22, ⟨.slice 43, 1, 24, (.slice none 0 0), [8]⟩), (4, ⟨.bool, 1, 1, (.bool false), [0]⟩), (41, ⟨.slice 9, 1, 24, (.slice none 0 0), [1]⟩), (25, ⟨.slice 3, 1, 24, (.slice none 0 0), [1]⟩), (58, ⟨.strc [(0, 1, false), (1, 1, false)], 2, 32, (.agg #[(.string .empty), (.string .empty)]), [0, 0]⟩)]
theorem TOK_r10_Shape : TOK Go.Proofs.Tryz.prog T_r10_Shape := ⟨⟨info_of Go.Proofs.Tryz.type43 rfl, by decide +kernel, by decide +kernel⟩, ⟨⟨info_of Go.Proofs.Tryz.type9 rfl, by decide +kernel, by decide +kernel⟩, ⟨⟨info_of Go.Proofs.Tryz.type3 rfl, by decide +kernel, by decide +kernel⟩, ⟨⟨info_of Go.Proofs.Tryz.type22 rfl, by decide +kernel, by decide +kernel⟩, ⟨⟨info_of Go.Proofs.Tryz.type4 rfl, by decide +kernel, by decide +kernel⟩, ⟨⟨info_of Go.Proofs.Tryz.type41 rfl, by decide +kernel, by decide +kernel⟩, ⟨⟨info_of Go.Proofs.Tryz.type25 rfl, by decide +kernel, by decide +kernel⟩, ⟨⟨info_of Go.Proofs.Tryz.type58 rfl, by decide +kernel, by decide +kernel⟩, trivial⟩⟩⟩⟩⟩⟩⟩⟩
set_option maxHeartbeats 8000000 in
theorem c_r10_Shape_no (l : List Nd) (x : Nd) (o : Opc) (ho : x.op = o.str) (hf : fitN l x o.many = false) (hx : x.Sm) :
    VCall Go.Proofs.Tryz.prog gl 19 [.ro 8 (rowN l), .agg x.cells] (fun y => y = .tup [.ro 1 [], .bool false]) := by
  obtain ⟨op, a, b, name, shape, k, n, data⟩ := x
  dsimp only at ho
  subst ho
  have hp := c_r10_Parts gl o.str
  have hpz : partsZ o.str = (o.many : Int) := by rw [partsZ, opc_many]
  rw [hpz] at hp
  have hname := c_r08_Name gl name (Nat.lt_of_le_of_lt hx.name (by decide))
  have hlr : (rowN l).length = l.length := rowN_length l
  have hld : (rowS data).length = data.length := rowS_length data
  refine VCall.taken ?_
  cases o
  all_goals (refine vcall_of TOK_r10_Shape HM Go.Proofs.Tryz.func19 rfl (by decide +kernel) (by decide +kernel) rfl ?_)
  all_goals (repeat' ((conv => whnf); first | ((with_reducible refine Xq ?_ ?_); assumption) | (with_reducible first | apply Xa | (first | apply xi | apply xu | apply x8 | apply x3 | apply xn | apply xp | apply xP | refine xs ?_ ?_ | refine xS ?_ ?_ | refine xZ ?_ ?_ | refine xl ?_ ?_ | refine xd ?_ ?_ | refine xy ?_ ?_ | refine xL ?_ ?_ | refine xD ?_ ?_ | apply xx); omega | apply Xm | apply Xe | refine Xg (by assumption) ?_) | refine Xo (by assumption) ?_ | refine x_0 (by first | assumption | rfl) ?_ | refine x_1 (by first | assumption | rfl) ?_ | refine Or.inl ⟨rfl, ?_⟩ | (split <;> (first | (rename_i u h; clear u) | rename_i h) <;> (try rewrite [h]) <;> (first | replace h := dt h | replace h := df h | replace h := Nt h | replace h := Nf h | skip) <;> (try dsimp only at h) <;> (first | contradiction | (exfalso; omega) | skip)) | (refine Or.inl ⟨_, by assumption, ?_⟩; first | rintro _ rfl | skip)))
  all_goals first
    | ((conv => whnf); exact ⟨_, roTo2 (show RoTo .nils (.ro 1 []) from ⟨1, rfl⟩) rfl, rfl⟩)
    | exact (fit_no hf (by
        clear hf hp hname hx
        constructor
        all_goals (dsimp only [Opc.many, Opc.str])
        all_goals first
          | omega
          | (intro e; first | exact absurd e (by decide) | exact absurd rfl e | assumption | omega | (exact inR_of (by omega) (by omega)) | (rename_i q; simpa using q) | simp_all))).elim
end Go.V
namespace Go.V
open Go.N
set_option maxRecDepth 20000
variable (gl : Gl)
set_option maxHeartbeats 8000000 in
theorem c_r10_Shape_yes (l : List Nd) (x : Nd) (o : Opc) (ho : x.op = o.str) (hf : fitN l x o.many = true) (hx : x.Sm) (hl : ∀ y ∈ l, y.Sm) :
    VCall Go.Proofs.Tryz.prog gl 19 [.ro 8 (rowN l), .agg x.cells] (fun y => y = .tup [.ro 1 (rowZ (refN l x).1), .bool (refN l x).2]) := by
  rw [refN_ok (by rw [ho]; exact opc_many o) hf]
  obtain ⟨op, a, b, name, shape, k, n, data⟩ := x
  dsimp only at ho
  subst ho
  have F := (fit_iff _ _ _).1 hf
  have hp := c_r10_Parts gl o.str
  have hpz : partsZ o.str = (o.many : Int) := by rw [partsZ, opc_many]
  rw [hpz] at hp
  have hname := c_r08_Name gl name (Nat.lt_of_le_of_lt hx.name (by decide))
  have hrs := c_r04_Right gl shape (Nat.lt_of_le_of_lt hx.shape (by decide))
  have hr0 := c_r04_Right gl [] (by decide)
  have hlr : (rowN l).length = l.length := rowN_length l
  have hld : (rowS data).length = data.length := rowS_length data
  have hk := hx.k
  have hdl : data.length ≤ 1000 := hx.data
  clear hf
  refine VCall.taken ?_
  cases o
  case param =>
    obtain rfl : a = 0 := F.a0 rfl
    obtain rfl : b = 0 := F.b0 (by decide)
    rw [if_pos (by decide), if_pos (by decide)]
    obtain rfl : k = ⟨#[]⟩ := F.k (by dsimp only; decide)
    obtain rfl : n = 0 := F.n (by dsimp only; decide)
    obtain rfl : data = [] := List.length_eq_zero_iff.1 (F.d (by dsimp only; decide))
    rw [show isName name = true from F.nm rfl] at hname
    rw [refZ_at .param (s := shape) rfl rfl (by decide)]
    refine vcall_of TOK_r10_Shape HM Go.Proofs.Tryz.func19 rfl (by decide +kernel) (by decide +kernel) rfl ?_
    repeat' ((conv => whnf); first | ((with_reducible refine Xq ?_ ?_); assumption) | (with_reducible first | apply Xa | (first | apply xi | apply xu | apply x8 | apply x3 | apply xn | apply xp | apply xP | refine xs ?_ ?_ | refine xS ?_ ?_ | refine xZ ?_ ?_ | refine xl ?_ ?_ | refine xd ?_ ?_ | refine xy ?_ ?_ | refine xL ?_ ?_ | refine xD ?_ ?_ | apply xx); omega | apply Xm | apply Xe | refine Xg (by assumption) ?_) | refine Xo (by assumption) ?_ | refine x_0 (by first | assumption | rfl) ?_ | refine x_1 (by first | assumption | rfl) ?_ | refine Or.inl ⟨rfl, ?_⟩ | (split <;> (first | (rename_i u h; clear u) | rename_i h) <;> (try rewrite [h]) <;> (first | replace h := dt h | replace h := df h | replace h := Nt h | replace h := Nf h | skip) <;> (try dsimp only at h) <;> (first | contradiction | (exfalso; omega) | skip)) | (refine Or.inl ⟨_, by assumption, ?_⟩; first | rintro _ rfl | skip))
    all_goals (conv => whnf)
    all_goals first | exact ⟨_, roTo2 rfl rfl, rfl⟩ | exact ⟨_, roTo2 (show RoTo .nils (.ro 1 []) from ⟨1, rfl⟩) rfl, rfl⟩
  case input =>
    obtain rfl : a = 0 := F.a0 rfl
    obtain rfl : b = 0 := F.b0 (by decide)
    rw [if_pos (by decide), if_pos (by decide)]
    obtain rfl : k = ⟨#[]⟩ := F.k (by dsimp only; decide)
    obtain rfl : n = 0 := F.n (by dsimp only; decide)
    obtain rfl : data = [] := List.length_eq_zero_iff.1 (F.d (by dsimp only; decide))
    rw [show isName name = true from F.nm rfl] at hname
    rw [refZ_at .input (s := shape) rfl rfl (by decide)]
    refine vcall_of TOK_r10_Shape HM Go.Proofs.Tryz.func19 rfl (by decide +kernel) (by decide +kernel) rfl ?_
    repeat' ((conv => whnf); first | ((with_reducible refine Xq ?_ ?_); assumption) | (with_reducible first | apply Xa | (first | apply xi | apply xu | apply x8 | apply x3 | apply xn | apply xp | apply xP | refine xs ?_ ?_ | refine xS ?_ ?_ | refine xZ ?_ ?_ | refine xl ?_ ?_ | refine xd ?_ ?_ | refine xy ?_ ?_ | refine xL ?_ ?_ | refine xD ?_ ?_ | apply xx); omega | apply Xm | apply Xe | refine Xg (by assumption) ?_) | refine Xo (by assumption) ?_ | refine x_0 (by first | assumption | rfl) ?_ | refine x_1 (by first | assumption | rfl) ?_ | refine Or.inl ⟨rfl, ?_⟩ | (split <;> (first | (rename_i u h; clear u) | rename_i h) <;> (try rewrite [h]) <;> (first | replace h := dt h | replace h := df h | replace h := Nt h | replace h := Nf h | skip) <;> (try dsimp only at h) <;> (first | contradiction | (exfalso; omega) | skip)) | (refine Or.inl ⟨_, by assumption, ?_⟩; first | rintro _ rfl | skip))
    all_goals (conv => whnf)
    all_goals first | exact ⟨_, roTo2 rfl rfl, rfl⟩ | exact ⟨_, roTo2 (show RoTo .nils (.ro 1 []) from ⟨1, rfl⟩) rfl, rfl⟩
  case relu =>
    obtain ⟨i, rfl, hi⟩ : ∃ i : Nat, a = i ∧ i < l.length := inR_nat (F.ia (by decide))
    obtain rfl : b = 0 := F.b0 (by decide)
    rw [if_neg (by decide), if_pos (by decide)]
    dsimp only
    rw [shAt_nat hi]
    obtain ⟨_, _, _, _, _, _, _, g⟩ := rowN_sh hi
    have hA := (hl _ (List.getElem_mem hi)).shape
    generalize l[i].shape = A at g hA ⊢
    have hra := c_r04_Right gl A (by omega)
    have hlA := rowZ_length A
    obtain rfl : name = ⟨#[]⟩ := F.nn rfl
    obtain rfl : k = ⟨#[]⟩ := F.k (by dsimp only; decide)
    obtain rfl : n = 0 := F.n (by dsimp only; decide)
    obtain rfl : data = [] := List.length_eq_zero_iff.1 (F.d (by dsimp only; decide))
    rw [refZ_at .relu (s := A) rfl rfl (by decide)]
    refine vcall_of TOK_r10_Shape HM Go.Proofs.Tryz.func19 rfl (by decide +kernel) (by decide +kernel) rfl ?_
    repeat' ((conv => whnf); first | ((with_reducible refine Xq ?_ ?_); assumption) | (with_reducible first | apply Xa | (first | apply xi | apply xu | apply x8 | apply x3 | apply xn | apply xp | apply xP | refine xs ?_ ?_ | refine xS ?_ ?_ | refine xZ ?_ ?_ | refine xl ?_ ?_ | refine xd ?_ ?_ | refine xy ?_ ?_ | refine xL ?_ ?_ | refine xD ?_ ?_ | apply xx); omega | apply Xm | apply Xe | refine Xg (by assumption) ?_) | refine Xo (by assumption) ?_ | refine x_0 (by first | assumption | rfl) ?_ | refine x_1 (by first | assumption | rfl) ?_ | refine Or.inl ⟨rfl, ?_⟩ | (split <;> (first | (rename_i u h; clear u) | rename_i h) <;> (try rewrite [h]) <;> (first | replace h := dt h | replace h := df h | replace h := Nt h | replace h := Nf h | skip) <;> (try dsimp only at h) <;> (first | contradiction | (exfalso; omega) | skip)) | (refine Or.inl ⟨_, by assumption, ?_⟩; first | rintro _ rfl | skip))
    all_goals (conv => whnf)
    all_goals first | exact ⟨_, roTo2 rfl rfl, rfl⟩ | exact ⟨_, roTo2 (show RoTo .nils (.ro 1 []) from ⟨1, rfl⟩) rfl, rfl⟩
  case abs =>
    obtain ⟨i, rfl, hi⟩ : ∃ i : Nat, a = i ∧ i < l.length := inR_nat (F.ia (by decide))
    obtain rfl : b = 0 := F.b0 (by decide)
    rw [if_neg (by decide), if_pos (by decide)]
    dsimp only
    rw [shAt_nat hi]
    obtain ⟨_, _, _, _, _, _, _, g⟩ := rowN_sh hi
    have hA := (hl _ (List.getElem_mem hi)).shape
    generalize l[i].shape = A at g hA ⊢
    have hra := c_r04_Right gl A (by omega)
    have hlA := rowZ_length A
    obtain rfl : name = ⟨#[]⟩ := F.nn rfl
    obtain rfl : k = ⟨#[]⟩ := F.k (by dsimp only; decide)
    obtain rfl : n = 0 := F.n (by dsimp only; decide)
    obtain rfl : data = [] := List.length_eq_zero_iff.1 (F.d (by dsimp only; decide))
    rw [refZ_at .abs (s := A) rfl rfl (by decide)]
    refine vcall_of TOK_r10_Shape HM Go.Proofs.Tryz.func19 rfl (by decide +kernel) (by decide +kernel) rfl ?_
    repeat' ((conv => whnf); first | ((with_reducible refine Xq ?_ ?_); assumption) | (with_reducible first | apply Xa | (first | apply xi | apply xu | apply x8 | apply x3 | apply xn | apply xp | apply xP | refine xs ?_ ?_ | refine xS ?_ ?_ | refine xZ ?_ ?_ | refine xl ?_ ?_ | refine xd ?_ ?_ | refine xy ?_ ?_ | refine xL ?_ ?_ | refine xD ?_ ?_ | apply xx); omega | apply Xm | apply Xe | refine Xg (by assumption) ?_) | refine Xo (by assumption) ?_ | refine x_0 (by first | assumption | rfl) ?_ | refine x_1 (by first | assumption | rfl) ?_ | refine Or.inl ⟨rfl, ?_⟩ | (split <;> (first | (rename_i u h; clear u) | rename_i h) <;> (try rewrite [h]) <;> (first | replace h := dt h | replace h := df h | replace h := Nt h | replace h := Nf h | skip) <;> (try dsimp only at h) <;> (first | contradiction | (exfalso; omega) | skip)) | (refine Or.inl ⟨_, by assumption, ?_⟩; first | rintro _ rfl | skip))
    all_goals (conv => whnf)
    all_goals first | exact ⟨_, roTo2 rfl rfl, rfl⟩ | exact ⟨_, roTo2 (show RoTo .nils (.ro 1 []) from ⟨1, rfl⟩) rfl, rfl⟩
  case step =>
    obtain ⟨i, rfl, hi⟩ : ∃ i : Nat, a = i ∧ i < l.length := inR_nat (F.ia (by decide))
    obtain rfl : b = 0 := F.b0 (by decide)
    rw [if_neg (by decide), if_pos (by decide)]
    dsimp only
    rw [shAt_nat hi]
    obtain ⟨_, _, _, _, _, _, _, g⟩ := rowN_sh hi
    have hA := (hl _ (List.getElem_mem hi)).shape
    generalize l[i].shape = A at g hA ⊢
    have hra := c_r04_Right gl A (by omega)
    have hlA := rowZ_length A
    obtain rfl : name = ⟨#[]⟩ := F.nn rfl
    obtain rfl : k = ⟨#[]⟩ := F.k (by dsimp only; decide)
    obtain rfl : n = 0 := F.n (by dsimp only; decide)
    obtain rfl : data = [] := List.length_eq_zero_iff.1 (F.d (by dsimp only; decide))
    rw [refZ_at .step (s := A) rfl rfl (by decide)]
    refine vcall_of TOK_r10_Shape HM Go.Proofs.Tryz.func19 rfl (by decide +kernel) (by decide +kernel) rfl ?_
    repeat' ((conv => whnf); first | ((with_reducible refine Xq ?_ ?_); assumption) | (with_reducible first | apply Xa | (first | apply xi | apply xu | apply x8 | apply x3 | apply xn | apply xp | apply xP | refine xs ?_ ?_ | refine xS ?_ ?_ | refine xZ ?_ ?_ | refine xl ?_ ?_ | refine xd ?_ ?_ | refine xy ?_ ?_ | refine xL ?_ ?_ | refine xD ?_ ?_ | apply xx); omega | apply Xm | apply Xe | refine Xg (by assumption) ?_) | refine Xo (by assumption) ?_ | refine x_0 (by first | assumption | rfl) ?_ | refine x_1 (by first | assumption | rfl) ?_ | refine Or.inl ⟨rfl, ?_⟩ | (split <;> (first | (rename_i u h; clear u) | rename_i h) <;> (try rewrite [h]) <;> (first | replace h := dt h | replace h := df h | replace h := Nt h | replace h := Nf h | skip) <;> (try dsimp only at h) <;> (first | contradiction | (exfalso; omega) | skip)) | (refine Or.inl ⟨_, by assumption, ?_⟩; first | rintro _ rfl | skip))
    all_goals (conv => whnf)
    all_goals first | exact ⟨_, roTo2 rfl rfl, rfl⟩ | exact ⟨_, roTo2 (show RoTo .nils (.ro 1 []) from ⟨1, rfl⟩) rfl, rfl⟩
  case sign =>
    obtain ⟨i, rfl, hi⟩ : ∃ i : Nat, a = i ∧ i < l.length := inR_nat (F.ia (by decide))
    obtain rfl : b = 0 := F.b0 (by decide)
    rw [if_neg (by decide), if_pos (by decide)]
    dsimp only
    rw [shAt_nat hi]
    obtain ⟨_, _, _, _, _, _, _, g⟩ := rowN_sh hi
    have hA := (hl _ (List.getElem_mem hi)).shape
    generalize l[i].shape = A at g hA ⊢
    have hra := c_r04_Right gl A (by omega)
    have hlA := rowZ_length A
    obtain rfl : name = ⟨#[]⟩ := F.nn rfl
    obtain rfl : k = ⟨#[]⟩ := F.k (by dsimp only; decide)
    obtain rfl : n = 0 := F.n (by dsimp only; decide)
    obtain rfl : data = [] := List.length_eq_zero_iff.1 (F.d (by dsimp only; decide))
    rw [refZ_at .sign (s := A) rfl rfl (by decide)]
    refine vcall_of TOK_r10_Shape HM Go.Proofs.Tryz.func19 rfl (by decide +kernel) (by decide +kernel) rfl ?_
    repeat' ((conv => whnf); first | ((with_reducible refine Xq ?_ ?_); assumption) | (with_reducible first | apply Xa | (first | apply xi | apply xu | apply x8 | apply x3 | apply xn | apply xp | apply xP | refine xs ?_ ?_ | refine xS ?_ ?_ | refine xZ ?_ ?_ | refine xl ?_ ?_ | refine xd ?_ ?_ | refine xy ?_ ?_ | refine xL ?_ ?_ | refine xD ?_ ?_ | apply xx); omega | apply Xm | apply Xe | refine Xg (by assumption) ?_) | refine Xo (by assumption) ?_ | refine x_0 (by first | assumption | rfl) ?_ | refine x_1 (by first | assumption | rfl) ?_ | refine Or.inl ⟨rfl, ?_⟩ | (split <;> (first | (rename_i u h; clear u) | rename_i h) <;> (try rewrite [h]) <;> (first | replace h := dt h | replace h := df h | replace h := Nt h | replace h := Nf h | skip) <;> (try dsimp only at h) <;> (first | contradiction | (exfalso; omega) | skip)) | (refine Or.inl ⟨_, by assumption, ?_⟩; first | rintro _ rfl | skip))
    all_goals (conv => whnf)
    all_goals first | exact ⟨_, roTo2 rfl rfl, rfl⟩ | exact ⟨_, roTo2 (show RoTo .nils (.ro 1 []) from ⟨1, rfl⟩) rfl, rfl⟩
  case add =>
    obtain ⟨i, rfl, hi⟩ : ∃ i : Nat, a = i ∧ i < l.length := inR_nat (F.ia (by decide))
    obtain ⟨j, rfl, hj⟩ : ∃ i : Nat, b = i ∧ i < l.length := inR_nat (F.ib (by decide))
    rw [if_neg (by decide), if_neg (by decide)]
    dsimp only
    rw [shAt_nat hi, shAt_nat hj]
    obtain ⟨_, _, _, _, _, _, _, g⟩ := rowN_sh hi
    obtain ⟨_, _, _, _, _, _, _, g2⟩ := rowN_sh hj
    have hA := (hl _ (List.getElem_mem hi)).shape
    have hB := (hl _ (List.getElem_mem hj)).shape
    generalize l[i].shape = A at g hA ⊢
    generalize l[j].shape = B at g2 hB ⊢
    have hra := c_r04_Right gl A (by omega)
    have hsame := c_r04_Same gl A B (by omega) (by omega)
    have hlA := rowZ_length A
    have hlB := rowZ_length B
    obtain rfl : name = ⟨#[]⟩ := F.nn rfl
    obtain rfl : k = ⟨#[]⟩ := F.k (by dsimp only; decide)
    obtain rfl : n = 0 := F.n (by dsimp only; decide)
    obtain rfl : data = [] := List.length_eq_zero_iff.1 (F.d (by dsimp only; decide))
    by_cases hAB : A = B
    · rw [refZ_at .add (s := A) rfl (by show (A, decide (A = B)) = _; rw [decide_eq_true hAB]) (by decide)]
      rw [decide_eq_true hAB] at hsame
      refine vcall_of TOK_r10_Shape HM Go.Proofs.Tryz.func19 rfl (by decide +kernel) (by decide +kernel) rfl ?_
      repeat' ((conv => whnf); first | ((with_reducible refine Xq ?_ ?_); assumption) | (with_reducible first | apply Xa | (first | apply xi | apply xu | apply x8 | apply x3 | apply xn | apply xp | apply xP | refine xs ?_ ?_ | refine xS ?_ ?_ | refine xZ ?_ ?_ | refine xl ?_ ?_ | refine xd ?_ ?_ | refine xy ?_ ?_ | refine xL ?_ ?_ | refine xD ?_ ?_ | apply xx); omega | apply Xm | apply Xe | refine Xg (by assumption) ?_) | refine Xo (by assumption) ?_ | refine x_0 (by first | assumption | rfl) ?_ | refine x_1 (by first | assumption | rfl) ?_ | refine Or.inl ⟨rfl, ?_⟩ | (split <;> (first | (rename_i u h; clear u) | rename_i h) <;> (try rewrite [h]) <;> (first | replace h := dt h | replace h := df h | replace h := Nt h | replace h := Nf h | skip) <;> (try dsimp only at h) <;> (first | contradiction | (exfalso; omega) | skip)) | (refine Or.inl ⟨_, by assumption, ?_⟩; first | rintro _ rfl | skip))
      all_goals (conv => whnf)
      all_goals first | exact ⟨_, roTo2 rfl rfl, rfl⟩ | exact ⟨_, roTo2 (show RoTo .nils (.ro 1 []) from ⟨1, rfl⟩) rfl, rfl⟩
    · rw [refZ_no]
      rotate_left
      · exact (show decide (A = B) = false from decide_eq_false hAB)
      rw [decide_eq_false hAB] at hsame
      refine vcall_of TOK_r10_Shape HM Go.Proofs.Tryz.func19 rfl (by decide +kernel) (by decide +kernel) rfl ?_
      repeat' ((conv => whnf); first | ((with_reducible refine Xq ?_ ?_); assumption) | (with_reducible first | apply Xa | (first | apply xi | apply xu | apply x8 | apply x3 | apply xn | apply xp | apply xP | refine xs ?_ ?_ | refine xS ?_ ?_ | refine xZ ?_ ?_ | refine xl ?_ ?_ | refine xd ?_ ?_ | refine xy ?_ ?_ | refine xL ?_ ?_ | refine xD ?_ ?_ | apply xx); omega | apply Xm | apply Xe | refine Xg (by assumption) ?_) | refine Xo (by assumption) ?_ | refine x_0 (by first | assumption | rfl) ?_ | refine x_1 (by first | assumption | rfl) ?_ | refine Or.inl ⟨rfl, ?_⟩ | (split <;> (first | (rename_i u h; clear u) | rename_i h) <;> (try rewrite [h]) <;> (first | replace h := dt h | replace h := df h | replace h := Nt h | replace h := Nf h | skip) <;> (try dsimp only at h) <;> (first | contradiction | (exfalso; omega) | skip)) | (refine Or.inl ⟨_, by assumption, ?_⟩; first | rintro _ rfl | skip))
      all_goals (conv => whnf)
      all_goals first | exact ⟨_, roTo2 rfl rfl, rfl⟩ | exact ⟨_, roTo2 (show RoTo .nils (.ro 1 []) from ⟨1, rfl⟩) rfl, rfl⟩
  case sub =>
    obtain ⟨i, rfl, hi⟩ : ∃ i : Nat, a = i ∧ i < l.length := inR_nat (F.ia (by decide))
    obtain ⟨j, rfl, hj⟩ : ∃ i : Nat, b = i ∧ i < l.length := inR_nat (F.ib (by decide))
    rw [if_neg (by decide), if_neg (by decide)]
    dsimp only
    rw [shAt_nat hi, shAt_nat hj]
    obtain ⟨_, _, _, _, _, _, _, g⟩ := rowN_sh hi
    obtain ⟨_, _, _, _, _, _, _, g2⟩ := rowN_sh hj
    have hA := (hl _ (List.getElem_mem hi)).shape
    have hB := (hl _ (List.getElem_mem hj)).shape
    generalize l[i].shape = A at g hA ⊢
    generalize l[j].shape = B at g2 hB ⊢
    have hra := c_r04_Right gl A (by omega)
    have hsame := c_r04_Same gl A B (by omega) (by omega)
    have hlA := rowZ_length A
    have hlB := rowZ_length B
    obtain rfl : name = ⟨#[]⟩ := F.nn rfl
    obtain rfl : k = ⟨#[]⟩ := F.k (by dsimp only; decide)
    obtain rfl : n = 0 := F.n (by dsimp only; decide)
    obtain rfl : data = [] := List.length_eq_zero_iff.1 (F.d (by dsimp only; decide))
    by_cases hAB : A = B
    · rw [refZ_at .sub (s := A) rfl (by show (A, decide (A = B)) = _; rw [decide_eq_true hAB]) (by decide)]
      rw [decide_eq_true hAB] at hsame
      refine vcall_of TOK_r10_Shape HM Go.Proofs.Tryz.func19 rfl (by decide +kernel) (by decide +kernel) rfl ?_
      repeat' ((conv => whnf); first | ((with_reducible refine Xq ?_ ?_); assumption) | (with_reducible first | apply Xa | (first | apply xi | apply xu | apply x8 | apply x3 | apply xn | apply xp | apply xP | refine xs ?_ ?_ | refine xS ?_ ?_ | refine xZ ?_ ?_ | refine xl ?_ ?_ | refine xd ?_ ?_ | refine xy ?_ ?_ | refine xL ?_ ?_ | refine xD ?_ ?_ | apply xx); omega | apply Xm | apply Xe | refine Xg (by assumption) ?_) | refine Xo (by assumption) ?_ | refine x_0 (by first | assumption | rfl) ?_ | refine x_1 (by first | assumption | rfl) ?_ | refine Or.inl ⟨rfl, ?_⟩ | (split <;> (first | (rename_i u h; clear u) | rename_i h) <;> (try rewrite [h]) <;> (first | replace h := dt h | replace h := df h | replace h := Nt h | replace h := Nf h | skip) <;> (try dsimp only at h) <;> (first | contradiction | (exfalso; omega) | skip)) | (refine Or.inl ⟨_, by assumption, ?_⟩; first | rintro _ rfl | skip))
      all_goals (conv => whnf)
      all_goals first | exact ⟨_, roTo2 rfl rfl, rfl⟩ | exact ⟨_, roTo2 (show RoTo .nils (.ro 1 []) from ⟨1, rfl⟩) rfl, rfl⟩
    · rw [refZ_no]
      rotate_left
      · exact (show decide (A = B) = false from decide_eq_false hAB)
      rw [decide_eq_false hAB] at hsame
      refine vcall_of TOK_r10_Shape HM Go.Proofs.Tryz.func19 rfl (by decide +kernel) (by decide +kernel) rfl ?_
      repeat' ((conv => whnf); first | ((with_reducible refine Xq ?_ ?_); assumption) | (with_reducible first | apply Xa | (first | apply xi | apply xu | apply x8 | apply x3 | apply xn | apply xp | apply xP | refine xs ?_ ?_ | refine xS ?_ ?_ | refine xZ ?_ ?_ | refine xl ?_ ?_ | refine xd ?_ ?_ | refine xy ?_ ?_ | refine xL ?_ ?_ | refine xD ?_ ?_ | apply xx); omega | apply Xm | apply Xe | refine Xg (by assumption) ?_) | refine Xo (by assumption) ?_ | refine x_0 (by first | assumption | rfl) ?_ | refine x_1 (by first | assumption | rfl) ?_ | refine Or.inl ⟨rfl, ?_⟩ | (split <;> (first | (rename_i u h; clear u) | rename_i h) <;> (try rewrite [h]) <;> (first | replace h := dt h | replace h := df h | replace h := Nt h | replace h := Nf h | skip) <;> (try dsimp only at h) <;> (first | contradiction | (exfalso; omega) | skip)) | (refine Or.inl ⟨_, by assumption, ?_⟩; first | rintro _ rfl | skip))
      all_goals (conv => whnf)
      all_goals first | exact ⟨_, roTo2 rfl rfl, rfl⟩ | exact ⟨_, roTo2 (show RoTo .nils (.ro 1 []) from ⟨1, rfl⟩) rfl, rfl⟩
  case mul =>
    obtain ⟨i, rfl, hi⟩ : ∃ i : Nat, a = i ∧ i < l.length := inR_nat (F.ia (by decide))
    obtain ⟨j, rfl, hj⟩ : ∃ i : Nat, b = i ∧ i < l.length := inR_nat (F.ib (by decide))
    rw [if_neg (by decide), if_neg (by decide)]
    dsimp only
    rw [shAt_nat hi, shAt_nat hj]
    obtain ⟨_, _, _, _, _, _, _, g⟩ := rowN_sh hi
    obtain ⟨_, _, _, _, _, _, _, g2⟩ := rowN_sh hj
    have hA := (hl _ (List.getElem_mem hi)).shape
    have hB := (hl _ (List.getElem_mem hj)).shape
    generalize l[i].shape = A at g hA ⊢
    generalize l[j].shape = B at g2 hB ⊢
    have hra := c_r04_Right gl A (by omega)
    have hsame := c_r04_Same gl A B (by omega) (by omega)
    have hlA := rowZ_length A
    have hlB := rowZ_length B
    obtain rfl : name = ⟨#[]⟩ := F.nn rfl
    obtain rfl : k = ⟨#[]⟩ := F.k (by dsimp only; decide)
    obtain rfl : n = 0 := F.n (by dsimp only; decide)
    obtain rfl : data = [] := List.length_eq_zero_iff.1 (F.d (by dsimp only; decide))
    by_cases hAB : A = B
    · rw [refZ_at .mul (s := A) rfl (by show (A, decide (A = B)) = _; rw [decide_eq_true hAB]) (by decide)]
      rw [decide_eq_true hAB] at hsame
      refine vcall_of TOK_r10_Shape HM Go.Proofs.Tryz.func19 rfl (by decide +kernel) (by decide +kernel) rfl ?_
      repeat' ((conv => whnf); first | ((with_reducible refine Xq ?_ ?_); assumption) | (with_reducible first | apply Xa | (first | apply xi | apply xu | apply x8 | apply x3 | apply xn | apply xp | apply xP | refine xs ?_ ?_ | refine xS ?_ ?_ | refine xZ ?_ ?_ | refine xl ?_ ?_ | refine xd ?_ ?_ | refine xy ?_ ?_ | refine xL ?_ ?_ | refine xD ?_ ?_ | apply xx); omega | apply Xm | apply Xe | refine Xg (by assumption) ?_) | refine Xo (by assumption) ?_ | refine x_0 (by first | assumption | rfl) ?_ | refine x_1 (by first | assumption | rfl) ?_ | refine Or.inl ⟨rfl, ?_⟩ | (split <;> (first | (rename_i u h; clear u) | rename_i h) <;> (try rewrite [h]) <;> (first | replace h := dt h | replace h := df h | replace h := Nt h | replace h := Nf h | skip) <;> (try dsimp only at h) <;> (first | contradiction | (exfalso; omega) | skip)) | (refine Or.inl ⟨_, by assumption, ?_⟩; first | rintro _ rfl | skip))
      all_goals (conv => whnf)
      all_goals first | exact ⟨_, roTo2 rfl rfl, rfl⟩ | exact ⟨_, roTo2 (show RoTo .nils (.ro 1 []) from ⟨1, rfl⟩) rfl, rfl⟩
    · rw [refZ_no]
      rotate_left
      · exact (show decide (A = B) = false from decide_eq_false hAB)
      rw [decide_eq_false hAB] at hsame
      refine vcall_of TOK_r10_Shape HM Go.Proofs.Tryz.func19 rfl (by decide +kernel) (by decide +kernel) rfl ?_
      repeat' ((conv => whnf); first | ((with_reducible refine Xq ?_ ?_); assumption) | (with_reducible first | apply Xa | (first | apply xi | apply xu | apply x8 | apply x3 | apply xn | apply xp | apply xP | refine xs ?_ ?_ | refine xS ?_ ?_ | refine xZ ?_ ?_ | refine xl ?_ ?_ | refine xd ?_ ?_ | refine xy ?_ ?_ | refine xL ?_ ?_ | refine xD ?_ ?_ | apply xx); omega | apply Xm | apply Xe | refine Xg (by assumption) ?_) | refine Xo (by assumption) ?_ | refine x_0 (by first | assumption | rfl) ?_ | refine x_1 (by first | assumption | rfl) ?_ | refine Or.inl ⟨rfl, ?_⟩ | (split <;> (first | (rename_i u h; clear u) | rename_i h) <;> (try rewrite [h]) <;> (first | replace h := dt h | replace h := df h | replace h := Nt h | replace h := Nf h | skip) <;> (try dsimp only at h) <;> (first | contradiction | (exfalso; omega) | skip)) | (refine Or.inl ⟨_, by assumption, ?_⟩; first | rintro _ rfl | skip))
      all_goals (conv => whnf)
      all_goals first | exact ⟨_, roTo2 rfl rfl, rfl⟩ | exact ⟨_, roTo2 (show RoTo .nils (.ro 1 []) from ⟨1, rfl⟩) rfl, rfl⟩
  case max =>
    obtain ⟨i, rfl, hi⟩ : ∃ i : Nat, a = i ∧ i < l.length := inR_nat (F.ia (by decide))
    obtain ⟨j, rfl, hj⟩ : ∃ i : Nat, b = i ∧ i < l.length := inR_nat (F.ib (by decide))
    rw [if_neg (by decide), if_neg (by decide)]
    dsimp only
    rw [shAt_nat hi, shAt_nat hj]
    obtain ⟨_, _, _, _, _, _, _, g⟩ := rowN_sh hi
    obtain ⟨_, _, _, _, _, _, _, g2⟩ := rowN_sh hj
    have hA := (hl _ (List.getElem_mem hi)).shape
    have hB := (hl _ (List.getElem_mem hj)).shape
    generalize l[i].shape = A at g hA ⊢
    generalize l[j].shape = B at g2 hB ⊢
    have hra := c_r04_Right gl A (by omega)
    have hsame := c_r04_Same gl A B (by omega) (by omega)
    have hlA := rowZ_length A
    have hlB := rowZ_length B
    obtain rfl : name = ⟨#[]⟩ := F.nn rfl
    obtain rfl : k = ⟨#[]⟩ := F.k (by dsimp only; decide)
    obtain rfl : n = 0 := F.n (by dsimp only; decide)
    obtain rfl : data = [] := List.length_eq_zero_iff.1 (F.d (by dsimp only; decide))
    by_cases hAB : A = B
    · rw [refZ_at .max (s := A) rfl (by show (A, decide (A = B)) = _; rw [decide_eq_true hAB]) (by decide)]
      rw [decide_eq_true hAB] at hsame
      refine vcall_of TOK_r10_Shape HM Go.Proofs.Tryz.func19 rfl (by decide +kernel) (by decide +kernel) rfl ?_
      repeat' ((conv => whnf); first | ((with_reducible refine Xq ?_ ?_); assumption) | (with_reducible first | apply Xa | (first | apply xi | apply xu | apply x8 | apply x3 | apply xn | apply xp | apply xP | refine xs ?_ ?_ | refine xS ?_ ?_ | refine xZ ?_ ?_ | refine xl ?_ ?_ | refine xd ?_ ?_ | refine xy ?_ ?_ | refine xL ?_ ?_ | refine xD ?_ ?_ | apply xx); omega | apply Xm | apply Xe | refine Xg (by assumption) ?_) | refine Xo (by assumption) ?_ | refine x_0 (by first | assumption | rfl) ?_ | refine x_1 (by first | assumption | rfl) ?_ | refine Or.inl ⟨rfl, ?_⟩ | (split <;> (first | (rename_i u h; clear u) | rename_i h) <;> (try rewrite [h]) <;> (first | replace h := dt h | replace h := df h | replace h := Nt h | replace h := Nf h | skip) <;> (try dsimp only at h) <;> (first | contradiction | (exfalso; omega) | skip)) | (refine Or.inl ⟨_, by assumption, ?_⟩; first | rintro _ rfl | skip))
      all_goals (conv => whnf)
      all_goals first | exact ⟨_, roTo2 rfl rfl, rfl⟩ | exact ⟨_, roTo2 (show RoTo .nils (.ro 1 []) from ⟨1, rfl⟩) rfl, rfl⟩
    · rw [refZ_no]
      rotate_left
      · exact (show decide (A = B) = false from decide_eq_false hAB)
      rw [decide_eq_false hAB] at hsame
      refine vcall_of TOK_r10_Shape HM Go.Proofs.Tryz.func19 rfl (by decide +kernel) (by decide +kernel) rfl ?_
      repeat' ((conv => whnf); first | ((with_reducible refine Xq ?_ ?_); assumption) | (with_reducible first | apply Xa | (first | apply xi | apply xu | apply x8 | apply x3 | apply xn | apply xp | apply xP | refine xs ?_ ?_ | refine xS ?_ ?_ | refine xZ ?_ ?_ | refine xl ?_ ?_ | refine xd ?_ ?_ | refine xy ?_ ?_ | refine xL ?_ ?_ | refine xD ?_ ?_ | apply xx); omega | apply Xm | apply Xe | refine Xg (by assumption) ?_) | refine Xo (by assumption) ?_ | refine x_0 (by first | assumption | rfl) ?_ | refine x_1 (by first | assumption | rfl) ?_ | refine Or.inl ⟨rfl, ?_⟩ | (split <;> (first | (rename_i u h; clear u) | rename_i h) <;> (try rewrite [h]) <;> (first | replace h := dt h | replace h := df h | replace h := Nt h | replace h := Nf h | skip) <;> (try dsimp only at h) <;> (first | contradiction | (exfalso; omega) | skip)) | (refine Or.inl ⟨_, by assumption, ?_⟩; first | rintro _ rfl | skip))
      all_goals (conv => whnf)
      all_goals first | exact ⟨_, roTo2 rfl rfl, rfl⟩ | exact ⟨_, roTo2 (show RoTo .nils (.ro 1 []) from ⟨1, rfl⟩) rfl, rfl⟩
  case above =>
    obtain ⟨i, rfl, hi⟩ : ∃ i : Nat, a = i ∧ i < l.length := inR_nat (F.ia (by decide))
    obtain ⟨j, rfl, hj⟩ : ∃ i : Nat, b = i ∧ i < l.length := inR_nat (F.ib (by decide))
    rw [if_neg (by decide), if_neg (by decide)]
    dsimp only
    rw [shAt_nat hi, shAt_nat hj]
    obtain ⟨_, _, _, _, _, _, _, g⟩ := rowN_sh hi
    obtain ⟨_, _, _, _, _, _, _, g2⟩ := rowN_sh hj
    have hA := (hl _ (List.getElem_mem hi)).shape
    have hB := (hl _ (List.getElem_mem hj)).shape
    generalize l[i].shape = A at g hA ⊢
    generalize l[j].shape = B at g2 hB ⊢
    have hra := c_r04_Right gl A (by omega)
    have hsame := c_r04_Same gl A B (by omega) (by omega)
    have hlA := rowZ_length A
    have hlB := rowZ_length B
    obtain rfl : name = ⟨#[]⟩ := F.nn rfl
    obtain rfl : k = ⟨#[]⟩ := F.k (by dsimp only; decide)
    obtain rfl : n = 0 := F.n (by dsimp only; decide)
    obtain rfl : data = [] := List.length_eq_zero_iff.1 (F.d (by dsimp only; decide))
    by_cases hAB : A = B
    · rw [refZ_at .above (s := A) rfl (by show (A, decide (A = B)) = _; rw [decide_eq_true hAB]) (by decide)]
      rw [decide_eq_true hAB] at hsame
      refine vcall_of TOK_r10_Shape HM Go.Proofs.Tryz.func19 rfl (by decide +kernel) (by decide +kernel) rfl ?_
      repeat' ((conv => whnf); first | ((with_reducible refine Xq ?_ ?_); assumption) | (with_reducible first | apply Xa | (first | apply xi | apply xu | apply x8 | apply x3 | apply xn | apply xp | apply xP | refine xs ?_ ?_ | refine xS ?_ ?_ | refine xZ ?_ ?_ | refine xl ?_ ?_ | refine xd ?_ ?_ | refine xy ?_ ?_ | refine xL ?_ ?_ | refine xD ?_ ?_ | apply xx); omega | apply Xm | apply Xe | refine Xg (by assumption) ?_) | refine Xo (by assumption) ?_ | refine x_0 (by first | assumption | rfl) ?_ | refine x_1 (by first | assumption | rfl) ?_ | refine Or.inl ⟨rfl, ?_⟩ | (split <;> (first | (rename_i u h; clear u) | rename_i h) <;> (try rewrite [h]) <;> (first | replace h := dt h | replace h := df h | replace h := Nt h | replace h := Nf h | skip) <;> (try dsimp only at h) <;> (first | contradiction | (exfalso; omega) | skip)) | (refine Or.inl ⟨_, by assumption, ?_⟩; first | rintro _ rfl | skip))
      all_goals (conv => whnf)
      all_goals first | exact ⟨_, roTo2 rfl rfl, rfl⟩ | exact ⟨_, roTo2 (show RoTo .nils (.ro 1 []) from ⟨1, rfl⟩) rfl, rfl⟩
    · rw [refZ_no]
      rotate_left
      · exact (show decide (A = B) = false from decide_eq_false hAB)
      rw [decide_eq_false hAB] at hsame
      refine vcall_of TOK_r10_Shape HM Go.Proofs.Tryz.func19 rfl (by decide +kernel) (by decide +kernel) rfl ?_
      repeat' ((conv => whnf); first | ((with_reducible refine Xq ?_ ?_); assumption) | (with_reducible first | apply Xa | (first | apply xi | apply xu | apply x8 | apply x3 | apply xn | apply xp | apply xP | refine xs ?_ ?_ | refine xS ?_ ?_ | refine xZ ?_ ?_ | refine xl ?_ ?_ | refine xd ?_ ?_ | refine xy ?_ ?_ | refine xL ?_ ?_ | refine xD ?_ ?_ | apply xx); omega | apply Xm | apply Xe | refine Xg (by assumption) ?_) | refine Xo (by assumption) ?_ | refine x_0 (by first | assumption | rfl) ?_ | refine x_1 (by first | assumption | rfl) ?_ | refine Or.inl ⟨rfl, ?_⟩ | (split <;> (first | (rename_i u h; clear u) | rename_i h) <;> (try rewrite [h]) <;> (first | replace h := dt h | replace h := df h | replace h := Nt h | replace h := Nf h | skip) <;> (try dsimp only at h) <;> (first | contradiction | (exfalso; omega) | skip)) | (refine Or.inl ⟨_, by assumption, ?_⟩; first | rintro _ rfl | skip))
      all_goals (conv => whnf)
      all_goals first | exact ⟨_, roTo2 rfl rfl, rfl⟩ | exact ⟨_, roTo2 (show RoTo .nils (.ro 1 []) from ⟨1, rfl⟩) rfl, rfl⟩
  case sum =>
    obtain ⟨i, rfl, hi⟩ : ∃ i : Nat, a = i ∧ i < l.length := inR_nat (F.ia (by decide))
    obtain rfl : b = 0 := F.b0 (by decide)
    rw [if_neg (by decide), if_pos (by decide)]
    dsimp only
    rw [shAt_nat hi]
    obtain ⟨_, _, _, _, _, _, _, g⟩ := rowN_sh hi
    have hA := (hl _ (List.getElem_mem hi)).shape
    generalize l[i].shape = A at g hA ⊢
    have hra := c_r04_Right gl A (by omega)
    have hlA := rowZ_length A
    obtain rfl : name = ⟨#[]⟩ := F.nn rfl
    obtain rfl : k = ⟨#[]⟩ := F.k (by dsimp only; decide)
    obtain rfl : n = 0 := F.n (by dsimp only; decide)
    obtain rfl : data = [] := List.length_eq_zero_iff.1 (F.d (by dsimp only; decide))
    rw [refZ_at .sum (s := []) rfl rfl (by decide)]
    refine vcall_of TOK_r10_Shape HM Go.Proofs.Tryz.func19 rfl (by decide +kernel) (by decide +kernel) rfl ?_
    repeat' ((conv => whnf); first | ((with_reducible refine Xq ?_ ?_); assumption) | (with_reducible first | apply Xa | (first | apply xi | apply xu | apply x8 | apply x3 | apply xn | apply xp | apply xP | refine xs ?_ ?_ | refine xS ?_ ?_ | refine xZ ?_ ?_ | refine xl ?_ ?_ | refine xd ?_ ?_ | refine xy ?_ ?_ | refine xL ?_ ?_ | refine xD ?_ ?_ | apply xx); omega | apply Xm | apply Xe | refine Xg (by assumption) ?_) | refine Xo (by assumption) ?_ | refine x_0 (by first | assumption | rfl) ?_ | refine x_1 (by first | assumption | rfl) ?_ | refine Or.inl ⟨rfl, ?_⟩ | (split <;> (first | (rename_i u h; clear u) | rename_i h) <;> (try rewrite [h]) <;> (first | replace h := dt h | replace h := df h | replace h := Nt h | replace h := Nf h | skip) <;> (try dsimp only at h) <;> (first | contradiction | (exfalso; omega) | skip)) | (refine Or.inl ⟨_, by assumption, ?_⟩; first | rintro _ rfl | skip))
    all_goals (conv => whnf)
    all_goals first | exact ⟨_, roTo2 rfl rfl, rfl⟩ | exact ⟨_, roTo2 (show RoTo .nils (.ro 1 []) from ⟨1, rfl⟩) rfl, rfl⟩
  case scale =>
    obtain ⟨i, rfl, hi⟩ : ∃ i : Nat, a = i ∧ i < l.length := inR_nat (F.ia (by decide))
    obtain rfl : b = 0 := F.b0 (by decide)
    rw [if_neg (by decide), if_pos (by decide)]
    dsimp only
    rw [shAt_nat hi]
    obtain ⟨_, _, _, _, _, _, _, g⟩ := rowN_sh hi
    have hA := (hl _ (List.getElem_mem hi)).shape
    generalize l[i].shape = A at g hA ⊢
    have hra := c_r04_Right gl A (by omega)
    have hlA := rowZ_length A
    obtain rfl : name = ⟨#[]⟩ := F.nn rfl
    obtain rfl : n = 0 := F.n (by dsimp only; decide)
    obtain rfl : data = [] := List.length_eq_zero_iff.1 (F.d (by dsimp only; decide))
    have hread := c_r03_Read gl k (Nat.lt_of_le_of_lt hk (by decide))
    cases hr : ratOK k
    · rw [hr] at hread
      rw [refZ_no]
      rotate_left
      · exact (show ratOK k = false from hr)
      refine vcall_of TOK_r10_Shape HM Go.Proofs.Tryz.func19 rfl (by decide +kernel) (by decide +kernel) rfl ?_
      repeat' ((conv => whnf); first | ((with_reducible refine Xq ?_ ?_); assumption) | (with_reducible first | apply Xa | (first | apply xi | apply xu | apply x8 | apply x3 | apply xn | apply xp | apply xP | refine xs ?_ ?_ | refine xS ?_ ?_ | refine xZ ?_ ?_ | refine xl ?_ ?_ | refine xd ?_ ?_ | refine xy ?_ ?_ | refine xL ?_ ?_ | refine xD ?_ ?_ | apply xx); omega | apply Xm | apply Xe | refine Xg (by assumption) ?_) | refine Xo (by assumption) ?_ | refine x_0 (by first | assumption | rfl) ?_ | refine x_1 (by first | assumption | rfl) ?_ | refine Or.inl ⟨rfl, ?_⟩ | (split <;> (first | (rename_i u h; clear u) | rename_i h) <;> (try rewrite [h]) <;> (first | replace h := dt h | replace h := df h | replace h := Nt h | replace h := Nf h | skip) <;> (try dsimp only at h) <;> (first | contradiction | (exfalso; omega) | skip)) | (refine Or.inl ⟨_, by assumption, ?_⟩; first | rintro _ rfl | skip))
      rintro _ ⟨p, q, rfl, _⟩
      repeat' ((conv => whnf); first | ((with_reducible refine Xq ?_ ?_); assumption) | (with_reducible first | apply Xa | (first | apply xi | apply xu | apply x8 | apply x3 | apply xn | apply xp | apply xP | refine xs ?_ ?_ | refine xS ?_ ?_ | refine xZ ?_ ?_ | refine xl ?_ ?_ | refine xd ?_ ?_ | refine xy ?_ ?_ | refine xL ?_ ?_ | refine xD ?_ ?_ | apply xx); omega | apply Xm | apply Xe | refine Xg (by assumption) ?_) | refine Xo (by assumption) ?_ | refine x_0 (by first | assumption | rfl) ?_ | refine x_1 (by first | assumption | rfl) ?_ | refine Or.inl ⟨rfl, ?_⟩ | (split <;> (first | (rename_i u h; clear u) | rename_i h) <;> (try rewrite [h]) <;> (first | replace h := dt h | replace h := df h | replace h := Nt h | replace h := Nf h | skip) <;> (try dsimp only at h) <;> (first | contradiction | (exfalso; omega) | skip)) | (refine Or.inl ⟨_, by assumption, ?_⟩; first | rintro _ rfl | skip))
      all_goals (conv => whnf)
      all_goals first | exact ⟨_, roTo2 rfl rfl, rfl⟩ | exact ⟨_, roTo2 (show RoTo .nils (.ro 1 []) from ⟨1, rfl⟩) rfl, rfl⟩
    · rw [hr] at hread
      rw [refZ_at .scale (s := A) rfl (by show (A, ratOK k) = _; rw [hr]) (by decide)]
      refine vcall_of TOK_r10_Shape HM Go.Proofs.Tryz.func19 rfl (by decide +kernel) (by decide +kernel) rfl ?_
      repeat' ((conv => whnf); first | ((with_reducible refine Xq ?_ ?_); assumption) | (with_reducible first | apply Xa | (first | apply xi | apply xu | apply x8 | apply x3 | apply xn | apply xp | apply xP | refine xs ?_ ?_ | refine xS ?_ ?_ | refine xZ ?_ ?_ | refine xl ?_ ?_ | refine xd ?_ ?_ | refine xy ?_ ?_ | refine xL ?_ ?_ | refine xD ?_ ?_ | apply xx); omega | apply Xm | apply Xe | refine Xg (by assumption) ?_) | refine Xo (by assumption) ?_ | refine x_0 (by first | assumption | rfl) ?_ | refine x_1 (by first | assumption | rfl) ?_ | refine Or.inl ⟨rfl, ?_⟩ | (split <;> (first | (rename_i u h; clear u) | rename_i h) <;> (try rewrite [h]) <;> (first | replace h := dt h | replace h := df h | replace h := Nt h | replace h := Nf h | skip) <;> (try dsimp only at h) <;> (first | contradiction | (exfalso; omega) | skip)) | (refine Or.inl ⟨_, by assumption, ?_⟩; first | rintro _ rfl | skip))
      rintro _ ⟨p, q, rfl, _⟩
      repeat' ((conv => whnf); first | ((with_reducible refine Xq ?_ ?_); assumption) | (with_reducible first | apply Xa | (first | apply xi | apply xu | apply x8 | apply x3 | apply xn | apply xp | apply xP | refine xs ?_ ?_ | refine xS ?_ ?_ | refine xZ ?_ ?_ | refine xl ?_ ?_ | refine xd ?_ ?_ | refine xy ?_ ?_ | refine xL ?_ ?_ | refine xD ?_ ?_ | apply xx); omega | apply Xm | apply Xe | refine Xg (by assumption) ?_) | refine Xo (by assumption) ?_ | refine x_0 (by first | assumption | rfl) ?_ | refine x_1 (by first | assumption | rfl) ?_ | refine Or.inl ⟨rfl, ?_⟩ | (split <;> (first | (rename_i u h; clear u) | rename_i h) <;> (try rewrite [h]) <;> (first | replace h := dt h | replace h := df h | replace h := Nt h | replace h := Nf h | skip) <;> (try dsimp only at h) <;> (first | contradiction | (exfalso; omega) | skip)) | (refine Or.inl ⟨_, by assumption, ?_⟩; first | rintro _ rfl | skip))
      all_goals (conv => whnf)
      all_goals first | exact ⟨_, roTo2 rfl rfl, rfl⟩ | exact ⟨_, roTo2 (show RoTo .nils (.ro 1 []) from ⟨1, rfl⟩) rfl, rfl⟩
  case power =>
    obtain ⟨i, rfl, hi⟩ : ∃ i : Nat, a = i ∧ i < l.length := inR_nat (F.ia (by decide))
    obtain rfl : b = 0 := F.b0 (by decide)
    rw [if_neg (by decide), if_pos (by decide)]
    dsimp only
    rw [shAt_nat hi]
    obtain ⟨_, _, _, _, _, _, _, g⟩ := rowN_sh hi
    have hA := (hl _ (List.getElem_mem hi)).shape
    generalize l[i].shape = A at g hA ⊢
    have hra := c_r04_Right gl A (by omega)
    have hlA := rowZ_length A
    obtain rfl : name = ⟨#[]⟩ := F.nn rfl
    obtain rfl : k = ⟨#[]⟩ := F.k (by dsimp only; decide)
    obtain rfl : data = [] := List.length_eq_zero_iff.1 (F.d (by dsimp only; decide))
    by_cases hn : 0 ≤ n ∧ n ≤ 6
    · rw [refZ_at .power (s := A) rfl (by show (A, decide (0 ≤ n) && decide (n ≤ 6)) = _; simp [hn]) (by decide)]
      refine vcall_of TOK_r10_Shape HM Go.Proofs.Tryz.func19 rfl (by decide +kernel) (by decide +kernel) rfl ?_
      repeat' ((conv => whnf); first | ((with_reducible refine Xq ?_ ?_); assumption) | (with_reducible first | apply Xa | (first | apply xi | apply xu | apply x8 | apply x3 | apply xn | apply xp | apply xP | refine xs ?_ ?_ | refine xS ?_ ?_ | refine xZ ?_ ?_ | refine xl ?_ ?_ | refine xd ?_ ?_ | refine xy ?_ ?_ | refine xL ?_ ?_ | refine xD ?_ ?_ | apply xx); omega | apply Xm | apply Xe | refine Xg (by assumption) ?_) | refine Xo (by assumption) ?_ | refine x_0 (by first | assumption | rfl) ?_ | refine x_1 (by first | assumption | rfl) ?_ | refine Or.inl ⟨rfl, ?_⟩ | (split <;> (first | (rename_i u h; clear u) | rename_i h) <;> (try rewrite [h]) <;> (first | replace h := dt h | replace h := df h | replace h := Nt h | replace h := Nf h | skip) <;> (try dsimp only at h) <;> (first | contradiction | (exfalso; omega) | skip)) | (refine Or.inl ⟨_, by assumption, ?_⟩; first | rintro _ rfl | skip))
      all_goals (conv => whnf)
      all_goals first | exact ⟨_, roTo2 rfl rfl, rfl⟩ | exact ⟨_, roTo2 (show RoTo .nils (.ro 1 []) from ⟨1, rfl⟩) rfl, rfl⟩
    · rw [refZ_no]
      rotate_left
      · exact (show (decide (0 ≤ n) && decide (n ≤ 6)) = false by rw [Bool.eq_false_iff]; simp only [ne_eq, Bool.and_eq_true, decide_eq_true_eq]; exact hn)
      refine vcall_of TOK_r10_Shape HM Go.Proofs.Tryz.func19 rfl (by decide +kernel) (by decide +kernel) rfl ?_
      repeat' ((conv => whnf); first | ((with_reducible refine Xq ?_ ?_); assumption) | (with_reducible first | apply Xa | (first | apply xi | apply xu | apply x8 | apply x3 | apply xn | apply xp | apply xP | refine xs ?_ ?_ | refine xS ?_ ?_ | refine xZ ?_ ?_ | refine xl ?_ ?_ | refine xd ?_ ?_ | refine xy ?_ ?_ | refine xL ?_ ?_ | refine xD ?_ ?_ | apply xx); omega | apply Xm | apply Xe | refine Xg (by assumption) ?_) | refine Xo (by assumption) ?_ | refine x_0 (by first | assumption | rfl) ?_ | refine x_1 (by first | assumption | rfl) ?_ | refine Or.inl ⟨rfl, ?_⟩ | (split <;> (first | (rename_i u h; clear u) | rename_i h) <;> (try rewrite [h]) <;> (first | replace h := dt h | replace h := df h | replace h := Nt h | replace h := Nf h | skip) <;> (try dsimp only at h) <;> (first | contradiction | (exfalso; omega) | skip)) | (refine Or.inl ⟨_, by assumption, ?_⟩; first | rintro _ rfl | skip))
      all_goals (conv => whnf)
      all_goals first | exact ⟨_, roTo2 rfl rfl, rfl⟩ | exact ⟨_, roTo2 (show RoTo .nils (.ro 1 []) from ⟨1, rfl⟩) rfl, rfl⟩
  case transpose =>
    obtain ⟨i, rfl, hi⟩ : ∃ i : Nat, a = i ∧ i < l.length := inR_nat (F.ia (by decide))
    obtain rfl : b = 0 := F.b0 (by decide)
    rw [if_neg (by decide), if_pos (by decide)]
    dsimp only
    rw [shAt_nat hi]
    obtain ⟨_, _, _, _, _, _, _, g⟩ := rowN_sh hi
    have hA := (hl _ (List.getElem_mem hi)).shape
    generalize l[i].shape = A at g hA ⊢
    have hra := c_r04_Right gl A (by omega)
    have hlA := rowZ_length A
    obtain rfl : name = ⟨#[]⟩ := F.nn rfl
    obtain rfl : k = ⟨#[]⟩ := F.k (by dsimp only; decide)
    obtain rfl : n = 0 := F.n (by dsimp only; decide)
    obtain rfl : data = [] := List.length_eq_zero_iff.1 (F.d (by dsimp only; decide))
    by_cases h2 : A.length = 2
    · obtain ⟨p, q, rfl⟩ := two_of h2
      have hqp := c_r04_Right gl [q, p] (show 2 < _ by decide)
      rw [refZ_at .transpose (s := [q, p]) rfl rfl (by decide)]
      refine vcall_of TOK_r10_Shape HM Go.Proofs.Tryz.func19 rfl (by decide +kernel) (by decide +kernel) rfl ?_
      repeat' ((conv => whnf); first | ((with_reducible refine Xq ?_ ?_); assumption) | (with_reducible first | apply Xa | (first | apply xi | apply xu | apply x8 | apply x3 | apply xn | apply xp | apply xP | refine xs ?_ ?_ | refine xS ?_ ?_ | refine xZ ?_ ?_ | refine xl ?_ ?_ | refine xd ?_ ?_ | refine xy ?_ ?_ | refine xL ?_ ?_ | refine xD ?_ ?_ | apply xx); omega | apply Xm | apply Xe | refine Xg (by assumption) ?_) | refine Xo (by assumption) ?_ | refine x_0 (by first | assumption | rfl) ?_ | refine x_1 (by first | assumption | rfl) ?_ | refine Or.inl ⟨rfl, ?_⟩ | (split <;> (first | (rename_i u h; clear u) | rename_i h) <;> (try rewrite [h]) <;> (first | replace h := dt h | replace h := df h | replace h := Nt h | replace h := Nf h | skip) <;> (try dsimp only at h) <;> (first | contradiction | (exfalso; omega) | skip)) | (refine Or.inl ⟨_, by assumption, ?_⟩; first | rintro _ rfl | skip))
      refine ⟨by decide +kernel, [0, 1, 3, 0, 8, 24, 63, 127], by decide +kernel, ?_⟩
      repeat' ((conv => whnf); first | ((with_reducible refine Xq ?_ ?_); assumption) | (with_reducible first | apply Xa | (first | apply xi | apply xu | apply x8 | apply x3 | apply xn | apply xp | apply xP | refine xs ?_ ?_ | refine xS ?_ ?_ | refine xZ ?_ ?_ | refine xl ?_ ?_ | refine xd ?_ ?_ | refine xy ?_ ?_ | refine xL ?_ ?_ | refine xD ?_ ?_ | apply xx); omega | apply Xm | apply Xe | refine Xg (by assumption) ?_) | refine Xo (by assumption) ?_ | refine x_0 (by first | assumption | rfl) ?_ | refine x_1 (by first | assumption | rfl) ?_ | refine Or.inl ⟨rfl, ?_⟩ | (split <;> (first | (rename_i u h; clear u) | rename_i h) <;> (try rewrite [h]) <;> (first | replace h := dt h | replace h := df h | replace h := Nt h | replace h := Nf h | skip) <;> (try dsimp only at h) <;> (first | contradiction | (exfalso; omega) | skip)) | (refine Or.inl ⟨_, by assumption, ?_⟩; first | rintro _ rfl | skip))
      all_goals (conv => whnf)
      all_goals first | exact ⟨_, roTo2 rfl rfl, rfl⟩ | exact ⟨_, roTo2 (show RoTo .nils (.ro 1 []) from ⟨1, rfl⟩) rfl, rfl⟩
    · rw [refZ_no]
      rotate_left
      · exact (congrArg Prod.snd (transpose_not h2))
      refine vcall_of TOK_r10_Shape HM Go.Proofs.Tryz.func19 rfl (by decide +kernel) (by decide +kernel) rfl ?_
      repeat' ((conv => whnf); first | ((with_reducible refine Xq ?_ ?_); assumption) | (with_reducible first | apply Xa | (first | apply xi | apply xu | apply x8 | apply x3 | apply xn | apply xp | apply xP | refine xs ?_ ?_ | refine xS ?_ ?_ | refine xZ ?_ ?_ | refine xl ?_ ?_ | refine xd ?_ ?_ | refine xy ?_ ?_ | refine xL ?_ ?_ | refine xD ?_ ?_ | apply xx); omega | apply Xm | apply Xe | refine Xg (by assumption) ?_) | refine Xo (by assumption) ?_ | refine x_0 (by first | assumption | rfl) ?_ | refine x_1 (by first | assumption | rfl) ?_ | refine Or.inl ⟨rfl, ?_⟩ | (split <;> (first | (rename_i u h; clear u) | rename_i h) <;> (try rewrite [h]) <;> (first | replace h := dt h | replace h := df h | replace h := Nt h | replace h := Nf h | skip) <;> (try dsimp only at h) <;> (first | contradiction | (exfalso; omega) | skip)) | (refine Or.inl ⟨_, by assumption, ?_⟩; first | rintro _ rfl | skip))
      all_goals (conv => whnf)
      all_goals first | exact ⟨_, roTo2 rfl rfl, rfl⟩ | exact ⟨_, roTo2 (show RoTo .nils (.ro 1 []) from ⟨1, rfl⟩) rfl, rfl⟩
  case spread =>
    obtain ⟨i, rfl, hi⟩ : ∃ i : Nat, a = i ∧ i < l.length := inR_nat (F.ia (by decide))
    obtain rfl : b = 0 := F.b0 (by decide)
    rw [if_neg (by decide), if_pos (by decide)]
    dsimp only
    rw [shAt_nat hi]
    obtain ⟨_, _, _, _, _, _, _, g⟩ := rowN_sh hi
    have hA := (hl _ (List.getElem_mem hi)).shape
    generalize l[i].shape = A at g hA ⊢
    have hra := c_r04_Right gl A (by omega)
    have hlA := rowZ_length A
    obtain rfl : name = ⟨#[]⟩ := F.nn rfl
    obtain rfl : k = ⟨#[]⟩ := F.k (by dsimp only; decide)
    obtain rfl : n = 0 := F.n (by dsimp only; decide)
    obtain rfl : data = [] := List.length_eq_zero_iff.1 (F.d (by dsimp only; decide))
    by_cases h0 : A.length = 0
    · rw [refZ_at .spread (s := shape) rfl (by show (shape, decide ((A.length : Int) = 0)) = _; simp [h0]) (by decide)]
      refine vcall_of TOK_r10_Shape HM Go.Proofs.Tryz.func19 rfl (by decide +kernel) (by decide +kernel) rfl ?_
      repeat' ((conv => whnf); first | ((with_reducible refine Xq ?_ ?_); assumption) | (with_reducible first | apply Xa | (first | apply xi | apply xu | apply x8 | apply x3 | apply xn | apply xp | apply xP | refine xs ?_ ?_ | refine xS ?_ ?_ | refine xZ ?_ ?_ | refine xl ?_ ?_ | refine xd ?_ ?_ | refine xy ?_ ?_ | refine xL ?_ ?_ | refine xD ?_ ?_ | apply xx); omega | apply Xm | apply Xe | refine Xg (by assumption) ?_) | refine Xo (by assumption) ?_ | refine x_0 (by first | assumption | rfl) ?_ | refine x_1 (by first | assumption | rfl) ?_ | refine Or.inl ⟨rfl, ?_⟩ | (split <;> (first | (rename_i u h; clear u) | rename_i h) <;> (try rewrite [h]) <;> (first | replace h := dt h | replace h := df h | replace h := Nt h | replace h := Nf h | skip) <;> (try dsimp only at h) <;> (first | contradiction | (exfalso; omega) | skip)) | (refine Or.inl ⟨_, by assumption, ?_⟩; first | rintro _ rfl | skip))
      all_goals (conv => whnf)
      all_goals first | exact ⟨_, roTo2 rfl rfl, rfl⟩ | exact ⟨_, roTo2 (show RoTo .nils (.ro 1 []) from ⟨1, rfl⟩) rfl, rfl⟩
    · rw [refZ_no]
      rotate_left
      · exact (show decide ((A.length : Int) = 0) = false by simp; simpa using h0)
      refine vcall_of TOK_r10_Shape HM Go.Proofs.Tryz.func19 rfl (by decide +kernel) (by decide +kernel) rfl ?_
      repeat' ((conv => whnf); first | ((with_reducible refine Xq ?_ ?_); assumption) | (with_reducible first | apply Xa | (first | apply xi | apply xu | apply x8 | apply x3 | apply xn | apply xp | apply xP | refine xs ?_ ?_ | refine xS ?_ ?_ | refine xZ ?_ ?_ | refine xl ?_ ?_ | refine xd ?_ ?_ | refine xy ?_ ?_ | refine xL ?_ ?_ | refine xD ?_ ?_ | apply xx); omega | apply Xm | apply Xe | refine Xg (by assumption) ?_) | refine Xo (by assumption) ?_ | refine x_0 (by first | assumption | rfl) ?_ | refine x_1 (by first | assumption | rfl) ?_ | refine Or.inl ⟨rfl, ?_⟩ | (split <;> (first | (rename_i u h; clear u) | rename_i h) <;> (try rewrite [h]) <;> (first | replace h := dt h | replace h := df h | replace h := Nt h | replace h := Nf h | skip) <;> (try dsimp only at h) <;> (first | contradiction | (exfalso; omega) | skip)) | (refine Or.inl ⟨_, by assumption, ?_⟩; first | rintro _ rfl | skip))
      all_goals (conv => whnf)
      all_goals first | exact ⟨_, roTo2 rfl rfl, rfl⟩ | exact ⟨_, roTo2 (show RoTo .nils (.ro 1 []) from ⟨1, rfl⟩) rfl, rfl⟩
  case reshape =>
    obtain ⟨i, rfl, hi⟩ : ∃ i : Nat, a = i ∧ i < l.length := inR_nat (F.ia (by decide))
    obtain rfl : b = 0 := F.b0 (by decide)
    rw [if_neg (by decide), if_pos (by decide)]
    dsimp only
    rw [shAt_nat hi]
    obtain ⟨_, _, _, _, _, _, _, g⟩ := rowN_sh hi
    have hA := (hl _ (List.getElem_mem hi)).shape
    generalize l[i].shape = A at g hA ⊢
    have hra := c_r04_Right gl A (by omega)
    have hlA := rowZ_length A
    obtain rfl : name = ⟨#[]⟩ := F.nn rfl
    obtain rfl : k = ⟨#[]⟩ := F.k (by dsimp only; decide)
    obtain rfl : n = 0 := F.n (by dsimp only; decide)
    obtain rfl : data = [] := List.length_eq_zero_iff.1 (F.d (by dsimp only; decide))
    cases hos : okShape shape
    · rw [refZ_bad]
      rotate_left
      · exact .inr rfl
      · exact (show okShape shape = false from hos)
      rw [hos] at hrs
      refine vcall_of TOK_r10_Shape HM Go.Proofs.Tryz.func19 rfl (by decide +kernel) (by decide +kernel) rfl ?_
      repeat' ((conv => whnf); first | ((with_reducible refine Xq ?_ ?_); assumption) | (with_reducible first | apply Xa | (first | apply xi | apply xu | apply x8 | apply x3 | apply xn | apply xp | apply xP | refine xs ?_ ?_ | refine xS ?_ ?_ | refine xZ ?_ ?_ | refine xl ?_ ?_ | refine xd ?_ ?_ | refine xy ?_ ?_ | refine xL ?_ ?_ | refine xD ?_ ?_ | apply xx); omega | apply Xm | apply Xe | refine Xg (by assumption) ?_) | refine Xo (by assumption) ?_ | refine x_0 (by first | assumption | rfl) ?_ | refine x_1 (by first | assumption | rfl) ?_ | refine Or.inl ⟨rfl, ?_⟩ | (split <;> (first | (rename_i u h; clear u) | rename_i h) <;> (try rewrite [h]) <;> (first | replace h := dt h | replace h := df h | replace h := Nt h | replace h := Nf h | skip) <;> (try dsimp only at h) <;> (first | contradiction | (exfalso; omega) | skip)) | (refine Or.inl ⟨_, by assumption, ?_⟩; first | rintro _ rfl | skip))
      all_goals (conv => whnf)
      all_goals first | exact ⟨_, roTo2 rfl rfl, rfl⟩ | exact ⟨_, roTo2 (show RoTo .nils (.ro 1 []) from ⟨1, rfl⟩) rfl, rfl⟩
    rw [hos] at hrs
    have hz1 := c_r04_Size gl shape hos
    have hp1 := prodZ_pos shape 1 (fun d hd => (okShape_dim hos d hd).1) (Int.le_refl _)
    cases hoa : okShape A
    · have e : sizeZ shape ≠ sizeZ A := by simp only [sizeZ, hos, hoa]; intro e; have : prodZ shape = 0 := e; unfold prodZ at this; omega
      rw [refZ_no]
      rotate_left
      · exact (show decide (sizeZ shape = sizeZ A) = false from decide_eq_false e)
      rw [hoa] at hra
      refine vcall_of TOK_r10_Shape HM Go.Proofs.Tryz.func19 rfl (by decide +kernel) (by decide +kernel) rfl ?_
      repeat' ((conv => whnf); first | ((with_reducible refine Xq ?_ ?_); assumption) | (with_reducible first | apply Xa | (first | apply xi | apply xu | apply x8 | apply x3 | apply xn | apply xp | apply xP | refine xs ?_ ?_ | refine xS ?_ ?_ | refine xZ ?_ ?_ | refine xl ?_ ?_ | refine xd ?_ ?_ | refine xy ?_ ?_ | refine xL ?_ ?_ | refine xD ?_ ?_ | apply xx); omega | apply Xm | apply Xe | refine Xg (by assumption) ?_) | refine Xo (by assumption) ?_ | refine x_0 (by first | assumption | rfl) ?_ | refine x_1 (by first | assumption | rfl) ?_ | refine Or.inl ⟨rfl, ?_⟩ | (split <;> (first | (rename_i u h; clear u) | rename_i h) <;> (try rewrite [h]) <;> (first | replace h := dt h | replace h := df h | replace h := Nt h | replace h := Nf h | skip) <;> (try dsimp only at h) <;> (first | contradiction | (exfalso; omega) | skip)) | (refine Or.inl ⟨_, by assumption, ?_⟩; first | rintro _ rfl | skip))
      all_goals (conv => whnf)
      all_goals first | exact ⟨_, roTo2 rfl rfl, rfl⟩ | exact ⟨_, roTo2 (show RoTo .nils (.ro 1 []) from ⟨1, rfl⟩) rfl, rfl⟩
    rw [hoa] at hra
    have hz2 := c_r04_Size gl A hoa
    by_cases e : prodZ shape = prodZ A
    · rw [refZ_ok (s := shape) (by show (shape, decide (sizeZ shape = sizeZ A)) = _; simp [sizeZ, hos, hoa, e]) hos]
      refine vcall_of TOK_r10_Shape HM Go.Proofs.Tryz.func19 rfl (by decide +kernel) (by decide +kernel) rfl ?_
      repeat' ((conv => whnf); first | ((with_reducible refine Xq ?_ ?_); assumption) | (with_reducible first | apply Xa | (first | apply xi | apply xu | apply x8 | apply x3 | apply xn | apply xp | apply xP | refine xs ?_ ?_ | refine xS ?_ ?_ | refine xZ ?_ ?_ | refine xl ?_ ?_ | refine xd ?_ ?_ | refine xy ?_ ?_ | refine xL ?_ ?_ | refine xD ?_ ?_ | apply xx); omega | apply Xm | apply Xe | refine Xg (by assumption) ?_) | refine Xo (by assumption) ?_ | refine x_0 (by first | assumption | rfl) ?_ | refine x_1 (by first | assumption | rfl) ?_ | refine Or.inl ⟨rfl, ?_⟩ | (split <;> (first | (rename_i u h; clear u) | rename_i h) <;> (try rewrite [h]) <;> (first | replace h := dt h | replace h := df h | replace h := Nt h | replace h := Nf h | skip) <;> (try dsimp only at h) <;> (first | contradiction | (exfalso; omega) | skip)) | (refine Or.inl ⟨_, by assumption, ?_⟩; first | rintro _ rfl | skip))
      all_goals (conv => whnf)
      all_goals first | exact ⟨_, roTo2 rfl rfl, rfl⟩ | exact ⟨_, roTo2 (show RoTo .nils (.ro 1 []) from ⟨1, rfl⟩) rfl, rfl⟩
    · rw [refZ_no]
      rotate_left
      · exact (show decide (sizeZ shape = sizeZ A) = false by simp [sizeZ, hos, hoa, e])
      refine vcall_of TOK_r10_Shape HM Go.Proofs.Tryz.func19 rfl (by decide +kernel) (by decide +kernel) rfl ?_
      repeat' ((conv => whnf); first | ((with_reducible refine Xq ?_ ?_); assumption) | (with_reducible first | apply Xa | (first | apply xi | apply xu | apply x8 | apply x3 | apply xn | apply xp | apply xP | refine xs ?_ ?_ | refine xS ?_ ?_ | refine xZ ?_ ?_ | refine xl ?_ ?_ | refine xd ?_ ?_ | refine xy ?_ ?_ | refine xL ?_ ?_ | refine xD ?_ ?_ | apply xx); omega | apply Xm | apply Xe | refine Xg (by assumption) ?_) | refine Xo (by assumption) ?_ | refine x_0 (by first | assumption | rfl) ?_ | refine x_1 (by first | assumption | rfl) ?_ | refine Or.inl ⟨rfl, ?_⟩ | (split <;> (first | (rename_i u h; clear u) | rename_i h) <;> (try rewrite [h]) <;> (first | replace h := dt h | replace h := df h | replace h := Nt h | replace h := Nf h | skip) <;> (try dsimp only at h) <;> (first | contradiction | (exfalso; omega) | skip)) | (refine Or.inl ⟨_, by assumption, ?_⟩; first | rintro _ rfl | skip))
      all_goals (conv => whnf)
      all_goals first | exact ⟨_, roTo2 rfl rfl, rfl⟩ | exact ⟨_, roTo2 (show RoTo .nils (.ro 1 []) from ⟨1, rfl⟩) rfl, rfl⟩
  case matmul =>
    obtain ⟨i, rfl, hi⟩ : ∃ i : Nat, a = i ∧ i < l.length := inR_nat (F.ia (by decide))
    obtain ⟨j, rfl, hj⟩ : ∃ i : Nat, b = i ∧ i < l.length := inR_nat (F.ib (by decide))
    rw [if_neg (by decide), if_neg (by decide)]
    dsimp only
    rw [shAt_nat hi, shAt_nat hj]
    obtain ⟨_, _, _, _, _, _, _, g⟩ := rowN_sh hi
    obtain ⟨_, _, _, _, _, _, _, g2⟩ := rowN_sh hj
    have hA := (hl _ (List.getElem_mem hi)).shape
    have hB := (hl _ (List.getElem_mem hj)).shape
    generalize l[i].shape = A at g hA ⊢
    generalize l[j].shape = B at g2 hB ⊢
    have hra := c_r04_Right gl A (by omega)
    have hsame := c_r04_Same gl A B (by omega) (by omega)
    have hlA := rowZ_length A
    have hlB := rowZ_length B
    obtain rfl : name = ⟨#[]⟩ := F.nn rfl
    obtain rfl : k = ⟨#[]⟩ := F.k (by dsimp only; decide)
    obtain rfl : n = 0 := F.n (by dsimp only; decide)
    obtain rfl : data = [] := List.length_eq_zero_iff.1 (F.d (by dsimp only; decide))
    by_cases h2 : A.length = 2 ∧ B.length = 2
    · obtain ⟨ha2, hb2⟩ := h2
      obtain ⟨p, q, rfl⟩ := two_of ha2
      obtain ⟨r, s, rfl⟩ := two_of hb2
      have hps := c_r04_Right gl [p, s] (show 2 < _ by decide)
      by_cases hqr : q = r
      · rw [refZ_at .matmul (s := [p, s])]
        rotate_left
        · exact rfl
        · exact if_pos hqr
        · decide
        refine vcall_of TOK_r10_Shape HM Go.Proofs.Tryz.func19 rfl (by decide +kernel) (by decide +kernel) rfl ?_
        repeat' ((conv => whnf); first | ((with_reducible refine Xq ?_ ?_); assumption) | (with_reducible first | apply Xa | (first | apply xi | apply xu | apply x8 | apply x3 | apply xn | apply xp | apply xP | refine xs ?_ ?_ | refine xS ?_ ?_ | refine xZ ?_ ?_ | refine xl ?_ ?_ | refine xd ?_ ?_ | refine xy ?_ ?_ | refine xL ?_ ?_ | refine xD ?_ ?_ | apply xx); omega | apply Xm | apply Xe | refine Xg (by assumption) ?_) | refine Xo (by assumption) ?_ | refine x_0 (by first | assumption | rfl) ?_ | refine x_1 (by first | assumption | rfl) ?_ | refine Or.inl ⟨rfl, ?_⟩ | (split <;> (first | (rename_i u h; clear u) | rename_i h) <;> (try rewrite [h]) <;> (first | replace h := dt h | replace h := df h | replace h := Nt h | replace h := Nf h | skip) <;> (try dsimp only at h) <;> (first | contradiction | (exfalso; omega) | skip)) | (refine Or.inl ⟨_, by assumption, ?_⟩; first | rintro _ rfl | skip))
        refine ⟨by decide +kernel, [0, 1, 3, 7, 15, 31, 63, 127, 255, 511, 1023, 2047, 511, 4607, 12799, 32767, 65535], by decide +kernel, ?_⟩
        repeat' ((conv => whnf); first | ((with_reducible refine Xq ?_ ?_); assumption) | (with_reducible first | apply Xa | (first | apply xi | apply xu | apply x8 | apply x3 | apply xn | apply xp | apply xP | refine xs ?_ ?_ | refine xS ?_ ?_ | refine xZ ?_ ?_ | refine xl ?_ ?_ | refine xd ?_ ?_ | refine xy ?_ ?_ | refine xL ?_ ?_ | refine xD ?_ ?_ | apply xx); omega | apply Xm | apply Xe | refine Xg (by assumption) ?_) | refine Xo (by assumption) ?_ | refine x_0 (by first | assumption | rfl) ?_ | refine x_1 (by first | assumption | rfl) ?_ | refine Or.inl ⟨rfl, ?_⟩ | (split <;> (first | (rename_i u h; clear u) | rename_i h) <;> (try rewrite [h]) <;> (first | replace h := dt h | replace h := df h | replace h := Nt h | replace h := Nf h | skip) <;> (try dsimp only at h) <;> (first | contradiction | (exfalso; omega) | skip)) | (refine Or.inl ⟨_, by assumption, ?_⟩; first | rintro _ rfl | skip))
        refine ⟨by decide +kernel, [0, 1, 3, 0, 8, 24, 63, 127], by decide +kernel, ?_⟩
        repeat' ((conv => whnf); first | ((with_reducible refine Xq ?_ ?_); assumption) | (with_reducible first | apply Xa | (first | apply xi | apply xu | apply x8 | apply x3 | apply xn | apply xp | apply xP | refine xs ?_ ?_ | refine xS ?_ ?_ | refine xZ ?_ ?_ | refine xl ?_ ?_ | refine xd ?_ ?_ | refine xy ?_ ?_ | refine xL ?_ ?_ | refine xD ?_ ?_ | apply xx); omega | apply Xm | apply Xe | refine Xg (by assumption) ?_) | refine Xo (by assumption) ?_ | refine x_0 (by first | assumption | rfl) ?_ | refine x_1 (by first | assumption | rfl) ?_ | refine Or.inl ⟨rfl, ?_⟩ | (split <;> (first | (rename_i u h; clear u) | rename_i h) <;> (try rewrite [h]) <;> (first | replace h := dt h | replace h := df h | replace h := Nt h | replace h := Nf h | skip) <;> (try dsimp only at h) <;> (first | contradiction | (exfalso; omega) | skip)) | (refine Or.inl ⟨_, by assumption, ?_⟩; first | rintro _ rfl | skip))
        all_goals (conv => whnf)
        all_goals first | exact ⟨_, roTo2 rfl rfl, rfl⟩ | exact ⟨_, roTo2 (show RoTo .nils (.ro 1 []) from ⟨1, rfl⟩) rfl, rfl⟩
      · rw [refZ_no]
        rotate_left
        · exact (congrArg Prod.snd (show ofZ ⟨Opc.str .matmul, _, _, _, shape, _, _, _⟩ [p, q] [r, s] = ([], false) from if_neg hqr))
        refine vcall_of TOK_r10_Shape HM Go.Proofs.Tryz.func19 rfl (by decide +kernel) (by decide +kernel) rfl ?_
        repeat' ((conv => whnf); first | ((with_reducible refine Xq ?_ ?_); assumption) | (with_reducible first | apply Xa | (first | apply xi | apply xu | apply x8 | apply x3 | apply xn | apply xp | apply xP | refine xs ?_ ?_ | refine xS ?_ ?_ | refine xZ ?_ ?_ | refine xl ?_ ?_ | refine xd ?_ ?_ | refine xy ?_ ?_ | refine xL ?_ ?_ | refine xD ?_ ?_ | apply xx); omega | apply Xm | apply Xe | refine Xg (by assumption) ?_) | refine Xo (by assumption) ?_ | refine x_0 (by first | assumption | rfl) ?_ | refine x_1 (by first | assumption | rfl) ?_ | refine Or.inl ⟨rfl, ?_⟩ | (split <;> (first | (rename_i u h; clear u) | rename_i h) <;> (try rewrite [h]) <;> (first | replace h := dt h | replace h := df h | replace h := Nt h | replace h := Nf h | skip) <;> (try dsimp only at h) <;> (first | contradiction | (exfalso; omega) | skip)) | (refine Or.inl ⟨_, by assumption, ?_⟩; first | rintro _ rfl | skip))
        refine ⟨by decide +kernel, [0, 1, 3, 7, 15, 31, 63, 127, 255, 511, 1023, 2047, 511, 4607, 12799, 32767, 65535], by decide +kernel, ?_⟩
        repeat' ((conv => whnf); first | ((with_reducible refine Xq ?_ ?_); assumption) | (with_reducible first | apply Xa | (first | apply xi | apply xu | apply x8 | apply x3 | apply xn | apply xp | apply xP | refine xs ?_ ?_ | refine xS ?_ ?_ | refine xZ ?_ ?_ | refine xl ?_ ?_ | refine xd ?_ ?_ | refine xy ?_ ?_ | refine xL ?_ ?_ | refine xD ?_ ?_ | apply xx); omega | apply Xm | apply Xe | refine Xg (by assumption) ?_) | refine Xo (by assumption) ?_ | refine x_0 (by first | assumption | rfl) ?_ | refine x_1 (by first | assumption | rfl) ?_ | refine Or.inl ⟨rfl, ?_⟩ | (split <;> (first | (rename_i u h; clear u) | rename_i h) <;> (try rewrite [h]) <;> (first | replace h := dt h | replace h := df h | replace h := Nt h | replace h := Nf h | skip) <;> (try dsimp only at h) <;> (first | contradiction | (exfalso; omega) | skip)) | (refine Or.inl ⟨_, by assumption, ?_⟩; first | rintro _ rfl | skip))
        all_goals (conv => whnf)
        all_goals first | exact ⟨_, roTo2 rfl rfl, rfl⟩ | exact ⟨_, roTo2 (show RoTo .nils (.ro 1 []) from ⟨1, rfl⟩) rfl, rfl⟩
    · rw [refZ_no]
      rotate_left
      · exact (congrArg Prod.snd (matmul_not fun h => h2 ⟨h.1, h.2.1⟩))
      refine vcall_of TOK_r10_Shape HM Go.Proofs.Tryz.func19 rfl (by decide +kernel) (by decide +kernel) rfl ?_
      repeat' ((conv => whnf); first | ((with_reducible refine Xq ?_ ?_); assumption) | (with_reducible first | apply Xa | (first | apply xi | apply xu | apply x8 | apply x3 | apply xn | apply xp | apply xP | refine xs ?_ ?_ | refine xS ?_ ?_ | refine xZ ?_ ?_ | refine xl ?_ ?_ | refine xd ?_ ?_ | refine xy ?_ ?_ | refine xL ?_ ?_ | refine xD ?_ ?_ | apply xx); omega | apply Xm | apply Xe | refine Xg (by assumption) ?_) | refine Xo (by assumption) ?_ | refine x_0 (by first | assumption | rfl) ?_ | refine x_1 (by first | assumption | rfl) ?_ | refine Or.inl ⟨rfl, ?_⟩ | (split <;> (first | (rename_i u h; clear u) | rename_i h) <;> (try rewrite [h]) <;> (first | replace h := dt h | replace h := df h | replace h := Nt h | replace h := Nf h | skip) <;> (try dsimp only at h) <;> (first | contradiction | (exfalso; omega) | skip)) | (refine Or.inl ⟨_, by assumption, ?_⟩; first | rintro _ rfl | skip))
      refine ⟨by decide +kernel, [0, 1, 3, 7, 15, 31, 63, 127, 255, 511, 1023, 2047, 511, 4607, 12799, 32767, 65535], by decide +kernel, ?_⟩
      repeat' ((conv => whnf); first | ((with_reducible refine Xq ?_ ?_); assumption) | (with_reducible first | apply Xa | (first | apply xi | apply xu | apply x8 | apply x3 | apply xn | apply xp | apply xP | refine xs ?_ ?_ | refine xS ?_ ?_ | refine xZ ?_ ?_ | refine xl ?_ ?_ | refine xd ?_ ?_ | refine xy ?_ ?_ | refine xL ?_ ?_ | refine xD ?_ ?_ | apply xx); omega | apply Xm | apply Xe | refine Xg (by assumption) ?_) | refine Xo (by assumption) ?_ | refine x_0 (by first | assumption | rfl) ?_ | refine x_1 (by first | assumption | rfl) ?_ | refine Or.inl ⟨rfl, ?_⟩ | (split <;> (first | (rename_i u h; clear u) | rename_i h) <;> (try rewrite [h]) <;> (first | replace h := dt h | replace h := df h | replace h := Nt h | replace h := Nf h | skip) <;> (try dsimp only at h) <;> (first | contradiction | (exfalso; omega) | skip)) | (refine Or.inl ⟨_, by assumption, ?_⟩; first | rintro _ rfl | skip))
      all_goals (conv => whnf)
      all_goals first | exact ⟨_, roTo2 rfl rfl, rfl⟩ | exact ⟨_, roTo2 (show RoTo .nils (.ro 1 []) from ⟨1, rfl⟩) rfl, rfl⟩
  case const =>
    obtain rfl : a = 0 := F.a0 rfl
    obtain rfl : b = 0 := F.b0 (by decide)
    rw [if_pos (by decide), if_pos (by decide)]
    obtain rfl : name = ⟨#[]⟩ := F.nn rfl
    obtain rfl : k = ⟨#[]⟩ := F.k (by dsimp only; decide)
    obtain rfl : n = 0 := F.n (by dsimp only; decide)
    cases hos : okShape shape
    · rw [refZ_bad]
      rotate_left
      · exact .inl rfl
      · exact (show okShape shape = false from hos)
      rw [hos] at hrs
      refine vcall_of TOK_r10_Shape HM Go.Proofs.Tryz.func19 rfl (by decide +kernel) (by decide +kernel) rfl ?_
      repeat' ((conv => whnf); first | ((with_reducible refine Xq ?_ ?_); assumption) | (with_reducible first | apply Xa | (first | apply xi | apply xu | apply x8 | apply x3 | apply xn | apply xp | apply xP | refine xs ?_ ?_ | refine xS ?_ ?_ | refine xZ ?_ ?_ | refine xl ?_ ?_ | refine xd ?_ ?_ | refine xy ?_ ?_ | refine xL ?_ ?_ | refine xD ?_ ?_ | apply xx); omega | apply Xm | apply Xe | refine Xg (by assumption) ?_) | refine Xo (by assumption) ?_ | refine x_0 (by first | assumption | rfl) ?_ | refine x_1 (by first | assumption | rfl) ?_ | refine Or.inl ⟨rfl, ?_⟩ | (split <;> (first | (rename_i u h; clear u) | rename_i h) <;> (try rewrite [h]) <;> (first | replace h := dt h | replace h := df h | replace h := Nt h | replace h := Nf h | skip) <;> (try dsimp only at h) <;> (first | contradiction | (exfalso; omega) | skip)) | (refine Or.inl ⟨_, by assumption, ?_⟩; first | rintro _ rfl | skip))
      refine ⟨by decide +kernel, [0, 1, 3, 7, 15, 31, 63, 15, 143, 511, 1023], by decide +kernel, ?_⟩
      repeat' ((conv => whnf); first | ((with_reducible refine Xq ?_ ?_); assumption) | (with_reducible first | apply Xa | (first | apply xi | apply xu | apply x8 | apply x3 | apply xn | apply xp | apply xP | refine xs ?_ ?_ | refine xS ?_ ?_ | refine xZ ?_ ?_ | refine xl ?_ ?_ | refine xd ?_ ?_ | refine xy ?_ ?_ | refine xL ?_ ?_ | refine xD ?_ ?_ | apply xx); omega | apply Xm | apply Xe | refine Xg (by assumption) ?_) | refine Xo (by assumption) ?_ | refine x_0 (by first | assumption | rfl) ?_ | refine x_1 (by first | assumption | rfl) ?_ | refine Or.inl ⟨rfl, ?_⟩ | (split <;> (first | (rename_i u h; clear u) | rename_i h) <;> (try rewrite [h]) <;> (first | replace h := dt h | replace h := df h | replace h := Nt h | replace h := Nf h | skip) <;> (try dsimp only at h) <;> (first | contradiction | (exfalso; omega) | skip)) | (refine Or.inl ⟨_, by assumption, ?_⟩; first | rintro _ rfl | skip))
      all_goals (conv => whnf)
      all_goals first | exact ⟨_, roTo2 rfl rfl, rfl⟩ | exact ⟨_, roTo2 (show RoTo .nils (.ro 1 []) from ⟨1, rfl⟩) rfl, rfl⟩
    have hsz : sizeZ shape = prodZ shape := by simp [sizeZ, hos]
    rw [hos] at hrs
    have hz1 := c_r04_Size gl shape hos
    by_cases hlen : (data.length : Int) = prodZ shape
    · have hT1 : data.any (fun d => !ratOK d) = true → refZ ⟨Opc.str .const, 0, 0, ⟨#[]⟩, shape, ⟨#[]⟩, 0, data⟩ [] [] = ([], false) := fun h =>
        refZ_no (show (decide ((data.length : Int) = sizeZ shape) && !(data.any fun d => !ratOK d)) = false by rw [h]; simp)
      have hT2 : data.any (fun d => !ratOK d) = false → refZ ⟨Opc.str .const, 0, 0, ⟨#[]⟩, shape, ⟨#[]⟩, 0, data⟩ [] [] = (shape, true) := fun h =>
        refZ_ok (by show (shape, decide ((data.length : Int) = sizeZ shape) && !(data.any fun d => !ratOK d)) = _; rw [h, hsz, hlen]; simp) hos
      generalize refZ ⟨Opc.str .const, 0, 0, ⟨#[]⟩, shape, ⟨#[]⟩, 0, data⟩ [] [] = T at hT1 hT2 ⊢
      refine vcall_of TOK_r10_Shape HM Go.Proofs.Tryz.func19 rfl (by decide +kernel) (by decide +kernel) rfl ?_
      repeat' ((conv => whnf); first | ((with_reducible refine Xq ?_ ?_); assumption) | (with_reducible first | apply Xa | (first | apply xi | apply xu | apply x8 | apply x3 | apply xn | apply xp | apply xP | refine xs ?_ ?_ | refine xS ?_ ?_ | refine xZ ?_ ?_ | refine xl ?_ ?_ | refine xd ?_ ?_ | refine xy ?_ ?_ | refine xL ?_ ?_ | refine xD ?_ ?_ | apply xx); omega | apply Xm | apply Xe | refine Xg (by assumption) ?_) | refine Xo (by assumption) ?_ | refine x_0 (by first | assumption | rfl) ?_ | refine x_1 (by first | assumption | rfl) ?_ | refine Or.inl ⟨rfl, ?_⟩ | (split <;> (first | (rename_i u h; clear u) | rename_i h) <;> (try rewrite [h]) <;> (first | replace h := dt h | replace h := df h | replace h := Nt h | replace h := Nf h | skip) <;> (try dsimp only at h) <;> (first | contradiction | (exfalso; omega) | skip)) | (refine Or.inl ⟨_, by assumption, ?_⟩; first | rintro _ rfl | skip))
      refine ⟨by decide +kernel, [0, 1, 3, 7, 15, 31, 63, 15, 143, 511, 1023], by decide +kernel, ?_⟩
      repeat' ((conv => whnf); first | ((with_reducible refine Xq ?_ ?_); assumption) | (with_reducible first | apply Xa | (first | apply xi | apply xu | apply x8 | apply x3 | apply xn | apply xp | apply xP | refine xs ?_ ?_ | refine xS ?_ ?_ | refine xZ ?_ ?_ | refine xl ?_ ?_ | refine xd ?_ ?_ | refine xy ?_ ?_ | refine xL ?_ ?_ | refine xD ?_ ?_ | apply xx); omega | apply Xm | apply Xe | refine Xg (by assumption) ?_) | refine Xo (by assumption) ?_ | refine x_0 (by first | assumption | rfl) ?_ | refine x_1 (by first | assumption | rfl) ?_ | refine Or.inl ⟨rfl, ?_⟩ | (split <;> (first | (rename_i u h; clear u) | rename_i h) <;> (try rewrite [h]) <;> (first | replace h := dt h | replace h := df h | replace h := Nt h | replace h := Nf h | skip) <;> (try dsimp only at h) <;> (first | contradiction | (exfalso; omega) | skip)) | (refine Or.inl ⟨_, by assumption, ?_⟩; first | rintro _ rfl | skip))
      refine ⟨[9, 163, 164, 165], [], fun m st => ∃ i : Nat, i ≤ data.length ∧ m = data.length - i ∧ (data.take i).any (fun d => !ratOK d) = false ∧
        st = ⟨[(9, .ro 1 (rowZ shape)), (163, .ro 1 (rowS data)), (164, .int .i64 ((rowS data).length : Nat)), (165, .int .i64 (i : Nat))], []⟩, rfl, ⟨data.length, 0, by omega, rfl, by simp, rfl⟩, ?_⟩
      rintro m _ ⟨i, hi, hm, ha, rfl⟩
      rcases Nat.lt_or_ge i data.length with hil | hge
      · have g := rowS_get hil
        have hread := c_r03_Read gl data[i] (Nat.lt_of_le_of_lt (hx.each _ (List.getElem_mem hil)) (by decide))
        cases hr : ratOK data[i]
        · rw [hr] at hread
          repeat' ((conv => whnf); first | ((with_reducible refine Xq ?_ ?_); assumption) | (with_reducible first | apply Xa | (first | apply xi | apply xu | apply x8 | apply x3 | apply xn | apply xp | apply xP | refine xs ?_ ?_ | refine xS ?_ ?_ | refine xZ ?_ ?_ | refine xl ?_ ?_ | refine xd ?_ ?_ | refine xy ?_ ?_ | refine xL ?_ ?_ | refine xD ?_ ?_ | apply xx); omega | apply Xm | apply Xe | refine Xg (by assumption) ?_) | refine Xo (by assumption) ?_ | refine x_0 (by first | assumption | rfl) ?_ | refine x_1 (by first | assumption | rfl) ?_ | refine Or.inl ⟨rfl, ?_⟩ | (split <;> (first | (rename_i u h; clear u) | rename_i h) <;> (try rewrite [h]) <;> (first | replace h := dt h | replace h := df h | replace h := Nt h | replace h := Nf h | skip) <;> (try dsimp only at h) <;> (first | contradiction | (exfalso; omega) | skip)) | (refine Or.inl ⟨_, by assumption, ?_⟩; first | rintro _ rfl | skip))
          rintro _ ⟨p, q, rfl, _⟩
          repeat' ((conv => whnf); first | ((with_reducible refine Xq ?_ ?_); assumption) | (with_reducible first | apply Xa | (first | apply xi | apply xu | apply x8 | apply x3 | apply xn | apply xp | apply xP | refine xs ?_ ?_ | refine xS ?_ ?_ | refine xZ ?_ ?_ | refine xl ?_ ?_ | refine xd ?_ ?_ | refine xy ?_ ?_ | refine xL ?_ ?_ | refine xD ?_ ?_ | apply xx); omega | apply Xm | apply Xe | refine Xg (by assumption) ?_) | refine Xo (by assumption) ?_ | refine x_0 (by first | assumption | rfl) ?_ | refine x_1 (by first | assumption | rfl) ?_ | refine Or.inl ⟨rfl, ?_⟩ | (split <;> (first | (rename_i u h; clear u) | rename_i h) <;> (try rewrite [h]) <;> (first | replace h := dt h | replace h := df h | replace h := Nt h | replace h := Nf h | skip) <;> (try dsimp only at h) <;> (first | contradiction | (exfalso; omega) | skip)) | (refine Or.inl ⟨_, by assumption, ?_⟩; first | rintro _ rfl | skip))
          all_goals (conv => whnf)
          exact ⟨_, roTo2 (show RoTo .nils (.ro 1 []) from ⟨1, rfl⟩) rfl, by rw [hT1 (any_bad hil (by simp [hr]))]; rfl⟩
        · rw [hr] at hread
          repeat' ((conv => whnf); first | ((with_reducible refine Xq ?_ ?_); assumption) | (with_reducible first | apply Xa | (first | apply xi | apply xu | apply x8 | apply x3 | apply xn | apply xp | apply xP | refine xs ?_ ?_ | refine xS ?_ ?_ | refine xZ ?_ ?_ | refine xl ?_ ?_ | refine xd ?_ ?_ | refine xy ?_ ?_ | refine xL ?_ ?_ | refine xD ?_ ?_ | apply xx); omega | apply Xm | apply Xe | refine Xg (by assumption) ?_) | refine Xo (by assumption) ?_ | refine x_0 (by first | assumption | rfl) ?_ | refine x_1 (by first | assumption | rfl) ?_ | refine Or.inl ⟨rfl, ?_⟩ | (split <;> (first | (rename_i u h; clear u) | rename_i h) <;> (try rewrite [h]) <;> (first | replace h := dt h | replace h := df h | replace h := Nt h | replace h := Nf h | skip) <;> (try dsimp only at h) <;> (first | contradiction | (exfalso; omega) | skip)) | (refine Or.inl ⟨_, by assumption, ?_⟩; first | rintro _ rfl | skip))
          rintro _ ⟨p, q, rfl, _⟩
          repeat' ((conv => whnf); first | ((with_reducible refine Xq ?_ ?_); assumption) | (with_reducible first | apply Xa | (first | apply xi | apply xu | apply x8 | apply x3 | apply xn | apply xp | apply xP | refine xs ?_ ?_ | refine xS ?_ ?_ | refine xZ ?_ ?_ | refine xl ?_ ?_ | refine xd ?_ ?_ | refine xy ?_ ?_ | refine xL ?_ ?_ | refine xD ?_ ?_ | apply xx); omega | apply Xm | apply Xe | refine Xg (by assumption) ?_) | refine Xo (by assumption) ?_ | refine x_0 (by first | assumption | rfl) ?_ | refine x_1 (by first | assumption | rfl) ?_ | refine Or.inl ⟨rfl, ?_⟩ | (split <;> (first | (rename_i u h; clear u) | rename_i h) <;> (try rewrite [h]) <;> (first | replace h := dt h | replace h := df h | replace h := Nt h | replace h := Nf h | skip) <;> (try dsimp only at h) <;> (first | contradiction | (exfalso; omega) | skip)) | (refine Or.inl ⟨_, by assumption, ?_⟩; first | rintro _ rfl | skip))
          exact ⟨[], data.length - (i + 1), rfl, by omega, i + 1, by omega, rfl, any_snoc hil ha (by simp [hr]), rfl⟩
      · rw [List.take_of_length_le (by omega)] at ha
        repeat' ((conv => whnf); first | ((with_reducible refine Xq ?_ ?_); assumption) | (with_reducible first | apply Xa | (first | apply xi | apply xu | apply x8 | apply x3 | apply xn | apply xp | apply xP | refine xs ?_ ?_ | refine xS ?_ ?_ | refine xZ ?_ ?_ | refine xl ?_ ?_ | refine xd ?_ ?_ | refine xy ?_ ?_ | refine xL ?_ ?_ | refine xD ?_ ?_ | apply xx); omega | apply Xm | apply Xe | refine Xg (by assumption) ?_) | refine Xo (by assumption) ?_ | refine x_0 (by first | assumption | rfl) ?_ | refine x_1 (by first | assumption | rfl) ?_ | refine Or.inl ⟨rfl, ?_⟩ | (split <;> (first | (rename_i u h; clear u) | rename_i h) <;> (try rewrite [h]) <;> (first | replace h := dt h | replace h := df h | replace h := Nt h | replace h := Nf h | skip) <;> (try dsimp only at h) <;> (first | contradiction | (exfalso; omega) | skip)) | (refine Or.inl ⟨_, by assumption, ?_⟩; first | rintro _ rfl | skip))
        all_goals (conv => whnf)
        exact ⟨_, roTo2 rfl rfl, by rw [hT2 ha]⟩
    · rw [refZ_no]
      rotate_left
      · exact (show (decide ((data.length : Int) = sizeZ shape) && !(data.any fun d => !ratOK d)) = false by rw [hsz, decide_eq_false hlen]; rfl)
      refine vcall_of TOK_r10_Shape HM Go.Proofs.Tryz.func19 rfl (by decide +kernel) (by decide +kernel) rfl ?_
      repeat' ((conv => whnf); first | ((with_reducible refine Xq ?_ ?_); assumption) | (with_reducible first | apply Xa | (first | apply xi | apply xu | apply x8 | apply x3 | apply xn | apply xp | apply xP | refine xs ?_ ?_ | refine xS ?_ ?_ | refine xZ ?_ ?_ | refine xl ?_ ?_ | refine xd ?_ ?_ | refine xy ?_ ?_ | refine xL ?_ ?_ | refine xD ?_ ?_ | apply xx); omega | apply Xm | apply Xe | refine Xg (by assumption) ?_) | refine Xo (by assumption) ?_ | refine x_0 (by first | assumption | rfl) ?_ | refine x_1 (by first | assumption | rfl) ?_ | refine Or.inl ⟨rfl, ?_⟩ | (split <;> (first | (rename_i u h; clear u) | rename_i h) <;> (try rewrite [h]) <;> (first | replace h := dt h | replace h := df h | replace h := Nt h | replace h := Nf h | skip) <;> (try dsimp only at h) <;> (first | contradiction | (exfalso; omega) | skip)) | (refine Or.inl ⟨_, by assumption, ?_⟩; first | rintro _ rfl | skip))
      refine ⟨by decide +kernel, [0, 1, 3, 7, 15, 31, 63, 15, 143, 511, 1023], by decide +kernel, ?_⟩
      repeat' ((conv => whnf); first | ((with_reducible refine Xq ?_ ?_); assumption) | (with_reducible first | apply Xa | (first | apply xi | apply xu | apply x8 | apply x3 | apply xn | apply xp | apply xP | refine xs ?_ ?_ | refine xS ?_ ?_ | refine xZ ?_ ?_ | refine xl ?_ ?_ | refine xd ?_ ?_ | refine xy ?_ ?_ | refine xL ?_ ?_ | refine xD ?_ ?_ | apply xx); omega | apply Xm | apply Xe | refine Xg (by assumption) ?_) | refine Xo (by assumption) ?_ | refine x_0 (by first | assumption | rfl) ?_ | refine x_1 (by first | assumption | rfl) ?_ | refine Or.inl ⟨rfl, ?_⟩ | (split <;> (first | (rename_i u h; clear u) | rename_i h) <;> (try rewrite [h]) <;> (first | replace h := dt h | replace h := df h | replace h := Nt h | replace h := Nf h | skip) <;> (try dsimp only at h) <;> (first | contradiction | (exfalso; omega) | skip)) | (refine Or.inl ⟨_, by assumption, ?_⟩; first | rintro _ rfl | skip))
      all_goals (conv => whnf)
      all_goals first | exact ⟨_, roTo2 rfl rfl, rfl⟩ | exact ⟨_, roTo2 (show RoTo .nils (.ro 1 []) from ⟨1, rfl⟩) rfl, rfl⟩
theorem c_r10_Shape (l : List Nd) (x : Nd) (hx : x.Sm) (hl : ∀ y ∈ l, y.Sm) :
    VCall Go.Proofs.Tryz.prog gl 19 [.ro 8 (rowN l), .agg x.cells] (fun y => y = .tup [.ro 1 (rowZ (refN l x).1), .bool (refN l x).2]) := by
  rcases opc_cases x.op with ⟨o, ho⟩ | hn
  · cases hf : fitN l x o.many with
    | false => rw [refN_bad (by rw [ho]; exact opc_many o) hf]; exact c_r10_Shape_no gl l x o ho hf hx
    | true => exact c_r10_Shape_yes gl l x o ho hf hx hl
  · rw [refN_none hn]
    have hp := c_r10_Parts gl x.op
    rw [partsZ, hn] at hp
    refine VCall.taken ?_
    refine vcall_of TOK_r10_Shape HM Go.Proofs.Tryz.func19 rfl (by decide +kernel) (by decide +kernel) rfl ?_
    repeat' ((conv => whnf); first | ((with_reducible refine Xq ?_ ?_); assumption) | (with_reducible first | apply Xa | (first | apply xi | apply xu | apply x8 | apply x3 | apply xn | apply xp | apply xP | refine xs ?_ ?_ | refine xS ?_ ?_ | refine xZ ?_ ?_ | refine xl ?_ ?_ | refine xd ?_ ?_ | refine xy ?_ ?_ | refine xL ?_ ?_ | refine xD ?_ ?_ | apply xx); omega | apply Xm | apply Xe | refine Xg (by assumption) ?_) | refine Xo (by assumption) ?_ | refine x_0 (by first | assumption | rfl) ?_ | refine x_1 (by first | assumption | rfl) ?_ | refine Or.inl ⟨rfl, ?_⟩ | (split <;> (first | (rename_i u h; clear u) | rename_i h) <;> (try rewrite [h]) <;> (first | replace h := dt h | replace h := df h | replace h := Nt h | replace h := Nf h | skip) <;> (try dsimp only at h) <;> (first | contradiction | (exfalso; omega) | skip)) | (refine Or.inl ⟨_, by assumption, ?_⟩; first | rintro _ rfl | skip))
    all_goals (conv => whnf)
    all_goals first | exact ⟨_, roTo2 rfl rfl, rfl⟩ | exact ⟨_, roTo2 (show RoTo .nils (.ro 1 []) from ⟨1, rfl⟩) rfl, rfl⟩
end Go.V
namespace Go.V
open Go.N
set_option maxRecDepth 20000
variable (gl : Gl)
def T_r10_Small : Tab := [(24, ⟨.strc [(0, 1, false), (1, 1, false)], 2, 32, (.agg #[(.slice none 0 0), (.int .i64 0)]), [8, 0]⟩), (22, ⟨.slice 43, 1, 24, (.slice none 0 0), [8]⟩), (43, ⟨.strc [(0, 1, false), (1, 1, false), (2, 1, false), (3, 1, false), (4, 1, false), (5, 1, false), (6, 1, false), (7, 1, false)], 8, 120, (.agg #[(.string .empty), (.int .i64 0), (.int .i64 0), (.string .empty), (.slice none 0 0), (.string .empty), (.int .i64 0), (.slice none 0 0)]), [0, 0, 0, 0, 1, 0, 0, 1]⟩), (3, ⟨.int .i64, 1, 8, (.int .i64 0), [0]⟩), (25, ⟨.slice 3, 1, 24, (.slice none 0 0), [1]⟩), (41, ⟨.slice 9, 1, 24, (.slice none 0 0), [1]⟩), (9, ⟨.str, 1, 16, (.string .empty), [0]⟩)]
theorem TOK_r10_Small : TOK Go.Proofs.Tryz.prog T_r10_Small := ⟨⟨info_of Go.Proofs.Tryz.type24 rfl, by decide +kernel, by decide +kernel⟩, ⟨⟨info_of Go.Proofs.Tryz.type22 rfl, by decide +kernel, by decide +kernel⟩, ⟨⟨info_of Go.Proofs.Tryz.type43 rfl, by decide +kernel, by decide +kernel⟩, ⟨⟨info_of Go.Proofs.Tryz.type3 rfl, by decide +kernel, by decide +kernel⟩, ⟨⟨info_of Go.Proofs.Tryz.type25 rfl, by decide +kernel, by decide +kernel⟩, ⟨⟨info_of Go.Proofs.Tryz.type41 rfl, by decide +kernel, by decide +kernel⟩, ⟨⟨info_of Go.Proofs.Tryz.type9 rfl, by decide +kernel, by decide +kernel⟩, trivial⟩⟩⟩⟩⟩⟩⟩
def T_r10_Same : Tab := [(43, ⟨.strc [(0, 1, false), (1, 1, false), (2, 1, false), (3, 1, false), (4, 1, false), (5, 1, false), (6, 1, false), (7, 1, false)], 8, 120, (.agg #[(.string .empty), (.int .i64 0), (.int .i64 0), (.string .empty), (.slice none 0 0), (.string .empty), (.int .i64 0), (.slice none 0 0)]), [0, 0, 0, 0, 1, 0, 0, 1]⟩), (9, ⟨.str, 1, 16, (.string .empty), [0]⟩), (3, ⟨.int .i64, 1, 8, (.int .i64 0), [0]⟩), (25, ⟨.slice 3, 1, 24, (.slice none 0 0), [1]⟩), (4, ⟨.bool, 1, 1, (.bool false), [0]⟩), (41, ⟨.slice 9, 1, 24, (.slice none 0 0), [1]⟩)]
theorem TOK_r10_Same : TOK Go.Proofs.Tryz.prog T_r10_Same := ⟨⟨info_of Go.Proofs.Tryz.type43 rfl, by decide +kernel, by decide +kernel⟩, ⟨⟨info_of Go.Proofs.Tryz.type9 rfl, by decide +kernel, by decide +kernel⟩, ⟨⟨info_of Go.Proofs.Tryz.type3 rfl, by decide +kernel, by decide +kernel⟩, ⟨⟨info_of Go.Proofs.Tryz.type25 rfl, by decide +kernel, by decide +kernel⟩, ⟨⟨info_of Go.Proofs.Tryz.type4 rfl, by decide +kernel, by decide +kernel⟩, ⟨⟨info_of Go.Proofs.Tryz.type41 rfl, by decide +kernel, by decide +kernel⟩, trivial⟩⟩⟩⟩⟩⟩
def T_r10_Equal : Tab := [(24, ⟨.strc [(0, 1, false), (1, 1, false)], 2, 32, (.agg #[(.slice none 0 0), (.int .i64 0)]), [8, 0]⟩), (3, ⟨.int .i64, 1, 8, (.int .i64 0), [0]⟩), (22, ⟨.slice 43, 1, 24, (.slice none 0 0), [8]⟩), (43, ⟨.strc [(0, 1, false), (1, 1, false), (2, 1, false), (3, 1, false), (4, 1, false), (5, 1, false), (6, 1, false), (7, 1, false)], 8, 120, (.agg #[(.string .empty), (.int .i64 0), (.int .i64 0), (.string .empty), (.slice none 0 0), (.string .empty), (.int .i64 0), (.slice none 0 0)]), [0, 0, 0, 0, 1, 0, 0, 1]⟩), (4, ⟨.bool, 1, 1, (.bool false), [0]⟩)]
theorem TOK_r10_Equal : TOK Go.Proofs.Tryz.prog T_r10_Equal := ⟨⟨info_of Go.Proofs.Tryz.type24 rfl, by decide +kernel, by decide +kernel⟩, ⟨⟨info_of Go.Proofs.Tryz.type3 rfl, by decide +kernel, by decide +kernel⟩, ⟨⟨info_of Go.Proofs.Tryz.type22 rfl, by decide +kernel, by decide +kernel⟩, ⟨⟨info_of Go.Proofs.Tryz.type43 rfl, by decide +kernel, by decide +kernel⟩, ⟨⟨info_of Go.Proofs.Tryz.type4 rfl, by decide +kernel, by decide +kernel⟩, trivial⟩⟩⟩⟩⟩
def smallS (s : ByteArray) : Bool := decide (s.size ≤ 30)
def smallN (x : Nd) : Bool := decide (x.shape.length ≤ 10) && decide (x.data.length ≤ 70) && decide (x.k.size ≤ 30) && decide (x.name.size ≤ 30) && x.data.all smallS
def smallG (g : Gr) : Bool := decide (g.nodes.length ≤ 40) && g.nodes.all smallN
theorem all_bad {α : Type} {l : List α} {p : α → Bool} {i : Nat} (h : i < l.length) (hp : p l[i] = false) : l.all p = false := List.all_eq_false.2 ⟨_, List.getElem_mem h, by simp [hp]⟩
theorem all_snoc {α : Type} {l : List α} {p : α → Bool} {i : Nat} (h : i < l.length) (ha : (l.take i).all p = true) (hp : p l[i] = true) : (l.take (i + 1)).all p = true := by
  rw [List.take_succ_eq_append_getElem h, List.all_append, ha]; simp [hp]
theorem smallN_sm {x : Nd} (h : smallN x = true) : x.Sm := by
  simp only [smallN, Bool.and_eq_true, decide_eq_true_eq, List.all_eq_true] at h
  exact ⟨by omega, by omega, by omega, by omega, fun d hd => by have := h.2 d hd; simp only [smallS, decide_eq_true_eq] at this; omega⟩
set_option maxHeartbeats 4000000 in
theorem c_r10_Small (g : Gr) : VCall Go.Proofs.Tryz.prog gl 5 [.agg g.cells] (fun x => x = .bool (smallG g)) := by
  obtain ⟨l, loss⟩ := g
  have hl : (rowN l).length = l.length := rowN_length l
  by_cases h40 : l.length ≤ 40
  · have hb : l.all smallN = false → smallG ⟨l, loss⟩ = false := fun h => by simp [smallG, h]
    have ho : l.all smallN = true → smallG ⟨l, loss⟩ = true := fun h => by simp [smallG, h, h40]
    generalize smallG ⟨l, loss⟩ = T at hb ho ⊢
    refine vcall_of TOK_r10_Small HM Go.Proofs.Tryz.func5 rfl (by decide +kernel) (by decide +kernel) rfl ?_
    repeat' ((conv => whnf); first | ((with_reducible refine Xq ?_ ?_); assumption) | (with_reducible first | apply Xa | (first | apply xi | apply xu | apply x8 | apply x3 | apply xn | apply xp | apply xP | refine xs ?_ ?_ | refine xS ?_ ?_ | refine xZ ?_ ?_ | refine xl ?_ ?_ | refine xd ?_ ?_ | refine xy ?_ ?_ | refine xL ?_ ?_ | refine xD ?_ ?_ | apply xx); omega | apply Xm | apply Xe | refine Xg (by assumption) ?_) | refine Xo (by assumption) ?_ | refine x_0 (by first | assumption | rfl) ?_ | refine x_1 (by first | assumption | rfl) ?_ | refine Or.inl ⟨rfl, ?_⟩ | (split <;> (first | (rename_i u h; clear u) | rename_i h) <;> (try rewrite [h]) <;> (first | replace h := dt h | replace h := df h | replace h := Nt h | replace h := Nf h | skip) <;> (try dsimp only at h) <;> (first | contradiction | (exfalso; omega) | skip)) | (refine Or.inl ⟨_, by assumption, ?_⟩; first | rintro _ rfl | skip))
    refine ⟨[12, 13, 14], [], fun m st => ∃ i : Nat, i ≤ l.length ∧ m = l.length - i ∧ (l.take i).all smallN = true ∧
      st = ⟨[(12, .ro 8 (rowN l)), (13, .int .i64 ((rowN l).length : Nat)), (14, .int .i64 (i : Nat))], []⟩, rfl, ⟨l.length, 0, by omega, rfl, rfl, rfl⟩, ?_⟩
    rintro m _ ⟨i, hi, hm, ha, rfl⟩
    rcases Nat.lt_or_ge i l.length with hil | hge
    · obtain ⟨x, hx⟩ : ∃ x, x = l[i] := ⟨_, rfl⟩
      have g : (rowN l)[i]? = some x.cells := by rw [hx]; exact rowN_get hil
      have hbad : smallN x = false → T = false := fun h => hb (all_bad hil (by rw [← hx]; exact h))
      have hstep : smallN x = true → (l.take (i + 1)).all smallN = true := fun h => all_snoc hil ha (by rw [← hx]; exact h)
      clear hx
      obtain ⟨op, a, b, name, shape, k, n, data⟩ := x
      have hls : (rowZ shape).length = shape.length := rowZ_length shape
      have hld : (rowS data).length = data.length := rowS_length data
      by_cases hpre : shape.length ≤ 10 ∧ data.length ≤ 70 ∧ k.size ≤ 30 ∧ name.size ≤ 30
      · obtain ⟨h1, h2, h3, h4⟩ := hpre
        have hb2 : data.all smallS = false → T = false := fun h => hbad (by simp [smallN, h])
        have ho2 : data.all smallS = true → (l.take (i + 1)).all smallN = true := fun h => hstep (by simp [smallN, h, h1, h2, h3, h4])
        repeat' ((conv => whnf); first | ((with_reducible refine Xq ?_ ?_); assumption) | (with_reducible first | apply Xa | (first | apply xi | apply xu | apply x8 | apply x3 | apply xn | apply xp | apply xP | refine xs ?_ ?_ | refine xS ?_ ?_ | refine xZ ?_ ?_ | refine xl ?_ ?_ | refine xd ?_ ?_ | refine xy ?_ ?_ | refine xL ?_ ?_ | refine xD ?_ ?_ | apply xx); omega | apply Xm | apply Xe | refine Xg (by assumption) ?_) | refine Xo (by assumption) ?_ | refine x_0 (by first | assumption | rfl) ?_ | refine x_1 (by first | assumption | rfl) ?_ | refine Or.inl ⟨rfl, ?_⟩ | (split <;> (first | (rename_i u h; clear u) | rename_i h) <;> (try rewrite [h]) <;> (first | replace h := dt h | replace h := df h | replace h := Nt h | replace h := Nf h | skip) <;> (try dsimp only at h) <;> (first | contradiction | (exfalso; omega) | skip)) | (refine Or.inl ⟨_, by assumption, ?_⟩; first | rintro _ rfl | skip))
        refine ⟨[12, 13, 14, 41, 42, 43], [], fun m st => ∃ j : Nat, j ≤ data.length ∧ m = data.length - j ∧ (data.take j).all smallS = true ∧
          st = ⟨[(12, .ro 8 (rowN l)), (13, .int .i64 ((rowN l).length : Nat)), (14, .int .i64 (i : Nat)), (41, .ro 1 (rowS data)), (42, .int .i64 ((rowS data).length : Nat)), (43, .int .i64 (j : Nat))], []⟩, rfl, ⟨data.length, 0, by omega, rfl, rfl, rfl⟩, ?_⟩
        rintro m2 _ ⟨j, hj, hm2, ha2, rfl⟩
        rcases Nat.lt_or_ge j data.length with hjl | hge
        · have g2 := rowS_get hjl
          by_cases hs : data[j].size ≤ 30
          · repeat' ((conv => whnf); first | ((with_reducible refine Xq ?_ ?_); assumption) | (with_reducible first | apply Xa | (first | apply xi | apply xu | apply x8 | apply x3 | apply xn | apply xp | apply xP | refine xs ?_ ?_ | refine xS ?_ ?_ | refine xZ ?_ ?_ | refine xl ?_ ?_ | refine xd ?_ ?_ | refine xy ?_ ?_ | refine xL ?_ ?_ | refine xD ?_ ?_ | apply xx); omega | apply Xm | apply Xe | refine Xg (by assumption) ?_) | refine Xo (by assumption) ?_ | refine x_0 (by first | assumption | rfl) ?_ | refine x_1 (by first | assumption | rfl) ?_ | refine Or.inl ⟨rfl, ?_⟩ | (split <;> (first | (rename_i u h; clear u) | rename_i h) <;> (try rewrite [h]) <;> (first | replace h := dt h | replace h := df h | replace h := Nt h | replace h := Nf h | skip) <;> (try dsimp only at h) <;> (first | contradiction | (exfalso; omega) | skip)) | (refine Or.inl ⟨_, by assumption, ?_⟩; first | rintro _ rfl | skip))
            exact ⟨[], data.length - (j + 1), rfl, by omega, j + 1, by omega, rfl, all_snoc hjl ha2 (by simp [smallS, hs]), rfl⟩
          · rw [hb2 (all_bad hjl (by simp [smallS, hs]))]
            repeat' ((conv => whnf); first | ((with_reducible refine Xq ?_ ?_); assumption) | (with_reducible first | apply Xa | (first | apply xi | apply xu | apply x8 | apply x3 | apply xn | apply xp | apply xP | refine xs ?_ ?_ | refine xS ?_ ?_ | refine xZ ?_ ?_ | refine xl ?_ ?_ | refine xd ?_ ?_ | refine xy ?_ ?_ | refine xL ?_ ?_ | refine xD ?_ ?_ | apply xx); omega | apply Xm | apply Xe | refine Xg (by assumption) ?_) | refine Xo (by assumption) ?_ | refine x_0 (by first | assumption | rfl) ?_ | refine x_1 (by first | assumption | rfl) ?_ | refine Or.inl ⟨rfl, ?_⟩ | (split <;> (first | (rename_i u h; clear u) | rename_i h) <;> (try rewrite [h]) <;> (first | replace h := dt h | replace h := df h | replace h := Nt h | replace h := Nf h | skip) <;> (try dsimp only at h) <;> (first | contradiction | (exfalso; omega) | skip)) | (refine Or.inl ⟨_, by assumption, ?_⟩; first | rintro _ rfl | skip))
            all_goals (conv => whnf)
            rfl
        · rw [List.take_of_length_le (by omega)] at ha2
          repeat' ((conv => whnf); first | ((with_reducible refine Xq ?_ ?_); assumption) | (with_reducible first | apply Xa | (first | apply xi | apply xu | apply x8 | apply x3 | apply xn | apply xp | apply xP | refine xs ?_ ?_ | refine xS ?_ ?_ | refine xZ ?_ ?_ | refine xl ?_ ?_ | refine xd ?_ ?_ | refine xy ?_ ?_ | refine xL ?_ ?_ | refine xD ?_ ?_ | apply xx); omega | apply Xm | apply Xe | refine Xg (by assumption) ?_) | refine Xo (by assumption) ?_ | refine x_0 (by first | assumption | rfl) ?_ | refine x_1 (by first | assumption | rfl) ?_ | refine Or.inl ⟨rfl, ?_⟩ | (split <;> (first | (rename_i u h; clear u) | rename_i h) <;> (try rewrite [h]) <;> (first | replace h := dt h | replace h := df h | replace h := Nt h | replace h := Nf h | skip) <;> (try dsimp only at h) <;> (first | contradiction | (exfalso; omega) | skip)) | (refine Or.inl ⟨_, by assumption, ?_⟩; first | rintro _ rfl | skip))
          exact ⟨[], l.length - (i + 1), rfl, by omega, i + 1, by omega, rfl, ho2 ha2, rfl⟩
      · rw [hbad (by
          rw [Bool.eq_false_iff]; simp only [smallN, ne_eq, Bool.and_eq_true, decide_eq_true_eq]; intro e; exact hpre ⟨e.1.1.1.1, e.1.1.1.2, e.1.1.2, e.1.2⟩)]
        repeat' ((conv => whnf); first | ((with_reducible refine Xq ?_ ?_); assumption) | (with_reducible first | apply Xa | (first | apply xi | apply xu | apply x8 | apply x3 | apply xn | apply xp | apply xP | refine xs ?_ ?_ | refine xS ?_ ?_ | refine xZ ?_ ?_ | refine xl ?_ ?_ | refine xd ?_ ?_ | refine xy ?_ ?_ | refine xL ?_ ?_ | refine xD ?_ ?_ | apply xx); omega | apply Xm | apply Xe | refine Xg (by assumption) ?_) | refine Xo (by assumption) ?_ | refine x_0 (by first | assumption | rfl) ?_ | refine x_1 (by first | assumption | rfl) ?_ | refine Or.inl ⟨rfl, ?_⟩ | (split <;> (first | (rename_i u h; clear u) | rename_i h) <;> (try rewrite [h]) <;> (first | replace h := dt h | replace h := df h | replace h := Nt h | replace h := Nf h | skip) <;> (try dsimp only at h) <;> (first | contradiction | (exfalso; omega) | skip)) | (refine Or.inl ⟨_, by assumption, ?_⟩; first | rintro _ rfl | skip))
        all_goals first | ((conv => whnf); rfl) | omega
    · rw [List.take_of_length_le (by omega)] at ha
      rw [ho ha]
      repeat' ((conv => whnf); first | ((with_reducible refine Xq ?_ ?_); assumption) | (with_reducible first | apply Xa | (first | apply xi | apply xu | apply x8 | apply x3 | apply xn | apply xp | apply xP | refine xs ?_ ?_ | refine xS ?_ ?_ | refine xZ ?_ ?_ | refine xl ?_ ?_ | refine xd ?_ ?_ | refine xy ?_ ?_ | refine xL ?_ ?_ | refine xD ?_ ?_ | apply xx); omega | apply Xm | apply Xe | refine Xg (by assumption) ?_) | refine Xo (by assumption) ?_ | refine x_0 (by first | assumption | rfl) ?_ | refine x_1 (by first | assumption | rfl) ?_ | refine Or.inl ⟨rfl, ?_⟩ | (split <;> (first | (rename_i u h; clear u) | rename_i h) <;> (try rewrite [h]) <;> (first | replace h := dt h | replace h := df h | replace h := Nt h | replace h := Nf h | skip) <;> (try dsimp only at h) <;> (first | contradiction | (exfalso; omega) | skip)) | (refine Or.inl ⟨_, by assumption, ?_⟩; first | rintro _ rfl | skip))
      all_goals (conv => whnf)
      rfl
  · rw [show smallG ⟨l, loss⟩ = false by simp [smallG, h40]]
    refine vcall_of TOK_r10_Small HM Go.Proofs.Tryz.func5 rfl (by decide +kernel) (by decide +kernel) rfl ?_
    repeat' ((conv => whnf); first | ((with_reducible refine Xq ?_ ?_); assumption) | (with_reducible first | apply Xa | (first | apply xi | apply xu | apply x8 | apply x3 | apply xn | apply xp | apply xP | refine xs ?_ ?_ | refine xS ?_ ?_ | refine xZ ?_ ?_ | refine xl ?_ ?_ | refine xd ?_ ?_ | refine xy ?_ ?_ | refine xL ?_ ?_ | refine xD ?_ ?_ | apply xx); omega | apply Xm | apply Xe | refine Xg (by assumption) ?_) | refine Xo (by assumption) ?_ | refine x_0 (by first | assumption | rfl) ?_ | refine x_1 (by first | assumption | rfl) ?_ | refine Or.inl ⟨rfl, ?_⟩ | (split <;> (first | (rename_i u h; clear u) | rename_i h) <;> (try rewrite [h]) <;> (first | replace h := dt h | replace h := df h | replace h := Nt h | replace h := Nf h | skip) <;> (try dsimp only at h) <;> (first | contradiction | (exfalso; omega) | skip)) | (refine Or.inl ⟨_, by assumption, ?_⟩; first | rintro _ rfl | skip))
    all_goals (conv => whnf)
    rfl
open Classical in
set_option maxHeartbeats 4000000 in
theorem c_r10_Same (x y : Nd) (hx : x.Sm) (hy : y.Sm) : VCall Go.Proofs.Tryz.prog gl 21 [.agg x.cells, .agg y.cells] (fun r => r = .bool (decide (x = y))) := by
  obtain ⟨op, a, b, name, shape, k, n, data⟩ := x
  obtain ⟨op2, a2, b2, name2, shape2, k2, n2, data2⟩ := y
  have hsame := c_r04_Same gl shape shape2 (Nat.lt_of_le_of_lt hx.shape (by decide)) (Nat.lt_of_le_of_lt hy.shape (by decide))
  have hld : (rowS data).length = data.length := rowS_length data
  have hld2 : (rowS data2).length = data2.length := rowS_length data2
  have hdl : data.length ≤ 1000 := hx.data
  by_cases hpre : op = op2 ∧ a = a2 ∧ b = b2 ∧ name = name2 ∧ k = k2 ∧ n = n2 ∧ shape = shape2 ∧ data.length = data2.length
  · obtain ⟨rfl, rfl, rfl, rfl, rfl, rfl, rfl, hdd⟩ := hpre
    have hT : decide ((⟨op, a, b, name, shape, k, n, data⟩ : Nd) = ⟨op, a, b, name, shape, k, n, data2⟩) = decide (data = data2) := by
      rw [Bool.eq_iff_iff, decide_eq_true_eq, decide_eq_true_eq]
      exact ⟨fun e => by injection e, fun e => by rw [e]⟩
    rw [hT]
    rw [decide_eq_true (rfl : shape = shape)] at hsame
    clear hT hx hy
    refine vcall_of TOK_r10_Same HM Go.Proofs.Tryz.func21 rfl (by decide +kernel) (by decide +kernel) rfl ?_
    repeat' ((conv => whnf); first | ((with_reducible refine Xq ?_ ?_); assumption) | (with_reducible first | apply Xa | (first | apply xi | apply xu | apply x8 | apply x3 | apply xn | apply xp | apply xP | refine xs ?_ ?_ | refine xS ?_ ?_ | refine xZ ?_ ?_ | refine xl ?_ ?_ | refine xd ?_ ?_ | refine xy ?_ ?_ | refine xL ?_ ?_ | refine xD ?_ ?_ | apply xx); omega | apply Xm | apply Xe | refine Xg (by assumption) ?_) | refine Xo (by assumption) ?_ | refine x_0 (by first | assumption | rfl) ?_ | refine x_1 (by first | assumption | rfl) ?_ | refine Or.inl ⟨rfl, ?_⟩ | (split <;> (first | (rename_i u h; clear u) | rename_i h) <;> (try rewrite [h]) <;> (first | replace h := dt h | replace h := df h | replace h := Nt h | replace h := Nf h | skip) <;> (try dsimp only at h) <;> (first | contradiction | (exfalso; omega) | skip)) | (refine Or.inl ⟨_, by assumption, ?_⟩; first | rintro _ rfl | skip))
    refine ⟨[2, 3, 5], [0, 1], fun m st => ∃ i : Nat, i ≤ data.length ∧ m = data.length - i ∧ data.take i = data2.take i ∧
      st = ⟨[(2, .bptr 0 0), (3, .bptr 1 0), (5, .int .i64 (i : Nat))], [.box 43 (Nd.cells ⟨op, a, b, name, shape, k, n, data⟩), .box 43 (Nd.cells ⟨op, a, b, name, shape, k, n, data2⟩)]⟩, rfl, ⟨data.length, 0, by omega, rfl, rfl, rfl⟩, ?_⟩
    rintro m _ ⟨i, hi, hm, ha, rfl⟩
    rcases Nat.lt_or_ge i data.length with hil | hge
    · have hil2 : i < data2.length := by omega
      have g := rowS_get hil
      have g2 := rowS_get hil2
      by_cases he : data[i] = data2[i]
      · repeat' ((conv => whnf); first | ((with_reducible refine Xq ?_ ?_); assumption) | (with_reducible first | apply Xa | (first | apply xi | apply xu | apply x8 | apply x3 | apply xn | apply xp | apply xP | refine xs ?_ ?_ | refine xS ?_ ?_ | refine xZ ?_ ?_ | refine xl ?_ ?_ | refine xd ?_ ?_ | refine xy ?_ ?_ | refine xL ?_ ?_ | refine xD ?_ ?_ | apply xx); omega | apply Xm | apply Xe | refine Xg (by assumption) ?_) | refine Xo (by assumption) ?_ | refine x_0 (by first | assumption | rfl) ?_ | refine x_1 (by first | assumption | rfl) ?_ | refine Or.inl ⟨rfl, ?_⟩ | (split <;> (first | (rename_i u h; clear u) | rename_i h) <;> (try rewrite [h]) <;> (first | replace h := dt h | replace h := df h | replace h := Nt h | replace h := Nf h | skip) <;> (try dsimp only at h) <;> (first | contradiction | (exfalso; omega) | skip)) | (refine Or.inl ⟨_, by assumption, ?_⟩; first | rintro _ rfl | skip))
        refine ⟨by decide +kernel, [0, 1, 0, 7, 15, 0, 32, 0, 224, 480, 1023], by decide +kernel, ?_⟩
        repeat' ((conv => whnf); first | ((with_reducible refine Xq ?_ ?_); assumption) | (with_reducible first | apply Xa | (first | apply xi | apply xu | apply x8 | apply x3 | apply xn | apply xp | apply xP | refine xs ?_ ?_ | refine xS ?_ ?_ | refine xZ ?_ ?_ | refine xl ?_ ?_ | refine xd ?_ ?_ | refine xy ?_ ?_ | refine xL ?_ ?_ | refine xD ?_ ?_ | apply xx); omega | apply Xm | apply Xe | refine Xg (by assumption) ?_) | refine Xo (by assumption) ?_ | refine x_0 (by first | assumption | rfl) ?_ | refine x_1 (by first | assumption | rfl) ?_ | refine Or.inl ⟨rfl, ?_⟩ | (split <;> (first | (rename_i u h; clear u) | rename_i h) <;> (try rewrite [h]) <;> (first | replace h := dt h | replace h := df h | replace h := Nt h | replace h := Nf h | skip) <;> (try dsimp only at h) <;> (first | contradiction | (exfalso; omega) | skip)) | (refine Or.inl ⟨_, by assumption, ?_⟩; first | rintro _ rfl | skip))
        exact ⟨[0, 1], data.length - (i + 1), rfl, by omega, i + 1, by omega, rfl, take_ext hil hil2 ha he, rfl⟩
      · rw [decide_eq_false (fun e : data = data2 => he (by subst e; rfl))]
        repeat' ((conv => whnf); first | ((with_reducible refine Xq ?_ ?_); assumption) | (with_reducible first | apply Xa | (first | apply xi | apply xu | apply x8 | apply x3 | apply xn | apply xp | apply xP | refine xs ?_ ?_ | refine xS ?_ ?_ | refine xZ ?_ ?_ | refine xl ?_ ?_ | refine xd ?_ ?_ | refine xy ?_ ?_ | refine xL ?_ ?_ | refine xD ?_ ?_ | apply xx); omega | apply Xm | apply Xe | refine Xg (by assumption) ?_) | refine Xo (by assumption) ?_ | refine x_0 (by first | assumption | rfl) ?_ | refine x_1 (by first | assumption | rfl) ?_ | refine Or.inl ⟨rfl, ?_⟩ | (split <;> (first | (rename_i u h; clear u) | rename_i h) <;> (try rewrite [h]) <;> (first | replace h := dt h | replace h := df h | replace h := Nt h | replace h := Nf h | skip) <;> (try dsimp only at h) <;> (first | contradiction | (exfalso; omega) | skip)) | (refine Or.inl ⟨_, by assumption, ?_⟩; first | rintro _ rfl | skip))
        refine ⟨by decide +kernel, [0, 1, 0, 7, 15, 0, 32, 0, 224, 480, 1023], by decide +kernel, ?_⟩
        repeat' ((conv => whnf); first | ((with_reducible refine Xq ?_ ?_); assumption) | (with_reducible first | apply Xa | (first | apply xi | apply xu | apply x8 | apply x3 | apply xn | apply xp | apply xP | refine xs ?_ ?_ | refine xS ?_ ?_ | refine xZ ?_ ?_ | refine xl ?_ ?_ | refine xd ?_ ?_ | refine xy ?_ ?_ | refine xL ?_ ?_ | refine xD ?_ ?_ | apply xx); omega | apply Xm | apply Xe | refine Xg (by assumption) ?_) | refine Xo (by assumption) ?_ | refine x_0 (by first | assumption | rfl) ?_ | refine x_1 (by first | assumption | rfl) ?_ | refine Or.inl ⟨rfl, ?_⟩ | (split <;> (first | (rename_i u h; clear u) | rename_i h) <;> (try rewrite [h]) <;> (first | replace h := dt h | replace h := df h | replace h := Nt h | replace h := Nf h | skip) <;> (try dsimp only at h) <;> (first | contradiction | (exfalso; omega) | skip)) | (refine Or.inl ⟨_, by assumption, ?_⟩; first | rintro _ rfl | skip))
        all_goals (conv => whnf)
        rfl
    · rw [List.take_of_length_le (by omega), List.take_of_length_le (by omega)] at ha
      rw [decide_eq_true ha]
      repeat' ((conv => whnf); first | ((with_reducible refine Xq ?_ ?_); assumption) | (with_reducible first | apply Xa | (first | apply xi | apply xu | apply x8 | apply x3 | apply xn | apply xp | apply xP | refine xs ?_ ?_ | refine xS ?_ ?_ | refine xZ ?_ ?_ | refine xl ?_ ?_ | refine xd ?_ ?_ | refine xy ?_ ?_ | refine xL ?_ ?_ | refine xD ?_ ?_ | apply xx); omega | apply Xm | apply Xe | refine Xg (by assumption) ?_) | refine Xo (by assumption) ?_ | refine x_0 (by first | assumption | rfl) ?_ | refine x_1 (by first | assumption | rfl) ?_ | refine Or.inl ⟨rfl, ?_⟩ | (split <;> (first | (rename_i u h; clear u) | rename_i h) <;> (try rewrite [h]) <;> (first | replace h := dt h | replace h := df h | replace h := Nt h | replace h := Nf h | skip) <;> (try dsimp only at h) <;> (first | contradiction | (exfalso; omega) | skip)) | (refine Or.inl ⟨_, by assumption, ?_⟩; first | rintro _ rfl | skip))
      all_goals (conv => whnf)
      rfl
  · rw [decide_eq_false (fun e => hpre (by cases e; exact ⟨rfl, rfl, rfl, rfl, rfl, rfl, rfl, rfl⟩))]
    refine vcall_of TOK_r10_Same HM Go.Proofs.Tryz.func21 rfl (by decide +kernel) (by decide +kernel) rfl ?_
    repeat' ((conv => whnf); first | ((with_reducible refine Xq ?_ ?_); assumption) | (with_reducible first | apply Xa | (first | apply xi | apply xu | apply x8 | apply x3 | apply xn | apply xp | apply xP | refine xs ?_ ?_ | refine xS ?_ ?_ | refine xZ ?_ ?_ | refine xl ?_ ?_ | refine xd ?_ ?_ | refine xy ?_ ?_ | refine xL ?_ ?_ | refine xD ?_ ?_ | apply xx); omega | apply Xm | apply Xe | refine Xg (by assumption) ?_) | refine Xo (by assumption) ?_ | refine x_0 (by first | assumption | rfl) ?_ | refine x_1 (by first | assumption | rfl) ?_ | refine Or.inl ⟨rfl, ?_⟩ | (split <;> (first | (rename_i u h; clear u) | rename_i h) <;> (try rewrite [h]) <;> (first | replace h := dt h | replace h := df h | replace h := Nt h | replace h := Nf h | skip) <;> (try dsimp only at h) <;> (first | contradiction | (exfalso; omega) | skip)) | (refine Or.inl ⟨_, by assumption, ?_⟩; first | rintro _ rfl | skip))
    all_goals first | ((conv => whnf); rfl) | (clear hsame hx hy; exfalso; apply hpre; simp_all; done) | (clear hsame hx hy; exfalso; apply hpre; simp_all; omega)
theorem Gr.ext' {g h : Gr} (h1 : g.loss = h.loss) (h2 : g.nodes = h.nodes) : g = h := by cases g; cases h; simp_all
open Classical in
set_option maxHeartbeats 4000000 in
theorem c_r10_Equal (g h : Gr) (hg : ∀ x ∈ g.nodes, x.Sm) (hh : ∀ x ∈ h.nodes, x.Sm) (hgl : g.nodes.length ≤ 1000) : VCall Go.Proofs.Tryz.prog gl 12 [.agg g.cells, .agg h.cells] (fun r => r = .bool (decide (g = h))) := by
  obtain ⟨l, p⟩ := g
  obtain ⟨l2, p2⟩ := h
  have hld : (rowN l).length = l.length := rowN_length l
  have hld2 : (rowN l2).length = l2.length := rowN_length l2
  dsimp only at hg hh hgl
  by_cases hpre : p = p2 ∧ l.length = l2.length
  · obtain ⟨rfl, hdd⟩ := hpre
    have hT : decide ((⟨l, p⟩ : Gr) = ⟨l2, p⟩) = decide (l = l2) := by
      rw [Bool.eq_iff_iff, decide_eq_true_eq, decide_eq_true_eq]
      exact ⟨fun e => by injection e, fun e => by rw [e]⟩
    rw [hT]
    clear hT
    refine vcall_of TOK_r10_Equal HM Go.Proofs.Tryz.func12 rfl (by decide +kernel) (by decide +kernel) rfl ?_
    repeat' ((conv => whnf); first | ((with_reducible refine Xq ?_ ?_); assumption) | (with_reducible first | apply Xa | (first | apply xi | apply xu | apply x8 | apply x3 | apply xn | apply xp | apply xP | refine xs ?_ ?_ | refine xS ?_ ?_ | refine xZ ?_ ?_ | refine xl ?_ ?_ | refine xd ?_ ?_ | refine xy ?_ ?_ | refine xL ?_ ?_ | refine xD ?_ ?_ | apply xx); omega | apply Xm | apply Xe | refine Xg (by assumption) ?_) | refine Xo (by assumption) ?_ | refine x_0 (by first | assumption | rfl) ?_ | refine x_1 (by first | assumption | rfl) ?_ | refine Or.inl ⟨rfl, ?_⟩ | (split <;> (first | (rename_i u h; clear u) | rename_i h) <;> (try rewrite [h]) <;> (first | replace h := dt h | replace h := df h | replace h := Nt h | replace h := Nf h | skip) <;> (try dsimp only at h) <;> (first | contradiction | (exfalso; omega) | skip)) | (refine Or.inl ⟨_, by assumption, ?_⟩; first | rintro _ rfl | skip))
    refine ⟨[2, 3, 5], [0, 1], fun m st => ∃ i : Nat, i ≤ l.length ∧ m = l.length - i ∧ l.take i = l2.take i ∧
      st = ⟨[(2, .bptr 0 0), (3, .bptr 1 0), (5, .int .i64 (i : Nat))], [.box 24 (Gr.cells ⟨l, p⟩), .box 24 (Gr.cells ⟨l2, p⟩)]⟩, rfl, ⟨l.length, 0, by omega, rfl, rfl, rfl⟩, ?_⟩
    rintro m _ ⟨i, hi, hm, ha, rfl⟩
    rcases Nat.lt_or_ge i l.length with hil | hge
    · have hil2 : i < l2.length := by omega
      have g := rowN_get hil
      have g2 := rowN_get hil2
      have hs := c_r10_Same gl l[i] l2[i] (hg _ (List.getElem_mem hil)) (hh _ (List.getElem_mem hil2))
      by_cases he : l[i] = l2[i]
      · rw [decide_eq_true he] at hs
        repeat' ((conv => whnf); first | ((with_reducible refine Xq ?_ ?_); assumption) | (with_reducible first | apply Xa | (first | apply xi | apply xu | apply x8 | apply x3 | apply xn | apply xp | apply xP | refine xs ?_ ?_ | refine xS ?_ ?_ | refine xZ ?_ ?_ | refine xl ?_ ?_ | refine xd ?_ ?_ | refine xy ?_ ?_ | refine xL ?_ ?_ | refine xD ?_ ?_ | apply xx); omega | apply Xm | apply Xe | refine Xg (by assumption) ?_) | refine Xo (by assumption) ?_ | refine x_0 (by first | assumption | rfl) ?_ | refine x_1 (by first | assumption | rfl) ?_ | refine Or.inl ⟨rfl, ?_⟩ | (split <;> (first | (rename_i u h; clear u) | rename_i h) <;> (try rewrite [h]) <;> (first | replace h := dt h | replace h := df h | replace h := Nt h | replace h := Nf h | skip) <;> (try dsimp only at h) <;> (first | contradiction | (exfalso; omega) | skip)) | (refine Or.inl ⟨_, by assumption, ?_⟩; first | rintro _ rfl | skip))
        refine ⟨by decide +kernel, [0, 1, 0, 7, 15, 0, 32, 0, 224, 480, 1023, 2047], by decide +kernel, ?_⟩
        repeat' ((conv => whnf); first | ((with_reducible refine Xq ?_ ?_); assumption) | (with_reducible first | apply Xa | (first | apply xi | apply xu | apply x8 | apply x3 | apply xn | apply xp | apply xP | refine xs ?_ ?_ | refine xS ?_ ?_ | refine xZ ?_ ?_ | refine xl ?_ ?_ | refine xd ?_ ?_ | refine xy ?_ ?_ | refine xL ?_ ?_ | refine xD ?_ ?_ | apply xx); omega | apply Xm | apply Xe | refine Xg (by assumption) ?_) | refine Xo (by assumption) ?_ | refine x_0 (by first | assumption | rfl) ?_ | refine x_1 (by first | assumption | rfl) ?_ | refine Or.inl ⟨rfl, ?_⟩ | (split <;> (first | (rename_i u h; clear u) | rename_i h) <;> (try rewrite [h]) <;> (first | replace h := dt h | replace h := df h | replace h := Nt h | replace h := Nf h | skip) <;> (try dsimp only at h) <;> (first | contradiction | (exfalso; omega) | skip)) | (refine Or.inl ⟨_, by assumption, ?_⟩; first | rintro _ rfl | skip))
        exact ⟨[0, 1], l.length - (i + 1), rfl, by omega, i + 1, by omega, rfl, take_ext hil hil2 ha he, rfl⟩
      · rw [decide_eq_false he] at hs
        rw [decide_eq_false (fun e : l = l2 => he (by subst e; rfl))]
        repeat' ((conv => whnf); first | ((with_reducible refine Xq ?_ ?_); assumption) | (with_reducible first | apply Xa | (first | apply xi | apply xu | apply x8 | apply x3 | apply xn | apply xp | apply xP | refine xs ?_ ?_ | refine xS ?_ ?_ | refine xZ ?_ ?_ | refine xl ?_ ?_ | refine xd ?_ ?_ | refine xy ?_ ?_ | refine xL ?_ ?_ | refine xD ?_ ?_ | apply xx); omega | apply Xm | apply Xe | refine Xg (by assumption) ?_) | refine Xo (by assumption) ?_ | refine x_0 (by first | assumption | rfl) ?_ | refine x_1 (by first | assumption | rfl) ?_ | refine Or.inl ⟨rfl, ?_⟩ | (split <;> (first | (rename_i u h; clear u) | rename_i h) <;> (try rewrite [h]) <;> (first | replace h := dt h | replace h := df h | replace h := Nt h | replace h := Nf h | skip) <;> (try dsimp only at h) <;> (first | contradiction | (exfalso; omega) | skip)) | (refine Or.inl ⟨_, by assumption, ?_⟩; first | rintro _ rfl | skip))
        refine ⟨by decide +kernel, [0, 1, 0, 7, 15, 0, 32, 0, 224, 480, 1023, 2047], by decide +kernel, ?_⟩
        repeat' ((conv => whnf); first | ((with_reducible refine Xq ?_ ?_); assumption) | (with_reducible first | apply Xa | (first | apply xi | apply xu | apply x8 | apply x3 | apply xn | apply xp | apply xP | refine xs ?_ ?_ | refine xS ?_ ?_ | refine xZ ?_ ?_ | refine xl ?_ ?_ | refine xd ?_ ?_ | refine xy ?_ ?_ | refine xL ?_ ?_ | refine xD ?_ ?_ | apply xx); omega | apply Xm | apply Xe | refine Xg (by assumption) ?_) | refine Xo (by assumption) ?_ | refine x_0 (by first | assumption | rfl) ?_ | refine x_1 (by first | assumption | rfl) ?_ | refine Or.inl ⟨rfl, ?_⟩ | (split <;> (first | (rename_i u h; clear u) | rename_i h) <;> (try rewrite [h]) <;> (first | replace h := dt h | replace h := df h | replace h := Nt h | replace h := Nf h | skip) <;> (try dsimp only at h) <;> (first | contradiction | (exfalso; omega) | skip)) | (refine Or.inl ⟨_, by assumption, ?_⟩; first | rintro _ rfl | skip))
        all_goals (conv => whnf)
        rfl
    · rw [List.take_of_length_le (by omega), List.take_of_length_le (by omega)] at ha
      rw [decide_eq_true ha]
      repeat' ((conv => whnf); first | ((with_reducible refine Xq ?_ ?_); assumption) | (with_reducible first | apply Xa | (first | apply xi | apply xu | apply x8 | apply x3 | apply xn | apply xp | apply xP | refine xs ?_ ?_ | refine xS ?_ ?_ | refine xZ ?_ ?_ | refine xl ?_ ?_ | refine xd ?_ ?_ | refine xy ?_ ?_ | refine xL ?_ ?_ | refine xD ?_ ?_ | apply xx); omega | apply Xm | apply Xe | refine Xg (by assumption) ?_) | refine Xo (by assumption) ?_ | refine x_0 (by first | assumption | rfl) ?_ | refine x_1 (by first | assumption | rfl) ?_ | refine Or.inl ⟨rfl, ?_⟩ | (split <;> (first | (rename_i u h; clear u) | rename_i h) <;> (try rewrite [h]) <;> (first | replace h := dt h | replace h := df h | replace h := Nt h | replace h := Nf h | skip) <;> (try dsimp only at h) <;> (first | contradiction | (exfalso; omega) | skip)) | (refine Or.inl ⟨_, by assumption, ?_⟩; first | rintro _ rfl | skip))
      all_goals (conv => whnf)
      rfl
  · rw [decide_eq_false (fun e => hpre (by cases e; exact ⟨rfl, rfl⟩))]
    refine vcall_of TOK_r10_Equal HM Go.Proofs.Tryz.func12 rfl (by decide +kernel) (by decide +kernel) rfl ?_
    repeat' ((conv => whnf); first | ((with_reducible refine Xq ?_ ?_); assumption) | (with_reducible first | apply Xa | (first | apply xi | apply xu | apply x8 | apply x3 | apply xn | apply xp | apply xP | refine xs ?_ ?_ | refine xS ?_ ?_ | refine xZ ?_ ?_ | refine xl ?_ ?_ | refine xd ?_ ?_ | refine xy ?_ ?_ | refine xL ?_ ?_ | refine xD ?_ ?_ | apply xx); omega | apply Xm | apply Xe | refine Xg (by assumption) ?_) | refine Xo (by assumption) ?_ | refine x_0 (by first | assumption | rfl) ?_ | refine x_1 (by first | assumption | rfl) ?_ | refine Or.inl ⟨rfl, ?_⟩ | (split <;> (first | (rename_i u h; clear u) | rename_i h) <;> (try rewrite [h]) <;> (first | replace h := dt h | replace h := df h | replace h := Nt h | replace h := Nf h | skip) <;> (try dsimp only at h) <;> (first | contradiction | (exfalso; omega) | skip)) | (refine Or.inl ⟨_, by assumption, ?_⟩; first | rintro _ rfl | skip))
    all_goals first | ((conv => whnf); rfl) | (exfalso; apply hpre; simp_all; done) | (exfalso; apply hpre; simp_all; omega)
end Go.V
namespace Go.V
open Go.N
set_option maxRecDepth 20000
def T_gRight : Tab := [(24, ⟨.strc [(0, 1, false), (1, 1, false)], 2, 32, (.agg #[(.slice none 0 0), (.int .i64 0)]), [8, 0]⟩), (22, ⟨.slice 43, 1, 24, (.slice none 0 0), [8]⟩), (43, ⟨.strc [(0, 1, false), (1, 1, false), (2, 1, false), (3, 1, false), (4, 1, false), (5, 1, false), (6, 1, false), (7, 1, false)], 8, 120, (.agg #[(.string .empty), (.int .i64 0), (.int .i64 0), (.string .empty), (.slice none 0 0), (.string .empty), (.int .i64 0), (.slice none 0 0)]), [0, 0, 0, 0, 1, 0, 0, 1]⟩), (3, ⟨.int .i64, 1, 8, (.int .i64 0), [0]⟩), (25, ⟨.slice 3, 1, 24, (.slice none 0 0), [1]⟩), (52, ⟨.map 3, 1, 8, (.map none), [0]⟩), (4, ⟨.bool, 1, 1, (.bool false), [0]⟩), (9, ⟨.str, 1, 16, (.string .empty), [0]⟩)]
theorem TOK_gRight : TOK Go.Proofs.Tryz.prog T_gRight := ⟨⟨info_of Go.Proofs.Tryz.type24 rfl, by decide +kernel, by decide +kernel⟩, ⟨⟨info_of Go.Proofs.Tryz.type22 rfl, by decide +kernel, by decide +kernel⟩, ⟨⟨info_of Go.Proofs.Tryz.type43 rfl, by decide +kernel, by decide +kernel⟩, ⟨⟨info_of Go.Proofs.Tryz.type3 rfl, by decide +kernel, by decide +kernel⟩, ⟨⟨info_of Go.Proofs.Tryz.type25 rfl, by decide +kernel, by decide +kernel⟩, ⟨⟨info_of Go.Proofs.Tryz.type52 rfl, by decide +kernel, by decide +kernel⟩, ⟨⟨info_of Go.Proofs.Tryz.type4 rfl, by decide +kernel, by decide +kernel⟩, ⟨⟨info_of Go.Proofs.Tryz.type9 rfl, by decide +kernel, by decide +kernel⟩, trivial⟩⟩⟩⟩⟩⟩⟩⟩
def T_r10_Right : Tab := [(24, ⟨.strc [(0, 1, false), (1, 1, false)], 2, 32, (.agg #[(.slice none 0 0), (.int .i64 0)]), [8, 0]⟩), (22, ⟨.slice 43, 1, 24, (.slice none 0 0), [8]⟩), (43, ⟨.strc [(0, 1, false), (1, 1, false), (2, 1, false), (3, 1, false), (4, 1, false), (5, 1, false), (6, 1, false), (7, 1, false)], 8, 120, (.agg #[(.string .empty), (.int .i64 0), (.int .i64 0), (.string .empty), (.slice none 0 0), (.string .empty), (.int .i64 0), (.slice none 0 0)]), [0, 0, 0, 0, 1, 0, 0, 1]⟩), (3, ⟨.int .i64, 1, 8, (.int .i64 0), [0]⟩), (25, ⟨.slice 3, 1, 24, (.slice none 0 0), [1]⟩), (4, ⟨.bool, 1, 1, (.bool false), [0]⟩), (9, ⟨.str, 1, 16, (.string .empty), [0]⟩)]
theorem TOK_r10_Right : TOK Go.Proofs.Tryz.prog T_r10_Right := ⟨⟨info_of Go.Proofs.Tryz.type24 rfl, by decide +kernel, by decide +kernel⟩, ⟨⟨info_of Go.Proofs.Tryz.type22 rfl, by decide +kernel, by decide +kernel⟩, ⟨⟨info_of Go.Proofs.Tryz.type43 rfl, by decide +kernel, by decide +kernel⟩, ⟨⟨info_of Go.Proofs.Tryz.type3 rfl, by decide +kernel, by decide +kernel⟩, ⟨⟨info_of Go.Proofs.Tryz.type25 rfl, by decide +kernel, by decide +kernel⟩, ⟨⟨info_of Go.Proofs.Tryz.type4 rfl, by decide +kernel, by decide +kernel⟩, ⟨⟨info_of Go.Proofs.Tryz.type9 rfl, by decide +kernel, by decide +kernel⟩, trivial⟩⟩⟩⟩⟩⟩⟩
theorem okZ_sh {r : List Int × Bool} {s : List Int} (h : okZ r = some s) : okShape s = true := by
  rw [okZ] at h
  by_cases hh : (r.2 && okShape r.1) = true
  · rw [if_pos hh] at h
    cases h
    rw [Bool.and_eq_true] at hh
    exact hh.2
  · rw [if_neg hh] at h; cases h
theorem inferN_sh {l : List Nd} {x : Nd} {s : List Int} (h : inferN l x = some s) : okShape s = true := by
  cases hp : opParts x.op with
  | none => rw [inferN_none hp] at h; cases h
  | some m =>
    cases hf : fitN l x m with
    | false => rw [inferN_bad hp hf] at h; cases h
    | true => rw [inferN_ok hp hf] at h; exact okZ_sh h
def renK (kv : List (ByteArray × AV)) : List (ByteArray × AV) := kv.map fun kx => (kx.1, ren [0, 1] kx.2)
theorem map_setK (f : AV → AV) (x : ByteArray) (v : AV) : ∀ l : List (ByteArray × AV), (setK l x v).map (fun kx => (kx.1, f kx.2)) = setK (l.map fun kx => (kx.1, f kx.2)) x (f v)
  | [] => rfl
  | (k, w) :: r => by
    unfold setK
    simp only [List.map_cons]
    split
    · rfl
    · simp only [List.map_cons, map_setK f x v r]
theorem renK_set {kv : List (ByteArray × AV)} (h : renK kv = kv) (x : ByteArray) (e : Int) : renK (setK kv x (.int .i64 e)) = setK kv x (.int .i64 e) := by
  rw [renK, map_setK, show (kv.map fun kx => (kx.1, ren [0, 1] kx.2)) = kv from h]; simp [ren]
set_option maxHeartbeats 4000000 in
theorem c_gRight (g : Gr) (hs : ∀ x ∈ g.nodes, x.Sm) (hl : g.nodes.length ≤ 1000) : VCall Go.Proofs.Tryz.prog GL 15 [.agg g.cells] (fun r => r = .bool (grOK g)) := by
  obtain ⟨l, p⟩ := g
  have hlr : (rowN l).length = l.length := rowN_length l
  dsimp only at hs hl
  show VCall _ _ _ [.agg [.ro 8 (rowN l), .int .i64 p]] _
  cases hpre : preG ⟨l, p⟩
  · rw [show grOK ⟨l, p⟩ = false by rw [grOK, hpre]; rfl]
    by_cases h1 : 1 ≤ l.length
    · by_cases h2 : l.length ≤ 200
      · cases h3 : inR p l
        · have := inR_not h3
          refine vcall_of TOK_gRight HM Go.Proofs.Tryz.func15 rfl (by decide +kernel) (by decide +kernel) rfl ?_
          repeat' ((conv => whnf); first | ((with_reducible apply Xq); assumption) | (with_reducible first | apply Xa | (first | apply xi | apply xp | apply xP); omega | apply Xe | refine Xg (by assumption) ?_) | refine Xo (by assumption) ?_ | refine x_0 (by first | assumption | rfl) ?_ | refine x_1 (by first | assumption | rfl) ?_ | refine Or.inl ⟨rfl, ?_⟩ | (split <;> (first | (rename_i u h; clear u) | rename_i h) <;> (try rewrite [h]) <;> (first | replace h := dt h | replace h := df h | replace h := Nt h | replace h := Nf h | skip) <;> (try dsimp only at h) <;> (first | contradiction | (exfalso; omega) | skip)) | (refine Or.inl ⟨_, by assumption, ?_⟩; first | rintro _ rfl | skip))
          all_goals (conv => whnf)
          all_goals rfl
        · obtain ⟨q, rfl, hq⟩ := inR_nat h3
          have h4 : l[q].shape ≠ [] := fun e => by
            simp only [preG, h1, h2, h3, shAt_nat hq, e] at hpre
            simp at hpre
          obtain ⟨_, _, _, _, _, _, _, g⟩ := rowN_sh hq
          generalize l[q].shape = A at g h4
          have h5 : A.length ≠ 0 := fun e => h4 (List.length_eq_zero_iff.1 e)
          have hA := rowZ_length A
          refine vcall_of TOK_gRight HM Go.Proofs.Tryz.func15 rfl (by decide +kernel) (by decide +kernel) rfl ?_
          repeat' ((conv => whnf); first | ((with_reducible apply Xq); assumption) | (with_reducible first | apply Xa | (first | apply xi | apply xp | apply xP); omega | apply Xe | refine Xg (by assumption) ?_) | refine Xo (by assumption) ?_ | refine x_0 (by first | assumption | rfl) ?_ | refine x_1 (by first | assumption | rfl) ?_ | refine Or.inl ⟨rfl, ?_⟩ | (split <;> (first | (rename_i u h; clear u) | rename_i h) <;> (try rewrite [h]) <;> (first | replace h := dt h | replace h := df h | replace h := Nt h | replace h := Nf h | skip) <;> (try dsimp only at h) <;> (first | contradiction | (exfalso; omega) | skip)) | (refine Or.inl ⟨_, by assumption, ?_⟩; first | rintro _ rfl | skip))
          all_goals (conv => whnf)
          all_goals rfl
      · refine vcall_of TOK_gRight HM Go.Proofs.Tryz.func15 rfl (by decide +kernel) (by decide +kernel) rfl ?_
        repeat' ((conv => whnf); first | ((with_reducible apply Xq); assumption) | (with_reducible first | apply Xa | (first | apply xi | apply xp | apply xP); omega | apply Xe | refine Xg (by assumption) ?_) | refine Xo (by assumption) ?_ | refine x_0 (by first | assumption | rfl) ?_ | refine x_1 (by first | assumption | rfl) ?_ | refine Or.inl ⟨rfl, ?_⟩ | (split <;> (first | (rename_i u h; clear u) | rename_i h) <;> (try rewrite [h]) <;> (first | replace h := dt h | replace h := df h | replace h := Nt h | replace h := Nf h | skip) <;> (try dsimp only at h) <;> (first | contradiction | (exfalso; omega) | skip)) | (refine Or.inl ⟨_, by assumption, ?_⟩; first | rintro _ rfl | skip))
        all_goals (conv => whnf)
        all_goals rfl
    · refine vcall_of TOK_gRight HM Go.Proofs.Tryz.func15 rfl (by decide +kernel) (by decide +kernel) rfl ?_
      repeat' ((conv => whnf); first | ((with_reducible apply Xq); assumption) | (with_reducible first | apply Xa | (first | apply xi | apply xp | apply xP); omega | apply Xe | refine Xg (by assumption) ?_) | refine Xo (by assumption) ?_ | refine x_0 (by first | assumption | rfl) ?_ | refine x_1 (by first | assumption | rfl) ?_ | refine Or.inl ⟨rfl, ?_⟩ | (split <;> (first | (rename_i u h; clear u) | rename_i h) <;> (try rewrite [h]) <;> (first | replace h := dt h | replace h := df h | replace h := Nt h | replace h := Nf h | skip) <;> (try dsimp only at h) <;> (first | contradiction | (exfalso; omega) | skip)) | (refine Or.inl ⟨_, by assumption, ?_⟩; first | rintro _ rfl | skip))
      all_goals (conv => whnf)
      all_goals rfl
  have hpre2 := hpre
  simp only [preG, Bool.and_eq_true, decide_eq_true_eq] at hpre2
  obtain ⟨⟨⟨h1, h2⟩, h3⟩, h4⟩ := hpre2
  obtain ⟨q, rfl, hq⟩ := inR_nat h3
  rw [shAt_nat hq] at h4
  obtain ⟨_, _, _, _, _, _, _, g⟩ := rowN_sh hq
  rw [h4] at g
  rw [show grOK ⟨l, (q : Int)⟩ = allTo l l.length by rw [grOK, hpre]; rfl]
  clear hpre h3 h4
  refine vcall_of TOK_gRight HM Go.Proofs.Tryz.func15 rfl (by decide +kernel) (by decide +kernel) rfl ?_
  repeat' ((conv => whnf); first | ((with_reducible apply Xq); assumption) | (with_reducible first | apply Xa | (first | apply xi | apply xp | apply xP); omega | apply Xe | refine Xg (by assumption) ?_) | refine Xo (by assumption) ?_ | refine x_0 (by first | assumption | rfl) ?_ | refine x_1 (by first | assumption | rfl) ?_ | refine Or.inl ⟨rfl, ?_⟩ | (split <;> (first | (rename_i u h; clear u) | rename_i h) <;> (try rewrite [h]) <;> (first | replace h := dt h | replace h := df h | replace h := Nt h | replace h := Nf h | skip) <;> (try dsimp only at h) <;> (first | contradiction | (exfalso; omega) | skip)) | (refine Or.inl ⟨_, by assumption, ?_⟩; first | rintro _ rfl | skip))
  refine ⟨[1, 3, 44, 45, 46], [0, 1], fun m st => ∃ (i : Nat) (kv : List (ByteArray × AV)), i ≤ l.length ∧ m = l.length - i ∧ allTo l i = true ∧ MapOK kv (l.take i) ∧ renK kv = kv ∧
    st = ⟨[(1, .bptr 0 0), (3, .map 1), (44, .ro 8 (rowN l)), (45, .int .i64 ((rowN l).length : Nat)), (46, .int .i64 (i : Nat))], [.box 24 [.ro 8 (rowN l), .int .i64 (q : Nat)], .kv kv]⟩, rfl,
    ⟨l.length, 0, [], by omega, rfl, rfl, mapOK_nil, rfl, rfl⟩, ?_⟩
  rintro m _ ⟨i, kv, hi, hm, ha, hkv, hrk, rfl⟩
  rcases Nat.lt_or_ge i l.length with hil | hge
  · obtain ⟨x, hx⟩ : ∃ x, x = l[i] := ⟨_, rfl⟩
    have g : (rowN l)[i]? = some x.cells := by rw [hx]; exact rowN_get hil
    have hnd : ndAt l i = ndOK (l.take i) x := by rw [hx]; exact ndAt_lt hil
    have hxs : x.Sm := by rw [hx]; exact hs _ (List.getElem_mem hil)
    have htk : l.take (i + 1) = l.take i ++ [x] := by rw [hx]; exact List.take_succ_eq_append_getElem hil
    clear hx
    have hinf := c_gInfer (l.take i) x hxs (fun y hy => hs y (List.mem_of_mem_take hy)) (by rw [List.length_take]; omega)
    have hcl := cnt_le (l.take i) x.name
    have hcp := @cnt_pos (l.take i) x
    have hsn := @mapOK_snoc kv (l.take i) x ((cntN (l.take i) x.name : Nat) + 1) hkv rfl
    rw [← htk] at hsn
    have hrs := renK_set hrk x.name ((cntN (l.take i) x.name : Nat) + 1)
    have hmp := hkv x.name
    rw [List.length_take] at hcl
    generalize cntN (l.take i) x.name = c at hcl hcp hsn hmp hrs
    have hso := allTo_succ l i
    rw [ha, hnd, ndOK, Bool.true_and] at hso
    have hbad : (decide (inferN (l.take i) x = some x.shape) && (l.take i).all (newName x)) = false → allTo l l.length = false := fun h => allTo_bad hil (by rw [hnd, ndOK]; exact h)
    have hnn : x.name = ⟨#[]⟩ → (l.take i).all (newName x) = true := fun e => by rw [List.all_eq_true]; intro y _; simp [newName, e]
    have hlen1 := hxs.shape
    cases hI : inferN (l.take i) x with
    | none =>
      rw [hbad (by simp [hI])]
      rw [hI] at hinf
      obtain ⟨op, a, b, name, shape, k, n, data⟩ := x
      repeat' ((conv => whnf); first | ((with_reducible apply Xq); assumption) | (with_reducible first | apply Xa | (first | apply xi | apply xp | apply xP); omega | apply Xe | refine Xg (by assumption) ?_) | refine Xo (by assumption) ?_ | refine x_0 (by first | assumption | rfl) ?_ | refine x_1 (by first | assumption | rfl) ?_ | refine Or.inl ⟨rfl, ?_⟩ | (split <;> (first | (rename_i u h; clear u) | rename_i h) <;> (try rewrite [h]) <;> (first | replace h := dt h | replace h := df h | replace h := Nt h | replace h := Nf h | skip) <;> (try dsimp only at h) <;> (first | contradiction | (exfalso; omega) | skip)) | (refine Or.inl ⟨_, by assumption, ?_⟩; first | rintro _ rfl | skip))
      refine ⟨by decide +kernel, [0, 1, 0, 7, 0, 31, 63, 127, 127, 255, 1023], by decide +kernel, ?_⟩
      repeat' ((conv => whnf); first | ((with_reducible apply Xq); assumption) | (with_reducible first | apply Xa | (first | apply xi | apply xp | apply xP); omega | apply Xe | refine Xg (by assumption) ?_) | refine Xo (by assumption) ?_ | refine x_0 (by first | assumption | rfl) ?_ | refine x_1 (by first | assumption | rfl) ?_ | refine Or.inl ⟨rfl, ?_⟩ | (split <;> (first | (rename_i u h; clear u) | rename_i h) <;> (try rewrite [h]) <;> (first | replace h := dt h | replace h := df h | replace h := Nt h | replace h := Nf h | skip) <;> (try dsimp only at h) <;> (first | contradiction | (exfalso; omega) | skip)) | (refine Or.inl ⟨_, by assumption, ?_⟩; first | rintro _ rfl | skip))
      refine ⟨Int.le_refl _, by omega, by omega, rowN (l.take i), sl_take l i, ?_⟩
      repeat' ((conv => whnf); first | ((with_reducible apply Xq); assumption) | (with_reducible first | apply Xa | (first | apply xi | apply xp | apply xP); omega | apply Xe | refine Xg (by assumption) ?_) | refine Xo (by assumption) ?_ | refine x_0 (by first | assumption | rfl) ?_ | refine x_1 (by first | assumption | rfl) ?_ | refine Or.inl ⟨rfl, ?_⟩ | (split <;> (first | (rename_i u h; clear u) | rename_i h) <;> (try rewrite [h]) <;> (first | replace h := dt h | replace h := df h | replace h := Nt h | replace h := Nf h | skip) <;> (try dsimp only at h) <;> (first | contradiction | (exfalso; omega) | skip)) | (refine Or.inl ⟨_, by assumption, ?_⟩; first | rintro _ rfl | skip))
      all_goals (conv => whnf)
      all_goals rfl
    | some s =>
      rw [hI] at hinf hbad hso
      have hs2 : s.length ≤ 4 := by
        have : okShape s = true := inferN_sh hI
        exact okShape_len this
      have hsm := c_shape_Same GL s x.shape (by omega) (by omega)
      by_cases hss : s = x.shape
      · rw [decide_eq_true hss] at hsm
        by_cases hn : x.name = ⟨#[]⟩
        · have hgo : allTo l (i + 1) = true := hso.trans (by rw [hnn hn, hss]; simp)
          obtain ⟨op, a, b, name, shape, k, n, data⟩ := x
          repeat' ((conv => whnf); first | ((with_reducible apply Xq); assumption) | (with_reducible first | apply Xa | (first | apply xi | apply xp | apply xP); omega | apply Xe | refine Xg (by assumption) ?_) | refine Xo (by assumption) ?_ | refine x_0 (by first | assumption | rfl) ?_ | refine x_1 (by first | assumption | rfl) ?_ | refine Or.inl ⟨rfl, ?_⟩ | (split <;> (first | (rename_i u h; clear u) | rename_i h) <;> (try rewrite [h]) <;> (first | replace h := dt h | replace h := df h | replace h := Nt h | replace h := Nf h | skip) <;> (try dsimp only at h) <;> (first | contradiction | (exfalso; omega) | skip)) | (refine Or.inl ⟨_, by assumption, ?_⟩; first | rintro _ rfl | skip))
          refine ⟨by decide +kernel, [0, 1, 0, 7, 0, 31, 63, 127, 127, 255, 1023], by decide +kernel, ?_⟩
          repeat' ((conv => whnf); first | ((with_reducible apply Xq); assumption) | (with_reducible first | apply Xa | (first | apply xi | apply xp | apply xP); omega | apply Xe | refine Xg (by assumption) ?_) | refine Xo (by assumption) ?_ | refine x_0 (by first | assumption | rfl) ?_ | refine x_1 (by first | assumption | rfl) ?_ | refine Or.inl ⟨rfl, ?_⟩ | (split <;> (first | (rename_i u h; clear u) | rename_i h) <;> (try rewrite [h]) <;> (first | replace h := dt h | replace h := df h | replace h := Nt h | replace h := Nf h | skip) <;> (try dsimp only at h) <;> (first | contradiction | (exfalso; omega) | skip)) | (refine Or.inl ⟨_, by assumption, ?_⟩; first | rintro _ rfl | skip))
          refine ⟨Int.le_refl _, by omega, by omega, rowN (l.take i), sl_take l i, ?_⟩
          repeat' ((conv => whnf); first | ((with_reducible apply Xq); assumption) | (with_reducible first | apply Xa | (first | apply xi | apply xp | apply xP); omega | apply Xe | refine Xg (by assumption) ?_) | refine Xo (by assumption) ?_ | refine x_0 (by first | assumption | rfl) ?_ | refine x_1 (by first | assumption | rfl) ?_ | refine Or.inl ⟨rfl, ?_⟩ | (split <;> (first | (rename_i u h; clear u) | rename_i h) <;> (try rewrite [h]) <;> (first | replace h := dt h | replace h := df h | replace h := Nt h | replace h := Nf h | skip) <;> (try dsimp only at h) <;> (first | contradiction | (exfalso; omega) | skip)) | (refine Or.inl ⟨_, by assumption, ?_⟩; first | rintro _ rfl | skip))
          all_goals exact ⟨[0, 1], l.length - (i + 1), rfl, by omega, i + 1, _, by omega, rfl, hgo, hsn, hrs, Eq.trans rfl (congrArg (fun z => (⟨[(1, .bptr 0 0), (3, .map 1), (44, .ro 8 (rowN l)), (45, .int .i64 ((rowN l).length : Nat)), (46, .int .i64 ((i + 1 : Nat) : Int))], [.box 24 [.ro 8 (rowN l), .int .i64 (q : Nat)], .kv z]⟩ : St)) hrs)⟩
        · by_cases hc : 0 < c
          · have hT := hbad (by rw [(hcp hn).1 hc]; simp)
            rw [hT]
            obtain ⟨op, a, b, name, shape, k, n, data⟩ := x
            repeat' ((conv => whnf); first | ((with_reducible apply Xq); assumption) | (with_reducible first | apply Xa | (first | apply xi | apply xp | apply xP); omega | apply Xe | refine Xg (by assumption) ?_) | refine Xo (by assumption) ?_ | refine x_0 (by first | assumption | rfl) ?_ | refine x_1 (by first | assumption | rfl) ?_ | refine Or.inl ⟨rfl, ?_⟩ | (split <;> (first | (rename_i u h; clear u) | rename_i h) <;> (try rewrite [h]) <;> (first | replace h := dt h | replace h := df h | replace h := Nt h | replace h := Nf h | skip) <;> (try dsimp only at h) <;> (first | contradiction | (exfalso; omega) | skip)) | (refine Or.inl ⟨_, by assumption, ?_⟩; first | rintro _ rfl | skip))
            refine ⟨by decide +kernel, [0, 1, 0, 7, 0, 31, 63, 127, 127, 255, 1023], by decide +kernel, ?_⟩
            repeat' ((conv => whnf); first | ((with_reducible apply Xq); assumption) | (with_reducible first | apply Xa | (first | apply xi | apply xp | apply xP); omega | apply Xe | refine Xg (by assumption) ?_) | refine Xo (by assumption) ?_ | refine x_0 (by first | assumption | rfl) ?_ | refine x_1 (by first | assumption | rfl) ?_ | refine Or.inl ⟨rfl, ?_⟩ | (split <;> (first | (rename_i u h; clear u) | rename_i h) <;> (try rewrite [h]) <;> (first | replace h := dt h | replace h := df h | replace h := Nt h | replace h := Nf h | skip) <;> (try dsimp only at h) <;> (first | contradiction | (exfalso; omega) | skip)) | (refine Or.inl ⟨_, by assumption, ?_⟩; first | rintro _ rfl | skip))
            refine ⟨Int.le_refl _, by omega, by omega, rowN (l.take i), sl_take l i, ?_⟩
            repeat' ((conv => whnf); first | ((with_reducible apply Xq); assumption) | (with_reducible first | apply Xa | (first | apply xi | apply xp | apply xP); omega | apply Xe | refine Xg (by assumption) ?_) | refine Xo (by assumption) ?_ | refine x_0 (by first | assumption | rfl) ?_ | refine x_1 (by first | assumption | rfl) ?_ | refine Or.inl ⟨rfl, ?_⟩ | (split <;> (first | (rename_i u h; clear u) | rename_i h) <;> (try rewrite [h]) <;> (first | replace h := dt h | replace h := df h | replace h := Nt h | replace h := Nf h | skip) <;> (try dsimp only at h) <;> (first | contradiction | (exfalso; omega) | skip)) | (refine Or.inl ⟨_, by assumption, ?_⟩; first | rintro _ rfl | skip))
            all_goals (conv => whnf)
            all_goals rfl
          · have hall : (l.take i).all (newName x) = true := by
              cases h : (l.take i).all (newName x)
              · exact absurd ((hcp hn).2 h) hc
              · rfl
            have hgo : allTo l (i + 1) = true := hso.trans (by rw [hall, hss]; simp)
            obtain ⟨op, a, b, name, shape, k, n, data⟩ := x
            repeat' ((conv => whnf); first | ((with_reducible apply Xq); assumption) | (with_reducible first | apply Xa | (first | apply xi | apply xp | apply xP); omega | apply Xe | refine Xg (by assumption) ?_) | refine Xo (by assumption) ?_ | refine x_0 (by first | assumption | rfl) ?_ | refine x_1 (by first | assumption | rfl) ?_ | refine Or.inl ⟨rfl, ?_⟩ | (split <;> (first | (rename_i u h; clear u) | rename_i h) <;> (try rewrite [h]) <;> (first | replace h := dt h | replace h := df h | replace h := Nt h | replace h := Nf h | skip) <;> (try dsimp only at h) <;> (first | contradiction | (exfalso; omega) | skip)) | (refine Or.inl ⟨_, by assumption, ?_⟩; first | rintro _ rfl | skip))
            refine ⟨by decide +kernel, [0, 1, 0, 7, 0, 31, 63, 127, 127, 255, 1023], by decide +kernel, ?_⟩
            repeat' ((conv => whnf); first | ((with_reducible apply Xq); assumption) | (with_reducible first | apply Xa | (first | apply xi | apply xp | apply xP); omega | apply Xe | refine Xg (by assumption) ?_) | refine Xo (by assumption) ?_ | refine x_0 (by first | assumption | rfl) ?_ | refine x_1 (by first | assumption | rfl) ?_ | refine Or.inl ⟨rfl, ?_⟩ | (split <;> (first | (rename_i u h; clear u) | rename_i h) <;> (try rewrite [h]) <;> (first | replace h := dt h | replace h := df h | replace h := Nt h | replace h := Nf h | skip) <;> (try dsimp only at h) <;> (first | contradiction | (exfalso; omega) | skip)) | (refine Or.inl ⟨_, by assumption, ?_⟩; first | rintro _ rfl | skip))
            refine ⟨Int.le_refl _, by omega, by omega, rowN (l.take i), sl_take l i, ?_⟩
            repeat' ((conv => whnf); first | ((with_reducible apply Xq); assumption) | (with_reducible first | apply Xa | (first | apply xi | apply xp | apply xP); omega | apply Xe | refine Xg (by assumption) ?_) | refine Xo (by assumption) ?_ | refine x_0 (by first | assumption | rfl) ?_ | refine x_1 (by first | assumption | rfl) ?_ | refine Or.inl ⟨rfl, ?_⟩ | (split <;> (first | (rename_i u h; clear u) | rename_i h) <;> (try rewrite [h]) <;> (first | replace h := dt h | replace h := df h | replace h := Nt h | replace h := Nf h | skip) <;> (try dsimp only at h) <;> (first | contradiction | (exfalso; omega) | skip)) | (refine Or.inl ⟨_, by assumption, ?_⟩; first | rintro _ rfl | skip))
            all_goals exact ⟨[0, 1], l.length - (i + 1), rfl, by omega, i + 1, _, by omega, rfl, hgo, hsn, hrs, Eq.trans rfl (congrArg (fun z => (⟨[(1, .bptr 0 0), (3, .map 1), (44, .ro 8 (rowN l)), (45, .int .i64 ((rowN l).length : Nat)), (46, .int .i64 ((i + 1 : Nat) : Int))], [.box 24 [.ro 8 (rowN l), .int .i64 (q : Nat)], .kv z]⟩ : St)) hrs)⟩
      · rw [decide_eq_false hss] at hsm
        rw [hbad (by simp [hss])]
        obtain ⟨op, a, b, name, shape, k, n, data⟩ := x
        repeat' ((conv => whnf); first | ((with_reducible apply Xq); assumption) | (with_reducible first | apply Xa | (first | apply xi | apply xp | apply xP); omega | apply Xe | refine Xg (by assumption) ?_) | refine Xo (by assumption) ?_ | refine x_0 (by first | assumption | rfl) ?_ | refine x_1 (by first | assumption | rfl) ?_ | refine Or.inl ⟨rfl, ?_⟩ | (split <;> (first | (rename_i u h; clear u) | rename_i h) <;> (try rewrite [h]) <;> (first | replace h := dt h | replace h := df h | replace h := Nt h | replace h := Nf h | skip) <;> (try dsimp only at h) <;> (first | contradiction | (exfalso; omega) | skip)) | (refine Or.inl ⟨_, by assumption, ?_⟩; first | rintro _ rfl | skip))
        refine ⟨by decide +kernel, [0, 1, 0, 7, 0, 31, 63, 127, 127, 255, 1023], by decide +kernel, ?_⟩
        repeat' ((conv => whnf); first | ((with_reducible apply Xq); assumption) | (with_reducible first | apply Xa | (first | apply xi | apply xp | apply xP); omega | apply Xe | refine Xg (by assumption) ?_) | refine Xo (by assumption) ?_ | refine x_0 (by first | assumption | rfl) ?_ | refine x_1 (by first | assumption | rfl) ?_ | refine Or.inl ⟨rfl, ?_⟩ | (split <;> (first | (rename_i u h; clear u) | rename_i h) <;> (try rewrite [h]) <;> (first | replace h := dt h | replace h := df h | replace h := Nt h | replace h := Nf h | skip) <;> (try dsimp only at h) <;> (first | contradiction | (exfalso; omega) | skip)) | (refine Or.inl ⟨_, by assumption, ?_⟩; first | rintro _ rfl | skip))
        refine ⟨Int.le_refl _, by omega, by omega, rowN (l.take i), sl_take l i, ?_⟩
        repeat' ((conv => whnf); first | ((with_reducible apply Xq); assumption) | (with_reducible first | apply Xa | (first | apply xi | apply xp | apply xP); omega | apply Xe | refine Xg (by assumption) ?_) | refine Xo (by assumption) ?_ | refine x_0 (by first | assumption | rfl) ?_ | refine x_1 (by first | assumption | rfl) ?_ | refine Or.inl ⟨rfl, ?_⟩ | (split <;> (first | (rename_i u h; clear u) | rename_i h) <;> (try rewrite [h]) <;> (first | replace h := dt h | replace h := df h | replace h := Nt h | replace h := Nf h | skip) <;> (try dsimp only at h) <;> (first | contradiction | (exfalso; omega) | skip)) | (refine Or.inl ⟨_, by assumption, ?_⟩; first | rintro _ rfl | skip))
        all_goals (conv => whnf)
        all_goals rfl
  · have hi2 : i = l.length := by omega
    subst hi2
    rw [ha]
    repeat' ((conv => whnf); first | ((with_reducible apply Xq); assumption) | (with_reducible first | apply Xa | (first | apply xi | apply xp | apply xP); omega | apply Xe | refine Xg (by assumption) ?_) | refine Xo (by assumption) ?_ | refine x_0 (by first | assumption | rfl) ?_ | refine x_1 (by first | assumption | rfl) ?_ | refine Or.inl ⟨rfl, ?_⟩ | (split <;> (first | (rename_i u h; clear u) | rename_i h) <;> (try rewrite [h]) <;> (first | replace h := dt h | replace h := df h | replace h := Nt h | replace h := Nf h | skip) <;> (try dsimp only at h) <;> (first | contradiction | (exfalso; omega) | skip)) | (refine Or.inl ⟨_, by assumption, ?_⟩; first | rintro _ rfl | skip))
    all_goals (conv => whnf)
    all_goals rfl
end Go.V
namespace Go.V
open Go.N
set_option maxRecDepth 20000
variable (gl : Gl)
theorem newName_take {l : List Nd} {i j : Nat} (hj : j < i) (hi : i ≤ l.length) : (l.take i)[j]'(by rw [List.length_take]; omega) = l[j] := by simp
set_option maxHeartbeats 4000000 in
theorem c_r10_Right (g : Gr) (hs : ∀ x ∈ g.nodes, x.Sm) (hl : g.nodes.length ≤ 1000) : VCall Go.Proofs.Tryz.prog gl 9 [.agg g.cells] (fun r => r = .bool (grOK g)) := by
  obtain ⟨l, p⟩ := g
  have hlr : (rowN l).length = l.length := rowN_length l
  dsimp only at hs hl
  show VCall _ _ _ [.agg [.ro 8 (rowN l), .int .i64 p]] _
  cases hpre : preG ⟨l, p⟩
  · rw [show grOK ⟨l, p⟩ = false by rw [grOK, hpre]; rfl]
    by_cases h1 : 1 ≤ l.length
    · by_cases h2 : l.length ≤ 200
      · cases h3 : inR p l
        · have := inR_not h3
          refine vcall_of TOK_r10_Right HM Go.Proofs.Tryz.func9 rfl (by decide +kernel) (by decide +kernel) rfl ?_
          repeat' ((conv => whnf); first | ((with_reducible apply Xq); assumption) | (with_reducible first | apply Xa | (first | apply xi | apply xp | apply xP); omega | apply Xe | refine Xg (by assumption) ?_) | refine Xo (by assumption) ?_ | refine x_0 (by first | assumption | rfl) ?_ | refine x_1 (by first | assumption | rfl) ?_ | refine Or.inl ⟨rfl, ?_⟩ | (split <;> (first | (rename_i u h; clear u) | rename_i h) <;> (try rewrite [h]) <;> (first | replace h := dt h | replace h := df h | replace h := Nt h | replace h := Nf h | skip) <;> (try dsimp only at h) <;> (first | contradiction | (exfalso; omega) | skip)) | (refine Or.inl ⟨_, by assumption, ?_⟩; first | rintro _ rfl | skip))
          all_goals (conv => whnf)
          all_goals rfl
        · obtain ⟨q, rfl, hq⟩ := inR_nat h3
          have h4 : l[q].shape ≠ [] := fun e => by
            simp only [preG, h1, h2, h3, shAt_nat hq, e] at hpre
            simp at hpre
          obtain ⟨_, _, _, _, _, _, _, g⟩ := rowN_sh hq
          generalize l[q].shape = A at g h4
          have h5 : A.length ≠ 0 := fun e => h4 (List.length_eq_zero_iff.1 e)
          have hA := rowZ_length A
          refine vcall_of TOK_r10_Right HM Go.Proofs.Tryz.func9 rfl (by decide +kernel) (by decide +kernel) rfl ?_
          repeat' ((conv => whnf); first | ((with_reducible apply Xq); assumption) | (with_reducible first | apply Xa | (first | apply xi | apply xp | apply xP); omega | apply Xe | refine Xg (by assumption) ?_) | refine Xo (by assumption) ?_ | refine x_0 (by first | assumption | rfl) ?_ | refine x_1 (by first | assumption | rfl) ?_ | refine Or.inl ⟨rfl, ?_⟩ | (split <;> (first | (rename_i u h; clear u) | rename_i h) <;> (try rewrite [h]) <;> (first | replace h := dt h | replace h := df h | replace h := Nt h | replace h := Nf h | skip) <;> (try dsimp only at h) <;> (first | contradiction | (exfalso; omega) | skip)) | (refine Or.inl ⟨_, by assumption, ?_⟩; first | rintro _ rfl | skip))
          all_goals (conv => whnf)
          all_goals rfl
      · refine vcall_of TOK_r10_Right HM Go.Proofs.Tryz.func9 rfl (by decide +kernel) (by decide +kernel) rfl ?_
        repeat' ((conv => whnf); first | ((with_reducible apply Xq); assumption) | (with_reducible first | apply Xa | (first | apply xi | apply xp | apply xP); omega | apply Xe | refine Xg (by assumption) ?_) | refine Xo (by assumption) ?_ | refine x_0 (by first | assumption | rfl) ?_ | refine x_1 (by first | assumption | rfl) ?_ | refine Or.inl ⟨rfl, ?_⟩ | (split <;> (first | (rename_i u h; clear u) | rename_i h) <;> (try rewrite [h]) <;> (first | replace h := dt h | replace h := df h | replace h := Nt h | replace h := Nf h | skip) <;> (try dsimp only at h) <;> (first | contradiction | (exfalso; omega) | skip)) | (refine Or.inl ⟨_, by assumption, ?_⟩; first | rintro _ rfl | skip))
        all_goals (conv => whnf)
        all_goals rfl
    · refine vcall_of TOK_r10_Right HM Go.Proofs.Tryz.func9 rfl (by decide +kernel) (by decide +kernel) rfl ?_
      repeat' ((conv => whnf); first | ((with_reducible apply Xq); assumption) | (with_reducible first | apply Xa | (first | apply xi | apply xp | apply xP); omega | apply Xe | refine Xg (by assumption) ?_) | refine Xo (by assumption) ?_ | refine x_0 (by first | assumption | rfl) ?_ | refine x_1 (by first | assumption | rfl) ?_ | refine Or.inl ⟨rfl, ?_⟩ | (split <;> (first | (rename_i u h; clear u) | rename_i h) <;> (try rewrite [h]) <;> (first | replace h := dt h | replace h := df h | replace h := Nt h | replace h := Nf h | skip) <;> (try dsimp only at h) <;> (first | contradiction | (exfalso; omega) | skip)) | (refine Or.inl ⟨_, by assumption, ?_⟩; first | rintro _ rfl | skip))
      all_goals (conv => whnf)
      all_goals rfl
  have hpre2 := hpre
  simp only [preG, Bool.and_eq_true, decide_eq_true_eq] at hpre2
  obtain ⟨⟨⟨h1, h2⟩, h3⟩, h4⟩ := hpre2
  obtain ⟨q, rfl, hq⟩ := inR_nat h3
  rw [shAt_nat hq] at h4
  obtain ⟨_, _, _, _, _, _, _, g⟩ := rowN_sh hq
  rw [h4] at g
  rw [show grOK ⟨l, (q : Int)⟩ = allTo l l.length by rw [grOK, hpre]; rfl]
  clear hpre h3 h4
  refine vcall_of TOK_r10_Right HM Go.Proofs.Tryz.func9 rfl (by decide +kernel) (by decide +kernel) rfl ?_
  repeat' ((conv => whnf); first | ((with_reducible apply Xq); assumption) | (with_reducible first | apply Xa | (first | apply xi | apply xp | apply xP); omega | apply Xe | refine Xg (by assumption) ?_) | refine Xo (by assumption) ?_ | refine x_0 (by first | assumption | rfl) ?_ | refine x_1 (by first | assumption | rfl) ?_ | refine Or.inl ⟨rfl, ?_⟩ | (split <;> (first | (rename_i u h; clear u) | rename_i h) <;> (try rewrite [h]) <;> (first | replace h := dt h | replace h := df h | replace h := Nt h | replace h := Nf h | skip) <;> (try dsimp only at h) <;> (first | contradiction | (exfalso; omega) | skip)) | (refine Or.inl ⟨_, by assumption, ?_⟩; first | rintro _ rfl | skip))
  refine ⟨[1, 3], [0], fun m st => ∃ (i : Nat), i ≤ l.length ∧ m = l.length - i ∧ allTo l i = true ∧
    st = ⟨[(1, .bptr 0 0), (3, .int .i64 (i : Nat))], [.box 24 [.ro 8 (rowN l), .int .i64 (q : Nat)]]⟩, rfl,
    ⟨l.length, 0, by omega, rfl, rfl, rfl⟩, ?_⟩
  rintro m _ ⟨i, hi, hm, ha, rfl⟩
  rcases Nat.lt_or_ge i l.length with hil | hge
  · obtain ⟨x, hx⟩ : ∃ x, x = l[i] := ⟨_, rfl⟩
    have g : (rowN l)[i]? = some x.cells := by rw [hx]; exact rowN_get hil
    have hnd : ndAt l i = ndOK (l.take i) x := by rw [hx]; exact ndAt_lt hil
    have hxs : x.Sm := by rw [hx]; exact hs _ (List.getElem_mem hil)
    clear hx
    have hsh := c_r10_Shape gl (l.take i) x hxs (fun y hy => hs y (List.mem_of_mem_take hy))
    have hri := refN_infer (l.take i) x
    have hso := allTo_succ l i
    rw [ha, hnd, ndOK, Bool.true_and] at hso
    have hbad : (decide (inferN (l.take i) x = some x.shape) && (l.take i).all (newName x)) = false → allTo l l.length = false := fun h => allTo_bad hil (by rw [hnd, ndOK]; exact h)
    have hlen1 := hxs.shape
    generalize refN (l.take i) x = R at hsh hri
    obtain ⟨s, ok⟩ := R
    dsimp only at hsh hri
    cases ok with
    | false =>
      rw [hbad (by
        cases h : inferN (l.take i) x with
        | none => rfl
        | some s => rw [h] at hri; exact absurd hri.1 (by simp))]
      obtain ⟨op, a, b, name, shape, k, n, data⟩ := x
      repeat' ((conv => whnf); first | ((with_reducible apply Xq); assumption) | (with_reducible first | apply Xa | (first | apply xi | apply xp | apply xP); omega | apply Xe | refine Xg (by assumption) ?_) | refine Xo (by assumption) ?_ | refine x_0 (by first | assumption | rfl) ?_ | refine x_1 (by first | assumption | rfl) ?_ | refine Or.inl ⟨rfl, ?_⟩ | (split <;> (first | (rename_i u h; clear u) | rename_i h) <;> (try rewrite [h]) <;> (first | replace h := dt h | replace h := df h | replace h := Nt h | replace h := Nf h | skip) <;> (try dsimp only at h) <;> (first | contradiction | (exfalso; omega) | skip)) | (refine Or.inl ⟨_, by assumption, ?_⟩; first | rintro _ rfl | skip))
      refine ⟨by decide +kernel, [0, 1, 0, 7, 0, 16, 0, 112, 240, 511, 1023, 2047, 2047, 4095, 16383], by decide +kernel, ?_⟩
      repeat' ((conv => whnf); first | ((with_reducible apply Xq); assumption) | (with_reducible first | apply Xa | (first | apply xi | apply xp | apply xP); omega | apply Xe | refine Xg (by assumption) ?_) | refine Xo (by assumption) ?_ | refine x_0 (by first | assumption | rfl) ?_ | refine x_1 (by first | assumption | rfl) ?_ | refine Or.inl ⟨rfl, ?_⟩ | (split <;> (first | (rename_i u h; clear u) | rename_i h) <;> (try rewrite [h]) <;> (first | replace h := dt h | replace h := df h | replace h := Nt h | replace h := Nf h | skip) <;> (try dsimp only at h) <;> (first | contradiction | (exfalso; omega) | skip)) | (refine Or.inl ⟨_, by assumption, ?_⟩; first | rintro _ rfl | skip))
      refine ⟨Int.le_refl _, by omega, by omega, rowN (l.take i), sl_take l i, ?_⟩
      repeat' ((conv => whnf); first | ((with_reducible apply Xq); assumption) | (with_reducible first | apply Xa | (first | apply xi | apply xp | apply xP); omega | apply Xe | refine Xg (by assumption) ?_) | refine Xo (by assumption) ?_ | refine x_0 (by first | assumption | rfl) ?_ | refine x_1 (by first | assumption | rfl) ?_ | refine Or.inl ⟨rfl, ?_⟩ | (split <;> (first | (rename_i u h; clear u) | rename_i h) <;> (try rewrite [h]) <;> (first | replace h := dt h | replace h := df h | replace h := Nt h | replace h := Nf h | skip) <;> (try dsimp only at h) <;> (first | contradiction | (exfalso; omega) | skip)) | (refine Or.inl ⟨_, by assumption, ?_⟩; first | rintro _ rfl | skip))
      all_goals (conv => whnf)
      all_goals rfl
    | true =>
      have hI := hri.2 rfl
      have hs2 := okShape_len (inferN_sh hI)
      have hsm := c_r04_Same gl s x.shape (by omega) (by omega)
      rw [hI] at hbad hso
      by_cases hss : s = x.shape
      · rw [decide_eq_true hss] at hsm
        rw [hss, decide_eq_true rfl, Bool.true_and] at hso hbad
        have hnk : ∀ k (hk : k < i), newName x l[k] = false → allTo l l.length = false := fun k hk h => hbad (List.all_eq_false.2 ⟨l[k], by
          rw [← newName_take hk hi]; exact List.getElem_mem _, by simp [h]⟩)
        have htk : ∀ k (hk : k < i), ((l.take i).take k).all (newName x) = true → newName x l[k] = true → ((l.take i).take (k + 1)).all (newName x) = true := fun k hk h1 h2 =>
          all_snoc (by rw [List.length_take]; omega) h1 (by rw [newName_take hk hi]; exact h2)
        obtain ⟨op, a, b, name, shape, k, n, data⟩ := x
        repeat' ((conv => whnf); first | ((with_reducible apply Xq); assumption) | (with_reducible first | apply Xa | (first | apply xi | apply xp | apply xP); omega | apply Xe | refine Xg (by assumption) ?_) | refine Xo (by assumption) ?_ | refine x_0 (by first | assumption | rfl) ?_ | refine x_1 (by first | assumption | rfl) ?_ | refine Or.inl ⟨rfl, ?_⟩ | (split <;> (first | (rename_i u h; clear u) | rename_i h) <;> (try rewrite [h]) <;> (first | replace h := dt h | replace h := df h | replace h := Nt h | replace h := Nf h | skip) <;> (try dsimp only at h) <;> (first | contradiction | (exfalso; omega) | skip)) | (refine Or.inl ⟨_, by assumption, ?_⟩; first | rintro _ rfl | skip))
        refine ⟨by decide +kernel, [0, 1, 0, 7, 0, 16, 0, 112, 240, 511, 1023, 2047, 2047, 4095, 16383], by decide +kernel, ?_⟩
        repeat' ((conv => whnf); first | ((with_reducible apply Xq); assumption) | (with_reducible first | apply Xa | (first | apply xi | apply xp | apply xP); omega | apply Xe | refine Xg (by assumption) ?_) | refine Xo (by assumption) ?_ | refine x_0 (by first | assumption | rfl) ?_ | refine x_1 (by first | assumption | rfl) ?_ | refine Or.inl ⟨rfl, ?_⟩ | (split <;> (first | (rename_i u h; clear u) | rename_i h) <;> (try rewrite [h]) <;> (first | replace h := dt h | replace h := df h | replace h := Nt h | replace h := Nf h | skip) <;> (try dsimp only at h) <;> (first | contradiction | (exfalso; omega) | skip)) | (refine Or.inl ⟨_, by assumption, ?_⟩; first | rintro _ rfl | skip))
        refine ⟨Int.le_refl _, by omega, by omega, rowN (l.take i), sl_take l i, ?_⟩
        repeat' ((conv => whnf); first | ((with_reducible apply Xq); assumption) | (with_reducible first | apply Xa | (first | apply xi | apply xp | apply xP); omega | apply Xe | refine Xg (by assumption) ?_) | refine Xo (by assumption) ?_ | refine x_0 (by first | assumption | rfl) ?_ | refine x_1 (by first | assumption | rfl) ?_ | refine Or.inl ⟨rfl, ?_⟩ | (split <;> (first | (rename_i u h; clear u) | rename_i h) <;> (try rewrite [h]) <;> (first | replace h := dt h | replace h := df h | replace h := Nt h | replace h := Nf h | skip) <;> (try dsimp only at h) <;> (first | contradiction | (exfalso; omega) | skip)) | (refine Or.inl ⟨_, by assumption, ?_⟩; first | rintro _ rfl | skip))
        refine ⟨[1, 3, 6], [0], fun m st => ∃ (j : Nat), j ≤ i ∧ m = i - j ∧ ((l.take i).take j).all (newName ⟨op, a, b, name, shape, k, n, data⟩) = true ∧
          st = ⟨[(1, .bptr 0 0), (3, .int .i64 (i : Nat)), (6, .int .i64 (j : Nat))], [.box 24 [.ro 8 (rowN l), .int .i64 (q : Nat)]]⟩, rfl,
          ⟨i, 0, by omega, rfl, rfl, rfl⟩, ?_⟩
        rintro m2 _ ⟨j, hj, hm2, ha2, rfl⟩
        rcases Nat.lt_or_ge j i with hji | hge
        · obtain ⟨y, hy⟩ : ∃ y, y = l[j] := ⟨_, rfl⟩
          have g2 : (rowN l)[j]? = some y.cells := by rw [hy]; exact rowN_get (by omega)
          have hb := hnk j hji
          have hg := htk j hji ha2
          rw [← hy] at hb hg
          clear hy hnk htk
          obtain ⟨op2, a2, b2, name2, shape2, k2, n2, data2⟩ := y
          simp only [newName] at hb hg
          by_cases hn : name = ⟨#[]⟩
          · have hg := hg (by simp [hn])
            repeat' ((conv => whnf); first | ((with_reducible apply Xq); assumption) | (with_reducible first | apply Xa | (first | apply xi | apply xp | apply xP); omega | apply Xe | refine Xg (by assumption) ?_) | refine Xo (by assumption) ?_ | refine x_0 (by first | assumption | rfl) ?_ | refine x_1 (by first | assumption | rfl) ?_ | refine Or.inl ⟨rfl, ?_⟩ | (split <;> (first | (rename_i u h; clear u) | rename_i h) <;> (try rewrite [h]) <;> (first | replace h := dt h | replace h := df h | replace h := Nt h | replace h := Nf h | skip) <;> (try dsimp only at h) <;> (first | contradiction | (exfalso; omega) | skip)) | (refine Or.inl ⟨_, by assumption, ?_⟩; first | rintro _ rfl | skip))
            refine ⟨by decide +kernel, [0, 1, 0, 7, 15, 31, 63, 127, 255, 511, 255, 2047, 4095, 8191, 255, 16639, 255, 114943, 246015, 508159, 1048575, 2097151], by decide +kernel, ?_⟩
            repeat' ((conv => whnf); first | ((with_reducible apply Xq); assumption) | (with_reducible first | apply Xa | (first | apply xi | apply xp | apply xP); omega | apply Xe | refine Xg (by assumption) ?_) | refine Xo (by assumption) ?_ | refine x_0 (by first | assumption | rfl) ?_ | refine x_1 (by first | assumption | rfl) ?_ | refine Or.inl ⟨rfl, ?_⟩ | (split <;> (first | (rename_i u h; clear u) | rename_i h) <;> (try rewrite [h]) <;> (first | replace h := dt h | replace h := df h | replace h := Nt h | replace h := Nf h | skip) <;> (try dsimp only at h) <;> (first | contradiction | (exfalso; omega) | skip)) | (refine Or.inl ⟨_, by assumption, ?_⟩; first | rintro _ rfl | skip))
            exact ⟨[0], i - (j + 1), rfl, by omega, j + 1, by omega, rfl, hg, rfl⟩
          · by_cases hnn : name2 = name
            · have hT := hb (by simp [hn, hnn])
              rw [hT]
              repeat' ((conv => whnf); first | ((with_reducible apply Xq); assumption) | (with_reducible first | apply Xa | (first | apply xi | apply xp | apply xP); omega | apply Xe | refine Xg (by assumption) ?_) | refine Xo (by assumption) ?_ | refine x_0 (by first | assumption | rfl) ?_ | refine x_1 (by first | assumption | rfl) ?_ | refine Or.inl ⟨rfl, ?_⟩ | (split <;> (first | (rename_i u h; clear u) | rename_i h) <;> (try rewrite [h]) <;> (first | replace h := dt h | replace h := df h | replace h := Nt h | replace h := Nf h | skip) <;> (try dsimp only at h) <;> (first | contradiction | (exfalso; omega) | skip)) | (refine Or.inl ⟨_, by assumption, ?_⟩; first | rintro _ rfl | skip))
              refine ⟨by decide +kernel, [0, 1, 0, 7, 15, 31, 63, 127, 255, 511, 255, 2047, 4095, 8191, 255, 16639, 255, 114943, 246015, 508159, 1048575, 2097151], by decide +kernel, ?_⟩
              repeat' ((conv => whnf); first | ((with_reducible apply Xq); assumption) | (with_reducible first | apply Xa | (first | apply xi | apply xp | apply xP); omega | apply Xe | refine Xg (by assumption) ?_) | refine Xo (by assumption) ?_ | refine x_0 (by first | assumption | rfl) ?_ | refine x_1 (by first | assumption | rfl) ?_ | refine Or.inl ⟨rfl, ?_⟩ | (split <;> (first | (rename_i u h; clear u) | rename_i h) <;> (try rewrite [h]) <;> (first | replace h := dt h | replace h := df h | replace h := Nt h | replace h := Nf h | skip) <;> (try dsimp only at h) <;> (first | contradiction | (exfalso; omega) | skip)) | (refine Or.inl ⟨_, by assumption, ?_⟩; first | rintro _ rfl | skip))
              all_goals (conv => whnf)
              all_goals rfl
            · have hg := hg (by simp [hnn])
              repeat' ((conv => whnf); first | ((with_reducible apply Xq); assumption) | (with_reducible first | apply Xa | (first | apply xi | apply xp | apply xP); omega | apply Xe | refine Xg (by assumption) ?_) | refine Xo (by assumption) ?_ | refine x_0 (by first | assumption | rfl) ?_ | refine x_1 (by first | assumption | rfl) ?_ | refine Or.inl ⟨rfl, ?_⟩ | (split <;> (first | (rename_i u h; clear u) | rename_i h) <;> (try rewrite [h]) <;> (first | replace h := dt h | replace h := df h | replace h := Nt h | replace h := Nf h | skip) <;> (try dsimp only at h) <;> (first | contradiction | (exfalso; omega) | skip)) | (refine Or.inl ⟨_, by assumption, ?_⟩; first | rintro _ rfl | skip))
              refine ⟨by decide +kernel, [0, 1, 0, 7, 15, 31, 63, 127, 255, 511, 255, 2047, 4095, 8191, 255, 16639, 255, 114943, 246015, 508159, 1048575, 2097151], by decide +kernel, ?_⟩
              repeat' ((conv => whnf); first | ((with_reducible apply Xq); assumption) | (with_reducible first | apply Xa | (first | apply xi | apply xp | apply xP); omega | apply Xe | refine Xg (by assumption) ?_) | refine Xo (by assumption) ?_ | refine x_0 (by first | assumption | rfl) ?_ | refine x_1 (by first | assumption | rfl) ?_ | refine Or.inl ⟨rfl, ?_⟩ | (split <;> (first | (rename_i u h; clear u) | rename_i h) <;> (try rewrite [h]) <;> (first | replace h := dt h | replace h := df h | replace h := Nt h | replace h := Nf h | skip) <;> (try dsimp only at h) <;> (first | contradiction | (exfalso; omega) | skip)) | (refine Or.inl ⟨_, by assumption, ?_⟩; first | rintro _ rfl | skip))
              exact ⟨[0], i - (j + 1), rfl, by omega, j + 1, by omega, rfl, hg, rfl⟩
        · rw [List.take_of_length_le (l := l.take i) (by rw [List.length_take]; omega)] at ha2
          rw [ha2] at hso
          repeat' ((conv => whnf); first | ((with_reducible apply Xq); assumption) | (with_reducible first | apply Xa | (first | apply xi | apply xp | apply xP); omega | apply Xe | refine Xg (by assumption) ?_) | refine Xo (by assumption) ?_ | refine x_0 (by first | assumption | rfl) ?_ | refine x_1 (by first | assumption | rfl) ?_ | refine Or.inl ⟨rfl, ?_⟩ | (split <;> (first | (rename_i u h; clear u) | rename_i h) <;> (try rewrite [h]) <;> (first | replace h := dt h | replace h := df h | replace h := Nt h | replace h := Nf h | skip) <;> (try dsimp only at h) <;> (first | contradiction | (exfalso; omega) | skip)) | (refine Or.inl ⟨_, by assumption, ?_⟩; first | rintro _ rfl | skip))
          exact ⟨[0], l.length - (i + 1), rfl, by omega, i + 1, by omega, rfl, hso, rfl⟩
      · rw [decide_eq_false hss] at hsm
        rw [hbad (by simp [hss])]
        obtain ⟨op, a, b, name, shape, k, n, data⟩ := x
        repeat' ((conv => whnf); first | ((with_reducible apply Xq); assumption) | (with_reducible first | apply Xa | (first | apply xi | apply xp | apply xP); omega | apply Xe | refine Xg (by assumption) ?_) | refine Xo (by assumption) ?_ | refine x_0 (by first | assumption | rfl) ?_ | refine x_1 (by first | assumption | rfl) ?_ | refine Or.inl ⟨rfl, ?_⟩ | (split <;> (first | (rename_i u h; clear u) | rename_i h) <;> (try rewrite [h]) <;> (first | replace h := dt h | replace h := df h | replace h := Nt h | replace h := Nf h | skip) <;> (try dsimp only at h) <;> (first | contradiction | (exfalso; omega) | skip)) | (refine Or.inl ⟨_, by assumption, ?_⟩; first | rintro _ rfl | skip))
        refine ⟨by decide +kernel, [0, 1, 0, 7, 0, 16, 0, 112, 240, 511, 1023, 2047, 2047, 4095, 16383], by decide +kernel, ?_⟩
        repeat' ((conv => whnf); first | ((with_reducible apply Xq); assumption) | (with_reducible first | apply Xa | (first | apply xi | apply xp | apply xP); omega | apply Xe | refine Xg (by assumption) ?_) | refine Xo (by assumption) ?_ | refine x_0 (by first | assumption | rfl) ?_ | refine x_1 (by first | assumption | rfl) ?_ | refine Or.inl ⟨rfl, ?_⟩ | (split <;> (first | (rename_i u h; clear u) | rename_i h) <;> (try rewrite [h]) <;> (first | replace h := dt h | replace h := df h | replace h := Nt h | replace h := Nf h | skip) <;> (try dsimp only at h) <;> (first | contradiction | (exfalso; omega) | skip)) | (refine Or.inl ⟨_, by assumption, ?_⟩; first | rintro _ rfl | skip))
        refine ⟨Int.le_refl _, by omega, by omega, rowN (l.take i), sl_take l i, ?_⟩
        repeat' ((conv => whnf); first | ((with_reducible apply Xq); assumption) | (with_reducible first | apply Xa | (first | apply xi | apply xp | apply xP); omega | apply Xe | refine Xg (by assumption) ?_) | refine Xo (by assumption) ?_ | refine x_0 (by first | assumption | rfl) ?_ | refine x_1 (by first | assumption | rfl) ?_ | refine Or.inl ⟨rfl, ?_⟩ | (split <;> (first | (rename_i u h; clear u) | rename_i h) <;> (try rewrite [h]) <;> (first | replace h := dt h | replace h := df h | replace h := Nt h | replace h := Nf h | skip) <;> (try dsimp only at h) <;> (first | contradiction | (exfalso; omega) | skip)) | (refine Or.inl ⟨_, by assumption, ?_⟩; first | rintro _ rfl | skip))
        all_goals (conv => whnf)
        all_goals rfl
  · have hi2 : i = l.length := by omega
    subst hi2
    rw [ha]
    repeat' ((conv => whnf); first | ((with_reducible apply Xq); assumption) | (with_reducible first | apply Xa | (first | apply xi | apply xp | apply xP); omega | apply Xe | refine Xg (by assumption) ?_) | refine Xo (by assumption) ?_ | refine x_0 (by first | assumption | rfl) ?_ | refine x_1 (by first | assumption | rfl) ?_ | refine Or.inl ⟨rfl, ?_⟩ | (split <;> (first | (rename_i u h; clear u) | rename_i h) <;> (try rewrite [h]) <;> (first | replace h := dt h | replace h := df h | replace h := Nt h | replace h := Nf h | skip) <;> (try dsimp only at h) <;> (first | contradiction | (exfalso; omega) | skip)) | (refine Or.inl ⟨_, by assumption, ?_⟩; first | rintro _ rfl | skip))
    all_goals (conv => whnf)
    all_goals rfl
end Go.V
namespace Go.V
open Go.N
set_option maxRecDepth 20000
def usesN (x : Nd) (k : Nat) : Bool := (decide (0 < partsZ x.op) && decide (x.a = (k : Int))) || (decide (1 < partsZ x.op) && decide (x.b = (k : Int)))
inductive NeedP (g : Gr) (keep : List Int) : Nat → Prop
  | loss {i : Nat} : (i : Int) = g.loss → NeedP g keep i
  | keep {i : Nat} : (i : Int) ∈ keep → NeedP g keep i
  | name {i : Nat} {x : Nd} : g.nodes[i]? = some x → x.name ≠ ⟨#[]⟩ → NeedP g keep i
  | use {i j : Nat} {x : Nd} : i < j → g.nodes[j]? = some x → usesN x i = true → NeedP g keep j → NeedP g keep i
def PreP (g : Gr) (keep : List Int) (m j : Nat) : Prop := (j : Int) = g.loss ∨ (j : Int) ∈ keep ∨ ∃ k x, m ≤ k ∧ g.nodes[k]? = some x ∧ usesN x j = true ∧ NeedP g keep k
theorem need_iff {g : Gr} {keep : List Int} {i : Nat} {x : Nd} (hx : g.nodes[i]? = some x) : NeedP g keep i ↔ PreP g keep (i + 1) i ∨ x.name ≠ ⟨#[]⟩ := by
  constructor
  · intro h
    cases h with
    | loss h => exact .inl (.inl h)
    | keep h => exact .inl (.inr (.inl h))
    | name h1 h2 => rw [hx] at h1; cases h1; exact .inr h2
    | use h1 h2 h3 h4 => exact .inl (.inr (.inr ⟨_, _, h1, h2, h3, h4⟩))
  · rintro ((h | h | ⟨k, y, h1, h2, h3, h4⟩) | h)
    · exact .loss h
    · exact .keep h
    · exact .use h1 h2 h3 h4
    · exact .name hx h
theorem pre_step {g : Gr} {keep : List Int} {i j : Nat} {x : Nd} (hx : g.nodes[i]? = some x) : PreP g keep i j ↔ PreP g keep (i + 1) j ∨ (NeedP g keep i ∧ usesN x j = true) := by
  constructor
  · rintro (h | h | ⟨k, y, h1, h2, h3, h4⟩)
    · exact .inl (.inl h)
    · exact .inl (.inr (.inl h))
    · rcases Nat.eq_or_lt_of_le h1 with h | h
      · subst h; rw [hx] at h2; cases h2; exact .inr ⟨h4, h3⟩
      · exact .inl (.inr (.inr ⟨k, y, h, h2, h3, h4⟩))
  · rintro ((h | h | ⟨k, y, h1, h2, h3, h4⟩) | ⟨h1, h2⟩)
    · exact .inl h
    · exact .inr (.inl h)
    · exact .inr (.inr ⟨k, y, by omega, h2, h3, h4⟩)
    · exact .inr (.inr ⟨i, x, Nat.le_refl _, hx, h2, h1⟩)
theorem pre_top {g : Gr} {keep : List Int} {m j : Nat} (h : g.nodes.length ≤ m) : PreP g keep m j ↔ (j : Int) = g.loss ∨ (j : Int) ∈ keep := by
  constructor
  · rintro (h1 | h1 | ⟨k, y, h1, h2, h3, h4⟩)
    · exact .inl h1
    · exact .inr h1
    · have := (List.getElem?_eq_some_iff.1 h2).1; omega
  · rintro (h1 | h1)
    · exact .inl h1
    · exact .inr (.inl h1)
open Classical in
noncomputable def NB (g : Gr) (keep : List Int) (j : Nat) : Bool := decide (NeedP g keep j)
theorem NB_iff {g : Gr} {keep : List Int} {j : Nat} : NB g keep j = true ↔ NeedP g keep j := by simp [NB]
def fB (n : Nat) (F : Nat → Bool) : List (List AV) := (List.range n).map fun j => [.bool (F j)]
@[simp] theorem fB_length (n : Nat) (F : Nat → Bool) : (fB n F).length = n := by simp [fB]
theorem fB_get {n k : Nat} {F : Nat → Bool} (h : k < n) : (fB n F)[k]? = some [.bool (F k)] := by simp [fB, h]
def updB (F : Nat → Bool) (k : Nat) (v : Bool) : Nat → Bool := fun j => if j = k then v else F j
theorem fB_set (n k : Nat) (F : Nat → Bool) (v : Bool) : (fB n F).set k [.bool v] = fB n (updB F k v) := by
  refine List.ext_getElem? fun j => ?_
  rw [List.getElem?_set]
  by_cases hj : j < n
  · by_cases hk : k = j
    · subst hk; simp [fB, hj, updB]
    · simp [hk, fB, hj, updB, show ¬ j = k from fun e => hk e.symm]
  · have : (fB n (updB F k v))[j]? = none := by simp [fB, hj]
    rw [this]
    by_cases hk : k = j
    · simp [hk, hj]
    · simp [hk, fB, hj]
theorem fB_zero (n : Nat) : List.replicate n [.bool false] = fB n fun _ => false := by simp [fB, List.map_const']
theorem fB_congr {n : Nat} {F G : Nat → Bool} (h : ∀ j, j < n → F j = G j) : fB n F = fB n G := List.map_congr_left fun j hj => by rw [h j (List.mem_range.1 hj)]
theorem updB_same (F : Nat → Bool) (k : Nat) (v : Bool) : updB F k v k = v := if_pos rfl
theorem updB_ne (F : Nat → Bool) {k j : Nat} (v : Bool) (h : j ≠ k) : updB F k v j = F j := if_neg h
def keepOK (g : Gr) (keep : List Int) : Bool := !(keep.any fun x => decide (x < 0) || decide ((g.nodes.length : Int) ≤ x))
def okDead (g : Gr) (keep : List Int) : Bool := grOK g && keepOK g keep
theorem keepOK_get {g : Gr} {keep : List Int} (h : keepOK g keep = true) {x : Int} (hx : x ∈ keep) : ∃ k : Nat, x = k ∧ k < g.nodes.length := by
  simp only [keepOK, Bool.not_eq_true', List.any_eq_false] at h
  have := h x hx
  simp only [Bool.or_eq_true, decide_eq_true_eq] at this
  exact ⟨x.toNat, by omega, by omega⟩
theorem allTo_get {l : List Nd} {n i : Nat} (h : allTo l n = true) (hi : i < n) : ndAt l i = true := List.all_eq_true.1 h i (List.mem_range.2 hi)
theorem ok_node {g : Gr} (h : grOK g = true) {i : Nat} {x : Nd} (hx : g.nodes[i]? = some x) : ndOK (g.nodes.take i) x = true := by
  simp only [grOK, Bool.and_eq_true] at h
  have h1 := (List.getElem?_eq_some_iff.1 hx).1
  have := allTo_get h.2 h1
  rw [ndAt, hx] at this
  exact this
theorem ok_infer {g : Gr} (h : grOK g = true) {i : Nat} {x : Nd} (hx : g.nodes[i]? = some x) : inferN (g.nodes.take i) x = some x.shape := by
  have := ok_node h hx
  simp only [ndOK, Bool.and_eq_true, decide_eq_true_eq] at this
  exact this.1
theorem ok_fit {g : Gr} (h : grOK g = true) {i : Nat} {x : Nd} (hx : g.nodes[i]? = some x) : ∃ m, opParts x.op = some m ∧ Fit (g.nodes.take i) x m := by
  have h1 := ok_infer h hx
  cases hp : opParts x.op with
  | none => rw [inferN_none hp] at h1; cases h1
  | some m =>
    cases hf : fitN (g.nodes.take i) x m with
    | false => rw [inferN_bad hp hf] at h1; cases h1
    | true => exact ⟨m, rfl, (fit_iff _ _ _).1 hf⟩
theorem inR_take {l : List Nd} {i : Nat} {a : Int} (h : inR a (l.take i) = true) : ∃ k : Nat, a = k ∧ k < i := by
  obtain ⟨k, hk, hl⟩ := inR_nat h
  exact ⟨k, hk, by rw [List.length_take] at hl; omega⟩
theorem ok_parts {g : Gr} (h : grOK g = true) {i : Nat} {x : Nd} (hx : g.nodes[i]? = some x) : ∀ p ∈ dParts x, ∃ k : Nat, p = k ∧ k < i := by
  obtain ⟨m, hp, F⟩ := ok_fit h hx
  have hm := opParts_le hp
  intro p hpm
  rw [dParts, hp] at hpm
  have h3 : m = 0 ∨ m = 1 ∨ m = 2 := by omega
  rcases h3 with rfl | rfl | rfl
  · simp at hpm
  · simp at hpm; subst hpm; exact inR_take (F.ia (by decide))
  · simp at hpm
    rcases hpm with rfl | rfl
    · exact inR_take (F.ia (by decide))
    · exact inR_take (F.ib (by decide))
theorem ok_uses {g : Gr} (h : grOK g = true) {i : Nat} {x : Nd} (hx : g.nodes[i]? = some x) (j : Nat) : usesN x j = true ↔ (j : Int) ∈ dParts x := by
  obtain ⟨m, hp, F⟩ := ok_fit h hx
  have hm := opParts_le hp
  have h3 : m = 0 ∨ m = 1 ∨ m = 2 := by omega
  rw [usesN, dParts, partsZ, hp]
  rcases h3 with rfl | rfl | rfl
  · show (false && decide (x.a = (j : Int)) || false && decide (x.b = (j : Int))) = true ↔ (j : Int) ∈ []
    simp only [Bool.false_and, Bool.or_false, List.not_mem_nil, Bool.false_eq_true]
  · show (true && decide (x.a = (j : Int)) || false && decide (x.b = (j : Int))) = true ↔ (j : Int) ∈ [x.a]
    simp only [Bool.true_and, Bool.false_and, Bool.or_false, decide_eq_true_eq, List.mem_singleton]
    exact eq_comm
  · show (true && decide (x.a = (j : Int)) || true && decide (x.b = (j : Int))) = true ↔ (j : Int) ∈ [x.a, x.b]
    simp only [Bool.true_and, Bool.or_eq_true, decide_eq_true_eq, List.mem_cons, List.not_mem_nil, or_false]
    exact ⟨fun e => e.imp Eq.symm Eq.symm, fun e => e.imp Eq.symm Eq.symm⟩
theorem ok_pre {g : Gr} (h : grOK g = true) : 1 ≤ g.nodes.length ∧ g.nodes.length ≤ 200 ∧ ∃ q : Nat, g.loss = q ∧ q < g.nodes.length := by
  simp only [grOK, preG, Bool.and_eq_true, decide_eq_true_eq] at h
  exact ⟨h.1.1.1.1, h.1.1.1.2, inR_nat h.1.1.2⟩
end Go.V
namespace Go.V
open Go.N
set_option maxRecDepth 20000
def T_dNeeded : Tab := [(24, ⟨.strc [(0, 1, false), (1, 1, false)], 2, 32, (.agg #[(.slice none 0 0), (.int .i64 0)]), [8, 0]⟩), (4, ⟨.bool, 1, 1, (.bool false), [0]⟩), (25, ⟨.slice 3, 1, 24, (.slice none 0 0), [1]⟩), (3, ⟨.int .i64, 1, 8, (.int .i64 0), [0]⟩), (22, ⟨.slice 43, 1, 24, (.slice none 0 0), [8]⟩), (43, ⟨.strc [(0, 1, false), (1, 1, false), (2, 1, false), (3, 1, false), (4, 1, false), (5, 1, false), (6, 1, false), (7, 1, false)], 8, 120, (.agg #[(.string .empty), (.int .i64 0), (.int .i64 0), (.string .empty), (.slice none 0 0), (.string .empty), (.int .i64 0), (.slice none 0 0)]), [0, 0, 0, 0, 1, 0, 0, 1]⟩), (28, ⟨.slice 4, 1, 24, (.slice none 0 0), [1]⟩), (9, ⟨.str, 1, 16, (.string .empty), [0]⟩)]
theorem TOK_dNeeded : TOK Go.Proofs.Tryz.prog T_dNeeded := ⟨⟨info_of Go.Proofs.Tryz.type24 rfl, by decide +kernel, by decide +kernel⟩, ⟨⟨info_of Go.Proofs.Tryz.type4 rfl, by decide +kernel, by decide +kernel⟩, ⟨⟨info_of Go.Proofs.Tryz.type25 rfl, by decide +kernel, by decide +kernel⟩, ⟨⟨info_of Go.Proofs.Tryz.type3 rfl, by decide +kernel, by decide +kernel⟩, ⟨⟨info_of Go.Proofs.Tryz.type22 rfl, by decide +kernel, by decide +kernel⟩, ⟨⟨info_of Go.Proofs.Tryz.type43 rfl, by decide +kernel, by decide +kernel⟩, ⟨⟨info_of Go.Proofs.Tryz.type28 rfl, by decide +kernel, by decide +kernel⟩, ⟨⟨info_of Go.Proofs.Tryz.type9 rfl, by decide +kernel, by decide +kernel⟩, trivial⟩⟩⟩⟩⟩⟩⟩⟩
def T_dN1 : Tab := [(3, ⟨.int .i64, 1, 8, (.int .i64 0), [0]⟩), (24, ⟨.strc [(0, 1, false), (1, 1, false)], 2, 32, (.agg #[(.slice none 0 0), (.int .i64 0)]), [8, 0]⟩), (22, ⟨.slice 43, 1, 24, (.slice none 0 0), [8]⟩), (43, ⟨.strc [(0, 1, false), (1, 1, false), (2, 1, false), (3, 1, false), (4, 1, false), (5, 1, false), (6, 1, false), (7, 1, false)], 8, 120, (.agg #[(.string .empty), (.int .i64 0), (.int .i64 0), (.string .empty), (.slice none 0 0), (.string .empty), (.int .i64 0), (.slice none 0 0)]), [0, 0, 0, 0, 1, 0, 0, 1]⟩)]
theorem TOK_dN1 : TOK Go.Proofs.Tryz.prog T_dN1 := ⟨⟨info_of Go.Proofs.Tryz.type3 rfl, by decide +kernel, by decide +kernel⟩, ⟨⟨info_of Go.Proofs.Tryz.type24 rfl, by decide +kernel, by decide +kernel⟩, ⟨⟨info_of Go.Proofs.Tryz.type22 rfl, by decide +kernel, by decide +kernel⟩, ⟨⟨info_of Go.Proofs.Tryz.type43 rfl, by decide +kernel, by decide +kernel⟩, trivial⟩⟩⟩⟩
theorem c_dN1 (gl : Gl) (l : List Nd) (p x : Int) : VCall Go.Proofs.Tryz.prog gl 17 [.int .i64 x, .rp [.ro 8 (rowN l), .int .i64 p]] (fun y => y = .bool (decide (x < 0) || decide ((l.length : Int) ≤ x))) := by
  rw [← rowN_length]
  refine vcall_of TOK_dN1 HM Go.Proofs.Tryz.func17 rfl (by decide +kernel) (by decide +kernel) rfl ?_
  repeat' ((conv => whnf); first | ((with_reducible apply Xq); assumption) | (with_reducible first | apply Xa | (first | apply xi | apply xp | apply xP); omega | apply Xe | refine Xg (by assumption) ?_) | refine Xo (by assumption) ?_ | refine x_0 (by first | assumption | rfl) ?_ | refine x_1 (by first | assumption | rfl) ?_ | refine Or.inl ⟨rfl, ?_⟩ | (split <;> (first | (rename_i u h; clear u) | rename_i h) <;> (try rewrite [h]) <;> (first | replace h := dt h | replace h := df h | replace h := Nt h | replace h := Nf h | skip) <;> (try dsimp only at h) <;> (first | contradiction | (exfalso; omega) | skip)) | (refine Or.inl ⟨_, by assumption, ?_⟩; first | rintro _ rfl | skip))
  all_goals (conv => whnf)
  · exact congrArg AV.bool (by simp [h])
  · exact congrArg AV.bool (by simp [h])
theorem dParts_len (x : Nd) : (dParts x).length ≤ 2 := by unfold dParts; split <;> simp
set_option maxHeartbeats 4000000 in
theorem c_dNeeded (g : Gr) (keep : List Int) (hs : ∀ x ∈ g.nodes, x.Sm) (hl : g.nodes.length ≤ 1000) (hk : keep.length ≤ 1000) :
    VCall Go.Proofs.Tryz.prog GL 7 [.agg g.cells, .ro 1 (rowZ keep)] (fun y => y = if okDead g keep = true then .tup [.ro 1 (fB g.nodes.length (NB g keep)), .int .i64 0] else .tup [.ro 1 [], .int .i64 1]) := by
  have hR := c_gRight g hs hl
  have hpre := @ok_pre g
  have hpt := @ok_parts g
  have hus := @ok_uses g
  have hcf := c_ContainsFuncI GL 17 [.ro 8 (rowN g.nodes), .int .i64 g.loss] keep (fun x => decide (x < 0) || decide ((g.nodes.length : Int) ≤ x)) (by omega) (fun x _ => c_dN1 GL g.nodes g.loss x)
  have hke := @keepOK_get g keep
  have hk2 : keepOK g keep = !(keep.any fun x => decide (x < 0) || decide ((g.nodes.length : Int) ≤ x)) := rfl
  generalize (keep.any fun x => decide (x < 0) || decide ((g.nodes.length : Int) ≤ x)) = bad at hcf hk2
  refine VCall.taken ?_
  cases hok : okDead g keep
  · rw [if_neg (by simp)]
    obtain ⟨l, p⟩ := g
    show VCall _ _ _ [.agg [.ro 8 (rowN l), .int .i64 p], _] _
    refine vcall_of TOK_dNeeded HM Go.Proofs.Tryz.func7 rfl (by decide +kernel) (by decide +kernel) rfl ?_
    cases hg : grOK ⟨l, p⟩
    · rw [hg] at hR
      repeat' ((conv => whnf); first | ((with_reducible apply Xq); assumption) | (with_reducible first | apply Xa | (first | apply xi | apply xp | apply xP); omega | apply Xe | refine Xg (by assumption) ?_) | refine Xo (by assumption) ?_ | refine x_0 (by first | assumption | rfl) ?_ | refine x_1 (by first | assumption | rfl) ?_ | refine Or.inl ⟨rfl, ?_⟩ | (split <;> (first | (rename_i u h; clear u) | rename_i h) <;> (try rewrite [h]) <;> (first | replace h := dt h | replace h := df h | replace h := Nt h | replace h := Nf h | skip) <;> (try dsimp only at h) <;> (first | contradiction | (exfalso; omega) | skip)) | (refine Or.inl ⟨_, by assumption, ?_⟩; first | rintro _ rfl | skip))
      all_goals (conv => whnf)
      all_goals exact ⟨_, roTo2 (show RoTo .nils (.ro 1 []) from ⟨1, rfl⟩) rfl, rfl⟩
    · rw [hg] at hR
      have hb : bad = true := by
        rw [okDead, hg, hk2] at hok
        cases bad
        · exact absurd hok (by decide)
        · rfl
      rw [hb] at hcf
      repeat' ((conv => whnf); first | ((with_reducible apply Xq); assumption) | (with_reducible first | apply Xa | (first | apply xi | apply xp | apply xP); omega | apply Xe | refine Xg (by assumption) ?_) | refine Xo (by assumption) ?_ | refine x_0 (by first | assumption | rfl) ?_ | refine x_1 (by first | assumption | rfl) ?_ | refine Or.inl ⟨rfl, ?_⟩ | (split <;> (first | (rename_i u h; clear u) | rename_i h) <;> (try rewrite [h]) <;> (first | replace h := dt h | replace h := df h | replace h := Nt h | replace h := Nf h | skip) <;> (try dsimp only at h) <;> (first | contradiction | (exfalso; omega) | skip)) | (refine Or.inl ⟨_, by assumption, ?_⟩; first | rintro _ rfl | skip))
      all_goals (conv => whnf)
      all_goals exact ⟨_, roTo2 (show RoTo .nils (.ro 1 []) from ⟨1, rfl⟩) rfl, rfl⟩
  have hg : grOK g = true := by simp only [okDead, Bool.and_eq_true] at hok; exact hok.1
  have hkk : keepOK g keep = true := by simp only [okDead, Bool.and_eq_true] at hok; exact hok.2
  rw [if_pos rfl]
  have hb : bad = false := by rw [hkk] at hk2; cases bad; rfl; exact absurd hk2 (by decide)
  rw [hb] at hcf
  rw [hg] at hR
  obtain ⟨h1, h2, q, hq1, hq⟩ := hpre hg
  have hpt1 := fun {i : Nat} {x : Nd} => @hpt hg i x
  have hus1 := fun {i : Nat} {x : Nd} => @hus hg i x
  have hke1 := @hke hkk
  clear hpt hus hke
  have hni := @need_iff g keep
  have hps := @pre_step g keep
  have hpt2 := @pre_top g keep
  have hNB := @NB_iff g keep
  have hget : ∀ i (h : i < g.nodes.length), g.nodes[i]? = some g.nodes[i] := fun i h => List.getElem?_eq_getElem h
  clear hok hkk hk2 hg hpre
  obtain ⟨l, p⟩ := g
  dsimp only at *
  subst hq1
  generalize NB ⟨l, (q : Int)⟩ keep = N at hNB ⊢
  generalize NeedP ⟨l, (q : Int)⟩ keep = NP at hNB hni hps
  generalize PreP ⟨l, (q : Int)⟩ keep = PP at hni hps hpt2
  show VCall _ _ _ [.agg [.ro 8 (rowN l), .int .i64 (q : Nat)], _] _
  have hlr := rowN_length l
  have hkl := rowZ_length keep
  refine vcall_of TOK_dNeeded HM Go.Proofs.Tryz.func7 rfl (by decide +kernel) (by decide +kernel) rfl ?_
  repeat' ((conv => whnf); first | ((with_reducible apply Xq); assumption) | (with_reducible first | apply Xa | (first | apply xi | apply xp | apply xP); omega | apply Xe | refine Xg (by assumption) ?_) | refine Xo (by assumption) ?_ | refine x_0 (by first | assumption | rfl) ?_ | refine x_1 (by first | assumption | rfl) ?_ | refine Or.inl ⟨rfl, ?_⟩ | (split <;> (first | (rename_i u h; clear u) | rename_i h) <;> (try rewrite [h]) <;> (first | replace h := dt h | replace h := df h | replace h := Nt h | replace h := Nf h | skip) <;> (try dsimp only at h) <;> (first | contradiction | (exfalso; omega) | skip)) | (refine Or.inl ⟨_, by assumption, ?_⟩; first | rintro _ rfl | skip))
  refine ⟨by omega, Int.le_refl _, by omega, (show ((rowN l).length : Int) * ((1 : Nat) : Int) ≤ 140737488355328 by omega), l.length, congrArg Nat.cast hlr, ?_⟩
  have hz : (List.replicate l.length [AV.bool false])[0 + q]? = some [.bool false] := by simp [hq]
  repeat' ((conv => whnf); first | ((with_reducible apply Xq); assumption) | (with_reducible first | apply Xa | (first | apply xi | apply xp | apply xP); omega | apply Xe | refine Xg (by assumption) ?_) | refine Xo (by assumption) ?_ | refine x_0 (by first | assumption | rfl) ?_ | refine x_1 (by first | assumption | rfl) ?_ | refine Or.inl ⟨rfl, ?_⟩ | (split <;> (first | (rename_i u h; clear u) | rename_i h) <;> (try rewrite [h]) <;> (first | replace h := dt h | replace h := df h | replace h := Nt h | replace h := Nf h | skip) <;> (try dsimp only at h) <;> (first | contradiction | (exfalso; omega) | skip)) | (refine Or.inl ⟨_, by assumption, ?_⟩; first | rintro _ rfl | skip))
  refine ⟨[2, 6, 28, 29, 30], [0, 1], fun m st => ∃ (t : Nat) (F : Nat → Bool), t ≤ keep.length ∧ m = keep.length - t ∧ (∀ j, j < l.length → (F j = true ↔ (j = q ∨ (j : Int) ∈ keep.take t))) ∧
    st = ⟨[(2, .bptr 0 0), (6, .own 1 0 l.length), (28, .ro 1 (rowZ keep)), (29, .int .i64 ((rowZ keep).length : Nat)), (30, .int .i64 (t : Nat))], [.box 24 [.ro 8 (rowN l), .int .i64 (q : Nat)], .row false 4 1 (fB l.length F)]⟩, rfl,
    ⟨keep.length, 0, updB (fun _ => false) q true, by omega, rfl, fun j hj => by unfold updB; split <;> simp_all, Eq.trans rfl (congrArg (fun z => (⟨[(2, .bptr 0 0), (6, .own 1 0 l.length), (28, .ro 1 (rowZ keep)), (29, .int .i64 ((rowZ keep).length : Nat)), (30, .int .i64 ((0 : Nat) : Int))], [.box 24 [.ro 8 (rowN l), .int .i64 (q : Nat)], .row false 4 1 z]⟩ : St))
      (show (List.replicate l.length [AV.bool false]).set (0 + q) [.bool true] = _ by rw [fB_zero, Nat.zero_add, fB_set]))⟩, ?_⟩
  rintro m _ ⟨t, F, ht, hm, hF, rfl⟩
  rcases Nat.lt_or_ge t keep.length with htl | hge
  · obtain ⟨k, hk1, hk2⟩ := hke1 (List.getElem_mem htl)
    have g : (rowZ keep)[t]? = some [.int .i64 (k : Nat)] := by rw [rowZ_get htl, hk1]
    have g2 : (fB l.length F)[0 + k]? = some [.bool (F k)] := by rw [Nat.zero_add]; exact fB_get hk2
    have e : (fB l.length F).set (0 + k) [.bool true] = fB l.length (updB F k true) := by rw [Nat.zero_add, fB_set]
    have hF' : ∀ j, j < l.length → (updB F k true j = true ↔ (j = q ∨ (j : Int) ∈ keep.take (t + 1))) := fun j hj => by
      rw [List.take_succ_eq_append_getElem htl, List.mem_append, List.mem_singleton, hk1, Int.ofNat_inj, ← or_assoc, ← hF j hj]
      unfold updB
      split <;> simp_all
    repeat' ((conv => whnf); first | ((with_reducible apply Xq); assumption) | (with_reducible first | apply Xa | (first | apply xi | apply xp | apply xP); omega | apply Xe | refine Xg (by assumption) ?_) | refine Xo (by assumption) ?_ | refine x_0 (by first | assumption | rfl) ?_ | refine x_1 (by first | assumption | rfl) ?_ | refine Or.inl ⟨rfl, ?_⟩ | (split <;> (first | (rename_i u h; clear u) | rename_i h) <;> (try rewrite [h]) <;> (first | replace h := dt h | replace h := df h | replace h := Nt h | replace h := Nf h | skip) <;> (try dsimp only at h) <;> (first | contradiction | (exfalso; omega) | skip)) | (refine Or.inl ⟨_, by assumption, ?_⟩; first | rintro _ rfl | skip))
    exact ⟨[0, 1], keep.length - (t + 1), rfl, by omega, t + 1, _, by omega, rfl, hF', Eq.trans rfl (congrArg (fun z => (⟨[(2, .bptr 0 0), (6, .own 1 0 l.length), (28, .ro 1 (rowZ keep)), (29, .int .i64 ((rowZ keep).length : Nat)), (30, .int .i64 ((t + 1 : Nat) : Int))], [.box 24 [.ro 8 (rowN l), .int .i64 (q : Nat)], .row false 4 1 z]⟩ : St)) e)⟩
  rw [List.take_of_length_le (by omega)] at hF
  repeat' ((conv => whnf); first | ((with_reducible apply Xq); assumption) | (with_reducible first | apply Xa | (first | apply xi | apply xp | apply xP); omega | apply Xe | refine Xg (by assumption) ?_) | refine Xo (by assumption) ?_ | refine x_0 (by first | assumption | rfl) ?_ | refine x_1 (by first | assumption | rfl) ?_ | refine Or.inl ⟨rfl, ?_⟩ | (split <;> (first | (rename_i u h; clear u) | rename_i h) <;> (try rewrite [h]) <;> (first | replace h := dt h | replace h := df h | replace h := Nt h | replace h := Nf h | skip) <;> (try dsimp only at h) <;> (first | contradiction | (exfalso; omega) | skip)) | (refine Or.inl ⟨_, by assumption, ?_⟩; first | rintro _ rfl | skip))
  refine ⟨[2, 6, 9], [0, 1], fun m st => ∃ (e : Int) (F : Nat → Bool), e = (m : Int) - 1 ∧ m ≤ l.length ∧ (∀ j, j < l.length → (F j = true ↔ (if m ≤ j then NP j else PP m j))) ∧
    st = ⟨[(2, .bptr 0 0), (6, .own 1 0 l.length), (9, .int .i64 e)], [.box 24 [.ro 8 (rowN l), .int .i64 (q : Nat)], .row false 4 1 (fB l.length F)]⟩, rfl,
    ⟨l.length, _, F, by omega, Nat.le_refl _, fun j hj => by rw [if_neg (by omega), hpt2 (Nat.le_refl _), hF j hj, Int.ofNat_inj], rfl⟩, ?_⟩
  clear hF hm ht hge F
  rintro m _ ⟨e, F, he, hml, hF, rfl⟩
  rcases m with _ | i
  · have e1 : e = -1 := by omega
    subst e1
    repeat' ((conv => whnf); first | ((with_reducible apply Xq); assumption) | (with_reducible first | apply Xa | (first | apply xi | apply xp | apply xP); omega | apply Xe | refine Xg (by assumption) ?_) | refine Xo (by assumption) ?_ | refine x_0 (by first | assumption | rfl) ?_ | refine x_1 (by first | assumption | rfl) ?_ | refine Or.inl ⟨rfl, ?_⟩ | (split <;> (first | (rename_i u h; clear u) | rename_i h) <;> (try rewrite [h]) <;> (first | replace h := dt h | replace h := df h | replace h := Nt h | replace h := Nf h | skip) <;> (try dsimp only at h) <;> (first | contradiction | (exfalso; omega) | skip)) | (refine Or.inl ⟨_, by assumption, ?_⟩; first | rintro _ rfl | skip))
    refine .inl ⟨(fB_length _ _).symm, ?_⟩
    repeat' ((conv => whnf); first | ((with_reducible apply Xq); assumption) | (with_reducible first | apply Xa | (first | apply xi | apply xp | apply xP); omega | apply Xe | refine Xg (by assumption) ?_) | refine Xo (by assumption) ?_ | refine x_0 (by first | assumption | rfl) ?_ | refine x_1 (by first | assumption | rfl) ?_ | refine Or.inl ⟨rfl, ?_⟩ | (split <;> (first | (rename_i u h; clear u) | rename_i h) <;> (try rewrite [h]) <;> (first | replace h := dt h | replace h := df h | replace h := Nt h | replace h := Nf h | skip) <;> (try dsimp only at h) <;> (first | contradiction | (exfalso; omega) | skip)) | (refine Or.inl ⟨_, by assumption, ?_⟩; first | rintro _ rfl | skip))
    all_goals (conv => whnf)
    exact ⟨_, roTo2 rfl rfl, congrArg (fun z => AV.tup [.ro 1 z, .int .i64 0]) (fB_congr fun j hj => by
      rw [Bool.eq_iff_iff, hNB, hF j hj, if_pos (Nat.zero_le _)])⟩
  have e1 : e = (i : Int) := by omega
  subst e1
  have hil : i < l.length := by omega
  obtain ⟨x, hx⟩ : ∃ x, x = l[i] := ⟨_, rfl⟩
  have hgx : l[i]? = some x := by rw [hx]; exact hget i hil
  have g : (rowN l)[i]? = some x.cells := by rw [hx]; exact rowN_get hil
  have hdp := c_dparts GL x
  have hDn := hpt1 hgx
  have hDu := fun j => hus1 hgx j
  have hni := hni hgx
  have hps := fun j => @hps i j x hgx
  have hFi : F i = true ↔ PP (i + 1) i := by rw [hF i hil, if_neg (by omega)]
  have hlD := rowZ_length (dParts x)
  have hD2 := dParts_len x
  have g2 : (fB l.length F)[0 + i]? = some [.bool (F i)] := by rw [Nat.zero_add]; exact fB_get hil
  have hloop : ∀ (D : List Int) (F0 : Nat → Bool) (t : Nat) (k : Nat) (v : Bool), (∀ j, j < l.length → (F0 j = true ↔ (if i ≤ j then NP j else PP (i + 1) j ∨ (NP i ∧ (j : Int) ∈ D.take t)))) → k < i → (htD : t < D.length) → D[t] = (k : Int) →
      v = (F0 k || F0 i) → ∀ j, j < l.length → (updB F0 k v j = true ↔ (if i ≤ j then NP j else PP (i + 1) j ∨ (NP i ∧ (j : Int) ∈ D.take (t + 1)))) := fun D F0 t k v h0 hki htD hk hv j hj => by
    rw [List.take_succ_eq_append_getElem htD, hk]
    have hi2 := h0 i hil
    rw [if_pos (Nat.le_refl _)] at hi2
    have hk2 := h0 k (by omega)
    rw [if_neg (by omega)] at hk2
    by_cases hjk : j = k
    · subst hjk
      rw [updB_same, if_neg (by omega), hv, Bool.or_eq_true, hk2, hi2]
      simp only [List.mem_append, List.mem_singleton]
      constructor
      · rintro ((h | ⟨h, h'⟩) | h)
        · exact .inl h
        · exact .inr ⟨h, .inl h'⟩
        · exact .inr ⟨h, .inr trivial⟩
      · rintro (h | ⟨h, h'⟩)
        · exact .inl (.inl h)
        · exact .inr h
    · rw [updB_ne _ _ hjk, h0 j hj]
      have : ¬ (j : Int) = (k : Int) := by omega
      simp only [List.mem_append, List.mem_singleton, this, or_false]
  obtain ⟨op, a, b, name, shape, k, n, data⟩ := x
  generalize dParts ⟨op, a, b, name, shape, k, n, data⟩ = D at hdp hDn hDu hlD hD2
  dsimp only at hni
  cases hFb : F i
  · rw [hFb] at g2
    have e : (fB l.length F).set (0 + i) [.bool (!decide (name = ⟨#[]⟩))] = fB l.length (updB F i (!decide (name = ⟨#[]⟩))) := by rw [Nat.zero_add, fB_set]
    have hF0 : ∀ j, j < l.length → (updB F i (!decide (name = ⟨#[]⟩)) j = true ↔ (if i ≤ j then NP j else PP (i + 1) j ∨ (NP i ∧ (j : Int) ∈ D.take 0))) := fun j hj => by
      by_cases hji : j = i
      · subst hji
        rw [updB_same, if_pos (Nat.le_refl _)]
        rw [hFb] at hFi; simp only [Bool.not_eq_true', decide_eq_false_iff_not]; rw [hni, ← hFi]; simp
      · rw [updB_ne _ _ hji, hF j hj]
        by_cases hlt : i ≤ j
        · rw [if_pos hlt, if_pos (by omega)]
        · rw [if_neg hlt, if_neg (by omega)]; simp
    repeat' ((conv => whnf); first | ((with_reducible apply Xq); assumption) | (with_reducible first | apply Xa | (first | apply xi | apply xp | apply xP); omega | apply Xe | refine Xg (by assumption) ?_) | refine Xo (by assumption) ?_ | refine x_0 (by first | assumption | rfl) ?_ | refine x_1 (by first | assumption | rfl) ?_ | refine Or.inl ⟨rfl, ?_⟩ | (split <;> (first | (rename_i u h; clear u) | rename_i h) <;> (try rewrite [h]) <;> (first | replace h := dt h | replace h := df h | replace h := Nt h | replace h := Nf h | skip) <;> (try dsimp only at h) <;> (first | contradiction | (exfalso; omega) | skip)) | (refine Or.inl ⟨_, by assumption, ?_⟩; first | rintro _ rfl | skip))
    all_goals (refine ⟨[2, 6, 9, 67, 68, 69], [0, 1], fun m st => ∃ (t : Nat) (F : Nat → Bool), t ≤ D.length ∧ m = D.length - t ∧ (∀ j, j < l.length → (F j = true ↔ (if i ≤ j then NP j else PP (i + 1) j ∨ (NP i ∧ (j : Int) ∈ D.take t)))) ∧
      st = ⟨[(2, .bptr 0 0), (6, .own 1 0 l.length), (9, .int .i64 (i : Nat)), (67, .ro 1 (rowZ D)), (68, .int .i64 ((rowZ D).length : Nat)), (69, .int .i64 (t : Nat))], [.box 24 [.ro 8 (rowN l), .int .i64 (q : Nat)], .row false 4 1 (fB l.length F)]⟩, rfl,
      ⟨D.length, 0, updB F i (!decide (name = ⟨#[]⟩)), by omega, rfl, hF0, Eq.trans rfl (congrArg (fun z => (⟨[(2, .bptr 0 0), (6, .own 1 0 l.length), (9, .int .i64 (i : Nat)), (67, .ro 1 (rowZ D)), (68, .int .i64 ((rowZ D).length : Nat)), (69, .int .i64 ((0 : Nat) : Int))], [.box 24 [.ro 8 (rowN l), .int .i64 (q : Nat)], .row false 4 1 z]⟩ : St)) e)⟩, ?_⟩)
    clear hF0 e g2 hFb hFi hF F
    rintro m2 _ ⟨t, F, ht, hm2, hF, rfl⟩
    rcases Nat.lt_or_ge t D.length with htl | hge
    · obtain ⟨k, hk1, hk2⟩ := hDn _ (List.getElem_mem htl)
      have g1 : (rowZ D)[t]? = some [.int .i64 (k : Nat)] := by rw [rowZ_get htl, hk1]
      have g3 : (fB l.length F)[0 + k]? = some [.bool (F k)] := by rw [Nat.zero_add]; exact fB_get (by omega)
      have g4 : (fB l.length F)[0 + i]? = some [.bool (F i)] := by rw [Nat.zero_add]; exact fB_get hil
      cases hFk : F k
      · rw [hFk] at g3
        have e : (fB l.length F).set (0 + k) [.bool (F i)] = fB l.length (updB F k (F i)) := by rw [Nat.zero_add, fB_set]
        have hF' := hloop D F t k (F i) hF hk2 htl hk1 (by rw [hFk]; rfl)
        repeat' ((conv => whnf); first | ((with_reducible apply Xq); assumption) | (with_reducible first | apply Xa | (first | apply xi | apply xp | apply xP); omega | apply Xe | refine Xg (by assumption) ?_) | refine Xo (by assumption) ?_ | refine x_0 (by first | assumption | rfl) ?_ | refine x_1 (by first | assumption | rfl) ?_ | refine Or.inl ⟨rfl, ?_⟩ | (split <;> (first | (rename_i u h; clear u) | rename_i h) <;> (try rewrite [h]) <;> (first | replace h := dt h | replace h := df h | replace h := Nt h | replace h := Nf h | skip) <;> (try dsimp only at h) <;> (first | contradiction | (exfalso; omega) | skip)) | (refine Or.inl ⟨_, by assumption, ?_⟩; first | rintro _ rfl | skip))
        exact ⟨[0, 1], D.length - (t + 1), rfl, by omega, t + 1, _, by omega, rfl, hF', Eq.trans rfl (congrArg (fun z => (⟨[(2, .bptr 0 0), (6, .own 1 0 l.length), (9, .int .i64 (i : Nat)), (67, .ro 1 (rowZ D)), (68, .int .i64 ((rowZ D).length : Nat)), (69, .int .i64 ((t + 1 : Nat) : Int))], [.box 24 [.ro 8 (rowN l), .int .i64 (q : Nat)], .row false 4 1 z]⟩ : St)) e)⟩
      · rw [hFk] at g3
        have e : (fB l.length F).set (0 + k) [.bool true] = fB l.length (updB F k true) := by rw [Nat.zero_add, fB_set]
        have hF' := hloop D F t k true hF hk2 htl hk1 (by rw [hFk]; rfl)
        repeat' ((conv => whnf); first | ((with_reducible apply Xq); assumption) | (with_reducible first | apply Xa | (first | apply xi | apply xp | apply xP); omega | apply Xe | refine Xg (by assumption) ?_) | refine Xo (by assumption) ?_ | refine x_0 (by first | assumption | rfl) ?_ | refine x_1 (by first | assumption | rfl) ?_ | refine Or.inl ⟨rfl, ?_⟩ | (split <;> (first | (rename_i u h; clear u) | rename_i h) <;> (try rewrite [h]) <;> (first | replace h := dt h | replace h := df h | replace h := Nt h | replace h := Nf h | skip) <;> (try dsimp only at h) <;> (first | contradiction | (exfalso; omega) | skip)) | (refine Or.inl ⟨_, by assumption, ?_⟩; first | rintro _ rfl | skip))
        exact ⟨[0, 1], D.length - (t + 1), rfl, by omega, t + 1, _, by omega, rfl, hF', Eq.trans rfl (congrArg (fun z => (⟨[(2, .bptr 0 0), (6, .own 1 0 l.length), (9, .int .i64 (i : Nat)), (67, .ro 1 (rowZ D)), (68, .int .i64 ((rowZ D).length : Nat)), (69, .int .i64 ((t + 1 : Nat) : Int))], [.box 24 [.ro 8 (rowN l), .int .i64 (q : Nat)], .row false 4 1 z]⟩ : St)) e)⟩
    rw [List.take_of_length_le (by omega)] at hF
    have hF' : ∀ j, j < l.length → (F j = true ↔ (if i ≤ j then NP j else PP i j)) := fun j hj => by
      rw [hF j hj, hps j, hDu j]
    repeat' ((conv => whnf); first | ((with_reducible apply Xq); assumption) | (with_reducible first | apply Xa | (first | apply xi | apply xp | apply xP); omega | apply Xe | refine Xg (by assumption) ?_) | refine Xo (by assumption) ?_ | refine x_0 (by first | assumption | rfl) ?_ | refine x_1 (by first | assumption | rfl) ?_ | refine Or.inl ⟨rfl, ?_⟩ | (split <;> (first | (rename_i u h; clear u) | rename_i h) <;> (try rewrite [h]) <;> (first | replace h := dt h | replace h := df h | replace h := Nt h | replace h := Nf h | skip) <;> (try dsimp only at h) <;> (first | contradiction | (exfalso; omega) | skip)) | (refine Or.inl ⟨_, by assumption, ?_⟩; first | rintro _ rfl | skip))
    exact ⟨[0, 1], i, rfl, by omega, _, F, rfl, by omega, hF', rfl⟩
  · rw [hFb] at g2
    have e : (fB l.length F).set (0 + i) [.bool true] = fB l.length (updB F i true) := by rw [Nat.zero_add, fB_set]
    have hF0 : ∀ j, j < l.length → (updB F i true j = true ↔ (if i ≤ j then NP j else PP (i + 1) j ∨ (NP i ∧ (j : Int) ∈ D.take 0))) := fun j hj => by
      by_cases hji : j = i
      · subst hji
        rw [updB_same, if_pos (Nat.le_refl _)]
        rw [hFb] at hFi; rw [hni, ← hFi]; simp
      · rw [updB_ne _ _ hji, hF j hj]
        by_cases hlt : i ≤ j
        · rw [if_pos hlt, if_pos (by omega)]
        · rw [if_neg hlt, if_neg (by omega)]; simp
    repeat' ((conv => whnf); first | ((with_reducible apply Xq); assumption) | (with_reducible first | apply Xa | (first | apply xi | apply xp | apply xP); omega | apply Xe | refine Xg (by assumption) ?_) | refine Xo (by assumption) ?_ | refine x_0 (by first | assumption | rfl) ?_ | refine x_1 (by first | assumption | rfl) ?_ | refine Or.inl ⟨rfl, ?_⟩ | (split <;> (first | (rename_i u h; clear u) | rename_i h) <;> (try rewrite [h]) <;> (first | replace h := dt h | replace h := df h | replace h := Nt h | replace h := Nf h | skip) <;> (try dsimp only at h) <;> (first | contradiction | (exfalso; omega) | skip)) | (refine Or.inl ⟨_, by assumption, ?_⟩; first | rintro _ rfl | skip))
    all_goals (refine ⟨[2, 6, 9, 67, 68, 69], [0, 1], fun m st => ∃ (t : Nat) (F : Nat → Bool), t ≤ D.length ∧ m = D.length - t ∧ (∀ j, j < l.length → (F j = true ↔ (if i ≤ j then NP j else PP (i + 1) j ∨ (NP i ∧ (j : Int) ∈ D.take t)))) ∧
      st = ⟨[(2, .bptr 0 0), (6, .own 1 0 l.length), (9, .int .i64 (i : Nat)), (67, .ro 1 (rowZ D)), (68, .int .i64 ((rowZ D).length : Nat)), (69, .int .i64 (t : Nat))], [.box 24 [.ro 8 (rowN l), .int .i64 (q : Nat)], .row false 4 1 (fB l.length F)]⟩, rfl,
      ⟨D.length, 0, updB F i true, by omega, rfl, hF0, Eq.trans rfl (congrArg (fun z => (⟨[(2, .bptr 0 0), (6, .own 1 0 l.length), (9, .int .i64 (i : Nat)), (67, .ro 1 (rowZ D)), (68, .int .i64 ((rowZ D).length : Nat)), (69, .int .i64 ((0 : Nat) : Int))], [.box 24 [.ro 8 (rowN l), .int .i64 (q : Nat)], .row false 4 1 z]⟩ : St)) e)⟩, ?_⟩)
    clear hF0 e g2 hFb hFi hF F
    rintro m2 _ ⟨t, F, ht, hm2, hF, rfl⟩
    rcases Nat.lt_or_ge t D.length with htl | hge
    · obtain ⟨k, hk1, hk2⟩ := hDn _ (List.getElem_mem htl)
      have g1 : (rowZ D)[t]? = some [.int .i64 (k : Nat)] := by rw [rowZ_get htl, hk1]
      have g3 : (fB l.length F)[0 + k]? = some [.bool (F k)] := by rw [Nat.zero_add]; exact fB_get (by omega)
      have g4 : (fB l.length F)[0 + i]? = some [.bool (F i)] := by rw [Nat.zero_add]; exact fB_get hil
      cases hFk : F k
      · rw [hFk] at g3
        have e : (fB l.length F).set (0 + k) [.bool (F i)] = fB l.length (updB F k (F i)) := by rw [Nat.zero_add, fB_set]
        have hF' := hloop D F t k (F i) hF hk2 htl hk1 (by rw [hFk]; rfl)
        repeat' ((conv => whnf); first | ((with_reducible apply Xq); assumption) | (with_reducible first | apply Xa | (first | apply xi | apply xp | apply xP); omega | apply Xe | refine Xg (by assumption) ?_) | refine Xo (by assumption) ?_ | refine x_0 (by first | assumption | rfl) ?_ | refine x_1 (by first | assumption | rfl) ?_ | refine Or.inl ⟨rfl, ?_⟩ | (split <;> (first | (rename_i u h; clear u) | rename_i h) <;> (try rewrite [h]) <;> (first | replace h := dt h | replace h := df h | replace h := Nt h | replace h := Nf h | skip) <;> (try dsimp only at h) <;> (first | contradiction | (exfalso; omega) | skip)) | (refine Or.inl ⟨_, by assumption, ?_⟩; first | rintro _ rfl | skip))
        exact ⟨[0, 1], D.length - (t + 1), rfl, by omega, t + 1, _, by omega, rfl, hF', Eq.trans rfl (congrArg (fun z => (⟨[(2, .bptr 0 0), (6, .own 1 0 l.length), (9, .int .i64 (i : Nat)), (67, .ro 1 (rowZ D)), (68, .int .i64 ((rowZ D).length : Nat)), (69, .int .i64 ((t + 1 : Nat) : Int))], [.box 24 [.ro 8 (rowN l), .int .i64 (q : Nat)], .row false 4 1 z]⟩ : St)) e)⟩
      · rw [hFk] at g3
        have e : (fB l.length F).set (0 + k) [.bool true] = fB l.length (updB F k true) := by rw [Nat.zero_add, fB_set]
        have hF' := hloop D F t k true hF hk2 htl hk1 (by rw [hFk]; rfl)
        repeat' ((conv => whnf); first | ((with_reducible apply Xq); assumption) | (with_reducible first | apply Xa | (first | apply xi | apply xp | apply xP); omega | apply Xe | refine Xg (by assumption) ?_) | refine Xo (by assumption) ?_ | refine x_0 (by first | assumption | rfl) ?_ | refine x_1 (by first | assumption | rfl) ?_ | refine Or.inl ⟨rfl, ?_⟩ | (split <;> (first | (rename_i u h; clear u) | rename_i h) <;> (try rewrite [h]) <;> (first | replace h := dt h | replace h := df h | replace h := Nt h | replace h := Nf h | skip) <;> (try dsimp only at h) <;> (first | contradiction | (exfalso; omega) | skip)) | (refine Or.inl ⟨_, by assumption, ?_⟩; first | rintro _ rfl | skip))
        exact ⟨[0, 1], D.length - (t + 1), rfl, by omega, t + 1, _, by omega, rfl, hF', Eq.trans rfl (congrArg (fun z => (⟨[(2, .bptr 0 0), (6, .own 1 0 l.length), (9, .int .i64 (i : Nat)), (67, .ro 1 (rowZ D)), (68, .int .i64 ((rowZ D).length : Nat)), (69, .int .i64 ((t + 1 : Nat) : Int))], [.box 24 [.ro 8 (rowN l), .int .i64 (q : Nat)], .row false 4 1 z]⟩ : St)) e)⟩
    rw [List.take_of_length_le (by omega)] at hF
    have hF' : ∀ j, j < l.length → (F j = true ↔ (if i ≤ j then NP j else PP i j)) := fun j hj => by
      rw [hF j hj, hps j, hDu j]
    repeat' ((conv => whnf); first | ((with_reducible apply Xq); assumption) | (with_reducible first | apply Xa | (first | apply xi | apply xp | apply xP); omega | apply Xe | refine Xg (by assumption) ?_) | refine Xo (by assumption) ?_ | refine x_0 (by first | assumption | rfl) ?_ | refine x_1 (by first | assumption | rfl) ?_ | refine Or.inl ⟨rfl, ?_⟩ | (split <;> (first | (rename_i u h; clear u) | rename_i h) <;> (try rewrite [h]) <;> (first | replace h := dt h | replace h := df h | replace h := Nt h | replace h := Nf h | skip) <;> (try dsimp only at h) <;> (first | contradiction | (exfalso; omega) | skip)) | (refine Or.inl ⟨_, by assumption, ?_⟩; first | rintro _ rfl | skip))
    exact ⟨[0, 1], i, rfl, by omega, _, F, rfl, by omega, hF', rfl⟩
end Go.V
