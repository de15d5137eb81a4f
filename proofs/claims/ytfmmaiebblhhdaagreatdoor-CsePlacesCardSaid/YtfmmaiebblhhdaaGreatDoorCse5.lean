/-
  Lemmas (part 5) for: CseMerges, CsePlaces and CseNone: merging equal nodes of any graph answers as the document says, for every input; no condition.
-/
import Derived.Test.YtfmmaiebblhhdaaGreatDoorCse4
import Derived.OpenShut
import Derived.Lay
import Derived.LaidMore
import Derived.ProofKit
import Derived.SevenTiedAt
import Derived.Stop.Joined
import Derived.Stop.LaidErr
import Derived.ChangeOld
import Derived.Carry
import Derived.DataElems
import Derived.Test.YtfmmaiebblhhdaaGreatDoorTie
import Derived.Test.YtfmmaiebblhhdaaGreatDoorCards
import Derived.Lib.ItoaNum
import Derived.Lib.Join
import Derived.Shelf.Strings.OnBuilder
import Derived.Shelf.Strconv.Itoa4
import Derived.Shelf.LaysM
import Derived.Shelf.Strconv.Itoa3
import Derived.Test.YtfmmaiebblhhdaaGreatDoorProg
set_option linter.all false
namespace Go.V
open Go.N
set_option maxRecDepth 20000
def T_gInfer : Tab := [(37, i37), (9, i9), (4, i4), (3, i3), (22, i22), (27, i27)]
theorem TOK_gInfer : TOK Go.Proofs.Tryz.prog T_gInfer := ⟨K37, ⟨K9, ⟨K4, ⟨K3, ⟨K22, ⟨K27, trivial⟩⟩⟩⟩⟩⟩
theorem c_CloneR (gl : Gl) (l : List Int) (hll : l.length < 1000000) : VCall Go.Proofs.Tryz.prog gl 32 [.ro 1 (rowZ l)] (fun x => x = .ro 1 (rowZ l)) :=
  VCall.taken ((c_CloneI gl l hll).mono fun x hx => by
    rcases hx with rfl | ⟨rfl, rfl⟩
    · exact ⟨_, rfl, rfl⟩
    · exact ⟨_, (show RoTo .nils (.ro 1 []) from ⟨1, rfl⟩), rfl⟩)
theorem z1 {s : List Int} {ok : Bool} (h : (!ok) = true) : okZ (s, ok) = none := by simp at h; simp [okZ, h]
theorem z2 {s : List Int} {ok : Bool} (h : (!okShape s) = true) : okZ (s, ok) = none := by simp at h; simp [okZ, h]
theorem z3 {s : List Int} {ok : Bool} (h1 : (!ok) = false) (h : (!okShape s) = false) : okZ (s, ok) = some s := by simp at h h1; simp [okZ, h, h1]
set_option maxHeartbeats 4000000 in
theorem c_gInfer (l : List Nd) (x : Nd) (hx : x.Sm) (hl : ∀ y ∈ l, y.Sm) (hll : l.length ≤ 1000) :
    VCall Go.Proofs.Tryz.prog GL 19 [.ro 8 (rowN l), .agg x.cells] (fun y => y = .tup [.ro 1 (rowZ ((inferN l x).getD [])), .bool (inferN l x).isSome]) := by
  obtain ⟨op, a, b, name, shape, k, n, data⟩ := x
  have hp := c_gparts GL op
  have hlr : (rowN l).length = l.length := rowN_length l
  refine VCall.taken ?_
  cases hop : opParts op with
  | none =>
    rw [inferN_none hop]
    rw [partsN, hop] at hp
    refine vcall_of TOK_gInfer HM Go.Proofs.Tryz.func19 rfl (by decide +kernel) (by decide +kernel) rfl ?_
    repeat' ((conv => whnf); first | ((with_reducible apply Xq); assumption) | (with_reducible first | apply Xa | (first | apply xi | apply xp | apply xP); omega | apply Xe | refine Xg (by assumption) ?_) | refine Xo (by assumption) ?_ | refine x_0 (by first | assumption | rfl) ?_ | refine x_1 (by first | assumption | rfl) ?_ | refine Or.inl ⟨rfl, ?_⟩ | (split <;> (first | (rename_i u h; clear u) | rename_i h) <;> (try rewrite [h]) <;> (first | replace h := dt h | replace h := df h | replace h := Nt h | replace h := Nf h | skip) <;> (try dsimp only at h) <;> (first | contradiction | (exfalso; omega) | skip)) | (refine Or.inl ⟨_, by assumption, ?_⟩; first | rintro _ rfl | skip))
    all_goals (conv => whnf)
    all_goals exact ⟨_, roTo2 (show RoTo .nils (.ro 1 []) from ⟨1, rfl⟩) rfl, rfl⟩
  | some m =>
    rw [partsN, hop] at hp
    have hm := opParts_le hop
    have hb := c_gbare GL ⟨op, a, b, name, shape, k, n, data⟩ m hx hm
    have hfe : fitN l ⟨op, a, b, name, shape, k, n, data⟩ m = (bareOK ⟨op, a, b, name, shape, k, n, data⟩ m && ((decide (m = 0) || inR a l) && (decide (m < 2) || inR b l))) := rfl
    cases hbr : bareOK ⟨op, a, b, name, shape, k, n, data⟩ m with
    | false =>
      rw [inferN_bad hop (by rw [hfe, hbr]; rfl)]
      rw [hbr] at hb
      refine vcall_of TOK_gInfer HM Go.Proofs.Tryz.func19 rfl (by decide +kernel) (by decide +kernel) rfl ?_
      repeat' ((conv => whnf); first | ((with_reducible apply Xq); assumption) | (with_reducible first | apply Xa | (first | apply xi | apply xp | apply xP); omega | apply Xe | refine Xg (by assumption) ?_) | refine Xo (by assumption) ?_ | refine x_0 (by first | assumption | rfl) ?_ | refine x_1 (by first | assumption | rfl) ?_ | refine Or.inl ⟨rfl, ?_⟩ | (split <;> (first | (rename_i u h; clear u) | rename_i h) <;> (try rewrite [h]) <;> (first | replace h := dt h | replace h := df h | replace h := Nt h | replace h := Nf h | skip) <;> (try dsimp only at h) <;> (first | contradiction | (exfalso; omega) | skip)) | (refine Or.inl ⟨_, by assumption, ?_⟩; first | rintro _ rfl | skip))
      all_goals (conv => whnf)
      all_goals exact ⟨_, roTo2 (show RoTo .nils (.ro 1 []) from ⟨1, rfl⟩) rfl, rfl⟩
    | true =>
      rw [hbr] at hb hfe
      have h3 : m = 0 ∨ m = 1 ∨ m = 2 := by omega
      rcases h3 with rfl | rfl | rfl
      · have hf : fitN l ⟨op, a, b, name, shape, k, n, data⟩ 0 = true := hfe
        rw [inferN_ok hop hf]
        rw [if_pos rfl, if_pos (by omega)]
        have hof := c_gof ⟨op, a, b, name, shape, k, n, data⟩ [] [] hx (by simp) (by simp)
        have hlen := ofZ_len (x := ⟨op, a, b, name, shape, k, n, data⟩) (a := []) (b := []) hx (by simp) (by simp)
        generalize ofZ ⟨op, a, b, name, shape, k, n, data⟩ [] [] = r at hof hlen ⊢
        obtain ⟨s, ok⟩ := r
        have hsr := c_shape_Right GL s (by dsimp only at hlen; omega)
        have hcl := c_CloneR GL s (by dsimp only at hlen; omega)
        dsimp only at hof
        refine vcall_of TOK_gInfer HM Go.Proofs.Tryz.func19 rfl (by decide +kernel) (by decide +kernel) rfl ?_
        repeat' ((conv => whnf); first | ((with_reducible apply Xq); assumption) | (with_reducible first | apply Xa | (first | apply xi | apply xp | apply xP); omega | apply Xe | refine Xg (by assumption) ?_) | refine Xo (by assumption) ?_ | refine x_0 (by first | assumption | rfl) ?_ | refine x_1 (by first | assumption | rfl) ?_ | refine Or.inl ⟨rfl, ?_⟩ | (split <;> (first | (rename_i u h; clear u) | rename_i h) <;> (try rewrite [h]) <;> (first | replace h := dt h | replace h := df h | replace h := Nt h | replace h := Nf h | skip) <;> (try dsimp only at h) <;> (first | contradiction | (exfalso; omega) | skip)) | (refine Or.inl ⟨_, by assumption, ?_⟩; first | rintro _ rfl | skip))
        all_goals (conv => whnf)
        all_goals first | exact ⟨_, roTo2 (show RoTo .nils (.ro 1 []) from ⟨1, rfl⟩) rfl, by rw [z1 h]; rfl⟩ | exact ⟨_, roTo2 (show RoTo .nils (.ro 1 []) from ⟨1, rfl⟩) rfl, by rw [z2 h]; rfl⟩ | exact ⟨_, roTo2 rfl rfl, by rw [z3 (by assumption) h]; rfl⟩
      · cases ha : inR a l with
        | false =>
          rw [inferN_bad hop (by rw [hfe, ha]; rfl)]
          have := inR_not ha
          refine vcall_of TOK_gInfer HM Go.Proofs.Tryz.func19 rfl (by decide +kernel) (by decide +kernel) rfl ?_
          repeat' ((conv => whnf); first | ((with_reducible apply Xq); assumption) | (with_reducible first | apply Xa | (first | apply xi | apply xp | apply xP); omega | apply Xe | refine Xg (by assumption) ?_) | refine Xo (by assumption) ?_ | refine x_0 (by first | assumption | rfl) ?_ | refine x_1 (by first | assumption | rfl) ?_ | refine Or.inl ⟨rfl, ?_⟩ | (split <;> (first | (rename_i u h; clear u) | rename_i h) <;> (try rewrite [h]) <;> (first | replace h := dt h | replace h := df h | replace h := Nt h | replace h := Nf h | skip) <;> (try dsimp only at h) <;> (first | contradiction | (exfalso; omega) | skip)) | (refine Or.inl ⟨_, by assumption, ?_⟩; first | rintro _ rfl | skip))
          all_goals (conv => whnf)
          all_goals exact ⟨_, roTo2 (show RoTo .nils (.ro 1 []) from ⟨1, rfl⟩) rfl, rfl⟩
        | true =>
          have hf : fitN l ⟨op, a, b, name, shape, k, n, data⟩ 1 = true := by rw [hfe, ha]; rfl
          obtain ⟨i, hi1, hi2⟩ := inR_nat ha
          subst hi1
          have g := rowN_get hi2
          have hs := (hl _ (List.getElem_mem hi2)).shape
          rw [inferN_ok hop hf]
          rw [if_neg (by omega), if_pos (by omega)]; dsimp only; rw [shAt_nat hi2]
          have hof := c_gof ⟨op, (i : Int), b, name, shape, k, n, data⟩ l[i].shape [] hx (by assumption) (by simp)
          have hlen := ofZ_len (x := ⟨op, (i : Int), b, name, shape, k, n, data⟩) (a := l[i].shape) (b := []) hx (by assumption) (by simp)
          generalize ofZ ⟨op, (i : Int), b, name, shape, k, n, data⟩ l[i].shape [] = r at hof hlen ⊢
          obtain ⟨s, ok⟩ := r
          have hsr := c_shape_Right GL s (by dsimp only at hlen; omega)
          have hcl := c_CloneR GL s (by dsimp only at hlen; omega)
          dsimp only at hof
          refine vcall_of TOK_gInfer HM Go.Proofs.Tryz.func19 rfl (by decide +kernel) (by decide +kernel) rfl ?_
          repeat' ((conv => whnf); first | ((with_reducible apply Xq); assumption) | (with_reducible first | apply Xa | (first | apply xi | apply xp | apply xP); omega | apply Xe | refine Xg (by assumption) ?_) | refine Xo (by assumption) ?_ | refine x_0 (by first | assumption | rfl) ?_ | refine x_1 (by first | assumption | rfl) ?_ | refine Or.inl ⟨rfl, ?_⟩ | (split <;> (first | (rename_i u h; clear u) | rename_i h) <;> (try rewrite [h]) <;> (first | replace h := dt h | replace h := df h | replace h := Nt h | replace h := Nf h | skip) <;> (try dsimp only at h) <;> (first | contradiction | (exfalso; omega) | skip)) | (refine Or.inl ⟨_, by assumption, ?_⟩; first | rintro _ rfl | skip))
          all_goals (conv => whnf)
          all_goals first | exact ⟨_, roTo2 (show RoTo .nils (.ro 1 []) from ⟨1, rfl⟩) rfl, by rw [z1 h]; rfl⟩ | exact ⟨_, roTo2 (show RoTo .nils (.ro 1 []) from ⟨1, rfl⟩) rfl, by rw [z2 h]; rfl⟩ | exact ⟨_, roTo2 rfl rfl, by rw [z3 (by assumption) h]; rfl⟩
      · cases ha : inR a l with
        | false =>
          rw [inferN_bad hop (by rw [hfe, ha]; rfl)]
          have := inR_not ha
          refine vcall_of TOK_gInfer HM Go.Proofs.Tryz.func19 rfl (by decide +kernel) (by decide +kernel) rfl ?_
          repeat' ((conv => whnf); first | ((with_reducible apply Xq); assumption) | (with_reducible first | apply Xa | (first | apply xi | apply xp | apply xP); omega | apply Xe | refine Xg (by assumption) ?_) | refine Xo (by assumption) ?_ | refine x_0 (by first | assumption | rfl) ?_ | refine x_1 (by first | assumption | rfl) ?_ | refine Or.inl ⟨rfl, ?_⟩ | (split <;> (first | (rename_i u h; clear u) | rename_i h) <;> (try rewrite [h]) <;> (first | replace h := dt h | replace h := df h | replace h := Nt h | replace h := Nf h | skip) <;> (try dsimp only at h) <;> (first | contradiction | (exfalso; omega) | skip)) | (refine Or.inl ⟨_, by assumption, ?_⟩; first | rintro _ rfl | skip))
          all_goals (conv => whnf)
          all_goals exact ⟨_, roTo2 (show RoTo .nils (.ro 1 []) from ⟨1, rfl⟩) rfl, rfl⟩
        | true =>
          obtain ⟨i, hi1, hi2⟩ := inR_nat ha
          subst hi1
          cases hbn : inR b l with
          | false =>
            rw [inferN_bad hop (by rw [hfe, ha, hbn]; rfl)]
            have := inR_not hbn
            refine vcall_of TOK_gInfer HM Go.Proofs.Tryz.func19 rfl (by decide +kernel) (by decide +kernel) rfl ?_
            repeat' ((conv => whnf); first | ((with_reducible apply Xq); assumption) | (with_reducible first | apply Xa | (first | apply xi | apply xp | apply xP); omega | apply Xe | refine Xg (by assumption) ?_) | refine Xo (by assumption) ?_ | refine x_0 (by first | assumption | rfl) ?_ | refine x_1 (by first | assumption | rfl) ?_ | refine Or.inl ⟨rfl, ?_⟩ | (split <;> (first | (rename_i u h; clear u) | rename_i h) <;> (try rewrite [h]) <;> (first | replace h := dt h | replace h := df h | replace h := Nt h | replace h := Nf h | skip) <;> (try dsimp only at h) <;> (first | contradiction | (exfalso; omega) | skip)) | (refine Or.inl ⟨_, by assumption, ?_⟩; first | rintro _ rfl | skip))
            all_goals (conv => whnf)
            all_goals exact ⟨_, roTo2 (show RoTo .nils (.ro 1 []) from ⟨1, rfl⟩) rfl, rfl⟩
          | true =>
            have hf : fitN l ⟨op, (i : Int), b, name, shape, k, n, data⟩ 2 = true := by rw [hfe, ha, hbn]; rfl
            obtain ⟨j, hj1, hj2⟩ := inR_nat hbn
            subst hj1
            have g := rowN_get hi2
            have g2 := rowN_get hj2
            have hs := (hl _ (List.getElem_mem hi2)).shape
            have hs2 := (hl _ (List.getElem_mem hj2)).shape
            rw [inferN_ok hop hf]
            rw [if_neg (by omega), if_neg (by omega)]; dsimp only; rw [shAt_nat hi2, shAt_nat hj2]
            have hof := c_gof ⟨op, (i : Int), (j : Int), name, shape, k, n, data⟩ l[i].shape l[j].shape hx (by exact hs) (by exact hs2)
            have hlen := ofZ_len (x := ⟨op, (i : Int), (j : Int), name, shape, k, n, data⟩) (a := l[i].shape) (b := l[j].shape) hx (by exact hs) (by exact hs2)
            generalize ofZ ⟨op, (i : Int), (j : Int), name, shape, k, n, data⟩ l[i].shape l[j].shape = r at hof hlen ⊢
            obtain ⟨s, ok⟩ := r
            have hsr := c_shape_Right GL s (by dsimp only at hlen; omega)
            have hcl := c_CloneR GL s (by dsimp only at hlen; omega)
            dsimp only at hof
            refine vcall_of TOK_gInfer HM Go.Proofs.Tryz.func19 rfl (by decide +kernel) (by decide +kernel) rfl ?_
            repeat' ((conv => whnf); first | ((with_reducible apply Xq); assumption) | (with_reducible first | apply Xa | (first | apply xi | apply xp | apply xP); omega | apply Xe | refine Xg (by assumption) ?_) | refine Xo (by assumption) ?_ | refine x_0 (by first | assumption | rfl) ?_ | refine x_1 (by first | assumption | rfl) ?_ | refine Or.inl ⟨rfl, ?_⟩ | (split <;> (first | (rename_i u h; clear u) | rename_i h) <;> (try rewrite [h]) <;> (first | replace h := dt h | replace h := df h | replace h := Nt h | replace h := Nf h | skip) <;> (try dsimp only at h) <;> (first | contradiction | (exfalso; omega) | skip)) | (refine Or.inl ⟨_, by assumption, ?_⟩; first | rintro _ rfl | skip))
            all_goals (conv => whnf)
            all_goals first | exact ⟨_, roTo2 (show RoTo .nils (.ro 1 []) from ⟨1, rfl⟩) rfl, by rw [z1 h]; rfl⟩ | exact ⟨_, roTo2 (show RoTo .nils (.ro 1 []) from ⟨1, rfl⟩) rfl, by rw [z2 h]; rfl⟩ | exact ⟨_, roTo2 rfl rfl, by rw [z3 (by assumption) h]; rfl⟩
end Go.V
namespace Go.V
open Go.N
set_option maxRecDepth 20000
variable (gl : Gl)
def T_r10_Shape : Tab := [(37, i37), (9, i9), (3, i3), (22, i22), (4, i4), (35, i35), (27, i27), (52, i52)]
theorem TOK_r10_Shape : TOK Go.Proofs.Tryz.prog T_r10_Shape := ⟨K37, ⟨K9, ⟨K3, ⟨K22, ⟨K4, ⟨K35, ⟨K27, ⟨K52, trivial⟩⟩⟩⟩⟩⟩⟩⟩
set_option maxHeartbeats 8000000 in
theorem c_r10_Shape_no (l : List Nd) (x : Nd) (o : Opc) (ho : x.op = o.str) (hf : fitN l x o.many = false) (hx : x.Sm) :
    VCall Go.Proofs.Tryz.prog gl 17 [.ro 8 (rowN l), .agg x.cells] (fun y => y = .tup [.ro 1 [], .bool false]) := by
  obtain ⟨op, a, b, name, shape, k, n, data⟩ := x
  dsimp only at ho
  subst ho
  have hp := c_r10_Parts gl o.str
  have hpz : partsZ o.str = (o.many : Int) := by rw [partsZ, opc_many]
  rw [hpz] at hp
  have hname := c_r08_Name gl name (Nat.lt_of_le_of_lt hx.name (by decide))
  have hlr : (rowN l).length = l.length := rowN_length l
  have hld : (rowS data).length = data.length := rowS_length data
  refine VCall.taken ?_
  cases o
  all_goals (refine vcall_of TOK_r10_Shape HM Go.Proofs.Tryz.func17 rfl (by decide +kernel) (by decide +kernel) rfl ?_)
  all_goals (repeat' ((conv => whnf); first | ((with_reducible apply Xq); assumption) | (with_reducible first | apply Xa | (first | apply xi | apply xp | apply xP); omega | apply Xe | refine Xg (by assumption) ?_) | refine Xo (by assumption) ?_ | refine x_0 (by first | assumption | rfl) ?_ | refine x_1 (by first | assumption | rfl) ?_ | refine Or.inl ⟨rfl, ?_⟩ | (split <;> (first | (rename_i u h; clear u) | rename_i h) <;> (try rewrite [h]) <;> (first | replace h := dt h | replace h := df h | replace h := Nt h | replace h := Nf h | skip) <;> (try dsimp only at h) <;> (first | contradiction | (exfalso; omega) | skip)) | (refine Or.inl ⟨_, by assumption, ?_⟩; first | rintro _ rfl | skip)))
  all_goals first
    | ((conv => whnf); exact ⟨_, roTo2 (show RoTo .nils (.ro 1 []) from ⟨1, rfl⟩) rfl, rfl⟩)
    | exact (fit_no hf (by
        clear hf hp hname hx
        constructor
        all_goals (dsimp only [Opc.many, Opc.str])
        all_goals first
          | omega
          | (intro e; first | exact absurd e (by decide) | exact absurd rfl e | assumption | omega | (exact inR_of (by omega) (by omega)) | (rename_i q; simpa using q) | simp_all))).elim
end Go.V
namespace Go.V
open Go.N
set_option maxRecDepth 20000
variable (gl : Gl)
set_option maxHeartbeats 8000000 in
theorem c_r10_Shape_yes (l : List Nd) (x : Nd) (o : Opc) (ho : x.op = o.str) (hf : fitN l x o.many = true) (hx : x.Sm) (hl : ∀ y ∈ l, y.Sm) :
    VCall Go.Proofs.Tryz.prog gl 17 [.ro 8 (rowN l), .agg x.cells] (fun y => y = .tup [.ro 1 (rowZ (refN l x).1), .bool (refN l x).2]) := by
  rw [refN_ok (by rw [ho]; exact opc_many o) hf]
  obtain ⟨op, a, b, name, shape, k, n, data⟩ := x
  dsimp only at ho
  subst ho
  have F := (fit_iff _ _ _).1 hf
  have hp := c_r10_Parts gl o.str
  have hpz : partsZ o.str = (o.many : Int) := by rw [partsZ, opc_many]
  rw [hpz] at hp
  have hname := c_r08_Name gl name (Nat.lt_of_le_of_lt hx.name (by decide))
  have hrs := c_r04_Right gl shape (Nat.lt_of_le_of_lt hx.shape (by decide))
  have hr0 := c_r04_Right gl [] (by decide)
  have hlr : (rowN l).length = l.length := rowN_length l
  have hld : (rowS data).length = data.length := rowS_length data
  have hk := hx.k
  have hdl : data.length ≤ 1000 := hx.data
  clear hf
  refine VCall.taken ?_
  cases o
  case param =>
    obtain rfl : a = 0 := F.a0 rfl
    obtain rfl : b = 0 := F.b0 (by decide)
    rw [if_pos (by decide), if_pos (by decide)]
    obtain rfl : k = ⟨#[]⟩ := F.k (by dsimp only; decide)
    obtain rfl : n = 0 := F.n (by dsimp only; decide)
    obtain rfl : data = [] := List.length_eq_zero_iff.1 (F.d (by dsimp only; decide))
    rw [show isName name = true from F.nm rfl] at hname
    rw [refZ_at .param (s := shape) rfl rfl (by decide)]
    refine vcall_of TOK_r10_Shape HM Go.Proofs.Tryz.func17 rfl (by decide +kernel) (by decide +kernel) rfl ?_
    repeat' ((conv => whnf); first | ((with_reducible apply Xq); assumption) | (with_reducible first | apply Xa | (first | apply xi | apply xp | apply xP); omega | apply Xe | refine Xg (by assumption) ?_) | refine Xo (by assumption) ?_ | refine x_0 (by first | assumption | rfl) ?_ | refine x_1 (by first | assumption | rfl) ?_ | refine Or.inl ⟨rfl, ?_⟩ | (split <;> (first | (rename_i u h; clear u) | rename_i h) <;> (try rewrite [h]) <;> (first | replace h := dt h | replace h := df h | replace h := Nt h | replace h := Nf h | skip) <;> (try dsimp only at h) <;> (first | contradiction | (exfalso; omega) | skip)) | (refine Or.inl ⟨_, by assumption, ?_⟩; first | rintro _ rfl | skip))
    all_goals (conv => whnf)
    all_goals first | exact ⟨_, roTo2 rfl rfl, rfl⟩ | exact ⟨_, roTo2 (show RoTo .nils (.ro 1 []) from ⟨1, rfl⟩) rfl, rfl⟩
  case input =>
    obtain rfl : a = 0 := F.a0 rfl
    obtain rfl : b = 0 := F.b0 (by decide)
    rw [if_pos (by decide), if_pos (by decide)]
    obtain rfl : k = ⟨#[]⟩ := F.k (by dsimp only; decide)
    obtain rfl : n = 0 := F.n (by dsimp only; decide)
    obtain rfl : data = [] := List.length_eq_zero_iff.1 (F.d (by dsimp only; decide))
    rw [show isName name = true from F.nm rfl] at hname
    rw [refZ_at .input (s := shape) rfl rfl (by decide)]
    refine vcall_of TOK_r10_Shape HM Go.Proofs.Tryz.func17 rfl (by decide +kernel) (by decide +kernel) rfl ?_
    repeat' ((conv => whnf); first | ((with_reducible apply Xq); assumption) | (with_reducible first | apply Xa | (first | apply xi | apply xp | apply xP); omega | apply Xe | refine Xg (by assumption) ?_) | refine Xo (by assumption) ?_ | refine x_0 (by first | assumption | rfl) ?_ | refine x_1 (by first | assumption | rfl) ?_ | refine Or.inl ⟨rfl, ?_⟩ | (split <;> (first | (rename_i u h; clear u) | rename_i h) <;> (try rewrite [h]) <;> (first | replace h := dt h | replace h := df h | replace h := Nt h | replace h := Nf h | skip) <;> (try dsimp only at h) <;> (first | contradiction | (exfalso; omega) | skip)) | (refine Or.inl ⟨_, by assumption, ?_⟩; first | rintro _ rfl | skip))
    all_goals (conv => whnf)
    all_goals first | exact ⟨_, roTo2 rfl rfl, rfl⟩ | exact ⟨_, roTo2 (show RoTo .nils (.ro 1 []) from ⟨1, rfl⟩) rfl, rfl⟩
  case relu =>
    obtain ⟨i, rfl, hi⟩ : ∃ i : Nat, a = i ∧ i < l.length := inR_nat (F.ia (by decide))
    obtain rfl : b = 0 := F.b0 (by decide)
    rw [if_neg (by decide), if_pos (by decide)]
    dsimp only
    rw [shAt_nat hi]
    obtain ⟨_, _, _, _, _, _, _, g⟩ := rowN_sh hi
    have hA := (hl _ (List.getElem_mem hi)).shape
    generalize l[i].shape = A at g hA ⊢
    have hra := c_r04_Right gl A (by omega)
    have hlA := rowZ_length A
    obtain rfl : name = ⟨#[]⟩ := F.nn rfl
    obtain rfl : k = ⟨#[]⟩ := F.k (by dsimp only; decide)
    obtain rfl : n = 0 := F.n (by dsimp only; decide)
    obtain rfl : data = [] := List.length_eq_zero_iff.1 (F.d (by dsimp only; decide))
    rw [refZ_at .relu (s := A) rfl rfl (by decide)]
    refine vcall_of TOK_r10_Shape HM Go.Proofs.Tryz.func17 rfl (by decide +kernel) (by decide +kernel) rfl ?_
    repeat' ((conv => whnf); first | ((with_reducible apply Xq); assumption) | (with_reducible first | apply Xa | (first | apply xi | apply xp | apply xP); omega | apply Xe | refine Xg (by assumption) ?_) | refine Xo (by assumption) ?_ | refine x_0 (by first | assumption | rfl) ?_ | refine x_1 (by first | assumption | rfl) ?_ | refine Or.inl ⟨rfl, ?_⟩ | (split <;> (first | (rename_i u h; clear u) | rename_i h) <;> (try rewrite [h]) <;> (first | replace h := dt h | replace h := df h | replace h := Nt h | replace h := Nf h | skip) <;> (try dsimp only at h) <;> (first | contradiction | (exfalso; omega) | skip)) | (refine Or.inl ⟨_, by assumption, ?_⟩; first | rintro _ rfl | skip))
    all_goals (conv => whnf)
    all_goals first | exact ⟨_, roTo2 rfl rfl, rfl⟩ | exact ⟨_, roTo2 (show RoTo .nils (.ro 1 []) from ⟨1, rfl⟩) rfl, rfl⟩
  case abs =>
    obtain ⟨i, rfl, hi⟩ : ∃ i : Nat, a = i ∧ i < l.length := inR_nat (F.ia (by decide))
    obtain rfl : b = 0 := F.b0 (by decide)
    rw [if_neg (by decide), if_pos (by decide)]
    dsimp only
    rw [shAt_nat hi]
    obtain ⟨_, _, _, _, _, _, _, g⟩ := rowN_sh hi
    have hA := (hl _ (List.getElem_mem hi)).shape
    generalize l[i].shape = A at g hA ⊢
    have hra := c_r04_Right gl A (by omega)
    have hlA := rowZ_length A
    obtain rfl : name = ⟨#[]⟩ := F.nn rfl
    obtain rfl : k = ⟨#[]⟩ := F.k (by dsimp only; decide)
    obtain rfl : n = 0 := F.n (by dsimp only; decide)
    obtain rfl : data = [] := List.length_eq_zero_iff.1 (F.d (by dsimp only; decide))
    rw [refZ_at .abs (s := A) rfl rfl (by decide)]
    refine vcall_of TOK_r10_Shape HM Go.Proofs.Tryz.func17 rfl (by decide +kernel) (by decide +kernel) rfl ?_
    repeat' ((conv => whnf); first | ((with_reducible apply Xq); assumption) | (with_reducible first | apply Xa | (first | apply xi | apply xp | apply xP); omega | apply Xe | refine Xg (by assumption) ?_) | refine Xo (by assumption) ?_ | refine x_0 (by first | assumption | rfl) ?_ | refine x_1 (by first | assumption | rfl) ?_ | refine Or.inl ⟨rfl, ?_⟩ | (split <;> (first | (rename_i u h; clear u) | rename_i h) <;> (try rewrite [h]) <;> (first | replace h := dt h | replace h := df h | replace h := Nt h | replace h := Nf h | skip) <;> (try dsimp only at h) <;> (first | contradiction | (exfalso; omega) | skip)) | (refine Or.inl ⟨_, by assumption, ?_⟩; first | rintro _ rfl | skip))
    all_goals (conv => whnf)
    all_goals first | exact ⟨_, roTo2 rfl rfl, rfl⟩ | exact ⟨_, roTo2 (show RoTo .nils (.ro 1 []) from ⟨1, rfl⟩) rfl, rfl⟩
  case step =>
    obtain ⟨i, rfl, hi⟩ : ∃ i : Nat, a = i ∧ i < l.length := inR_nat (F.ia (by decide))
    obtain rfl : b = 0 := F.b0 (by decide)
    rw [if_neg (by decide), if_pos (by decide)]
    dsimp only
    rw [shAt_nat hi]
    obtain ⟨_, _, _, _, _, _, _, g⟩ := rowN_sh hi
    have hA := (hl _ (List.getElem_mem hi)).shape
    generalize l[i].shape = A at g hA ⊢
    have hra := c_r04_Right gl A (by omega)
    have hlA := rowZ_length A
    obtain rfl : name = ⟨#[]⟩ := F.nn rfl
    obtain rfl : k = ⟨#[]⟩ := F.k (by dsimp only; decide)
    obtain rfl : n = 0 := F.n (by dsimp only; decide)
    obtain rfl : data = [] := List.length_eq_zero_iff.1 (F.d (by dsimp only; decide))
    rw [refZ_at .step (s := A) rfl rfl (by decide)]
    refine vcall_of TOK_r10_Shape HM Go.Proofs.Tryz.func17 rfl (by decide +kernel) (by decide +kernel) rfl ?_
    repeat' ((conv => whnf); first | ((with_reducible apply Xq); assumption) | (with_reducible first | apply Xa | (first | apply xi | apply xp | apply xP); omega | apply Xe | refine Xg (by assumption) ?_) | refine Xo (by assumption) ?_ | refine x_0 (by first | assumption | rfl) ?_ | refine x_1 (by first | assumption | rfl) ?_ | refine Or.inl ⟨rfl, ?_⟩ | (split <;> (first | (rename_i u h; clear u) | rename_i h) <;> (try rewrite [h]) <;> (first | replace h := dt h | replace h := df h | replace h := Nt h | replace h := Nf h | skip) <;> (try dsimp only at h) <;> (first | contradiction | (exfalso; omega) | skip)) | (refine Or.inl ⟨_, by assumption, ?_⟩; first | rintro _ rfl | skip))
    all_goals (conv => whnf)
    all_goals first | exact ⟨_, roTo2 rfl rfl, rfl⟩ | exact ⟨_, roTo2 (show RoTo .nils (.ro 1 []) from ⟨1, rfl⟩) rfl, rfl⟩
  case sign =>
    obtain ⟨i, rfl, hi⟩ : ∃ i : Nat, a = i ∧ i < l.length := inR_nat (F.ia (by decide))
    obtain rfl : b = 0 := F.b0 (by decide)
    rw [if_neg (by decide), if_pos (by decide)]
    dsimp only
    rw [shAt_nat hi]
    obtain ⟨_, _, _, _, _, _, _, g⟩ := rowN_sh hi
    have hA := (hl _ (List.getElem_mem hi)).shape
    generalize l[i].shape = A at g hA ⊢
    have hra := c_r04_Right gl A (by omega)
    have hlA := rowZ_length A
    obtain rfl : name = ⟨#[]⟩ := F.nn rfl
    obtain rfl : k = ⟨#[]⟩ := F.k (by dsimp only; decide)
    obtain rfl : n = 0 := F.n (by dsimp only; decide)
    obtain rfl : data = [] := List.length_eq_zero_iff.1 (F.d (by dsimp only; decide))
    rw [refZ_at .sign (s := A) rfl rfl (by decide)]
    refine vcall_of TOK_r10_Shape HM Go.Proofs.Tryz.func17 rfl (by decide +kernel) (by decide +kernel) rfl ?_
    repeat' ((conv => whnf); first | ((with_reducible apply Xq); assumption) | (with_reducible first | apply Xa | (first | apply xi | apply xp | apply xP); omega | apply Xe | refine Xg (by assumption) ?_) | refine Xo (by assumption) ?_ | refine x_0 (by first | assumption | rfl) ?_ | refine x_1 (by first | assumption | rfl) ?_ | refine Or.inl ⟨rfl, ?_⟩ | (split <;> (first | (rename_i u h; clear u) | rename_i h) <;> (try rewrite [h]) <;> (first | replace h := dt h | replace h := df h | replace h := Nt h | replace h := Nf h | skip) <;> (try dsimp only at h) <;> (first | contradiction | (exfalso; omega) | skip)) | (refine Or.inl ⟨_, by assumption, ?_⟩; first | rintro _ rfl | skip))
    all_goals (conv => whnf)
    all_goals first | exact ⟨_, roTo2 rfl rfl, rfl⟩ | exact ⟨_, roTo2 (show RoTo .nils (.ro 1 []) from ⟨1, rfl⟩) rfl, rfl⟩
  case add =>
    obtain ⟨i, rfl, hi⟩ : ∃ i : Nat, a = i ∧ i < l.length := inR_nat (F.ia (by decide))
    obtain ⟨j, rfl, hj⟩ : ∃ i : Nat, b = i ∧ i < l.length := inR_nat (F.ib (by decide))
    rw [if_neg (by decide), if_neg (by decide)]
    dsimp only
    rw [shAt_nat hi, shAt_nat hj]
    obtain ⟨_, _, _, _, _, _, _, g⟩ := rowN_sh hi
    obtain ⟨_, _, _, _, _, _, _, g2⟩ := rowN_sh hj
    have hA := (hl _ (List.getElem_mem hi)).shape
    have hB := (hl _ (List.getElem_mem hj)).shape
    generalize l[i].shape = A at g hA ⊢
    generalize l[j].shape = B at g2 hB ⊢
    have hra := c_r04_Right gl A (by omega)
    have hsame := c_r04_Same gl A B (by omega) (by omega)
    have hlA := rowZ_length A
    have hlB := rowZ_length B
    obtain rfl : name = ⟨#[]⟩ := F.nn rfl
    obtain rfl : k = ⟨#[]⟩ := F.k (by dsimp only; decide)
    obtain rfl : n = 0 := F.n (by dsimp only; decide)
    obtain rfl : data = [] := List.length_eq_zero_iff.1 (F.d (by dsimp only; decide))
    by_cases hAB : A = B
    · rw [refZ_at .add (s := A) rfl (by show (A, decide (A = B)) = _; rw [decide_eq_true hAB]) (by decide)]
      rw [decide_eq_true hAB] at hsame
      refine vcall_of TOK_r10_Shape HM Go.Proofs.Tryz.func17 rfl (by decide +kernel) (by decide +kernel) rfl ?_
      repeat' ((conv => whnf); first | ((with_reducible apply Xq); assumption) | (with_reducible first | apply Xa | (first | apply xi | apply xp | apply xP); omega | apply Xe | refine Xg (by assumption) ?_) | refine Xo (by assumption) ?_ | refine x_0 (by first | assumption | rfl) ?_ | refine x_1 (by first | assumption | rfl) ?_ | refine Or.inl ⟨rfl, ?_⟩ | (split <;> (first | (rename_i u h; clear u) | rename_i h) <;> (try rewrite [h]) <;> (first | replace h := dt h | replace h := df h | replace h := Nt h | replace h := Nf h | skip) <;> (try dsimp only at h) <;> (first | contradiction | (exfalso; omega) | skip)) | (refine Or.inl ⟨_, by assumption, ?_⟩; first | rintro _ rfl | skip))
      all_goals (conv => whnf)
      all_goals first | exact ⟨_, roTo2 rfl rfl, rfl⟩ | exact ⟨_, roTo2 (show RoTo .nils (.ro 1 []) from ⟨1, rfl⟩) rfl, rfl⟩
    · rw [refZ_no]
      rotate_left
      · exact (show decide (A = B) = false from decide_eq_false hAB)
      rw [decide_eq_false hAB] at hsame
      refine vcall_of TOK_r10_Shape HM Go.Proofs.Tryz.func17 rfl (by decide +kernel) (by decide +kernel) rfl ?_
      repeat' ((conv => whnf); first | ((with_reducible apply Xq); assumption) | (with_reducible first | apply Xa | (first | apply xi | apply xp | apply xP); omega | apply Xe | refine Xg (by assumption) ?_) | refine Xo (by assumption) ?_ | refine x_0 (by first | assumption | rfl) ?_ | refine x_1 (by first | assumption | rfl) ?_ | refine Or.inl ⟨rfl, ?_⟩ | (split <;> (first | (rename_i u h; clear u) | rename_i h) <;> (try rewrite [h]) <;> (first | replace h := dt h | replace h := df h | replace h := Nt h | replace h := Nf h | skip) <;> (try dsimp only at h) <;> (first | contradiction | (exfalso; omega) | skip)) | (refine Or.inl ⟨_, by assumption, ?_⟩; first | rintro _ rfl | skip))
      all_goals (conv => whnf)
      all_goals first | exact ⟨_, roTo2 rfl rfl, rfl⟩ | exact ⟨_, roTo2 (show RoTo .nils (.ro 1 []) from ⟨1, rfl⟩) rfl, rfl⟩
  case sub =>
    obtain ⟨i, rfl, hi⟩ : ∃ i : Nat, a = i ∧ i < l.length := inR_nat (F.ia (by decide))
    obtain ⟨j, rfl, hj⟩ : ∃ i : Nat, b = i ∧ i < l.length := inR_nat (F.ib (by decide))
    rw [if_neg (by decide), if_neg (by decide)]
    dsimp only
    rw [shAt_nat hi, shAt_nat hj]
    obtain ⟨_, _, _, _, _, _, _, g⟩ := rowN_sh hi
    obtain ⟨_, _, _, _, _, _, _, g2⟩ := rowN_sh hj
    have hA := (hl _ (List.getElem_mem hi)).shape
    have hB := (hl _ (List.getElem_mem hj)).shape
    generalize l[i].shape = A at g hA ⊢
    generalize l[j].shape = B at g2 hB ⊢
    have hra := c_r04_Right gl A (by omega)
    have hsame := c_r04_Same gl A B (by omega) (by omega)
    have hlA := rowZ_length A
    have hlB := rowZ_length B
    obtain rfl : name = ⟨#[]⟩ := F.nn rfl
    obtain rfl : k = ⟨#[]⟩ := F.k (by dsimp only; decide)
    obtain rfl : n = 0 := F.n (by dsimp only; decide)
    obtain rfl : data = [] := List.length_eq_zero_iff.1 (F.d (by dsimp only; decide))
    by_cases hAB : A = B
    · rw [refZ_at .sub (s := A) rfl (by show (A, decide (A = B)) = _; rw [decide_eq_true hAB]) (by decide)]
      rw [decide_eq_true hAB] at hsame
      refine vcall_of TOK_r10_Shape HM Go.Proofs.Tryz.func17 rfl (by decide +kernel) (by decide +kernel) rfl ?_
      repeat' ((conv => whnf); first | ((with_reducible apply Xq); assumption) | (with_reducible first | apply Xa | (first | apply xi | apply xp | apply xP); omega | apply Xe | refine Xg (by assumption) ?_) | refine Xo (by assumption) ?_ | refine x_0 (by first | assumption | rfl) ?_ | refine x_1 (by first | assumption | rfl) ?_ | refine Or.inl ⟨rfl, ?_⟩ | (split <;> (first | (rename_i u h; clear u) | rename_i h) <;> (try rewrite [h]) <;> (first | replace h := dt h | replace h := df h | replace h := Nt h | replace h := Nf h | skip) <;> (try dsimp only at h) <;> (first | contradiction | (exfalso; omega) | skip)) | (refine Or.inl ⟨_, by assumption, ?_⟩; first | rintro _ rfl | skip))
      all_goals (conv => whnf)
      all_goals first | exact ⟨_, roTo2 rfl rfl, rfl⟩ | exact ⟨_, roTo2 (show RoTo .nils (.ro 1 []) from ⟨1, rfl⟩) rfl, rfl⟩
    · rw [refZ_no]
      rotate_left
      · exact (show decide (A = B) = false from decide_eq_false hAB)
      rw [decide_eq_false hAB] at hsame
      refine vcall_of TOK_r10_Shape HM Go.Proofs.Tryz.func17 rfl (by decide +kernel) (by decide +kernel) rfl ?_
      repeat' ((conv => whnf); first | ((with_reducible apply Xq); assumption) | (with_reducible first | apply Xa | (first | apply xi | apply xp | apply xP); omega | apply Xe | refine Xg (by assumption) ?_) | refine Xo (by assumption) ?_ | refine x_0 (by first | assumption | rfl) ?_ | refine x_1 (by first | assumption | rfl) ?_ | refine Or.inl ⟨rfl, ?_⟩ | (split <;> (first | (rename_i u h; clear u) | rename_i h) <;> (try rewrite [h]) <;> (first | replace h := dt h | replace h := df h | replace h := Nt h | replace h := Nf h | skip) <;> (try dsimp only at h) <;> (first | contradiction | (exfalso; omega) | skip)) | (refine Or.inl ⟨_, by assumption, ?_⟩; first | rintro _ rfl | skip))
      all_goals (conv => whnf)
      all_goals first | exact ⟨_, roTo2 rfl rfl, rfl⟩ | exact ⟨_, roTo2 (show RoTo .nils (.ro 1 []) from ⟨1, rfl⟩) rfl, rfl⟩
  case mul =>
    obtain ⟨i, rfl, hi⟩ : ∃ i : Nat, a = i ∧ i < l.length := inR_nat (F.ia (by decide))
    obtain ⟨j, rfl, hj⟩ : ∃ i : Nat, b = i ∧ i < l.length := inR_nat (F.ib (by decide))
    rw [if_neg (by decide), if_neg (by decide)]
    dsimp only
    rw [shAt_nat hi, shAt_nat hj]
    obtain ⟨_, _, _, _, _, _, _, g⟩ := rowN_sh hi
    obtain ⟨_, _, _, _, _, _, _, g2⟩ := rowN_sh hj
    have hA := (hl _ (List.getElem_mem hi)).shape
    have hB := (hl _ (List.getElem_mem hj)).shape
    generalize l[i].shape = A at g hA ⊢
    generalize l[j].shape = B at g2 hB ⊢
    have hra := c_r04_Right gl A (by omega)
    have hsame := c_r04_Same gl A B (by omega) (by omega)
    have hlA := rowZ_length A
    have hlB := rowZ_length B
    obtain rfl : name = ⟨#[]⟩ := F.nn rfl
    obtain rfl : k = ⟨#[]⟩ := F.k (by dsimp only; decide)
    obtain rfl : n = 0 := F.n (by dsimp only; decide)
    obtain rfl : data = [] := List.length_eq_zero_iff.1 (F.d (by dsimp only; decide))
    by_cases hAB : A = B
    · rw [refZ_at .mul (s := A) rfl (by show (A, decide (A = B)) = _; rw [decide_eq_true hAB]) (by decide)]
      rw [decide_eq_true hAB] at hsame
      refine vcall_of TOK_r10_Shape HM Go.Proofs.Tryz.func17 rfl (by decide +kernel) (by decide +kernel) rfl ?_
      repeat' ((conv => whnf); first | ((with_reducible apply Xq); assumption) | (with_reducible first | apply Xa | (first | apply xi | apply xp | apply xP); omega | apply Xe | refine Xg (by assumption) ?_) | refine Xo (by assumption) ?_ | refine x_0 (by first | assumption | rfl) ?_ | refine x_1 (by first | assumption | rfl) ?_ | refine Or.inl ⟨rfl, ?_⟩ | (split <;> (first | (rename_i u h; clear u) | rename_i h) <;> (try rewrite [h]) <;> (first | replace h := dt h | replace h := df h | replace h := Nt h | replace h := Nf h | skip) <;> (try dsimp only at h) <;> (first | contradiction | (exfalso; omega) | skip)) | (refine Or.inl ⟨_, by assumption, ?_⟩; first | rintro _ rfl | skip))
      all_goals (conv => whnf)
      all_goals first | exact ⟨_, roTo2 rfl rfl, rfl⟩ | exact ⟨_, roTo2 (show RoTo .nils (.ro 1 []) from ⟨1, rfl⟩) rfl, rfl⟩
    · rw [refZ_no]
      rotate_left
      · exact (show decide (A = B) = false from decide_eq_false hAB)
      rw [decide_eq_false hAB] at hsame
      refine vcall_of TOK_r10_Shape HM Go.Proofs.Tryz.func17 rfl (by decide +kernel) (by decide +kernel) rfl ?_
      repeat' ((conv => whnf); first | ((with_reducible apply Xq); assumption) | (with_reducible first | apply Xa | (first | apply xi | apply xp | apply xP); omega | apply Xe | refine Xg (by assumption) ?_) | refine Xo (by assumption) ?_ | refine x_0 (by first | assumption | rfl) ?_ | refine x_1 (by first | assumption | rfl) ?_ | refine Or.inl ⟨rfl, ?_⟩ | (split <;> (first | (rename_i u h; clear u) | rename_i h) <;> (try rewrite [h]) <;> (first | replace h := dt h | replace h := df h | replace h := Nt h | replace h := Nf h | skip) <;> (try dsimp only at h) <;> (first | contradiction | (exfalso; omega) | skip)) | (refine Or.inl ⟨_, by assumption, ?_⟩; first | rintro _ rfl | skip))
      all_goals (conv => whnf)
      all_goals first | exact ⟨_, roTo2 rfl rfl, rfl⟩ | exact ⟨_, roTo2 (show RoTo .nils (.ro 1 []) from ⟨1, rfl⟩) rfl, rfl⟩
  case max =>
    obtain ⟨i, rfl, hi⟩ : ∃ i : Nat, a = i ∧ i < l.length := inR_nat (F.ia (by decide))
    obtain ⟨j, rfl, hj⟩ : ∃ i : Nat, b = i ∧ i < l.length := inR_nat (F.ib (by decide))
    rw [if_neg (by decide), if_neg (by decide)]
    dsimp only
    rw [shAt_nat hi, shAt_nat hj]
    obtain ⟨_, _, _, _, _, _, _, g⟩ := rowN_sh hi
    obtain ⟨_, _, _, _, _, _, _, g2⟩ := rowN_sh hj
    have hA := (hl _ (List.getElem_mem hi)).shape
    have hB := (hl _ (List.getElem_mem hj)).shape
    generalize l[i].shape = A at g hA ⊢
    generalize l[j].shape = B at g2 hB ⊢
    have hra := c_r04_Right gl A (by omega)
    have hsame := c_r04_Same gl A B (by omega) (by omega)
    have hlA := rowZ_length A
    have hlB := rowZ_length B
    obtain rfl : name = ⟨#[]⟩ := F.nn rfl
    obtain rfl : k = ⟨#[]⟩ := F.k (by dsimp only; decide)
    obtain rfl : n = 0 := F.n (by dsimp only; decide)
    obtain rfl : data = [] := List.length_eq_zero_iff.1 (F.d (by dsimp only; decide))
    by_cases hAB : A = B
    · rw [refZ_at .max (s := A) rfl (by show (A, decide (A = B)) = _; rw [decide_eq_true hAB]) (by decide)]
      rw [decide_eq_true hAB] at hsame
      refine vcall_of TOK_r10_Shape HM Go.Proofs.Tryz.func17 rfl (by decide +kernel) (by decide +kernel) rfl ?_
      repeat' ((conv => whnf); first | ((with_reducible apply Xq); assumption) | (with_reducible first | apply Xa | (first | apply xi | apply xp | apply xP); omega | apply Xe | refine Xg (by assumption) ?_) | refine Xo (by assumption) ?_ | refine x_0 (by first | assumption | rfl) ?_ | refine x_1 (by first | assumption | rfl) ?_ | refine Or.inl ⟨rfl, ?_⟩ | (split <;> (first | (rename_i u h; clear u) | rename_i h) <;> (try rewrite [h]) <;> (first | replace h := dt h | replace h := df h | replace h := Nt h | replace h := Nf h | skip) <;> (try dsimp only at h) <;> (first | contradiction | (exfalso; omega) | skip)) | (refine Or.inl ⟨_, by assumption, ?_⟩; first | rintro _ rfl | skip))
      all_goals (conv => whnf)
      all_goals first | exact ⟨_, roTo2 rfl rfl, rfl⟩ | exact ⟨_, roTo2 (show RoTo .nils (.ro 1 []) from ⟨1, rfl⟩) rfl, rfl⟩
    · rw [refZ_no]
      rotate_left
      · exact (show decide (A = B) = false from decide_eq_false hAB)
      rw [decide_eq_false hAB] at hsame
      refine vcall_of TOK_r10_Shape HM Go.Proofs.Tryz.func17 rfl (by decide +kernel) (by decide +kernel) rfl ?_
      repeat' ((conv => whnf); first | ((with_reducible apply Xq); assumption) | (with_reducible first | apply Xa | (first | apply xi | apply xp | apply xP); omega | apply Xe | refine Xg (by assumption) ?_) | refine Xo (by assumption) ?_ | refine x_0 (by first | assumption | rfl) ?_ | refine x_1 (by first | assumption | rfl) ?_ | refine Or.inl ⟨rfl, ?_⟩ | (split <;> (first | (rename_i u h; clear u) | rename_i h) <;> (try rewrite [h]) <;> (first | replace h := dt h | replace h := df h | replace h := Nt h | replace h := Nf h | skip) <;> (try dsimp only at h) <;> (first | contradiction | (exfalso; omega) | skip)) | (refine Or.inl ⟨_, by assumption, ?_⟩; first | rintro _ rfl | skip))
      all_goals (conv => whnf)
      all_goals first | exact ⟨_, roTo2 rfl rfl, rfl⟩ | exact ⟨_, roTo2 (show RoTo .nils (.ro 1 []) from ⟨1, rfl⟩) rfl, rfl⟩
  case above =>
    obtain ⟨i, rfl, hi⟩ : ∃ i : Nat, a = i ∧ i < l.length := inR_nat (F.ia (by decide))
    obtain ⟨j, rfl, hj⟩ : ∃ i : Nat, b = i ∧ i < l.length := inR_nat (F.ib (by decide))
    rw [if_neg (by decide), if_neg (by decide)]
    dsimp only
    rw [shAt_nat hi, shAt_nat hj]
    obtain ⟨_, _, _, _, _, _, _, g⟩ := rowN_sh hi
    obtain ⟨_, _, _, _, _, _, _, g2⟩ := rowN_sh hj
    have hA := (hl _ (List.getElem_mem hi)).shape
    have hB := (hl _ (List.getElem_mem hj)).shape
    generalize l[i].shape = A at g hA ⊢
    generalize l[j].shape = B at g2 hB ⊢
    have hra := c_r04_Right gl A (by omega)
    have hsame := c_r04_Same gl A B (by omega) (by omega)
    have hlA := rowZ_length A
    have hlB := rowZ_length B
    obtain rfl : name = ⟨#[]⟩ := F.nn rfl
    obtain rfl : k = ⟨#[]⟩ := F.k (by dsimp only; decide)
    obtain rfl : n = 0 := F.n (by dsimp only; decide)
    obtain rfl : data = [] := List.length_eq_zero_iff.1 (F.d (by dsimp only; decide))
    by_cases hAB : A = B
    · rw [refZ_at .above (s := A) rfl (by show (A, decide (A = B)) = _; rw [decide_eq_true hAB]) (by decide)]
      rw [decide_eq_true hAB] at hsame
      refine vcall_of TOK_r10_Shape HM Go.Proofs.Tryz.func17 rfl (by decide +kernel) (by decide +kernel) rfl ?_
      repeat' ((conv => whnf); first | ((with_reducible apply Xq); assumption) | (with_reducible first | apply Xa | (first | apply xi | apply xp | apply xP); omega | apply Xe | refine Xg (by assumption) ?_) | refine Xo (by assumption) ?_ | refine x_0 (by first | assumption | rfl) ?_ | refine x_1 (by first | assumption | rfl) ?_ | refine Or.inl ⟨rfl, ?_⟩ | (split <;> (first | (rename_i u h; clear u) | rename_i h) <;> (try rewrite [h]) <;> (first | replace h := dt h | replace h := df h | replace h := Nt h | replace h := Nf h | skip) <;> (try dsimp only at h) <;> (first | contradiction | (exfalso; omega) | skip)) | (refine Or.inl ⟨_, by assumption, ?_⟩; first | rintro _ rfl | skip))
      all_goals (conv => whnf)
      all_goals first | exact ⟨_, roTo2 rfl rfl, rfl⟩ | exact ⟨_, roTo2 (show RoTo .nils (.ro 1 []) from ⟨1, rfl⟩) rfl, rfl⟩
    · rw [refZ_no]
      rotate_left
      · exact (show decide (A = B) = false from decide_eq_false hAB)
      rw [decide_eq_false hAB] at hsame
      refine vcall_of TOK_r10_Shape HM Go.Proofs.Tryz.func17 rfl (by decide +kernel) (by decide +kernel) rfl ?_
      repeat' ((conv => whnf); first | ((with_reducible apply Xq); assumption) | (with_reducible first | apply Xa | (first | apply xi | apply xp | apply xP); omega | apply Xe | refine Xg (by assumption) ?_) | refine Xo (by assumption) ?_ | refine x_0 (by first | assumption | rfl) ?_ | refine x_1 (by first | assumption | rfl) ?_ | refine Or.inl ⟨rfl, ?_⟩ | (split <;> (first | (rename_i u h; clear u) | rename_i h) <;> (try rewrite [h]) <;> (first | replace h := dt h | replace h := df h | replace h := Nt h | replace h := Nf h | skip) <;> (try dsimp only at h) <;> (first | contradiction | (exfalso; omega) | skip)) | (refine Or.inl ⟨_, by assumption, ?_⟩; first | rintro _ rfl | skip))
      all_goals (conv => whnf)
      all_goals first | exact ⟨_, roTo2 rfl rfl, rfl⟩ | exact ⟨_, roTo2 (show RoTo .nils (.ro 1 []) from ⟨1, rfl⟩) rfl, rfl⟩
  case sum =>
    obtain ⟨i, rfl, hi⟩ : ∃ i : Nat, a = i ∧ i < l.length := inR_nat (F.ia (by decide))
    obtain rfl : b = 0 := F.b0 (by decide)
    rw [if_neg (by decide), if_pos (by decide)]
    dsimp only
    rw [shAt_nat hi]
    obtain ⟨_, _, _, _, _, _, _, g⟩ := rowN_sh hi
    have hA := (hl _ (List.getElem_mem hi)).shape
    generalize l[i].shape = A at g hA ⊢
    have hra := c_r04_Right gl A (by omega)
    have hlA := rowZ_length A
    obtain rfl : name = ⟨#[]⟩ := F.nn rfl
    obtain rfl : k = ⟨#[]⟩ := F.k (by dsimp only; decide)
    obtain rfl : n = 0 := F.n (by dsimp only; decide)
    obtain rfl : data = [] := List.length_eq_zero_iff.1 (F.d (by dsimp only; decide))
    rw [refZ_at .sum (s := []) rfl rfl (by decide)]
    refine vcall_of TOK_r10_Shape HM Go.Proofs.Tryz.func17 rfl (by decide +kernel) (by decide +kernel) rfl ?_
    repeat' ((conv => whnf); first | ((with_reducible apply Xq); assumption) | (with_reducible first | apply Xa | (first | apply xi | apply xp | apply xP); omega | apply Xe | refine Xg (by assumption) ?_) | refine Xo (by assumption) ?_ | refine x_0 (by first | assumption | rfl) ?_ | refine x_1 (by first | assumption | rfl) ?_ | refine Or.inl ⟨rfl, ?_⟩ | (split <;> (first | (rename_i u h; clear u) | rename_i h) <;> (try rewrite [h]) <;> (first | replace h := dt h | replace h := df h | replace h := Nt h | replace h := Nf h | skip) <;> (try dsimp only at h) <;> (first | contradiction | (exfalso; omega) | skip)) | (refine Or.inl ⟨_, by assumption, ?_⟩; first | rintro _ rfl | skip))
    all_goals (conv => whnf)
    all_goals first | exact ⟨_, roTo2 rfl rfl, rfl⟩ | exact ⟨_, roTo2 (show RoTo .nils (.ro 1 []) from ⟨1, rfl⟩) rfl, rfl⟩
  case scale =>
    obtain ⟨i, rfl, hi⟩ : ∃ i : Nat, a = i ∧ i < l.length := inR_nat (F.ia (by decide))
    obtain rfl : b = 0 := F.b0 (by decide)
    rw [if_neg (by decide), if_pos (by decide)]
    dsimp only
    rw [shAt_nat hi]
    obtain ⟨_, _, _, _, _, _, _, g⟩ := rowN_sh hi
    have hA := (hl _ (List.getElem_mem hi)).shape
    generalize l[i].shape = A at g hA ⊢
    have hra := c_r04_Right gl A (by omega)
    have hlA := rowZ_length A
    obtain rfl : name = ⟨#[]⟩ := F.nn rfl
    obtain rfl : n = 0 := F.n (by dsimp only; decide)
    obtain rfl : data = [] := List.length_eq_zero_iff.1 (F.d (by dsimp only; decide))
    have hread := c_r03_Read gl k (Nat.lt_of_le_of_lt hk (by decide))
    cases hr : ratOK k
    · rw [hr] at hread
      rw [refZ_no]
      rotate_left
      · exact (show ratOK k = false from hr)
      refine vcall_of TOK_r10_Shape HM Go.Proofs.Tryz.func17 rfl (by decide +kernel) (by decide +kernel) rfl ?_
      repeat' ((conv => whnf); first | ((with_reducible apply Xq); assumption) | (with_reducible first | apply Xa | (first | apply xi | apply xp | apply xP); omega | apply Xe | refine Xg (by assumption) ?_) | refine Xo (by assumption) ?_ | refine x_0 (by first | assumption | rfl) ?_ | refine x_1 (by first | assumption | rfl) ?_ | refine Or.inl ⟨rfl, ?_⟩ | (split <;> (first | (rename_i u h; clear u) | rename_i h) <;> (try rewrite [h]) <;> (first | replace h := dt h | replace h := df h | replace h := Nt h | replace h := Nf h | skip) <;> (try dsimp only at h) <;> (first | contradiction | (exfalso; omega) | skip)) | (refine Or.inl ⟨_, by assumption, ?_⟩; first | rintro _ rfl | skip))
      rintro _ ⟨p, q, rfl, _⟩
      repeat' ((conv => whnf); first | ((with_reducible apply Xq); assumption) | (with_reducible first | apply Xa | (first | apply xi | apply xp | apply xP); omega | apply Xe | refine Xg (by assumption) ?_) | refine Xo (by assumption) ?_ | refine x_0 (by first | assumption | rfl) ?_ | refine x_1 (by first | assumption | rfl) ?_ | refine Or.inl ⟨rfl, ?_⟩ | (split <;> (first | (rename_i u h; clear u) | rename_i h) <;> (try rewrite [h]) <;> (first | replace h := dt h | replace h := df h | replace h := Nt h | replace h := Nf h | skip) <;> (try dsimp only at h) <;> (first | contradiction | (exfalso; omega) | skip)) | (refine Or.inl ⟨_, by assumption, ?_⟩; first | rintro _ rfl | skip))
      all_goals (conv => whnf)
      all_goals first | exact ⟨_, roTo2 rfl rfl, rfl⟩ | exact ⟨_, roTo2 (show RoTo .nils (.ro 1 []) from ⟨1, rfl⟩) rfl, rfl⟩
    · rw [hr] at hread
      rw [refZ_at .scale (s := A) rfl (by show (A, ratOK k) = _; rw [hr]) (by decide)]
      refine vcall_of TOK_r10_Shape HM Go.Proofs.Tryz.func17 rfl (by decide +kernel) (by decide +kernel) rfl ?_
      repeat' ((conv => whnf); first | ((with_reducible apply Xq); assumption) | (with_reducible first | apply Xa | (first | apply xi | apply xp | apply xP); omega | apply Xe | refine Xg (by assumption) ?_) | refine Xo (by assumption) ?_ | refine x_0 (by first | assumption | rfl) ?_ | refine x_1 (by first | assumption | rfl) ?_ | refine Or.inl ⟨rfl, ?_⟩ | (split <;> (first | (rename_i u h; clear u) | rename_i h) <;> (try rewrite [h]) <;> (first | replace h := dt h | replace h := df h | replace h := Nt h | replace h := Nf h | skip) <;> (try dsimp only at h) <;> (first | contradiction | (exfalso; omega) | skip)) | (refine Or.inl ⟨_, by assumption, ?_⟩; first | rintro _ rfl | skip))
      rintro _ ⟨p, q, rfl, _⟩
      repeat' ((conv => whnf); first | ((with_reducible apply Xq); assumption) | (with_reducible first | apply Xa | (first | apply xi | apply xp | apply xP); omega | apply Xe | refine Xg (by assumption) ?_) | refine Xo (by assumption) ?_ | refine x_0 (by first | assumption | rfl) ?_ | refine x_1 (by first | assumption | rfl) ?_ | refine Or.inl ⟨rfl, ?_⟩ | (split <;> (first | (rename_i u h; clear u) | rename_i h) <;> (try rewrite [h]) <;> (first | replace h := dt h | replace h := df h | replace h := Nt h | replace h := Nf h | skip) <;> (try dsimp only at h) <;> (first | contradiction | (exfalso; omega) | skip)) | (refine Or.inl ⟨_, by assumption, ?_⟩; first | rintro _ rfl | skip))
      all_goals (conv => whnf)
      all_goals first | exact ⟨_, roTo2 rfl rfl, rfl⟩ | exact ⟨_, roTo2 (show RoTo .nils (.ro 1 []) from ⟨1, rfl⟩) rfl, rfl⟩
  case power =>
    obtain ⟨i, rfl, hi⟩ : ∃ i : Nat, a = i ∧ i < l.length := inR_nat (F.ia (by decide))
    obtain rfl : b = 0 := F.b0 (by decide)
    rw [if_neg (by decide), if_pos (by decide)]
    dsimp only
    rw [shAt_nat hi]
    obtain ⟨_, _, _, _, _, _, _, g⟩ := rowN_sh hi
    have hA := (hl _ (List.getElem_mem hi)).shape
    generalize l[i].shape = A at g hA ⊢
    have hra := c_r04_Right gl A (by omega)
    have hlA := rowZ_length A
    obtain rfl : name = ⟨#[]⟩ := F.nn rfl
    obtain rfl : k = ⟨#[]⟩ := F.k (by dsimp only; decide)
    obtain rfl : data = [] := List.length_eq_zero_iff.1 (F.d (by dsimp only; decide))
    by_cases hn : 0 ≤ n ∧ n ≤ 6
    · rw [refZ_at .power (s := A) rfl (by show (A, decide (0 ≤ n) && decide (n ≤ 6)) = _; simp [hn]) (by decide)]
      refine vcall_of TOK_r10_Shape HM Go.Proofs.Tryz.func17 rfl (by decide +kernel) (by decide +kernel) rfl ?_
      repeat' ((conv => whnf); first | ((with_reducible apply Xq); assumption) | (with_reducible first | apply Xa | (first | apply xi | apply xp | apply xP); omega | apply Xe | refine Xg (by assumption) ?_) | refine Xo (by assumption) ?_ | refine x_0 (by first | assumption | rfl) ?_ | refine x_1 (by first | assumption | rfl) ?_ | refine Or.inl ⟨rfl, ?_⟩ | (split <;> (first | (rename_i u h; clear u) | rename_i h) <;> (try rewrite [h]) <;> (first | replace h := dt h | replace h := df h | replace h := Nt h | replace h := Nf h | skip) <;> (try dsimp only at h) <;> (first | contradiction | (exfalso; omega) | skip)) | (refine Or.inl ⟨_, by assumption, ?_⟩; first | rintro _ rfl | skip))
      all_goals (conv => whnf)
      all_goals first | exact ⟨_, roTo2 rfl rfl, rfl⟩ | exact ⟨_, roTo2 (show RoTo .nils (.ro 1 []) from ⟨1, rfl⟩) rfl, rfl⟩
    · rw [refZ_no]
      rotate_left
      · exact (show (decide (0 ≤ n) && decide (n ≤ 6)) = false by rw [Bool.eq_false_iff]; simp only [ne_eq, Bool.and_eq_true, decide_eq_true_eq]; exact hn)
      refine vcall_of TOK_r10_Shape HM Go.Proofs.Tryz.func17 rfl (by decide +kernel) (by decide +kernel) rfl ?_
      repeat' ((conv => whnf); first | ((with_reducible apply Xq); assumption) | (with_reducible first | apply Xa | (first | apply xi | apply xp | apply xP); omega | apply Xe | refine Xg (by assumption) ?_) | refine Xo (by assumption) ?_ | refine x_0 (by first | assumption | rfl) ?_ | refine x_1 (by first | assumption | rfl) ?_ | refine Or.inl ⟨rfl, ?_⟩ | (split <;> (first | (rename_i u h; clear u) | rename_i h) <;> (try rewrite [h]) <;> (first | replace h := dt h | replace h := df h | replace h := Nt h | replace h := Nf h | skip) <;> (try dsimp only at h) <;> (first | contradiction | (exfalso; omega) | skip)) | (refine Or.inl ⟨_, by assumption, ?_⟩; first | rintro _ rfl | skip))
      all_goals (conv => whnf)
      all_goals first | exact ⟨_, roTo2 rfl rfl, rfl⟩ | exact ⟨_, roTo2 (show RoTo .nils (.ro 1 []) from ⟨1, rfl⟩) rfl, rfl⟩
  case transpose =>
    obtain ⟨i, rfl, hi⟩ : ∃ i : Nat, a = i ∧ i < l.length := inR_nat (F.ia (by decide))
    obtain rfl : b = 0 := F.b0 (by decide)
    rw [if_neg (by decide), if_pos (by decide)]
    dsimp only
    rw [shAt_nat hi]
    obtain ⟨_, _, _, _, _, _, _, g⟩ := rowN_sh hi
    have hA := (hl _ (List.getElem_mem hi)).shape
    generalize l[i].shape = A at g hA ⊢
    have hra := c_r04_Right gl A (by omega)
    have hlA := rowZ_length A
    obtain rfl : name = ⟨#[]⟩ := F.nn rfl
    obtain rfl : k = ⟨#[]⟩ := F.k (by dsimp only; decide)
    obtain rfl : n = 0 := F.n (by dsimp only; decide)
    obtain rfl : data = [] := List.length_eq_zero_iff.1 (F.d (by dsimp only; decide))
    by_cases h2 : A.length = 2
    · obtain ⟨p, q, rfl⟩ := two_of h2
      have hqp := c_r04_Right gl [q, p] (show 2 < _ by decide)
      rw [refZ_at .transpose (s := [q, p]) rfl rfl (by decide)]
      refine vcall_of TOK_r10_Shape HM Go.Proofs.Tryz.func17 rfl (by decide +kernel) (by decide +kernel) rfl ?_
      repeat' ((conv => whnf); first | ((with_reducible apply Xq); assumption) | (with_reducible first | apply Xa | (first | apply xi | apply xp | apply xP); omega | apply Xe | refine Xg (by assumption) ?_) | refine Xo (by assumption) ?_ | refine x_0 (by first | assumption | rfl) ?_ | refine x_1 (by first | assumption | rfl) ?_ | refine Or.inl ⟨rfl, ?_⟩ | (split <;> (first | (rename_i u h; clear u) | rename_i h) <;> (try rewrite [h]) <;> (first | replace h := dt h | replace h := df h | replace h := Nt h | replace h := Nf h | skip) <;> (try dsimp only at h) <;> (first | contradiction | (exfalso; omega) | skip)) | (refine Or.inl ⟨_, by assumption, ?_⟩; first | rintro _ rfl | skip))
      refine ⟨by decide +kernel, [0, 1, 3, 0, 8, 24, 63, 127], by decide +kernel, ?_⟩
      repeat' ((conv => whnf); first | ((with_reducible apply Xq); assumption) | (with_reducible first | apply Xa | (first | apply xi | apply xp | apply xP); omega | apply Xe | refine Xg (by assumption) ?_) | refine Xo (by assumption) ?_ | refine x_0 (by first | assumption | rfl) ?_ | refine x_1 (by first | assumption | rfl) ?_ | refine Or.inl ⟨rfl, ?_⟩ | (split <;> (first | (rename_i u h; clear u) | rename_i h) <;> (try rewrite [h]) <;> (first | replace h := dt h | replace h := df h | replace h := Nt h | replace h := Nf h | skip) <;> (try dsimp only at h) <;> (first | contradiction | (exfalso; omega) | skip)) | (refine Or.inl ⟨_, by assumption, ?_⟩; first | rintro _ rfl | skip))
      all_goals (conv => whnf)
      all_goals first | exact ⟨_, roTo2 rfl rfl, rfl⟩ | exact ⟨_, roTo2 (show RoTo .nils (.ro 1 []) from ⟨1, rfl⟩) rfl, rfl⟩
    · rw [refZ_no]
      rotate_left
      · exact (congrArg Prod.snd (transpose_not h2))
      refine vcall_of TOK_r10_Shape HM Go.Proofs.Tryz.func17 rfl (by decide +kernel) (by decide +kernel) rfl ?_
      repeat' ((conv => whnf); first | ((with_reducible apply Xq); assumption) | (with_reducible first | apply Xa | (first | apply xi | apply xp | apply xP); omega | apply Xe | refine Xg (by assumption) ?_) | refine Xo (by assumption) ?_ | refine x_0 (by first | assumption | rfl) ?_ | refine x_1 (by first | assumption | rfl) ?_ | refine Or.inl ⟨rfl, ?_⟩ | (split <;> (first | (rename_i u h; clear u) | rename_i h) <;> (try rewrite [h]) <;> (first | replace h := dt h | replace h := df h | replace h := Nt h | replace h := Nf h | skip) <;> (try dsimp only at h) <;> (first | contradiction | (exfalso; omega) | skip)) | (refine Or.inl ⟨_, by assumption, ?_⟩; first | rintro _ rfl | skip))
      all_goals (conv => whnf)
      all_goals first | exact ⟨_, roTo2 rfl rfl, rfl⟩ | exact ⟨_, roTo2 (show RoTo .nils (.ro 1 []) from ⟨1, rfl⟩) rfl, rfl⟩
  case spread =>
    obtain ⟨i, rfl, hi⟩ : ∃ i : Nat, a = i ∧ i < l.length := inR_nat (F.ia (by decide))
    obtain rfl : b = 0 := F.b0 (by decide)
    rw [if_neg (by decide), if_pos (by decide)]
    dsimp only
    rw [shAt_nat hi]
    obtain ⟨_, _, _, _, _, _, _, g⟩ := rowN_sh hi
    have hA := (hl _ (List.getElem_mem hi)).shape
    generalize l[i].shape = A at g hA ⊢
    have hra := c_r04_Right gl A (by omega)
    have hlA := rowZ_length A
    obtain rfl : name = ⟨#[]⟩ := F.nn rfl
    obtain rfl : k = ⟨#[]⟩ := F.k (by dsimp only; decide)
    obtain rfl : n = 0 := F.n (by dsimp only; decide)
    obtain rfl : data = [] := List.length_eq_zero_iff.1 (F.d (by dsimp only; decide))
    by_cases h0 : A.length = 0
    · rw [refZ_at .spread (s := shape) rfl (by show (shape, decide ((A.length : Int) = 0)) = _; simp [h0]) (by decide)]
      refine vcall_of TOK_r10_Shape HM Go.Proofs.Tryz.func17 rfl (by decide +kernel) (by decide +kernel) rfl ?_
      repeat' ((conv => whnf); first | ((with_reducible apply Xq); assumption) | (with_reducible first | apply Xa | (first | apply xi | apply xp | apply xP); omega | apply Xe | refine Xg (by assumption) ?_) | refine Xo (by assumption) ?_ | refine x_0 (by first | assumption | rfl) ?_ | refine x_1 (by first | assumption | rfl) ?_ | refine Or.inl ⟨rfl, ?_⟩ | (split <;> (first | (rename_i u h; clear u) | rename_i h) <;> (try rewrite [h]) <;> (first | replace h := dt h | replace h := df h | replace h := Nt h | replace h := Nf h | skip) <;> (try dsimp only at h) <;> (first | contradiction | (exfalso; omega) | skip)) | (refine Or.inl ⟨_, by assumption, ?_⟩; first | rintro _ rfl | skip))
      all_goals (conv => whnf)
      all_goals first | exact ⟨_, roTo2 rfl rfl, rfl⟩ | exact ⟨_, roTo2 (show RoTo .nils (.ro 1 []) from ⟨1, rfl⟩) rfl, rfl⟩
    · rw [refZ_no]
      rotate_left
      · exact (show decide ((A.length : Int) = 0) = false by simp; simpa using h0)
      refine vcall_of TOK_r10_Shape HM Go.Proofs.Tryz.func17 rfl (by decide +kernel) (by decide +kernel) rfl ?_
      repeat' ((conv => whnf); first | ((with_reducible apply Xq); assumption) | (with_reducible first | apply Xa | (first | apply xi | apply xp | apply xP); omega | apply Xe | refine Xg (by assumption) ?_) | refine Xo (by assumption) ?_ | refine x_0 (by first | assumption | rfl) ?_ | refine x_1 (by first | assumption | rfl) ?_ | refine Or.inl ⟨rfl, ?_⟩ | (split <;> (first | (rename_i u h; clear u) | rename_i h) <;> (try rewrite [h]) <;> (first | replace h := dt h | replace h := df h | replace h := Nt h | replace h := Nf h | skip) <;> (try dsimp only at h) <;> (first | contradiction | (exfalso; omega) | skip)) | (refine Or.inl ⟨_, by assumption, ?_⟩; first | rintro _ rfl | skip))
      all_goals (conv => whnf)
      all_goals first | exact ⟨_, roTo2 rfl rfl, rfl⟩ | exact ⟨_, roTo2 (show RoTo .nils (.ro 1 []) from ⟨1, rfl⟩) rfl, rfl⟩
  case reshape =>
    obtain ⟨i, rfl, hi⟩ : ∃ i : Nat, a = i ∧ i < l.length := inR_nat (F.ia (by decide))
    obtain rfl : b = 0 := F.b0 (by decide)
    rw [if_neg (by decide), if_pos (by decide)]
    dsimp only
    rw [shAt_nat hi]
    obtain ⟨_, _, _, _, _, _, _, g⟩ := rowN_sh hi
    have hA := (hl _ (List.getElem_mem hi)).shape
    generalize l[i].shape = A at g hA ⊢
    have hra := c_r04_Right gl A (by omega)
    have hlA := rowZ_length A
    obtain rfl : name = ⟨#[]⟩ := F.nn rfl
    obtain rfl : k = ⟨#[]⟩ := F.k (by dsimp only; decide)
    obtain rfl : n = 0 := F.n (by dsimp only; decide)
    obtain rfl : data = [] := List.length_eq_zero_iff.1 (F.d (by dsimp only; decide))
    cases hos : okShape shape
    · rw [refZ_bad]
      rotate_left
      · exact .inr rfl
      · exact (show okShape shape = false from hos)
      rw [hos] at hrs
      refine vcall_of TOK_r10_Shape HM Go.Proofs.Tryz.func17 rfl (by decide +kernel) (by decide +kernel) rfl ?_
      repeat' ((conv => whnf); first | ((with_reducible apply Xq); assumption) | (with_reducible first | apply Xa | (first | apply xi | apply xp | apply xP); omega | apply Xe | refine Xg (by assumption) ?_) | refine Xo (by assumption) ?_ | refine x_0 (by first | assumption | rfl) ?_ | refine x_1 (by first | assumption | rfl) ?_ | refine Or.inl ⟨rfl, ?_⟩ | (split <;> (first | (rename_i u h; clear u) | rename_i h) <;> (try rewrite [h]) <;> (first | replace h := dt h | replace h := df h | replace h := Nt h | replace h := Nf h | skip) <;> (try dsimp only at h) <;> (first | contradiction | (exfalso; omega) | skip)) | (refine Or.inl ⟨_, by assumption, ?_⟩; first | rintro _ rfl | skip))
      all_goals (conv => whnf)
      all_goals first | exact ⟨_, roTo2 rfl rfl, rfl⟩ | exact ⟨_, roTo2 (show RoTo .nils (.ro 1 []) from ⟨1, rfl⟩) rfl, rfl⟩
    rw [hos] at hrs
    have hz1 := c_r04_Size gl shape hos
    have hp1 := prodZ_pos shape 1 (fun d hd => (okShape_dim hos d hd).1) (Int.le_refl _)
    cases hoa : okShape A
    · have e : sizeZ shape ≠ sizeZ A := by simp only [sizeZ, hos, hoa]; intro e; have : prodZ shape = 0 := e; unfold prodZ at this; omega
      rw [refZ_no]
      rotate_left
      · exact (show decide (sizeZ shape = sizeZ A) = false from decide_eq_false e)
      rw [hoa] at hra
      refine vcall_of TOK_r10_Shape HM Go.Proofs.Tryz.func17 rfl (by decide +kernel) (by decide +kernel) rfl ?_
      repeat' ((conv => whnf); first | ((with_reducible apply Xq); assumption) | (with_reducible first | apply Xa | (first | apply xi | apply xp | apply xP); omega | apply Xe | refine Xg (by assumption) ?_) | refine Xo (by assumption) ?_ | refine x_0 (by first | assumption | rfl) ?_ | refine x_1 (by first | assumption | rfl) ?_ | refine Or.inl ⟨rfl, ?_⟩ | (split <;> (first | (rename_i u h; clear u) | rename_i h) <;> (try rewrite [h]) <;> (first | replace h := dt h | replace h := df h | replace h := Nt h | replace h := Nf h | skip) <;> (try dsimp only at h) <;> (first | contradiction | (exfalso; omega) | skip)) | (refine Or.inl ⟨_, by assumption, ?_⟩; first | rintro _ rfl | skip))
      all_goals (conv => whnf)
      all_goals first | exact ⟨_, roTo2 rfl rfl, rfl⟩ | exact ⟨_, roTo2 (show RoTo .nils (.ro 1 []) from ⟨1, rfl⟩) rfl, rfl⟩
    rw [hoa] at hra
    have hz2 := c_r04_Size gl A hoa
    by_cases e : prodZ shape = prodZ A
    · rw [refZ_ok (s := shape) (by show (shape, decide (sizeZ shape = sizeZ A)) = _; simp [sizeZ, hos, hoa, e]) hos]
      refine vcall_of TOK_r10_Shape HM Go.Proofs.Tryz.func17 rfl (by decide +kernel) (by decide +kernel) rfl ?_
      repeat' ((conv => whnf); first | ((with_reducible apply Xq); assumption) | (with_reducible first | apply Xa | (first | apply xi | apply xp | apply xP); omega | apply Xe | refine Xg (by assumption) ?_) | refine Xo (by assumption) ?_ | refine x_0 (by first | assumption | rfl) ?_ | refine x_1 (by first | assumption | rfl) ?_ | refine Or.inl ⟨rfl, ?_⟩ | (split <;> (first | (rename_i u h; clear u) | rename_i h) <;> (try rewrite [h]) <;> (first | replace h := dt h | replace h := df h | replace h := Nt h | replace h := Nf h | skip) <;> (try dsimp only at h) <;> (first | contradiction | (exfalso; omega) | skip)) | (refine Or.inl ⟨_, by assumption, ?_⟩; first | rintro _ rfl | skip))
      all_goals (conv => whnf)
      all_goals first | exact ⟨_, roTo2 rfl rfl, rfl⟩ | exact ⟨_, roTo2 (show RoTo .nils (.ro 1 []) from ⟨1, rfl⟩) rfl, rfl⟩
    · rw [refZ_no]
      rotate_left
      · exact (show decide (sizeZ shape = sizeZ A) = false by simp [sizeZ, hos, hoa, e])
      refine vcall_of TOK_r10_Shape HM Go.Proofs.Tryz.func17 rfl (by decide +kernel) (by decide +kernel) rfl ?_
      repeat' ((conv => whnf); first | ((with_reducible apply Xq); assumption) | (with_reducible first | apply Xa | (first | apply xi | apply xp | apply xP); omega | apply Xe | refine Xg (by assumption) ?_) | refine Xo (by assumption) ?_ | refine x_0 (by first | assumption | rfl) ?_ | refine x_1 (by first | assumption | rfl) ?_ | refine Or.inl ⟨rfl, ?_⟩ | (split <;> (first | (rename_i u h; clear u) | rename_i h) <;> (try rewrite [h]) <;> (first | replace h := dt h | replace h := df h | replace h := Nt h | replace h := Nf h | skip) <;> (try dsimp only at h) <;> (first | contradiction | (exfalso; omega) | skip)) | (refine Or.inl ⟨_, by assumption, ?_⟩; first | rintro _ rfl | skip))
      all_goals (conv => whnf)
      all_goals first | exact ⟨_, roTo2 rfl rfl, rfl⟩ | exact ⟨_, roTo2 (show RoTo .nils (.ro 1 []) from ⟨1, rfl⟩) rfl, rfl⟩
  case matmul =>
    obtain ⟨i, rfl, hi⟩ : ∃ i : Nat, a = i ∧ i < l.length := inR_nat (F.ia (by decide))
    obtain ⟨j, rfl, hj⟩ : ∃ i : Nat, b = i ∧ i < l.length := inR_nat (F.ib (by decide))
    rw [if_neg (by decide), if_neg (by decide)]
    dsimp only
    rw [shAt_nat hi, shAt_nat hj]
    obtain ⟨_, _, _, _, _, _, _, g⟩ := rowN_sh hi
    obtain ⟨_, _, _, _, _, _, _, g2⟩ := rowN_sh hj
    have hA := (hl _ (List.getElem_mem hi)).shape
    have hB := (hl _ (List.getElem_mem hj)).shape
    generalize l[i].shape = A at g hA ⊢
    generalize l[j].shape = B at g2 hB ⊢
    have hra := c_r04_Right gl A (by omega)
    have hsame := c_r04_Same gl A B (by omega) (by omega)
    have hlA := rowZ_length A
    have hlB := rowZ_length B
    obtain rfl : name = ⟨#[]⟩ := F.nn rfl
    obtain rfl : k = ⟨#[]⟩ := F.k (by dsimp only; decide)
    obtain rfl : n = 0 := F.n (by dsimp only; decide)
    obtain rfl : data = [] := List.length_eq_zero_iff.1 (F.d (by dsimp only; decide))
    by_cases h2 : A.length = 2 ∧ B.length = 2
    · obtain ⟨ha2, hb2⟩ := h2
      obtain ⟨p, q, rfl⟩ := two_of ha2
      obtain ⟨r, s, rfl⟩ := two_of hb2
      have hps := c_r04_Right gl [p, s] (show 2 < _ by decide)
      by_cases hqr : q = r
      · rw [refZ_at .matmul (s := [p, s])]
        rotate_left
        · exact rfl
        · exact if_pos hqr
        · decide
        refine vcall_of TOK_r10_Shape HM Go.Proofs.Tryz.func17 rfl (by decide +kernel) (by decide +kernel) rfl ?_
        repeat' ((conv => whnf); first | ((with_reducible apply Xq); assumption) | (with_reducible first | apply Xa | (first | apply xi | apply xp | apply xP); omega | apply Xe | refine Xg (by assumption) ?_) | refine Xo (by assumption) ?_ | refine x_0 (by first | assumption | rfl) ?_ | refine x_1 (by first | assumption | rfl) ?_ | refine Or.inl ⟨rfl, ?_⟩ | (split <;> (first | (rename_i u h; clear u) | rename_i h) <;> (try rewrite [h]) <;> (first | replace h := dt h | replace h := df h | replace h := Nt h | replace h := Nf h | skip) <;> (try dsimp only at h) <;> (first | contradiction | (exfalso; omega) | skip)) | (refine Or.inl ⟨_, by assumption, ?_⟩; first | rintro _ rfl | skip))
        refine ⟨by decide +kernel, [0, 1, 3, 7, 15, 31, 63, 127, 255, 511, 1023, 2047, 511, 4607, 12799, 32767, 65535], by decide +kernel, ?_⟩
        repeat' ((conv => whnf); first | ((with_reducible apply Xq); assumption) | (with_reducible first | apply Xa | (first | apply xi | apply xp | apply xP); omega | apply Xe | refine Xg (by assumption) ?_) | refine Xo (by assumption) ?_ | refine x_0 (by first | assumption | rfl) ?_ | refine x_1 (by first | assumption | rfl) ?_ | refine Or.inl ⟨rfl, ?_⟩ | (split <;> (first | (rename_i u h; clear u) | rename_i h) <;> (try rewrite [h]) <;> (first | replace h := dt h | replace h := df h | replace h := Nt h | replace h := Nf h | skip) <;> (try dsimp only at h) <;> (first | contradiction | (exfalso; omega) | skip)) | (refine Or.inl ⟨_, by assumption, ?_⟩; first | rintro _ rfl | skip))
        refine ⟨by decide +kernel, [0, 1, 3, 0, 8, 24, 63, 127], by decide +kernel, ?_⟩
        repeat' ((conv => whnf); first | ((with_reducible apply Xq); assumption) | (with_reducible first | apply Xa | (first | apply xi | apply xp | apply xP); omega | apply Xe | refine Xg (by assumption) ?_) | refine Xo (by assumption) ?_ | refine x_0 (by first | assumption | rfl) ?_ | refine x_1 (by first | assumption | rfl) ?_ | refine Or.inl ⟨rfl, ?_⟩ | (split <;> (first | (rename_i u h; clear u) | rename_i h) <;> (try rewrite [h]) <;> (first | replace h := dt h | replace h := df h | replace h := Nt h | replace h := Nf h | skip) <;> (try dsimp only at h) <;> (first | contradiction | (exfalso; omega) | skip)) | (refine Or.inl ⟨_, by assumption, ?_⟩; first | rintro _ rfl | skip))
        all_goals (conv => whnf)
        all_goals first | exact ⟨_, roTo2 rfl rfl, rfl⟩ | exact ⟨_, roTo2 (show RoTo .nils (.ro 1 []) from ⟨1, rfl⟩) rfl, rfl⟩
      · rw [refZ_no]
        rotate_left
        · exact (congrArg Prod.snd (show ofZ ⟨Opc.str .matmul, _, _, _, shape, _, _, _⟩ [p, q] [r, s] = ([], false) from if_neg hqr))
        refine vcall_of TOK_r10_Shape HM Go.Proofs.Tryz.func17 rfl (by decide +kernel) (by decide +kernel) rfl ?_
        repeat' ((conv => whnf); first | ((with_reducible apply Xq); assumption) | (with_reducible first | apply Xa | (first | apply xi | apply xp | apply xP); omega | apply Xe | refine Xg (by assumption) ?_) | refine Xo (by assumption) ?_ | refine x_0 (by first | assumption | rfl) ?_ | refine x_1 (by first | assumption | rfl) ?_ | refine Or.inl ⟨rfl, ?_⟩ | (split <;> (first | (rename_i u h; clear u) | rename_i h) <;> (try rewrite [h]) <;> (first | replace h := dt h | replace h := df h | replace h := Nt h | replace h := Nf h | skip) <;> (try dsimp only at h) <;> (first | contradiction | (exfalso; omega) | skip)) | (refine Or.inl ⟨_, by assumption, ?_⟩; first | rintro _ rfl | skip))
        refine ⟨by decide +kernel, [0, 1, 3, 7, 15, 31, 63, 127, 255, 511, 1023, 2047, 511, 4607, 12799, 32767, 65535], by decide +kernel, ?_⟩
        repeat' ((conv => whnf); first | ((with_reducible apply Xq); assumption) | (with_reducible first | apply Xa | (first | apply xi | apply xp | apply xP); omega | apply Xe | refine Xg (by assumption) ?_) | refine Xo (by assumption) ?_ | refine x_0 (by first | assumption | rfl) ?_ | refine x_1 (by first | assumption | rfl) ?_ | refine Or.inl ⟨rfl, ?_⟩ | (split <;> (first | (rename_i u h; clear u) | rename_i h) <;> (try rewrite [h]) <;> (first | replace h := dt h | replace h := df h | replace h := Nt h | replace h := Nf h | skip) <;> (try dsimp only at h) <;> (first | contradiction | (exfalso; omega) | skip)) | (refine Or.inl ⟨_, by assumption, ?_⟩; first | rintro _ rfl | skip))
        all_goals (conv => whnf)
        all_goals first | exact ⟨_, roTo2 rfl rfl, rfl⟩ | exact ⟨_, roTo2 (show RoTo .nils (.ro 1 []) from ⟨1, rfl⟩) rfl, rfl⟩
    · rw [refZ_no]
      rotate_left
      · exact (congrArg Prod.snd (matmul_not fun h => h2 ⟨h.1, h.2.1⟩))
      refine vcall_of TOK_r10_Shape HM Go.Proofs.Tryz.func17 rfl (by decide +kernel) (by decide +kernel) rfl ?_
      repeat' ((conv => whnf); first | ((with_reducible apply Xq); assumption) | (with_reducible first | apply Xa | (first | apply xi | apply xp | apply xP); omega | apply Xe | refine Xg (by assumption) ?_) | refine Xo (by assumption) ?_ | refine x_0 (by first | assumption | rfl) ?_ | refine x_1 (by first | assumption | rfl) ?_ | refine Or.inl ⟨rfl, ?_⟩ | (split <;> (first | (rename_i u h; clear u) | rename_i h) <;> (try rewrite [h]) <;> (first | replace h := dt h | replace h := df h | replace h := Nt h | replace h := Nf h | skip) <;> (try dsimp only at h) <;> (first | contradiction | (exfalso; omega) | skip)) | (refine Or.inl ⟨_, by assumption, ?_⟩; first | rintro _ rfl | skip))
      refine ⟨by decide +kernel, [0, 1, 3, 7, 15, 31, 63, 127, 255, 511, 1023, 2047, 511, 4607, 12799, 32767, 65535], by decide +kernel, ?_⟩
      repeat' ((conv => whnf); first | ((with_reducible apply Xq); assumption) | (with_reducible first | apply Xa | (first | apply xi | apply xp | apply xP); omega | apply Xe | refine Xg (by assumption) ?_) | refine Xo (by assumption) ?_ | refine x_0 (by first | assumption | rfl) ?_ | refine x_1 (by first | assumption | rfl) ?_ | refine Or.inl ⟨rfl, ?_⟩ | (split <;> (first | (rename_i u h; clear u) | rename_i h) <;> (try rewrite [h]) <;> (first | replace h := dt h | replace h := df h | replace h := Nt h | replace h := Nf h | skip) <;> (try dsimp only at h) <;> (first | contradiction | (exfalso; omega) | skip)) | (refine Or.inl ⟨_, by assumption, ?_⟩; first | rintro _ rfl | skip))
      all_goals (conv => whnf)
      all_goals first | exact ⟨_, roTo2 rfl rfl, rfl⟩ | exact ⟨_, roTo2 (show RoTo .nils (.ro 1 []) from ⟨1, rfl⟩) rfl, rfl⟩
  case const =>
    obtain rfl : a = 0 := F.a0 rfl
    obtain rfl : b = 0 := F.b0 (by decide)
    rw [if_pos (by decide), if_pos (by decide)]
    obtain rfl : name = ⟨#[]⟩ := F.nn rfl
    obtain rfl : k = ⟨#[]⟩ := F.k (by dsimp only; decide)
    obtain rfl : n = 0 := F.n (by dsimp only; decide)
    cases hos : okShape shape
    · rw [refZ_bad]
      rotate_left
      · exact .inl rfl
      · exact (show okShape shape = false from hos)
      rw [hos] at hrs
      refine vcall_of TOK_r10_Shape HM Go.Proofs.Tryz.func17 rfl (by decide +kernel) (by decide +kernel) rfl ?_
      repeat' ((conv => whnf); first | ((with_reducible apply Xq); assumption) | (with_reducible first | apply Xa | (first | apply xi | apply xp | apply xP); omega | apply Xe | refine Xg (by assumption) ?_) | refine Xo (by assumption) ?_ | refine x_0 (by first | assumption | rfl) ?_ | refine x_1 (by first | assumption | rfl) ?_ | refine Or.inl ⟨rfl, ?_⟩ | (split <;> (first | (rename_i u h; clear u) | rename_i h) <;> (try rewrite [h]) <;> (first | replace h := dt h | replace h := df h | replace h := Nt h | replace h := Nf h | skip) <;> (try dsimp only at h) <;> (first | contradiction | (exfalso; omega) | skip)) | (refine Or.inl ⟨_, by assumption, ?_⟩; first | rintro _ rfl | skip))
      refine ⟨by decide +kernel, [0, 1, 3, 7, 15, 31, 63, 15, 143, 511, 1023], by decide +kernel, ?_⟩
      repeat' ((conv => whnf); first | ((with_reducible apply Xq); assumption) | (with_reducible first | apply Xa | (first | apply xi | apply xp | apply xP); omega | apply Xe | refine Xg (by assumption) ?_) | refine Xo (by assumption) ?_ | refine x_0 (by first | assumption | rfl) ?_ | refine x_1 (by first | assumption | rfl) ?_ | refine Or.inl ⟨rfl, ?_⟩ | (split <;> (first | (rename_i u h; clear u) | rename_i h) <;> (try rewrite [h]) <;> (first | replace h := dt h | replace h := df h | replace h := Nt h | replace h := Nf h | skip) <;> (try dsimp only at h) <;> (first | contradiction | (exfalso; omega) | skip)) | (refine Or.inl ⟨_, by assumption, ?_⟩; first | rintro _ rfl | skip))
      all_goals (conv => whnf)
      all_goals first | exact ⟨_, roTo2 rfl rfl, rfl⟩ | exact ⟨_, roTo2 (show RoTo .nils (.ro 1 []) from ⟨1, rfl⟩) rfl, rfl⟩
    have hsz : sizeZ shape = prodZ shape := by simp [sizeZ, hos]
    rw [hos] at hrs
    have hz1 := c_r04_Size gl shape hos
    by_cases hlen : (data.length : Int) = prodZ shape
    · have hT1 : data.any (fun d => !ratOK d) = true → refZ ⟨Opc.str .const, 0, 0, ⟨#[]⟩, shape, ⟨#[]⟩, 0, data⟩ [] [] = ([], false) := fun h =>
        refZ_no (show (decide ((data.length : Int) = sizeZ shape) && !(data.any fun d => !ratOK d)) = false by rw [h]; simp)
      have hT2 : data.any (fun d => !ratOK d) = false → refZ ⟨Opc.str .const, 0, 0, ⟨#[]⟩, shape, ⟨#[]⟩, 0, data⟩ [] [] = (shape, true) := fun h =>
        refZ_ok (by show (shape, decide ((data.length : Int) = sizeZ shape) && !(data.any fun d => !ratOK d)) = _; rw [h, hsz, hlen]; simp) hos
      generalize refZ ⟨Opc.str .const, 0, 0, ⟨#[]⟩, shape, ⟨#[]⟩, 0, data⟩ [] [] = T at hT1 hT2 ⊢
      refine vcall_of TOK_r10_Shape HM Go.Proofs.Tryz.func17 rfl (by decide +kernel) (by decide +kernel) rfl ?_
      repeat' ((conv => whnf); first | ((with_reducible apply Xq); assumption) | (with_reducible first | apply Xa | (first | apply xi | apply xp | apply xP); omega | apply Xe | refine Xg (by assumption) ?_) | refine Xo (by assumption) ?_ | refine x_0 (by first | assumption | rfl) ?_ | refine x_1 (by first | assumption | rfl) ?_ | refine Or.inl ⟨rfl, ?_⟩ | (split <;> (first | (rename_i u h; clear u) | rename_i h) <;> (try rewrite [h]) <;> (first | replace h := dt h | replace h := df h | replace h := Nt h | replace h := Nf h | skip) <;> (try dsimp only at h) <;> (first | contradiction | (exfalso; omega) | skip)) | (refine Or.inl ⟨_, by assumption, ?_⟩; first | rintro _ rfl | skip))
      refine ⟨by decide +kernel, [0, 1, 3, 7, 15, 31, 63, 15, 143, 511, 1023], by decide +kernel, ?_⟩
      repeat' ((conv => whnf); first | ((with_reducible apply Xq); assumption) | (with_reducible first | apply Xa | (first | apply xi | apply xp | apply xP); omega | apply Xe | refine Xg (by assumption) ?_) | refine Xo (by assumption) ?_ | refine x_0 (by first | assumption | rfl) ?_ | refine x_1 (by first | assumption | rfl) ?_ | refine Or.inl ⟨rfl, ?_⟩ | (split <;> (first | (rename_i u h; clear u) | rename_i h) <;> (try rewrite [h]) <;> (first | replace h := dt h | replace h := df h | replace h := Nt h | replace h := Nf h | skip) <;> (try dsimp only at h) <;> (first | contradiction | (exfalso; omega) | skip)) | (refine Or.inl ⟨_, by assumption, ?_⟩; first | rintro _ rfl | skip))
      refine ⟨[9, 163, 164, 165], [], fun m st => ∃ i : Nat, i ≤ data.length ∧ m = data.length - i ∧ (data.take i).any (fun d => !ratOK d) = false ∧
        st = ⟨[(9, .ro 1 (rowZ shape)), (163, .ro 1 (rowS data)), (164, .int .i64 ((rowS data).length : Nat)), (165, .int .i64 (i : Nat))], []⟩, rfl, ⟨data.length, 0, by omega, rfl, by simp, rfl⟩, ?_⟩
      rintro m _ ⟨i, hi, hm, ha, rfl⟩
      rcases Nat.lt_or_ge i data.length with hil | hge
      · have g := rowS_get hil
        have hread := c_r03_Read gl data[i] (Nat.lt_of_le_of_lt (hx.each _ (List.getElem_mem hil)) (by decide))
        cases hr : ratOK data[i]
        · rw [hr] at hread
          repeat' ((conv => whnf); first | ((with_reducible apply Xq); assumption) | (with_reducible first | apply Xa | (first | apply xi | apply xp | apply xP); omega | apply Xe | refine Xg (by assumption) ?_) | refine Xo (by assumption) ?_ | refine x_0 (by first | assumption | rfl) ?_ | refine x_1 (by first | assumption | rfl) ?_ | refine Or.inl ⟨rfl, ?_⟩ | (split <;> (first | (rename_i u h; clear u) | rename_i h) <;> (try rewrite [h]) <;> (first | replace h := dt h | replace h := df h | replace h := Nt h | replace h := Nf h | skip) <;> (try dsimp only at h) <;> (first | contradiction | (exfalso; omega) | skip)) | (refine Or.inl ⟨_, by assumption, ?_⟩; first | rintro _ rfl | skip))
          rintro _ ⟨p, q, rfl, _⟩
          repeat' ((conv => whnf); first | ((with_reducible apply Xq); assumption) | (with_reducible first | apply Xa | (first | apply xi | apply xp | apply xP); omega | apply Xe | refine Xg (by assumption) ?_) | refine Xo (by assumption) ?_ | refine x_0 (by first | assumption | rfl) ?_ | refine x_1 (by first | assumption | rfl) ?_ | refine Or.inl ⟨rfl, ?_⟩ | (split <;> (first | (rename_i u h; clear u) | rename_i h) <;> (try rewrite [h]) <;> (first | replace h := dt h | replace h := df h | replace h := Nt h | replace h := Nf h | skip) <;> (try dsimp only at h) <;> (first | contradiction | (exfalso; omega) | skip)) | (refine Or.inl ⟨_, by assumption, ?_⟩; first | rintro _ rfl | skip))
          all_goals (conv => whnf)
          exact ⟨_, roTo2 (show RoTo .nils (.ro 1 []) from ⟨1, rfl⟩) rfl, by rw [hT1 (any_bad hil (by simp [hr]))]; rfl⟩
        · rw [hr] at hread
          repeat' ((conv => whnf); first | ((with_reducible apply Xq); assumption) | (with_reducible first | apply Xa | (first | apply xi | apply xp | apply xP); omega | apply Xe | refine Xg (by assumption) ?_) | refine Xo (by assumption) ?_ | refine x_0 (by first | assumption | rfl) ?_ | refine x_1 (by first | assumption | rfl) ?_ | refine Or.inl ⟨rfl, ?_⟩ | (split <;> (first | (rename_i u h; clear u) | rename_i h) <;> (try rewrite [h]) <;> (first | replace h := dt h | replace h := df h | replace h := Nt h | replace h := Nf h | skip) <;> (try dsimp only at h) <;> (first | contradiction | (exfalso; omega) | skip)) | (refine Or.inl ⟨_, by assumption, ?_⟩; first | rintro _ rfl | skip))
          rintro _ ⟨p, q, rfl, _⟩
          repeat' ((conv => whnf); first | ((with_reducible apply Xq); assumption) | (with_reducible first | apply Xa | (first | apply xi | apply xp | apply xP); omega | apply Xe | refine Xg (by assumption) ?_) | refine Xo (by assumption) ?_ | refine x_0 (by first | assumption | rfl) ?_ | refine x_1 (by first | assumption | rfl) ?_ | refine Or.inl ⟨rfl, ?_⟩ | (split <;> (first | (rename_i u h; clear u) | rename_i h) <;> (try rewrite [h]) <;> (first | replace h := dt h | replace h := df h | replace h := Nt h | replace h := Nf h | skip) <;> (try dsimp only at h) <;> (first | contradiction | (exfalso; omega) | skip)) | (refine Or.inl ⟨_, by assumption, ?_⟩; first | rintro _ rfl | skip))
          exact ⟨[], data.length - (i + 1), rfl, by omega, i + 1, by omega, rfl, any_snoc hil ha (by simp [hr]), rfl⟩
      · rw [List.take_of_length_le (by omega)] at ha
        repeat' ((conv => whnf); first | ((with_reducible apply Xq); assumption) | (with_reducible first | apply Xa | (first | apply xi | apply xp | apply xP); omega | apply Xe | refine Xg (by assumption) ?_) | refine Xo (by assumption) ?_ | refine x_0 (by first | assumption | rfl) ?_ | refine x_1 (by first | assumption | rfl) ?_ | refine Or.inl ⟨rfl, ?_⟩ | (split <;> (first | (rename_i u h; clear u) | rename_i h) <;> (try rewrite [h]) <;> (first | replace h := dt h | replace h := df h | replace h := Nt h | replace h := Nf h | skip) <;> (try dsimp only at h) <;> (first | contradiction | (exfalso; omega) | skip)) | (refine Or.inl ⟨_, by assumption, ?_⟩; first | rintro _ rfl | skip))
        all_goals (conv => whnf)
        exact ⟨_, roTo2 rfl rfl, by rw [hT2 ha]⟩
    · rw [refZ_no]
      rotate_left
      · exact (show (decide ((data.length : Int) = sizeZ shape) && !(data.any fun d => !ratOK d)) = false by rw [hsz, decide_eq_false hlen]; rfl)
      refine vcall_of TOK_r10_Shape HM Go.Proofs.Tryz.func17 rfl (by decide +kernel) (by decide +kernel) rfl ?_
      repeat' ((conv => whnf); first | ((with_reducible apply Xq); assumption) | (with_reducible first | apply Xa | (first | apply xi | apply xp | apply xP); omega | apply Xe | refine Xg (by assumption) ?_) | refine Xo (by assumption) ?_ | refine x_0 (by first | assumption | rfl) ?_ | refine x_1 (by first | assumption | rfl) ?_ | refine Or.inl ⟨rfl, ?_⟩ | (split <;> (first | (rename_i u h; clear u) | rename_i h) <;> (try rewrite [h]) <;> (first | replace h := dt h | replace h := df h | replace h := Nt h | replace h := Nf h | skip) <;> (try dsimp only at h) <;> (first | contradiction | (exfalso; omega) | skip)) | (refine Or.inl ⟨_, by assumption, ?_⟩; first | rintro _ rfl | skip))
      refine ⟨by decide +kernel, [0, 1, 3, 7, 15, 31, 63, 15, 143, 511, 1023], by decide +kernel, ?_⟩
      repeat' ((conv => whnf); first | ((with_reducible apply Xq); assumption) | (with_reducible first | apply Xa | (first | apply xi | apply xp | apply xP); omega | apply Xe | refine Xg (by assumption) ?_) | refine Xo (by assumption) ?_ | refine x_0 (by first | assumption | rfl) ?_ | refine x_1 (by first | assumption | rfl) ?_ | refine Or.inl ⟨rfl, ?_⟩ | (split <;> (first | (rename_i u h; clear u) | rename_i h) <;> (try rewrite [h]) <;> (first | replace h := dt h | replace h := df h | replace h := Nt h | replace h := Nf h | skip) <;> (try dsimp only at h) <;> (first | contradiction | (exfalso; omega) | skip)) | (refine Or.inl ⟨_, by assumption, ?_⟩; first | rintro _ rfl | skip))
      all_goals (conv => whnf)
      all_goals first | exact ⟨_, roTo2 rfl rfl, rfl⟩ | exact ⟨_, roTo2 (show RoTo .nils (.ro 1 []) from ⟨1, rfl⟩) rfl, rfl⟩
theorem c_r10_Shape (l : List Nd) (x : Nd) (hx : x.Sm) (hl : ∀ y ∈ l, y.Sm) :
    VCall Go.Proofs.Tryz.prog gl 17 [.ro 8 (rowN l), .agg x.cells] (fun y => y = .tup [.ro 1 (rowZ (refN l x).1), .bool (refN l x).2]) := by
  rcases opc_cases x.op with ⟨o, ho⟩ | hn
  · cases hf : fitN l x o.many with
    | false => rw [refN_bad (by rw [ho]; exact opc_many o) hf]; exact c_r10_Shape_no gl l x o ho hf hx
    | true => exact c_r10_Shape_yes gl l x o ho hf hx hl
  · rw [refN_none hn]
    have hp := c_r10_Parts gl x.op
    rw [partsZ, hn] at hp
    refine VCall.taken ?_
    refine vcall_of TOK_r10_Shape HM Go.Proofs.Tryz.func17 rfl (by decide +kernel) (by decide +kernel) rfl ?_
    repeat' ((conv => whnf); first | ((with_reducible apply Xq); assumption) | (with_reducible first | apply Xa | (first | apply xi | apply xp | apply xP); omega | apply Xe | refine Xg (by assumption) ?_) | refine Xo (by assumption) ?_ | refine x_0 (by first | assumption | rfl) ?_ | refine x_1 (by first | assumption | rfl) ?_ | refine Or.inl ⟨rfl, ?_⟩ | (split <;> (first | (rename_i u h; clear u) | rename_i h) <;> (try rewrite [h]) <;> (first | replace h := dt h | replace h := df h | replace h := Nt h | replace h := Nf h | skip) <;> (try dsimp only at h) <;> (first | contradiction | (exfalso; omega) | skip)) | (refine Or.inl ⟨_, by assumption, ?_⟩; first | rintro _ rfl | skip))
    all_goals (conv => whnf)
    all_goals first | exact ⟨_, roTo2 rfl rfl, rfl⟩ | exact ⟨_, roTo2 (show RoTo .nils (.ro 1 []) from ⟨1, rfl⟩) rfl, rfl⟩
end Go.V
namespace Go.V
open Go.N
set_option maxRecDepth 20000
variable (gl : Gl)
def T_r10_Small : Tab := [(24, i24), (22, i22), (37, i37), (3, i3), (27, i27), (35, i35), (9, i9)]
theorem TOK_r10_Small : TOK Go.Proofs.Tryz.prog T_r10_Small := ⟨K24, ⟨K22, ⟨K37, ⟨K3, ⟨K27, ⟨K35, ⟨K9, trivial⟩⟩⟩⟩⟩⟩⟩
def T_r10_Same : Tab := [(37, i37), (9, i9), (3, i3), (27, i27), (4, i4), (35, i35)]
theorem TOK_r10_Same : TOK Go.Proofs.Tryz.prog T_r10_Same := ⟨K37, ⟨K9, ⟨K3, ⟨K27, ⟨K4, ⟨K35, trivial⟩⟩⟩⟩⟩⟩
def T_r10_Equal : Tab := [(24, i24), (3, i3), (22, i22), (37, i37), (4, i4)]
theorem TOK_r10_Equal : TOK Go.Proofs.Tryz.prog T_r10_Equal := ⟨K24, ⟨K3, ⟨K22, ⟨K37, ⟨K4, trivial⟩⟩⟩⟩⟩
def smallS (s : ByteArray) : Bool := decide (s.size ≤ 30)
def smallN (x : Nd) : Bool := decide (x.shape.length ≤ 10) && decide (x.data.length ≤ 70) && decide (x.k.size ≤ 30) && decide (x.name.size ≤ 30) && x.data.all smallS
def smallG (g : Gr) : Bool := decide (g.nodes.length ≤ 40) && g.nodes.all smallN
theorem all_bad {α : Type} {l : List α} {p : α → Bool} {i : Nat} (h : i < l.length) (hp : p l[i] = false) : l.all p = false := List.all_eq_false.2 ⟨_, List.getElem_mem h, by simp [hp]⟩
theorem all_snoc {α : Type} {l : List α} {p : α → Bool} {i : Nat} (h : i < l.length) (ha : (l.take i).all p = true) (hp : p l[i] = true) : (l.take (i + 1)).all p = true := by
  rw [List.take_succ_eq_append_getElem h, List.all_append, ha]; simp [hp]
theorem smallN_sm {x : Nd} (h : smallN x = true) : x.Sm := by
  simp only [smallN, Bool.and_eq_true, decide_eq_true_eq, List.all_eq_true] at h
  exact ⟨by omega, by omega, by omega, by omega, fun d hd => by have := h.2 d hd; simp only [smallS, decide_eq_true_eq] at this; omega⟩
set_option maxHeartbeats 4000000 in
theorem c_r10_Small (g : Gr) : VCall Go.Proofs.Tryz.prog gl 6 [.agg g.cells] (fun x => x = .bool (smallG g)) := by
  obtain ⟨l, loss⟩ := g
  have hl : (rowN l).length = l.length := rowN_length l
  by_cases h40 : l.length ≤ 40
  · have hb : l.all smallN = false → smallG ⟨l, loss⟩ = false := fun h => by simp [smallG, h]
    have ho : l.all smallN = true → smallG ⟨l, loss⟩ = true := fun h => by simp [smallG, h, h40]
    generalize smallG ⟨l, loss⟩ = T at hb ho ⊢
    refine vcall_of TOK_r10_Small HM Go.Proofs.Tryz.func6 rfl (by decide +kernel) (by decide +kernel) rfl ?_
    repeat' ((conv => whnf); first | ((with_reducible apply Xq); assumption) | (with_reducible first | apply Xa | (first | apply xi | apply xp | apply xP); omega | apply Xe | refine Xg (by assumption) ?_) | refine Xo (by assumption) ?_ | refine x_0 (by first | assumption | rfl) ?_ | refine x_1 (by first | assumption | rfl) ?_ | refine Or.inl ⟨rfl, ?_⟩ | (split <;> (first | (rename_i u h; clear u) | rename_i h) <;> (try rewrite [h]) <;> (first | replace h := dt h | replace h := df h | replace h := Nt h | replace h := Nf h | skip) <;> (try dsimp only at h) <;> (first | contradiction | (exfalso; omega) | skip)) | (refine Or.inl ⟨_, by assumption, ?_⟩; first | rintro _ rfl | skip))
    refine ⟨[12, 13, 14], [], fun m st => ∃ i : Nat, i ≤ l.length ∧ m = l.length - i ∧ (l.take i).all smallN = true ∧
      st = ⟨[(12, .ro 8 (rowN l)), (13, .int .i64 ((rowN l).length : Nat)), (14, .int .i64 (i : Nat))], []⟩, rfl, ⟨l.length, 0, by omega, rfl, rfl, rfl⟩, ?_⟩
    rintro m _ ⟨i, hi, hm, ha, rfl⟩
    rcases Nat.lt_or_ge i l.length with hil | hge
    · obtain ⟨x, hx⟩ : ∃ x, x = l[i] := ⟨_, rfl⟩
      have g : (rowN l)[i]? = some x.cells := by rw [hx]; exact rowN_get hil
      have hbad : smallN x = false → T = false := fun h => hb (all_bad hil (by rw [← hx]; exact h))
      have hstep : smallN x = true → (l.take (i + 1)).all smallN = true := fun h => all_snoc hil ha (by rw [← hx]; exact h)
      clear hx
      obtain ⟨op, a, b, name, shape, k, n, data⟩ := x
      have hls : (rowZ shape).length = shape.length := rowZ_length shape
      have hld : (rowS data).length = data.length := rowS_length data
      by_cases hpre : shape.length ≤ 10 ∧ data.length ≤ 70 ∧ k.size ≤ 30 ∧ name.size ≤ 30
      · obtain ⟨h1, h2, h3, h4⟩ := hpre
        have hb2 : data.all smallS = false → T = false := fun h => hbad (by simp [smallN, h])
        have ho2 : data.all smallS = true → (l.take (i + 1)).all smallN = true := fun h => hstep (by simp [smallN, h, h1, h2, h3, h4])
        repeat' ((conv => whnf); first | ((with_reducible apply Xq); assumption) | (with_reducible first | apply Xa | (first | apply xi | apply xp | apply xP); omega | apply Xe | refine Xg (by assumption) ?_) | refine Xo (by assumption) ?_ | refine x_0 (by first | assumption | rfl) ?_ | refine x_1 (by first | assumption | rfl) ?_ | refine Or.inl ⟨rfl, ?_⟩ | (split <;> (first | (rename_i u h; clear u) | rename_i h) <;> (try rewrite [h]) <;> (first | replace h := dt h | replace h := df h | replace h := Nt h | replace h := Nf h | skip) <;> (try dsimp only at h) <;> (first | contradiction | (exfalso; omega) | skip)) | (refine Or.inl ⟨_, by assumption, ?_⟩; first | rintro _ rfl | skip))
        refine ⟨[12, 13, 14, 41, 42, 43], [], fun m st => ∃ j : Nat, j ≤ data.length ∧ m = data.length - j ∧ (data.take j).all smallS = true ∧
          st = ⟨[(12, .ro 8 (rowN l)), (13, .int .i64 ((rowN l).length : Nat)), (14, .int .i64 (i : Nat)), (41, .ro 1 (rowS data)), (42, .int .i64 ((rowS data).length : Nat)), (43, .int .i64 (j : Nat))], []⟩, rfl, ⟨data.length, 0, by omega, rfl, rfl, rfl⟩, ?_⟩
        rintro m2 _ ⟨j, hj, hm2, ha2, rfl⟩
        rcases Nat.lt_or_ge j data.length with hjl | hge
        · have g2 := rowS_get hjl
          by_cases hs : data[j].size ≤ 30
          · repeat' ((conv => whnf); first | ((with_reducible apply Xq); assumption) | (with_reducible first | apply Xa | (first | apply xi | apply xp | apply xP); omega | apply Xe | refine Xg (by assumption) ?_) | refine Xo (by assumption) ?_ | refine x_0 (by first | assumption | rfl) ?_ | refine x_1 (by first | assumption | rfl) ?_ | refine Or.inl ⟨rfl, ?_⟩ | (split <;> (first | (rename_i u h; clear u) | rename_i h) <;> (try rewrite [h]) <;> (first | replace h := dt h | replace h := df h | replace h := Nt h | replace h := Nf h | skip) <;> (try dsimp only at h) <;> (first | contradiction | (exfalso; omega) | skip)) | (refine Or.inl ⟨_, by assumption, ?_⟩; first | rintro _ rfl | skip))
            exact ⟨[], data.length - (j + 1), rfl, by omega, j + 1, by omega, rfl, all_snoc hjl ha2 (by simp [smallS, hs]), rfl⟩
          · rw [hb2 (all_bad hjl (by simp [smallS, hs]))]
            repeat' ((conv => whnf); first | ((with_reducible apply Xq); assumption) | (with_reducible first | apply Xa | (first | apply xi | apply xp | apply xP); omega | apply Xe | refine Xg (by assumption) ?_) | refine Xo (by assumption) ?_ | refine x_0 (by first | assumption | rfl) ?_ | refine x_1 (by first | assumption | rfl) ?_ | refine Or.inl ⟨rfl, ?_⟩ | (split <;> (first | (rename_i u h; clear u) | rename_i h) <;> (try rewrite [h]) <;> (first | replace h := dt h | replace h := df h | replace h := Nt h | replace h := Nf h | skip) <;> (try dsimp only at h) <;> (first | contradiction | (exfalso; omega) | skip)) | (refine Or.inl ⟨_, by assumption, ?_⟩; first | rintro _ rfl | skip))
            all_goals (conv => whnf)
            rfl
        · rw [List.take_of_length_le (by omega)] at ha2
          repeat' ((conv => whnf); first | ((with_reducible apply Xq); assumption) | (with_reducible first | apply Xa | (first | apply xi | apply xp | apply xP); omega | apply Xe | refine Xg (by assumption) ?_) | refine Xo (by assumption) ?_ | refine x_0 (by first | assumption | rfl) ?_ | refine x_1 (by first | assumption | rfl) ?_ | refine Or.inl ⟨rfl, ?_⟩ | (split <;> (first | (rename_i u h; clear u) | rename_i h) <;> (try rewrite [h]) <;> (first | replace h := dt h | replace h := df h | replace h := Nt h | replace h := Nf h | skip) <;> (try dsimp only at h) <;> (first | contradiction | (exfalso; omega) | skip)) | (refine Or.inl ⟨_, by assumption, ?_⟩; first | rintro _ rfl | skip))
          exact ⟨[], l.length - (i + 1), rfl, by omega, i + 1, by omega, rfl, ho2 ha2, rfl⟩
      · rw [hbad (by
          rw [Bool.eq_false_iff]; simp only [smallN, ne_eq, Bool.and_eq_true, decide_eq_true_eq]; intro e; exact hpre ⟨e.1.1.1.1, e.1.1.1.2, e.1.1.2, e.1.2⟩)]
        repeat' ((conv => whnf); first | ((with_reducible apply Xq); assumption) | (with_reducible first | apply Xa | (first | apply xi | apply xp | apply xP); omega | apply Xe | refine Xg (by assumption) ?_) | refine Xo (by assumption) ?_ | refine x_0 (by first | assumption | rfl) ?_ | refine x_1 (by first | assumption | rfl) ?_ | refine Or.inl ⟨rfl, ?_⟩ | (split <;> (first | (rename_i u h; clear u) | rename_i h) <;> (try rewrite [h]) <;> (first | replace h := dt h | replace h := df h | replace h := Nt h | replace h := Nf h | skip) <;> (try dsimp only at h) <;> (first | contradiction | (exfalso; omega) | skip)) | (refine Or.inl ⟨_, by assumption, ?_⟩; first | rintro _ rfl | skip))
        all_goals first | ((conv => whnf); rfl) | omega
    · rw [List.take_of_length_le (by omega)] at ha
      rw [ho ha]
      repeat' ((conv => whnf); first | ((with_reducible apply Xq); assumption) | (with_reducible first | apply Xa | (first | apply xi | apply xp | apply xP); omega | apply Xe | refine Xg (by assumption) ?_) | refine Xo (by assumption) ?_ | refine x_0 (by first | assumption | rfl) ?_ | refine x_1 (by first | assumption | rfl) ?_ | refine Or.inl ⟨rfl, ?_⟩ | (split <;> (first | (rename_i u h; clear u) | rename_i h) <;> (try rewrite [h]) <;> (first | replace h := dt h | replace h := df h | replace h := Nt h | replace h := Nf h | skip) <;> (try dsimp only at h) <;> (first | contradiction | (exfalso; omega) | skip)) | (refine Or.inl ⟨_, by assumption, ?_⟩; first | rintro _ rfl | skip))
      all_goals (conv => whnf)
      rfl
  · rw [show smallG ⟨l, loss⟩ = false by simp [smallG, h40]]
    refine vcall_of TOK_r10_Small HM Go.Proofs.Tryz.func6 rfl (by decide +kernel) (by decide +kernel) rfl ?_
    repeat' ((conv => whnf); first | ((with_reducible apply Xq); assumption) | (with_reducible first | apply Xa | (first | apply xi | apply xp | apply xP); omega | apply Xe | refine Xg (by assumption) ?_) | refine Xo (by assumption) ?_ | refine x_0 (by first | assumption | rfl) ?_ | refine x_1 (by first | assumption | rfl) ?_ | refine Or.inl ⟨rfl, ?_⟩ | (split <;> (first | (rename_i u h; clear u) | rename_i h) <;> (try rewrite [h]) <;> (first | replace h := dt h | replace h := df h | replace h := Nt h | replace h := Nf h | skip) <;> (try dsimp only at h) <;> (first | contradiction | (exfalso; omega) | skip)) | (refine Or.inl ⟨_, by assumption, ?_⟩; first | rintro _ rfl | skip))
    all_goals (conv => whnf)
    rfl
open Classical in
set_option maxHeartbeats 4000000 in
theorem c_r10_Same (x y : Nd) (hx : x.Sm) (hy : y.Sm) : VCall Go.Proofs.Tryz.prog gl 13 [.agg x.cells, .agg y.cells] (fun r => r = .bool (decide (x = y))) := by
  obtain ⟨op, a, b, name, shape, k, n, data⟩ := x
  obtain ⟨op2, a2, b2, name2, shape2, k2, n2, data2⟩ := y
  have hsame := c_r04_Same gl shape shape2 (Nat.lt_of_le_of_lt hx.shape (by decide)) (Nat.lt_of_le_of_lt hy.shape (by decide))
  have hld : (rowS data).length = data.length := rowS_length data
  have hld2 : (rowS data2).length = data2.length := rowS_length data2
  have hdl : data.length ≤ 1000 := hx.data
  by_cases hpre : op = op2 ∧ a = a2 ∧ b = b2 ∧ name = name2 ∧ k = k2 ∧ n = n2 ∧ shape = shape2 ∧ data.length = data2.length
  · obtain ⟨rfl, rfl, rfl, rfl, rfl, rfl, rfl, hdd⟩ := hpre
    have hT : decide ((⟨op, a, b, name, shape, k, n, data⟩ : Nd) = ⟨op, a, b, name, shape, k, n, data2⟩) = decide (data = data2) := by
      rw [Bool.eq_iff_iff, decide_eq_true_eq, decide_eq_true_eq]
      exact ⟨fun e => by injection e, fun e => by rw [e]⟩
    rw [hT]
    rw [decide_eq_true (rfl : shape = shape)] at hsame
    clear hT hx hy
    refine vcall_of TOK_r10_Same HM Go.Proofs.Tryz.func13 rfl (by decide +kernel) (by decide +kernel) rfl ?_
    repeat' ((conv => whnf); first | ((with_reducible apply Xq); assumption) | (with_reducible first | apply Xa | (first | apply xi | apply xp | apply xP); omega | apply Xe | refine Xg (by assumption) ?_) | refine Xo (by assumption) ?_ | refine x_0 (by first | assumption | rfl) ?_ | refine x_1 (by first | assumption | rfl) ?_ | refine Or.inl ⟨rfl, ?_⟩ | (split <;> (first | (rename_i u h; clear u) | rename_i h) <;> (try rewrite [h]) <;> (first | replace h := dt h | replace h := df h | replace h := Nt h | replace h := Nf h | skip) <;> (try dsimp only at h) <;> (first | contradiction | (exfalso; omega) | skip)) | (refine Or.inl ⟨_, by assumption, ?_⟩; first | rintro _ rfl | skip))
    refine ⟨[2, 3, 5], [0, 1], fun m st => ∃ i : Nat, i ≤ data.length ∧ m = data.length - i ∧ data.take i = data2.take i ∧
      st = ⟨[(2, .bptr 0 0), (3, .bptr 1 0), (5, .int .i64 (i : Nat))], [.box 37 (Nd.cells ⟨op, a, b, name, shape, k, n, data⟩), .box 37 (Nd.cells ⟨op, a, b, name, shape, k, n, data2⟩)]⟩, rfl, ⟨data.length, 0, by omega, rfl, rfl, rfl⟩, ?_⟩
    rintro m _ ⟨i, hi, hm, ha, rfl⟩
    rcases Nat.lt_or_ge i data.length with hil | hge
    · have hil2 : i < data2.length := by omega
      have g := rowS_get hil
      have g2 := rowS_get hil2
      by_cases he : data[i] = data2[i]
      · repeat' ((conv => whnf); first | ((with_reducible apply Xq); assumption) | (with_reducible first | apply Xa | (first | apply xi | apply xp | apply xP); omega | apply Xe | refine Xg (by assumption) ?_) | refine Xo (by assumption) ?_ | refine x_0 (by first | assumption | rfl) ?_ | refine x_1 (by first | assumption | rfl) ?_ | refine Or.inl ⟨rfl, ?_⟩ | (split <;> (first | (rename_i u h; clear u) | rename_i h) <;> (try rewrite [h]) <;> (first | replace h := dt h | replace h := df h | replace h := Nt h | replace h := Nf h | skip) <;> (try dsimp only at h) <;> (first | contradiction | (exfalso; omega) | skip)) | (refine Or.inl ⟨_, by assumption, ?_⟩; first | rintro _ rfl | skip))
        refine ⟨by decide +kernel, [0, 1, 0, 7, 15, 0, 32, 0, 224, 480, 1023], by decide +kernel, ?_⟩
        repeat' ((conv => whnf); first | ((with_reducible apply Xq); assumption) | (with_reducible first | apply Xa | (first | apply xi | apply xp | apply xP); omega | apply Xe | refine Xg (by assumption) ?_) | refine Xo (by assumption) ?_ | refine x_0 (by first | assumption | rfl) ?_ | refine x_1 (by first | assumption | rfl) ?_ | refine Or.inl ⟨rfl, ?_⟩ | (split <;> (first | (rename_i u h; clear u) | rename_i h) <;> (try rewrite [h]) <;> (first | replace h := dt h | replace h := df h | replace h := Nt h | replace h := Nf h | skip) <;> (try dsimp only at h) <;> (first | contradiction | (exfalso; omega) | skip)) | (refine Or.inl ⟨_, by assumption, ?_⟩; first | rintro _ rfl | skip))
        exact ⟨[0, 1], data.length - (i + 1), rfl, by omega, i + 1, by omega, rfl, take_ext hil hil2 ha he, rfl⟩
      · rw [decide_eq_false (fun e : data = data2 => he (by subst e; rfl))]
        repeat' ((conv => whnf); first | ((with_reducible apply Xq); assumption) | (with_reducible first | apply Xa | (first | apply xi | apply xp | apply xP); omega | apply Xe | refine Xg (by assumption) ?_) | refine Xo (by assumption) ?_ | refine x_0 (by first | assumption | rfl) ?_ | refine x_1 (by first | assumption | rfl) ?_ | refine Or.inl ⟨rfl, ?_⟩ | (split <;> (first | (rename_i u h; clear u) | rename_i h) <;> (try rewrite [h]) <;> (first | replace h := dt h | replace h := df h | replace h := Nt h | replace h := Nf h | skip) <;> (try dsimp only at h) <;> (first | contradiction | (exfalso; omega) | skip)) | (refine Or.inl ⟨_, by assumption, ?_⟩; first | rintro _ rfl | skip))
        refine ⟨by decide +kernel, [0, 1, 0, 7, 15, 0, 32, 0, 224, 480, 1023], by decide +kernel, ?_⟩
        repeat' ((conv => whnf); first | ((with_reducible apply Xq); assumption) | (with_reducible first | apply Xa | (first | apply xi | apply xp | apply xP); omega | apply Xe | refine Xg (by assumption) ?_) | refine Xo (by assumption) ?_ | refine x_0 (by first | assumption | rfl) ?_ | refine x_1 (by first | assumption | rfl) ?_ | refine Or.inl ⟨rfl, ?_⟩ | (split <;> (first | (rename_i u h; clear u) | rename_i h) <;> (try rewrite [h]) <;> (first | replace h := dt h | replace h := df h | replace h := Nt h | replace h := Nf h | skip) <;> (try dsimp only at h) <;> (first | contradiction | (exfalso; omega) | skip)) | (refine Or.inl ⟨_, by assumption, ?_⟩; first | rintro _ rfl | skip))
        all_goals (conv => whnf)
        rfl
    · rw [List.take_of_length_le (by omega), List.take_of_length_le (by omega)] at ha
      rw [decide_eq_true ha]
      repeat' ((conv => whnf); first | ((with_reducible apply Xq); assumption) | (with_reducible first | apply Xa | (first | apply xi | apply xp | apply xP); omega | apply Xe | refine Xg (by assumption) ?_) | refine Xo (by assumption) ?_ | refine x_0 (by first | assumption | rfl) ?_ | refine x_1 (by first | assumption | rfl) ?_ | refine Or.inl ⟨rfl, ?_⟩ | (split <;> (first | (rename_i u h; clear u) | rename_i h) <;> (try rewrite [h]) <;> (first | replace h := dt h | replace h := df h | replace h := Nt h | replace h := Nf h | skip) <;> (try dsimp only at h) <;> (first | contradiction | (exfalso; omega) | skip)) | (refine Or.inl ⟨_, by assumption, ?_⟩; first | rintro _ rfl | skip))
      all_goals (conv => whnf)
      rfl
  · rw [decide_eq_false (fun e => hpre (by cases e; exact ⟨rfl, rfl, rfl, rfl, rfl, rfl, rfl, rfl⟩))]
    refine vcall_of TOK_r10_Same HM Go.Proofs.Tryz.func13 rfl (by decide +kernel) (by decide +kernel) rfl ?_
    repeat' ((conv => whnf); first | ((with_reducible apply Xq); assumption) | (with_reducible first | apply Xa | (first | apply xi | apply xp | apply xP); omega | apply Xe | refine Xg (by assumption) ?_) | refine Xo (by assumption) ?_ | refine x_0 (by first | assumption | rfl) ?_ | refine x_1 (by first | assumption | rfl) ?_ | refine Or.inl ⟨rfl, ?_⟩ | (split <;> (first | (rename_i u h; clear u) | rename_i h) <;> (try rewrite [h]) <;> (first | replace h := dt h | replace h := df h | replace h := Nt h | replace h := Nf h | skip) <;> (try dsimp only at h) <;> (first | contradiction | (exfalso; omega) | skip)) | (refine Or.inl ⟨_, by assumption, ?_⟩; first | rintro _ rfl | skip))
    all_goals first | ((conv => whnf); rfl) | (clear hsame hx hy; exfalso; apply hpre; simp_all; done) | (clear hsame hx hy; exfalso; apply hpre; simp_all; omega)
theorem Gr.ext' {g h : Gr} (h1 : g.loss = h.loss) (h2 : g.nodes = h.nodes) : g = h := by cases g; cases h; simp_all
open Classical in
set_option maxHeartbeats 4000000 in
theorem c_r10_Equal (g h : Gr) (hg : ∀ x ∈ g.nodes, x.Sm) (hh : ∀ x ∈ h.nodes, x.Sm) (hgl : g.nodes.length ≤ 1000) : VCall Go.Proofs.Tryz.prog gl 11 [.agg g.cells, .agg h.cells] (fun r => r = .bool (decide (g = h))) := by
  obtain ⟨l, p⟩ := g
  obtain ⟨l2, p2⟩ := h
  have hld : (rowN l).length = l.length := rowN_length l
  have hld2 : (rowN l2).length = l2.length := rowN_length l2
  dsimp only at hg hh hgl
  by_cases hpre : p = p2 ∧ l.length = l2.length
  · obtain ⟨rfl, hdd⟩ := hpre
    have hT : decide ((⟨l, p⟩ : Gr) = ⟨l2, p⟩) = decide (l = l2) := by
      rw [Bool.eq_iff_iff, decide_eq_true_eq, decide_eq_true_eq]
      exact ⟨fun e => by injection e, fun e => by rw [e]⟩
    rw [hT]
    clear hT
    refine vcall_of TOK_r10_Equal HM Go.Proofs.Tryz.func11 rfl (by decide +kernel) (by decide +kernel) rfl ?_
    repeat' ((conv => whnf); first | ((with_reducible apply Xq); assumption) | (with_reducible first | apply Xa | (first | apply xi | apply xp | apply xP); omega | apply Xe | refine Xg (by assumption) ?_) | refine Xo (by assumption) ?_ | refine x_0 (by first | assumption | rfl) ?_ | refine x_1 (by first | assumption | rfl) ?_ | refine Or.inl ⟨rfl, ?_⟩ | (split <;> (first | (rename_i u h; clear u) | rename_i h) <;> (try rewrite [h]) <;> (first | replace h := dt h | replace h := df h | replace h := Nt h | replace h := Nf h | skip) <;> (try dsimp only at h) <;> (first | contradiction | (exfalso; omega) | skip)) | (refine Or.inl ⟨_, by assumption, ?_⟩; first | rintro _ rfl | skip))
    refine ⟨[2, 3, 5], [0, 1], fun m st => ∃ i : Nat, i ≤ l.length ∧ m = l.length - i ∧ l.take i = l2.take i ∧
      st = ⟨[(2, .bptr 0 0), (3, .bptr 1 0), (5, .int .i64 (i : Nat))], [.box 24 (Gr.cells ⟨l, p⟩), .box 24 (Gr.cells ⟨l2, p⟩)]⟩, rfl, ⟨l.length, 0, by omega, rfl, rfl, rfl⟩, ?_⟩
    rintro m _ ⟨i, hi, hm, ha, rfl⟩
    rcases Nat.lt_or_ge i l.length with hil | hge
    · have hil2 : i < l2.length := by omega
      have g := rowN_get hil
      have g2 := rowN_get hil2
      have hs := c_r10_Same gl l[i] l2[i] (hg _ (List.getElem_mem hil)) (hh _ (List.getElem_mem hil2))
      by_cases he : l[i] = l2[i]
      · rw [decide_eq_true he] at hs
        repeat' ((conv => whnf); first | ((with_reducible apply Xq); assumption) | (with_reducible first | apply Xa | (first | apply xi | apply xp | apply xP); omega | apply Xe | refine Xg (by assumption) ?_) | refine Xo (by assumption) ?_ | refine x_0 (by first | assumption | rfl) ?_ | refine x_1 (by first | assumption | rfl) ?_ | refine Or.inl ⟨rfl, ?_⟩ | (split <;> (first | (rename_i u h; clear u) | rename_i h) <;> (try rewrite [h]) <;> (first | replace h := dt h | replace h := df h | replace h := Nt h | replace h := Nf h | skip) <;> (try dsimp only at h) <;> (first | contradiction | (exfalso; omega) | skip)) | (refine Or.inl ⟨_, by assumption, ?_⟩; first | rintro _ rfl | skip))
        refine ⟨by decide +kernel, [0, 1, 0, 7, 15, 0, 32, 0, 224, 480, 1023, 2047], by decide +kernel, ?_⟩
        repeat' ((conv => whnf); first | ((with_reducible apply Xq); assumption) | (with_reducible first | apply Xa | (first | apply xi | apply xp | apply xP); omega | apply Xe | refine Xg (by assumption) ?_) | refine Xo (by assumption) ?_ | refine x_0 (by first | assumption | rfl) ?_ | refine x_1 (by first | assumption | rfl) ?_ | refine Or.inl ⟨rfl, ?_⟩ | (split <;> (first | (rename_i u h; clear u) | rename_i h) <;> (try rewrite [h]) <;> (first | replace h := dt h | replace h := df h | replace h := Nt h | replace h := Nf h | skip) <;> (try dsimp only at h) <;> (first | contradiction | (exfalso; omega) | skip)) | (refine Or.inl ⟨_, by assumption, ?_⟩; first | rintro _ rfl | skip))
        exact ⟨[0, 1], l.length - (i + 1), rfl, by omega, i + 1, by omega, rfl, take_ext hil hil2 ha he, rfl⟩
      · rw [decide_eq_false he] at hs
        rw [decide_eq_false (fun e : l = l2 => he (by subst e; rfl))]
        repeat' ((conv => whnf); first | ((with_reducible apply Xq); assumption) | (with_reducible first | apply Xa | (first | apply xi | apply xp | apply xP); omega | apply Xe | refine Xg (by assumption) ?_) | refine Xo (by assumption) ?_ | refine x_0 (by first | assumption | rfl) ?_ | refine x_1 (by first | assumption | rfl) ?_ | refine Or.inl ⟨rfl, ?_⟩ | (split <;> (first | (rename_i u h; clear u) | rename_i h) <;> (try rewrite [h]) <;> (first | replace h := dt h | replace h := df h | replace h := Nt h | replace h := Nf h | skip) <;> (try dsimp only at h) <;> (first | contradiction | (exfalso; omega) | skip)) | (refine Or.inl ⟨_, by assumption, ?_⟩; first | rintro _ rfl | skip))
        refine ⟨by decide +kernel, [0, 1, 0, 7, 15, 0, 32, 0, 224, 480, 1023, 2047], by decide +kernel, ?_⟩
        repeat' ((conv => whnf); first | ((with_reducible apply Xq); assumption) | (with_reducible first | apply Xa | (first | apply xi | apply xp | apply xP); omega | apply Xe | refine Xg (by assumption) ?_) | refine Xo (by assumption) ?_ | refine x_0 (by first | assumption | rfl) ?_ | refine x_1 (by first | assumption | rfl) ?_ | refine Or.inl ⟨rfl, ?_⟩ | (split <;> (first | (rename_i u h; clear u) | rename_i h) <;> (try rewrite [h]) <;> (first | replace h := dt h | replace h := df h | replace h := Nt h | replace h := Nf h | skip) <;> (try dsimp only at h) <;> (first | contradiction | (exfalso; omega) | skip)) | (refine Or.inl ⟨_, by assumption, ?_⟩; first | rintro _ rfl | skip))
        all_goals (conv => whnf)
        rfl
    · rw [List.take_of_length_le (by omega), List.take_of_length_le (by omega)] at ha
      rw [decide_eq_true ha]
      repeat' ((conv => whnf); first | ((with_reducible apply Xq); assumption) | (with_reducible first | apply Xa | (first | apply xi | apply xp | apply xP); omega | apply Xe | refine Xg (by assumption) ?_) | refine Xo (by assumption) ?_ | refine x_0 (by first | assumption | rfl) ?_ | refine x_1 (by first | assumption | rfl) ?_ | refine Or.inl ⟨rfl, ?_⟩ | (split <;> (first | (rename_i u h; clear u) | rename_i h) <;> (try rewrite [h]) <;> (first | replace h := dt h | replace h := df h | replace h := Nt h | replace h := Nf h | skip) <;> (try dsimp only at h) <;> (first | contradiction | (exfalso; omega) | skip)) | (refine Or.inl ⟨_, by assumption, ?_⟩; first | rintro _ rfl | skip))
      all_goals (conv => whnf)
      rfl
  · rw [decide_eq_false (fun e => hpre (by cases e; exact ⟨rfl, rfl⟩))]
    refine vcall_of TOK_r10_Equal HM Go.Proofs.Tryz.func11 rfl (by decide +kernel) (by decide +kernel) rfl ?_
    repeat' ((conv => whnf); first | ((with_reducible apply Xq); assumption) | (with_reducible first | apply Xa | (first | apply xi | apply xp | apply xP); omega | apply Xe | refine Xg (by assumption) ?_) | refine Xo (by assumption) ?_ | refine x_0 (by first | assumption | rfl) ?_ | refine x_1 (by first | assumption | rfl) ?_ | refine Or.inl ⟨rfl, ?_⟩ | (split <;> (first | (rename_i u h; clear u) | rename_i h) <;> (try rewrite [h]) <;> (first | replace h := dt h | replace h := df h | replace h := Nt h | replace h := Nf h | skip) <;> (try dsimp only at h) <;> (first | contradiction | (exfalso; omega) | skip)) | (refine Or.inl ⟨_, by assumption, ?_⟩; first | rintro _ rfl | skip))
    all_goals first | ((conv => whnf); rfl) | (exfalso; apply hpre; simp_all; done) | (exfalso; apply hpre; simp_all; omega)
end Go.V
namespace Go.V
open Go.N
set_option maxRecDepth 20000
def T_gRight : Tab := [(24, i24), (22, i22), (37, i37), (3, i3), (27, i27), (39, i39), (4, i4), (9, i9)]
theorem TOK_gRight : TOK Go.Proofs.Tryz.prog T_gRight := ⟨K24, ⟨K22, ⟨K37, ⟨K3, ⟨K27, ⟨K39, ⟨K4, ⟨K9, trivial⟩⟩⟩⟩⟩⟩⟩⟩
def T_r10_Right : Tab := [(24, i24), (22, i22), (37, i37), (3, i3), (27, i27), (4, i4), (9, i9)]
theorem TOK_r10_Right : TOK Go.Proofs.Tryz.prog T_r10_Right := ⟨K24, ⟨K22, ⟨K37, ⟨K3, ⟨K27, ⟨K4, ⟨K9, trivial⟩⟩⟩⟩⟩⟩⟩
theorem okZ_sh {r : List Int × Bool} {s : List Int} (h : okZ r = some s) : okShape s = true := by
  rw [okZ] at h
  by_cases hh : (r.2 && okShape r.1) = true
  · rw [if_pos hh] at h
    cases h
    rw [Bool.and_eq_true] at hh
    exact hh.2
  · rw [if_neg hh] at h; cases h
theorem inferN_sh {l : List Nd} {x : Nd} {s : List Int} (h : inferN l x = some s) : okShape s = true := by
  cases hp : opParts x.op with
  | none => rw [inferN_none hp] at h; cases h
  | some m =>
    cases hf : fitN l x m with
    | false => rw [inferN_bad hp hf] at h; cases h
    | true => rw [inferN_ok hp hf] at h; exact okZ_sh h
def renK (kv : List (ByteArray × AV)) : List (ByteArray × AV) := kv.map fun kx => (kx.1, ren [0, 1] kx.2)
theorem map_setK (f : AV → AV) (x : ByteArray) (v : AV) : ∀ l : List (ByteArray × AV), (setK l x v).map (fun kx => (kx.1, f kx.2)) = setK (l.map fun kx => (kx.1, f kx.2)) x (f v)
  | [] => rfl
  | (k, w) :: r => by
    unfold setK
    simp only [List.map_cons]
    split
    · rfl
    · simp only [List.map_cons, map_setK f x v r]
theorem renK_set {kv : List (ByteArray × AV)} (h : renK kv = kv) (x : ByteArray) (e : Int) : renK (setK kv x (.int .i64 e)) = setK kv x (.int .i64 e) := by
  rw [renK, map_setK, show (kv.map fun kx => (kx.1, ren [0, 1] kx.2)) = kv from h]; simp [ren]
set_option maxHeartbeats 4000000 in
theorem c_gRight (g : Gr) (hs : ∀ x ∈ g.nodes, x.Sm) (hl : g.nodes.length ≤ 1000) : VCall Go.Proofs.Tryz.prog GL 14 [.agg g.cells] (fun r => r = .bool (grOK g)) := by
  obtain ⟨l, p⟩ := g
  have hlr : (rowN l).length = l.length := rowN_length l
  dsimp only at hs hl
  show VCall _ _ _ [.agg [.ro 8 (rowN l), .int .i64 p]] _
  cases hpre : preG ⟨l, p⟩
  · rw [show grOK ⟨l, p⟩ = false by rw [grOK, hpre]; rfl]
    by_cases h1 : 1 ≤ l.length
    · by_cases h2 : l.length ≤ 200
      · cases h3 : inR p l
        · have := inR_not h3
          refine vcall_of TOK_gRight HM Go.Proofs.Tryz.func14 rfl (by decide +kernel) (by decide +kernel) rfl ?_
          repeat' ((conv => whnf); first | ((with_reducible apply Xq); assumption) | (with_reducible first | apply Xa | (first | apply xi | apply xp | apply xP); omega | apply Xe | refine Xg (by assumption) ?_) | refine Xo (by assumption) ?_ | refine x_0 (by first | assumption | rfl) ?_ | refine x_1 (by first | assumption | rfl) ?_ | refine Or.inl ⟨rfl, ?_⟩ | (split <;> (first | (rename_i u h; clear u) | rename_i h) <;> (try rewrite [h]) <;> (first | replace h := dt h | replace h := df h | replace h := Nt h | replace h := Nf h | skip) <;> (try dsimp only at h) <;> (first | contradiction | (exfalso; omega) | skip)) | (refine Or.inl ⟨_, by assumption, ?_⟩; first | rintro _ rfl | skip))
          all_goals (conv => whnf)
          all_goals rfl
        · obtain ⟨q, rfl, hq⟩ := inR_nat h3
          have h4 : l[q].shape ≠ [] := fun e => by
            simp only [preG, h1, h2, h3, shAt_nat hq, e] at hpre
            simp at hpre
          obtain ⟨_, _, _, _, _, _, _, g⟩ := rowN_sh hq
          generalize l[q].shape = A at g h4
          have h5 : A.length ≠ 0 := fun e => h4 (List.length_eq_zero_iff.1 e)
          have hA := rowZ_length A
          refine vcall_of TOK_gRight HM Go.Proofs.Tryz.func14 rfl (by decide +kernel) (by decide +kernel) rfl ?_
          repeat' ((conv => whnf); first | ((with_reducible apply Xq); assumption) | (with_reducible first | apply Xa | (first | apply xi | apply xp | apply xP); omega | apply Xe | refine Xg (by assumption) ?_) | refine Xo (by assumption) ?_ | refine x_0 (by first | assumption | rfl) ?_ | refine x_1 (by first | assumption | rfl) ?_ | refine Or.inl ⟨rfl, ?_⟩ | (split <;> (first | (rename_i u h; clear u) | rename_i h) <;> (try rewrite [h]) <;> (first | replace h := dt h | replace h := df h | replace h := Nt h | replace h := Nf h | skip) <;> (try dsimp only at h) <;> (first | contradiction | (exfalso; omega) | skip)) | (refine Or.inl ⟨_, by assumption, ?_⟩; first | rintro _ rfl | skip))
          all_goals (conv => whnf)
          all_goals rfl
      · refine vcall_of TOK_gRight HM Go.Proofs.Tryz.func14 rfl (by decide +kernel) (by decide +kernel) rfl ?_
        repeat' ((conv => whnf); first | ((with_reducible apply Xq); assumption) | (with_reducible first | apply Xa | (first | apply xi | apply xp | apply xP); omega | apply Xe | refine Xg (by assumption) ?_) | refine Xo (by assumption) ?_ | refine x_0 (by first | assumption | rfl) ?_ | refine x_1 (by first | assumption | rfl) ?_ | refine Or.inl ⟨rfl, ?_⟩ | (split <;> (first | (rename_i u h; clear u) | rename_i h) <;> (try rewrite [h]) <;> (first | replace h := dt h | replace h := df h | replace h := Nt h | replace h := Nf h | skip) <;> (try dsimp only at h) <;> (first | contradiction | (exfalso; omega) | skip)) | (refine Or.inl ⟨_, by assumption, ?_⟩; first | rintro _ rfl | skip))
        all_goals (conv => whnf)
        all_goals rfl
    · refine vcall_of TOK_gRight HM Go.Proofs.Tryz.func14 rfl (by decide +kernel) (by decide +kernel) rfl ?_
      repeat' ((conv => whnf); first | ((with_reducible apply Xq); assumption) | (with_reducible first | apply Xa | (first | apply xi | apply xp | apply xP); omega | apply Xe | refine Xg (by assumption) ?_) | refine Xo (by assumption) ?_ | refine x_0 (by first | assumption | rfl) ?_ | refine x_1 (by first | assumption | rfl) ?_ | refine Or.inl ⟨rfl, ?_⟩ | (split <;> (first | (rename_i u h; clear u) | rename_i h) <;> (try rewrite [h]) <;> (first | replace h := dt h | replace h := df h | replace h := Nt h | replace h := Nf h | skip) <;> (try dsimp only at h) <;> (first | contradiction | (exfalso; omega) | skip)) | (refine Or.inl ⟨_, by assumption, ?_⟩; first | rintro _ rfl | skip))
      all_goals (conv => whnf)
      all_goals rfl
  have hpre2 := hpre
  simp only [preG, Bool.and_eq_true, decide_eq_true_eq] at hpre2
  obtain ⟨⟨⟨h1, h2⟩, h3⟩, h4⟩ := hpre2
  obtain ⟨q, rfl, hq⟩ := inR_nat h3
  rw [shAt_nat hq] at h4
  obtain ⟨_, _, _, _, _, _, _, g⟩ := rowN_sh hq
  rw [h4] at g
  rw [show grOK ⟨l, (q : Int)⟩ = allTo l l.length by rw [grOK, hpre]; rfl]
  clear hpre h3 h4
  refine vcall_of TOK_gRight HM Go.Proofs.Tryz.func14 rfl (by decide +kernel) (by decide +kernel) rfl ?_
  repeat' ((conv => whnf); first | ((with_reducible apply Xq); assumption) | (with_reducible first | apply Xa | (first | apply xi | apply xp | apply xP); omega | apply Xe | refine Xg (by assumption) ?_) | refine Xo (by assumption) ?_ | refine x_0 (by first | assumption | rfl) ?_ | refine x_1 (by first | assumption | rfl) ?_ | refine Or.inl ⟨rfl, ?_⟩ | (split <;> (first | (rename_i u h; clear u) | rename_i h) <;> (try rewrite [h]) <;> (first | replace h := dt h | replace h := df h | replace h := Nt h | replace h := Nf h | skip) <;> (try dsimp only at h) <;> (first | contradiction | (exfalso; omega) | skip)) | (refine Or.inl ⟨_, by assumption, ?_⟩; first | rintro _ rfl | skip))
  refine ⟨[1, 3, 44, 45, 46], [0, 1], fun m st => ∃ (i : Nat) (kv : List (ByteArray × AV)), i ≤ l.length ∧ m = l.length - i ∧ allTo l i = true ∧ MapOK kv (l.take i) ∧ renK kv = kv ∧
    st = ⟨[(1, .bptr 0 0), (3, .map 1), (44, .ro 8 (rowN l)), (45, .int .i64 ((rowN l).length : Nat)), (46, .int .i64 (i : Nat))], [.box 24 [.ro 8 (rowN l), .int .i64 (q : Nat)], .kv kv]⟩, rfl,
    ⟨l.length, 0, [], by omega, rfl, rfl, mapOK_nil, rfl, rfl⟩, ?_⟩
  rintro m _ ⟨i, kv, hi, hm, ha, hkv, hrk, rfl⟩
  rcases Nat.lt_or_ge i l.length with hil | hge
  · obtain ⟨x, hx⟩ : ∃ x, x = l[i] := ⟨_, rfl⟩
    have g : (rowN l)[i]? = some x.cells := by rw [hx]; exact rowN_get hil
    have hnd : ndAt l i = ndOK (l.take i) x := by rw [hx]; exact ndAt_lt hil
    have hxs : x.Sm := by rw [hx]; exact hs _ (List.getElem_mem hil)
    have htk : l.take (i + 1) = l.take i ++ [x] := by rw [hx]; exact List.take_succ_eq_append_getElem hil
    clear hx
    have hinf := c_gInfer (l.take i) x hxs (fun y hy => hs y (List.mem_of_mem_take hy)) (by rw [List.length_take]; omega)
    have hcl := cnt_le (l.take i) x.name
    have hcp := @cnt_pos (l.take i) x
    have hsn := @mapOK_snoc kv (l.take i) x ((cntN (l.take i) x.name : Nat) + 1) hkv rfl
    rw [← htk] at hsn
    have hrs := renK_set hrk x.name ((cntN (l.take i) x.name : Nat) + 1)
    have hmp := hkv x.name
    rw [List.length_take] at hcl
    generalize cntN (l.take i) x.name = c at hcl hcp hsn hmp hrs
    have hso := allTo_succ l i
    rw [ha, hnd, ndOK, Bool.true_and] at hso
    have hbad : (decide (inferN (l.take i) x = some x.shape) && (l.take i).all (newName x)) = false → allTo l l.length = false := fun h => allTo_bad hil (by rw [hnd, ndOK]; exact h)
    have hnn : x.name = ⟨#[]⟩ → (l.take i).all (newName x) = true := fun e => by rw [List.all_eq_true]; intro y _; simp [newName, e]
    have hlen1 := hxs.shape
    cases hI : inferN (l.take i) x with
    | none =>
      rw [hbad (by simp [hI])]
      rw [hI] at hinf
      obtain ⟨op, a, b, name, shape, k, n, data⟩ := x
      repeat' ((conv => whnf); first | ((with_reducible apply Xq); assumption) | (with_reducible first | apply Xa | (first | apply xi | apply xp | apply xP); omega | apply Xe | refine Xg (by assumption) ?_) | refine Xo (by assumption) ?_ | refine x_0 (by first | assumption | rfl) ?_ | refine x_1 (by first | assumption | rfl) ?_ | refine Or.inl ⟨rfl, ?_⟩ | (split <;> (first | (rename_i u h; clear u) | rename_i h) <;> (try rewrite [h]) <;> (first | replace h := dt h | replace h := df h | replace h := Nt h | replace h := Nf h | skip) <;> (try dsimp only at h) <;> (first | contradiction | (exfalso; omega) | skip)) | (refine Or.inl ⟨_, by assumption, ?_⟩; first | rintro _ rfl | skip))
      refine ⟨by decide +kernel, [0, 1, 0, 7, 0, 31, 63, 127, 127, 255, 1023], by decide +kernel, ?_⟩
      repeat' ((conv => whnf); first | ((with_reducible apply Xq); assumption) | (with_reducible first | apply Xa | (first | apply xi | apply xp | apply xP); omega | apply Xe | refine Xg (by assumption) ?_) | refine Xo (by assumption) ?_ | refine x_0 (by first | assumption | rfl) ?_ | refine x_1 (by first | assumption | rfl) ?_ | refine Or.inl ⟨rfl, ?_⟩ | (split <;> (first | (rename_i u h; clear u) | rename_i h) <;> (try rewrite [h]) <;> (first | replace h := dt h | replace h := df h | replace h := Nt h | replace h := Nf h | skip) <;> (try dsimp only at h) <;> (first | contradiction | (exfalso; omega) | skip)) | (refine Or.inl ⟨_, by assumption, ?_⟩; first | rintro _ rfl | skip))
      refine ⟨Int.le_refl _, by omega, by omega, rowN (l.take i), sl_take l i, ?_⟩
      repeat' ((conv => whnf); first | ((with_reducible apply Xq); assumption) | (with_reducible first | apply Xa | (first | apply xi | apply xp | apply xP); omega | apply Xe | refine Xg (by assumption) ?_) | refine Xo (by assumption) ?_ | refine x_0 (by first | assumption | rfl) ?_ | refine x_1 (by first | assumption | rfl) ?_ | refine Or.inl ⟨rfl, ?_⟩ | (split <;> (first | (rename_i u h; clear u) | rename_i h) <;> (try rewrite [h]) <;> (first | replace h := dt h | replace h := df h | replace h := Nt h | replace h := Nf h | skip) <;> (try dsimp only at h) <;> (first | contradiction | (exfalso; omega) | skip)) | (refine Or.inl ⟨_, by assumption, ?_⟩; first | rintro _ rfl | skip))
      all_goals (conv => whnf)
      all_goals rfl
    | some s =>
      rw [hI] at hinf hbad hso
      have hs2 : s.length ≤ 4 := by
        have : okShape s = true := inferN_sh hI
        exact okShape_len this
      have hsm := c_shape_Same GL s x.shape (by omega) (by omega)
      by_cases hss : s = x.shape
      · rw [decide_eq_true hss] at hsm
        by_cases hn : x.name = ⟨#[]⟩
        · have hgo : allTo l (i + 1) = true := hso.trans (by rw [hnn hn, hss]; simp)
          obtain ⟨op, a, b, name, shape, k, n, data⟩ := x
          repeat' ((conv => whnf); first | ((with_reducible apply Xq); assumption) | (with_reducible first | apply Xa | (first | apply xi | apply xp | apply xP); omega | apply Xe | refine Xg (by assumption) ?_) | refine Xo (by assumption) ?_ | refine x_0 (by first | assumption | rfl) ?_ | refine x_1 (by first | assumption | rfl) ?_ | refine Or.inl ⟨rfl, ?_⟩ | (split <;> (first | (rename_i u h; clear u) | rename_i h) <;> (try rewrite [h]) <;> (first | replace h := dt h | replace h := df h | replace h := Nt h | replace h := Nf h | skip) <;> (try dsimp only at h) <;> (first | contradiction | (exfalso; omega) | skip)) | (refine Or.inl ⟨_, by assumption, ?_⟩; first | rintro _ rfl | skip))
          refine ⟨by decide +kernel, [0, 1, 0, 7, 0, 31, 63, 127, 127, 255, 1023], by decide +kernel, ?_⟩
          repeat' ((conv => whnf); first | ((with_reducible apply Xq); assumption) | (with_reducible first | apply Xa | (first | apply xi | apply xp | apply xP); omega | apply Xe | refine Xg (by assumption) ?_) | refine Xo (by assumption) ?_ | refine x_0 (by first | assumption | rfl) ?_ | refine x_1 (by first | assumption | rfl) ?_ | refine Or.inl ⟨rfl, ?_⟩ | (split <;> (first | (rename_i u h; clear u) | rename_i h) <;> (try rewrite [h]) <;> (first | replace h := dt h | replace h := df h | replace h := Nt h | replace h := Nf h | skip) <;> (try dsimp only at h) <;> (first | contradiction | (exfalso; omega) | skip)) | (refine Or.inl ⟨_, by assumption, ?_⟩; first | rintro _ rfl | skip))
          refine ⟨Int.le_refl _, by omega, by omega, rowN (l.take i), sl_take l i, ?_⟩
          repeat' ((conv => whnf); first | ((with_reducible apply Xq); assumption) | (with_reducible first | apply Xa | (first | apply xi | apply xp | apply xP); omega | apply Xe | refine Xg (by assumption) ?_) | refine Xo (by assumption) ?_ | refine x_0 (by first | assumption | rfl) ?_ | refine x_1 (by first | assumption | rfl) ?_ | refine Or.inl ⟨rfl, ?_⟩ | (split <;> (first | (rename_i u h; clear u) | rename_i h) <;> (try rewrite [h]) <;> (first | replace h := dt h | replace h := df h | replace h := Nt h | replace h := Nf h | skip) <;> (try dsimp only at h) <;> (first | contradiction | (exfalso; omega) | skip)) | (refine Or.inl ⟨_, by assumption, ?_⟩; first | rintro _ rfl | skip))
          all_goals exact ⟨[0, 1], l.length - (i + 1), rfl, by omega, i + 1, _, by omega, rfl, hgo, hsn, hrs, Eq.trans rfl (congrArg (fun z => (⟨[(1, .bptr 0 0), (3, .map 1), (44, .ro 8 (rowN l)), (45, .int .i64 ((rowN l).length : Nat)), (46, .int .i64 ((i + 1 : Nat) : Int))], [.box 24 [.ro 8 (rowN l), .int .i64 (q : Nat)], .kv z]⟩ : St)) hrs)⟩
        · by_cases hc : 0 < c
          · have hT := hbad (by rw [(hcp hn).1 hc]; simp)
            rw [hT]
            obtain ⟨op, a, b, name, shape, k, n, data⟩ := x
            repeat' ((conv => whnf); first | ((with_reducible apply Xq); assumption) | (with_reducible first | apply Xa | (first | apply xi | apply xp | apply xP); omega | apply Xe | refine Xg (by assumption) ?_) | refine Xo (by assumption) ?_ | refine x_0 (by first | assumption | rfl) ?_ | refine x_1 (by first | assumption | rfl) ?_ | refine Or.inl ⟨rfl, ?_⟩ | (split <;> (first | (rename_i u h; clear u) | rename_i h) <;> (try rewrite [h]) <;> (first | replace h := dt h | replace h := df h | replace h := Nt h | replace h := Nf h | skip) <;> (try dsimp only at h) <;> (first | contradiction | (exfalso; omega) | skip)) | (refine Or.inl ⟨_, by assumption, ?_⟩; first | rintro _ rfl | skip))
            refine ⟨by decide +kernel, [0, 1, 0, 7, 0, 31, 63, 127, 127, 255, 1023], by decide +kernel, ?_⟩
            repeat' ((conv => whnf); first | ((with_reducible apply Xq); assumption) | (with_reducible first | apply Xa | (first | apply xi | apply xp | apply xP); omega | apply Xe | refine Xg (by assumption) ?_) | refine Xo (by assumption) ?_ | refine x_0 (by first | assumption | rfl) ?_ | refine x_1 (by first | assumption | rfl) ?_ | refine Or.inl ⟨rfl, ?_⟩ | (split <;> (first | (rename_i u h; clear u) | rename_i h) <;> (try rewrite [h]) <;> (first | replace h := dt h | replace h := df h | replace h := Nt h | replace h := Nf h | skip) <;> (try dsimp only at h) <;> (first | contradiction | (exfalso; omega) | skip)) | (refine Or.inl ⟨_, by assumption, ?_⟩; first | rintro _ rfl | skip))
            refine ⟨Int.le_refl _, by omega, by omega, rowN (l.take i), sl_take l i, ?_⟩
            repeat' ((conv => whnf); first | ((with_reducible apply Xq); assumption) | (with_reducible first | apply Xa | (first | apply xi | apply xp | apply xP); omega | apply Xe | refine Xg (by assumption) ?_) | refine Xo (by assumption) ?_ | refine x_0 (by first | assumption | rfl) ?_ | refine x_1 (by first | assumption | rfl) ?_ | refine Or.inl ⟨rfl, ?_⟩ | (split <;> (first | (rename_i u h; clear u) | rename_i h) <;> (try rewrite [h]) <;> (first | replace h := dt h | replace h := df h | replace h := Nt h | replace h := Nf h | skip) <;> (try dsimp only at h) <;> (first | contradiction | (exfalso; omega) | skip)) | (refine Or.inl ⟨_, by assumption, ?_⟩; first | rintro _ rfl | skip))
            all_goals (conv => whnf)
            all_goals rfl
          · have hall : (l.take i).all (newName x) = true := by
              cases h : (l.take i).all (newName x)
              · exact absurd ((hcp hn).2 h) hc
              · rfl
            have hgo : allTo l (i + 1) = true := hso.trans (by rw [hall, hss]; simp)
            obtain ⟨op, a, b, name, shape, k, n, data⟩ := x
            repeat' ((conv => whnf); first | ((with_reducible apply Xq); assumption) | (with_reducible first | apply Xa | (first | apply xi | apply xp | apply xP); omega | apply Xe | refine Xg (by assumption) ?_) | refine Xo (by assumption) ?_ | refine x_0 (by first | assumption | rfl) ?_ | refine x_1 (by first | assumption | rfl) ?_ | refine Or.inl ⟨rfl, ?_⟩ | (split <;> (first | (rename_i u h; clear u) | rename_i h) <;> (try rewrite [h]) <;> (first | replace h := dt h | replace h := df h | replace h := Nt h | replace h := Nf h | skip) <;> (try dsimp only at h) <;> (first | contradiction | (exfalso; omega) | skip)) | (refine Or.inl ⟨_, by assumption, ?_⟩; first | rintro _ rfl | skip))
            refine ⟨by decide +kernel, [0, 1, 0, 7, 0, 31, 63, 127, 127, 255, 1023], by decide +kernel, ?_⟩
            repeat' ((conv => whnf); first | ((with_reducible apply Xq); assumption) | (with_reducible first | apply Xa | (first | apply xi | apply xp | apply xP); omega | apply Xe | refine Xg (by assumption) ?_) | refine Xo (by assumption) ?_ | refine x_0 (by first | assumption | rfl) ?_ | refine x_1 (by first | assumption | rfl) ?_ | refine Or.inl ⟨rfl, ?_⟩ | (split <;> (first | (rename_i u h; clear u) | rename_i h) <;> (try rewrite [h]) <;> (first | replace h := dt h | replace h := df h | replace h := Nt h | replace h := Nf h | skip) <;> (try dsimp only at h) <;> (first | contradiction | (exfalso; omega) | skip)) | (refine Or.inl ⟨_, by assumption, ?_⟩; first | rintro _ rfl | skip))
            refine ⟨Int.le_refl _, by omega, by omega, rowN (l.take i), sl_take l i, ?_⟩
            repeat' ((conv => whnf); first | ((with_reducible apply Xq); assumption) | (with_reducible first | apply Xa | (first | apply xi | apply xp | apply xP); omega | apply Xe | refine Xg (by assumption) ?_) | refine Xo (by assumption) ?_ | refine x_0 (by first | assumption | rfl) ?_ | refine x_1 (by first | assumption | rfl) ?_ | refine Or.inl ⟨rfl, ?_⟩ | (split <;> (first | (rename_i u h; clear u) | rename_i h) <;> (try rewrite [h]) <;> (first | replace h := dt h | replace h := df h | replace h := Nt h | replace h := Nf h | skip) <;> (try dsimp only at h) <;> (first | contradiction | (exfalso; omega) | skip)) | (refine Or.inl ⟨_, by assumption, ?_⟩; first | rintro _ rfl | skip))
            all_goals exact ⟨[0, 1], l.length - (i + 1), rfl, by omega, i + 1, _, by omega, rfl, hgo, hsn, hrs, Eq.trans rfl (congrArg (fun z => (⟨[(1, .bptr 0 0), (3, .map 1), (44, .ro 8 (rowN l)), (45, .int .i64 ((rowN l).length : Nat)), (46, .int .i64 ((i + 1 : Nat) : Int))], [.box 24 [.ro 8 (rowN l), .int .i64 (q : Nat)], .kv z]⟩ : St)) hrs)⟩
      · rw [decide_eq_false hss] at hsm
        rw [hbad (by simp [hss])]
        obtain ⟨op, a, b, name, shape, k, n, data⟩ := x
        repeat' ((conv => whnf); first | ((with_reducible apply Xq); assumption) | (with_reducible first | apply Xa | (first | apply xi | apply xp | apply xP); omega | apply Xe | refine Xg (by assumption) ?_) | refine Xo (by assumption) ?_ | refine x_0 (by first | assumption | rfl) ?_ | refine x_1 (by first | assumption | rfl) ?_ | refine Or.inl ⟨rfl, ?_⟩ | (split <;> (first | (rename_i u h; clear u) | rename_i h) <;> (try rewrite [h]) <;> (first | replace h := dt h | replace h := df h | replace h := Nt h | replace h := Nf h | skip) <;> (try dsimp only at h) <;> (first | contradiction | (exfalso; omega) | skip)) | (refine Or.inl ⟨_, by assumption, ?_⟩; first | rintro _ rfl | skip))
        refine ⟨by decide +kernel, [0, 1, 0, 7, 0, 31, 63, 127, 127, 255, 1023], by decide +kernel, ?_⟩
        repeat' ((conv => whnf); first | ((with_reducible apply Xq); assumption) | (with_reducible first | apply Xa | (first | apply xi | apply xp | apply xP); omega | apply Xe | refine Xg (by assumption) ?_) | refine Xo (by assumption) ?_ | refine x_0 (by first | assumption | rfl) ?_ | refine x_1 (by first | assumption | rfl) ?_ | refine Or.inl ⟨rfl, ?_⟩ | (split <;> (first | (rename_i u h; clear u) | rename_i h) <;> (try rewrite [h]) <;> (first | replace h := dt h | replace h := df h | replace h := Nt h | replace h := Nf h | skip) <;> (try dsimp only at h) <;> (first | contradiction | (exfalso; omega) | skip)) | (refine Or.inl ⟨_, by assumption, ?_⟩; first | rintro _ rfl | skip))
        refine ⟨Int.le_refl _, by omega, by omega, rowN (l.take i), sl_take l i, ?_⟩
        repeat' ((conv => whnf); first | ((with_reducible apply Xq); assumption) | (with_reducible first | apply Xa | (first | apply xi | apply xp | apply xP); omega | apply Xe | refine Xg (by assumption) ?_) | refine Xo (by assumption) ?_ | refine x_0 (by first | assumption | rfl) ?_ | refine x_1 (by first | assumption | rfl) ?_ | refine Or.inl ⟨rfl, ?_⟩ | (split <;> (first | (rename_i u h; clear u) | rename_i h) <;> (try rewrite [h]) <;> (first | replace h := dt h | replace h := df h | replace h := Nt h | replace h := Nf h | skip) <;> (try dsimp only at h) <;> (first | contradiction | (exfalso; omega) | skip)) | (refine Or.inl ⟨_, by assumption, ?_⟩; first | rintro _ rfl | skip))
        all_goals (conv => whnf)
        all_goals rfl
  · have hi2 : i = l.length := by omega
    subst hi2
    rw [ha]
    repeat' ((conv => whnf); first | ((with_reducible apply Xq); assumption) | (with_reducible first | apply Xa | (first | apply xi | apply xp | apply xP); omega | apply Xe | refine Xg (by assumption) ?_) | refine Xo (by assumption) ?_ | refine x_0 (by first | assumption | rfl) ?_ | refine x_1 (by first | assumption | rfl) ?_ | refine Or.inl ⟨rfl, ?_⟩ | (split <;> (first | (rename_i u h; clear u) | rename_i h) <;> (try rewrite [h]) <;> (first | replace h := dt h | replace h := df h | replace h := Nt h | replace h := Nf h | skip) <;> (try dsimp only at h) <;> (first | contradiction | (exfalso; omega) | skip)) | (refine Or.inl ⟨_, by assumption, ?_⟩; first | rintro _ rfl | skip))
    all_goals (conv => whnf)
    all_goals rfl
end Go.V
namespace Go.V
open Go.N
set_option maxRecDepth 20000
variable (gl : Gl)
theorem newName_take {l : List Nd} {i j : Nat} (hj : j < i) (hi : i ≤ l.length) : (l.take i)[j]'(by rw [List.length_take]; omega) = l[j] := by simp
set_option maxHeartbeats 4000000 in
theorem c_r10_Right (g : Gr) (hs : ∀ x ∈ g.nodes, x.Sm) (hl : g.nodes.length ≤ 1000) : VCall Go.Proofs.Tryz.prog gl 9 [.agg g.cells] (fun r => r = .bool (grOK g)) := by
  obtain ⟨l, p⟩ := g
  have hlr : (rowN l).length = l.length := rowN_length l
  dsimp only at hs hl
  show VCall _ _ _ [.agg [.ro 8 (rowN l), .int .i64 p]] _
  cases hpre : preG ⟨l, p⟩
  · rw [show grOK ⟨l, p⟩ = false by rw [grOK, hpre]; rfl]
    by_cases h1 : 1 ≤ l.length
    · by_cases h2 : l.length ≤ 200
      · cases h3 : inR p l
        · have := inR_not h3
          refine vcall_of TOK_r10_Right HM Go.Proofs.Tryz.func9 rfl (by decide +kernel) (by decide +kernel) rfl ?_
          repeat' ((conv => whnf); first | ((with_reducible apply Xq); assumption) | (with_reducible first | apply Xa | (first | apply xi | apply xp | apply xP); omega | apply Xe | refine Xg (by assumption) ?_) | refine Xo (by assumption) ?_ | refine x_0 (by first | assumption | rfl) ?_ | refine x_1 (by first | assumption | rfl) ?_ | refine Or.inl ⟨rfl, ?_⟩ | (split <;> (first | (rename_i u h; clear u) | rename_i h) <;> (try rewrite [h]) <;> (first | replace h := dt h | replace h := df h | replace h := Nt h | replace h := Nf h | skip) <;> (try dsimp only at h) <;> (first | contradiction | (exfalso; omega) | skip)) | (refine Or.inl ⟨_, by assumption, ?_⟩; first | rintro _ rfl | skip))
          all_goals (conv => whnf)
          all_goals rfl
        · obtain ⟨q, rfl, hq⟩ := inR_nat h3
          have h4 : l[q].shape ≠ [] := fun e => by
            simp only [preG, h1, h2, h3, shAt_nat hq, e] at hpre
            simp at hpre
          obtain ⟨_, _, _, _, _, _, _, g⟩ := rowN_sh hq
          generalize l[q].shape = A at g h4
          have h5 : A.length ≠ 0 := fun e => h4 (List.length_eq_zero_iff.1 e)
          have hA := rowZ_length A
          refine vcall_of TOK_r10_Right HM Go.Proofs.Tryz.func9 rfl (by decide +kernel) (by decide +kernel) rfl ?_
          repeat' ((conv => whnf); first | ((with_reducible apply Xq); assumption) | (with_reducible first | apply Xa | (first | apply xi | apply xp | apply xP); omega | apply Xe | refine Xg (by assumption) ?_) | refine Xo (by assumption) ?_ | refine x_0 (by first | assumption | rfl) ?_ | refine x_1 (by first | assumption | rfl) ?_ | refine Or.inl ⟨rfl, ?_⟩ | (split <;> (first | (rename_i u h; clear u) | rename_i h) <;> (try rewrite [h]) <;> (first | replace h := dt h | replace h := df h | replace h := Nt h | replace h := Nf h | skip) <;> (try dsimp only at h) <;> (first | contradiction | (exfalso; omega) | skip)) | (refine Or.inl ⟨_, by assumption, ?_⟩; first | rintro _ rfl | skip))
          all_goals (conv => whnf)
          all_goals rfl
      · refine vcall_of TOK_r10_Right HM Go.Proofs.Tryz.func9 rfl (by decide +kernel) (by decide +kernel) rfl ?_
        repeat' ((conv => whnf); first | ((with_reducible apply Xq); assumption) | (with_reducible first | apply Xa | (first | apply xi | apply xp | apply xP); omega | apply Xe | refine Xg (by assumption) ?_) | refine Xo (by assumption) ?_ | refine x_0 (by first | assumption | rfl) ?_ | refine x_1 (by first | assumption | rfl) ?_ | refine Or.inl ⟨rfl, ?_⟩ | (split <;> (first | (rename_i u h; clear u) | rename_i h) <;> (try rewrite [h]) <;> (first | replace h := dt h | replace h := df h | replace h := Nt h | replace h := Nf h | skip) <;> (try dsimp only at h) <;> (first | contradiction | (exfalso; omega) | skip)) | (refine Or.inl ⟨_, by assumption, ?_⟩; first | rintro _ rfl | skip))
        all_goals (conv => whnf)
        all_goals rfl
    · refine vcall_of TOK_r10_Right HM Go.Proofs.Tryz.func9 rfl (by decide +kernel) (by decide +kernel) rfl ?_
      repeat' ((conv => whnf); first | ((with_reducible apply Xq); assumption) | (with_reducible first | apply Xa | (first | apply xi | apply xp | apply xP); omega | apply Xe | refine Xg (by assumption) ?_) | refine Xo (by assumption) ?_ | refine x_0 (by first | assumption | rfl) ?_ | refine x_1 (by first | assumption | rfl) ?_ | refine Or.inl ⟨rfl, ?_⟩ | (split <;> (first | (rename_i u h; clear u) | rename_i h) <;> (try rewrite [h]) <;> (first | replace h := dt h | replace h := df h | replace h := Nt h | replace h := Nf h | skip) <;> (try dsimp only at h) <;> (first | contradiction | (exfalso; omega) | skip)) | (refine Or.inl ⟨_, by assumption, ?_⟩; first | rintro _ rfl | skip))
      all_goals (conv => whnf)
      all_goals rfl
  have hpre2 := hpre
  simp only [preG, Bool.and_eq_true, decide_eq_true_eq] at hpre2
  obtain ⟨⟨⟨h1, h2⟩, h3⟩, h4⟩ := hpre2
  obtain ⟨q, rfl, hq⟩ := inR_nat h3
  rw [shAt_nat hq] at h4
  obtain ⟨_, _, _, _, _, _, _, g⟩ := rowN_sh hq
  rw [h4] at g
  rw [show grOK ⟨l, (q : Int)⟩ = allTo l l.length by rw [grOK, hpre]; rfl]
  clear hpre h3 h4
  refine vcall_of TOK_r10_Right HM Go.Proofs.Tryz.func9 rfl (by decide +kernel) (by decide +kernel) rfl ?_
  repeat' ((conv => whnf); first | ((with_reducible apply Xq); assumption) | (with_reducible first | apply Xa | (first | apply xi | apply xp | apply xP); omega | apply Xe | refine Xg (by assumption) ?_) | refine Xo (by assumption) ?_ | refine x_0 (by first | assumption | rfl) ?_ | refine x_1 (by first | assumption | rfl) ?_ | refine Or.inl ⟨rfl, ?_⟩ | (split <;> (first | (rename_i u h; clear u) | rename_i h) <;> (try rewrite [h]) <;> (first | replace h := dt h | replace h := df h | replace h := Nt h | replace h := Nf h | skip) <;> (try dsimp only at h) <;> (first | contradiction | (exfalso; omega) | skip)) | (refine Or.inl ⟨_, by assumption, ?_⟩; first | rintro _ rfl | skip))
  refine ⟨[1, 3], [0], fun m st => ∃ (i : Nat), i ≤ l.length ∧ m = l.length - i ∧ allTo l i = true ∧
    st = ⟨[(1, .bptr 0 0), (3, .int .i64 (i : Nat))], [.box 24 [.ro 8 (rowN l), .int .i64 (q : Nat)]]⟩, rfl,
    ⟨l.length, 0, by omega, rfl, rfl, rfl⟩, ?_⟩
  rintro m _ ⟨i, hi, hm, ha, rfl⟩
  rcases Nat.lt_or_ge i l.length with hil | hge
  · obtain ⟨x, hx⟩ : ∃ x, x = l[i] := ⟨_, rfl⟩
    have g : (rowN l)[i]? = some x.cells := by rw [hx]; exact rowN_get hil
    have hnd : ndAt l i = ndOK (l.take i) x := by rw [hx]; exact ndAt_lt hil
    have hxs : x.Sm := by rw [hx]; exact hs _ (List.getElem_mem hil)
    clear hx
    have hsh := c_r10_Shape gl (l.take i) x hxs (fun y hy => hs y (List.mem_of_mem_take hy))
    have hri := refN_infer (l.take i) x
    have hso := allTo_succ l i
    rw [ha, hnd, ndOK, Bool.true_and] at hso
    have hbad : (decide (inferN (l.take i) x = some x.shape) && (l.take i).all (newName x)) = false → allTo l l.length = false := fun h => allTo_bad hil (by rw [hnd, ndOK]; exact h)
    have hlen1 := hxs.shape
    generalize refN (l.take i) x = R at hsh hri
    obtain ⟨s, ok⟩ := R
    dsimp only at hsh hri
    cases ok with
    | false =>
      rw [hbad (by
        cases h : inferN (l.take i) x with
        | none => rfl
        | some s => rw [h] at hri; exact absurd hri.1 (by simp))]
      obtain ⟨op, a, b, name, shape, k, n, data⟩ := x
      repeat' ((conv => whnf); first | ((with_reducible apply Xq); assumption) | (with_reducible first | apply Xa | (first | apply xi | apply xp | apply xP); omega | apply Xe | refine Xg (by assumption) ?_) | refine Xo (by assumption) ?_ | refine x_0 (by first | assumption | rfl) ?_ | refine x_1 (by first | assumption | rfl) ?_ | refine Or.inl ⟨rfl, ?_⟩ | (split <;> (first | (rename_i u h; clear u) | rename_i h) <;> (try rewrite [h]) <;> (first | replace h := dt h | replace h := df h | replace h := Nt h | replace h := Nf h | skip) <;> (try dsimp only at h) <;> (first | contradiction | (exfalso; omega) | skip)) | (refine Or.inl ⟨_, by assumption, ?_⟩; first | rintro _ rfl | skip))
      refine ⟨by decide +kernel, [0, 1, 0, 7, 0, 16, 0, 112, 240, 511, 1023, 2047, 2047, 4095, 16383], by decide +kernel, ?_⟩
      repeat' ((conv => whnf); first | ((with_reducible apply Xq); assumption) | (with_reducible first | apply Xa | (first | apply xi | apply xp | apply xP); omega | apply Xe | refine Xg (by assumption) ?_) | refine Xo (by assumption) ?_ | refine x_0 (by first | assumption | rfl) ?_ | refine x_1 (by first | assumption | rfl) ?_ | refine Or.inl ⟨rfl, ?_⟩ | (split <;> (first | (rename_i u h; clear u) | rename_i h) <;> (try rewrite [h]) <;> (first | replace h := dt h | replace h := df h | replace h := Nt h | replace h := Nf h | skip) <;> (try dsimp only at h) <;> (first | contradiction | (exfalso; omega) | skip)) | (refine Or.inl ⟨_, by assumption, ?_⟩; first | rintro _ rfl | skip))
      refine ⟨Int.le_refl _, by omega, by omega, rowN (l.take i), sl_take l i, ?_⟩
      repeat' ((conv => whnf); first | ((with_reducible apply Xq); assumption) | (with_reducible first | apply Xa | (first | apply xi | apply xp | apply xP); omega | apply Xe | refine Xg (by assumption) ?_) | refine Xo (by assumption) ?_ | refine x_0 (by first | assumption | rfl) ?_ | refine x_1 (by first | assumption | rfl) ?_ | refine Or.inl ⟨rfl, ?_⟩ | (split <;> (first | (rename_i u h; clear u) | rename_i h) <;> (try rewrite [h]) <;> (first | replace h := dt h | replace h := df h | replace h := Nt h | replace h := Nf h | skip) <;> (try dsimp only at h) <;> (first | contradiction | (exfalso; omega) | skip)) | (refine Or.inl ⟨_, by assumption, ?_⟩; first | rintro _ rfl | skip))
      all_goals (conv => whnf)
      all_goals rfl
    | true =>
      have hI := hri.2 rfl
      have hs2 := okShape_len (inferN_sh hI)
      have hsm := c_r04_Same gl s x.shape (by omega) (by omega)
      rw [hI] at hbad hso
      by_cases hss : s = x.shape
      · rw [decide_eq_true hss] at hsm
        rw [hss, decide_eq_true rfl, Bool.true_and] at hso hbad
        have hnk : ∀ k (hk : k < i), newName x l[k] = false → allTo l l.length = false := fun k hk h => hbad (List.all_eq_false.2 ⟨l[k], by
          rw [← newName_take hk hi]; exact List.getElem_mem _, by simp [h]⟩)
        have htk : ∀ k (hk : k < i), ((l.take i).take k).all (newName x) = true → newName x l[k] = true → ((l.take i).take (k + 1)).all (newName x) = true := fun k hk h1 h2 =>
          all_snoc (by rw [List.length_take]; omega) h1 (by rw [newName_take hk hi]; exact h2)
        obtain ⟨op, a, b, name, shape, k, n, data⟩ := x
        repeat' ((conv => whnf); first | ((with_reducible apply Xq); assumption) | (with_reducible first | apply Xa | (first | apply xi | apply xp | apply xP); omega | apply Xe | refine Xg (by assumption) ?_) | refine Xo (by assumption) ?_ | refine x_0 (by first | assumption | rfl) ?_ | refine x_1 (by first | assumption | rfl) ?_ | refine Or.inl ⟨rfl, ?_⟩ | (split <;> (first | (rename_i u h; clear u) | rename_i h) <;> (try rewrite [h]) <;> (first | replace h := dt h | replace h := df h | replace h := Nt h | replace h := Nf h | skip) <;> (try dsimp only at h) <;> (first | contradiction | (exfalso; omega) | skip)) | (refine Or.inl ⟨_, by assumption, ?_⟩; first | rintro _ rfl | skip))
        refine ⟨by decide +kernel, [0, 1, 0, 7, 0, 16, 0, 112, 240, 511, 1023, 2047, 2047, 4095, 16383], by decide +kernel, ?_⟩
        repeat' ((conv => whnf); first | ((with_reducible apply Xq); assumption) | (with_reducible first | apply Xa | (first | apply xi | apply xp | apply xP); omega | apply Xe | refine Xg (by assumption) ?_) | refine Xo (by assumption) ?_ | refine x_0 (by first | assumption | rfl) ?_ | refine x_1 (by first | assumption | rfl) ?_ | refine Or.inl ⟨rfl, ?_⟩ | (split <;> (first | (rename_i u h; clear u) | rename_i h) <;> (try rewrite [h]) <;> (first | replace h := dt h | replace h := df h | replace h := Nt h | replace h := Nf h | skip) <;> (try dsimp only at h) <;> (first | contradiction | (exfalso; omega) | skip)) | (refine Or.inl ⟨_, by assumption, ?_⟩; first | rintro _ rfl | skip))
        refine ⟨Int.le_refl _, by omega, by omega, rowN (l.take i), sl_take l i, ?_⟩
        repeat' ((conv => whnf); first | ((with_reducible apply Xq); assumption) | (with_reducible first | apply Xa | (first | apply xi | apply xp | apply xP); omega | apply Xe | refine Xg (by assumption) ?_) | refine Xo (by assumption) ?_ | refine x_0 (by first | assumption | rfl) ?_ | refine x_1 (by first | assumption | rfl) ?_ | refine Or.inl ⟨rfl, ?_⟩ | (split <;> (first | (rename_i u h; clear u) | rename_i h) <;> (try rewrite [h]) <;> (first | replace h := dt h | replace h := df h | replace h := Nt h | replace h := Nf h | skip) <;> (try dsimp only at h) <;> (first | contradiction | (exfalso; omega) | skip)) | (refine Or.inl ⟨_, by assumption, ?_⟩; first | rintro _ rfl | skip))
        refine ⟨[1, 3, 6], [0], fun m st => ∃ (j : Nat), j ≤ i ∧ m = i - j ∧ ((l.take i).take j).all (newName ⟨op, a, b, name, shape, k, n, data⟩) = true ∧
          st = ⟨[(1, .bptr 0 0), (3, .int .i64 (i : Nat)), (6, .int .i64 (j : Nat))], [.box 24 [.ro 8 (rowN l), .int .i64 (q : Nat)]]⟩, rfl,
          ⟨i, 0, by omega, rfl, rfl, rfl⟩, ?_⟩
        rintro m2 _ ⟨j, hj, hm2, ha2, rfl⟩
        rcases Nat.lt_or_ge j i with hji | hge
        · obtain ⟨y, hy⟩ : ∃ y, y = l[j] := ⟨_, rfl⟩
          have g2 : (rowN l)[j]? = some y.cells := by rw [hy]; exact rowN_get (by omega)
          have hb := hnk j hji
          have hg := htk j hji ha2
          rw [← hy] at hb hg
          clear hy hnk htk
          obtain ⟨op2, a2, b2, name2, shape2, k2, n2, data2⟩ := y
          simp only [newName] at hb hg
          by_cases hn : name = ⟨#[]⟩
          · have hg := hg (by simp [hn])
            repeat' ((conv => whnf); first | ((with_reducible apply Xq); assumption) | (with_reducible first | apply Xa | (first | apply xi | apply xp | apply xP); omega | apply Xe | refine Xg (by assumption) ?_) | refine Xo (by assumption) ?_ | refine x_0 (by first | assumption | rfl) ?_ | refine x_1 (by first | assumption | rfl) ?_ | refine Or.inl ⟨rfl, ?_⟩ | (split <;> (first | (rename_i u h; clear u) | rename_i h) <;> (try rewrite [h]) <;> (first | replace h := dt h | replace h := df h | replace h := Nt h | replace h := Nf h | skip) <;> (try dsimp only at h) <;> (first | contradiction | (exfalso; omega) | skip)) | (refine Or.inl ⟨_, by assumption, ?_⟩; first | rintro _ rfl | skip))
            refine ⟨by decide +kernel, [0, 1, 0, 7, 15, 31, 63, 127, 255, 511, 255, 2047, 4095, 8191, 255, 16639, 255, 114943, 246015, 508159, 1048575, 2097151], by decide +kernel, ?_⟩
            repeat' ((conv => whnf); first | ((with_reducible apply Xq); assumption) | (with_reducible first | apply Xa | (first | apply xi | apply xp | apply xP); omega | apply Xe | refine Xg (by assumption) ?_) | refine Xo (by assumption) ?_ | refine x_0 (by first | assumption | rfl) ?_ | refine x_1 (by first | assumption | rfl) ?_ | refine Or.inl ⟨rfl, ?_⟩ | (split <;> (first | (rename_i u h; clear u) | rename_i h) <;> (try rewrite [h]) <;> (first | replace h := dt h | replace h := df h | replace h := Nt h | replace h := Nf h | skip) <;> (try dsimp only at h) <;> (first | contradiction | (exfalso; omega) | skip)) | (refine Or.inl ⟨_, by assumption, ?_⟩; first | rintro _ rfl | skip))
            exact ⟨[0], i - (j + 1), rfl, by omega, j + 1, by omega, rfl, hg, rfl⟩
          · by_cases hnn : name2 = name
            · have hT := hb (by simp [hn, hnn])
              rw [hT]
              repeat' ((conv => whnf); first | ((with_reducible apply Xq); assumption) | (with_reducible first | apply Xa | (first | apply xi | apply xp | apply xP); omega | apply Xe | refine Xg (by assumption) ?_) | refine Xo (by assumption) ?_ | refine x_0 (by first | assumption | rfl) ?_ | refine x_1 (by first | assumption | rfl) ?_ | refine Or.inl ⟨rfl, ?_⟩ | (split <;> (first | (rename_i u h; clear u) | rename_i h) <;> (try rewrite [h]) <;> (first | replace h := dt h | replace h := df h | replace h := Nt h | replace h := Nf h | skip) <;> (try dsimp only at h) <;> (first | contradiction | (exfalso; omega) | skip)) | (refine Or.inl ⟨_, by assumption, ?_⟩; first | rintro _ rfl | skip))
              refine ⟨by decide +kernel, [0, 1, 0, 7, 15, 31, 63, 127, 255, 511, 255, 2047, 4095, 8191, 255, 16639, 255, 114943, 246015, 508159, 1048575, 2097151], by decide +kernel, ?_⟩
              repeat' ((conv => whnf); first | ((with_reducible apply Xq); assumption) | (with_reducible first | apply Xa | (first | apply xi | apply xp | apply xP); omega | apply Xe | refine Xg (by assumption) ?_) | refine Xo (by assumption) ?_ | refine x_0 (by first | assumption | rfl) ?_ | refine x_1 (by first | assumption | rfl) ?_ | refine Or.inl ⟨rfl, ?_⟩ | (split <;> (first | (rename_i u h; clear u) | rename_i h) <;> (try rewrite [h]) <;> (first | replace h := dt h | replace h := df h | replace h := Nt h | replace h := Nf h | skip) <;> (try dsimp only at h) <;> (first | contradiction | (exfalso; omega) | skip)) | (refine Or.inl ⟨_, by assumption, ?_⟩; first | rintro _ rfl | skip))
              all_goals (conv => whnf)
              all_goals rfl
            · have hg := hg (by simp [hnn])
              repeat' ((conv => whnf); first | ((with_reducible apply Xq); assumption) | (with_reducible first | apply Xa | (first | apply xi | apply xp | apply xP); omega | apply Xe | refine Xg (by assumption) ?_) | refine Xo (by assumption) ?_ | refine x_0 (by first | assumption | rfl) ?_ | refine x_1 (by first | assumption | rfl) ?_ | refine Or.inl ⟨rfl, ?_⟩ | (split <;> (first | (rename_i u h; clear u) | rename_i h) <;> (try rewrite [h]) <;> (first | replace h := dt h | replace h := df h | replace h := Nt h | replace h := Nf h | skip) <;> (try dsimp only at h) <;> (first | contradiction | (exfalso; omega) | skip)) | (refine Or.inl ⟨_, by assumption, ?_⟩; first | rintro _ rfl | skip))
              refine ⟨by decide +kernel, [0, 1, 0, 7, 15, 31, 63, 127, 255, 511, 255, 2047, 4095, 8191, 255, 16639, 255, 114943, 246015, 508159, 1048575, 2097151], by decide +kernel, ?_⟩
              repeat' ((conv => whnf); first | ((with_reducible apply Xq); assumption) | (with_reducible first | apply Xa | (first | apply xi | apply xp | apply xP); omega | apply Xe | refine Xg (by assumption) ?_) | refine Xo (by assumption) ?_ | refine x_0 (by first | assumption | rfl) ?_ | refine x_1 (by first | assumption | rfl) ?_ | refine Or.inl ⟨rfl, ?_⟩ | (split <;> (first | (rename_i u h; clear u) | rename_i h) <;> (try rewrite [h]) <;> (first | replace h := dt h | replace h := df h | replace h := Nt h | replace h := Nf h | skip) <;> (try dsimp only at h) <;> (first | contradiction | (exfalso; omega) | skip)) | (refine Or.inl ⟨_, by assumption, ?_⟩; first | rintro _ rfl | skip))
              exact ⟨[0], i - (j + 1), rfl, by omega, j + 1, by omega, rfl, hg, rfl⟩
        · rw [List.take_of_length_le (l := l.take i) (by rw [List.length_take]; omega)] at ha2
          rw [ha2] at hso
          repeat' ((conv => whnf); first | ((with_reducible apply Xq); assumption) | (with_reducible first | apply Xa | (first | apply xi | apply xp | apply xP); omega | apply Xe | refine Xg (by assumption) ?_) | refine Xo (by assumption) ?_ | refine x_0 (by first | assumption | rfl) ?_ | refine x_1 (by first | assumption | rfl) ?_ | refine Or.inl ⟨rfl, ?_⟩ | (split <;> (first | (rename_i u h; clear u) | rename_i h) <;> (try rewrite [h]) <;> (first | replace h := dt h | replace h := df h | replace h := Nt h | replace h := Nf h | skip) <;> (try dsimp only at h) <;> (first | contradiction | (exfalso; omega) | skip)) | (refine Or.inl ⟨_, by assumption, ?_⟩; first | rintro _ rfl | skip))
          exact ⟨[0], l.length - (i + 1), rfl, by omega, i + 1, by omega, rfl, hso, rfl⟩
      · rw [decide_eq_false hss] at hsm
        rw [hbad (by simp [hss])]
        obtain ⟨op, a, b, name, shape, k, n, data⟩ := x
        repeat' ((conv => whnf); first | ((with_reducible apply Xq); assumption) | (with_reducible first | apply Xa | (first | apply xi | apply xp | apply xP); omega | apply Xe | refine Xg (by assumption) ?_) | refine Xo (by assumption) ?_ | refine x_0 (by first | assumption | rfl) ?_ | refine x_1 (by first | assumption | rfl) ?_ | refine Or.inl ⟨rfl, ?_⟩ | (split <;> (first | (rename_i u h; clear u) | rename_i h) <;> (try rewrite [h]) <;> (first | replace h := dt h | replace h := df h | replace h := Nt h | replace h := Nf h | skip) <;> (try dsimp only at h) <;> (first | contradiction | (exfalso; omega) | skip)) | (refine Or.inl ⟨_, by assumption, ?_⟩; first | rintro _ rfl | skip))
        refine ⟨by decide +kernel, [0, 1, 0, 7, 0, 16, 0, 112, 240, 511, 1023, 2047, 2047, 4095, 16383], by decide +kernel, ?_⟩
        repeat' ((conv => whnf); first | ((with_reducible apply Xq); assumption) | (with_reducible first | apply Xa | (first | apply xi | apply xp | apply xP); omega | apply Xe | refine Xg (by assumption) ?_) | refine Xo (by assumption) ?_ | refine x_0 (by first | assumption | rfl) ?_ | refine x_1 (by first | assumption | rfl) ?_ | refine Or.inl ⟨rfl, ?_⟩ | (split <;> (first | (rename_i u h; clear u) | rename_i h) <;> (try rewrite [h]) <;> (first | replace h := dt h | replace h := df h | replace h := Nt h | replace h := Nf h | skip) <;> (try dsimp only at h) <;> (first | contradiction | (exfalso; omega) | skip)) | (refine Or.inl ⟨_, by assumption, ?_⟩; first | rintro _ rfl | skip))
        refine ⟨Int.le_refl _, by omega, by omega, rowN (l.take i), sl_take l i, ?_⟩
        repeat' ((conv => whnf); first | ((with_reducible apply Xq); assumption) | (with_reducible first | apply Xa | (first | apply xi | apply xp | apply xP); omega | apply Xe | refine Xg (by assumption) ?_) | refine Xo (by assumption) ?_ | refine x_0 (by first | assumption | rfl) ?_ | refine x_1 (by first | assumption | rfl) ?_ | refine Or.inl ⟨rfl, ?_⟩ | (split <;> (first | (rename_i u h; clear u) | rename_i h) <;> (try rewrite [h]) <;> (first | replace h := dt h | replace h := df h | replace h := Nt h | replace h := Nf h | skip) <;> (try dsimp only at h) <;> (first | contradiction | (exfalso; omega) | skip)) | (refine Or.inl ⟨_, by assumption, ?_⟩; first | rintro _ rfl | skip))
        all_goals (conv => whnf)
        all_goals rfl
  · have hi2 : i = l.length := by omega
    subst hi2
    rw [ha]
    repeat' ((conv => whnf); first | ((with_reducible apply Xq); assumption) | (with_reducible first | apply Xa | (first | apply xi | apply xp | apply xP); omega | apply Xe | refine Xg (by assumption) ?_) | refine Xo (by assumption) ?_ | refine x_0 (by first | assumption | rfl) ?_ | refine x_1 (by first | assumption | rfl) ?_ | refine Or.inl ⟨rfl, ?_⟩ | (split <;> (first | (rename_i u h; clear u) | rename_i h) <;> (try rewrite [h]) <;> (first | replace h := dt h | replace h := df h | replace h := Nt h | replace h := Nf h | skip) <;> (try dsimp only at h) <;> (first | contradiction | (exfalso; omega) | skip)) | (refine Or.inl ⟨_, by assumption, ?_⟩; first | rintro _ rfl | skip))
    all_goals (conv => whnf)
    all_goals rfl
end Go.V
namespace Go.V
open Go.N
set_option maxRecDepth 20000
def usesN (x : Nd) (k : Nat) : Bool := (decide (0 < partsZ x.op) && decide (x.a = (k : Int))) || (decide (1 < partsZ x.op) && decide (x.b = (k : Int)))
inductive NeedP (g : Gr) (keep : List Int) : Nat → Prop
  | loss {i : Nat} : (i : Int) = g.loss → NeedP g keep i
  | keep {i : Nat} : (i : Int) ∈ keep → NeedP g keep i
  | name {i : Nat} {x : Nd} : g.nodes[i]? = some x → x.name ≠ ⟨#[]⟩ → NeedP g keep i
  | use {i j : Nat} {x : Nd} : i < j → g.nodes[j]? = some x → usesN x i = true → NeedP g keep j → NeedP g keep i
def PreP (g : Gr) (keep : List Int) (m j : Nat) : Prop := (j : Int) = g.loss ∨ (j : Int) ∈ keep ∨ ∃ k x, m ≤ k ∧ g.nodes[k]? = some x ∧ usesN x j = true ∧ NeedP g keep k
theorem need_iff {g : Gr} {keep : List Int} {i : Nat} {x : Nd} (hx : g.nodes[i]? = some x) : NeedP g keep i ↔ PreP g keep (i + 1) i ∨ x.name ≠ ⟨#[]⟩ := by
  constructor
  · intro h
    cases h with
    | loss h => exact .inl (.inl h)
    | keep h => exact .inl (.inr (.inl h))
    | name h1 h2 => rw [hx] at h1; cases h1; exact .inr h2
    | use h1 h2 h3 h4 => exact .inl (.inr (.inr ⟨_, _, h1, h2, h3, h4⟩))
  · rintro ((h | h | ⟨k, y, h1, h2, h3, h4⟩) | h)
    · exact .loss h
    · exact .keep h
    · exact .use h1 h2 h3 h4
    · exact .name hx h
theorem pre_step {g : Gr} {keep : List Int} {i j : Nat} {x : Nd} (hx : g.nodes[i]? = some x) : PreP g keep i j ↔ PreP g keep (i + 1) j ∨ (NeedP g keep i ∧ usesN x j = true) := by
  constructor
  · rintro (h | h | ⟨k, y, h1, h2, h3, h4⟩)
    · exact .inl (.inl h)
    · exact .inl (.inr (.inl h))
    · rcases Nat.eq_or_lt_of_le h1 with h | h
      · subst h; rw [hx] at h2; cases h2; exact .inr ⟨h4, h3⟩
      · exact .inl (.inr (.inr ⟨k, y, h, h2, h3, h4⟩))
  · rintro ((h | h | ⟨k, y, h1, h2, h3, h4⟩) | ⟨h1, h2⟩)
    · exact .inl h
    · exact .inr (.inl h)
    · exact .inr (.inr ⟨k, y, by omega, h2, h3, h4⟩)
    · exact .inr (.inr ⟨i, x, Nat.le_refl _, hx, h2, h1⟩)
theorem pre_top {g : Gr} {keep : List Int} {m j : Nat} (h : g.nodes.length ≤ m) : PreP g keep m j ↔ (j : Int) = g.loss ∨ (j : Int) ∈ keep := by
  constructor
  · rintro (h1 | h1 | ⟨k, y, h1, h2, h3, h4⟩)
    · exact .inl h1
    · exact .inr h1
    · have := (List.getElem?_eq_some_iff.1 h2).1; omega
  · rintro (h1 | h1)
    · exact .inl h1
    · exact .inr (.inl h1)
open Classical in
noncomputable def NB (g : Gr) (keep : List Int) (j : Nat) : Bool := decide (NeedP g keep j)
theorem NB_iff {g : Gr} {keep : List Int} {j : Nat} : NB g keep j = true ↔ NeedP g keep j := by simp [NB]
def fB (n : Nat) (F : Nat → Bool) : List (List AV) := (List.range n).map fun j => [.bool (F j)]
@[simp] theorem fB_length (n : Nat) (F : Nat → Bool) : (fB n F).length = n := by simp [fB]
theorem fB_get {n k : Nat} {F : Nat → Bool} (h : k < n) : (fB n F)[k]? = some [.bool (F k)] := by simp [fB, h]
def updB (F : Nat → Bool) (k : Nat) (v : Bool) : Nat → Bool := fun j => if j = k then v else F j
theorem fB_set (n k : Nat) (F : Nat → Bool) (v : Bool) : (fB n F).set k [.bool v] = fB n (updB F k v) := by
  refine List.ext_getElem? fun j => ?_
  rw [List.getElem?_set]
  by_cases hj : j < n
  · by_cases hk : k = j
    · subst hk; simp [fB, hj, updB]
    · simp [hk, fB, hj, updB, show ¬ j = k from fun e => hk e.symm]
  · have : (fB n (updB F k v))[j]? = none := by simp [fB, hj]
    rw [this]
    by_cases hk : k = j
    · simp [hk, hj]
    · simp [hk, fB, hj]
theorem fB_zero (n : Nat) : List.replicate n [.bool false] = fB n fun _ => false := by simp [fB, List.map_const']
theorem fB_congr {n : Nat} {F G : Nat → Bool} (h : ∀ j, j < n → F j = G j) : fB n F = fB n G := List.map_congr_left fun j hj => by rw [h j (List.mem_range.1 hj)]
theorem updB_same (F : Nat → Bool) (k : Nat) (v : Bool) : updB F k v k = v := if_pos rfl
theorem updB_ne (F : Nat → Bool) {k j : Nat} (v : Bool) (h : j ≠ k) : updB F k v j = F j := if_neg h
def keepOK (g : Gr) (keep : List Int) : Bool := !(keep.any fun x => decide (x < 0) || decide ((g.nodes.length : Int) ≤ x))
def okDead (g : Gr) (keep : List Int) : Bool := grOK g && keepOK g keep
theorem keepOK_get {g : Gr} {keep : List Int} (h : keepOK g keep = true) {x : Int} (hx : x ∈ keep) : ∃ k : Nat, x = k ∧ k < g.nodes.length := by
  simp only [keepOK, Bool.not_eq_true', List.any_eq_false] at h
  have := h x hx
  simp only [Bool.or_eq_true, decide_eq_true_eq] at this
  exact ⟨x.toNat, by omega, by omega⟩
theorem allTo_get {l : List Nd} {n i : Nat} (h : allTo l n = true) (hi : i < n) : ndAt l i = true := List.all_eq_true.1 h i (List.mem_range.2 hi)
theorem ok_node {g : Gr} (h : grOK g = true) {i : Nat} {x : Nd} (hx : g.nodes[i]? = some x) : ndOK (g.nodes.take i) x = true := by
  simp only [grOK, Bool.and_eq_true] at h
  have h1 := (List.getElem?_eq_some_iff.1 hx).1
  have := allTo_get h.2 h1
  rw [ndAt, hx] at this
  exact this
theorem ok_infer {g : Gr} (h : grOK g = true) {i : Nat} {x : Nd} (hx : g.nodes[i]? = some x) : inferN (g.nodes.take i) x = some x.shape := by
  have := ok_node h hx
  simp only [ndOK, Bool.and_eq_true, decide_eq_true_eq] at this
  exact this.1
theorem ok_fit {g : Gr} (h : grOK g = true) {i : Nat} {x : Nd} (hx : g.nodes[i]? = some x) : ∃ m, opParts x.op = some m ∧ Fit (g.nodes.take i) x m := by
  have h1 := ok_infer h hx
  cases hp : opParts x.op with
  | none => rw [inferN_none hp] at h1; cases h1
  | some m =>
    cases hf : fitN (g.nodes.take i) x m with
    | false => rw [inferN_bad hp hf] at h1; cases h1
    | true => exact ⟨m, rfl, (fit_iff _ _ _).1 hf⟩
theorem inR_take {l : List Nd} {i : Nat} {a : Int} (h : inR a (l.take i) = true) : ∃ k : Nat, a = k ∧ k < i := by
  obtain ⟨k, hk, hl⟩ := inR_nat h
  exact ⟨k, hk, by rw [List.length_take] at hl; omega⟩
theorem ok_parts {g : Gr} (h : grOK g = true) {i : Nat} {x : Nd} (hx : g.nodes[i]? = some x) : ∀ p ∈ dParts x, ∃ k : Nat, p = k ∧ k < i := by
  obtain ⟨m, hp, F⟩ := ok_fit h hx
  have hm := opParts_le hp
  intro p hpm
  rw [dParts, hp] at hpm
  have h3 : m = 0 ∨ m = 1 ∨ m = 2 := by omega
  rcases h3 with rfl | rfl | rfl
  · simp at hpm
  · simp at hpm; subst hpm; exact inR_take (F.ia (by decide))
  · simp at hpm
    rcases hpm with rfl | rfl
    · exact inR_take (F.ia (by decide))
    · exact inR_take (F.ib (by decide))
theorem ok_uses {g : Gr} (h : grOK g = true) {i : Nat} {x : Nd} (hx : g.nodes[i]? = some x) (j : Nat) : usesN x j = true ↔ (j : Int) ∈ dParts x := by
  obtain ⟨m, hp, F⟩ := ok_fit h hx
  have hm := opParts_le hp
  have h3 : m = 0 ∨ m = 1 ∨ m = 2 := by omega
  rw [usesN, dParts, partsZ, hp]
  rcases h3 with rfl | rfl | rfl
  · show (false && decide (x.a = (j : Int)) || false && decide (x.b = (j : Int))) = true ↔ (j : Int) ∈ []
    simp only [Bool.false_and, Bool.or_false, List.not_mem_nil, Bool.false_eq_true]
  · show (true && decide (x.a = (j : Int)) || false && decide (x.b = (j : Int))) = true ↔ (j : Int) ∈ [x.a]
    simp only [Bool.true_and, Bool.false_and, Bool.or_false, decide_eq_true_eq, List.mem_singleton]
    exact eq_comm
  · show (true && decide (x.a = (j : Int)) || true && decide (x.b = (j : Int))) = true ↔ (j : Int) ∈ [x.a, x.b]
    simp only [Bool.true_and, Bool.or_eq_true, decide_eq_true_eq, List.mem_cons, List.not_mem_nil, or_false]
    exact ⟨fun e => e.imp Eq.symm Eq.symm, fun e => e.imp Eq.symm Eq.symm⟩
theorem ok_pre {g : Gr} (h : grOK g = true) : 1 ≤ g.nodes.length ∧ g.nodes.length ≤ 200 ∧ ∃ q : Nat, g.loss = q ∧ q < g.nodes.length := by
  simp only [grOK, preG, Bool.and_eq_true, decide_eq_true_eq] at h
  exact ⟨h.1.1.1.1, h.1.1.1.2, inR_nat h.1.1.2⟩
end Go.V
namespace Go.V
open Go.N
set_option maxRecDepth 20000
theorem dParts_len (x : Nd) : (dParts x).length ≤ 2 := by unfold dParts; split <;> simp
end Go.V
namespace Go.V
open Go.N
set_option maxRecDepth 20000
def atZ (pl : List Int) (a : Int) : Int := pl.getD a.toNat 0
theorem atZ_nat {pl : List Int} {k : Nat} (h : k < pl.length) : atZ pl k = pl[k] := by simp [atZ, h]
def reN (pl : List Int) (x : Nd) : Nd := match opParts x.op with | some 1 => { x with a := atZ pl x.a } | some 2 => { x with a := atZ pl x.a, b := atZ pl x.b } | _ => x
theorem dP0 {x : Nd} (h : opParts x.op = some 0) : dParts x = [] := by rw [dParts, h]; rfl
theorem dP1 {x : Nd} (h : opParts x.op = some 1) : dParts x = [x.a] := by rw [dParts, h]; rfl
theorem dP2 {x : Nd} (h : opParts x.op = some 2) : dParts x = [x.a, x.b] := by rw [dParts, h]; rfl
theorem re0 {x : Nd} {pl : List Int} (h : opParts x.op = some 0) : reN pl x = x := by rw [reN, h]; rfl
theorem re1 {x : Nd} {pl : List Int} (h : opParts x.op = some 1) : reN pl x = { x with a := atZ pl x.a } := by rw [reN, h]; rfl
theorem re2 {x : Nd} {pl : List Int} (h : opParts x.op = some 2) : reN pl x = { x with a := atZ pl x.a, b := atZ pl x.b } := by rw [reN, h]; rfl
def pruneTo (l : List Nd) (N : Nat → Bool) : Nat → List Int × List Nd
  | 0 => ([], [])
  | i + 1 => match l[i]? with
    | none => pruneTo l N i
    | some x => if N i = true then ((pruneTo l N i).1 ++ [((pruneTo l N i).2.length : Int)], (pruneTo l N i).2 ++ [reN (pruneTo l N i).1 x]) else ((pruneTo l N i).1 ++ [-1], (pruneTo l N i).2)
theorem prune_yes {l : List Nd} {N : Nat → Bool} {i : Nat} {pl : List Int} {out : List Nd} {x : Nd} (h : pruneTo l N i = (pl, out)) (hx : l[i]? = some x) (hN : N i = true) : pruneTo l N (i + 1) = (pl ++ [(out.length : Int)], out ++ [reN pl x]) := by
  simp only [pruneTo, hx, h, hN, if_true]
theorem prune_no {l : List Nd} {N : Nat → Bool} {i : Nat} {pl : List Int} {out : List Nd} {x : Nd} (h : pruneTo l N i = (pl, out)) (hx : l[i]? = some x) (hN : N i = false) : pruneTo l N (i + 1) = (pl ++ [-1], out) := by
  simp [pruneTo, hx, h, hN]
theorem prune_len {l : List Nd} {N : Nat → Bool} : ∀ {i : Nat}, i ≤ l.length → (pruneTo l N i).1.length = i ∧ (pruneTo l N i).2.length ≤ i
  | 0, _ => ⟨rfl, Nat.le_refl _⟩
  | i + 1, h => by
    have ih := prune_len (l := l) (N := N) (i := i) (by omega)
    have hx : l[i]? = some l[i] := List.getElem?_eq_getElem (by omega)
    cases hN : N i with
    | true => rw [prune_yes (Prod.eta _).symm hx hN]; simp; omega
    | false => rw [prune_no (Prod.eta _).symm hx hN]; simp; omega
def pruneG (g : Gr) (N : Nat → Bool) : Gr × List Int := (⟨(pruneTo g.nodes N g.nodes.length).2, atZ (pruneTo g.nodes N g.nodes.length).1 g.loss⟩, (pruneTo g.nodes N g.nodes.length).1)
theorem rowZ_snoc (pl : List Int) (v : Int) : rowZ (pl ++ [v]) = (rowZ pl).take (rowZ pl).length ++ [[.int .i64 v]] := by rw [List.take_length]; simp [rowZ]
theorem rowN_snoc (l : List Nd) (x : Nd) {c : List AV} (h : c = x.cells) : rowN (l ++ [x]) = (rowN l).take (rowN l).length ++ [c] := by rw [List.take_length, h]; simp [rowN]
end Go.V
namespace Go.V
open Go.N
set_option maxRecDepth 20000
variable (gl : Gl)
end Go.V
namespace Go.V
open Go.N
set_option maxRecDepth 20000
variable (gl : Gl)
end Go.V
namespace Go.V
open Go.N
set_option maxRecDepth 20000
mutual
def AsRo : AV → AV → Prop
  | .nils, y => y = .nils ∨ ∃ sz, y = .ro sz []
  | .ro sz es, y => ∃ es', y = .ro sz es' ∧ AsRoLL es es'
  | .agg cs, y => ∃ cs', y = .agg cs' ∧ AsRoL cs cs'
  | x, y => y = x
def AsRoL : List AV → List AV → Prop
  | [], ys => ys = []
  | x :: xs, ys => ∃ y r, ys = y :: r ∧ AsRo x y ∧ AsRoL xs r
def AsRoLL : List (List AV) → List (List AV) → Prop
  | [], ys => ys = []
  | x :: xs, ys => ∃ y r, ys = y :: r ∧ AsRoL x y ∧ AsRoLL xs r
end
theorem asRoLL_len : ∀ (es es' : List (List AV)), AsRoLL es es' → es'.length = es.length
  | [], _, h => by simp only [AsRoLL] at h; rw [h]
  | _ :: xs, _, h => by
    simp only [AsRoLL] at h
    obtain ⟨y, r, rfl, _, h⟩ := h
    simp [asRoLL_len xs r h]
mutual
theorem asRo_rep {S : Nat → Prop} {H : Hp} {w : World} : ∀ (x y : AV) (v : Value), AsRo x y → RepV S H w x v → RepV S H w y v
  | .nils, y, v, hy, h => by
    simp only [AsRo] at hy
    rcases hy with rfl | ⟨sz, rfl⟩
    · exact h
    · simp only [RepV] at h ⊢
      subst h
      exact ⟨none, 0, by simp⟩
  | .ro sz es, y, v, hy, h => by
    simp only [AsRo] at hy
    obtain ⟨es', rfl, hl⟩ := hy
    have hn := asRoLL_len _ _ hl
    simp only [RepV] at h ⊢
    obtain ⟨A, c, e, hc, hm, h⟩ := h
    refine ⟨A, c, by rw [hn]; exact e, by rw [hn]; exact hc, hm, ?_⟩
    rcases h with h | ⟨a, ea, hs, hb, vss, hvl, hz, hcell⟩
    · left; exact List.length_eq_zero_iff.1 (by rw [hn, h]; rfl)
    · exact .inr ⟨a, ea, hs, hb, vss, asRoLL_rep es es' vss hl hvl, hz, hcell⟩
  | .agg cs, y, v, hy, h => by
    simp only [AsRo] at hy
    obtain ⟨cs', rfl, hl⟩ := hy
    simp only [RepV] at h ⊢
    obtain ⟨vs, e, h1, h2⟩ := h
    exact ⟨vs, e, h1, asRoL_rep cs cs' vs hl h2⟩
  | .j, y, v, hy, h | .u, y, v, hy, h | .int _ _, y, v, hy, h | .bool _, y, v, hy, h | .str _, y, v, hy, h | .nili, y, v, hy, h | .tup _, y, v, hy, h | .fr _ _ _, y, v, hy, h
  | .own _ _ _, y, v, hy, h | .ptr _ _ _, y, v, hy, h | .bptr _ _, y, v, hy, h | .map _, y, v, hy, h | .rp _, y, v, hy, h | .fn _ _, y, v, hy, h | .iface _ _, y, v, hy, h => by
    simp only [AsRo] at hy
    subst hy; exact h
theorem asRoL_rep {S : Nat → Prop} {H : Hp} {w : World} : ∀ (xs ys : List AV) (vs : List Value), AsRoL xs ys → RepL S H w xs vs → RepL S H w ys vs
  | [], ys, vs, hy, h => by simp only [AsRoL] at hy; subst hy; exact h
  | x :: xs, ys, vs, hy, h => by
    simp only [AsRoL] at hy
    obtain ⟨y, r, rfl, h1, h2⟩ := hy
    simp only [RepL] at h ⊢
    obtain ⟨v, r', rfl, h3, h4⟩ := h
    exact ⟨v, r', rfl, asRo_rep x y v h1 h3, asRoL_rep xs r r' h2 h4⟩
theorem asRoLL_rep {S : Nat → Prop} {w : World} : ∀ (xs ys : List (List AV)) (vs : List (List Value)), AsRoLL xs ys → RepLL S w xs vs → RepLL S w ys vs
  | [], ys, vs, hy, h => by simp only [AsRoLL] at hy; subst hy; exact h
  | x :: xs, ys, vs, hy, h => by
    simp only [AsRoLL] at hy
    obtain ⟨y, r, rfl, h1, h2⟩ := hy
    simp only [RepLL] at h ⊢
    obtain ⟨v, r', rfl, h3, h4⟩ := h
    exact ⟨v, r', rfl, asRoL_rep x y v h1 h3, asRoLL_rep xs r r' h2 h4⟩
end
theorem VCall.args {P : Program} {gl : Gl} {f : FuncId} {xs ys : List AV} {R : AV → Prop} (h : VCall P gl f ys R) (ha : AsRoL xs ys) : VCall P gl f xs R :=
  fun S w vs h1 h2 h3 => h S w vs h1 h2 (asRoL_rep _ _ _ ha h3)
def ndA (op name : ByteArray) : List AV := [.str op, .int .i64 0, .int .i64 0, .str name, .nils, .str ⟨#[]⟩, .int .i64 0, .nils]
theorem ndA_as (op name : ByteArray) : AsRoL (ndA op name) (Nd.cells ⟨op, 0, 0, name, [], ⟨#[]⟩, 0, []⟩) :=
  ⟨_, _, rfl, rfl, _, _, rfl, rfl, _, _, rfl, rfl, _, _, rfl, rfl, _, _, rfl, .inr ⟨1, rfl⟩, _, _, rfl, rfl, _, _, rfl, rfl, _, _, rfl, .inr ⟨1, rfl⟩, rfl⟩
def nd0 (op name : ByteArray) : Nd := ⟨op, 0, 0, name, [], ⟨#[]⟩, 0, []⟩
def G0 : Gr := ⟨[nd0 sParam ⟨#[119]⟩, nd0 sRelu ⟨#[]⟩, nd0 sAdd ⟨#[]⟩], 2⟩
theorem G0_ok : okDead G0 [] = true := by decide +kernel
theorem G0_0 : NB G0 [] 0 = true := NB_iff.2 (.name (x := nd0 sParam ⟨#[119]⟩) rfl (by decide))
theorem G0_2 : NB G0 [] 2 = true := NB_iff.2 (.loss rfl)
theorem G0_1 : NB G0 [] 1 = false := by
  rw [Bool.eq_false_iff]
  intro h
  rcases (need_iff (x := nd0 sRelu ⟨#[]⟩) rfl).1 (NB_iff.1 h) with (h | h | ⟨k, y, h1, h2, h3, _⟩) | h
  · exact absurd h (by decide)
  · simp at h
  · have hk : k < 3 := (List.getElem?_eq_some_iff.1 h2).1
    obtain rfl : k = 2 := by omega
    have : y = nd0 sAdd ⟨#[]⟩ := by
      have e : G0.nodes[2]? = some (nd0 sAdd ⟨#[]⟩) := rfl
      rw [e] at h2; cases h2; rfl
    subst this
    exact absurd h3 (by decide)
  · exact h rfl
theorem G0_prune : pruneG G0 (NB G0 []) = (⟨[nd0 sParam ⟨#[119]⟩, nd0 sAdd ⟨#[]⟩], 1⟩, [0, -1, 1]) := by
  have h1 := prune_yes (l := G0.nodes) (N := NB G0 []) (i := 0) (x := nd0 sParam ⟨#[119]⟩) rfl rfl G0_0
  have h2 := prune_no h1 (x := nd0 sRelu ⟨#[]⟩) rfl G0_1
  have h3 := prune_yes h2 (x := nd0 sAdd ⟨#[]⟩) rfl G0_2
  have e : G0.nodes.length = 3 := rfl
  rw [pruneG, e, h3]
  rfl
theorem reN_sm {pl : List Int} {x : Nd} (h : x.Sm) : (reN pl x).Sm := by
  unfold reN
  split
  · exact ⟨h.name, h.k, h.shape, h.data, h.each⟩
  · exact ⟨h.name, h.k, h.shape, h.data, h.each⟩
  · exact h
theorem prune_sm {l : List Nd} {N : Nat → Bool} (hs : ∀ x ∈ l, x.Sm) : ∀ i, ∀ x ∈ (pruneTo l N i).2, x.Sm
  | 0, x, hx => by simp [pruneTo] at hx
  | i + 1, x, hx => by
    have ih := prune_sm (N := N) hs i
    unfold pruneTo at hx
    split at hx
    · exact ih x hx
    · rename_i y hy
      split at hx
      · simp only [List.mem_append, List.mem_singleton] at hx
        rcases hx with hx | rfl
        · exact ih x hx
        · exact reN_sm (hs y (List.mem_of_getElem? hy))
      · exact ih x hx
end Go.V
namespace Go.V
open Go.RowKit
section
variable {H : Type} (enc : TypeId × Value → H) (P : Program) (w : World)
abbrev SW (w : World) : Nat → Prop := fun b => b < w.heap.size
def OpnT (t : TypeId) (n : Nat) (K : List AV → Prop) : Prop := ∀ (fuel : Nat) (cs : List Value) (x : DataW H × List MemPlace), DataW.trod enc P w 0 (fun _ => true) true fuel t cs = some x →
  ∃ xs, K xs ∧ cs.length = n ∧ One cs ∧ RepL (SW w) H0 w xs cs
variable {enc P w}
theorem opn_int {t : TypeId} {k : IntKind} (ht : P.underlying t = some (.int k)) : OpnT enc P w t 1 (fun xs => ∃ n, xs = [.int k n]) := fun fuel cs x h => by
  obtain ⟨n, rfl, _, _⟩ := DataW.trod_int ht h
  exact ⟨_, ⟨n, rfl⟩, rfl, by simp [One, Value.oneCell'], by simp [RepL, RepV]⟩
theorem opn_string {t : TypeId} (ht : P.underlying t = some .string) : OpnT enc P w t 1 (fun xs => ∃ s, xs = [.str s]) := fun fuel cs x h => by
  obtain ⟨s, rfl, _, _⟩ := DataW.trod_string ht h
  exact ⟨_, ⟨s, rfl⟩, rfl, by simp [One, Value.oneCell'], by simp [RepL, RepV]⟩
theorem exists_list {α : Type} {Q : Nat → α → Prop} : ∀ n : Nat, (∀ i, i < n → ∃ a, Q i a) → ∃ l : List α, l.length = n ∧ ∀ i (h : i < l.length), Q i l[i]
  | 0, _ => ⟨[], rfl, fun i h => by simp at h⟩
  | n + 1, hq => by
    obtain ⟨l, hl, h⟩ := exists_list n fun i hi => hq i (by omega)
    obtain ⟨a, ha⟩ := hq n (by omega)
    refine ⟨l ++ [a], by simp [hl], fun i hi => ?_⟩
    by_cases hin : i < l.length
    · rw [List.getElem_append_left hin]; exact h i hin
    · have : i = n := by simp at hi; omega
      subst this
      rw [List.getElem_append_right (by omega)]
      simpa using ha
theorem repLL_of {S : Nat → Prop} : ∀ {es : List (List AV)} {vss : List (List Value)}, es.length = vss.length → (∀ i (h1 : i < es.length) (h2 : i < vss.length), RepL S H0 w es[i] vss[i]) → RepLL S w es vss
  | [], [], _, _ => by simp [RepLL]
  | [], _ :: _, h, _ => by simp at h
  | _ :: _, [], h, _ => by simp at h
  | e :: es, v :: vss, h, hr => by
    simp only [RepLL]
    exact ⟨v, vss, rfl, hr 0 (by simp) (by simp), repLL_of (by simpa using h) fun i h1 h2 => hr (i + 1) (by simpa using h1) (by simpa using h2)⟩
theorem opn_slice {t e : TypeId} {n : Nat} {K : List AV → Prop} (ht : P.underlying t = some (.slice e)) (hc : P.cellsOf e = n) (hn : 0 < n) (he : OpnT enc P w e n K) :
    OpnT enc P w t 1 (fun xs => ∃ es, xs = [.ro n es] ∧ ∀ c ∈ es, K c) := fun fuel cs x h => by
  rcases DataW.trod_slice ht h with ⟨rfl, _⟩ | ⟨a, len, cap, elems, rest, m, _, rfl, _, _, hl, hm, hlen, hel, _⟩
  · refine ⟨_, ⟨[], rfl, by simp⟩, rfl, by simp [One, Value.oneCell'], ?_⟩
    simp [RepL, RepV]
    exact ⟨none, 0, ⟨rfl, rfl⟩, Nat.zero_le _⟩
  · rw [hc] at hel
    obtain ⟨l, hll, hq⟩ := exists_list (Q := fun i (p : List AV × List Value) => K p.1 ∧ w.cells? 0 (a.add (i * n)) n = some p.2 ∧ p.2.length = n ∧ One p.2 ∧ RepL (SW w) H0 w p.1 p.2) len fun i hi => by
      have hi2 := hel i hi
      rw [List.getElem?_eq_getElem (by omega)] at hi2
      obtain ⟨vs, h1, h2⟩ := Option.bind_eq_some_iff.1 hi2
      obtain ⟨xs, k1, k2, k3, k4⟩ := he _ _ _ h2
      exact ⟨(xs, vs), k1, h1, k2, k3, k4⟩
    refine ⟨_, ⟨l.map (·.1), rfl, fun c hc => ?_⟩, rfl, by simp [One, Value.oneCell'], ?_⟩
    · obtain ⟨p, hp, rfl⟩ := List.mem_map.1 hc
      obtain ⟨i, hi, rfl⟩ := List.getElem_of_mem hp
      exact (hq i hi).1
    · simp only [RepL, RepV]
      refine ⟨_, _, rfl, ⟨_, _, by rw [List.length_map, hll], by rw [List.length_map, hll]; exact hl, hm, ?_⟩, rfl⟩
      rcases Nat.eq_zero_or_pos len with h0 | h0
      · left; exact List.length_eq_zero_iff.1 (by rw [List.length_map, hll, h0])
      · have hb : a.block < w.heap.size := by
          have := World.cells?_block (hq 0 (by omega)).2.1 hn
          simpa [Addr.add] using this
        refine .inr ⟨a, rfl, hb, hb, l.map (·.2), repLL_of (by simp) fun i h1 h2 => ?_, fun vs hv => ?_, fun i vs hv k u hk => ?_⟩
        · simp only [List.getElem_map]
          exact (hq i (by simpa using h1)).2.2.2.2
        · obtain ⟨p, hp, rfl⟩ := List.mem_map.1 hv
          obtain ⟨i, hi, rfl⟩ := List.getElem_of_mem hp
          exact ⟨(hq i hi).2.2.1, (hq i hi).2.2.2.1⟩
        · rw [List.getElem?_map] at hv
          obtain ⟨p, hp, rfl⟩ := Option.map_eq_some_iff.1 hv
          obtain ⟨hi, rfl⟩ := List.getElem?_eq_some_iff.1 hp
          have h1 := (hq i hi).2.1
          have hk2 := (List.getElem?_eq_some_iff.1 hk).1
          have hlen2 := (hq i hi).2.2.1
          have := (World.cells?_some h1).2.2 k (by omega)
          rw [Addr.add_add] at this
          rw [this, hk]
def FldK : List Field → Nat → List (AV → Prop) → Prop
  | [], _, Ks => Ks = []
  | f :: fs, i, Ks => ∃ K Kr, Ks = K :: Kr ∧ f.offset = i ∧ P.cellsOf f.type = 1 ∧ OpnT enc P w f.type 1 (fun xs => ∃ a, xs = [a] ∧ K a) ∧ FldK fs (i + 1) Kr
theorem OpnT.mono {t : TypeId} {n : Nat} {K K' : List AV → Prop} (h : OpnT enc P w t n K) (hk : ∀ xs, K xs → K' xs) : OpnT enc P w t n K' := fun fuel cs x hx => by
  obtain ⟨xs, k, r⟩ := h fuel cs x hx
  exact ⟨xs, hk xs k, r⟩
def AllK : List (AV → Prop) → List AV → Prop
  | [], xs => xs = []
  | K :: Ks, xs => ∃ x r, xs = x :: r ∧ K x ∧ AllK Ks r
theorem opn_fields : ∀ (fs : List Field) (i : Nat) (Ks : List (AV → Prop)) (cs : List Value), FldK (enc := enc) (P := P) (w := w) fs i Ks → cs.length = i + fs.length →
    (∀ f ∈ fs, ∃ m y, DataW.trod enc P w 0 (fun _ => true) true m f.type ((cs.drop f.offset).take (P.cellsOf f.type)) = some y) → ∃ xs, AllK Ks xs ∧ One (cs.drop i) ∧ RepL (SW w) H0 w xs (cs.drop i)
  | [], i, Ks, cs, hf, hl, _ => by
    simp only [FldK] at hf
    subst hf
    have : cs.drop i = [] := List.drop_of_length_le (by simp at hl; omega)
    rw [this]
    exact ⟨[], rfl, by simp [One], by simp [RepL]⟩
  | f :: fs, i, Ks, cs, hf, hl, ht => by
    simp only [FldK] at hf
    obtain ⟨K, Kr, rfl, h1, h2, h3, h4⟩ := hf
    have hi : i < cs.length := by simp at hl; omega
    obtain ⟨xs, a1, a2, a3⟩ := opn_fields fs (i + 1) Kr cs h4 (by simp at hl; omega) (fun g hg => ht g (List.mem_cons_of_mem _ hg))
    obtain ⟨m, y, hy⟩ := ht f List.mem_cons_self
    have e : cs.drop i = cs[i] :: cs.drop (i + 1) := List.drop_eq_getElem_cons hi
    rw [h1, h2, e] at hy
    obtain ⟨zs, ⟨a, rfl, ha⟩, _, k2, k3⟩ := h3 _ _ _ hy
    simp only [List.take_succ_cons, List.take_zero] at k2 k3
    simp only [RepL] at k3
    obtain ⟨v, r, e2, hv, rfl⟩ := k3
    cases e2
    rw [e]
    refine ⟨a :: xs, ⟨a, xs, rfl, ha, a1⟩, fun u hu => ?_, ?_⟩
    · rcases List.mem_cons.1 hu with rfl | hu
      · exact k2 _ List.mem_cons_self
      · exact a2 u hu
    · simp only [RepL]; exact ⟨_, _, rfl, hv, a3⟩
theorem opn_struct {t : TypeId} {fs : Array Field} {Ks : List (AV → Prop)} (ht : P.underlying t = some (.struct fs)) (hn : P.cellsOf t = fs.size) (hf : FldK (enc := enc) (P := P) (w := w) fs.toList 0 Ks) :
    OpnT enc P w t fs.size (AllK Ks) := fun fuel cs x h => by
  obtain ⟨xs, m, _, _, hl, hlen, hx⟩ := DataW.trod_struct ht h
  obtain ⟨ys, a1, a2, a3⟩ := opn_fields fs.toList 0 Ks cs hf (by rw [hl, hn]; simp) fun f hm => by
    obtain ⟨i, hi, rfl⟩ := List.getElem_of_mem hm
    have := hx i _ (by rw [Array.getElem?_eq_getElem (by simpa using hi)])
    rw [List.getElem?_eq_getElem (by rw [hlen]; simpa using hi)] at this
    exact ⟨m, _, this⟩
  exact ⟨ys, a1, by rw [hl, hn], by simpa using a2, by simpa using a3⟩
theorem rows_of {α : Type} {f : α → List AV} : ∀ {es : List (List AV)}, (∀ c ∈ es, ∃ a, c = f a) → ∃ l : List α, es = l.map f
  | [], _ => ⟨[], rfl⟩
  | e :: es, h => by
    obtain ⟨a, ha⟩ := h e List.mem_cons_self
    obtain ⟨l, hl⟩ := rows_of (es := es) fun c hc => h c (List.mem_cons_of_mem _ hc)
    exact ⟨a :: l, by rw [ha, hl]; rfl⟩
theorem VCall.calls {gl : Gl} {f : FuncId} {fn : Func} {c : Code} {args : List AV} {r : AV} {vs : List Value} {v : Value} (h : VCall P gl f args (fun x => x = r)) (hf : P.funcs[f]? = some fn) (hb : fn.body = some c) (hname : (fn.name == "runtime.NumGoroutine") = false)
    (hgl : GlOK (SW w) w gl) (hargs : RepL (SW w) H0 w args vs) (hr : ∀ S b w' v', ResOK S b w' r v' → v' = v) :
    Calls P f vs.toArray w fun e w' => e = .returned v ∧ Below w.heap.size w w' := by
  have hne : fn.name ≠ "runtime.NumGoroutine" := by simpa using hname
  have hen : (callFunc f vs.toArray).run P w = .ok (.enter f vs.toArray) w := by simp [callFunc, hf, hne, hb]
  rcases h (SW w) w vs (fun b hb => hb) hgl hargs with ⟨_, h2⟩ | ⟨v2, w2, h1, _⟩ | ⟨row, xs, w2, h1, _⟩
  · refine h2.mono fun e w' he => ?_
    obtain ⟨u, rfl, x, rfl, h3, h4⟩ := he
    rw [hr _ _ _ _ h3]
    exact ⟨rfl, h4⟩
  · rw [hen] at h1; cases h1
  · rw [hen] at h1; cases h1
end
end Go.V
namespace Go.Proofs.YtfmmaiebblhhdaaGreatDoor
open Go Go.ChangeShapes Go.WideShapes Go.ChangeAt Go.RowKit Go.V
set_option maxRecDepth 100000
def isS (a : AV) : Prop := ∃ s, a = .str s
def isI (a : AV) : Prop := ∃ n, a = .int .i64 n
def isZs (a : AV) : Prop := ∃ es, a = .ro 1 es ∧ ∀ c ∈ es, ∃ n, c = [.int .i64 n]
def isSs (a : AV) : Prop := ∃ es, a = .ro 1 es ∧ ∀ c ∈ es, ∃ s, c = [.str s]
def isNd (c : List AV) : Prop := ∃ x : Nd, c = x.cells
def isNs (a : AV) : Prop := ∃ es, a = .ro 8 es ∧ ∀ c ∈ es, isNd c
theorem node_of {c : List AV} (h : AllK [isS, isI, isI, isS, isZs, isS, isI, isSs] c) : isNd c := by
  obtain ⟨_, _, rfl, ⟨op, rfl⟩, _, _, rfl, ⟨a, rfl⟩, _, _, rfl, ⟨b, rfl⟩, _, _, rfl, ⟨name, rfl⟩, _, _, rfl, ⟨es, rfl, h1⟩, _, _, rfl, ⟨k, rfl⟩, _, _, rfl, ⟨n, rfl⟩, _, _, rfl, ⟨es2, rfl, h2⟩, rfl⟩ := h
  obtain ⟨shape, rfl⟩ := rows_of (f := fun n => [AV.int .i64 n]) h1
  obtain ⟨data, rfl⟩ := rows_of (f := fun s => [AV.str s]) h2
  exact ⟨⟨op, a, b, name, shape, k, n, data⟩, rfl⟩
theorem graph_of {c : List AV} (h : AllK [isNs, isI] c) : ∃ g : Gr, c = g.cells := by
  obtain ⟨_, _, rfl, ⟨es, rfl, h1⟩, _, _, rfl, ⟨n, rfl⟩, rfl⟩ := h
  obtain ⟨l, rfl⟩ := rows_of h1
  exact ⟨⟨l, n⟩, rfl⟩
section
variable {H : Type} {enc : TypeId × Value → H} {W : World}
theorem o_int : OpnT enc Go.Proofs.Tryz.prog W 3 1 (fun xs => ∃ a, xs = [a] ∧ isI a) := (opn_int Tryz.underlying3).mono fun xs ⟨n, h⟩ => ⟨_, h, n, rfl⟩
theorem o_str : OpnT enc Go.Proofs.Tryz.prog W 9 1 (fun xs => ∃ a, xs = [a] ∧ isS a) := (opn_string Tryz.underlying9).mono fun xs ⟨s, h⟩ => ⟨_, h, s, rfl⟩
theorem o_ints : OpnT enc Go.Proofs.Tryz.prog W 27 1 (fun xs => ∃ a, xs = [a] ∧ isZs a) := (opn_slice Tryz.underlying27 (by kernel_rfl) (by decide) (opn_int Tryz.underlying3)).mono fun xs ⟨es, h, k⟩ => ⟨_, h, es, rfl, k⟩
theorem o_strs : OpnT enc Go.Proofs.Tryz.prog W 35 1 (fun xs => ∃ a, xs = [a] ∧ isSs a) := (opn_slice Tryz.underlying35 (by kernel_rfl) (by decide) (opn_string Tryz.underlying9)).mono fun xs ⟨es, h, k⟩ => ⟨_, h, es, rfl, k⟩
theorem o_node : OpnT enc Go.Proofs.Tryz.prog W 37 8 isNd :=
  (opn_struct Tryz.underlying37 (by kernel_rfl) ⟨isS, _, rfl, rfl, by kernel_rfl, o_str, isI, _, rfl, rfl, by kernel_rfl, o_int, isI, _, rfl, rfl, by kernel_rfl, o_int, isS, _, rfl, rfl, by kernel_rfl, o_str, isZs, _, rfl, rfl, by kernel_rfl, o_ints,
    isS, _, rfl, rfl, by kernel_rfl, o_str, isI, _, rfl, rfl, by kernel_rfl, o_int, isSs, _, rfl, rfl, by kernel_rfl, o_strs, rfl⟩).mono fun xs h => node_of h
theorem o_nodes : OpnT enc Go.Proofs.Tryz.prog W 22 1 (fun xs => ∃ a, xs = [a] ∧ isNs a) := (opn_slice Tryz.underlying22 (by kernel_rfl) (by decide) o_node).mono fun xs ⟨es, h, k⟩ => ⟨_, h, es, rfl, k⟩
theorem o_graph : OpnT enc Go.Proofs.Tryz.prog W 24 2 (fun xs => ∃ g : Gr, xs = g.cells) :=
  (opn_struct Tryz.underlying24 (by kernel_rfl) ⟨isNs, _, rfl, rfl, by kernel_rfl, o_nodes, isI, _, rfl, rfl, by kernel_rfl, o_int, rfl⟩).mono fun xs h => graph_of h
theorem args_of {base : Nat} {v0 v1 : Value} {d0 d1 : DataW H} {p0 p1 : List MemPlace} (h0 : DataW.Trod enc Go.Proofs.Tryz.prog W 0 (fun _ => true) true 24 v0 d0 p0) (h1 : DataW.Trod enc Go.Proofs.Tryz.prog W 0 (fun _ => true) true 27 v1 d1 p1)
    (k0 : Value.okWide Go.Proofs.Tryz.prog W .any base 24 v0) (k1 : Value.okWide Go.Proofs.Tryz.prog W .any base 27 v1) :
    ∃ (g : Gr) (keep : List Int), RepL (SW W) H0 W [.agg g.cells, .ro 1 (rowZ keep)] [v0, v1] := by
  obtain ⟨cs, rfl, _⟩ := okWide_struct Tryz.underlying24 k0
  obtain ⟨a, len, cap, rfl⟩ := okWide_slice Tryz.underlying27 k1
  obtain ⟨f0, h0⟩ := h0
  obtain ⟨f1, h1⟩ := h1
  obtain ⟨xs, ⟨g, rfl⟩, _, e2, e3⟩ := o_graph f0 _ _ h0
  obtain ⟨ys, ⟨a', rfl, es, rfl, hk⟩, _, _, e4⟩ := o_ints f1 _ _ h1
  obtain ⟨keep, rfl⟩ := rows_of (f := fun n => [AV.int .i64 n]) hk
  refine ⟨g, keep, ?_⟩
  have c0 : (Value.agg cs).cells.toList = cs.toList := rfl
  rw [c0] at e2 e3
  have c1 : (Value.slice a len cap).cells.toList = [.slice a len cap] := rfl
  rw [c1] at e4
  simp only [RepL] at e4 ⊢
  obtain ⟨u, r, e5, e6, e7⟩ := e4
  injection e5 with e8 e9
  subst e8
  refine ⟨_, _, rfl, ?_, _, _, rfl, e6, rfl⟩
  simp only [RepV]
  exact ⟨cs.toList, by simp, e2, e3⟩
end
theorem own : ownKnob Go.Proofs.Tryz.prog.godebug = none := by kernel_rfl
theorem laidOut : laidOutB Go.Proofs.Tryz.prog = true := by kernel_rfl
theorem rowErr (u : TypeId) (h : Go.Proofs.Tryz.prog.typeName? 3 u = some "*errors.errorString") : u = 168 :=
  typeName_ptr_named (nm := "errors.errorString") (by kernel_rfl) (by kernel_rfl) (by decide) u h
theorem laid_in {P : Program} {W : World} : ∀ (k : Nat) {L r : List (String × DataW Unit)} {x : String × DataW Unit}, L.drop k = x :: r → laidMet P L W → laidMet P (x :: r) W
  | 0, L, r, x, h, hl => by rw [List.drop_zero] at h; rw [← h]; exact hl
  | k + 1, [], r, x, h, hl => by simp at h
  | k + 1, y :: L, r, x, h, hl => laid_in k (by simpa using h) (laidMet.tail hl)
theorem var_block {P : Program} {W : World} {nm : String} {g : Nat} {cs : Array Value} (hn : P.globalNamed nm = some g) (hv : W.var? P nm = some cs) : ∃ e f, W.heap[g]? = some (.cells cs e f) := by
  unfold World.var? at hv
  rw [hn] at hv
  simp only [Option.bind_some] at hv
  split at hv
  · rename_i cs e f hh
    cases hv
    exact ⟨e, f, hh⟩
  · cases hv
theorem gl_sent {W : World} {nm : String} {s : List UInt8} {r : List (String × DataW Unit)} {g : Nat} (h : laidMet Go.Proofs.Tryz.prog ((nm, .iface "*errors.errorString" (.ptr (.agg [.lit (.string s)]))) :: r) W) (hn : Go.Proofs.Tryz.prog.globalNamed nm = some g) (ht : (Go.Proofs.Tryz.prog.globals[g]?).map (·.type) = some 66) :
    RepV (SW W) H0 W (.rp [.iface 168 .j]) (.pointer (some ⟨g, 0, none⟩)) ∧ ∃ c e f, W.heap[g]? = some (.cells c e f) ∧ c.size = 1 := by
  obtain ⟨a, s, hv, _, _, _⟩ := laid_sentinel h hn ht
    Tryz.underlying66 rowErr Tryz.underlying168 Tryz.underlying183 rfl rfl Tryz.underlying9 (by kernel_rfl) (by kernel_rfl)
  have hc : W.cell? ⟨g, 0, none⟩ = some (.iface 168 (.pointer (some a))) := by simpa using World.var?_cell hn hv 0
  have hb := World.block_lt_of_cell? W _ hc
  obtain ⟨e, f, hh⟩ := var_block hn hv
  refine ⟨?_, _, e, f, hh, rfl⟩
  simp only [RepV]
  refine ⟨_, rfl, hb, hb, [.iface 168 (.pointer (some a))], ?_, by simp [Go.V.One, Value.oneCell'], fun k u hk => ?_⟩
  · simp [RepL, RepV]
  · rcases k with _ | k
    · simp at hk; subst hk; simpa [Addr.add] using hc
    · simp at hk
theorem gl_tab {W : World} {nm : String} {d : DataW Unit} {r : List (String × DataW Unit)} {g : Nat} {zs : List Int} (hd : d = .agg (zs.map fun z => .lit (.int .u64 z))) (h : laidMet Go.Proofs.Tryz.prog ((nm, d) :: r) W) (hn : Go.Proofs.Tryz.prog.globalNamed nm = some g) (ht : (Go.Proofs.Tryz.prog.globals[g]?).map (·.type) = some 110) :
    RepV (SW W) H0 W (.rp (zs.map fun z => .int .u64 z)) (.pointer (some ⟨g, 0, none⟩)) ∧ ∃ c e f, W.heap[g]? = some (.cells c e f) ∧ c.size = (zs.map fun z => AV.int .u64 z).length := by
  subst hd
  obtain ⟨ps, ⟨g', t, cs, fuel, p, q, hg, ht', hv, hd, _, _⟩, _, _⟩ := h
  obtain rfl := Option.some.inj (hn.symm.trans hg)
  obtain rfl := Option.some.inj (ht.symm.trans ht')
  obtain ⟨xs, m, _, ex, hcs, hl, hel⟩ := DataW.trod_array Tryz.underlying110 hd
  have e3 : (xs.map (·.1)) = zs.map fun n => .lit (.int .u64 n) := (DataW.agg.inj (Prod.mk.inj ex).1).symm
  have hzl : zs.length = 20 := by have := congrArg List.length e3; simpa [hl] using this.symm
  have c5 : Go.Proofs.Tryz.prog.cellsOf 85 = 1 := by kernel_rfl
  have c6 : Go.Proofs.Tryz.prog.cellsOf 110 = 20 := by kernel_rfl
  have hcell : ∀ k (hk : k < zs.length), cs.toList[k]? = some (.int .u64 zs[k]) := fun k hk => by
    have hE := hel k (by omega)
    rw [c5, Nat.mul_one, List.getElem?_eq_getElem (by omega)] at hE
    obtain ⟨z, e1, e2, _⟩ := DataW.trod_int Tryz.underlying85 hE
    have e4 : (xs.map (·.1))[k]? = (zs.map fun n => (DataW.lit (.int .u64 n) : DataW Unit))[k]? := by rw [e3]
    rw [List.getElem?_map, List.getElem?_map, List.getElem?_eq_getElem (by omega : k < xs.length), List.getElem?_eq_getElem hk, e2] at e4
    simp only [Option.map_some, Option.some.injEq, DataW.lit.injEq, Lit.int.injEq, true_and] at e4
    have h0 : ((cs.toList.drop k).take 1)[0]? = some (.int .u64 z) := by rw [e1]; rfl
    rw [← e4]
    simpa using h0
  have hsz : cs.size = 20 := by simpa [c6] using hcs
  obtain ⟨e, f, hh⟩ := var_block hn hv
  have hb : g < W.heap.size := by
    rcases Nat.lt_or_ge g W.heap.size with h | h
    · exact h
    · rw [Array.getElem?_eq_none h] at hh; cases hh
  refine ⟨?_, _, e, f, hh, by simp [hsz, hzl]⟩
  simp only [RepV]
  refine ⟨_, rfl, hb, hb, zs.map fun z => .int .u64 z, ?_, ?_, fun k u hk => ?_⟩
  · clear hcell e3 hd ex hzl
    induction zs with
    | nil => simp [RepL]
    | cons z zs ih => simp only [List.map_cons, RepL, RepV]; exact ⟨_, _, rfl, rfl, ih⟩
  · intro v hv
    obtain ⟨z, _, rfl⟩ := List.mem_map.1 hv
    simp [Value.oneCell']
  · rw [List.getElem?_map] at hk
    rcases Nat.lt_or_ge k zs.length with h | h
    · rw [List.getElem?_eq_getElem h] at hk
      simp only [Option.map_some, Option.some.injEq] at hk
      subst hk
      have := World.var?_cell hn hv k
      have ha : Addr.add ⟨g, 0, none⟩ k = ⟨g, k, none⟩ := by rcases k with _ | k <;> simp [Addr.add]
      rw [ha, this, ← hcell k h, Array.getElem?_toList]
    · rw [List.getElem?_eq_none h] at hk; cases hk
theorem gl_of {W : World} {L : List (String × DataW Unit)} (hL : laidMet Go.Proofs.Tryz.prog L W) (e0 : ∃ k r, L.drop k = ("tapewright/rat.errForm", Rows.laid_tapewright_rat_errForm) :: r) (e1 : ∃ k r, L.drop k = ("tapewright/rat.errZero", Rows.laid_tapewright_rat_errZero) :: r) (e2 : ∃ k r, L.drop k = ("internal/strconv.uint64pow10", Rows.laid_internal_strconv_uint64pow10) :: r) : GlOK (SW W) W GL := by
  intro g cs hm
  simp only [GL, List.mem_cons, List.not_mem_nil, or_false, Prod.mk.injEq] at hm
  obtain ⟨rfl, rfl⟩ | ⟨rfl, rfl⟩ | ⟨rfl, rfl⟩ := hm
  · obtain ⟨k, r, e⟩ := e0
    exact gl_sent (laid_in k e hL) (by kernel_rfl) (by kernel_rfl)
  · obtain ⟨k, r, e⟩ := e1
    exact gl_sent (laid_in k e hL) (by kernel_rfl) (by kernel_rfl)
  · obtain ⟨k, r, e⟩ := e2
    exact gl_tab (zs := pow10Z) rfl (laid_in k e hL) (by kernel_rfl) (by kernel_rfl)
end Go.Proofs.YtfmmaiebblhhdaaGreatDoor
namespace Go.V
open Go.N
set_option maxRecDepth 20000
theorem decDigits_dec (n : Nat) : Lib.decDigits n = dec n := by
  induction n using Nat.strongRecOn with
  | _ n ih =>
    rw [Lib.decDigits, dec]
    by_cases h : n < 10
    · rw [dif_pos h, if_pos h]; rfl
    · rw [dif_neg h, if_neg h, ih (n / 10) (by omega)]; rfl
def itoaL (n : Int) : List UInt8 := if n < 0 then 45 :: dec n.natAbs else dec n.toNat
theorem itoa_itoaL (n : Int) : Lib.itoa n = itoaL n := by unfold Lib.itoa itoaL; rw [decDigits_dec, decDigits_dec]
theorem dec_mem {n : Nat} {c : UInt8} (h : c ∈ dec n) : 48 ≤ c.toNat ∧ c.toNat ≤ 57 := by
  have := List.all_eq_true.1 (dec_dig n) c h
  simpa [isDig] using this
theorem dec_head_ne45 (n : Nat) : (dec n)[0]? ≠ some 45 := fun h => by
  have := dec_mem (List.mem_of_getElem? h)
  simp at this
theorem itoaL_inj {a b : Int} (h : itoaL a = itoaL b) : a = b := by
  unfold itoaL at h
  split at h <;> split at h
  · have := dec_inj (List.cons.inj h).2; omega
  · exact absurd (by rw [← h]; rfl) (dec_head_ne45 b.toNat)
  · exact absurd (by rw [h]; rfl) (dec_head_ne45 a.toNat)
  · have := dec_inj h; omega
def NoSp (l : List UInt8) : Prop := (32 : UInt8) ∉ l
theorem itoaL_nosp (n : Int) : NoSp (itoaL n) := fun h => by
  unfold itoaL at h
  split at h
  · rcases List.mem_cons.1 h with h | h
    · exact absurd h (by decide)
    · have := dec_mem h; simp at this
  · have := dec_mem h; simp at this
def wShape : List UInt8 := [115, 104, 97, 112, 101]
def wData : List UInt8 := [100, 97, 116, 97]
theorem itoaL_ne_data (n : Int) : itoaL n ≠ wData := fun h => by
  have h1 : (100 : UInt8) ∈ itoaL n := by rw [h]; decide
  unfold itoaL at h1
  split at h1
  · rcases List.mem_cons.1 h1 with h | h
    · exact absurd h (by decide)
    · have := dec_mem h; simp at this
  · have := dec_mem h1; simp at this
theorem cut_sp : ∀ {a b u v : List UInt8}, NoSp a → NoSp b → a ++ 32 :: u = b ++ 32 :: v → a = b ∧ u = v
  | [], [], u, v, _, _, h => ⟨rfl, (List.cons.inj h).2⟩
  | [], y :: b, u, v, _, hb, h => by
    have := (List.cons.inj h).1
    exact absurd List.mem_cons_self (this ▸ hb)
  | x :: a, [], u, v, ha, _, h => by
    have := (List.cons.inj h).1
    exact absurd List.mem_cons_self (this ▸ ha)
  | x :: a, y :: b, u, v, ha, hb, h => by
    have h1 := List.cons.inj h
    obtain ⟨h2, h3⟩ := cut_sp (fun e => ha (List.mem_cons_of_mem _ e)) (fun e => hb (List.mem_cons_of_mem _ e)) h1.2
    exact ⟨by rw [h1.1, h2], h3⟩
theorem cut_no : ∀ {a b v : List UInt8}, NoSp a → a ≠ b ++ 32 :: v := fun ha h => ha (by rw [h]; simp)
theorem join_two (x y : List UInt8) (r : List (List UInt8)) : Lib.join (x :: y :: r) [32] = x ++ 32 :: Lib.join (y :: r) [32] := by
  rw [Lib.join_cons, Lib.join_cons]; simp [Lib.joinTail]
theorem join_inj : ∀ {xs ys : List (List UInt8)}, xs ≠ [] → ys ≠ [] → (∀ x ∈ xs, NoSp x) → (∀ y ∈ ys, NoSp y) → Lib.join xs [32] = Lib.join ys [32] → xs = ys
  | [], _, h, _, _, _, _ => absurd rfl h
  | _, [], _, h, _, _, _ => absurd rfl h
  | [x], [y], _, _, _, _, h => by rw [Lib.join_one, Lib.join_one] at h; rw [h]
  | [x], y :: z :: r, _, _, hx, _, h => by
    rw [Lib.join_one, join_two] at h
    exact absurd h (cut_no (hx x List.mem_cons_self))
  | x :: z :: r, [y], _, _, _, hy, h => by
    rw [Lib.join_one, join_two] at h
    exact absurd h.symm (cut_no (hy y List.mem_cons_self))
  | x :: z :: r, y :: w :: s, _, _, hx, hy, h => by
    rw [join_two, join_two] at h
    obtain ⟨h1, h2⟩ := cut_sp (hx x List.mem_cons_self) (hy y List.mem_cons_self) h
    rw [h1, join_inj (by simp) (by simp) (fun a ha => hx a (List.mem_cons_of_mem _ ha)) (fun a ha => hy a (List.mem_cons_of_mem _ ha)) h2]
def keyT (x : Nd) : List (List UInt8) := [x.op.toList, itoaL x.a, itoaL x.b, x.name.toList, x.k.toList, itoaL x.n, wShape] ++ x.shape.map itoaL ++ (wData :: x.data.map fun s => s.toList)
def keyB (x : Nd) : ByteArray := ⟨(Lib.join (keyT x) [32]).toArray⟩
structure Nd.NoSp (x : Nd) : Prop where
  op : Go.V.NoSp x.op.toList
  name : Go.V.NoSp x.name.toList
  k : Go.V.NoSp x.k.toList
  data : ∀ s ∈ x.data, Go.V.NoSp s.toList
theorem keyT_nosp {x : Nd} (h : x.NoSp) : ∀ t ∈ keyT x, Go.V.NoSp t := fun t ht => by
  simp only [keyT, List.mem_append, List.mem_cons, List.mem_map, List.not_mem_nil, or_false] at ht
  rcases ht with ((rfl | rfl | rfl | rfl | rfl | rfl | rfl) | ⟨d, _, rfl⟩) | (rfl | ⟨s, hs, rfl⟩)
  · exact h.op
  · exact itoaL_nosp _
  · exact itoaL_nosp _
  · exact h.name
  · exact h.k
  · exact itoaL_nosp _
  · unfold Go.V.NoSp; decide
  · exact itoaL_nosp _
  · unfold Go.V.NoSp; decide
  · exact h.data s hs
theorem dims_data : ∀ {s1 s2 : List Int} {d1 d2 : List (List UInt8)}, s1.map itoaL ++ wData :: d1 = s2.map itoaL ++ wData :: d2 → s1 = s2 ∧ d1 = d2
  | [], [], _, _, h => ⟨rfl, (List.cons.inj h).2⟩
  | [], b :: s2, _, _, h => absurd (List.cons.inj h).1.symm (itoaL_ne_data b)
  | a :: s1, [], _, _, h => absurd (List.cons.inj h).1 (itoaL_ne_data a)
  | a :: s1, b :: s2, _, _, h => by
    have h1 := List.cons.inj h
    obtain ⟨h2, h3⟩ := dims_data h1.2
    exact ⟨by rw [itoaL_inj h1.1, h2], h3⟩
theorem map_toList_inj : ∀ {a b : List ByteArray}, (a.map fun s => s.toList) = (b.map fun s => s.toList) → a = b
  | [], [], _ => rfl
  | [], _ :: _, h => by simp at h
  | _ :: _, [], h => by simp at h
  | x :: a, y :: b, h => by
    have h1 := List.cons.inj h
    rw [toList_inj h1.1, map_toList_inj h1.2]
theorem key_inj {x y : Nd} (hx : x.NoSp) (hy : y.NoSp) (h : keyB x = keyB y) : x = y := by
  have h1 : Lib.join (keyT x) [32] = Lib.join (keyT y) [32] := by
    have := congrArg ByteArray.toList h
    simpa [keyB, toList_mk] using this
  have h2 := join_inj (by simp [keyT]) (by simp [keyT]) (keyT_nosp hx) (keyT_nosp hy) h1
  simp only [keyT, List.cons_append, List.nil_append, List.cons.injEq, true_and] at h2
  obtain ⟨e1, e2, e3, e4, e5, e6, e7⟩ := h2
  obtain ⟨e8, e9⟩ := dims_data e7
  obtain ⟨op, a, b, name, shape, k, n, data⟩ := x
  obtain ⟨op2, a2, b2, name2, shape2, k2, n2, data2⟩ := y
  dsimp only at *
  rw [toList_inj e1, itoaL_inj e2, itoaL_inj e3, toList_inj e4, toList_inj e5, itoaL_inj e6, e8, map_toList_inj e9]
open Classical in
noncomputable def firstIx (out : List Nd) (y : Nd) : Nat := match out.findIdx? (fun z => decide (z = y)) with | some k => k | none => out.length
open Classical in
noncomputable def mergeTo (l : List Nd) : Nat → List Int × List Nd
  | 0 => ([], [])
  | i + 1 => match l[i]? with
    | none => mergeTo l i
    | some x => ((mergeTo l i).1 ++ [((firstIx (mergeTo l i).2 (reN (mergeTo l i).1 x) : Nat) : Int)],
        if firstIx (mergeTo l i).2 (reN (mergeTo l i).1 x) = (mergeTo l i).2.length then (mergeTo l i).2 ++ [reN (mergeTo l i).1 x] else (mergeTo l i).2)
theorem firstIx_lt {out : List Nd} {y : Nd} {k : Nat} (hk : k < out.length) (h : out[k] = y) (hmin : ∀ j (hj : j < k), out[j]'(by omega) ≠ y) : firstIx out y = k := by
  have : out.findIdx? (fun z => @decide (z = y) (Classical.propDecidable _)) = some k := by
    rw [List.findIdx?_eq_some_iff_getElem]
    exact ⟨hk, by simp [h], fun j hj => by simpa using hmin j hj⟩
  unfold firstIx
  rw [this]
theorem firstIx_none {out : List Nd} {y : Nd} (h : ∀ j (hj : j < out.length), out[j] ≠ y) : firstIx out y = out.length := by
  have : out.findIdx? (fun z => @decide (z = y) (Classical.propDecidable _)) = none := by
    rw [List.findIdx?_eq_none_iff]
    intro z hz
    obtain ⟨j, hj, rfl⟩ := List.getElem_of_mem hz
    simpa using h j hj
  unfold firstIx
  rw [this]
theorem firstIx_cases (out : List Nd) (y : Nd) : (∃ h : firstIx out y < out.length, out[firstIx out y] = y ∧ ∀ j (hj : j < firstIx out y), out[j]'(by omega) ≠ y) ∨ (firstIx out y = out.length ∧ ∀ j (hj : j < out.length), out[j] ≠ y) := by
  by_cases h : ∀ j (hj : j < out.length), out[j] ≠ y
  · exact .inr ⟨firstIx_none h, h⟩
  · left
    have : ∃ j, ∃ hj : j < out.length, out[j] = y := by
      apply Classical.byContradiction
      intro hn
      exact h fun j hj e => hn ⟨j, hj, e⟩
    have key : ∀ n, (∃ j, j ≤ n ∧ ∃ hj : j < out.length, out[j] = y) → ∃ k, ∃ hk : k < out.length, out[k] = y ∧ ∀ j (hj : j < k), out[j]'(by omega) ≠ y := by
      intro n
      induction n with
      | zero =>
        rintro ⟨j, hj0, hj, e⟩
        exact ⟨j, hj, e, fun i hi => by omega⟩
      | succ n ih =>
        rintro ⟨j, hjn, hj, e⟩
        by_cases hs : ∃ i, i ≤ n ∧ ∃ hi : i < out.length, out[i] = y
        · exact ih hs
        · exact ⟨j, hj, e, fun i hi e2 => hs ⟨i, by omega, by omega, e2⟩⟩
    obtain ⟨j, hj, e⟩ := this
    obtain ⟨k, hk, e2, hmin⟩ := key j ⟨j, Nat.le_refl _, hj, e⟩
    have hf := firstIx_lt hk e2 hmin
    refine ⟨by omega, ?_, ?_⟩
    · simp only [hf]; exact e2
    · intro i hi; exact hmin i (by omega)
theorem merge_step {l : List Nd} {i : Nat} {pl : List Int} {out : List Nd} {x : Nd} (h : mergeTo l i = (pl, out)) (hx : l[i]? = some x) :
    mergeTo l (i + 1) = (pl ++ [((firstIx out (reN pl x) : Nat) : Int)], if firstIx out (reN pl x) = out.length then out ++ [reN pl x] else out) := by
  simp only [mergeTo, hx, h]
noncomputable def mergeG (g : Gr) : Gr × List Int := (⟨(mergeTo g.nodes g.nodes.length).2, atZ (mergeTo g.nodes g.nodes.length).1 g.loss⟩, (mergeTo g.nodes g.nodes.length).1)
end Go.V
namespace Go.V
open Go.N
set_option maxRecDepth 20000
theorem nosp_app {a b : List UInt8} (ha : NoSp a) (hb : NoSp b) : NoSp (a ++ b) := fun h => (List.mem_append.1 h).elim ha hb
theorem nosp_dec (n : Nat) : NoSp (dec n) := fun h => by have := dec_mem h; simp at this
theorem nosp_decB (n : Nat) : NoSp (decB n).toList := by rw [decB_toList]; exact nosp_dec n
theorem nosp_minus : NoSp minusB.toList := by rw [minus_list]; unfold NoSp; decide
theorem nosp_lowP (p : ByteArray) (n : Nat) : NoSp (lowP p n).toList := by
  unfold lowP
  split
  · rw [app_toList]; exact nosp_app nosp_minus (nosp_decB _)
  · exact nosp_decB _
theorem nosp_lowQ (p : ByteArray) (n : Nat) : NoSp (lowQ p n).toList := by unfold lowQ; exact nosp_decB _
theorem nosp_pairT (p q : ByteArray) (hp : NoSp p.toList) (hq : NoSp q.toList) : NoSp (pairT p q).toList := by
  unfold pairT
  split
  · exact hp
  · simp only [app_toList]
    refine nosp_app (nosp_app hp ?_) hq
    rw [ByteArray.toList_eq]; unfold NoSp; decide
theorem nosp_rat {s : ByteArray} (h : ratOK s = true) : NoSp s.toList := by
  simp only [ratOK, Bool.and_eq_true, decide_eq_true_eq] at h
  rw [← h.2]
  exact nosp_pairT _ _ (nosp_lowP _ _) (nosp_lowQ _ _)
theorem nosp_empty : NoSp (⟨#[]⟩ : ByteArray).toList := by rw [ByteArray.toList_eq]; unfold NoSp; decide
theorem nosp_name {s : ByteArray} (h : isName s = true) : NoSp s.toList := fun hm => by
  simp only [isName, Bool.and_eq_true, List.all_eq_true] at h
  have := h.1.2 _ hm
  exact absurd this (by decide)
theorem nosp_op (o : Opc) : NoSp o.str.toList := by
  rw [ByteArray.toList_eq]; unfold NoSp; cases o <;> decide
theorem okZ_of {r : List Int × Bool} {s : List Int} (h : okZ r = some s) : r.2 = true := by
  rw [okZ] at h
  by_cases hh : (r.2 && okShape r.1) = true
  · rw [Bool.and_eq_true] at hh; exact hh.1
  · rw [if_neg hh] at h; cases h
theorem ok_nosp {g : Gr} (hg : grOK g = true) {i : Nat} {x : Nd} (hx : g.nodes[i]? = some x) : x.NoSp := by
  obtain ⟨m, hop, F⟩ := ok_fit hg hx
  have hin := ok_infer hg hx
  rw [inferN_ok hop ((fit_iff _ _ _).2 F)] at hin
  have hz := okZ_of hin
  have hn : NoSp x.name.toList := by
    cases hnm : namedOp x.op
    · rw [F.nn hnm]; exact nosp_empty
    · exact nosp_name (F.nm hnm)
  rcases opc_cases x.op with ⟨o, ho⟩ | hnone
  · refine ⟨by rw [ho]; exact nosp_op o, hn, ?_, ?_⟩
    · by_cases hs : x.op = sScale
      · have e : (ofZ x (if m = 0 then [] else shAt (g.nodes.take i) x.a) (if m < 2 then [] else shAt (g.nodes.take i) x.b)).2 = ratOK x.k := by
          obtain ⟨op, a, b, name, shape, k, n, data⟩ := x
          dsimp only at hs; subst hs; rfl
        rw [e] at hz
        exact nosp_rat hz
      · rw [F.k hs]; exact nosp_empty
    · intro s hsd
      by_cases hs : x.op = sConst
      · have e : (ofZ x (if m = 0 then [] else shAt (g.nodes.take i) x.a) (if m < 2 then [] else shAt (g.nodes.take i) x.b)).2 = (decide ((x.data.length : Int) = sizeZ x.shape) && !(x.data.any fun d => !ratOK d)) := by
          obtain ⟨op, a, b, name, shape, k, n, data⟩ := x
          dsimp only at hs; subst hs; rfl
        rw [e] at hz
        simp only [Bool.and_eq_true, Bool.not_eq_true', List.any_eq_false] at hz
        have := hz.2 s hsd
        refine nosp_rat ?_
        simpa using this
      · have := F.d hs
        rw [List.length_eq_zero_iff.1 this] at hsd; cases hsd
  · rw [hnone] at hop; cases hop
theorem re_nosp {x : Nd} {pl : List Int} (h : x.NoSp) : (reN pl x).NoSp := by
  unfold reN
  split
  · exact ⟨h.op, h.name, h.k, h.data⟩
  · exact ⟨h.op, h.name, h.k, h.data⟩
  · exact h
end Go.V
namespace Go.V
open Go.N Go.RowKit
theorem vcall_str {P : Program} {gl : Gl} {f : FuncId} {fn : Func} {c : Code} {args : List AV} {s : ByteArray} (hf : P.funcs[f]? = some fn) (hb : fn.body = some c) (hname : (fn.name == "runtime.NumGoroutine") = false)
    (h : ∀ (S : Nat → Prop) (w : World) (vs : List Value), (∀ b, S b → b < w.heap.size) → GlOK S w gl → RepL S H0 w args vs → Calls P f vs.toArray w fun e w' => e = .returned (.string s) ∧ Below w.heap.size w w') :
    VCall P gl f args (fun x => x = .str s) := by
  intro S w vs h1 h2 h3
  have hne : fn.name ≠ "runtime.NumGoroutine" := by simpa using hname
  refine .inl ⟨by simp [callFunc, hf, hne, hb], (h S w vs h1 h2 h3).mono fun e w' he => ?_⟩
  obtain ⟨rfl, hB⟩ := he
  exact ⟨_, rfl, _, rfl, ⟨fun _ => False, [], by simp [RepF, RepV], by simp, by simp, fun b hb => hb.elim⟩, hB⟩
theorem v_Join {P : Program} {ρ : Go.Shelf.Ren} {gl : Gl} {fn : Func} {c : Code} (L : Go.Proofs.Lays.n156 P ρ) (X : Go.Proofs.Builder.Extra P ρ) (hf : P.funcs[ρ.f 156]? = some fn) (hb : fn.body = some c) (hname : (fn.name == "runtime.NumGoroutine") = false)
    (xs : List ByteArray) (sep : ByteArray) (hN : xs.length ≤ 140737488355328) (hlen : (Lib.join (xs.map (·.data.toList)) sep.data.toList).length ≤ 140737488355328) :
    VCall P gl (ρ.f 156) [.ro 1 (rowS xs), .str sep] (fun x => x = .str ⟨(Lib.join (xs.map (·.data.toList)) sep.data.toList).toArray⟩) := by
  refine vcall_str hf hb hname fun S w vs h1 h2 h3 => ?_
  simp only [RepL, RepV] at h3
  obtain ⟨v0, r, rfl, ⟨A, cap, rfl, hc1, hc2, hA⟩, v1, r1, rfl, rfl, rfl⟩ := h3
  rw [rowS_length] at hc1 ⊢
  rcases hA with hA | ⟨a, rfl, hs, hb2, vss, hl, hz, hcell⟩
  · have hx : xs = [] := by cases xs; rfl; simp [rowS] at hA
    subst hx
    refine (Go.Proofs.Any.strings_Join_none L X A cap sep w).mono fun e w' he => ?_
    exact ⟨he.1, he.2 ▸ Below.refl _ _⟩
  · cases xs with
    | nil =>
      refine (Go.Proofs.Any.strings_Join_none L X (some a) cap sep w).mono fun e w' he => ?_
      exact ⟨he.1, he.2 ▸ Below.refl _ _⟩
    | cons x xs =>
      have key : ∀ (ys : List ByteArray) (vss : List (List Value)), RepLL S w (rowS ys) vss → ∀ (j : Nat) z, ys[j]? = some z → vss[j]? = some [.string z] := by
        intro ys
        induction ys with
        | nil => intro vss _ j z h; simp at h
        | cons y ys ih =>
          intro vss hl j z hj
          simp only [rowS, List.map_cons, RepLL, RepL, RepV] at hl
          obtain ⟨v, r, rfl, ⟨u, r2, rfl, rfl, rfl⟩, hl⟩ := hl
          rcases j with _ | j
          · simp at hj; subst hj; rfl
          · exact ih r hl j z (by simpa using hj)
      have hcs : ∀ (j : Nat) z, (x :: xs)[j]? = some z → w.cell? (a.add j) = some (.string z) := fun j z hj => by
        have := hcell j _ (key _ _ hl j z hj) 0 _ rfl
        simpa using this
      obtain ⟨bk, o, spot⟩ := a
      have hsp : spot = none := by
        have h0 := hcs 0 x rfl
        have h0 : w.cell? ⟨bk, o, spot⟩ = some (.string x) := by simpa [Addr.add] using h0
        unfold World.cell? at h0
        split at h0
        · split at h0
          · cases h0
          · rename_i hns; cases spot with
            | none => rfl
            | some q => simp at hns
        · cases h0
      subst hsp
      exact Go.Proofs.Any.strings_Join L X bk o cap (x :: xs) sep w (fun j z hj => by
        have := hcs j z hj
        rcases j with _ | j
        · simpa [Addr.add] using this
        · simpa [Addr.add] using this) hb2 hN hc1 hlen
end Go.V
namespace Go.Proofs
open Go.Shelf
def Tryz.lays156_ren : Go.Shelf.Ren := ⟨fun | 156 => 23 | 165 => 36 | 166 => 37 | 169 => 38 | 240 => 49 | 241 => 50 | 276 => 63 | 277 => 64 | n => n, fun | 31 => 35 | 9 => 9 | 3 => 3 | 4 => 4 | 0 => 0 | 20 => 20 | 72 => 63 | 76 => 67 | 70 => 60 | 37 => 61 | 75 => 66 | 127 => 74 | 164 => 90 | 5 => 5 | 80 => 69 | n => n, fun | n => n⟩
theorem Tryz.lays156 : Go.Proofs.Lays.n156 Tryz.prog Tryz.lays156_ren := {
  mixed := by kernel_rfl
  f156 := Tryz.func23.trans (congrArg some (by kernel_rfl))
  f165 := Tryz.func36.trans (congrArg some (by kernel_rfl))
  f166 := Tryz.func37.trans (congrArg some (by kernel_rfl))
  f169 := Tryz.func38.trans (congrArg some (by kernel_rfl))
  f240 := Tryz.func49.trans (congrArg some (by kernel_rfl))
  f241 := Tryz.func50.trans (congrArg some (by kernel_rfl))
  f276 := Tryz.func63.trans (congrArg some (by kernel_rfl))
  f277 := Tryz.func64.trans (congrArg some (by kernel_rfl))
  t0 := Tryz.underlying0
  a0 := Tryz.isAgg0
  z0 := Tryz.sizeOf0
  v0 := Tryz.zeroValue0
  t3 := Tryz.underlying3
  a3 := Tryz.isAgg3
  z3 := Tryz.sizeOf3
  v3 := Tryz.zeroValue3
  t4 := Tryz.underlying4
  a4 := Tryz.isAgg4
  z4 := Tryz.sizeOf4
  v4 := Tryz.zeroValue4
  t9 := Tryz.underlying9
  a9 := Tryz.isAgg9
  z9 := Tryz.sizeOf9
  v9 := Tryz.zeroValue9
  t20 := Tryz.underlying20
  a20 := Tryz.isAgg20
  z20 := Tryz.sizeOf20
  v20 := Tryz.zeroValue20
  t31 := Tryz.underlying35
  a31 := Tryz.isAgg35
  z31 := Tryz.sizeOf35
  v31 := Tryz.zeroValue35
  t37 := Tryz.underlying61
  a37 := Tryz.isAgg61
  z37 := Tryz.sizeOf61
  v37 := Tryz.zeroValue61
  t70 := Tryz.underlying60
  a70 := Tryz.isAgg60
  z70 := Tryz.sizeOf60
  v70 := Tryz.zeroValue60
  t72 := Tryz.underlying63
  a72 := Tryz.isAgg63
  z72 := Tryz.sizeOf63
  v72 := Tryz.zeroValue63
  t75 := Tryz.underlying66
  a75 := Tryz.isAgg66
  z75 := Tryz.sizeOf66
  v75 := Tryz.zeroValue66
  t76 := Tryz.underlying67
  a76 := Tryz.isAgg67
  z76 := Tryz.sizeOf67
  v76 := Tryz.zeroValue67
  t127 := Tryz.underlying74
  a127 := Tryz.isAgg74
  z127 := Tryz.sizeOf74
  v127 := Tryz.zeroValue74
  t164 := Tryz.underlying90
  a164 := Tryz.isAgg90
  z164 := Tryz.sizeOf90
  v164 := Tryz.zeroValue90 }
theorem Tryz.Builder_Extra_156 : Builder.Extra Tryz.prog Tryz.lays156_ren := {
  sizeBuilder := by kernel_rfl
  liesBuilder := by kernel_rfl
  t5 := Tryz.underlying5
  a5 := Tryz.isAgg5
  z5 := Tryz.sizeOf5
  v5 := Tryz.zeroValue5
  infoByte := by kernel_rfl
  cellsByte := by kernel_rfl
  sizeByte := by kernel_rfl
  neB5 := by decide }
open Go.RowKit in
theorem Tryz.strings_Join_none (a : Option Addr) (c : Nat) (sep : ByteArray) (w : World) :
    Calls Tryz.prog 23 #[.slice a 0 c, .string sep] w fun e w' => e = .returned (.string ⟨#[]⟩) ∧ w' = w := Any.strings_Join_none Tryz.lays156 Tryz.Builder_Extra_156 a c sep w
open Go.RowKit in
theorem Tryz.strings_Join (bk o c : Nat) (xs : List ByteArray) (sep : ByteArray) (w : World) (hcells : ∀ (j : Nat) x, xs[j]? = some x → w.cell? ⟨bk, o + j, none⟩ = some (.string x)) (hbk : bk < w.heap.size) (hN : xs.length ≤ 140737488355328) (hcap : xs.length ≤ c) (hlen : (Lib.join (xs.map (·.data.toList)) sep.data.toList).length ≤ 140737488355328) :
    Calls Tryz.prog 23 #[.slice (some ⟨bk, o, none⟩) xs.length c, .string sep] w fun e w' => e = .returned (.string ⟨(Lib.join (xs.map (·.data.toList)) sep.data.toList).toArray⟩) ∧ Below w.heap.size w w' := Any.strings_Join Tryz.lays156 Tryz.Builder_Extra_156 bk o c xs sep w hcells hbk hN hcap hlen
def Tryz.laysM171_ren : Go.Shelf.Ren := ⟨fun | 171 => 22 | 243 => 35 | 246 => 48 | 283 => 59 | 284 => 60 | 285 => 61 | 286 => 62 | 129 => 82 | 317 => 81 | 318 => 83 | 319 => 84 | 320 => 85 | 337 => 101 | 338 => 102 | n => n, fun | 3 => 3 | 9 => 9 | 2 => 2 | 4 => 4 | 171 => 84 | 0 => 0 | 53 => 85 | 37 => 61 | 5 => 5 | 173 => 88 | 212 => 110 | 51 => 111 | 20 => 20 | 213 => 112 | 46 => 114 | 232 => 149 | 233 => 150 | n => n, fun | 17 => 1 | 18 => 4 | 19 => 5 | n => n⟩
theorem Tryz.laysM171 : Go.Proofs.LaysM.n171 Tryz.prog Tryz.laysM171_ren := {
  mixed := by kernel_rfl
  f129 := Tryz.func82.trans (congrArg some (by kernel_rfl))
  f171 := Tryz.func22.trans (congrArg some (by kernel_rfl))
  f243 := Tryz.func35.trans (congrArg some (by kernel_rfl))
  f246 := Tryz.func48.trans (congrArg some (by kernel_rfl))
  f283 := Tryz.func59.trans (congrArg some (by kernel_rfl))
  f284 := Tryz.func60.trans (congrArg some (by kernel_rfl))
  f285 := Tryz.func61.trans (congrArg some (by kernel_rfl))
  f286 := Tryz.func62.trans (congrArg some (by kernel_rfl))
  f317 := Tryz.func81.trans (congrArg some (by kernel_rfl))
  f318 := Tryz.func83.trans (congrArg some (by kernel_rfl))
  f319 := Tryz.func84.trans (congrArg some (by kernel_rfl))
  f320 := Tryz.func85.trans (congrArg some (by kernel_rfl))
  f337 := Tryz.func101.trans (congrArg some (by kernel_rfl))
  f338 := Tryz.func102.trans (congrArg some (by kernel_rfl))
  t0 := Tryz.underlying0
  a0 := Tryz.isAgg0
  z0 := Tryz.sizeOf0
  v0 := Tryz.zeroValue0
  t2 := Tryz.underlying2
  a2 := Tryz.isAgg2
  z2 := Tryz.sizeOf2
  v2 := Tryz.zeroValue2
  t3 := Tryz.underlying3
  a3 := Tryz.isAgg3
  z3 := Tryz.sizeOf3
  v3 := Tryz.zeroValue3
  t4 := Tryz.underlying4
  a4 := Tryz.isAgg4
  z4 := Tryz.sizeOf4
  v4 := Tryz.zeroValue4
  t5 := Tryz.underlying5
  a5 := Tryz.isAgg5
  z5 := Tryz.sizeOf5
  v5 := Tryz.zeroValue5
  t9 := Tryz.underlying9
  a9 := Tryz.isAgg9
  z9 := Tryz.sizeOf9
  v9 := Tryz.zeroValue9
  t20 := Tryz.underlying20
  a20 := Tryz.isAgg20
  z20 := Tryz.sizeOf20
  v20 := Tryz.zeroValue20
  t37 := Tryz.underlying61
  a37 := Tryz.isAgg61
  z37 := Tryz.sizeOf61
  v37 := Tryz.zeroValue61
  t46 := Tryz.underlying114
  a46 := Tryz.isAgg114
  z46 := Tryz.sizeOf114
  v46 := Tryz.zeroValue114
  t51 := Tryz.underlying111
  a51 := Tryz.isAgg111
  z51 := Tryz.sizeOf111
  v51 := Tryz.zeroValue111
  t53 := Tryz.underlying85
  a53 := Tryz.isAgg85
  z53 := Tryz.sizeOf85
  v53 := Tryz.zeroValue85
  t171 := Tryz.underlying84
  a171 := Tryz.isAgg84
  z171 := Tryz.sizeOf84
  v171 := Tryz.zeroValue84
  t173 := Tryz.underlying88
  a173 := Tryz.isAgg88
  z173 := Tryz.sizeOf88
  v173 := Tryz.zeroValue88
  t212 := Tryz.underlying110
  a212 := Tryz.isAgg110
  z212 := Tryz.sizeOf110
  v212 := Tryz.zeroValue110
  t213 := Tryz.underlying112
  a213 := Tryz.isAgg112
  z213 := Tryz.sizeOf112
  t232 := Tryz.underlying149
  a232 := Tryz.isAgg149
  z232 := Tryz.sizeOf149
  v232 := Tryz.zeroValue149
  t233 := Tryz.underlying150
  a233 := Tryz.isAgg150
  z233 := Tryz.sizeOf150
  v233 := Tryz.zeroValue150
  g17 := by kernel_rfl
  g18 := by kernel_rfl
  g19 := by kernel_rfl
  i0 := by kernel_rfl
  i2 := by kernel_rfl
  i3 := by kernel_rfl
  i4 := by kernel_rfl
  i5 := by kernel_rfl
  i9 := by kernel_rfl
  i20 := by kernel_rfl
  i37 := by kernel_rfl
  i46 := by kernel_rfl
  i51 := by kernel_rfl
  i53 := by kernel_rfl
  i171 := by kernel_rfl
  i173 := by kernel_rfl
  i212 := by kernel_rfl
  i232 := by kernel_rfl
  i233 := by kernel_rfl
  m17 := by kernel_rfl
  m18 := by kernel_rfl
  m19 := by kernel_rfl }
open Go.RowKit Go.Sort Go.Lib in
theorem Tryz.strconv_Itoa (n : Int) (h0 : -9223372036854775808 ≤ n) (h1 : n ≤ 9223372036854775807) (w : World) (htab : Lib.TabIs Tryz.prog w "internal/strconv.uint64pow10" .u64 Lib.pow10Tab) :
    Calls Tryz.prog 22 #[.int .i64 n] w fun e w' => e = .returned (.string ⟨(Lib.itoa n).toArray⟩) ∧ ∃ k os, w' = grow (w.drewN k) os := Any.strconv_Itoa Tryz.laysM171 n h0 h1 w htab
end Go.Proofs
namespace Go.V
open Go.N Go.RowKit
theorem repL_u64 {S : Nat → Prop} {w : World} : ∀ (zs : List Int) (vs : List Value), RepL S H0 w (zs.map fun z => AV.int .u64 z) vs → vs = zs.map fun z => Value.int .u64 z
  | [], vs, h => by simpa [RepL] using h
  | z :: zs, vs, h => by
    simp only [List.map_cons, RepL, RepV] at h
    obtain ⟨v, r, rfl, rfl, h⟩ := h
    rw [repL_u64 zs r h]; rfl
theorem tab_of {P : Program} {S : Nat → Prop} {w : World} {g : Nat} {nm : String} {zs : List Int} (hn : P.globalNamed nm = some g)
    (h : RepV S H0 w (.rp (zs.map fun z => AV.int .u64 z)) (.pointer (some ⟨g, 0, none⟩)) ∧ ∃ c e f, w.heap[g]? = some (.cells c e f) ∧ c.size = (zs.map fun z => AV.int .u64 z).length) : Lib.TabIs P w nm .u64 zs := by
  obtain ⟨hr, c, e, f, hh, hc⟩ := h
  simp only [RepV] at hr
  obtain ⟨a, ha, _, _, vs, hl, _, hcell⟩ := hr
  obtain rfl : (⟨g, 0, none⟩ : Addr) = a := by simpa using ha
  have hv := repL_u64 zs vs hl
  subst hv
  unfold Lib.TabIs World.var?
  rw [hn]
  simp only [Option.bind_some, hh]
  congr 1
  apply Array.toList_inj.1
  apply List.ext_getElem?
  intro k
  rw [Array.getElem?_toList]
  rcases Nat.lt_or_ge k zs.length with hk | hk
  · have h1 := hcell k (.int .u64 zs[k]) (by rw [List.getElem?_map, List.getElem?_eq_getElem hk]; rfl)
    rw [show Addr.add ⟨g, 0, none⟩ k = ⟨g, k, none⟩ by rcases k with _ | k <;> simp [Addr.add]] at h1
    rw [List.getElem?_map, List.getElem?_eq_getElem hk]
    unfold World.cell? at h1
    simpa [hh] using h1
  · rw [List.getElem?_map, List.getElem?_eq_none hk, Array.getElem?_eq_none (by rw [hc]; simpa using hk)]; rfl
theorem c_Itoa (n : Int) (h0 : -9223372036854775808 ≤ n) (h1 : n ≤ 9223372036854775807) : VCall Go.Proofs.Tryz.prog GL 22 [.int .i64 n] (fun x => x = .str ⟨(Lib.itoa n).toArray⟩) := by
  refine vcall_str Go.Proofs.Tryz.func22 rfl (by decide +kernel) fun S w vs _ h2 h3 => ?_
  simp only [RepL, RepV] at h3
  obtain ⟨v, r, rfl, rfl, rfl⟩ := h3
  have ht := tab_of (P := Go.Proofs.Tryz.prog) (nm := "internal/strconv.uint64pow10") (by kernel_rfl) (h2 1 pow10C (by simp [GL]))
  refine (Go.Proofs.Tryz.strconv_Itoa n h0 h1 w ht).mono fun e w' ⟨he, k, os, hw⟩ => ⟨he, hw ▸ ?_⟩
  refine ⟨rfl, rfl, rfl, ?_, fun i hi => ?_⟩
  · simp [Go.Sort.grow, World.drewN]
  · simp [Go.Sort.grow, World.drewN, Array.getElem?_append, hi]
theorem c_Join (xs : List ByteArray) (sep : ByteArray) (hN : xs.length ≤ 140737488355328) (hlen : (Lib.join (xs.map (·.data.toList)) sep.data.toList).length ≤ 140737488355328) :
    VCall Go.Proofs.Tryz.prog GL 23 [.ro 1 (rowS xs), .str sep] (fun x => x = .str ⟨(Lib.join (xs.map (·.data.toList)) sep.data.toList).toArray⟩) :=
  v_Join Go.Proofs.Tryz.lays156 Go.Proofs.Tryz.Builder_Extra_156 Go.Proofs.Tryz.func23 rfl (by decide +kernel) xs sep hN hlen
end Go.V
namespace Go.V
open Go.N
set_option maxRecDepth 20000
def T_IndexS : Tab := [(35, i35), (9, i9), (3, i3)]
theorem TOK_IndexS : TOK Go.Proofs.Tryz.prog T_IndexS := ⟨K35, ⟨K9, ⟨K3, trivial⟩⟩⟩
def T_ContainsS : Tab := [(35, i35), (9, i9), (3, i3)]
theorem TOK_ContainsS : TOK Go.Proofs.Tryz.prog T_ContainsS := ⟨K35, ⟨K9, ⟨K3, trivial⟩⟩⟩
def T_ctwo : Tab := [(35, i35), (9, i9)]
theorem TOK_ctwo : TOK Go.Proofs.Tryz.prog T_ctwo := ⟨K35, ⟨K9, trivial⟩⟩
def T_ckey : Tab := [(37, i37), (9, i9), (3, i3), (35, i35), (27, i27)]
theorem TOK_ckey : TOK Go.Proofs.Tryz.prog T_ckey := ⟨K37, ⟨K9, ⟨K3, ⟨K35, ⟨K27, trivial⟩⟩⟩⟩⟩
theorem c_IndexS (gl : Gl) (l : List ByteArray) (s : ByteArray) (hll : l.length < 9000000000) :
    VCall Go.Proofs.Tryz.prog gl 34 [.ro 1 (rowS l), .str s] (fun x => ∃ k : Int, x = .int .i64 k ∧ (0 ≤ k ↔ inOps s l = true)) := by
  refine vcall_of TOK_IndexS HM Go.Proofs.Tryz.func34 rfl (by decide +kernel) (by decide +kernel) rfl ?_
  have hl : (rowS l).length = l.length := rowS_length l
  repeat' ((conv => whnf); first | ((with_reducible apply Xq); assumption) | (with_reducible first | apply Xa | (first | apply xi | apply xp | apply xP); omega | apply Xe | refine Xg (by assumption) ?_) | refine Xo (by assumption) ?_ | refine x_0 (by first | assumption | rfl) ?_ | refine x_1 (by first | assumption | rfl) ?_ | refine Or.inl ⟨rfl, ?_⟩ | (split <;> (first | (rename_i u h; clear u) | rename_i h) <;> (try rewrite [h]) <;> (first | replace h := dt h | replace h := df h | replace h := Nt h | replace h := Nf h | skip) <;> (try dsimp only at h) <;> (first | contradiction | (exfalso; omega) | skip)) | (refine Or.inl ⟨_, by assumption, ?_⟩; first | rintro _ rfl | skip))
  refine ⟨[0, 1, 7, 8], [], fun m st => ∃ i : Nat, i ≤ l.length ∧ m = l.length - i ∧ inOps s (l.take i) = false ∧
    st = ⟨[(0, .ro 1 (rowS l)), (1, .str s), (7, .int .i64 ((rowS l).length : Nat)), (8, .int .i64 (i : Nat))], []⟩, rfl, ⟨l.length, 0, by omega, rfl, by simp [inOps], rfl⟩, ?_⟩
  rintro m _ ⟨i, hi, hm, ha, rfl⟩
  rcases Nat.lt_or_ge i l.length with hil | hge
  · have g := rowS_get hil
    by_cases e : s = l[i]
    · repeat' ((conv => whnf); first | ((with_reducible apply Xq); assumption) | (with_reducible first | apply Xa | (first | apply xi | apply xp | apply xP); omega | apply Xe | refine Xg (by assumption) ?_) | refine Xo (by assumption) ?_ | refine x_0 (by first | assumption | rfl) ?_ | refine x_1 (by first | assumption | rfl) ?_ | refine Or.inl ⟨rfl, ?_⟩ | (split <;> (first | (rename_i u h; clear u) | rename_i h) <;> (try rewrite [h]) <;> (first | replace h := dt h | replace h := df h | replace h := Nt h | replace h := Nf h | skip) <;> (try dsimp only at h) <;> (first | contradiction | (exfalso; omega) | skip)) | (refine Or.inl ⟨_, by assumption, ?_⟩; first | rintro _ rfl | skip))
      all_goals try omega
      conv => whnf
      exact ⟨i, rfl, by rw [show inOps s l = true from any_bad hil (decide_eq_true e)]; simp⟩
    · repeat' ((conv => whnf); first | ((with_reducible apply Xq); assumption) | (with_reducible first | apply Xa | (first | apply xi | apply xp | apply xP); omega | apply Xe | refine Xg (by assumption) ?_) | refine Xo (by assumption) ?_ | refine x_0 (by first | assumption | rfl) ?_ | refine x_1 (by first | assumption | rfl) ?_ | refine Or.inl ⟨rfl, ?_⟩ | (split <;> (first | (rename_i u h; clear u) | rename_i h) <;> (try rewrite [h]) <;> (first | replace h := dt h | replace h := df h | replace h := Nt h | replace h := Nf h | skip) <;> (try dsimp only at h) <;> (first | contradiction | (exfalso; omega) | skip)) | (refine Or.inl ⟨_, by assumption, ?_⟩; first | rintro _ rfl | skip))
      all_goals try omega
      exact ⟨[], l.length - (i + 1), rfl, by omega, i + 1, by omega, rfl, any_snoc hil ha (decide_eq_false e), rfl⟩
  · repeat' ((conv => whnf); first | ((with_reducible apply Xq); assumption) | (with_reducible first | apply Xa | (first | apply xi | apply xp | apply xP); omega | apply Xe | refine Xg (by assumption) ?_) | refine Xo (by assumption) ?_ | refine x_0 (by first | assumption | rfl) ?_ | refine x_1 (by first | assumption | rfl) ?_ | refine Or.inl ⟨rfl, ?_⟩ | (split <;> (first | (rename_i u h; clear u) | rename_i h) <;> (try rewrite [h]) <;> (first | replace h := dt h | replace h := df h | replace h := Nt h | replace h := Nf h | skip) <;> (try dsimp only at h) <;> (first | contradiction | (exfalso; omega) | skip)) | (refine Or.inl ⟨_, by assumption, ?_⟩; first | rintro _ rfl | skip))
    all_goals try omega
    conv => whnf
    rw [List.take_of_length_le (by omega)] at ha
    exact ⟨-1, rfl, by rw [ha]; simp⟩
theorem c_ContainsS (gl : Gl) (l : List ByteArray) (s : ByteArray) (hll : l.length < 9000000000) :
    VCall Go.Proofs.Tryz.prog gl 21 [.ro 1 (rowS l), .str s] (fun x => x = .bool (inOps s l)) := by
  refine vcall_of TOK_ContainsS HM Go.Proofs.Tryz.func21 rfl (by decide +kernel) (by decide +kernel) rfl ?_
  repeat' ((conv => whnf); first | (with_reducible first | apply Xa | (first | apply xi | apply xp | apply xP); omega | apply Xe | refine Xg (by assumption) ?_) | refine Xo (by assumption) ?_ | refine Or.inl ⟨rfl, ?_⟩ | (split <;> (first | (rename_i u h; clear u) | rename_i h) <;> (try rewrite [h]) <;> (first | replace h := dt h | replace h := df h | replace h := Nt h | replace h := Nf h | skip)))
  conv => whnf
  refine .inl ⟨_, c_IndexS gl l s hll, ?_⟩
  rintro _ ⟨k, rfl, hk⟩
  have e : inOps s l = decide (0 ≤ k) := by rw [Bool.eq_iff_iff, decide_eq_true_eq, hk]
  repeat' ((conv => whnf); first | (with_reducible first | apply Xa | (first | apply xi | apply xp | apply xP); omega | apply Xe | refine Xg (by assumption) ?_) | refine Xo (by assumption) ?_ | refine Or.inl ⟨rfl, ?_⟩ | (split <;> (first | (rename_i u h; clear u) | rename_i h) <;> (try rewrite [h]) <;> (first | replace h := dt h | replace h := df h | replace h := Nt h | replace h := Nf h | skip)))
  conv => whnf
  exact congrArg AV.bool e.symm
theorem c_two (gl : Gl) (op : ByteArray) : VCall Go.Proofs.Tryz.prog gl 15 [.str op] (fun x => x = .bool (inOps op ops2)) := by
  have hc : VCall Go.Proofs.Tryz.prog gl 21 [.ro 1 (List.take 6 (List.drop 0 (rowS ops2))), .str op] (fun x => x = .bool (inOps op ops2)) := c_ContainsS gl ops2 op (by decide)
  refine vcall_of TOK_ctwo HM Go.Proofs.Tryz.func15 rfl (by decide +kernel) (by decide +kernel) rfl ?_
  repeat' ((conv => whnf); first | ((with_reducible apply Xq); assumption) | (with_reducible first | apply Xa | (first | apply xi | apply xp | apply xP); omega | apply Xe | refine Xg (by assumption) ?_) | refine Xo (by assumption) ?_ | refine x_0 (by first | assumption | rfl) ?_ | refine x_1 (by first | assumption | rfl) ?_ | refine Or.inl ⟨rfl, ?_⟩ | (split <;> (first | (rename_i u h; clear u) | rename_i h) <;> (try rewrite [h]) <;> (first | replace h := dt h | replace h := df h | replace h := Nt h | replace h := Nf h | skip) <;> (try dsimp only at h) <;> (first | contradiction | (exfalso; omega) | skip)) | (refine Or.inl ⟨_, by assumption, ?_⟩; first | rintro _ rfl | skip))
  all_goals (conv => whnf)
  all_goals rfl
end Go.V
namespace Go.V
open Go.N
set_option maxRecDepth 20000
def isMid (z : Int) : Prop := 0 ≤ z ∧ z ≤ 1000
structure Nd.Mid (x : Nd) : Prop where
  op : x.op.size ≤ 1000
  a : isMid x.a
  b : isMid x.b
  n : isMid x.n
  shape : ∀ d ∈ x.shape, isMid d
theorem ok_mid {g : Gr} (hg : grOK g = true) (hl : g.nodes.length ≤ 1000) {i : Nat} {x : Nd} (hx : g.nodes[i]? = some x) : x.Mid := by
  obtain ⟨m, hop, F⟩ := ok_fit hg hx
  have hm := opParts_le hop
  have hp := ok_parts hg hx
  have hi := (List.getElem?_eq_some_iff.1 hx).1
  have hin := ok_infer hg hx
  rw [inferN_ok hop ((fit_iff _ _ _).2 F)] at hin
  have hz := okZ_of hin
  have hsh : okShape x.shape = true := okZ_sh hin
  refine ⟨?_, ?_, ?_, ?_, fun d hd => ?_⟩
  · rcases opc_cases x.op with ⟨o, ho⟩ | hnone
    · rw [ho]; cases o <;> decide
    · rw [hnone] at hop; cases hop
  · have h3 : m = 0 ∨ m = 1 ∨ m = 2 := by omega
    rcases h3 with rfl | rfl | rfl
    · rw [F.a0 rfl]; exact ⟨by decide, by decide⟩
    · rw [dP1 hop] at hp
      obtain ⟨k, hk, hki⟩ := hp x.a (by simp)
      rw [hk]; exact ⟨by omega, by omega⟩
    · rw [dP2 hop] at hp
      obtain ⟨k, hk, hki⟩ := hp x.a (by simp)
      rw [hk]; exact ⟨by omega, by omega⟩
  · rcases Nat.lt_or_ge m 2 with h2 | h2
    · rw [F.b0 h2]; exact ⟨by decide, by decide⟩
    · obtain rfl : m = 2 := by omega
      rw [dP2 hop] at hp
      obtain ⟨k, hk, hki⟩ := hp x.b (by simp)
      rw [hk]; exact ⟨by omega, by omega⟩
  · by_cases hs : x.op = sPower
    · have e : (ofZ x (if m = 0 then [] else shAt (g.nodes.take i) x.a) (if m < 2 then [] else shAt (g.nodes.take i) x.b)).2 = (decide (0 ≤ x.n) && decide (x.n ≤ 6)) := by
        obtain ⟨op, a, b, name, shape, k, n, data⟩ := x
        dsimp only at hs; subst hs; rfl
      rw [e] at hz
      simp only [Bool.and_eq_true, decide_eq_true_eq] at hz
      exact ⟨hz.1, by omega⟩
    · rw [F.n hs]; exact ⟨by decide, by decide⟩
  · have h1 := okShape_dim hsh d hd
    exact ⟨by omega, by omega⟩
theorem atZ_mid {pl : List Int} (h : ∀ v ∈ pl, isMid v) (a : Int) : isMid (atZ pl a) := by
  unfold atZ
  rw [List.getD_eq_getElem?_getD]
  rcases Nat.lt_or_ge a.toNat pl.length with hh | hh
  · rw [List.getElem?_eq_getElem hh]; exact h _ (List.getElem_mem hh)
  · rw [List.getElem?_eq_none hh]; exact ⟨by decide, by decide⟩
theorem re_mid {x : Nd} {pl : List Int} (h : x.Mid) (hp : ∀ v ∈ pl, isMid v) : (reN pl x).Mid := by
  unfold reN
  split
  · exact ⟨h.op, atZ_mid hp _, h.b, h.n, h.shape⟩
  · exact ⟨h.op, atZ_mid hp _, atZ_mid hp _, h.n, h.shape⟩
  · exact h
theorem dec_le (n : Nat) : (dec n).length ≤ n + 1 := by
  induction n using Nat.strongRecOn with
  | _ n ih =>
    rw [dec]
    split
    · simp
    · have := ih (n / 10) (by omega)
      simp only [List.length_append, List.length_singleton]
      omega
theorem itoaL_le {z : Int} (h : isMid z) : (itoaL z).length ≤ 1001 := by
  obtain ⟨h1, h2⟩ := h
  unfold itoaL
  rw [if_neg (by omega)]
  have := dec_le z.toNat
  omega
theorem lens_le (k : Nat) : ∀ (ts : List (List UInt8)), (∀ t ∈ ts, t.length ≤ k) → Lib.lens ts ≤ k * ts.length
  | [], _ => by simp [Lib.lens]
  | t :: ts, h => by
    have h1 := h t List.mem_cons_self
    have h2 := lens_le k ts (fun a ha => h a (List.mem_cons_of_mem _ ha))
    simp only [Lib.lens, List.map_cons, List.sum_cons, List.length_cons, Nat.mul_add, Nat.mul_one] at h2 ⊢
    omega
theorem key_len {x : Nd} (hs : x.Sm) (hm : x.Mid) : (Lib.join (keyT x) [32]).length ≤ 140737488355328 := by
  have hl : (keyT x).length ≤ 3000 := by
    have h1 := hs.shape
    have h2 := hs.data
    simp only [keyT, List.length_append, List.length_cons, List.length_map, List.length_nil]
    omega
  have ht : ∀ t ∈ keyT x, t.length ≤ 1001 := fun t ht => by
    simp only [keyT, List.mem_append, List.mem_cons, List.mem_map, List.not_mem_nil, or_false] at ht
    rcases ht with ((rfl | rfl | rfl | rfl | rfl | rfl | rfl) | ⟨d, hd, rfl⟩) | (rfl | ⟨s, hs', rfl⟩)
    · have := hm.op; rw [len_toList]; omega
    · exact itoaL_le hm.a
    · exact itoaL_le hm.b
    · have := hs.name; rw [len_toList]; omega
    · have := hs.k; rw [len_toList]; omega
    · exact itoaL_le hm.n
    · decide
    · exact itoaL_le (hm.shape d hd)
    · decide
    · have := hs.each s hs'; rw [len_toList]; omega
  have hle := lens_le 1001 _ ht
  obtain ⟨t, r, e⟩ : ∃ t r, keyT x = t :: r := ⟨_, _, rfl⟩
  rw [e] at hl hle ⊢
  rw [Lib.join_length]
  simp only [List.length_cons, List.length_nil] at hl hle ⊢
  omega
def itoaB (n : Int) : ByteArray := ⟨(Lib.itoa n).toArray⟩
def sShape : ByteArray := ⟨#[115, 104, 97, 112, 101]⟩
def sDataW : ByteArray := ⟨#[100, 97, 116, 97]⟩
def keyW (x : Nd) (i : Nat) : List ByteArray := [x.op, itoaB x.a, itoaB x.b, x.name, x.k, itoaB x.n, sShape] ++ (x.shape.take i).map itoaB
theorem keyW_all (x : Nd) : (keyW x x.shape.length ++ [sDataW] ++ x.data).map (·.data.toList) = keyT x := by
  have hi : ∀ n, (itoaB n).data.toList = itoaL n := fun n => by simp [itoaB, itoa_itoaL]
  simp [keyW, keyT, hi, ByteArray.toList_eq, sShape, sDataW, wShape, wData, List.map_map, Function.comp_def]
theorem keyW_snoc {x : Nd} {i : Nat} (h : i < x.shape.length) : keyW x (i + 1) = keyW x i ++ [itoaB x.shape[i]] := by
  unfold keyW
  rw [List.take_succ_eq_append_getElem h, List.map_append, ← List.append_assoc]; rfl
theorem key_join (x : Nd) : (⟨(Lib.join ((keyW x x.shape.length ++ [sDataW] ++ x.data).map (·.data.toList)) [32]).toArray⟩ : ByteArray) = keyB x := by rw [keyW_all]; rfl
end Go.V
namespace Go.V
open Go.N
set_option maxRecDepth 20000
theorem rowS_snoc (l : List ByteArray) (x : ByteArray) : rowS (l ++ [x]) = (rowS l).take (rowS l).length ++ [[.str x]] := by rw [List.take_length]; simp [rowS]
theorem rowS_app (l r : List ByteArray) : rowS (l ++ r) = (rowS l).take (rowS l).length ++ rowS r := by rw [List.take_length]; simp [rowS]
set_option maxHeartbeats 2000000 in
theorem c_key (x : Nd) (hs : x.Sm) (hm : x.Mid) : VCall Go.Proofs.Tryz.prog GL 16 [.agg x.cells] (fun y => y = .str (keyB x)) := by
  have hit : ∀ z, isMid z → VCall Go.Proofs.Tryz.prog GL 22 [.int .i64 z] (fun x => x = .str (itoaB z)) := fun z hz => c_Itoa z (by have := hz.1; omega) (by have := hz.2; omega)
  have hia := hit x.a hm.a
  have hib := hit x.b hm.b
  have hin := hit x.n hm.n
  have hid := fun d hd => hit d (hm.shape d hd)
  have hN : (keyW x x.shape.length ++ [sDataW] ++ x.data).length ≤ 140737488355328 := by
    have h1 := hs.shape
    have h2 := hs.data
    simp [keyW]; omega
  have hJ := c_Join (keyW x x.shape.length ++ [sDataW] ++ x.data) ⟨#[32]⟩ hN (by rw [keyW_all]; exact key_len hs hm)
  rw [key_join] at hJ
  have hW0 : rowS (keyW x 0) = [[.str x.op], [.str (itoaB x.a)], [.str (itoaB x.b)], [.str x.name], [.str x.k], [.str (itoaB x.n)], [.str sShape]] := by simp [keyW, rowS]
  have hWs := fun {i : Nat} (h : i < x.shape.length) => keyW_snoc h
  have hWl : ∀ i, i ≤ x.shape.length → (rowS (keyW x i)).length = 7 + i := fun i hi => by simp [keyW]; omega
  have hsl := hs.shape
  have hdl := hs.data
  clear hs hm hit hN
  obtain ⟨op, a, b, name, shape, k, n, data⟩ := x
  dsimp only at *
  generalize keyW ⟨op, a, b, name, shape, k, n, data⟩ = W at *
  generalize keyB ⟨op, a, b, name, shape, k, n, data⟩ = K at *
  have hrl := rowZ_length shape
  have hrd := rowS_length data
  show VCall _ _ _ [.agg [.str op, .int .i64 a, .int .i64 b, .str name, .ro 1 (rowZ shape), .str k, .int .i64 n, .ro 1 (rowS data)]] _
  refine vcall_of TOK_ckey HM Go.Proofs.Tryz.func16 rfl (by decide +kernel) (by decide +kernel) rfl ?_
  have hJ2 : VCall Go.Proofs.Tryz.prog GL 23 [.ro 1 (List.take (rowS (W shape.length ++ [sDataW] ++ data)).length (List.drop 0 (rowS (W shape.length ++ [sDataW] ++ data)))), .str ⟨#[32]⟩] (fun x => x = .str K) := by rw [List.drop_zero, List.take_length]; exact hJ
  repeat' ((conv => whnf); first | ((with_reducible apply Xq); assumption) | (with_reducible first | apply Xa | (first | apply xi | apply xp | apply xP); omega | apply Xe | refine Xg (by assumption) ?_) | refine Xo (by assumption) ?_ | refine x_0 (by first | assumption | rfl) ?_ | refine x_1 (by first | assumption | rfl) ?_ | refine Or.inl ⟨rfl, ?_⟩ | (split <;> (first | (rename_i u h; clear u) | rename_i h) <;> (try rewrite [h]) <;> (first | replace h := dt h | replace h := df h | replace h := Nt h | replace h := Nf h | skip) <;> (try dsimp only at h) <;> (first | contradiction | (exfalso; omega) | skip)) | (refine Or.inl ⟨_, by assumption, ?_⟩; first | rintro _ rfl | skip))
  refine ⟨by decide +kernel, [0, 1, 0, 4, 12, 0, 32, 124, 0, 256, 0, 1024, 0, 4096, 12540, 32767, 65535], by decide +kernel, ?_⟩
  repeat' ((conv => whnf); first | ((with_reducible apply Xq); assumption) | (with_reducible first | apply Xa | (first | apply xi | apply xp | apply xP); omega | apply Xe | refine Xg (by assumption) ?_) | refine Xo (by assumption) ?_ | refine x_0 (by first | assumption | rfl) ?_ | refine x_1 (by first | assumption | rfl) ?_ | refine Or.inl ⟨rfl, ?_⟩ | (split <;> (first | (rename_i u h; clear u) | rename_i h) <;> (try rewrite [h]) <;> (first | replace h := dt h | replace h := df h | replace h := Nt h | replace h := Nf h | skip) <;> (try dsimp only at h) <;> (first | contradiction | (exfalso; omega) | skip)) | (refine Or.inl ⟨_, by assumption, ?_⟩; first | rintro _ rfl | skip))
  refine ⟨[1, 3, 23, 24, 25], [0, 1], fun m st => ∃ i : Nat, i ≤ shape.length ∧ m = shape.length - i ∧ st = (⟨[(1, .bptr 0 0), (3, .own 1 0 (rowS (W i)).length), (23, .ro 1 (rowZ shape)), (24, .int .i64 ((rowZ shape).length : Nat)), (25, .int .i64 ((i : Nat) : Int))], [.box 37 [.str op, .int .i64 a, .int .i64 b, .str name, .ro 1 (rowZ shape), .str k, .int .i64 n, .ro 1 (rowS data)], .row false 9 1 (rowS (W i))]⟩ : St), rfl,
    ⟨shape.length, 0, by omega, rfl, Eq.trans rfl (congrArg (fun z : List (List AV) => (⟨[(1, .bptr 0 0), (3, .own 1 0 (z).length), (23, .ro 1 (rowZ shape)), (24, .int .i64 ((rowZ shape).length : Nat)), (25, .int .i64 ((0 : Nat) : Int))], [.box 37 [.str op, .int .i64 a, .int .i64 b, .str name, .ro 1 (rowZ shape), .str k, .int .i64 n, .ro 1 (rowS data)], .row false 9 1 (z)]⟩ : St)) hW0.symm)⟩, ?_⟩
  rintro m _ ⟨i, hi, hm, rfl⟩
  have hwl := hWl i hi
  rcases Nat.lt_or_ge i shape.length with hil | hge
  · have g := rowZ_get hil
    have hd := hid shape[i] (List.getElem_mem hil)
    have hws := hWs hil
    repeat' ((conv => whnf); first | ((with_reducible apply Xq); assumption) | (with_reducible first | apply Xa | (first | apply xi | apply xp | apply xP); omega | apply Xe | refine Xg (by assumption) ?_) | refine Xo (by assumption) ?_ | refine x_0 (by first | assumption | rfl) ?_ | refine x_1 (by first | assumption | rfl) ?_ | refine Or.inl ⟨rfl, ?_⟩ | (split <;> (first | (rename_i u h; clear u) | rename_i h) <;> (try rewrite [h]) <;> (first | replace h := dt h | replace h := df h | replace h := Nt h | replace h := Nf h | skip) <;> (try dsimp only at h) <;> (first | contradiction | (exfalso; omega) | skip)) | (refine Or.inl ⟨_, by assumption, ?_⟩; first | rintro _ rfl | skip))
    refine ⟨Nat.le_refl _, (show ((rowS (W i)).length + 1) * 16 ≤ 140737488355328 by omega), _, rowS_snoc (W i) (itoaB shape[i]), ?_⟩
    repeat' ((conv => whnf); first | ((with_reducible apply Xq); assumption) | (with_reducible first | apply Xa | (first | apply xi | apply xp | apply xP); omega | apply Xe | refine Xg (by assumption) ?_) | refine Xo (by assumption) ?_ | refine x_0 (by first | assumption | rfl) ?_ | refine x_1 (by first | assumption | rfl) ?_ | refine Or.inl ⟨rfl, ?_⟩ | (split <;> (first | (rename_i u h; clear u) | rename_i h) <;> (try rewrite [h]) <;> (first | replace h := dt h | replace h := df h | replace h := Nt h | replace h := Nf h | skip) <;> (try dsimp only at h) <;> (first | contradiction | (exfalso; omega) | skip)) | (refine Or.inl ⟨_, by assumption, ?_⟩; first | rintro _ rfl | skip))
    exact ⟨[0, 3], shape.length - (i + 1), rfl, by omega, i + 1, by omega, rfl, Eq.trans rfl (congrArg (fun z : List (List AV) => (⟨[(1, .bptr 0 0), (3, .own 1 0 (z).length), (23, .ro 1 (rowZ shape)), (24, .int .i64 ((rowZ shape).length : Nat)), (25, .int .i64 ((i + 1 : Nat) : Int))], [.box 37 [.str op, .int .i64 a, .int .i64 b, .str name, .ro 1 (rowZ shape), .str k, .int .i64 n, .ro 1 (rowS data)], .row false 9 1 (z)]⟩ : St)) (congrArg rowS hws).symm)⟩
  · obtain rfl : i = shape.length := by omega
    have hw2 : (rowS (W shape.length ++ [sDataW])).length = 8 + shape.length := by simp only [rowS_length, List.length_append, List.length_singleton] at hwl ⊢; omega
    repeat' ((conv => whnf); first | ((with_reducible apply Xq); assumption) | (with_reducible first | apply Xa | (first | apply xi | apply xp | apply xP); omega | apply Xe | refine Xg (by assumption) ?_) | refine Xo (by assumption) ?_ | refine x_0 (by first | assumption | rfl) ?_ | refine x_1 (by first | assumption | rfl) ?_ | refine Or.inl ⟨rfl, ?_⟩ | (split <;> (first | (rename_i u h; clear u) | rename_i h) <;> (try rewrite [h]) <;> (first | replace h := dt h | replace h := df h | replace h := Nt h | replace h := Nf h | skip) <;> (try dsimp only at h) <;> (first | contradiction | (exfalso; omega) | skip)) | (refine Or.inl ⟨_, by assumption, ?_⟩; first | rintro _ rfl | skip))
    refine ⟨by decide +kernel, [0, 0, 3, 0, 8, 31, 63, 127], by decide +kernel, ?_⟩
    repeat' ((conv => whnf); first | ((with_reducible apply Xq); assumption) | (with_reducible first | apply Xa | (first | apply xi | apply xp | apply xP); omega | apply Xe | refine Xg (by assumption) ?_) | refine Xo (by assumption) ?_ | refine x_0 (by first | assumption | rfl) ?_ | refine x_1 (by first | assumption | rfl) ?_ | refine Or.inl ⟨rfl, ?_⟩ | (split <;> (first | (rename_i u h; clear u) | rename_i h) <;> (try rewrite [h]) <;> (first | replace h := dt h | replace h := df h | replace h := Nt h | replace h := Nf h | skip) <;> (try dsimp only at h) <;> (first | contradiction | (exfalso; omega) | skip)) | (refine Or.inl ⟨_, by assumption, ?_⟩; first | rintro _ rfl | skip))
    refine ⟨Nat.le_refl _, (show ((rowS (W shape.length)).length + 1) * 16 ≤ 140737488355328 by omega), _, rowS_snoc (W shape.length) sDataW, ?_⟩
    repeat' ((conv => whnf); first | ((with_reducible apply Xq); assumption) | (with_reducible first | apply Xa | (first | apply xi | apply xp | apply xP); omega | apply Xe | refine Xg (by assumption) ?_) | refine Xo (by assumption) ?_ | refine x_0 (by first | assumption | rfl) ?_ | refine x_1 (by first | assumption | rfl) ?_ | refine Or.inl ⟨rfl, ?_⟩ | (split <;> (first | (rename_i u h; clear u) | rename_i h) <;> (try rewrite [h]) <;> (first | replace h := dt h | replace h := df h | replace h := Nt h | replace h := Nf h | skip) <;> (try dsimp only at h) <;> (first | contradiction | (exfalso; omega) | skip)) | (refine Or.inl ⟨_, by assumption, ?_⟩; first | rintro _ rfl | skip))
    refine ⟨Nat.le_refl _, (show ((rowS (W shape.length ++ [sDataW])).length + (rowS data).length) * 16 ≤ 140737488355328 by omega), _, rowS_app (W shape.length ++ [sDataW]) data, ?_⟩
    repeat' ((conv => whnf); first | ((with_reducible apply Xq); assumption) | (with_reducible first | apply Xa | (first | apply xi | apply xp | apply xP); omega | apply Xe | refine Xg (by assumption) ?_) | refine Xo (by assumption) ?_ | refine x_0 (by first | assumption | rfl) ?_ | refine x_1 (by first | assumption | rfl) ?_ | refine Or.inl ⟨rfl, ?_⟩ | (split <;> (first | (rename_i u h; clear u) | rename_i h) <;> (try rewrite [h]) <;> (first | replace h := dt h | replace h := df h | replace h := Nt h | replace h := Nf h | skip) <;> (try dsimp only at h) <;> (first | contradiction | (exfalso; omega) | skip)) | (refine Or.inl ⟨_, by assumption, ?_⟩; first | rintro _ rfl | skip))
    all_goals (conv => whnf)
    all_goals rfl
end Go.V
namespace Go.V
open Go.N
set_option maxRecDepth 20000
theorem need_mono {g : Gr} {keep : List Int} {more : Int} {i : Nat} (h : NeedP g keep i) : NeedP g (keep ++ [more]) i := by
  induction h with
  | loss h => exact .loss h
  | keep h => exact .keep (List.mem_append_left _ h)
  | name h1 h2 => exact .name h1 h2
  | use h1 h2 h3 _ ih => exact .use h1 h2 h3 ih
def upTo (n : Nat) : List Int := (List.range n).map fun (k : Nat) => (k : Int)
theorem upTo_length (n : Nat) : (upTo n).length = n := by simp [upTo]
theorem upTo_succ (n : Nat) : upTo (n + 1) = upTo n ++ [(n : Int)] := by simp [upTo, List.range_succ]
theorem atZ_upTo {i k : Nat} (h : k < i) : atZ (upTo i) k = k := by rw [atZ_nat (by rw [upTo_length]; exact h)]; simp [upTo]
theorem re_upTo {g : Gr} (hg : grOK g = true) {i : Nat} {x : Nd} (hx : g.nodes[i]? = some x) : reN (upTo i) x = x := by
  obtain ⟨m, hop, F⟩ := ok_fit hg hx
  have hm := opParts_le hop
  have hp := ok_parts hg hx
  have h3 : m = 0 ∨ m = 1 ∨ m = 2 := by omega
  rcases h3 with rfl | rfl | rfl
  · exact re0 hop
  · rw [dP1 hop] at hp
    obtain ⟨k, hk, hki⟩ := hp x.a (by simp)
    rw [re1 hop, hk, atZ_upTo hki, ← hk]
  · rw [dP2 hop] at hp
    obtain ⟨k, hk, hki⟩ := hp x.a (by simp)
    obtain ⟨k2, hk2, hki2⟩ := hp x.b (by simp)
    rw [re2 hop, hk, atZ_upTo hki, ← hk, hk2, atZ_upTo hki2, ← hk2]
theorem prune_all {g : Gr} (hg : grOK g = true) {N : Nat → Bool} (hN : ∀ i, i < g.nodes.length → N i = true) : ∀ i, i ≤ g.nodes.length → pruneTo g.nodes N i = (upTo i, g.nodes.take i)
  | 0, _ => by simp [pruneTo, upTo]
  | i + 1, h => by
    have hx : g.nodes[i]? = some g.nodes[i] := List.getElem?_eq_getElem (by omega)
    rw [prune_yes (prune_all hg hN i (by omega)) hx (hN i (by omega)), re_upTo hg hx, upTo_succ, List.length_take, List.take_succ_eq_append_getElem (by omega), Nat.min_eq_left (by omega)]
theorem pruneG_all {g : Gr} (hg : grOK g = true) {N : Nat → Bool} (hN : ∀ i, i < g.nodes.length → N i = true) : pruneG g N = (g, upTo g.nodes.length) := by
  obtain ⟨_, _, q, hq, hql⟩ := ok_pre hg
  rw [pruneG, prune_all hg hN _ (Nat.le_refl _), List.take_length]
  dsimp only
  rw [hq, atZ_upTo hql, ← hq]
theorem keep_all (g : Gr) : keepOK g (upTo g.nodes.length) = true := by
  rw [keepOK, Bool.not_eq_true', List.any_eq_false]
  intro x hx
  obtain ⟨k, hk, rfl⟩ := List.mem_map.1 hx
  have := List.mem_range.1 hk
  simp only [Bool.or_eq_true, decide_eq_true_eq]; omega
theorem NB_all (g : Gr) : ∀ i, i < g.nodes.length → NB g (upTo g.nodes.length) i = true := fun i hi => NB_iff.2 (.keep (List.mem_map.2 ⟨i, List.mem_range.2 hi, rfl⟩))
theorem own_all (X : List (List AV)) : X = List.take X.length (List.drop 0 X) := by rw [List.drop_zero, List.take_length]
theorem keep_more {g : Gr} {keep : List Int} {more : Int} : keepOK g (keep ++ [more]) = (keepOK g keep && !(decide (more < 0) || decide ((g.nodes.length : Int) ≤ more))) := by
  simp [keepOK, List.any_append, Bool.not_or]
end Go.V
namespace Go.V
open Go.N
set_option maxRecDepth 20000
theorem firstIx_le (out : List Nd) (y : Nd) : firstIx out y ≤ out.length := by
  rcases firstIx_cases out y with ⟨h, _⟩ | ⟨h, _⟩ <;> omega
theorem merge_len {l : List Nd} : ∀ i, i ≤ l.length → (mergeTo l i).1.length = i ∧ (mergeTo l i).2.length ≤ i
  | 0, _ => ⟨rfl, Nat.le_refl _⟩
  | i + 1, h => by
    have ih := merge_len (l := l) i (by omega)
    have hx : l[i]? = some l[i] := List.getElem?_eq_getElem (by omega)
    rw [merge_step (Prod.eta _).symm hx]
    refine ⟨by simp [ih.1], ?_⟩
    dsimp only
    split
    · simp; omega
    · omega
theorem merge_mono {l : List Nd} {i : Nat} (hi : i < l.length) {k : Nat} {y : Nd} (h : (mergeTo l i).2[k]? = some y) : (mergeTo l (i + 1)).2[k]? = some y := by
  have hx : l[i]? = some l[i] := List.getElem?_eq_getElem hi
  rw [merge_step (Prod.eta _).symm hx]
  dsimp only
  split
  · rw [List.getElem?_append_left (List.getElem?_eq_some_iff.1 h).1]; exact h
  · exact h
theorem merge_mono2 {l : List Nd} {i : Nat} {k : Nat} {y : Nd} (h : (mergeTo l i).2[k]? = some y) : ∀ j, i ≤ j → j ≤ l.length → (mergeTo l j).2[k]? = some y
  | 0, h1, _ => by have : i = 0 := by omega
                   subst this; exact h
  | j + 1, h1, h2 => by
    rcases Nat.eq_or_lt_of_le h1 with e | e
    · subst e; exact h
    · exact merge_mono (by omega) (merge_mono2 h j (by omega) (by omega))
theorem merge_pl {l : List Nd} {i : Nat} (hi : i < l.length) {k : Nat} {v : Int} (h : (mergeTo l i).1[k]? = some v) : (mergeTo l (i + 1)).1[k]? = some v := by
  have hx : l[i]? = some l[i] := List.getElem?_eq_getElem hi
  rw [merge_step (Prod.eta _).symm hx]
  dsimp only
  rw [List.getElem?_append_left (List.getElem?_eq_some_iff.1 h).1]; exact h
theorem merge_pl2 {l : List Nd} {i : Nat} {k : Nat} {v : Int} (h : (mergeTo l i).1[k]? = some v) : ∀ j, i ≤ j → j ≤ l.length → (mergeTo l j).1[k]? = some v
  | 0, h1, _ => by have : i = 0 := by omega
                   subst this; exact h
  | j + 1, h1, h2 => by
    rcases Nat.eq_or_lt_of_le h1 with e | e
    · subst e; exact h
    · exact merge_pl (by omega) (merge_pl2 h j (by omega) (by omega))
theorem merge_at {l : List Nd} {i : Nat} {x : Nd} (hx : l[i]? = some x) : ∃ p : Nat, p ≤ (mergeTo l i).2.length ∧ (mergeTo l (i + 1)).1[i]? = some (p : Int) ∧ (mergeTo l (i + 1)).2[p]? = some (reN (mergeTo l i).1 x) ∧
    (mergeTo l (i + 1)).2.length = max (mergeTo l i).2.length (p + 1) := by
  have hi := (List.getElem?_eq_some_iff.1 hx).1
  have hlen := (merge_len (l := l) i (by omega)).1
  refine ⟨firstIx (mergeTo l i).2 (reN (mergeTo l i).1 x), firstIx_le _ _, ?_, ?_, ?_⟩
  all_goals rw [merge_step (Prod.eta _).symm hx]
  all_goals dsimp only
  · rw [List.getElem?_append_right (by omega), hlen, Nat.sub_self]; rfl
  · rcases firstIx_cases (mergeTo l i).2 (reN (mergeTo l i).1 x) with ⟨h1, h2, _⟩ | ⟨h1, _⟩
    · rw [if_neg (by omega), List.getElem?_eq_getElem h1, h2]
    · rw [if_pos h1, List.getElem?_append_right (by omega), h1, Nat.sub_self]; rfl
  · rcases firstIx_cases (mergeTo l i).2 (reN (mergeTo l i).1 x) with ⟨h1, h2, _⟩ | ⟨h1, _⟩
    · rw [if_neg (by omega)]; omega
    · rw [if_pos h1, h1]; simp
theorem re_same {pl : List Int} {x : Nd} : (reN pl x).op = x.op ∧ (reN pl x).name = x.name ∧ (reN pl x).shape = x.shape := by
  unfold reN
  split <;> exact ⟨rfl, rfl, rfl⟩
theorem merge_sm {l : List Nd} (hs : ∀ x ∈ l, x.Sm) : ∀ i, ∀ x ∈ (mergeTo l i).2, x.Sm
  | 0, x, hx => by simp [mergeTo] at hx
  | i + 1, x, hx => by
    have ih := merge_sm hs i
    unfold mergeTo at hx
    split at hx
    · exact ih x hx
    · rename_i y hy
      dsimp only at hx
      split at hx
      · simp only [List.mem_append, List.mem_singleton] at hx
        rcases hx with hx | rfl
        · exact ih x hx
        · exact reN_sm (hs y (List.mem_of_getElem? hy))
      · exact ih x hx
theorem re_pl {g : Gr} (hg : grOK g = true) {i : Nat} {x : Nd} (hx : g.nodes[i]? = some x) {pl pl' : List Int} (h : ∀ k, k < i → atZ pl (k : Nat) = atZ pl' (k : Nat)) : reN pl x = reN pl' x := by
  obtain ⟨m, hop, F⟩ := ok_fit hg hx
  have hm := opParts_le hop
  have hp := ok_parts hg hx
  have h3 : m = 0 ∨ m = 1 ∨ m = 2 := by omega
  rcases h3 with rfl | rfl | rfl
  · rw [re0 hop, re0 hop]
  · rw [dP1 hop] at hp
    obtain ⟨k, hk, hki⟩ := hp x.a (by simp)
    rw [re1 hop, re1 hop, hk, h k hki]
  · rw [dP2 hop] at hp
    obtain ⟨k, hk, hki⟩ := hp x.a (by simp)
    obtain ⟨k2, hk2, hki2⟩ := hp x.b (by simp)
    rw [re2 hop, re2 hop, hk, h k hki, hk2, h k2 hki2]
def distinctTo (l : List Nd) (n : Nat) : Prop := ∀ i (hi : i < l.length) k (hk : k < i), i < n → l[i] ≠ l[k]'(by omega)
theorem merge_own {g : Gr} (hg : grOK g = true) : ∀ i, i ≤ g.nodes.length → distinctTo g.nodes i → mergeTo g.nodes i = (upTo i, g.nodes.take i)
  | 0, _, _ => by simp [mergeTo, upTo]
  | i + 1, h, hd => by
    have hx : g.nodes[i]? = some g.nodes[i] := List.getElem?_eq_getElem (by omega)
    have ih := merge_own hg i (by omega) (fun a ha k hk hi => hd a ha k hk (by omega))
    have hf : firstIx (g.nodes.take i) (reN (upTo i) g.nodes[i]) = (g.nodes.take i).length := firstIx_none fun j hj => by
      rw [re_upTo hg hx]
      rw [List.length_take] at hj
      simp only [List.getElem_take]
      exact fun e => hd i (by omega) j (by omega) (by omega) e.symm
    rw [merge_step ih hx, hf, if_pos rfl, re_upTo hg hx, upTo_succ, List.length_take, List.take_succ_eq_append_getElem (by omega), Nat.min_eq_left (by omega)]
theorem merge_less {g : Gr} (hg : grOK g = true) {i k : Nat} (hi : i < g.nodes.length) (hk : k < i) (he : g.nodes[i] = g.nodes[k]'(by omega)) : (mergeTo g.nodes g.nodes.length).2.length < g.nodes.length := by
  have hx : g.nodes[i]? = some g.nodes[i] := List.getElem?_eq_getElem hi
  have hxk : g.nodes[k]? = some g.nodes[i] := by rw [List.getElem?_eq_getElem (by omega), he]
  obtain ⟨p, _, _, hp3, _⟩ := merge_at hxk
  have hmem := merge_mono2 hp3 i (by omega) (by omega)
  have hre : reN (mergeTo g.nodes k).1 g.nodes[i] = reN (mergeTo g.nodes i).1 g.nodes[i] := re_pl hg hxk fun j hj => by
    have hl := (merge_len (l := g.nodes) k (by omega)).1
    have h1 : (mergeTo g.nodes k).1[j]? = some (mergeTo g.nodes k).1[j] := List.getElem?_eq_getElem (by omega)
    have h2 := merge_pl2 h1 i (by omega) (by omega)
    obtain ⟨h3, h4⟩ := List.getElem?_eq_some_iff.1 h2
    rw [atZ_nat (by omega), atZ_nat h3, h4]
  rw [hre] at hmem
  obtain ⟨hpl, hpe⟩ := List.getElem?_eq_some_iff.1 hmem
  have hs : (mergeTo g.nodes (i + 1)).2.length = (mergeTo g.nodes i).2.length := by
    rw [merge_step (Prod.eta _).symm hx]
    dsimp only
    rcases firstIx_cases (mergeTo g.nodes i).2 (reN (mergeTo g.nodes i).1 g.nodes[i]) with ⟨h1, _, _⟩ | ⟨_, h2⟩
    · rw [if_neg (by omega)]
    · exact absurd hpe (h2 p hpl)
  have hli := (merge_len (l := g.nodes) i (by omega)).2
  have key : ∀ j, i + 1 ≤ j → j ≤ g.nodes.length → (mergeTo g.nodes j).2.length < j := by
    intro j
    induction j with
    | zero => intro h; omega
    | succ j ih =>
      intro h1 h2
      rcases Nat.eq_or_lt_of_le h1 with e | e
      · rw [← e, hs]; omega
      · have := ih (by omega) (by omega)
        have hxj : g.nodes[j]? = some g.nodes[j] := List.getElem?_eq_getElem (by omega)
        obtain ⟨q, hq1, _, _, hq4⟩ := merge_at hxj
        omega
  exact key _ (by omega) (Nat.le_refl _)
def mostZ (l : List Int) : Int := l.foldl max (-1)
theorem mostZ_snoc (l : List Int) (v : Int) : mostZ (l ++ [v]) = max (mostZ l) v := by simp [mostZ]
theorem merge_most {l : List Nd} : ∀ i, i ≤ l.length → mostZ (mergeTo l i).1 + 1 = ((mergeTo l i).2.length : Nat)
  | 0, _ => rfl
  | i + 1, h => by
    have ih := merge_most (l := l) i (by omega)
    have hx : l[i]? = some l[i] := List.getElem?_eq_getElem (by omega)
    rw [merge_step (Prod.eta _).symm hx]
    dsimp only
    rw [mostZ_snoc]
    rcases firstIx_cases (mergeTo l i).2 (reN (mergeTo l i).1 l[i]) with ⟨h1, _, _⟩ | ⟨h1, _⟩
    · rw [if_neg (by omega)]; omega
    · rw [if_pos h1, h1]; simp; omega
end Go.V
namespace Go.V
open Go.N
set_option maxRecDepth 20000
def intK (kv : List (ByteArray × AV)) : Prop := ∀ e ∈ kv, ∃ z, e.2 = .int .i64 z
theorem ren_intK {kv : List (ByteArray × AV)} (keep : List Nat) (h : intK kv) : kv.map (fun kx => (kx.1, ren keep kx.2)) = kv := by
  induction kv with
  | nil => rfl
  | cons e r ih =>
    obtain ⟨z, hz⟩ := h e List.mem_cons_self
    obtain ⟨k, v⟩ := e
    dsimp only at hz
    subst hz
    rw [List.map_cons, ih (fun a ha => h a (List.mem_cons_of_mem _ ha))]
    simp [ren]
theorem intK_set {kv : List (ByteArray × AV)} (h : intK kv) (k : ByteArray) (z : Int) : intK (setK kv k (.int .i64 z)) := by
  induction kv with
  | nil => intro e he; simp [setK] at he; exact ⟨z, by rw [he]⟩
  | cons a r ih =>
    obtain ⟨k', v⟩ := a
    intro e he
    unfold setK at he
    split at he
    · rcases List.mem_cons.1 he with rfl | he
      · exact ⟨z, rfl⟩
      · exact h e (List.mem_cons_of_mem _ he)
    · rcases List.mem_cons.1 he with rfl | he
      · exact h _ List.mem_cons_self
      · exact ih (fun a ha => h a (List.mem_cons_of_mem _ ha)) e he
theorem findK_same (kv : List (ByteArray × AV)) (k : ByteArray) (v : AV) : findK (setK kv k v) k = some v := by
  induction kv with
  | nil => simp [setK, findK]
  | cons a r ih =>
    obtain ⟨k', w⟩ := a
    unfold setK
    by_cases e : k = k'
    · rw [if_pos e]; simp [findK]
    · rw [if_neg e]; simp [findK, e, ih]
theorem findK_other {k k2 : ByteArray} (hne : k2 ≠ k) (kv : List (ByteArray × AV)) (v : AV) : findK (setK kv k v) k2 = findK kv k2 := by
  induction kv with
  | nil => simp [setK, findK, hne]
  | cons a r ih =>
    obtain ⟨k', w⟩ := a
    unfold setK
    by_cases e : k = k'
    · rw [if_pos e]; subst e; simp [findK, hne]
    · rw [if_neg e]; simp [findK, ih]
def PlK (kv : List (ByteArray × AV)) (out : List Nd) : Prop := ∀ z : Nd, z.NoSp → findK kv (keyB z) = if firstIx out z < out.length then some (.int .i64 (firstIx out z : Nat)) else none
theorem plK_nil : PlK [] [] := fun z _ => by
  have : firstIx [] z = 0 := firstIx_none (fun j hj => by simp at hj)
  rw [this]; rfl
theorem firstIx_snoc {out : List Nd} {y z : Nd} (hne : z ≠ y) : firstIx (out ++ [y]) z = if firstIx out z < out.length then firstIx out z else out.length + 1 := by
  rcases firstIx_cases out z with ⟨h1, h2, h3⟩ | ⟨h1, h2⟩
  · rw [if_pos h1]
    exact firstIx_lt (by simp; omega) (by rw [List.getElem_append_left h1]; exact h2) (fun j hj => by rw [List.getElem_append_left (by omega)]; exact h3 j hj)
  · rw [if_neg (by omega)]
    have := firstIx_none (out := out ++ [y]) (y := z) (fun j hj => by
      rcases Nat.lt_or_ge j out.length with h | h
      · rw [List.getElem_append_left h]; exact h2 j h
      · rw [List.getElem_append_right h]; simp; exact fun e => hne e.symm)
    rw [this]; simp
theorem firstIx_put {out : List Nd} {y : Nd} (h : firstIx out y = out.length) : firstIx (out ++ [y]) y = out.length := by
  rcases firstIx_cases out y with ⟨h1, _, _⟩ | ⟨_, h2⟩
  · omega
  · exact firstIx_lt (by simp) (by simp) (fun j hj => by rw [List.getElem_append_left hj]; exact h2 j hj)
theorem plK_put {kv : List (ByteArray × AV)} {out : List Nd} {y : Nd} (h : PlK kv out) (hy : y.NoSp) (hn : firstIx out y = out.length) : PlK (setK kv (keyB y) (.int .i64 (out.length : Nat))) (out ++ [y]) := fun z hz => by
  by_cases e : z = y
  · subst e
    rw [findK_same, firstIx_put hn, if_pos (by simp)]
  · rw [findK_other (fun ek => e (key_inj hz hy ek)), h z hz, firstIx_snoc e]
    rcases Nat.lt_or_ge (firstIx out z) out.length with hh | hh
    · rw [if_pos hh, if_pos hh, if_pos (by simp; omega)]
    · have e2 : (if firstIx out z < out.length then firstIx out z else out.length + 1) = out.length + 1 := if_neg (by omega)
      rw [e2, if_neg (by omega), if_neg (by simp)]
theorem plK_old {kv : List (ByteArray × AV)} {out : List Nd} {y : Nd} (h : PlK kv out) (hy : y.NoSp) (hn : firstIx out y ≠ out.length) : findK kv (keyB y) = some (.int .i64 (firstIx out y : Nat)) := by
  rw [h y hy, if_pos (by have := firstIx_le out y; omega)]
theorem plK_new {kv : List (ByteArray × AV)} {out : List Nd} {y : Nd} (h : PlK kv out) (hy : y.NoSp) (hn : firstIx out y = out.length) : findK kv (keyB y) = none := by
  rw [h y hy, if_neg (by omega)]
theorem merge_mid {l : List Nd} (h : l.length ≤ 1000) (i : Nat) (hi : i ≤ l.length) : ∀ v ∈ (mergeTo l i).1, isMid v := by
  induction i with
  | zero => intro v hv; simp [mergeTo] at hv
  | succ i ih =>
    have hx : l[i]? = some l[i] := List.getElem?_eq_getElem (by omega)
    have h1 := (merge_len (l := l) i (by omega)).2
    have h2 := firstIx_le (mergeTo l i).2 (reN (mergeTo l i).1 l[i])
    rw [merge_step (Prod.eta _).symm hx]
    intro v hv
    rcases List.mem_append.1 hv with hv | hv
    · exact ih (by omega) v hv
    · rw [List.mem_singleton] at hv; subst hv
      exact ⟨by omega, by omega⟩
end Go.V
