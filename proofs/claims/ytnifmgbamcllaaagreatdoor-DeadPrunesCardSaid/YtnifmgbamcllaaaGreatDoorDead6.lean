/-
  Proved: the card of the law (DeadParts; DeadPrunes) of layer 16, for every graph and every row of numbers, with no condition of ours.
-/
import Derived.Test.YtnifmgbamcllaaaGreatDoorDead5
import Derived.OpenShut
import Derived.Lay
import Derived.LaidMore
import Derived.ProofKit
import Derived.SevenTiedAt
import Derived.Stop.Joined
import Derived.Stop.LaidErr
import Derived.ChangeOld
import Derived.Carry
import Derived.DataElems
import Derived.Test.YtnifmgbamcllaaaGreatDoorTie
import Derived.Test.YtnifmgbamcllaaaGreatDoorCards
set_option linter.all false
namespace Go.V
open Go.N
set_option maxRecDepth 20000
def T_dPrune : Tab := [(24, ⟨.strc [(0, 1, false), (1, 1, false)], 2, 32, (.agg #[(.slice none 0 0), (.int .i64 0)]), [8, 0]⟩), (25, ⟨.slice 3, 1, 24, (.slice none 0 0), [1]⟩), (3, ⟨.int .i64, 1, 8, (.int .i64 0), [0]⟩), (29, ⟨.int .i64, 1, 8, (.int .i64 0), [0]⟩), (22, ⟨.slice 43, 1, 24, (.slice none 0 0), [8]⟩), (43, ⟨.strc [(0, 1, false), (1, 1, false), (2, 1, false), (3, 1, false), (4, 1, false), (5, 1, false), (6, 1, false), (7, 1, false)], 8, 120, (.agg #[(.string .empty), (.int .i64 0), (.int .i64 0), (.string .empty), (.slice none 0 0), (.string .empty), (.int .i64 0), (.slice none 0 0)]), [0, 0, 0, 0, 1, 0, 0, 1]⟩), (28, ⟨.slice 4, 1, 24, (.slice none 0 0), [1]⟩), (4, ⟨.bool, 1, 1, (.bool false), [0]⟩)]
theorem TOK_dPrune : TOK Go.Proofs.Tryz.prog T_dPrune := ⟨⟨info_of Go.Proofs.Tryz.type24 rfl, by decide +kernel, by decide +kernel⟩, ⟨⟨info_of Go.Proofs.Tryz.type25 rfl, by decide +kernel, by decide +kernel⟩, ⟨⟨info_of Go.Proofs.Tryz.type3 rfl, by decide +kernel, by decide +kernel⟩, ⟨⟨info_of Go.Proofs.Tryz.type29 rfl, by decide +kernel, by decide +kernel⟩, ⟨⟨info_of Go.Proofs.Tryz.type22 rfl, by decide +kernel, by decide +kernel⟩, ⟨⟨info_of Go.Proofs.Tryz.type43 rfl, by decide +kernel, by decide +kernel⟩, ⟨⟨info_of Go.Proofs.Tryz.type28 rfl, by decide +kernel, by decide +kernel⟩, ⟨⟨info_of Go.Proofs.Tryz.type4 rfl, by decide +kernel, by decide +kernel⟩, trivial⟩⟩⟩⟩⟩⟩⟩⟩
def atZ (pl : List Int) (a : Int) : Int := pl.getD a.toNat 0
theorem atZ_nat {pl : List Int} {k : Nat} (h : k < pl.length) : atZ pl k = pl[k] := by simp [atZ, h]
def reN (pl : List Int) (x : Nd) : Nd := match opParts x.op with | some 1 => { x with a := atZ pl x.a } | some 2 => { x with a := atZ pl x.a, b := atZ pl x.b } | _ => x
theorem dP0 {x : Nd} (h : opParts x.op = some 0) : dParts x = [] := by rw [dParts, h]; rfl
theorem dP1 {x : Nd} (h : opParts x.op = some 1) : dParts x = [x.a] := by rw [dParts, h]; rfl
theorem dP2 {x : Nd} (h : opParts x.op = some 2) : dParts x = [x.a, x.b] := by rw [dParts, h]; rfl
theorem re0 {x : Nd} {pl : List Int} (h : opParts x.op = some 0) : reN pl x = x := by rw [reN, h]; rfl
theorem re1 {x : Nd} {pl : List Int} (h : opParts x.op = some 1) : reN pl x = { x with a := atZ pl x.a } := by rw [reN, h]; rfl
theorem re2 {x : Nd} {pl : List Int} (h : opParts x.op = some 2) : reN pl x = { x with a := atZ pl x.a, b := atZ pl x.b } := by rw [reN, h]; rfl
def pruneTo (l : List Nd) (N : Nat → Bool) : Nat → List Int × List Nd
  | 0 => ([], [])
  | i + 1 => match l[i]? with
    | none => pruneTo l N i
    | some x => if N i = true then ((pruneTo l N i).1 ++ [((pruneTo l N i).2.length : Int)], (pruneTo l N i).2 ++ [reN (pruneTo l N i).1 x]) else ((pruneTo l N i).1 ++ [-1], (pruneTo l N i).2)
theorem prune_yes {l : List Nd} {N : Nat → Bool} {i : Nat} {pl : List Int} {out : List Nd} {x : Nd} (h : pruneTo l N i = (pl, out)) (hx : l[i]? = some x) (hN : N i = true) : pruneTo l N (i + 1) = (pl ++ [(out.length : Int)], out ++ [reN pl x]) := by
  simp only [pruneTo, hx, h, hN, if_true]
theorem prune_no {l : List Nd} {N : Nat → Bool} {i : Nat} {pl : List Int} {out : List Nd} {x : Nd} (h : pruneTo l N i = (pl, out)) (hx : l[i]? = some x) (hN : N i = false) : pruneTo l N (i + 1) = (pl ++ [-1], out) := by
  simp [pruneTo, hx, h, hN]
theorem prune_len {l : List Nd} {N : Nat → Bool} : ∀ {i : Nat}, i ≤ l.length → (pruneTo l N i).1.length = i ∧ (pruneTo l N i).2.length ≤ i
  | 0, _ => ⟨rfl, Nat.le_refl _⟩
  | i + 1, h => by
    have ih := prune_len (l := l) (N := N) (i := i) (by omega)
    have hx : l[i]? = some l[i] := List.getElem?_eq_getElem (by omega)
    cases hN : N i with
    | true => rw [prune_yes (Prod.eta _).symm hx hN]; simp; omega
    | false => rw [prune_no (Prod.eta _).symm hx hN]; simp; omega
def pruneG (g : Gr) (N : Nat → Bool) : Gr × List Int := (⟨(pruneTo g.nodes N g.nodes.length).2, atZ (pruneTo g.nodes N g.nodes.length).1 g.loss⟩, (pruneTo g.nodes N g.nodes.length).1)
theorem rowZ_snoc (pl : List Int) (v : Int) : rowZ (pl ++ [v]) = (rowZ pl).take (rowZ pl).length ++ [[.int .i64 v]] := by rw [List.take_length]; simp [rowZ]
theorem rowN_snoc (l : List Nd) (x : Nd) {c : List AV} (h : c = x.cells) : rowN (l ++ [x]) = (rowN l).take (rowN l).length ++ [c] := by rw [List.take_length, h]; simp [rowN]
set_option maxHeartbeats 8000000 in
theorem c_dPrune (g : Gr) (keep : List Int) (hs : ∀ x ∈ g.nodes, x.Sm) (hl : g.nodes.length ≤ 1000) (hk : keep.length ≤ 1000) :
    VCall Go.Proofs.Tryz.prog GL 8 [.agg g.cells, .ro 1 (rowZ keep)]
      (fun y => y = if okDead g keep = true then .tup [.agg (pruneG g (NB g keep)).1.cells, .ro 1 (rowZ (pruneG g (NB g keep)).2), .int .i64 0] else .tup [.agg [.ro 8 [], .int .i64 0], .ro 1 [], .int .i64 1]) := by
  have hnd := c_dNeeded g keep hs hl hk
  refine VCall.taken ?_
  cases hok : okDead g keep
  · rw [hok, if_neg (by simp)] at hnd
    rw [if_neg (by simp)]
    refine vcall_of TOK_dPrune HM Go.Proofs.Tryz.func8 rfl (by decide +kernel) (by decide +kernel) rfl ?_
    repeat' ((conv => whnf); first | ((with_reducible apply Xq); assumption) | (with_reducible first | apply Xa | (first | apply xi | apply xp | apply xP); omega | apply Xe | refine Xg (by assumption) ?_) | refine Xo (by assumption) ?_ | refine x_0 (by first | assumption | rfl) ?_ | refine x_1 (by first | assumption | rfl) ?_ | refine Or.inl ⟨rfl, ?_⟩ | (split <;> (first | (rename_i u h; clear u) | rename_i h) <;> (try rewrite [h]) <;> (first | replace h := dt h | replace h := df h | replace h := Nt h | replace h := Nf h | skip) <;> (try dsimp only at h) <;> (first | contradiction | (exfalso; omega) | skip)) | (refine Or.inl ⟨_, by assumption, ?_⟩; first | rintro _ rfl | skip))
    all_goals (conv => whnf)
    exact ⟨_, roTo3 (roToA (show RoTo .nils (.ro 8 []) from ⟨8, rfl⟩) rfl) (show RoTo .nils (.ro 1 []) from ⟨1, rfl⟩) rfl, rfl⟩
  rw [hok, if_pos rfl] at hnd
  rw [if_pos rfl]
  have hg : grOK g = true := by simp only [okDead, Bool.and_eq_true] at hok; exact hok.1
  obtain ⟨h1, h2, q, hq1, hq⟩ := ok_pre hg
  have hpt := fun {i : Nat} {x : Nd} => @ok_parts g hg i x
  have hfit := fun {i : Nat} {x : Nd} => @ok_fit g hg i x
  have hget : ∀ i (h : i < g.nodes.length), g.nodes[i]? = some g.nodes[i] := fun i h => List.getElem?_eq_getElem h
  generalize NB g keep = N at hnd ⊢
  clear hok hg
  obtain ⟨l, p⟩ := g
  dsimp only at hs hl hnd h1 h2 hq1 hq hpt hfit hget
  subst hq1
  show VCall _ _ _ [.agg [.ro 8 (rowN l), .int .i64 (q : Nat)], _] _
  have hlr := rowN_length l
  have hfin : ∀ pl out, pruneTo l N l.length = (pl, out) → pruneG ⟨l, (q : Int)⟩ N = (⟨out, atZ pl q⟩, pl) := fun pl out h => by simp only [pruneG, h]
  generalize pruneG ⟨l, (q : Int)⟩ N = G at hfin ⊢
  refine vcall_of TOK_dPrune HM Go.Proofs.Tryz.func8 rfl (by decide +kernel) (by decide +kernel) rfl ?_
  repeat' ((conv => whnf); first | ((with_reducible apply Xq); assumption) | (with_reducible first | apply Xa | (first | apply xi | apply xp | apply xP); omega | apply Xe | refine Xg (by assumption) ?_) | refine Xo (by assumption) ?_ | refine x_0 (by first | assumption | rfl) ?_ | refine x_1 (by first | assumption | rfl) ?_ | refine Or.inl ⟨rfl, ?_⟩ | (split <;> (first | (rename_i u h; clear u) | rename_i h) <;> (try rewrite [h]) <;> (first | replace h := dt h | replace h := df h | replace h := Nt h | replace h := Nf h | skip) <;> (try dsimp only at h) <;> (first | contradiction | (exfalso; omega) | skip)) | (refine Or.inl ⟨_, by assumption, ?_⟩; first | rintro _ rfl | skip))
  refine ⟨[2, 4, 7, 9, 10, 25, 26, 27], [0, 1, 2], fun m st => ∃ (i : Nat) (pl : List Int) (out : List Nd), i ≤ l.length ∧ m = l.length - i ∧ pruneTo l N i = (pl, out) ∧
    (i = 0 ∧ st = ⟨[(2, .bptr 0 0), (4, .bptr 1 0), (7, .ro 1 (fB l.length N)), (9, .bptr 2 0), (10, .nils), (25, .ro 8 (rowN l)), (26, .int .i64 ((rowN l).length : Nat)), (27, .int .i64 (i : Nat))], [.box 24 [.ro 8 (rowN l), .int .i64 (q : Nat)], .box 24 [.nils, .int .i64 0], .box 24 [.nils, .int .i64 0]]⟩ ∨ (0 < i ∧ out = [] ∧ st = ⟨[(2, .bptr 0 0), (4, .bptr 1 0), (7, .ro 1 (fB l.length N)), (9, .bptr 2 0), (10, .own 3 0 (rowZ pl).length), (25, .ro 8 (rowN l)), (26, .int .i64 ((rowN l).length : Nat)), (27, .int .i64 (i : Nat))], [.box 24 [.ro 8 (rowN l), .int .i64 (q : Nat)], .box 24 [.nils, .int .i64 0], .box 24 [.nils, .int .i64 0], .row false 3 1 (rowZ pl)]⟩) ∨ (0 < i ∧ st = ⟨[(2, .bptr 0 0), (4, .bptr 1 0), (7, .ro 1 (fB l.length N)), (9, .bptr 2 0), (10, .own 3 0 (rowZ pl).length), (25, .ro 8 (rowN l)), (26, .int .i64 ((rowN l).length : Nat)), (27, .int .i64 (i : Nat))], [.box 24 [.ro 8 (rowN l), .int .i64 (q : Nat)], .box 24 [.nils, .int .i64 0], .box 24 [.own 4 0 (rowN out).length, .int .i64 0], .row false 3 1 (rowZ pl), .row false 43 8 (rowN out)]⟩)), rfl, ⟨l.length, 0, [], [], by omega, rfl, rfl, .inl ⟨rfl, rfl⟩⟩, ?_⟩
  rintro m _ ⟨i, pl, out, hi, hm, hpr, hst⟩
  have hlen := prune_len (l := l) (N := N) hi
  rw [hpr] at hlen
  dsimp only at hlen
  have hpl := rowZ_length pl
  have hol := rowN_length out
  rcases Nat.lt_or_ge i l.length with hil | hge
  · obtain ⟨x, hx⟩ : ∃ x, x = l[i] := ⟨_, rfl⟩
    have hgx : l[i]? = some x := by rw [hx]; exact hget i hil
    have g : (rowN l)[i]? = some x.cells := by rw [hx]; exact rowN_get hil
    have g1 : (fB l.length N)[i]? = some [.bool (N i)] := fB_get hil
    clear hx
    cases hN : N i
    · have hnx := prune_no hpr hgx hN
      rw [hN] at g1
      obtain ⟨op, a, b, name, shape, k, n, data⟩ := x
      rcases hst with ⟨rfl, rfl⟩ | ⟨h0, rfl, rfl⟩ | ⟨h0, rfl⟩
      · obtain ⟨rfl, rfl⟩ : pl = [] ∧ out = [] := by cases hpr; exact ⟨rfl, rfl⟩
        repeat' ((conv => whnf); first | ((with_reducible apply Xq); assumption) | (with_reducible first | apply Xa | (first | apply xi | apply xp | apply xP); omega | apply Xe | refine Xg (by assumption) ?_) | refine Xo (by assumption) ?_ | refine x_0 (by first | assumption | rfl) ?_ | refine x_1 (by first | assumption | rfl) ?_ | refine Or.inl ⟨rfl, ?_⟩ | (split <;> (first | (rename_i u h; clear u) | rename_i h) <;> (try rewrite [h]) <;> (first | replace h := dt h | replace h := df h | replace h := Nt h | replace h := Nf h | skip) <;> (try dsimp only at h) <;> (first | contradiction | (exfalso; omega) | skip)) | (refine Or.inl ⟨_, by assumption, ?_⟩; first | rintro _ rfl | skip))
        conv => whnf
        refine ⟨Nat.le_of_ble_eq_true rfl, fun h => Nat.succ_ne_zero _ (congrArg List.length h), ?_⟩
        repeat' ((conv => whnf); first | ((with_reducible apply Xq); assumption) | (with_reducible first | apply Xa | (first | apply xi | apply xp | apply xP); omega | apply Xe | refine Xg (by assumption) ?_) | refine Xo (by assumption) ?_ | refine x_0 (by first | assumption | rfl) ?_ | refine x_1 (by first | assumption | rfl) ?_ | refine Or.inl ⟨rfl, ?_⟩ | (split <;> (first | (rename_i u h; clear u) | rename_i h) <;> (try rewrite [h]) <;> (first | replace h := dt h | replace h := df h | replace h := Nt h | replace h := Nf h | skip) <;> (try dsimp only at h) <;> (first | contradiction | (exfalso; omega) | skip)) | (refine Or.inl ⟨_, by assumption, ?_⟩; first | rintro _ rfl | skip))
        exact ⟨[0, 1, 2, 5], l.length - (0 + 1), rfl, by omega, 0 + 1, _, _, by omega, rfl, hnx, .inr (.inl ⟨by omega, rfl, rfl⟩)⟩
      · repeat' ((conv => whnf); first | ((with_reducible apply Xq); assumption) | (with_reducible first | apply Xa | (first | apply xi | apply xp | apply xP); omega | apply Xe | refine Xg (by assumption) ?_) | refine Xo (by assumption) ?_ | refine x_0 (by first | assumption | rfl) ?_ | refine x_1 (by first | assumption | rfl) ?_ | refine Or.inl ⟨rfl, ?_⟩ | (split <;> (first | (rename_i u h; clear u) | rename_i h) <;> (try rewrite [h]) <;> (first | replace h := dt h | replace h := df h | replace h := Nt h | replace h := Nf h | skip) <;> (try dsimp only at h) <;> (first | contradiction | (exfalso; omega) | skip)) | (refine Or.inl ⟨_, by assumption, ?_⟩; first | rintro _ rfl | skip))
        refine ⟨Nat.le_refl _, (show ((rowZ pl).length + 1) * 8 ≤ 140737488355328 by omega), _, rowZ_snoc pl _, ?_⟩
        repeat' ((conv => whnf); first | ((with_reducible apply Xq); assumption) | (with_reducible first | apply Xa | (first | apply xi | apply xp | apply xP); omega | apply Xe | refine Xg (by assumption) ?_) | refine Xo (by assumption) ?_ | refine x_0 (by first | assumption | rfl) ?_ | refine x_1 (by first | assumption | rfl) ?_ | refine Or.inl ⟨rfl, ?_⟩ | (split <;> (first | (rename_i u h; clear u) | rename_i h) <;> (try rewrite [h]) <;> (first | replace h := dt h | replace h := df h | replace h := Nt h | replace h := Nf h | skip) <;> (try dsimp only at h) <;> (first | contradiction | (exfalso; omega) | skip)) | (refine Or.inl ⟨_, by assumption, ?_⟩; first | rintro _ rfl | skip))
        exact ⟨[0, 1, 2, 6], l.length - (i + 1), rfl, by omega, i + 1, _, _, by omega, rfl, hnx, .inr (.inl ⟨by omega, rfl, rfl⟩)⟩
      · repeat' ((conv => whnf); first | ((with_reducible apply Xq); assumption) | (with_reducible first | apply Xa | (first | apply xi | apply xp | apply xP); omega | apply Xe | refine Xg (by assumption) ?_) | refine Xo (by assumption) ?_ | refine x_0 (by first | assumption | rfl) ?_ | refine x_1 (by first | assumption | rfl) ?_ | refine Or.inl ⟨rfl, ?_⟩ | (split <;> (first | (rename_i u h; clear u) | rename_i h) <;> (try rewrite [h]) <;> (first | replace h := dt h | replace h := df h | replace h := Nt h | replace h := Nf h | skip) <;> (try dsimp only at h) <;> (first | contradiction | (exfalso; omega) | skip)) | (refine Or.inl ⟨_, by assumption, ?_⟩; first | rintro _ rfl | skip))
        refine ⟨Nat.le_refl _, (show ((rowZ pl).length + 1) * 8 ≤ 140737488355328 by omega), _, rowZ_snoc pl _, ?_⟩
        repeat' ((conv => whnf); first | ((with_reducible apply Xq); assumption) | (with_reducible first | apply Xa | (first | apply xi | apply xp | apply xP); omega | apply Xe | refine Xg (by assumption) ?_) | refine Xo (by assumption) ?_ | refine x_0 (by first | assumption | rfl) ?_ | refine x_1 (by first | assumption | rfl) ?_ | refine Or.inl ⟨rfl, ?_⟩ | (split <;> (first | (rename_i u h; clear u) | rename_i h) <;> (try rewrite [h]) <;> (first | replace h := dt h | replace h := df h | replace h := Nt h | replace h := Nf h | skip) <;> (try dsimp only at h) <;> (first | contradiction | (exfalso; omega) | skip)) | (refine Or.inl ⟨_, by assumption, ?_⟩; first | rintro _ rfl | skip))
        exact ⟨[0, 1, 2, 7, 4], l.length - (i + 1), rfl, by omega, i + 1, _, _, by omega, rfl, hnx, .inr (.inr ⟨by omega, rfl⟩)⟩
    · have hnx := prune_yes hpr hgx hN
      rw [hN] at g1
      rcases hst with ⟨rfl, rfl⟩ | ⟨h0, rfl, rfl⟩ | ⟨h0, rfl⟩
      · obtain ⟨rfl, rfl⟩ : pl = [] ∧ out = [] := by cases hpr; exact ⟨rfl, rfl⟩
        obtain ⟨m0, hop, F⟩ := hfit hgx
        have hm2 := opParts_le hop
        have hDn := hpt hgx
        have hdp := c_dparts GL x
        obtain ⟨op, a, b, name, shape, k, n, data⟩ := x
        have h3 : m0 = 0 ∨ m0 = 1 ∨ m0 = 2 := by omega
        rcases h3 with rfl | rfl | rfl
        · rw [dP0 hop] at hdp
          rw [re0 hop] at hnx
          repeat' ((conv => whnf); first | ((with_reducible apply Xq); assumption) | (with_reducible first | apply Xa | (first | apply xi | apply xp | apply xP); omega | apply Xe | refine Xg (by assumption) ?_) | refine Xo (by assumption) ?_ | refine x_0 (by first | assumption | rfl) ?_ | refine x_1 (by first | assumption | rfl) ?_ | refine Or.inl ⟨rfl, ?_⟩ | (split <;> (first | (rename_i u h; clear u) | rename_i h) <;> (try rewrite [h]) <;> (first | replace h := dt h | replace h := df h | replace h := Nt h | replace h := Nf h | skip) <;> (try dsimp only at h) <;> (first | contradiction | (exfalso; omega) | skip)) | (refine Or.inl ⟨_, by assumption, ?_⟩; first | rintro _ rfl | skip))
          conv => whnf
          refine ⟨Nat.le_of_ble_eq_true rfl, fun h => Nat.succ_ne_zero _ (congrArg List.length h), ?_⟩
          repeat' ((conv => whnf); first | ((with_reducible apply Xq); assumption) | (with_reducible first | apply Xa | (first | apply xi | apply xp | apply xP); omega | apply Xe | refine Xg (by assumption) ?_) | refine Xo (by assumption) ?_ | refine x_0 (by first | assumption | rfl) ?_ | refine x_1 (by first | assumption | rfl) ?_ | refine Or.inl ⟨rfl, ?_⟩ | (split <;> (first | (rename_i u h; clear u) | rename_i h) <;> (try rewrite [h]) <;> (first | replace h := dt h | replace h := df h | replace h := Nt h | replace h := Nf h | skip) <;> (try dsimp only at h) <;> (first | contradiction | (exfalso; omega) | skip)) | (refine Or.inl ⟨_, by assumption, ?_⟩; first | rintro _ rfl | skip))
          conv => whnf
          refine ⟨Nat.le_of_ble_eq_true rfl, fun h => Nat.succ_ne_zero _ (congrArg List.length h), ?_⟩
          repeat' ((conv => whnf); first | ((with_reducible apply Xq); assumption) | (with_reducible first | apply Xa | (first | apply xi | apply xp | apply xP); omega | apply Xe | refine Xg (by assumption) ?_) | refine Xo (by assumption) ?_ | refine x_0 (by first | assumption | rfl) ?_ | refine x_1 (by first | assumption | rfl) ?_ | refine Or.inl ⟨rfl, ?_⟩ | (split <;> (first | (rename_i u h; clear u) | rename_i h) <;> (try rewrite [h]) <;> (first | replace h := dt h | replace h := df h | replace h := Nt h | replace h := Nf h | skip) <;> (try dsimp only at h) <;> (first | contradiction | (exfalso; omega) | skip)) | (refine Or.inl ⟨_, by assumption, ?_⟩; first | rintro _ rfl | skip))
          exact ⟨[0, 1, 2, 5, 7], l.length - (0 + 1), rfl, by omega, 0 + 1, _, [⟨op, a, b, name, shape, k, n, data⟩], by omega, rfl, hnx, .inr (.inr ⟨by omega, rfl⟩)⟩
        · obtain ⟨u, _, hu⟩ := hDn a (by rw [dP1 hop]; simp)
          omega
        · obtain ⟨u, _, hu⟩ := hDn a (by rw [dP2 hop]; simp)
          omega
      · obtain ⟨m0, hop, F⟩ := hfit hgx
        have hm2 := opParts_le hop
        have h3 : m0 = 0 ∨ m0 = 1 ∨ m0 = 2 := by omega
        have hDn := hpt hgx
        have hdp := c_dparts GL x
        obtain ⟨op, a, b, name, shape, k, n, data⟩ := x
        rcases h3 with rfl | rfl | rfl
        · rw [dP0 hop] at hdp
          rw [re0 hop] at hnx
          repeat' ((conv => whnf); first | ((with_reducible apply Xq); assumption) | (with_reducible first | apply Xa | (first | apply xi | apply xp | apply xP); omega | apply Xe | refine Xg (by assumption) ?_) | refine Xo (by assumption) ?_ | refine x_0 (by first | assumption | rfl) ?_ | refine x_1 (by first | assumption | rfl) ?_ | refine Or.inl ⟨rfl, ?_⟩ | (split <;> (first | (rename_i u h; clear u) | rename_i h) <;> (try rewrite [h]) <;> (first | replace h := dt h | replace h := df h | replace h := Nt h | replace h := Nf h | skip) <;> (try dsimp only at h) <;> (first | contradiction | (exfalso; omega) | skip)) | (refine Or.inl ⟨_, by assumption, ?_⟩; first | rintro _ rfl | skip))
          refine ⟨Nat.le_refl _, (show ((rowZ pl).length + 1) * 8 ≤ 140737488355328 by omega), _, rowZ_snoc pl _, ?_⟩
          repeat' ((conv => whnf); first | ((with_reducible apply Xq); assumption) | (with_reducible first | apply Xa | (first | apply xi | apply xp | apply xP); omega | apply Xe | refine Xg (by assumption) ?_) | refine Xo (by assumption) ?_ | refine x_0 (by first | assumption | rfl) ?_ | refine x_1 (by first | assumption | rfl) ?_ | refine Or.inl ⟨rfl, ?_⟩ | (split <;> (first | (rename_i u h; clear u) | rename_i h) <;> (try rewrite [h]) <;> (first | replace h := dt h | replace h := df h | replace h := Nt h | replace h := Nf h | skip) <;> (try dsimp only at h) <;> (first | contradiction | (exfalso; omega) | skip)) | (refine Or.inl ⟨_, by assumption, ?_⟩; first | rintro _ rfl | skip))
          conv => whnf
          refine ⟨Nat.le_of_ble_eq_true rfl, fun h => Nat.succ_ne_zero _ (congrArg List.length h), ?_⟩
          repeat' ((conv => whnf); first | ((with_reducible apply Xq); assumption) | (with_reducible first | apply Xa | (first | apply xi | apply xp | apply xP); omega | apply Xe | refine Xg (by assumption) ?_) | refine Xo (by assumption) ?_ | refine x_0 (by first | assumption | rfl) ?_ | refine x_1 (by first | assumption | rfl) ?_ | refine Or.inl ⟨rfl, ?_⟩ | (split <;> (first | (rename_i u h; clear u) | rename_i h) <;> (try rewrite [h]) <;> (first | replace h := dt h | replace h := df h | replace h := Nt h | replace h := Nf h | skip) <;> (try dsimp only at h) <;> (first | contradiction | (exfalso; omega) | skip)) | (refine Or.inl ⟨_, by assumption, ?_⟩; first | rintro _ rfl | skip))
          exact ⟨[0, 1, 2, 6, 8], l.length - (i + 1), rfl, by omega, i + 1, _, [⟨op, a, b, name, shape, k, n, data⟩], by omega, rfl, hnx, .inr (.inr ⟨by omega, rfl⟩)⟩
        · rw [dP1 hop] at hdp hDn
          rw [re1 hop] at hnx
          dsimp only at hdp hnx hDn
          obtain ⟨u, rfl, hu⟩ : ∃ u : Nat, a = u ∧ u < i := hDn a (by simp)
          have gu : (rowZ pl)[0 + u]? = some [.int .i64 (atZ pl u)] := by rw [Nat.zero_add, rowZ_get (by omega), atZ_nat (by omega)]
          repeat' ((conv => whnf); first | ((with_reducible apply Xq); assumption) | (with_reducible first | apply Xa | (first | apply xi | apply xp | apply xP); omega | apply Xe | refine Xg (by assumption) ?_) | refine Xo (by assumption) ?_ | refine x_0 (by first | assumption | rfl) ?_ | refine x_1 (by first | assumption | rfl) ?_ | refine Or.inl ⟨rfl, ?_⟩ | (split <;> (first | (rename_i u h; clear u) | rename_i h) <;> (try rewrite [h]) <;> (first | replace h := dt h | replace h := df h | replace h := Nt h | replace h := Nf h | skip) <;> (try dsimp only at h) <;> (first | contradiction | (exfalso; omega) | skip)) | (refine Or.inl ⟨_, by assumption, ?_⟩; first | rintro _ rfl | skip))
          refine ⟨Nat.le_refl _, (show ((rowZ pl).length + 1) * 8 ≤ 140737488355328 by omega), _, rowZ_snoc pl _, ?_⟩
          repeat' ((conv => whnf); first | ((with_reducible apply Xq); assumption) | (with_reducible first | apply Xa | (first | apply xi | apply xp | apply xP); omega | apply Xe | refine Xg (by assumption) ?_) | refine Xo (by assumption) ?_ | refine x_0 (by first | assumption | rfl) ?_ | refine x_1 (by first | assumption | rfl) ?_ | refine Or.inl ⟨rfl, ?_⟩ | (split <;> (first | (rename_i u h; clear u) | rename_i h) <;> (try rewrite [h]) <;> (first | replace h := dt h | replace h := df h | replace h := Nt h | replace h := Nf h | skip) <;> (try dsimp only at h) <;> (first | contradiction | (exfalso; omega) | skip)) | (refine Or.inl ⟨_, by assumption, ?_⟩; first | rintro _ rfl | skip))
          conv => whnf
          refine ⟨Nat.le_of_ble_eq_true rfl, fun h => Nat.succ_ne_zero _ (congrArg List.length h), ?_⟩
          repeat' ((conv => whnf); first | ((with_reducible apply Xq); assumption) | (with_reducible first | apply Xa | (first | apply xi | apply xp | apply xP); omega | apply Xe | refine Xg (by assumption) ?_) | refine Xo (by assumption) ?_ | refine x_0 (by first | assumption | rfl) ?_ | refine x_1 (by first | assumption | rfl) ?_ | refine Or.inl ⟨rfl, ?_⟩ | (split <;> (first | (rename_i u h; clear u) | rename_i h) <;> (try rewrite [h]) <;> (first | replace h := dt h | replace h := df h | replace h := Nt h | replace h := Nf h | skip) <;> (try dsimp only at h) <;> (first | contradiction | (exfalso; omega) | skip)) | (refine Or.inl ⟨_, by assumption, ?_⟩; first | rintro _ rfl | skip))
          exact ⟨[0, 1, 2, 6, 8], l.length - (i + 1), rfl, by omega, i + 1, _, [⟨op, atZ pl u, b, name, shape, k, n, data⟩], by omega, rfl, hnx, .inr (.inr ⟨by omega, rfl⟩)⟩
        · rw [dP2 hop] at hdp hDn
          rw [re2 hop] at hnx
          dsimp only at hdp hnx hDn
          obtain ⟨u, rfl, hu⟩ : ∃ u : Nat, a = u ∧ u < i := hDn a (by simp)
          obtain ⟨v, rfl, hv⟩ : ∃ u : Nat, b = u ∧ u < i := hDn b (by simp)
          have gu : (rowZ pl)[0 + u]? = some [.int .i64 (atZ pl u)] := by rw [Nat.zero_add, rowZ_get (by omega), atZ_nat (by omega)]
          have gv : (rowZ pl)[0 + v]? = some [.int .i64 (atZ pl v)] := by rw [Nat.zero_add, rowZ_get (by omega), atZ_nat (by omega)]
          repeat' ((conv => whnf); first | ((with_reducible apply Xq); assumption) | (with_reducible first | apply Xa | (first | apply xi | apply xp | apply xP); omega | apply Xe | refine Xg (by assumption) ?_) | refine Xo (by assumption) ?_ | refine x_0 (by first | assumption | rfl) ?_ | refine x_1 (by first | assumption | rfl) ?_ | refine Or.inl ⟨rfl, ?_⟩ | (split <;> (first | (rename_i u h; clear u) | rename_i h) <;> (try rewrite [h]) <;> (first | replace h := dt h | replace h := df h | replace h := Nt h | replace h := Nf h | skip) <;> (try dsimp only at h) <;> (first | contradiction | (exfalso; omega) | skip)) | (refine Or.inl ⟨_, by assumption, ?_⟩; first | rintro _ rfl | skip))
          refine ⟨Nat.le_refl _, (show ((rowZ pl).length + 1) * 8 ≤ 140737488355328 by omega), _, rowZ_snoc pl _, ?_⟩
          repeat' ((conv => whnf); first | ((with_reducible apply Xq); assumption) | (with_reducible first | apply Xa | (first | apply xi | apply xp | apply xP); omega | apply Xe | refine Xg (by assumption) ?_) | refine Xo (by assumption) ?_ | refine x_0 (by first | assumption | rfl) ?_ | refine x_1 (by first | assumption | rfl) ?_ | refine Or.inl ⟨rfl, ?_⟩ | (split <;> (first | (rename_i u h; clear u) | rename_i h) <;> (try rewrite [h]) <;> (first | replace h := dt h | replace h := df h | replace h := Nt h | replace h := Nf h | skip) <;> (try dsimp only at h) <;> (first | contradiction | (exfalso; omega) | skip)) | (refine Or.inl ⟨_, by assumption, ?_⟩; first | rintro _ rfl | skip))
          conv => whnf
          refine ⟨Nat.le_of_ble_eq_true rfl, fun h => Nat.succ_ne_zero _ (congrArg List.length h), ?_⟩
          repeat' ((conv => whnf); first | ((with_reducible apply Xq); assumption) | (with_reducible first | apply Xa | (first | apply xi | apply xp | apply xP); omega | apply Xe | refine Xg (by assumption) ?_) | refine Xo (by assumption) ?_ | refine x_0 (by first | assumption | rfl) ?_ | refine x_1 (by first | assumption | rfl) ?_ | refine Or.inl ⟨rfl, ?_⟩ | (split <;> (first | (rename_i u h; clear u) | rename_i h) <;> (try rewrite [h]) <;> (first | replace h := dt h | replace h := df h | replace h := Nt h | replace h := Nf h | skip) <;> (try dsimp only at h) <;> (first | contradiction | (exfalso; omega) | skip)) | (refine Or.inl ⟨_, by assumption, ?_⟩; first | rintro _ rfl | skip))
          exact ⟨[0, 1, 2, 6, 8], l.length - (i + 1), rfl, by omega, i + 1, _, [⟨op, atZ pl u, atZ pl v, name, shape, k, n, data⟩], by omega, rfl, hnx, .inr (.inr ⟨by omega, rfl⟩)⟩
      · rw [show out.length = (rowN out).length from (rowN_length out).symm] at hnx
        obtain ⟨m0, hop, F⟩ := hfit hgx
        have hm2 := opParts_le hop
        have h3 : m0 = 0 ∨ m0 = 1 ∨ m0 = 2 := by omega
        have hDn := hpt hgx
        have hdp := c_dparts GL x
        obtain ⟨op, a, b, name, shape, k, n, data⟩ := x
        rcases h3 with rfl | rfl | rfl
        · rw [dP0 hop] at hdp
          rw [re0 hop] at hnx
          repeat' ((conv => whnf); first | ((with_reducible apply Xq); assumption) | (with_reducible first | apply Xa | (first | apply xi | apply xp | apply xP); omega | apply Xe | refine Xg (by assumption) ?_) | refine Xo (by assumption) ?_ | refine x_0 (by first | assumption | rfl) ?_ | refine x_1 (by first | assumption | rfl) ?_ | refine Or.inl ⟨rfl, ?_⟩ | (split <;> (first | (rename_i u h; clear u) | rename_i h) <;> (try rewrite [h]) <;> (first | replace h := dt h | replace h := df h | replace h := Nt h | replace h := Nf h | skip) <;> (try dsimp only at h) <;> (first | contradiction | (exfalso; omega) | skip)) | (refine Or.inl ⟨_, by assumption, ?_⟩; first | rintro _ rfl | skip))
          refine ⟨Nat.le_refl _, (show ((rowZ pl).length + 1) * 8 ≤ 140737488355328 by omega), _, rowZ_snoc pl _, ?_⟩
          repeat' ((conv => whnf); first | ((with_reducible apply Xq); assumption) | (with_reducible first | apply Xa | (first | apply xi | apply xp | apply xP); omega | apply Xe | refine Xg (by assumption) ?_) | refine Xo (by assumption) ?_ | refine x_0 (by first | assumption | rfl) ?_ | refine x_1 (by first | assumption | rfl) ?_ | refine Or.inl ⟨rfl, ?_⟩ | (split <;> (first | (rename_i u h; clear u) | rename_i h) <;> (try rewrite [h]) <;> (first | replace h := dt h | replace h := df h | replace h := Nt h | replace h := Nf h | skip) <;> (try dsimp only at h) <;> (first | contradiction | (exfalso; omega) | skip)) | (refine Or.inl ⟨_, by assumption, ?_⟩; first | rintro _ rfl | skip))
          refine ⟨Nat.le_refl _, (show ((rowN out).length + 1) * 120 ≤ 140737488355328 by omega), _, rowN_snoc out ⟨op, a, b, name, shape, k, n, data⟩ rfl, ?_⟩
          repeat' ((conv => whnf); first | ((with_reducible apply Xq); assumption) | (with_reducible first | apply Xa | (first | apply xi | apply xp | apply xP); omega | apply Xe | refine Xg (by assumption) ?_) | refine Xo (by assumption) ?_ | refine x_0 (by first | assumption | rfl) ?_ | refine x_1 (by first | assumption | rfl) ?_ | refine Or.inl ⟨rfl, ?_⟩ | (split <;> (first | (rename_i u h; clear u) | rename_i h) <;> (try rewrite [h]) <;> (first | replace h := dt h | replace h := df h | replace h := Nt h | replace h := Nf h | skip) <;> (try dsimp only at h) <;> (first | contradiction | (exfalso; omega) | skip)) | (refine Or.inl ⟨_, by assumption, ?_⟩; first | rintro _ rfl | skip))
          exact ⟨[0, 1, 2, 7, 9], l.length - (i + 1), rfl, by omega, i + 1, _, _, by omega, rfl, hnx, .inr (.inr ⟨by omega, rfl⟩)⟩
        · rw [dP1 hop] at hdp hDn
          rw [re1 hop] at hnx
          dsimp only at hdp hnx hDn
          obtain ⟨u, rfl, hu⟩ : ∃ u : Nat, a = u ∧ u < i := hDn a (by simp)
          have gu : (rowZ pl)[0 + u]? = some [.int .i64 (atZ pl u)] := by rw [Nat.zero_add, rowZ_get (by omega), atZ_nat (by omega)]
          repeat' ((conv => whnf); first | ((with_reducible apply Xq); assumption) | (with_reducible first | apply Xa | (first | apply xi | apply xp | apply xP); omega | apply Xe | refine Xg (by assumption) ?_) | refine Xo (by assumption) ?_ | refine x_0 (by first | assumption | rfl) ?_ | refine x_1 (by first | assumption | rfl) ?_ | refine Or.inl ⟨rfl, ?_⟩ | (split <;> (first | (rename_i u h; clear u) | rename_i h) <;> (try rewrite [h]) <;> (first | replace h := dt h | replace h := df h | replace h := Nt h | replace h := Nf h | skip) <;> (try dsimp only at h) <;> (first | contradiction | (exfalso; omega) | skip)) | (refine Or.inl ⟨_, by assumption, ?_⟩; first | rintro _ rfl | skip))
          refine ⟨Nat.le_refl _, (show ((rowZ pl).length + 1) * 8 ≤ 140737488355328 by omega), _, rowZ_snoc pl _, ?_⟩
          repeat' ((conv => whnf); first | ((with_reducible apply Xq); assumption) | (with_reducible first | apply Xa | (first | apply xi | apply xp | apply xP); omega | apply Xe | refine Xg (by assumption) ?_) | refine Xo (by assumption) ?_ | refine x_0 (by first | assumption | rfl) ?_ | refine x_1 (by first | assumption | rfl) ?_ | refine Or.inl ⟨rfl, ?_⟩ | (split <;> (first | (rename_i u h; clear u) | rename_i h) <;> (try rewrite [h]) <;> (first | replace h := dt h | replace h := df h | replace h := Nt h | replace h := Nf h | skip) <;> (try dsimp only at h) <;> (first | contradiction | (exfalso; omega) | skip)) | (refine Or.inl ⟨_, by assumption, ?_⟩; first | rintro _ rfl | skip))
          refine ⟨Nat.le_refl _, (show ((rowN out).length + 1) * 120 ≤ 140737488355328 by omega), _, rowN_snoc out ⟨op, atZ pl u, b, name, shape, k, n, data⟩ rfl, ?_⟩
          repeat' ((conv => whnf); first | ((with_reducible apply Xq); assumption) | (with_reducible first | apply Xa | (first | apply xi | apply xp | apply xP); omega | apply Xe | refine Xg (by assumption) ?_) | refine Xo (by assumption) ?_ | refine x_0 (by first | assumption | rfl) ?_ | refine x_1 (by first | assumption | rfl) ?_ | refine Or.inl ⟨rfl, ?_⟩ | (split <;> (first | (rename_i u h; clear u) | rename_i h) <;> (try rewrite [h]) <;> (first | replace h := dt h | replace h := df h | replace h := Nt h | replace h := Nf h | skip) <;> (try dsimp only at h) <;> (first | contradiction | (exfalso; omega) | skip)) | (refine Or.inl ⟨_, by assumption, ?_⟩; first | rintro _ rfl | skip))
          exact ⟨[0, 1, 2, 7, 9], l.length - (i + 1), rfl, by omega, i + 1, _, _, by omega, rfl, hnx, .inr (.inr ⟨by omega, rfl⟩)⟩
        · rw [dP2 hop] at hdp hDn
          rw [re2 hop] at hnx
          dsimp only at hdp hnx hDn
          obtain ⟨u, rfl, hu⟩ : ∃ u : Nat, a = u ∧ u < i := hDn a (by simp)
          obtain ⟨v, rfl, hv⟩ : ∃ u : Nat, b = u ∧ u < i := hDn b (by simp)
          have gu : (rowZ pl)[0 + u]? = some [.int .i64 (atZ pl u)] := by rw [Nat.zero_add, rowZ_get (by omega), atZ_nat (by omega)]
          have gv : (rowZ pl)[0 + v]? = some [.int .i64 (atZ pl v)] := by rw [Nat.zero_add, rowZ_get (by omega), atZ_nat (by omega)]
          repeat' ((conv => whnf); first | ((with_reducible apply Xq); assumption) | (with_reducible first | apply Xa | (first | apply xi | apply xp | apply xP); omega | apply Xe | refine Xg (by assumption) ?_) | refine Xo (by assumption) ?_ | refine x_0 (by first | assumption | rfl) ?_ | refine x_1 (by first | assumption | rfl) ?_ | refine Or.inl ⟨rfl, ?_⟩ | (split <;> (first | (rename_i u h; clear u) | rename_i h) <;> (try rewrite [h]) <;> (first | replace h := dt h | replace h := df h | replace h := Nt h | replace h := Nf h | skip) <;> (try dsimp only at h) <;> (first | contradiction | (exfalso; omega) | skip)) | (refine Or.inl ⟨_, by assumption, ?_⟩; first | rintro _ rfl | skip))
          refine ⟨Nat.le_refl _, (show ((rowZ pl).length + 1) * 8 ≤ 140737488355328 by omega), _, rowZ_snoc pl _, ?_⟩
          repeat' ((conv => whnf); first | ((with_reducible apply Xq); assumption) | (with_reducible first | apply Xa | (first | apply xi | apply xp | apply xP); omega | apply Xe | refine Xg (by assumption) ?_) | refine Xo (by assumption) ?_ | refine x_0 (by first | assumption | rfl) ?_ | refine x_1 (by first | assumption | rfl) ?_ | refine Or.inl ⟨rfl, ?_⟩ | (split <;> (first | (rename_i u h; clear u) | rename_i h) <;> (try rewrite [h]) <;> (first | replace h := dt h | replace h := df h | replace h := Nt h | replace h := Nf h | skip) <;> (try dsimp only at h) <;> (first | contradiction | (exfalso; omega) | skip)) | (refine Or.inl ⟨_, by assumption, ?_⟩; first | rintro _ rfl | skip))
          refine ⟨Nat.le_refl _, (show ((rowN out).length + 1) * 120 ≤ 140737488355328 by omega), _, rowN_snoc out ⟨op, atZ pl u, atZ pl v, name, shape, k, n, data⟩ rfl, ?_⟩
          repeat' ((conv => whnf); first | ((with_reducible apply Xq); assumption) | (with_reducible first | apply Xa | (first | apply xi | apply xp | apply xP); omega | apply Xe | refine Xg (by assumption) ?_) | refine Xo (by assumption) ?_ | refine x_0 (by first | assumption | rfl) ?_ | refine x_1 (by first | assumption | rfl) ?_ | refine Or.inl ⟨rfl, ?_⟩ | (split <;> (first | (rename_i u h; clear u) | rename_i h) <;> (try rewrite [h]) <;> (first | replace h := dt h | replace h := df h | replace h := Nt h | replace h := Nf h | skip) <;> (try dsimp only at h) <;> (first | contradiction | (exfalso; omega) | skip)) | (refine Or.inl ⟨_, by assumption, ?_⟩; first | rintro _ rfl | skip))
          exact ⟨[0, 1, 2, 7, 9], l.length - (i + 1), rfl, by omega, i + 1, _, _, by omega, rfl, hnx, .inr (.inr ⟨by omega, rfl⟩)⟩
  · have hi2 : i = l.length := by omega
    subst hi2
    have hG := hfin pl out hpr
    have gq : (rowZ pl)[0 + q]? = some [.int .i64 (atZ pl q)] := by rw [Nat.zero_add, rowZ_get (by omega), atZ_nat (by omega)]
    rcases hst with ⟨h0, rfl⟩ | ⟨h0, rfl, rfl⟩ | ⟨h0, rfl⟩
    · omega
    · repeat' ((conv => whnf); first | ((with_reducible apply Xq); assumption) | (with_reducible first | apply Xa | (first | apply xi | apply xp | apply xP); omega | apply Xe | refine Xg (by assumption) ?_) | refine Xo (by assumption) ?_ | refine x_0 (by first | assumption | rfl) ?_ | refine x_1 (by first | assumption | rfl) ?_ | refine Or.inl ⟨rfl, ?_⟩ | (split <;> (first | (rename_i u h; clear u) | rename_i h) <;> (try rewrite [h]) <;> (first | replace h := dt h | replace h := df h | replace h := Nt h | replace h := Nf h | skip) <;> (try dsimp only at h) <;> (first | contradiction | (exfalso; omega) | skip)) | (refine Or.inl ⟨_, by assumption, ?_⟩; first | rintro _ rfl | skip))
      all_goals (conv => whnf)
      exact ⟨_, roTo3 (roToA (show RoTo .nils (.ro 8 []) from ⟨8, rfl⟩) rfl) rfl rfl, by rw [hG]; rfl⟩
    · repeat' ((conv => whnf); first | ((with_reducible apply Xq); assumption) | (with_reducible first | apply Xa | (first | apply xi | apply xp | apply xP); omega | apply Xe | refine Xg (by assumption) ?_) | refine Xo (by assumption) ?_ | refine x_0 (by first | assumption | rfl) ?_ | refine x_1 (by first | assumption | rfl) ?_ | refine Or.inl ⟨rfl, ?_⟩ | (split <;> (first | (rename_i u h; clear u) | rename_i h) <;> (try rewrite [h]) <;> (first | replace h := dt h | replace h := df h | replace h := Nt h | replace h := Nf h | skip) <;> (try dsimp only at h) <;> (first | contradiction | (exfalso; omega) | skip)) | (refine Or.inl ⟨_, by assumption, ?_⟩; first | rintro _ rfl | skip))
      all_goals (conv => whnf)
      exact ⟨_, roTo3 (roToA rfl rfl) rfl rfl, by rw [hG]; rfl⟩
end Go.V
namespace Go.V
open Go.N
set_option maxRecDepth 20000
def T_r16_uses : Tab := [(43, ⟨.strc [(0, 1, false), (1, 1, false), (2, 1, false), (3, 1, false), (4, 1, false), (5, 1, false), (6, 1, false), (7, 1, false)], 8, 120, (.agg #[(.string .empty), (.int .i64 0), (.int .i64 0), (.string .empty), (.slice none 0 0), (.string .empty), (.int .i64 0), (.slice none 0 0)]), [0, 0, 0, 0, 1, 0, 0, 1]⟩), (9, ⟨.str, 1, 16, (.string .empty), [0]⟩), (3, ⟨.int .i64, 1, 8, (.int .i64 0), [0]⟩)]
theorem TOK_r16_uses : TOK Go.Proofs.Tryz.prog T_r16_uses := ⟨⟨info_of Go.Proofs.Tryz.type43 rfl, by decide +kernel, by decide +kernel⟩, ⟨⟨info_of Go.Proofs.Tryz.type9 rfl, by decide +kernel, by decide +kernel⟩, ⟨⟨info_of Go.Proofs.Tryz.type3 rfl, by decide +kernel, by decide +kernel⟩, trivial⟩⟩⟩
def T_r16_need : Tab := [(24, ⟨.strc [(0, 1, false), (1, 1, false)], 2, 32, (.agg #[(.slice none 0 0), (.int .i64 0)]), [8, 0]⟩), (3, ⟨.int .i64, 1, 8, (.int .i64 0), [0]⟩), (22, ⟨.slice 43, 1, 24, (.slice none 0 0), [8]⟩), (43, ⟨.strc [(0, 1, false), (1, 1, false), (2, 1, false), (3, 1, false), (4, 1, false), (5, 1, false), (6, 1, false), (7, 1, false)], 8, 120, (.agg #[(.string .empty), (.int .i64 0), (.int .i64 0), (.string .empty), (.slice none 0 0), (.string .empty), (.int .i64 0), (.slice none 0 0)]), [0, 0, 0, 0, 1, 0, 0, 1]⟩), (9, ⟨.str, 1, 16, (.string .empty), [0]⟩), (25, ⟨.slice 3, 1, 24, (.slice none 0 0), [1]⟩), (28, ⟨.slice 4, 1, 24, (.slice none 0 0), [1]⟩), (4, ⟨.bool, 1, 1, (.bool false), [0]⟩)]
theorem TOK_r16_need : TOK Go.Proofs.Tryz.prog T_r16_need := ⟨⟨info_of Go.Proofs.Tryz.type24 rfl, by decide +kernel, by decide +kernel⟩, ⟨⟨info_of Go.Proofs.Tryz.type3 rfl, by decide +kernel, by decide +kernel⟩, ⟨⟨info_of Go.Proofs.Tryz.type22 rfl, by decide +kernel, by decide +kernel⟩, ⟨⟨info_of Go.Proofs.Tryz.type43 rfl, by decide +kernel, by decide +kernel⟩, ⟨⟨info_of Go.Proofs.Tryz.type9 rfl, by decide +kernel, by decide +kernel⟩, ⟨⟨info_of Go.Proofs.Tryz.type25 rfl, by decide +kernel, by decide +kernel⟩, ⟨⟨info_of Go.Proofs.Tryz.type28 rfl, by decide +kernel, by decide +kernel⟩, ⟨⟨info_of Go.Proofs.Tryz.type4 rfl, by decide +kernel, by decide +kernel⟩, trivial⟩⟩⟩⟩⟩⟩⟩⟩
def T_r16_Needed : Tab := [(24, ⟨.strc [(0, 1, false), (1, 1, false)], 2, 32, (.agg #[(.slice none 0 0), (.int .i64 0)]), [8, 0]⟩), (25, ⟨.slice 3, 1, 24, (.slice none 0 0), [1]⟩), (3, ⟨.int .i64, 1, 8, (.int .i64 0), [0]⟩), (22, ⟨.slice 43, 1, 24, (.slice none 0 0), [8]⟩), (43, ⟨.strc [(0, 1, false), (1, 1, false), (2, 1, false), (3, 1, false), (4, 1, false), (5, 1, false), (6, 1, false), (7, 1, false)], 8, 120, (.agg #[(.string .empty), (.int .i64 0), (.int .i64 0), (.string .empty), (.slice none 0 0), (.string .empty), (.int .i64 0), (.slice none 0 0)]), [0, 0, 0, 0, 1, 0, 0, 1]⟩), (28, ⟨.slice 4, 1, 24, (.slice none 0 0), [1]⟩), (4, ⟨.bool, 1, 1, (.bool false), [0]⟩)]
theorem TOK_r16_Needed : TOK Go.Proofs.Tryz.prog T_r16_Needed := ⟨⟨info_of Go.Proofs.Tryz.type24 rfl, by decide +kernel, by decide +kernel⟩, ⟨⟨info_of Go.Proofs.Tryz.type25 rfl, by decide +kernel, by decide +kernel⟩, ⟨⟨info_of Go.Proofs.Tryz.type3 rfl, by decide +kernel, by decide +kernel⟩, ⟨⟨info_of Go.Proofs.Tryz.type22 rfl, by decide +kernel, by decide +kernel⟩, ⟨⟨info_of Go.Proofs.Tryz.type43 rfl, by decide +kernel, by decide +kernel⟩, ⟨⟨info_of Go.Proofs.Tryz.type28 rfl, by decide +kernel, by decide +kernel⟩, ⟨⟨info_of Go.Proofs.Tryz.type4 rfl, by decide +kernel, by decide +kernel⟩, trivial⟩⟩⟩⟩⟩⟩⟩
variable (gl : Gl)
theorem c_r16_uses (x : Nd) (i : Nat) : VCall Go.Proofs.Tryz.prog gl 29 [.agg x.cells, .int .i64 (i : Nat)] (fun r => r = .bool (usesN x i)) := by
  have hp := c_r10_Parts gl x.op
  obtain ⟨op, a, b, name, shape, k, n, data⟩ := x
  dsimp only at hp
  unfold usesN
  dsimp only
  generalize partsZ op = z at hp ⊢
  refine vcall_of TOK_r16_uses HM Go.Proofs.Tryz.func29 rfl (by decide +kernel) (by decide +kernel) rfl ?_
  repeat' ((conv => whnf); first | ((with_reducible apply Xq); assumption) | (with_reducible first | apply Xa | (first | apply xi | apply xp | apply xP); omega | apply Xe | refine Xg (by assumption) ?_) | refine Xo (by assumption) ?_ | refine x_0 (by first | assumption | rfl) ?_ | refine x_1 (by first | assumption | rfl) ?_ | refine Or.inl ⟨rfl, ?_⟩ | (split <;> (first | (rename_i u h; clear u) | rename_i h) <;> (try rewrite [h]) <;> (first | replace h := dt h | replace h := df h | replace h := Nt h | replace h := Nf h | skip) <;> (try dsimp only at h) <;> (first | contradiction | (exfalso; omega) | skip)) | (refine Or.inl ⟨_, by assumption, ?_⟩; first | rintro _ rfl | skip))
  all_goals (conv => whnf)
  all_goals exact congrArg AV.bool (by simp_all)
set_option maxHeartbeats 4000000 in
theorem c_r16_need (l : List Nd) (q i : Nat) (keep : List Int) (F : Nat → Bool) (T : Bool) (hl : l.length ≤ 1000) (hkl : keep.length ≤ 1000) (hi : i < l.length)
    (h1 : i = q → T = true) (h2 : l[i].name ≠ ⟨#[]⟩ → T = true) (h3 : (i : Int) ∈ keep → T = true) (h4 : ∀ k (h : k < l.length), i < k → usesN l[k] i = true → F k = true → T = true)
    (h5 : i ≠ q → l[i].name = ⟨#[]⟩ → (i : Int) ∉ keep → (∀ k (h : k < l.length), i < k → F k = true → usesN l[k] i = false) → T = false) :
    VCall Go.Proofs.Tryz.prog gl 20 [.agg [.ro 8 (rowN l), .int .i64 (q : Nat)], .ro 1 (rowZ keep), .int .i64 (i : Nat), .ro 1 (fB l.length F)] (fun r => r = .bool T) := by
  have hlr := rowN_length l
  have hkr := rowZ_length keep
  have g := rowN_get hi
  obtain ⟨x, hx⟩ : ∃ x, x = l[i] := ⟨_, rfl⟩
  rw [← hx] at g h2 h5
  clear hx
  obtain ⟨op, a, b, name, shape, k, n, data⟩ := x
  dsimp only at h2 h5
  by_cases hiq : i = q
  · rw [h1 hiq]
    refine vcall_of TOK_r16_need HM Go.Proofs.Tryz.func20 rfl (by decide +kernel) (by decide +kernel) rfl ?_
    repeat' ((conv => whnf); first | ((with_reducible apply Xq); assumption) | (with_reducible first | apply Xa | (first | apply xi | apply xp | apply xP); omega | apply Xe | refine Xg (by assumption) ?_) | refine Xo (by assumption) ?_ | refine x_0 (by first | assumption | rfl) ?_ | refine x_1 (by first | assumption | rfl) ?_ | refine Or.inl ⟨rfl, ?_⟩ | (split <;> (first | (rename_i u h; clear u) | rename_i h) <;> (try rewrite [h]) <;> (first | replace h := dt h | replace h := df h | replace h := Nt h | replace h := Nf h | skip) <;> (try dsimp only at h) <;> (first | contradiction | (exfalso; omega) | skip)) | (refine Or.inl ⟨_, by assumption, ?_⟩; first | rintro _ rfl | skip))
    all_goals (conv => whnf)
    all_goals rfl
  by_cases hn : name = ⟨#[]⟩
  case neg =>
    rw [h2 hn]
    refine vcall_of TOK_r16_need HM Go.Proofs.Tryz.func20 rfl (by decide +kernel) (by decide +kernel) rfl ?_
    repeat' ((conv => whnf); first | ((with_reducible apply Xq); assumption) | (with_reducible first | apply Xa | (first | apply xi | apply xp | apply xP); omega | apply Xe | refine Xg (by assumption) ?_) | refine Xo (by assumption) ?_ | refine x_0 (by first | assumption | rfl) ?_ | refine x_1 (by first | assumption | rfl) ?_ | refine Or.inl ⟨rfl, ?_⟩ | (split <;> (first | (rename_i u h; clear u) | rename_i h) <;> (try rewrite [h]) <;> (first | replace h := dt h | replace h := df h | replace h := Nt h | replace h := Nf h | skip) <;> (try dsimp only at h) <;> (first | contradiction | (exfalso; omega) | skip)) | (refine Or.inl ⟨_, by assumption, ?_⟩; first | rintro _ rfl | skip))
    all_goals (conv => whnf)
    all_goals rfl
  have h5 := h5 hiq hn
  clear h1 h2
  refine vcall_of TOK_r16_need HM Go.Proofs.Tryz.func20 rfl (by decide +kernel) (by decide +kernel) rfl ?_
  repeat' ((conv => whnf); first | ((with_reducible apply Xq); assumption) | (with_reducible first | apply Xa | (first | apply xi | apply xp | apply xP); omega | apply Xe | refine Xg (by assumption) ?_) | refine Xo (by assumption) ?_ | refine x_0 (by first | assumption | rfl) ?_ | refine x_1 (by first | assumption | rfl) ?_ | refine Or.inl ⟨rfl, ?_⟩ | (split <;> (first | (rename_i u h; clear u) | rename_i h) <;> (try rewrite [h]) <;> (first | replace h := dt h | replace h := df h | replace h := Nt h | replace h := Nf h | skip) <;> (try dsimp only at h) <;> (first | contradiction | (exfalso; omega) | skip)) | (refine Or.inl ⟨_, by assumption, ?_⟩; first | rintro _ rfl | skip))
  refine ⟨[1, 2, 3, 4, 9], [0], fun m st => ∃ t : Nat, t ≤ keep.length ∧ m = keep.length - t ∧ (i : Int) ∉ keep.take t ∧
    st = ⟨[(1, .ro 1 (rowZ keep)), (2, .int .i64 (i : Nat)), (3, .ro 1 (fB l.length F)), (4, .bptr 0 0), (9, .int .i64 (t : Nat))], [.box 24 [.ro 8 (rowN l), .int .i64 (q : Nat)]]⟩, rfl, ⟨keep.length, 0, by omega, rfl, by simp, rfl⟩, ?_⟩
  rintro m _ ⟨t, ht, hm, hk, rfl⟩
  rcases Nat.lt_or_ge t keep.length with htl | hge
  · have g1 := rowZ_get htl
    by_cases he : keep[t] = (i : Int)
    · rw [h3 (by rw [← he]; exact List.getElem_mem htl)]
      repeat' ((conv => whnf); first | ((with_reducible apply Xq); assumption) | (with_reducible first | apply Xa | (first | apply xi | apply xp | apply xP); omega | apply Xe | refine Xg (by assumption) ?_) | refine Xo (by assumption) ?_ | refine x_0 (by first | assumption | rfl) ?_ | refine x_1 (by first | assumption | rfl) ?_ | refine Or.inl ⟨rfl, ?_⟩ | (split <;> (first | (rename_i u h; clear u) | rename_i h) <;> (try rewrite [h]) <;> (first | replace h := dt h | replace h := df h | replace h := Nt h | replace h := Nf h | skip) <;> (try dsimp only at h) <;> (first | contradiction | (exfalso; omega) | skip)) | (refine Or.inl ⟨_, by assumption, ?_⟩; first | rintro _ rfl | skip))
      all_goals (conv => whnf)
      all_goals rfl
    · repeat' ((conv => whnf); first | ((with_reducible apply Xq); assumption) | (with_reducible first | apply Xa | (first | apply xi | apply xp | apply xP); omega | apply Xe | refine Xg (by assumption) ?_) | refine Xo (by assumption) ?_ | refine x_0 (by first | assumption | rfl) ?_ | refine x_1 (by first | assumption | rfl) ?_ | refine Or.inl ⟨rfl, ?_⟩ | (split <;> (first | (rename_i u h; clear u) | rename_i h) <;> (try rewrite [h]) <;> (first | replace h := dt h | replace h := df h | replace h := Nt h | replace h := Nf h | skip) <;> (try dsimp only at h) <;> (first | contradiction | (exfalso; omega) | skip)) | (refine Or.inl ⟨_, by assumption, ?_⟩; first | rintro _ rfl | skip))
      exact ⟨[0], keep.length - (t + 1), rfl, by omega, t + 1, by omega, rfl, by
        rw [List.take_succ_eq_append_getElem htl, List.mem_append, List.mem_singleton]
        rintro (h | h)
        · exact hk h
        · exact he h.symm, rfl⟩
  rw [List.take_of_length_le (by omega)] at hk
  have h5 := h5 hk
  repeat' ((conv => whnf); first | ((with_reducible apply Xq); assumption) | (with_reducible first | apply Xa | (first | apply xi | apply xp | apply xP); omega | apply Xe | refine Xg (by assumption) ?_) | refine Xo (by assumption) ?_ | refine x_0 (by first | assumption | rfl) ?_ | refine x_1 (by first | assumption | rfl) ?_ | refine Or.inl ⟨rfl, ?_⟩ | (split <;> (first | (rename_i u h; clear u) | rename_i h) <;> (try rewrite [h]) <;> (first | replace h := dt h | replace h := df h | replace h := Nt h | replace h := Nf h | skip) <;> (try dsimp only at h) <;> (first | contradiction | (exfalso; omega) | skip)) | (refine Or.inl ⟨_, by assumption, ?_⟩; first | rintro _ rfl | skip))
  refine ⟨[1, 2, 3, 4, 10], [0], fun m st => ∃ j : Nat, i < j ∧ j ≤ l.length ∧ m = l.length - j ∧ (∀ k (h : k < l.length), i < k → k < j → F k = true → usesN l[k] i = false) ∧
    st = ⟨[(1, .ro 1 (rowZ keep)), (2, .int .i64 (i : Nat)), (3, .ro 1 (fB l.length F)), (4, .bptr 0 0), (10, .int .i64 (j : Nat))], [.box 24 [.ro 8 (rowN l), .int .i64 (q : Nat)]]⟩, rfl, ⟨l.length - (i + 1), i + 1, by omega, by omega, rfl, fun k _ h1 h2 => by omega, rfl⟩, ?_⟩
  rintro m2 _ ⟨j, hij, hj, hm2, hF, rfl⟩
  rcases Nat.lt_or_ge j l.length with hjl | hge
  · have g1 : (fB l.length F)[j]? = some [.bool (F j)] := fB_get hjl
    have g2 := rowN_get hjl
    have hu := c_r16_uses gl l[j] i
    have h4 := h4 j hjl hij
    have hstep : (F j = true → usesN l[j] i = false) → ∀ k (h : k < l.length), i < k → k < j + 1 → F k = true → usesN l[k] i = false := fun hh k hk h1 h2 h3 => by
      rcases Nat.lt_succ_iff_lt_or_eq.1 h2 with h | h
      · exact hF k hk h1 h h3
      · subst h; exact hh h3
    cases hFj : F j
    · rw [hFj] at g1
      have := hstep (fun e => by rw [hFj] at e; cases e)
      repeat' ((conv => whnf); first | ((with_reducible apply Xq); assumption) | (with_reducible first | apply Xa | (first | apply xi | apply xp | apply xP); omega | apply Xe | refine Xg (by assumption) ?_) | refine Xo (by assumption) ?_ | refine x_0 (by first | assumption | rfl) ?_ | refine x_1 (by first | assumption | rfl) ?_ | refine Or.inl ⟨rfl, ?_⟩ | (split <;> (first | (rename_i u h; clear u) | rename_i h) <;> (try rewrite [h]) <;> (first | replace h := dt h | replace h := df h | replace h := Nt h | replace h := Nf h | skip) <;> (try dsimp only at h) <;> (first | contradiction | (exfalso; omega) | skip)) | (refine Or.inl ⟨_, by assumption, ?_⟩; first | rintro _ rfl | skip))
      exact ⟨[0], l.length - (j + 1), rfl, by omega, j + 1, by omega, by omega, rfl, this, rfl⟩
    · rw [hFj] at g1
      cases hus : usesN l[j] i
      · rw [hus] at hu
        have := hstep (fun _ => hus)
        repeat' ((conv => whnf); first | ((with_reducible apply Xq); assumption) | (with_reducible first | apply Xa | (first | apply xi | apply xp | apply xP); omega | apply Xe | refine Xg (by assumption) ?_) | refine Xo (by assumption) ?_ | refine x_0 (by first | assumption | rfl) ?_ | refine x_1 (by first | assumption | rfl) ?_ | refine Or.inl ⟨rfl, ?_⟩ | (split <;> (first | (rename_i u h; clear u) | rename_i h) <;> (try rewrite [h]) <;> (first | replace h := dt h | replace h := df h | replace h := Nt h | replace h := Nf h | skip) <;> (try dsimp only at h) <;> (first | contradiction | (exfalso; omega) | skip)) | (refine Or.inl ⟨_, by assumption, ?_⟩; first | rintro _ rfl | skip))
        exact ⟨[0], l.length - (j + 1), rfl, by omega, j + 1, by omega, by omega, rfl, this, rfl⟩
      · rw [hus] at hu
        rw [h4 hus hFj]
        repeat' ((conv => whnf); first | ((with_reducible apply Xq); assumption) | (with_reducible first | apply Xa | (first | apply xi | apply xp | apply xP); omega | apply Xe | refine Xg (by assumption) ?_) | refine Xo (by assumption) ?_ | refine x_0 (by first | assumption | rfl) ?_ | refine x_1 (by first | assumption | rfl) ?_ | refine Or.inl ⟨rfl, ?_⟩ | (split <;> (first | (rename_i u h; clear u) | rename_i h) <;> (try rewrite [h]) <;> (first | replace h := dt h | replace h := df h | replace h := Nt h | replace h := Nf h | skip) <;> (try dsimp only at h) <;> (first | contradiction | (exfalso; omega) | skip)) | (refine Or.inl ⟨_, by assumption, ?_⟩; first | rintro _ rfl | skip))
        all_goals (conv => whnf)
        all_goals rfl
  · rw [h5 (fun k hk h1 h2 => hF k hk h1 (by omega) h2)]
    repeat' ((conv => whnf); first | ((with_reducible apply Xq); assumption) | (with_reducible first | apply Xa | (first | apply xi | apply xp | apply xP); omega | apply Xe | refine Xg (by assumption) ?_) | refine Xo (by assumption) ?_ | refine x_0 (by first | assumption | rfl) ?_ | refine x_1 (by first | assumption | rfl) ?_ | refine Or.inl ⟨rfl, ?_⟩ | (split <;> (first | (rename_i u h; clear u) | rename_i h) <;> (try rewrite [h]) <;> (first | replace h := dt h | replace h := df h | replace h := Nt h | replace h := Nf h | skip) <;> (try dsimp only at h) <;> (first | contradiction | (exfalso; omega) | skip)) | (refine Or.inl ⟨_, by assumption, ?_⟩; first | rintro _ rfl | skip))
    all_goals (conv => whnf)
    all_goals rfl
set_option maxHeartbeats 4000000 in
theorem c_r16_Needed (g : Gr) (keep : List Int) (hg : grOK g = true) (hk : keep.length ≤ 1000) :
    VCall Go.Proofs.Tryz.prog gl 10 [.agg g.cells, .ro 1 (rowZ keep)] (fun y => y = if keepOK g keep = true then .tup [.ro 1 (fB g.nodes.length (NB g keep)), .bool true] else .tup [.ro 1 [], .bool false]) := by
  refine VCall.taken ?_
  obtain ⟨h1, h2, q, hq1, hq⟩ := ok_pre hg
  have hni := @need_iff g keep
  have hNB := @NB_iff g keep
  have hkb : (∃ x ∈ keep, x < 0 ∨ (g.nodes.length : Int) ≤ x) → keepOK g keep = false := by
    rintro ⟨x, hx, h⟩
    rw [keepOK, Bool.not_eq_false']
    exact List.any_eq_true.2 ⟨x, hx, by simpa using h⟩
  have hko : (∀ x ∈ keep, ¬ (x < 0 ∨ (g.nodes.length : Int) ≤ x)) → keepOK g keep = true := by
    intro h
    rw [keepOK, Bool.not_eq_true', List.any_eq_false]
    intro x hx; simpa using h x hx
  generalize keepOK g keep = K at hkb hko ⊢
  have hneed : ∀ (i : Nat) (F : Nat → Bool) (hi : i < g.nodes.length), (∀ j, i < j → j < g.nodes.length → F j = NB g keep j) → VCall Go.Proofs.Tryz.prog gl 20 [.agg [.ro 8 (rowN g.nodes), .int .i64 (q : Nat)], .ro 1 (rowZ keep), .int .i64 (i : Nat), .ro 1 (fB g.nodes.length F)] (fun r => r = .bool (NB g keep i)) := fun i F hi hF => by
    have hgi : g.nodes[i]? = some g.nodes[i] := List.getElem?_eq_getElem hi
    refine c_r16_need gl g.nodes q i keep F _ (by omega) hk hi (fun e => ?_) (fun e => ?_) (fun e => ?_) (fun k h hik hu hFk => ?_) (fun e1 e2 e3 e4 => ?_)
    · exact hNB.2 (.loss (by rw [hq1, e]))
    · exact hNB.2 (.name hgi e)
    · exact hNB.2 (.keep e)
    · exact hNB.2 (.use hik (List.getElem?_eq_getElem h) hu (hNB.1 (by rw [← hF k hik h]; exact hFk)))
    · rw [Bool.eq_false_iff]
      intro hN
      rcases (hni hgi).1 (hNB.1 hN) with (h | h | ⟨k, y, h1, h2, h3, h4⟩) | h
      · rw [hq1] at h; exact e1 (Int.ofNat_inj.1 h)
      · exact e3 h
      · obtain ⟨hk1, hk2⟩ := List.getElem?_eq_some_iff.1 h2
        have := e4 k hk1 (by omega) (by rw [hF k (by omega) hk1]; exact hNB.2 h4)
        rw [hk2, h3] at this; cases this
      · exact h e2
  clear hg hni hNB
  generalize NB g keep = N at hneed ⊢
  have hY1 : K = true → (if K = true then AV.tup [.ro 1 (fB g.nodes.length N), .bool true] else .tup [.ro 1 [], .bool false]) = .tup [.ro 1 (fB g.nodes.length N), .bool true] := fun h => if_pos h
  have hY2 : K = false → (if K = true then AV.tup [.ro 1 (fB g.nodes.length N), .bool true] else .tup [.ro 1 [], .bool false]) = .tup [.ro 1 [], .bool false] := fun h => if_neg (by simp [h])
  generalize (if K = true then AV.tup [.ro 1 (fB g.nodes.length N), .bool true] else .tup [.ro 1 [], .bool false]) = Z at hY1 hY2 ⊢
  obtain ⟨l, p⟩ := g
  dsimp only at *
  subst hq1
  show VCall _ _ _ [.agg [.ro 8 (rowN l), .int .i64 (q : Nat)], _] _
  have hlr := rowN_length l
  have hkr := rowZ_length keep
  refine vcall_of TOK_r16_Needed HM Go.Proofs.Tryz.func10 rfl (by decide +kernel) (by decide +kernel) rfl ?_
  repeat' ((conv => whnf); first | ((with_reducible apply Xq); assumption) | (with_reducible first | apply Xa | (first | apply xi | apply xp | apply xP); omega | apply Xe | refine Xg (by assumption) ?_) | refine Xo (by assumption) ?_ | refine x_0 (by first | assumption | rfl) ?_ | refine x_1 (by first | assumption | rfl) ?_ | refine Or.inl ⟨rfl, ?_⟩ | (split <;> (first | (rename_i u h; clear u) | rename_i h) <;> (try rewrite [h]) <;> (first | replace h := dt h | replace h := df h | replace h := Nt h | replace h := Nf h | skip) <;> (try dsimp only at h) <;> (first | contradiction | (exfalso; omega) | skip)) | (refine Or.inl ⟨_, by assumption, ?_⟩; first | rintro _ rfl | skip))
  refine ⟨[1, 2, 6], [0], fun m st => ∃ t : Nat, t ≤ keep.length ∧ m = keep.length - t ∧ (∀ x ∈ keep.take t, ¬ (x < 0 ∨ (l.length : Int) ≤ x)) ∧
    st = ⟨[(1, .ro 1 (rowZ keep)), (2, .bptr 0 0), (6, .int .i64 (t : Nat))], [.box 24 [.ro 8 (rowN l), .int .i64 (q : Nat)]]⟩, rfl, ⟨keep.length, 0, by omega, rfl, by simp, rfl⟩, ?_⟩
  rintro m _ ⟨t, ht, hm, ha, rfl⟩
  rcases Nat.lt_or_ge t keep.length with htl | hge
  · have g1 := rowZ_get htl
    by_cases hb : keep[t] < 0 ∨ (l.length : Int) ≤ keep[t]
    · have hZ := (hY2 (hkb ⟨_, List.getElem_mem htl, hb⟩)).symm
      repeat' ((conv => whnf); first | ((with_reducible apply Xq); assumption) | (with_reducible first | apply Xa | (first | apply xi | apply xp | apply xP); omega | apply Xe | refine Xg (by assumption) ?_) | refine Xo (by assumption) ?_ | refine x_0 (by first | assumption | rfl) ?_ | refine x_1 (by first | assumption | rfl) ?_ | refine Or.inl ⟨rfl, ?_⟩ | (split <;> (first | (rename_i u h; clear u) | rename_i h) <;> (try rewrite [h]) <;> (first | replace h := dt h | replace h := df h | replace h := Nt h | replace h := Nf h | skip) <;> (try dsimp only at h) <;> (first | contradiction | (exfalso; omega) | skip)) | (refine Or.inl ⟨_, by assumption, ?_⟩; first | rintro _ rfl | skip))
      refine ⟨by decide +kernel, [0, 0, 3, 7, 15, 31, 63, 63, 255, 511, 63, 1087, 3135, 8191, 16383], by decide +kernel, ?_⟩
      repeat' ((conv => whnf); first | ((with_reducible apply Xq); assumption) | (with_reducible first | apply Xa | (first | apply xi | apply xp | apply xP); omega | apply Xe | refine Xg (by assumption) ?_) | refine Xo (by assumption) ?_ | refine x_0 (by first | assumption | rfl) ?_ | refine x_1 (by first | assumption | rfl) ?_ | refine Or.inl ⟨rfl, ?_⟩ | (split <;> (first | (rename_i u h; clear u) | rename_i h) <;> (try rewrite [h]) <;> (first | replace h := dt h | replace h := df h | replace h := Nt h | replace h := Nf h | skip) <;> (try dsimp only at h) <;> (first | contradiction | (exfalso; omega) | skip)) | (refine Or.inl ⟨_, by assumption, ?_⟩; first | rintro _ rfl | skip))
      all_goals (conv => whnf)
      all_goals exact ⟨_, roTo2 (show RoTo .nils (.ro 1 []) from ⟨1, rfl⟩) rfl, hZ⟩
    · have hst : ∀ x ∈ keep.take (t + 1), ¬ (x < 0 ∨ (l.length : Int) ≤ x) := fun x hx => by
        rw [List.take_succ_eq_append_getElem htl, List.mem_append, List.mem_singleton] at hx
        rcases hx with h | h
        · exact ha x h
        · subst h; exact hb
      repeat' ((conv => whnf); first | ((with_reducible apply Xq); assumption) | (with_reducible first | apply Xa | (first | apply xi | apply xp | apply xP); omega | apply Xe | refine Xg (by assumption) ?_) | refine Xo (by assumption) ?_ | refine x_0 (by first | assumption | rfl) ?_ | refine x_1 (by first | assumption | rfl) ?_ | refine Or.inl ⟨rfl, ?_⟩ | (split <;> (first | (rename_i u h; clear u) | rename_i h) <;> (try rewrite [h]) <;> (first | replace h := dt h | replace h := df h | replace h := Nt h | replace h := Nf h | skip) <;> (try dsimp only at h) <;> (first | contradiction | (exfalso; omega) | skip)) | (refine Or.inl ⟨_, by assumption, ?_⟩; first | rintro _ rfl | skip))
      refine ⟨by decide +kernel, [0, 0, 3, 7, 15, 31, 63, 63, 255, 511, 63, 1087, 3135, 8191, 16383], by decide +kernel, ?_⟩
      repeat' ((conv => whnf); first | ((with_reducible apply Xq); assumption) | (with_reducible first | apply Xa | (first | apply xi | apply xp | apply xP); omega | apply Xe | refine Xg (by assumption) ?_) | refine Xo (by assumption) ?_ | refine x_0 (by first | assumption | rfl) ?_ | refine x_1 (by first | assumption | rfl) ?_ | refine Or.inl ⟨rfl, ?_⟩ | (split <;> (first | (rename_i u h; clear u) | rename_i h) <;> (try rewrite [h]) <;> (first | replace h := dt h | replace h := df h | replace h := Nt h | replace h := Nf h | skip) <;> (try dsimp only at h) <;> (first | contradiction | (exfalso; omega) | skip)) | (refine Or.inl ⟨_, by assumption, ?_⟩; first | rintro _ rfl | skip))
      exact ⟨[0], keep.length - (t + 1), rfl, by omega, t + 1, by omega, rfl, hst, rfl⟩
  rw [List.take_of_length_le (by omega)] at ha
  have hZ := (hY1 (hko ha)).symm
  repeat' ((conv => whnf); first | ((with_reducible apply Xq); assumption) | (with_reducible first | apply Xa | (first | apply xi | apply xp | apply xP); omega | apply Xe | refine Xg (by assumption) ?_) | refine Xo (by assumption) ?_ | refine x_0 (by first | assumption | rfl) ?_ | refine x_1 (by first | assumption | rfl) ?_ | refine Or.inl ⟨rfl, ?_⟩ | (split <;> (first | (rename_i u h; clear u) | rename_i h) <;> (try rewrite [h]) <;> (first | replace h := dt h | replace h := df h | replace h := Nt h | replace h := Nf h | skip) <;> (try dsimp only at h) <;> (first | contradiction | (exfalso; omega) | skip)) | (refine Or.inl ⟨_, by assumption, ?_⟩; first | rintro _ rfl | skip))
  refine ⟨by omega, Int.le_refl _, by omega, (show ((rowN l).length : Int) * ((1 : Nat) : Int) ≤ 140737488355328 by omega), l.length, congrArg Nat.cast hlr, ?_⟩
  repeat' ((conv => whnf); first | ((with_reducible apply Xq); assumption) | (with_reducible first | apply Xa | (first | apply xi | apply xp | apply xP); omega | apply Xe | refine Xg (by assumption) ?_) | refine Xo (by assumption) ?_ | refine x_0 (by first | assumption | rfl) ?_ | refine x_1 (by first | assumption | rfl) ?_ | refine Or.inl ⟨rfl, ?_⟩ | (split <;> (first | (rename_i u h; clear u) | rename_i h) <;> (try rewrite [h]) <;> (first | replace h := dt h | replace h := df h | replace h := Nt h | replace h := Nf h | skip) <;> (try dsimp only at h) <;> (first | contradiction | (exfalso; omega) | skip)) | (refine Or.inl ⟨_, by assumption, ?_⟩; first | rintro _ rfl | skip))
  refine ⟨[1, 2, 7, 8], [0, 1], fun m st => ∃ (e : Int) (F : Nat → Bool), e = (m : Int) - 1 ∧ m ≤ l.length ∧ (∀ j, m ≤ j → j < l.length → F j = N j) ∧
    st = ⟨[(1, .ro 1 (rowZ keep)), (2, .bptr 0 0), (7, .own 1 0 l.length), (8, .int .i64 e)], [.box 24 [.ro 8 (rowN l), .int .i64 (q : Nat)], .row false 4 1 (fB l.length F)]⟩, rfl,
    ⟨l.length, _, fun _ => false, by omega, Nat.le_refl _, fun j h1 h2 => by omega, Eq.trans rfl (congrArg (fun z => (⟨[(1, .ro 1 (rowZ keep)), (2, .bptr 0 0), (7, .own 1 0 l.length), (8, .int .i64 (((rowN l).length : Nat) - 1))], [.box 24 [.ro 8 (rowN l), .int .i64 (q : Nat)], .row false 4 1 z]⟩ : St)) (fB_zero l.length))⟩, ?_⟩
  rintro m _ ⟨e, F, he, hml, hF, rfl⟩
  rcases m with _ | i
  · have e1 : e = -1 := by omega
    subst e1
    repeat' ((conv => whnf); first | ((with_reducible apply Xq); assumption) | (with_reducible first | apply Xa | (first | apply xi | apply xp | apply xP); omega | apply Xe | refine Xg (by assumption) ?_) | refine Xo (by assumption) ?_ | refine x_0 (by first | assumption | rfl) ?_ | refine x_1 (by first | assumption | rfl) ?_ | refine Or.inl ⟨rfl, ?_⟩ | (split <;> (first | (rename_i u h; clear u) | rename_i h) <;> (try rewrite [h]) <;> (first | replace h := dt h | replace h := df h | replace h := Nt h | replace h := Nf h | skip) <;> (try dsimp only at h) <;> (first | contradiction | (exfalso; omega) | skip)) | (refine Or.inl ⟨_, by assumption, ?_⟩; first | rintro _ rfl | skip))
    refine .inl ⟨(fB_length _ _).symm, ?_⟩
    repeat' ((conv => whnf); first | ((with_reducible apply Xq); assumption) | (with_reducible first | apply Xa | (first | apply xi | apply xp | apply xP); omega | apply Xe | refine Xg (by assumption) ?_) | refine Xo (by assumption) ?_ | refine x_0 (by first | assumption | rfl) ?_ | refine x_1 (by first | assumption | rfl) ?_ | refine Or.inl ⟨rfl, ?_⟩ | (split <;> (first | (rename_i u h; clear u) | rename_i h) <;> (try rewrite [h]) <;> (first | replace h := dt h | replace h := df h | replace h := Nt h | replace h := Nf h | skip) <;> (try dsimp only at h) <;> (first | contradiction | (exfalso; omega) | skip)) | (refine Or.inl ⟨_, by assumption, ?_⟩; first | rintro _ rfl | skip))
    all_goals (conv => whnf)
    exact ⟨_, roTo2 rfl rfl, Eq.trans (congrArg (fun z => AV.tup [.ro 1 z, .bool true]) (fB_congr fun j hj => hF j (Nat.zero_le _) hj)) hZ⟩
  have e1 : e = (i : Int) := by omega
  subst e1
  have hil : i < l.length := by omega
  have hnd := hneed i F hil (fun j h1 h2 => hF j (by omega) h2)
  have e2 : (fB l.length F) = List.take l.length (List.drop 0 (fB l.length F)) := by rw [List.drop_zero, List.take_of_length_le (by simp)]
  rw [e2] at hnd
  have g2 : (fB l.length F)[0 + i]? = some [.bool (F i)] := by rw [Nat.zero_add]; exact fB_get hil
  have e : (fB l.length F).set (0 + i) [.bool (N i)] = fB l.length (updB F i (N i)) := by rw [Nat.zero_add, fB_set]
  repeat' ((conv => whnf); first | ((with_reducible apply Xq); assumption) | (with_reducible first | apply Xa | (first | apply xi | apply xp | apply xP); omega | apply Xe | refine Xg (by assumption) ?_) | refine Xo (by assumption) ?_ | refine x_0 (by first | assumption | rfl) ?_ | refine x_1 (by first | assumption | rfl) ?_ | refine Or.inl ⟨rfl, ?_⟩ | (split <;> (first | (rename_i u h; clear u) | rename_i h) <;> (try rewrite [h]) <;> (first | replace h := dt h | replace h := df h | replace h := Nt h | replace h := Nf h | skip) <;> (try dsimp only at h) <;> (first | contradiction | (exfalso; omega) | skip)) | (refine Or.inl ⟨_, by assumption, ?_⟩; first | rintro _ rfl | skip))
  exact ⟨[0, 1], i, rfl, by omega, _, updB F i (N i), rfl, by omega, fun j h1 h2 => by
    by_cases hji : j = i
    · subst hji; exact updB_same _ _ _
    · rw [updB_ne _ _ hji]; exact hF j (by omega) h2, Eq.trans rfl (congrArg (fun z => (⟨[(1, .ro 1 (rowZ keep)), (2, .bptr 0 0), (7, .own 1 0 l.length), (8, .int .i64 ((i : Int) - 1))], [.box 24 [.ro 8 (rowN l), .int .i64 (q : Nat)], .row false 4 1 z]⟩ : St)) e)⟩
end Go.V
namespace Go.V
open Go.N
set_option maxRecDepth 20000
def T_r16_Prune : Tab := [(24, ⟨.strc [(0, 1, false), (1, 1, false)], 2, 32, (.agg #[(.slice none 0 0), (.int .i64 0)]), [8, 0]⟩), (22, ⟨.slice 43, 1, 24, (.slice none 0 0), [8]⟩), (43, ⟨.strc [(0, 1, false), (1, 1, false), (2, 1, false), (3, 1, false), (4, 1, false), (5, 1, false), (6, 1, false), (7, 1, false)], 8, 120, (.agg #[(.string .empty), (.int .i64 0), (.int .i64 0), (.string .empty), (.slice none 0 0), (.string .empty), (.int .i64 0), (.slice none 0 0)]), [0, 0, 0, 0, 1, 0, 0, 1]⟩), (3, ⟨.int .i64, 1, 8, (.int .i64 0), [0]⟩), (28, ⟨.slice 4, 1, 24, (.slice none 0 0), [1]⟩), (4, ⟨.bool, 1, 1, (.bool false), [0]⟩), (25, ⟨.slice 3, 1, 24, (.slice none 0 0), [1]⟩), (9, ⟨.str, 1, 16, (.string .empty), [0]⟩)]
theorem TOK_r16_Prune : TOK Go.Proofs.Tryz.prog T_r16_Prune := ⟨⟨info_of Go.Proofs.Tryz.type24 rfl, by decide +kernel, by decide +kernel⟩, ⟨⟨info_of Go.Proofs.Tryz.type22 rfl, by decide +kernel, by decide +kernel⟩, ⟨⟨info_of Go.Proofs.Tryz.type43 rfl, by decide +kernel, by decide +kernel⟩, ⟨⟨info_of Go.Proofs.Tryz.type3 rfl, by decide +kernel, by decide +kernel⟩, ⟨⟨info_of Go.Proofs.Tryz.type28 rfl, by decide +kernel, by decide +kernel⟩, ⟨⟨info_of Go.Proofs.Tryz.type4 rfl, by decide +kernel, by decide +kernel⟩, ⟨⟨info_of Go.Proofs.Tryz.type25 rfl, by decide +kernel, by decide +kernel⟩, ⟨⟨info_of Go.Proofs.Tryz.type9 rfl, by decide +kernel, by decide +kernel⟩, trivial⟩⟩⟩⟩⟩⟩⟩⟩
variable (gl : Gl)
set_option maxHeartbeats 8000000 in
theorem c_r16_Prune (g : Gr) (N : Nat → Bool) (hg : grOK g = true) :
    VCall Go.Proofs.Tryz.prog gl 11 [.agg g.cells, .ro 1 (fB g.nodes.length N)] (fun y => y = .tup [.agg (pruneG g N).1.cells, .ro 1 (rowZ (pruneG g N).2)]) := by
  refine VCall.taken ?_
  obtain ⟨h1, h2, q, hq1, hq⟩ := ok_pre hg
  have hpt := fun {i : Nat} {x : Nd} => @ok_parts g hg i x
  have hfit := fun {i : Nat} {x : Nd} => @ok_fit g hg i x
  have hget : ∀ i (h : i < g.nodes.length), g.nodes[i]? = some g.nodes[i] := fun i h => List.getElem?_eq_getElem h
  clear hg
  obtain ⟨l, p⟩ := g
  dsimp only at h1 h2 hq1 hq hpt hfit hget ⊢
  subst hq1
  show VCall _ _ _ [.agg [.ro 8 (rowN l), .int .i64 (q : Nat)], _] _
  have hlr := rowN_length l
  have hfin : ∀ pl out, pruneTo l N l.length = (pl, out) → pruneG ⟨l, (q : Int)⟩ N = (⟨out, atZ pl q⟩, pl) := fun pl out h => by simp only [pruneG, h]
  generalize pruneG ⟨l, (q : Int)⟩ N = G at hfin ⊢
  refine vcall_of TOK_r16_Prune HM Go.Proofs.Tryz.func11 rfl (by decide +kernel) (by decide +kernel) rfl ?_
  repeat' ((conv => whnf); first | ((with_reducible apply Xq); assumption) | (with_reducible first | apply Xa | (first | apply xi | apply xp | apply xP); omega | apply Xe | refine Xg (by assumption) ?_) | refine Xo (by assumption) ?_ | refine x_0 (by first | assumption | rfl) ?_ | refine x_1 (by first | assumption | rfl) ?_ | refine Or.inl ⟨rfl, ?_⟩ | (split <;> (first | (rename_i u h; clear u) | rename_i h) <;> (try rewrite [h]) <;> (first | replace h := dt h | replace h := df h | replace h := Nt h | replace h := Nf h | skip) <;> (try dsimp only at h) <;> (first | contradiction | (exfalso; omega) | skip)) | (refine Or.inl ⟨_, by assumption, ?_⟩; first | rintro _ rfl | skip))
  refine ⟨[1, 2, 4, 6, 7, 8], [0, 1, 2], fun m st => ∃ (i : Nat) (pl : List Int) (out : List Nd), i ≤ l.length ∧ m = l.length - i ∧ pruneTo l N i = (pl, out) ∧
    (i = 0 ∧ st = ⟨[(1, .ro 1 (fB l.length N)), (2, .bptr 0 0), (4, .bptr 1 0), (6, .bptr 2 0), (7, .nils), (8, .int .i64 (i : Nat))], [.box 24 [.ro 8 (rowN l), .int .i64 (q : Nat)], .box 24 [.nils, .int .i64 0], .box 24 [.nils, .int .i64 0]]⟩ ∨ (0 < i ∧ out = [] ∧ st = ⟨[(1, .ro 1 (fB l.length N)), (2, .bptr 0 0), (4, .bptr 1 0), (6, .bptr 2 0), (7, .own 3 0 (rowZ pl).length), (8, .int .i64 (i : Nat))], [.box 24 [.ro 8 (rowN l), .int .i64 (q : Nat)], .box 24 [.nils, .int .i64 0], .box 24 [.nils, .int .i64 0], .row false 3 1 (rowZ pl)]⟩) ∨ (0 < i ∧ st = ⟨[(1, .ro 1 (fB l.length N)), (2, .bptr 0 0), (4, .bptr 1 0), (6, .bptr 2 0), (7, .own 3 0 (rowZ pl).length), (8, .int .i64 (i : Nat))], [.box 24 [.ro 8 (rowN l), .int .i64 (q : Nat)], .box 24 [.nils, .int .i64 0], .box 24 [.own 4 0 (rowN out).length, .int .i64 0], .row false 3 1 (rowZ pl), .row false 43 8 (rowN out)]⟩)), rfl, ⟨l.length, 0, [], [], by omega, rfl, rfl, .inl ⟨rfl, rfl⟩⟩, ?_⟩
  rintro m _ ⟨i, pl, out, hi, hm, hpr, hst⟩
  have hlen := prune_len (l := l) (N := N) hi
  rw [hpr] at hlen
  dsimp only at hlen
  have hpl := rowZ_length pl
  have hol := rowN_length out
  rcases Nat.lt_or_ge i l.length with hil | hge
  · obtain ⟨x, hx⟩ : ∃ x, x = l[i] := ⟨_, rfl⟩
    have hgx : l[i]? = some x := by rw [hx]; exact hget i hil
    have g : (rowN l)[i]? = some x.cells := by rw [hx]; exact rowN_get hil
    have g1 : (fB l.length N)[i]? = some [.bool (N i)] := fB_get hil
    clear hx
    cases hN : N i
    · have hnx := prune_no hpr hgx hN
      rw [hN] at g1
      obtain ⟨op, a, b, name, shape, k, n, data⟩ := x
      rcases hst with ⟨rfl, rfl⟩ | ⟨h0, rfl, rfl⟩ | ⟨h0, rfl⟩
      · obtain ⟨rfl, rfl⟩ : pl = [] ∧ out = [] := by cases hpr; exact ⟨rfl, rfl⟩
        repeat' ((conv => whnf); first | ((with_reducible apply Xq); assumption) | (with_reducible first | apply Xa | (first | apply xi | apply xp | apply xP); omega | apply Xe | refine Xg (by assumption) ?_) | refine Xo (by assumption) ?_ | refine x_0 (by first | assumption | rfl) ?_ | refine x_1 (by first | assumption | rfl) ?_ | refine Or.inl ⟨rfl, ?_⟩ | (split <;> (first | (rename_i u h; clear u) | rename_i h) <;> (try rewrite [h]) <;> (first | replace h := dt h | replace h := df h | replace h := Nt h | replace h := Nf h | skip) <;> (try dsimp only at h) <;> (first | contradiction | (exfalso; omega) | skip)) | (refine Or.inl ⟨_, by assumption, ?_⟩; first | rintro _ rfl | skip))
        conv => whnf
        refine ⟨Nat.le_of_ble_eq_true rfl, fun h => Nat.succ_ne_zero _ (congrArg List.length h), ?_⟩
        repeat' ((conv => whnf); first | ((with_reducible apply Xq); assumption) | (with_reducible first | apply Xa | (first | apply xi | apply xp | apply xP); omega | apply Xe | refine Xg (by assumption) ?_) | refine Xo (by assumption) ?_ | refine x_0 (by first | assumption | rfl) ?_ | refine x_1 (by first | assumption | rfl) ?_ | refine Or.inl ⟨rfl, ?_⟩ | (split <;> (first | (rename_i u h; clear u) | rename_i h) <;> (try rewrite [h]) <;> (first | replace h := dt h | replace h := df h | replace h := Nt h | replace h := Nf h | skip) <;> (try dsimp only at h) <;> (first | contradiction | (exfalso; omega) | skip)) | (refine Or.inl ⟨_, by assumption, ?_⟩; first | rintro _ rfl | skip))
        exact ⟨[0, 1, 2, 5], l.length - (0 + 1), rfl, by omega, 0 + 1, _, _, by omega, rfl, hnx, .inr (.inl ⟨by omega, rfl, rfl⟩)⟩
      · repeat' ((conv => whnf); first | ((with_reducible apply Xq); assumption) | (with_reducible first | apply Xa | (first | apply xi | apply xp | apply xP); omega | apply Xe | refine Xg (by assumption) ?_) | refine Xo (by assumption) ?_ | refine x_0 (by first | assumption | rfl) ?_ | refine x_1 (by first | assumption | rfl) ?_ | refine Or.inl ⟨rfl, ?_⟩ | (split <;> (first | (rename_i u h; clear u) | rename_i h) <;> (try rewrite [h]) <;> (first | replace h := dt h | replace h := df h | replace h := Nt h | replace h := Nf h | skip) <;> (try dsimp only at h) <;> (first | contradiction | (exfalso; omega) | skip)) | (refine Or.inl ⟨_, by assumption, ?_⟩; first | rintro _ rfl | skip))
        refine ⟨Nat.le_refl _, (show ((rowZ pl).length + 1) * 8 ≤ 140737488355328 by omega), _, rowZ_snoc pl _, ?_⟩
        repeat' ((conv => whnf); first | ((with_reducible apply Xq); assumption) | (with_reducible first | apply Xa | (first | apply xi | apply xp | apply xP); omega | apply Xe | refine Xg (by assumption) ?_) | refine Xo (by assumption) ?_ | refine x_0 (by first | assumption | rfl) ?_ | refine x_1 (by first | assumption | rfl) ?_ | refine Or.inl ⟨rfl, ?_⟩ | (split <;> (first | (rename_i u h; clear u) | rename_i h) <;> (try rewrite [h]) <;> (first | replace h := dt h | replace h := df h | replace h := Nt h | replace h := Nf h | skip) <;> (try dsimp only at h) <;> (first | contradiction | (exfalso; omega) | skip)) | (refine Or.inl ⟨_, by assumption, ?_⟩; first | rintro _ rfl | skip))
        exact ⟨[0, 1, 2, 6], l.length - (i + 1), rfl, by omega, i + 1, _, _, by omega, rfl, hnx, .inr (.inl ⟨by omega, rfl, rfl⟩)⟩
      · repeat' ((conv => whnf); first | ((with_reducible apply Xq); assumption) | (with_reducible first | apply Xa | (first | apply xi | apply xp | apply xP); omega | apply Xe | refine Xg (by assumption) ?_) | refine Xo (by assumption) ?_ | refine x_0 (by first | assumption | rfl) ?_ | refine x_1 (by first | assumption | rfl) ?_ | refine Or.inl ⟨rfl, ?_⟩ | (split <;> (first | (rename_i u h; clear u) | rename_i h) <;> (try rewrite [h]) <;> (first | replace h := dt h | replace h := df h | replace h := Nt h | replace h := Nf h | skip) <;> (try dsimp only at h) <;> (first | contradiction | (exfalso; omega) | skip)) | (refine Or.inl ⟨_, by assumption, ?_⟩; first | rintro _ rfl | skip))
        refine ⟨Nat.le_refl _, (show ((rowZ pl).length + 1) * 8 ≤ 140737488355328 by omega), _, rowZ_snoc pl _, ?_⟩
        repeat' ((conv => whnf); first | ((with_reducible apply Xq); assumption) | (with_reducible first | apply Xa | (first | apply xi | apply xp | apply xP); omega | apply Xe | refine Xg (by assumption) ?_) | refine Xo (by assumption) ?_ | refine x_0 (by first | assumption | rfl) ?_ | refine x_1 (by first | assumption | rfl) ?_ | refine Or.inl ⟨rfl, ?_⟩ | (split <;> (first | (rename_i u h; clear u) | rename_i h) <;> (try rewrite [h]) <;> (first | replace h := dt h | replace h := df h | replace h := Nt h | replace h := Nf h | skip) <;> (try dsimp only at h) <;> (first | contradiction | (exfalso; omega) | skip)) | (refine Or.inl ⟨_, by assumption, ?_⟩; first | rintro _ rfl | skip))
        exact ⟨[0, 1, 2, 7, 4], l.length - (i + 1), rfl, by omega, i + 1, _, _, by omega, rfl, hnx, .inr (.inr ⟨by omega, rfl⟩)⟩
    · have hnx := prune_yes hpr hgx hN
      rw [hN] at g1
      rcases hst with ⟨rfl, rfl⟩ | ⟨h0, rfl, rfl⟩ | ⟨h0, rfl⟩
      · obtain ⟨rfl, rfl⟩ : pl = [] ∧ out = [] := by cases hpr; exact ⟨rfl, rfl⟩
        obtain ⟨m0, hop, F⟩ := hfit hgx
        have hm2 := opParts_le hop
        have hDn := hpt hgx
        have hdp := c_r10_Parts gl x.op
        obtain ⟨op, a, b, name, shape, k, n, data⟩ := x
        have h3 : m0 = 0 ∨ m0 = 1 ∨ m0 = 2 := by omega
        rcases h3 with rfl | rfl | rfl
        · rw [partsZ, hop] at hdp
          rw [re0 hop] at hnx
          repeat' ((conv => whnf); first | ((with_reducible apply Xq); assumption) | (with_reducible first | apply Xa | (first | apply xi | apply xp | apply xP); omega | apply Xe | refine Xg (by assumption) ?_) | refine Xo (by assumption) ?_ | refine x_0 (by first | assumption | rfl) ?_ | refine x_1 (by first | assumption | rfl) ?_ | refine Or.inl ⟨rfl, ?_⟩ | (split <;> (first | (rename_i u h; clear u) | rename_i h) <;> (try rewrite [h]) <;> (first | replace h := dt h | replace h := df h | replace h := Nt h | replace h := Nf h | skip) <;> (try dsimp only at h) <;> (first | contradiction | (exfalso; omega) | skip)) | (refine Or.inl ⟨_, by assumption, ?_⟩; first | rintro _ rfl | skip))
          conv => whnf
          refine ⟨Nat.le_of_ble_eq_true rfl, fun h => Nat.succ_ne_zero _ (congrArg List.length h), ?_⟩
          repeat' ((conv => whnf); first | ((with_reducible apply Xq); assumption) | (with_reducible first | apply Xa | (first | apply xi | apply xp | apply xP); omega | apply Xe | refine Xg (by assumption) ?_) | refine Xo (by assumption) ?_ | refine x_0 (by first | assumption | rfl) ?_ | refine x_1 (by first | assumption | rfl) ?_ | refine Or.inl ⟨rfl, ?_⟩ | (split <;> (first | (rename_i u h; clear u) | rename_i h) <;> (try rewrite [h]) <;> (first | replace h := dt h | replace h := df h | replace h := Nt h | replace h := Nf h | skip) <;> (try dsimp only at h) <;> (first | contradiction | (exfalso; omega) | skip)) | (refine Or.inl ⟨_, by assumption, ?_⟩; first | rintro _ rfl | skip))
          conv => whnf
          refine ⟨Nat.le_of_ble_eq_true rfl, fun h => Nat.succ_ne_zero _ (congrArg List.length h), ?_⟩
          repeat' ((conv => whnf); first | ((with_reducible apply Xq); assumption) | (with_reducible first | apply Xa | (first | apply xi | apply xp | apply xP); omega | apply Xe | refine Xg (by assumption) ?_) | refine Xo (by assumption) ?_ | refine x_0 (by first | assumption | rfl) ?_ | refine x_1 (by first | assumption | rfl) ?_ | refine Or.inl ⟨rfl, ?_⟩ | (split <;> (first | (rename_i u h; clear u) | rename_i h) <;> (try rewrite [h]) <;> (first | replace h := dt h | replace h := df h | replace h := Nt h | replace h := Nf h | skip) <;> (try dsimp only at h) <;> (first | contradiction | (exfalso; omega) | skip)) | (refine Or.inl ⟨_, by assumption, ?_⟩; first | rintro _ rfl | skip))
          exact ⟨[0, 1, 2, 5, 7], l.length - (0 + 1), rfl, by omega, 0 + 1, _, [⟨op, a, b, name, shape, k, n, data⟩], by omega, rfl, hnx, .inr (.inr ⟨by omega, rfl⟩)⟩
        · obtain ⟨u, _, hu⟩ := hDn a (by rw [dP1 hop]; simp)
          omega
        · obtain ⟨u, _, hu⟩ := hDn a (by rw [dP2 hop]; simp)
          omega
      · obtain ⟨m0, hop, F⟩ := hfit hgx
        have hm2 := opParts_le hop
        have h3 : m0 = 0 ∨ m0 = 1 ∨ m0 = 2 := by omega
        have hDn := hpt hgx
        have hdp := c_r10_Parts gl x.op
        obtain ⟨op, a, b, name, shape, k, n, data⟩ := x
        rcases h3 with rfl | rfl | rfl
        · rw [partsZ, hop] at hdp
          rw [re0 hop] at hnx
          repeat' ((conv => whnf); first | ((with_reducible apply Xq); assumption) | (with_reducible first | apply Xa | (first | apply xi | apply xp | apply xP); omega | apply Xe | refine Xg (by assumption) ?_) | refine Xo (by assumption) ?_ | refine x_0 (by first | assumption | rfl) ?_ | refine x_1 (by first | assumption | rfl) ?_ | refine Or.inl ⟨rfl, ?_⟩ | (split <;> (first | (rename_i u h; clear u) | rename_i h) <;> (try rewrite [h]) <;> (first | replace h := dt h | replace h := df h | replace h := Nt h | replace h := Nf h | skip) <;> (try dsimp only at h) <;> (first | contradiction | (exfalso; omega) | skip)) | (refine Or.inl ⟨_, by assumption, ?_⟩; first | rintro _ rfl | skip))
          refine ⟨Nat.le_refl _, (show ((rowZ pl).length + 1) * 8 ≤ 140737488355328 by omega), _, rowZ_snoc pl _, ?_⟩
          repeat' ((conv => whnf); first | ((with_reducible apply Xq); assumption) | (with_reducible first | apply Xa | (first | apply xi | apply xp | apply xP); omega | apply Xe | refine Xg (by assumption) ?_) | refine Xo (by assumption) ?_ | refine x_0 (by first | assumption | rfl) ?_ | refine x_1 (by first | assumption | rfl) ?_ | refine Or.inl ⟨rfl, ?_⟩ | (split <;> (first | (rename_i u h; clear u) | rename_i h) <;> (try rewrite [h]) <;> (first | replace h := dt h | replace h := df h | replace h := Nt h | replace h := Nf h | skip) <;> (try dsimp only at h) <;> (first | contradiction | (exfalso; omega) | skip)) | (refine Or.inl ⟨_, by assumption, ?_⟩; first | rintro _ rfl | skip))
          conv => whnf
          refine ⟨Nat.le_of_ble_eq_true rfl, fun h => Nat.succ_ne_zero _ (congrArg List.length h), ?_⟩
          repeat' ((conv => whnf); first | ((with_reducible apply Xq); assumption) | (with_reducible first | apply Xa | (first | apply xi | apply xp | apply xP); omega | apply Xe | refine Xg (by assumption) ?_) | refine Xo (by assumption) ?_ | refine x_0 (by first | assumption | rfl) ?_ | refine x_1 (by first | assumption | rfl) ?_ | refine Or.inl ⟨rfl, ?_⟩ | (split <;> (first | (rename_i u h; clear u) | rename_i h) <;> (try rewrite [h]) <;> (first | replace h := dt h | replace h := df h | replace h := Nt h | replace h := Nf h | skip) <;> (try dsimp only at h) <;> (first | contradiction | (exfalso; omega) | skip)) | (refine Or.inl ⟨_, by assumption, ?_⟩; first | rintro _ rfl | skip))
          exact ⟨[0, 1, 2, 6, 8], l.length - (i + 1), rfl, by omega, i + 1, _, [⟨op, a, b, name, shape, k, n, data⟩], by omega, rfl, hnx, .inr (.inr ⟨by omega, rfl⟩)⟩
        · rw [partsZ, hop] at hdp; rw [dP1 hop] at hDn
          rw [re1 hop] at hnx
          dsimp only at hdp hnx hDn
          obtain ⟨u, rfl, hu⟩ : ∃ u : Nat, a = u ∧ u < i := hDn a (by simp)
          have gu : (rowZ pl)[0 + u]? = some [.int .i64 (atZ pl u)] := by rw [Nat.zero_add, rowZ_get (by omega), atZ_nat (by omega)]
          repeat' ((conv => whnf); first | ((with_reducible apply Xq); assumption) | (with_reducible first | apply Xa | (first | apply xi | apply xp | apply xP); omega | apply Xe | refine Xg (by assumption) ?_) | refine Xo (by assumption) ?_ | refine x_0 (by first | assumption | rfl) ?_ | refine x_1 (by first | assumption | rfl) ?_ | refine Or.inl ⟨rfl, ?_⟩ | (split <;> (first | (rename_i u h; clear u) | rename_i h) <;> (try rewrite [h]) <;> (first | replace h := dt h | replace h := df h | replace h := Nt h | replace h := Nf h | skip) <;> (try dsimp only at h) <;> (first | contradiction | (exfalso; omega) | skip)) | (refine Or.inl ⟨_, by assumption, ?_⟩; first | rintro _ rfl | skip))
          refine ⟨Nat.le_refl _, (show ((rowZ pl).length + 1) * 8 ≤ 140737488355328 by omega), _, rowZ_snoc pl _, ?_⟩
          repeat' ((conv => whnf); first | ((with_reducible apply Xq); assumption) | (with_reducible first | apply Xa | (first | apply xi | apply xp | apply xP); omega | apply Xe | refine Xg (by assumption) ?_) | refine Xo (by assumption) ?_ | refine x_0 (by first | assumption | rfl) ?_ | refine x_1 (by first | assumption | rfl) ?_ | refine Or.inl ⟨rfl, ?_⟩ | (split <;> (first | (rename_i u h; clear u) | rename_i h) <;> (try rewrite [h]) <;> (first | replace h := dt h | replace h := df h | replace h := Nt h | replace h := Nf h | skip) <;> (try dsimp only at h) <;> (first | contradiction | (exfalso; omega) | skip)) | (refine Or.inl ⟨_, by assumption, ?_⟩; first | rintro _ rfl | skip))
          conv => whnf
          refine ⟨Nat.le_of_ble_eq_true rfl, fun h => Nat.succ_ne_zero _ (congrArg List.length h), ?_⟩
          repeat' ((conv => whnf); first | ((with_reducible apply Xq); assumption) | (with_reducible first | apply Xa | (first | apply xi | apply xp | apply xP); omega | apply Xe | refine Xg (by assumption) ?_) | refine Xo (by assumption) ?_ | refine x_0 (by first | assumption | rfl) ?_ | refine x_1 (by first | assumption | rfl) ?_ | refine Or.inl ⟨rfl, ?_⟩ | (split <;> (first | (rename_i u h; clear u) | rename_i h) <;> (try rewrite [h]) <;> (first | replace h := dt h | replace h := df h | replace h := Nt h | replace h := Nf h | skip) <;> (try dsimp only at h) <;> (first | contradiction | (exfalso; omega) | skip)) | (refine Or.inl ⟨_, by assumption, ?_⟩; first | rintro _ rfl | skip))
          exact ⟨[0, 1, 2, 6, 8], l.length - (i + 1), rfl, by omega, i + 1, _, [⟨op, atZ pl u, b, name, shape, k, n, data⟩], by omega, rfl, hnx, .inr (.inr ⟨by omega, rfl⟩)⟩
        · rw [partsZ, hop] at hdp; rw [dP2 hop] at hDn
          rw [re2 hop] at hnx
          dsimp only at hdp hnx hDn
          obtain ⟨u, rfl, hu⟩ : ∃ u : Nat, a = u ∧ u < i := hDn a (by simp)
          obtain ⟨v, rfl, hv⟩ : ∃ u : Nat, b = u ∧ u < i := hDn b (by simp)
          have gu : (rowZ pl)[0 + u]? = some [.int .i64 (atZ pl u)] := by rw [Nat.zero_add, rowZ_get (by omega), atZ_nat (by omega)]
          have gv : (rowZ pl)[0 + v]? = some [.int .i64 (atZ pl v)] := by rw [Nat.zero_add, rowZ_get (by omega), atZ_nat (by omega)]
          repeat' ((conv => whnf); first | ((with_reducible apply Xq); assumption) | (with_reducible first | apply Xa | (first | apply xi | apply xp | apply xP); omega | apply Xe | refine Xg (by assumption) ?_) | refine Xo (by assumption) ?_ | refine x_0 (by first | assumption | rfl) ?_ | refine x_1 (by first | assumption | rfl) ?_ | refine Or.inl ⟨rfl, ?_⟩ | (split <;> (first | (rename_i u h; clear u) | rename_i h) <;> (try rewrite [h]) <;> (first | replace h := dt h | replace h := df h | replace h := Nt h | replace h := Nf h | skip) <;> (try dsimp only at h) <;> (first | contradiction | (exfalso; omega) | skip)) | (refine Or.inl ⟨_, by assumption, ?_⟩; first | rintro _ rfl | skip))
          refine ⟨Nat.le_refl _, (show ((rowZ pl).length + 1) * 8 ≤ 140737488355328 by omega), _, rowZ_snoc pl _, ?_⟩
          repeat' ((conv => whnf); first | ((with_reducible apply Xq); assumption) | (with_reducible first | apply Xa | (first | apply xi | apply xp | apply xP); omega | apply Xe | refine Xg (by assumption) ?_) | refine Xo (by assumption) ?_ | refine x_0 (by first | assumption | rfl) ?_ | refine x_1 (by first | assumption | rfl) ?_ | refine Or.inl ⟨rfl, ?_⟩ | (split <;> (first | (rename_i u h; clear u) | rename_i h) <;> (try rewrite [h]) <;> (first | replace h := dt h | replace h := df h | replace h := Nt h | replace h := Nf h | skip) <;> (try dsimp only at h) <;> (first | contradiction | (exfalso; omega) | skip)) | (refine Or.inl ⟨_, by assumption, ?_⟩; first | rintro _ rfl | skip))
          conv => whnf
          refine ⟨Nat.le_of_ble_eq_true rfl, fun h => Nat.succ_ne_zero _ (congrArg List.length h), ?_⟩
          repeat' ((conv => whnf); first | ((with_reducible apply Xq); assumption) | (with_reducible first | apply Xa | (first | apply xi | apply xp | apply xP); omega | apply Xe | refine Xg (by assumption) ?_) | refine Xo (by assumption) ?_ | refine x_0 (by first | assumption | rfl) ?_ | refine x_1 (by first | assumption | rfl) ?_ | refine Or.inl ⟨rfl, ?_⟩ | (split <;> (first | (rename_i u h; clear u) | rename_i h) <;> (try rewrite [h]) <;> (first | replace h := dt h | replace h := df h | replace h := Nt h | replace h := Nf h | skip) <;> (try dsimp only at h) <;> (first | contradiction | (exfalso; omega) | skip)) | (refine Or.inl ⟨_, by assumption, ?_⟩; first | rintro _ rfl | skip))
          exact ⟨[0, 1, 2, 6, 8], l.length - (i + 1), rfl, by omega, i + 1, _, [⟨op, atZ pl u, atZ pl v, name, shape, k, n, data⟩], by omega, rfl, hnx, .inr (.inr ⟨by omega, rfl⟩)⟩
      · rw [show out.length = (rowN out).length from (rowN_length out).symm] at hnx
        obtain ⟨m0, hop, F⟩ := hfit hgx
        have hm2 := opParts_le hop
        have h3 : m0 = 0 ∨ m0 = 1 ∨ m0 = 2 := by omega
        have hDn := hpt hgx
        have hdp := c_r10_Parts gl x.op
        obtain ⟨op, a, b, name, shape, k, n, data⟩ := x
        rcases h3 with rfl | rfl | rfl
        · rw [partsZ, hop] at hdp
          rw [re0 hop] at hnx
          repeat' ((conv => whnf); first | ((with_reducible apply Xq); assumption) | (with_reducible first | apply Xa | (first | apply xi | apply xp | apply xP); omega | apply Xe | refine Xg (by assumption) ?_) | refine Xo (by assumption) ?_ | refine x_0 (by first | assumption | rfl) ?_ | refine x_1 (by first | assumption | rfl) ?_ | refine Or.inl ⟨rfl, ?_⟩ | (split <;> (first | (rename_i u h; clear u) | rename_i h) <;> (try rewrite [h]) <;> (first | replace h := dt h | replace h := df h | replace h := Nt h | replace h := Nf h | skip) <;> (try dsimp only at h) <;> (first | contradiction | (exfalso; omega) | skip)) | (refine Or.inl ⟨_, by assumption, ?_⟩; first | rintro _ rfl | skip))
          refine ⟨Nat.le_refl _, (show ((rowZ pl).length + 1) * 8 ≤ 140737488355328 by omega), _, rowZ_snoc pl _, ?_⟩
          repeat' ((conv => whnf); first | ((with_reducible apply Xq); assumption) | (with_reducible first | apply Xa | (first | apply xi | apply xp | apply xP); omega | apply Xe | refine Xg (by assumption) ?_) | refine Xo (by assumption) ?_ | refine x_0 (by first | assumption | rfl) ?_ | refine x_1 (by first | assumption | rfl) ?_ | refine Or.inl ⟨rfl, ?_⟩ | (split <;> (first | (rename_i u h; clear u) | rename_i h) <;> (try rewrite [h]) <;> (first | replace h := dt h | replace h := df h | replace h := Nt h | replace h := Nf h | skip) <;> (try dsimp only at h) <;> (first | contradiction | (exfalso; omega) | skip)) | (refine Or.inl ⟨_, by assumption, ?_⟩; first | rintro _ rfl | skip))
          refine ⟨Nat.le_refl _, (show ((rowN out).length + 1) * 120 ≤ 140737488355328 by omega), _, rowN_snoc out ⟨op, a, b, name, shape, k, n, data⟩ rfl, ?_⟩
          repeat' ((conv => whnf); first | ((with_reducible apply Xq); assumption) | (with_reducible first | apply Xa | (first | apply xi | apply xp | apply xP); omega | apply Xe | refine Xg (by assumption) ?_) | refine Xo (by assumption) ?_ | refine x_0 (by first | assumption | rfl) ?_ | refine x_1 (by first | assumption | rfl) ?_ | refine Or.inl ⟨rfl, ?_⟩ | (split <;> (first | (rename_i u h; clear u) | rename_i h) <;> (try rewrite [h]) <;> (first | replace h := dt h | replace h := df h | replace h := Nt h | replace h := Nf h | skip) <;> (try dsimp only at h) <;> (first | contradiction | (exfalso; omega) | skip)) | (refine Or.inl ⟨_, by assumption, ?_⟩; first | rintro _ rfl | skip))
          exact ⟨[0, 1, 2, 7, 9], l.length - (i + 1), rfl, by omega, i + 1, _, _, by omega, rfl, hnx, .inr (.inr ⟨by omega, rfl⟩)⟩
        · rw [partsZ, hop] at hdp; rw [dP1 hop] at hDn
          rw [re1 hop] at hnx
          dsimp only at hdp hnx hDn
          obtain ⟨u, rfl, hu⟩ : ∃ u : Nat, a = u ∧ u < i := hDn a (by simp)
          have gu : (rowZ pl)[0 + u]? = some [.int .i64 (atZ pl u)] := by rw [Nat.zero_add, rowZ_get (by omega), atZ_nat (by omega)]
          repeat' ((conv => whnf); first | ((with_reducible apply Xq); assumption) | (with_reducible first | apply Xa | (first | apply xi | apply xp | apply xP); omega | apply Xe | refine Xg (by assumption) ?_) | refine Xo (by assumption) ?_ | refine x_0 (by first | assumption | rfl) ?_ | refine x_1 (by first | assumption | rfl) ?_ | refine Or.inl ⟨rfl, ?_⟩ | (split <;> (first | (rename_i u h; clear u) | rename_i h) <;> (try rewrite [h]) <;> (first | replace h := dt h | replace h := df h | replace h := Nt h | replace h := Nf h | skip) <;> (try dsimp only at h) <;> (first | contradiction | (exfalso; omega) | skip)) | (refine Or.inl ⟨_, by assumption, ?_⟩; first | rintro _ rfl | skip))
          refine ⟨Nat.le_refl _, (show ((rowZ pl).length + 1) * 8 ≤ 140737488355328 by omega), _, rowZ_snoc pl _, ?_⟩
          repeat' ((conv => whnf); first | ((with_reducible apply Xq); assumption) | (with_reducible first | apply Xa | (first | apply xi | apply xp | apply xP); omega | apply Xe | refine Xg (by assumption) ?_) | refine Xo (by assumption) ?_ | refine x_0 (by first | assumption | rfl) ?_ | refine x_1 (by first | assumption | rfl) ?_ | refine Or.inl ⟨rfl, ?_⟩ | (split <;> (first | (rename_i u h; clear u) | rename_i h) <;> (try rewrite [h]) <;> (first | replace h := dt h | replace h := df h | replace h := Nt h | replace h := Nf h | skip) <;> (try dsimp only at h) <;> (first | contradiction | (exfalso; omega) | skip)) | (refine Or.inl ⟨_, by assumption, ?_⟩; first | rintro _ rfl | skip))
          refine ⟨Nat.le_refl _, (show ((rowN out).length + 1) * 120 ≤ 140737488355328 by omega), _, rowN_snoc out ⟨op, atZ pl u, b, name, shape, k, n, data⟩ rfl, ?_⟩
          repeat' ((conv => whnf); first | ((with_reducible apply Xq); assumption) | (with_reducible first | apply Xa | (first | apply xi | apply xp | apply xP); omega | apply Xe | refine Xg (by assumption) ?_) | refine Xo (by assumption) ?_ | refine x_0 (by first | assumption | rfl) ?_ | refine x_1 (by first | assumption | rfl) ?_ | refine Or.inl ⟨rfl, ?_⟩ | (split <;> (first | (rename_i u h; clear u) | rename_i h) <;> (try rewrite [h]) <;> (first | replace h := dt h | replace h := df h | replace h := Nt h | replace h := Nf h | skip) <;> (try dsimp only at h) <;> (first | contradiction | (exfalso; omega) | skip)) | (refine Or.inl ⟨_, by assumption, ?_⟩; first | rintro _ rfl | skip))
          exact ⟨[0, 1, 2, 7, 9], l.length - (i + 1), rfl, by omega, i + 1, _, _, by omega, rfl, hnx, .inr (.inr ⟨by omega, rfl⟩)⟩
        · rw [partsZ, hop] at hdp; rw [dP2 hop] at hDn
          rw [re2 hop] at hnx
          dsimp only at hdp hnx hDn
          obtain ⟨u, rfl, hu⟩ : ∃ u : Nat, a = u ∧ u < i := hDn a (by simp)
          obtain ⟨v, rfl, hv⟩ : ∃ u : Nat, b = u ∧ u < i := hDn b (by simp)
          have gu : (rowZ pl)[0 + u]? = some [.int .i64 (atZ pl u)] := by rw [Nat.zero_add, rowZ_get (by omega), atZ_nat (by omega)]
          have gv : (rowZ pl)[0 + v]? = some [.int .i64 (atZ pl v)] := by rw [Nat.zero_add, rowZ_get (by omega), atZ_nat (by omega)]
          repeat' ((conv => whnf); first | ((with_reducible apply Xq); assumption) | (with_reducible first | apply Xa | (first | apply xi | apply xp | apply xP); omega | apply Xe | refine Xg (by assumption) ?_) | refine Xo (by assumption) ?_ | refine x_0 (by first | assumption | rfl) ?_ | refine x_1 (by first | assumption | rfl) ?_ | refine Or.inl ⟨rfl, ?_⟩ | (split <;> (first | (rename_i u h; clear u) | rename_i h) <;> (try rewrite [h]) <;> (first | replace h := dt h | replace h := df h | replace h := Nt h | replace h := Nf h | skip) <;> (try dsimp only at h) <;> (first | contradiction | (exfalso; omega) | skip)) | (refine Or.inl ⟨_, by assumption, ?_⟩; first | rintro _ rfl | skip))
          refine ⟨Nat.le_refl _, (show ((rowZ pl).length + 1) * 8 ≤ 140737488355328 by omega), _, rowZ_snoc pl _, ?_⟩
          repeat' ((conv => whnf); first | ((with_reducible apply Xq); assumption) | (with_reducible first | apply Xa | (first | apply xi | apply xp | apply xP); omega | apply Xe | refine Xg (by assumption) ?_) | refine Xo (by assumption) ?_ | refine x_0 (by first | assumption | rfl) ?_ | refine x_1 (by first | assumption | rfl) ?_ | refine Or.inl ⟨rfl, ?_⟩ | (split <;> (first | (rename_i u h; clear u) | rename_i h) <;> (try rewrite [h]) <;> (first | replace h := dt h | replace h := df h | replace h := Nt h | replace h := Nf h | skip) <;> (try dsimp only at h) <;> (first | contradiction | (exfalso; omega) | skip)) | (refine Or.inl ⟨_, by assumption, ?_⟩; first | rintro _ rfl | skip))
          refine ⟨Nat.le_refl _, (show ((rowN out).length + 1) * 120 ≤ 140737488355328 by omega), _, rowN_snoc out ⟨op, atZ pl u, atZ pl v, name, shape, k, n, data⟩ rfl, ?_⟩
          repeat' ((conv => whnf); first | ((with_reducible apply Xq); assumption) | (with_reducible first | apply Xa | (first | apply xi | apply xp | apply xP); omega | apply Xe | refine Xg (by assumption) ?_) | refine Xo (by assumption) ?_ | refine x_0 (by first | assumption | rfl) ?_ | refine x_1 (by first | assumption | rfl) ?_ | refine Or.inl ⟨rfl, ?_⟩ | (split <;> (first | (rename_i u h; clear u) | rename_i h) <;> (try rewrite [h]) <;> (first | replace h := dt h | replace h := df h | replace h := Nt h | replace h := Nf h | skip) <;> (try dsimp only at h) <;> (first | contradiction | (exfalso; omega) | skip)) | (refine Or.inl ⟨_, by assumption, ?_⟩; first | rintro _ rfl | skip))
          exact ⟨[0, 1, 2, 7, 9], l.length - (i + 1), rfl, by omega, i + 1, _, _, by omega, rfl, hnx, .inr (.inr ⟨by omega, rfl⟩)⟩
  · have hi2 : i = l.length := by omega
    subst hi2
    have hG := hfin pl out hpr
    have gq : (rowZ pl)[0 + q]? = some [.int .i64 (atZ pl q)] := by rw [Nat.zero_add, rowZ_get (by omega), atZ_nat (by omega)]
    rcases hst with ⟨h0, rfl⟩ | ⟨h0, rfl, rfl⟩ | ⟨h0, rfl⟩
    · omega
    · repeat' ((conv => whnf); first | ((with_reducible apply Xq); assumption) | (with_reducible first | apply Xa | (first | apply xi | apply xp | apply xP); omega | apply Xe | refine Xg (by assumption) ?_) | refine Xo (by assumption) ?_ | refine x_0 (by first | assumption | rfl) ?_ | refine x_1 (by first | assumption | rfl) ?_ | refine Or.inl ⟨rfl, ?_⟩ | (split <;> (first | (rename_i u h; clear u) | rename_i h) <;> (try rewrite [h]) <;> (first | replace h := dt h | replace h := df h | replace h := Nt h | replace h := Nf h | skip) <;> (try dsimp only at h) <;> (first | contradiction | (exfalso; omega) | skip)) | (refine Or.inl ⟨_, by assumption, ?_⟩; first | rintro _ rfl | skip))
      all_goals (conv => whnf)
      exact ⟨_, roTo2 (roToA (show RoTo .nils (.ro 8 []) from ⟨8, rfl⟩) rfl) rfl, by rw [hG]; rfl⟩
    · repeat' ((conv => whnf); first | ((with_reducible apply Xq); assumption) | (with_reducible first | apply Xa | (first | apply xi | apply xp | apply xP); omega | apply Xe | refine Xg (by assumption) ?_) | refine Xo (by assumption) ?_ | refine x_0 (by first | assumption | rfl) ?_ | refine x_1 (by first | assumption | rfl) ?_ | refine Or.inl ⟨rfl, ?_⟩ | (split <;> (first | (rename_i u h; clear u) | rename_i h) <;> (try rewrite [h]) <;> (first | replace h := dt h | replace h := df h | replace h := Nt h | replace h := Nf h | skip) <;> (try dsimp only at h) <;> (first | contradiction | (exfalso; omega) | skip)) | (refine Or.inl ⟨_, by assumption, ?_⟩; first | rintro _ rfl | skip))
      all_goals (conv => whnf)
      exact ⟨_, roTo2 (roToA rfl rfl) rfl, by rw [hG]; rfl⟩
end Go.V
namespace Go.V
open Go.N
set_option maxRecDepth 20000
def T_awake : Tab := [(43, ⟨.strc [(0, 1, false), (1, 1, false), (2, 1, false), (3, 1, false), (4, 1, false), (5, 1, false), (6, 1, false), (7, 1, false)], 8, 120, (.agg #[(.string .empty), (.int .i64 0), (.int .i64 0), (.string .empty), (.slice none 0 0), (.string .empty), (.int .i64 0), (.slice none 0 0)]), [0, 0, 0, 0, 1, 0, 0, 1]⟩), (22, ⟨.slice 43, 1, 24, (.slice none 0 0), [8]⟩), (24, ⟨.strc [(0, 1, false), (1, 1, false)], 2, 32, (.agg #[(.slice none 0 0), (.int .i64 0)]), [8, 0]⟩), (25, ⟨.slice 3, 1, 24, (.slice none 0 0), [1]⟩), (3, ⟨.int .i64, 1, 8, (.int .i64 0), [0]⟩), (29, ⟨.int .i64, 1, 8, (.int .i64 0), [0]⟩)]
theorem TOK_awake : TOK Go.Proofs.Tryz.prog T_awake := ⟨⟨info_of Go.Proofs.Tryz.type43 rfl, by decide +kernel, by decide +kernel⟩, ⟨⟨info_of Go.Proofs.Tryz.type22 rfl, by decide +kernel, by decide +kernel⟩, ⟨⟨info_of Go.Proofs.Tryz.type24 rfl, by decide +kernel, by decide +kernel⟩, ⟨⟨info_of Go.Proofs.Tryz.type25 rfl, by decide +kernel, by decide +kernel⟩, ⟨⟨info_of Go.Proofs.Tryz.type3 rfl, by decide +kernel, by decide +kernel⟩, ⟨⟨info_of Go.Proofs.Tryz.type29 rfl, by decide +kernel, by decide +kernel⟩, trivial⟩⟩⟩⟩⟩⟩
mutual
def AsRo : AV → AV → Prop
  | .nils, y => y = .nils ∨ ∃ sz, y = .ro sz []
  | .ro sz es, y => ∃ es', y = .ro sz es' ∧ AsRoLL es es'
  | .agg cs, y => ∃ cs', y = .agg cs' ∧ AsRoL cs cs'
  | x, y => y = x
def AsRoL : List AV → List AV → Prop
  | [], ys => ys = []
  | x :: xs, ys => ∃ y r, ys = y :: r ∧ AsRo x y ∧ AsRoL xs r
def AsRoLL : List (List AV) → List (List AV) → Prop
  | [], ys => ys = []
  | x :: xs, ys => ∃ y r, ys = y :: r ∧ AsRoL x y ∧ AsRoLL xs r
end
theorem asRoLL_len : ∀ (es es' : List (List AV)), AsRoLL es es' → es'.length = es.length
  | [], _, h => by simp only [AsRoLL] at h; rw [h]
  | _ :: xs, _, h => by
    simp only [AsRoLL] at h
    obtain ⟨y, r, rfl, _, h⟩ := h
    simp [asRoLL_len xs r h]
mutual
theorem asRo_rep {S : Nat → Prop} {H : Hp} {w : World} : ∀ (x y : AV) (v : Value), AsRo x y → RepV S H w x v → RepV S H w y v
  | .nils, y, v, hy, h => by
    simp only [AsRo] at hy
    rcases hy with rfl | ⟨sz, rfl⟩
    · exact h
    · simp only [RepV] at h ⊢
      subst h
      exact ⟨none, 0, by simp⟩
  | .ro sz es, y, v, hy, h => by
    simp only [AsRo] at hy
    obtain ⟨es', rfl, hl⟩ := hy
    have hn := asRoLL_len _ _ hl
    simp only [RepV] at h ⊢
    obtain ⟨A, c, e, hc, hm, h⟩ := h
    refine ⟨A, c, by rw [hn]; exact e, by rw [hn]; exact hc, hm, ?_⟩
    rcases h with h | ⟨a, ea, hs, hb, vss, hvl, hz, hcell⟩
    · left; exact List.length_eq_zero_iff.1 (by rw [hn, h]; rfl)
    · exact .inr ⟨a, ea, hs, hb, vss, asRoLL_rep es es' vss hl hvl, hz, hcell⟩
  | .agg cs, y, v, hy, h => by
    simp only [AsRo] at hy
    obtain ⟨cs', rfl, hl⟩ := hy
    simp only [RepV] at h ⊢
    obtain ⟨vs, e, h1, h2⟩ := h
    exact ⟨vs, e, h1, asRoL_rep cs cs' vs hl h2⟩
  | .j, y, v, hy, h | .u, y, v, hy, h | .int _ _, y, v, hy, h | .bool _, y, v, hy, h | .str _, y, v, hy, h | .nili, y, v, hy, h | .tup _, y, v, hy, h | .fr _ _ _, y, v, hy, h
  | .own _ _ _, y, v, hy, h | .ptr _ _ _, y, v, hy, h | .bptr _ _, y, v, hy, h | .map _, y, v, hy, h | .rp _, y, v, hy, h | .fn _ _, y, v, hy, h | .iface _ _, y, v, hy, h => by
    simp only [AsRo] at hy
    subst hy; exact h
theorem asRoL_rep {S : Nat → Prop} {H : Hp} {w : World} : ∀ (xs ys : List AV) (vs : List Value), AsRoL xs ys → RepL S H w xs vs → RepL S H w ys vs
  | [], ys, vs, hy, h => by simp only [AsRoL] at hy; subst hy; exact h
  | x :: xs, ys, vs, hy, h => by
    simp only [AsRoL] at hy
    obtain ⟨y, r, rfl, h1, h2⟩ := hy
    simp only [RepL] at h ⊢
    obtain ⟨v, r', rfl, h3, h4⟩ := h
    exact ⟨v, r', rfl, asRo_rep x y v h1 h3, asRoL_rep xs r r' h2 h4⟩
theorem asRoLL_rep {S : Nat → Prop} {w : World} : ∀ (xs ys : List (List AV)) (vs : List (List Value)), AsRoLL xs ys → RepLL S w xs vs → RepLL S w ys vs
  | [], ys, vs, hy, h => by simp only [AsRoLL] at hy; subst hy; exact h
  | x :: xs, ys, vs, hy, h => by
    simp only [AsRoLL] at hy
    obtain ⟨y, r, rfl, h1, h2⟩ := hy
    simp only [RepLL] at h ⊢
    obtain ⟨v, r', rfl, h3, h4⟩ := h
    exact ⟨v, r', rfl, asRoL_rep x y v h1 h3, asRoLL_rep xs r r' h2 h4⟩
end
theorem VCall.args {P : Program} {gl : Gl} {f : FuncId} {xs ys : List AV} {R : AV → Prop} (h : VCall P gl f ys R) (ha : AsRoL xs ys) : VCall P gl f xs R :=
  fun S w vs h1 h2 h3 => h S w vs h1 h2 (asRoL_rep _ _ _ ha h3)
def ndA (op name : ByteArray) : List AV := [.str op, .int .i64 0, .int .i64 0, .str name, .nils, .str ⟨#[]⟩, .int .i64 0, .nils]
theorem ndA_as (op name : ByteArray) : AsRoL (ndA op name) (Nd.cells ⟨op, 0, 0, name, [], ⟨#[]⟩, 0, []⟩) :=
  ⟨_, _, rfl, rfl, _, _, rfl, rfl, _, _, rfl, rfl, _, _, rfl, rfl, _, _, rfl, .inr ⟨1, rfl⟩, _, _, rfl, rfl, _, _, rfl, rfl, _, _, rfl, .inr ⟨1, rfl⟩, rfl⟩
def nd0 (op name : ByteArray) : Nd := ⟨op, 0, 0, name, [], ⟨#[]⟩, 0, []⟩
def G0 : Gr := ⟨[nd0 sParam ⟨#[119]⟩, nd0 sRelu ⟨#[]⟩, nd0 sAdd ⟨#[]⟩], 2⟩
theorem G0_ok : okDead G0 [] = true := by decide +kernel
theorem G0_0 : NB G0 [] 0 = true := NB_iff.2 (.name (x := nd0 sParam ⟨#[119]⟩) rfl (by decide))
theorem G0_2 : NB G0 [] 2 = true := NB_iff.2 (.loss rfl)
theorem G0_1 : NB G0 [] 1 = false := by
  rw [Bool.eq_false_iff]
  intro h
  rcases (need_iff (x := nd0 sRelu ⟨#[]⟩) rfl).1 (NB_iff.1 h) with (h | h | ⟨k, y, h1, h2, h3, _⟩) | h
  · exact absurd h (by decide)
  · simp at h
  · have hk : k < 3 := (List.getElem?_eq_some_iff.1 h2).1
    obtain rfl : k = 2 := by omega
    have : y = nd0 sAdd ⟨#[]⟩ := by
      have e : G0.nodes[2]? = some (nd0 sAdd ⟨#[]⟩) := rfl
      rw [e] at h2; cases h2; rfl
    subst this
    exact absurd h3 (by decide)
  · exact h rfl
theorem G0_prune : pruneG G0 (NB G0 []) = (⟨[nd0 sParam ⟨#[119]⟩, nd0 sAdd ⟨#[]⟩], 1⟩, [0, -1, 1]) := by
  have h1 := prune_yes (l := G0.nodes) (N := NB G0 []) (i := 0) (x := nd0 sParam ⟨#[119]⟩) rfl rfl G0_0
  have h2 := prune_no h1 (x := nd0 sRelu ⟨#[]⟩) rfl G0_1
  have h3 := prune_yes h2 (x := nd0 sAdd ⟨#[]⟩) rfl G0_2
  have e : G0.nodes.length = 3 := rfl
  rw [pruneG, e, h3]
  rfl
theorem c_awake : VCall Go.Proofs.Tryz.prog GL 6 [] (fun r => r = .bool true) := by
  have hp := c_dPrune G0 [] (fun x hx => by
    simp only [G0, List.mem_cons, List.not_mem_nil, or_false] at hx
    rcases hx with rfl | rfl | rfl <;> exact ⟨by decide, by decide, by decide, by decide, fun d hd => by simp [nd0] at hd⟩) (by decide) (by decide)
  rw [G0_ok, if_pos rfl, G0_prune] at hp
  have hs := c_r04_Same GL [0, -1, 1] [0, -1, 1] (by decide) (by decide)
  rw [decide_eq_true rfl] at hs
  have hp := hp.args (xs := [.agg [.ro 8 [ndA sParam ⟨#[119]⟩, ndA sRelu ⟨#[]⟩, ndA sAdd ⟨#[]⟩], .int .i64 2], .ro 1 []])
    ⟨_, _, rfl, ⟨_, rfl, _, _, rfl, ⟨_, rfl, _, _, rfl, ndA_as _ _, _, _, rfl, ndA_as _ _, _, _, rfl, ndA_as _ _, rfl⟩, _, _, rfl, rfl, rfl⟩, _, _, rfl, ⟨_, rfl, rfl⟩, rfl⟩
  refine vcall_of TOK_awake HM Go.Proofs.Tryz.func6 rfl (by decide +kernel) (by decide +kernel) rfl ?_
  repeat' ((conv => whnf); first | ((with_reducible apply Xq); assumption) | (with_reducible first | apply Xa | (first | apply xi | apply xp | apply xP); omega | apply Xe | refine Xg (by assumption) ?_) | refine Xo (by assumption) ?_ | refine x_0 (by first | assumption | rfl) ?_ | refine x_1 (by first | assumption | rfl) ?_ | refine Or.inl ⟨rfl, ?_⟩ | (split <;> (first | (rename_i u h; clear u) | rename_i h) <;> (try rewrite [h]) <;> (first | replace h := dt h | replace h := df h | replace h := Nt h | replace h := Nf h | skip) <;> (try dsimp only at h) <;> (first | contradiction | (exfalso; omega) | skip)) | (refine Or.inl ⟨_, by assumption, ?_⟩; first | rintro _ rfl | skip))
  conv => whnf
  rfl
end Go.V
namespace Go.V
open Go.N
set_option maxRecDepth 20000
def T_DeadPrunes : Tab := [(24, ⟨.strc [(0, 1, false), (1, 1, false)], 2, 32, (.agg #[(.slice none 0 0), (.int .i64 0)]), [8, 0]⟩), (4, ⟨.bool, 1, 1, (.bool false), [0]⟩), (25, ⟨.slice 3, 1, 24, (.slice none 0 0), [1]⟩), (3, ⟨.int .i64, 1, 8, (.int .i64 0), [0]⟩), (29, ⟨.int .i64, 1, 8, (.int .i64 0), [0]⟩), (28, ⟨.slice 4, 1, 24, (.slice none 0 0), [1]⟩), (22, ⟨.slice 43, 1, 24, (.slice none 0 0), [8]⟩), (43, ⟨.strc [(0, 1, false), (1, 1, false), (2, 1, false), (3, 1, false), (4, 1, false), (5, 1, false), (6, 1, false), (7, 1, false)], 8, 120, (.agg #[(.string .empty), (.int .i64 0), (.int .i64 0), (.string .empty), (.slice none 0 0), (.string .empty), (.int .i64 0), (.slice none 0 0)]), [0, 0, 0, 0, 1, 0, 0, 1]⟩)]
theorem TOK_DeadPrunes : TOK Go.Proofs.Tryz.prog T_DeadPrunes := ⟨⟨info_of Go.Proofs.Tryz.type24 rfl, by decide +kernel, by decide +kernel⟩, ⟨⟨info_of Go.Proofs.Tryz.type4 rfl, by decide +kernel, by decide +kernel⟩, ⟨⟨info_of Go.Proofs.Tryz.type25 rfl, by decide +kernel, by decide +kernel⟩, ⟨⟨info_of Go.Proofs.Tryz.type3 rfl, by decide +kernel, by decide +kernel⟩, ⟨⟨info_of Go.Proofs.Tryz.type29 rfl, by decide +kernel, by decide +kernel⟩, ⟨⟨info_of Go.Proofs.Tryz.type28 rfl, by decide +kernel, by decide +kernel⟩, ⟨⟨info_of Go.Proofs.Tryz.type22 rfl, by decide +kernel, by decide +kernel⟩, ⟨⟨info_of Go.Proofs.Tryz.type43 rfl, by decide +kernel, by decide +kernel⟩, trivial⟩⟩⟩⟩⟩⟩⟩⟩
theorem reN_sm {pl : List Int} {x : Nd} (h : x.Sm) : (reN pl x).Sm := by
  unfold reN
  split
  · exact ⟨h.name, h.k, h.shape, h.data, h.each⟩
  · exact ⟨h.name, h.k, h.shape, h.data, h.each⟩
  · exact h
theorem prune_sm {l : List Nd} {N : Nat → Bool} (hs : ∀ x ∈ l, x.Sm) : ∀ i, ∀ x ∈ (pruneTo l N i).2, x.Sm
  | 0, x, hx => by simp [pruneTo] at hx
  | i + 1, x, hx => by
    have ih := prune_sm (N := N) hs i
    unfold pruneTo at hx
    split at hx
    · exact ih x hx
    · rename_i y hy
      split at hx
      · simp only [List.mem_append, List.mem_singleton] at hx
        rcases hx with hx | rfl
        · exact ih x hx
        · exact reN_sm (hs y (List.mem_of_getElem? hy))
      · exact ih x hx
open Classical in
set_option maxHeartbeats 4000000 in
theorem c_DeadPrunes (g : Gr) (keep : List Int) : VCall Go.Proofs.Tryz.prog GL 3 [.agg g.cells, .ro 1 (rowZ keep)] (fun r => r = .bool true) := by
  have haw := c_awake
  obtain ⟨l, p⟩ := g
  show VCall _ _ _ [.agg [.ro 8 (rowN l), .int .i64 p], .ro 1 (rowZ keep)] _
  have hsm := c_r10_Small GL ⟨l, p⟩
  have hlr := rowN_length l
  have hkr := rowZ_length keep
  cases hS : smallG ⟨l, p⟩
  · rw [hS] at hsm
    refine vcall_of TOK_DeadPrunes HM Go.Proofs.Tryz.func3 rfl (by decide +kernel) (by decide +kernel) rfl ?_
    repeat' ((conv => whnf); first | ((with_reducible apply Xq); assumption) | (with_reducible first | apply Xa | (first | apply xi | apply xp | apply xP); omega | apply Xe | refine Xg (by assumption) ?_) | refine Xo (by assumption) ?_ | refine x_0 (by first | assumption | rfl) ?_ | refine x_1 (by first | assumption | rfl) ?_ | refine Or.inl ⟨rfl, ?_⟩ | (split <;> (first | (rename_i u h; clear u) | rename_i h) <;> (try rewrite [h]) <;> (first | replace h := dt h | replace h := df h | replace h := Nt h | replace h := Nf h | skip) <;> (try dsimp only at h) <;> (first | contradiction | (exfalso; omega) | skip)) | (refine Or.inl ⟨_, by assumption, ?_⟩; first | rintro _ rfl | skip))
    all_goals (conv => whnf)
    all_goals rfl
  by_cases hkl : keep.length ≤ 40
  case neg =>
    rw [hS] at hsm
    refine vcall_of TOK_DeadPrunes HM Go.Proofs.Tryz.func3 rfl (by decide +kernel) (by decide +kernel) rfl ?_
    repeat' ((conv => whnf); first | ((with_reducible apply Xq); assumption) | (with_reducible first | apply Xa | (first | apply xi | apply xp | apply xP); omega | apply Xe | refine Xg (by assumption) ?_) | refine Xo (by assumption) ?_ | refine x_0 (by first | assumption | rfl) ?_ | refine x_1 (by first | assumption | rfl) ?_ | refine Or.inl ⟨rfl, ?_⟩ | (split <;> (first | (rename_i u h; clear u) | rename_i h) <;> (try rewrite [h]) <;> (first | replace h := dt h | replace h := df h | replace h := Nt h | replace h := Nf h | skip) <;> (try dsimp only at h) <;> (first | contradiction | (exfalso; omega) | skip)) | (refine Or.inl ⟨_, by assumption, ?_⟩; first | rintro _ rfl | skip))
    all_goals (conv => whnf)
    all_goals rfl
  rw [hS] at hsm
  simp only [smallG, Bool.and_eq_true, decide_eq_true_eq, List.all_eq_true] at hS
  obtain ⟨hl, hs⟩ := hS
  have hs := fun x hx => smallN_sm (hs x hx)
  have hnd := c_dNeeded ⟨l, p⟩ keep hs (by dsimp only; omega) (by omega)
  have hpr := c_dPrune ⟨l, p⟩ keep hs (by dsimp only; omega) (by omega)
  have hR := c_r10_Right GL ⟨l, p⟩ hs (by dsimp only; omega)
  cases hg : grOK ⟨l, p⟩
  · have hok : okDead ⟨l, p⟩ keep = false := by rw [okDead, hg]; rfl
    rw [hok, if_neg (by simp)] at hnd hpr
    rw [hg] at hR
    refine vcall_of TOK_DeadPrunes HM Go.Proofs.Tryz.func3 rfl (by decide +kernel) (by decide +kernel) rfl ?_
    repeat' ((conv => whnf); first | ((with_reducible apply Xq); assumption) | (with_reducible first | apply Xa | (first | apply xi | apply xp | apply xP); omega | apply Xe | refine Xg (by assumption) ?_) | refine Xo (by assumption) ?_ | refine x_0 (by first | assumption | rfl) ?_ | refine x_1 (by first | assumption | rfl) ?_ | refine Or.inl ⟨rfl, ?_⟩ | (split <;> (first | (rename_i u h; clear u) | rename_i h) <;> (try rewrite [h]) <;> (first | replace h := dt h | replace h := df h | replace h := Nt h | replace h := Nf h | skip) <;> (try dsimp only at h) <;> (first | contradiction | (exfalso; omega) | skip)) | (refine Or.inl ⟨_, by assumption, ?_⟩; first | rintro _ rfl | skip))
    all_goals (conv => whnf)
    all_goals rfl
  have hrn := c_r16_Needed GL ⟨l, p⟩ keep hg (by omega)
  rw [hg] at hR
  cases hk : keepOK ⟨l, p⟩ keep
  · have hok : okDead ⟨l, p⟩ keep = false := by rw [okDead, hg, hk]; rfl
    rw [hok, if_neg (by simp)] at hnd hpr
    rw [hk, if_neg (by simp)] at hrn
    refine vcall_of TOK_DeadPrunes HM Go.Proofs.Tryz.func3 rfl (by decide +kernel) (by decide +kernel) rfl ?_
    repeat' ((conv => whnf); first | ((with_reducible apply Xq); assumption) | (with_reducible first | apply Xa | (first | apply xi | apply xp | apply xP); omega | apply Xe | refine Xg (by assumption) ?_) | refine Xo (by assumption) ?_ | refine x_0 (by first | assumption | rfl) ?_ | refine x_1 (by first | assumption | rfl) ?_ | refine Or.inl ⟨rfl, ?_⟩ | (split <;> (first | (rename_i u h; clear u) | rename_i h) <;> (try rewrite [h]) <;> (first | replace h := dt h | replace h := df h | replace h := Nt h | replace h := Nf h | skip) <;> (try dsimp only at h) <;> (first | contradiction | (exfalso; omega) | skip)) | (refine Or.inl ⟨_, by assumption, ?_⟩; first | rintro _ rfl | skip))
    all_goals (conv => whnf)
    all_goals rfl
  have hok : okDead ⟨l, p⟩ keep = true := by rw [okDead, hg, hk]; rfl
  rw [hok, if_pos rfl] at hnd hpr
  rw [hk, if_pos rfl] at hrn
  have hrp := c_r16_Prune GL ⟨l, p⟩ (NB ⟨l, p⟩ keep) hg
  have hsm2 := prune_sm (N := NB ⟨l, p⟩ keep) hs l.length
  have hln := prune_len (l := l) (N := NB ⟨l, p⟩ keep) (Nat.le_refl _)
  have hG : pruneG ⟨l, p⟩ (NB ⟨l, p⟩ keep) = (⟨(pruneTo l (NB ⟨l, p⟩ keep) l.length).2, atZ (pruneTo l (NB ⟨l, p⟩ keep) l.length).1 p⟩, (pruneTo l (NB ⟨l, p⟩ keep) l.length).1) := rfl
  rw [hG] at hpr hrp
  generalize NB ⟨l, p⟩ keep = N at hnd hpr hrn hrp hsm2 hln
  generalize pruneTo l N l.length = R at hpr hrp hsm2 hln
  obtain ⟨pl, out⟩ := R
  dsimp only at hnd hpr hrn hrp hsm2 hln
  have heq := c_r10_Equal GL ⟨out, atZ pl p⟩ ⟨out, atZ pl p⟩ hsm2 hsm2 (by dsimp only; omega)
  rw [decide_eq_true rfl] at heq
  have hsame := c_r04_Same GL pl pl (by omega) (by omega)
  rw [decide_eq_true rfl] at hsame
  have hfl := fB_length l.length N
  refine vcall_of TOK_DeadPrunes HM Go.Proofs.Tryz.func3 rfl (by decide +kernel) (by decide +kernel) rfl ?_
  repeat' ((conv => whnf); first | ((with_reducible apply Xq); assumption) | (with_reducible first | apply Xa | (first | apply xi | apply xp | apply xP); omega | apply Xe | refine Xg (by assumption) ?_) | refine Xo (by assumption) ?_ | refine x_0 (by first | assumption | rfl) ?_ | refine x_1 (by first | assumption | rfl) ?_ | refine Or.inl ⟨rfl, ?_⟩ | (split <;> (first | (rename_i u h; clear u) | rename_i h) <;> (try rewrite [h]) <;> (first | replace h := dt h | replace h := df h | replace h := Nt h | replace h := Nf h | skip) <;> (try dsimp only at h) <;> (first | contradiction | (exfalso; omega) | skip)) | (refine Or.inl ⟨_, by assumption, ?_⟩; first | rintro _ rfl | skip))
  refine ⟨[2, 5, 7, 8, 10, 94, 95, 96], [0, 1], fun m st => ∃ i : Nat, i ≤ l.length ∧ m = l.length - i ∧
    st = ⟨[(2, .bptr 0 0), (5, .ro 1 (fB l.length N)), (7, .bptr 1 0), (8, .ro 1 (rowZ pl)), (10, .ro 1 (fB l.length N)), (94, .ro 1 (fB l.length N)), (95, .int .i64 ((fB l.length N).length : Nat)), (96, .int .i64 (i : Nat))],
      [.box 24 [.ro 8 (rowN l), .int .i64 p], .box 24 [.ro 8 (rowN out), .int .i64 (atZ pl p)]]⟩, rfl, ⟨l.length, 0, by omega, rfl, rfl⟩, ?_⟩
  rintro m _ ⟨i, hi, hm, rfl⟩
  rcases Nat.lt_or_ge i l.length with hil | hge
  · have g1 : (fB l.length N)[i]? = some [.bool (N i)] := fB_get hil
    repeat' ((conv => whnf); first | ((with_reducible apply Xq); assumption) | (with_reducible first | apply Xa | (first | apply xi | apply xp | apply xP); omega | apply Xe | refine Xg (by assumption) ?_) | refine Xo (by assumption) ?_ | refine x_0 (by first | assumption | rfl) ?_ | refine x_1 (by first | assumption | rfl) ?_ | refine Or.inl ⟨rfl, ?_⟩ | (split <;> (first | (rename_i u h; clear u) | rename_i h) <;> (try rewrite [h]) <;> (first | replace h := dt h | replace h := df h | replace h := Nt h | replace h := Nf h | skip) <;> (try dsimp only at h) <;> (first | contradiction | (exfalso; omega) | skip)) | (refine Or.inl ⟨_, by assumption, ?_⟩; first | rintro _ rfl | skip))
    refine ⟨by decide +kernel, [0, 0, 3, 7, 0, 0, 48, 112, 255], by decide +kernel, ?_⟩
    cases hN : N i
    all_goals rw [hN] at g1
    all_goals (repeat' ((conv => whnf); first | ((with_reducible apply Xq); assumption) | (with_reducible first | apply Xa | (first | apply xi | apply xp | apply xP); omega | apply Xe | refine Xg (by assumption) ?_) | refine Xo (by assumption) ?_ | refine x_0 (by first | assumption | rfl) ?_ | refine x_1 (by first | assumption | rfl) ?_ | refine Or.inl ⟨rfl, ?_⟩ | (split <;> (first | (rename_i u h; clear u) | rename_i h) <;> (try rewrite [h]) <;> (first | replace h := dt h | replace h := df h | replace h := Nt h | replace h := Nf h | skip) <;> (try dsimp only at h) <;> (first | contradiction | (exfalso; omega) | skip)) | (refine Or.inl ⟨_, by assumption, ?_⟩; first | rintro _ rfl | skip)))
    all_goals exact ⟨[0, 1], l.length - (i + 1), rfl, by omega, i + 1, by omega, rfl, rfl⟩
  · repeat' ((conv => whnf); first | ((with_reducible apply Xq); assumption) | (with_reducible first | apply Xa | (first | apply xi | apply xp | apply xP); omega | apply Xe | refine Xg (by assumption) ?_) | refine Xo (by assumption) ?_ | refine x_0 (by first | assumption | rfl) ?_ | refine x_1 (by first | assumption | rfl) ?_ | refine Or.inl ⟨rfl, ?_⟩ | (split <;> (first | (rename_i u h; clear u) | rename_i h) <;> (try rewrite [h]) <;> (first | replace h := dt h | replace h := df h | replace h := Nt h | replace h := Nf h | skip) <;> (try dsimp only at h) <;> (first | contradiction | (exfalso; omega) | skip)) | (refine Or.inl ⟨_, by assumption, ?_⟩; first | rintro _ rfl | skip))
    all_goals (conv => whnf)
    all_goals rfl
end Go.V
namespace Go.V
open Go.N
set_option maxRecDepth 20000
def T_DeadParts : Tab := [(24, ⟨.strc [(0, 1, false), (1, 1, false)], 2, 32, (.agg #[(.slice none 0 0), (.int .i64 0)]), [8, 0]⟩), (4, ⟨.bool, 1, 1, (.bool false), [0]⟩), (25, ⟨.slice 3, 1, 24, (.slice none 0 0), [1]⟩), (3, ⟨.int .i64, 1, 8, (.int .i64 0), [0]⟩), (29, ⟨.int .i64, 1, 8, (.int .i64 0), [0]⟩), (28, ⟨.slice 4, 1, 24, (.slice none 0 0), [1]⟩), (22, ⟨.slice 43, 1, 24, (.slice none 0 0), [8]⟩), (43, ⟨.strc [(0, 1, false), (1, 1, false), (2, 1, false), (3, 1, false), (4, 1, false), (5, 1, false), (6, 1, false), (7, 1, false)], 8, 120, (.agg #[(.string .empty), (.int .i64 0), (.int .i64 0), (.string .empty), (.slice none 0 0), (.string .empty), (.int .i64 0), (.slice none 0 0)]), [0, 0, 0, 0, 1, 0, 0, 1]⟩), (9, ⟨.str, 1, 16, (.string .empty), [0]⟩)]
theorem TOK_DeadParts : TOK Go.Proofs.Tryz.prog T_DeadParts := ⟨⟨info_of Go.Proofs.Tryz.type24 rfl, by decide +kernel, by decide +kernel⟩, ⟨⟨info_of Go.Proofs.Tryz.type4 rfl, by decide +kernel, by decide +kernel⟩, ⟨⟨info_of Go.Proofs.Tryz.type25 rfl, by decide +kernel, by decide +kernel⟩, ⟨⟨info_of Go.Proofs.Tryz.type3 rfl, by decide +kernel, by decide +kernel⟩, ⟨⟨info_of Go.Proofs.Tryz.type29 rfl, by decide +kernel, by decide +kernel⟩, ⟨⟨info_of Go.Proofs.Tryz.type28 rfl, by decide +kernel, by decide +kernel⟩, ⟨⟨info_of Go.Proofs.Tryz.type22 rfl, by decide +kernel, by decide +kernel⟩, ⟨⟨info_of Go.Proofs.Tryz.type43 rfl, by decide +kernel, by decide +kernel⟩, ⟨⟨info_of Go.Proofs.Tryz.type9 rfl, by decide +kernel, by decide +kernel⟩, trivial⟩⟩⟩⟩⟩⟩⟩⟩⟩
set_option maxHeartbeats 4000000 in
theorem c_DeadParts (g : Gr) (keep : List Int) : VCall Go.Proofs.Tryz.prog GL 4 [.agg g.cells, .ro 1 (rowZ keep)] (fun r => r = .bool true) := by
  have haw := c_awake
  obtain ⟨l, p⟩ := g
  show VCall _ _ _ [.agg [.ro 8 (rowN l), .int .i64 p], .ro 1 (rowZ keep)] _
  have hsm := c_r10_Small GL ⟨l, p⟩
  have hlr := rowN_length l
  have hkr := rowZ_length keep
  cases hS : smallG ⟨l, p⟩
  · rw [hS] at hsm
    refine vcall_of TOK_DeadParts HM Go.Proofs.Tryz.func4 rfl (by decide +kernel) (by decide +kernel) rfl ?_
    repeat' ((conv => whnf); first | ((with_reducible apply Xq); assumption) | (with_reducible first | apply Xa | (first | apply xi | apply xp | apply xP); omega | apply Xe | refine Xg (by assumption) ?_) | refine Xo (by assumption) ?_ | refine x_0 (by first | assumption | rfl) ?_ | refine x_1 (by first | assumption | rfl) ?_ | refine Or.inl ⟨rfl, ?_⟩ | (split <;> (first | (rename_i u h; clear u) | rename_i h) <;> (try rewrite [h]) <;> (first | replace h := dt h | replace h := df h | replace h := Nt h | replace h := Nf h | skip) <;> (try dsimp only at h) <;> (first | contradiction | (exfalso; omega) | skip)) | (refine Or.inl ⟨_, by assumption, ?_⟩; first | rintro _ rfl | skip))
    all_goals (conv => whnf)
    all_goals rfl
  by_cases hkl : keep.length ≤ 40
  case neg =>
    rw [hS] at hsm
    refine vcall_of TOK_DeadParts HM Go.Proofs.Tryz.func4 rfl (by decide +kernel) (by decide +kernel) rfl ?_
    repeat' ((conv => whnf); first | ((with_reducible apply Xq); assumption) | (with_reducible first | apply Xa | (first | apply xi | apply xp | apply xP); omega | apply Xe | refine Xg (by assumption) ?_) | refine Xo (by assumption) ?_ | refine x_0 (by first | assumption | rfl) ?_ | refine x_1 (by first | assumption | rfl) ?_ | refine Or.inl ⟨rfl, ?_⟩ | (split <;> (first | (rename_i u h; clear u) | rename_i h) <;> (try rewrite [h]) <;> (first | replace h := dt h | replace h := df h | replace h := Nt h | replace h := Nf h | skip) <;> (try dsimp only at h) <;> (first | contradiction | (exfalso; omega) | skip)) | (refine Or.inl ⟨_, by assumption, ?_⟩; first | rintro _ rfl | skip))
    all_goals (conv => whnf)
    all_goals rfl
  rw [hS] at hsm
  simp only [smallG, Bool.and_eq_true, decide_eq_true_eq, List.all_eq_true] at hS
  obtain ⟨hl, hs⟩ := hS
  have hs := fun x hx => smallN_sm (hs x hx)
  have hnd := c_dNeeded ⟨l, p⟩ keep hs (by dsimp only; omega) (by omega)
  have hR := c_r10_Right GL ⟨l, p⟩ hs (by dsimp only; omega)
  cases hok : okDead ⟨l, p⟩ keep
  · rw [hok, if_neg (by simp)] at hnd
    refine vcall_of TOK_DeadParts HM Go.Proofs.Tryz.func4 rfl (by decide +kernel) (by decide +kernel) rfl ?_
    repeat' ((conv => whnf); first | ((with_reducible apply Xq); assumption) | (with_reducible first | apply Xa | (first | apply xi | apply xp | apply xP); omega | apply Xe | refine Xg (by assumption) ?_) | refine Xo (by assumption) ?_ | refine x_0 (by first | assumption | rfl) ?_ | refine x_1 (by first | assumption | rfl) ?_ | refine Or.inl ⟨rfl, ?_⟩ | (split <;> (first | (rename_i u h; clear u) | rename_i h) <;> (try rewrite [h]) <;> (first | replace h := dt h | replace h := df h | replace h := Nt h | replace h := Nf h | skip) <;> (try dsimp only at h) <;> (first | contradiction | (exfalso; omega) | skip)) | (refine Or.inl ⟨_, by assumption, ?_⟩; first | rintro _ rfl | skip))
    all_goals (conv => whnf)
    all_goals rfl
  rw [hok, if_pos rfl] at hnd
  have hg : grOK ⟨l, p⟩ = true := by simp only [okDead, Bool.and_eq_true] at hok; exact hok.1
  rw [hg] at hR
  obtain ⟨h1, h2, q, hq1, hq⟩ := ok_pre hg
  have hpt := fun {i : Nat} {x : Nd} => @ok_parts ⟨l, p⟩ hg i x
  have hus := fun {i : Nat} {x : Nd} => @ok_uses ⟨l, p⟩ hg i x
  have hfit := fun {i : Nat} {x : Nd} => @ok_fit ⟨l, p⟩ hg i x
  have hN0 : NB ⟨l, p⟩ keep q = true := NB_iff.2 (.loss hq1.symm)
  have hNu : ∀ (i : Nat) (x : Nd) (u : Nat), l[i]? = some x → NB ⟨l, p⟩ keep i = true → (u : Int) ∈ dParts x → NB ⟨l, p⟩ keep u = true := fun i x u hx hN hu => by
    obtain ⟨k, hk1, hk2⟩ := hpt hx _ hu
    have : u = k := by omega
    exact NB_iff.2 (.use (by omega) hx ((hus hx u).2 hu) (NB_iff.1 hN))
  have hNn : ∀ (i : Nat) (x : Nd), l[i]? = some x → NB ⟨l, p⟩ keep i = false → x.name = ⟨#[]⟩ := fun i x hx hN => by
    by_cases h : x.name = ⟨#[]⟩
    · exact h
    · rw [NB_iff.2 (.name hx h)] at hN; cases hN
  generalize NB ⟨l, p⟩ keep = N at hnd hN0 hNu hNn
  clear hok hg hus
  dsimp only at hnd h1 h2 hq1 hq hpt hfit hNu hNn hs
  subst hq1
  have gq : (fB l.length N)[q]? = some [.bool true] := by rw [fB_get hq, hN0]
  have hfl := fB_length l.length N
  refine vcall_of TOK_DeadParts HM Go.Proofs.Tryz.func4 rfl (by decide +kernel) (by decide +kernel) rfl ?_
  repeat' ((conv => whnf); first | ((with_reducible apply Xq); assumption) | (with_reducible first | apply Xa | (first | apply xi | apply xp | apply xP); omega | apply Xe | refine Xg (by assumption) ?_) | refine Xo (by assumption) ?_ | refine x_0 (by first | assumption | rfl) ?_ | refine x_1 (by first | assumption | rfl) ?_ | refine Or.inl ⟨rfl, ?_⟩ | (split <;> (first | (rename_i u h; clear u) | rename_i h) <;> (try rewrite [h]) <;> (first | replace h := dt h | replace h := df h | replace h := Nt h | replace h := Nf h | skip) <;> (try dsimp only at h) <;> (first | contradiction | (exfalso; omega) | skip)) | (refine Or.inl ⟨_, by assumption, ?_⟩; first | rintro _ rfl | skip))
  refine ⟨[5, 53, 54, 55], [], fun m st => ∃ i : Nat, i ≤ l.length ∧ m = l.length - i ∧
    st = ⟨[(5, .ro 1 (fB l.length N)), (53, .ro 8 (rowN l)), (54, .int .i64 ((rowN l).length : Nat)), (55, .int .i64 (i : Nat))], []⟩, rfl, ⟨l.length, 0, by omega, rfl, rfl⟩, ?_⟩
  rintro m _ ⟨i, hi, hm, rfl⟩
  rcases Nat.lt_or_ge i l.length with hil | hge
  · obtain ⟨x, hx⟩ : ∃ x, x = l[i] := ⟨_, rfl⟩
    have hgx : l[i]? = some x := by rw [hx]; exact List.getElem?_eq_getElem hil
    have g : (rowN l)[i]? = some x.cells := by rw [hx]; exact rowN_get hil
    have g1 : (fB l.length N)[i]? = some [.bool (N i)] := fB_get hil
    clear hx
    obtain ⟨m0, hop, F⟩ := hfit hgx
    have hm2 := opParts_le hop
    have hdp := c_r10_Parts GL x.op
    rw [partsZ, hop] at hdp
    have hu := hNu i x
    have hn := hNn i x hgx
    have hDn := hpt hgx
    cases hN : N i
    · rw [hN] at g1
      have hn := hn hN
      obtain ⟨op, a, b, name, shape, k, n, data⟩ := x
      repeat' ((conv => whnf); first | ((with_reducible apply Xq); assumption) | (with_reducible first | apply Xa | (first | apply xi | apply xp | apply xP); omega | apply Xe | refine Xg (by assumption) ?_) | refine Xo (by assumption) ?_ | refine x_0 (by first | assumption | rfl) ?_ | refine x_1 (by first | assumption | rfl) ?_ | refine Or.inl ⟨rfl, ?_⟩ | (split <;> (first | (rename_i u h; clear u) | rename_i h) <;> (try rewrite [h]) <;> (first | replace h := dt h | replace h := df h | replace h := Nt h | replace h := Nf h | skip) <;> (try dsimp only at h) <;> (first | contradiction | (exfalso; omega) | skip)) | (refine Or.inl ⟨_, by assumption, ?_⟩; first | rintro _ rfl | skip))
      all_goals exact ⟨[], l.length - (i + 1), rfl, by omega, i + 1, by omega, rfl, rfl⟩
    · rw [hN] at g1
      have h3 : m0 = 0 ∨ m0 = 1 ∨ m0 = 2 := by omega
      rcases h3 with rfl | rfl | rfl
      · obtain ⟨op, a, b, name, shape, k, n, data⟩ := x
        repeat' ((conv => whnf); first | ((with_reducible apply Xq); assumption) | (with_reducible first | apply Xa | (first | apply xi | apply xp | apply xP); omega | apply Xe | refine Xg (by assumption) ?_) | refine Xo (by assumption) ?_ | refine x_0 (by first | assumption | rfl) ?_ | refine x_1 (by first | assumption | rfl) ?_ | refine Or.inl ⟨rfl, ?_⟩ | (split <;> (first | (rename_i u h; clear u) | rename_i h) <;> (try rewrite [h]) <;> (first | replace h := dt h | replace h := df h | replace h := Nt h | replace h := Nf h | skip) <;> (try dsimp only at h) <;> (first | contradiction | (exfalso; omega) | skip)) | (refine Or.inl ⟨_, by assumption, ?_⟩; first | rintro _ rfl | skip))
        all_goals exact ⟨[], l.length - (i + 1), rfl, by omega, i + 1, by omega, rfl, rfl⟩
      · rw [dP1 hop] at hu hDn
        obtain ⟨op, a, b, name, shape, k, n, data⟩ := x
        dsimp only at hu hDn hdp
        obtain ⟨u, rfl, hul⟩ : ∃ u : Nat, a = u ∧ u < i := hDn a (by simp)
        have gu : (fB l.length N)[u]? = some [.bool true] := by rw [fB_get (by omega), hu u hgx hN (by simp)]
        repeat' ((conv => whnf); first | ((with_reducible apply Xq); assumption) | (with_reducible first | apply Xa | (first | apply xi | apply xp | apply xP); omega | apply Xe | refine Xg (by assumption) ?_) | refine Xo (by assumption) ?_ | refine x_0 (by first | assumption | rfl) ?_ | refine x_1 (by first | assumption | rfl) ?_ | refine Or.inl ⟨rfl, ?_⟩ | (split <;> (first | (rename_i u h; clear u) | rename_i h) <;> (try rewrite [h]) <;> (first | replace h := dt h | replace h := df h | replace h := Nt h | replace h := Nf h | skip) <;> (try dsimp only at h) <;> (first | contradiction | (exfalso; omega) | skip)) | (refine Or.inl ⟨_, by assumption, ?_⟩; first | rintro _ rfl | skip))
        all_goals exact ⟨[], l.length - (i + 1), rfl, by omega, i + 1, by omega, rfl, rfl⟩
      · rw [dP2 hop] at hu hDn
        obtain ⟨op, a, b, name, shape, k, n, data⟩ := x
        dsimp only at hu hDn hdp
        obtain ⟨u, rfl, hul⟩ : ∃ u : Nat, a = u ∧ u < i := hDn a (by simp)
        obtain ⟨v, rfl, hvl⟩ : ∃ u : Nat, b = u ∧ u < i := hDn b (by simp)
        have gu : (fB l.length N)[u]? = some [.bool true] := by rw [fB_get (by omega), hu u hgx hN (by simp)]
        have gv : (fB l.length N)[v]? = some [.bool true] := by rw [fB_get (by omega), hu v hgx hN (by simp)]
        repeat' ((conv => whnf); first | ((with_reducible apply Xq); assumption) | (with_reducible first | apply Xa | (first | apply xi | apply xp | apply xP); omega | apply Xe | refine Xg (by assumption) ?_) | refine Xo (by assumption) ?_ | refine x_0 (by first | assumption | rfl) ?_ | refine x_1 (by first | assumption | rfl) ?_ | refine Or.inl ⟨rfl, ?_⟩ | (split <;> (first | (rename_i u h; clear u) | rename_i h) <;> (try rewrite [h]) <;> (first | replace h := dt h | replace h := df h | replace h := Nt h | replace h := Nf h | skip) <;> (try dsimp only at h) <;> (first | contradiction | (exfalso; omega) | skip)) | (refine Or.inl ⟨_, by assumption, ?_⟩; first | rintro _ rfl | skip))
        all_goals exact ⟨[], l.length - (i + 1), rfl, by omega, i + 1, by omega, rfl, rfl⟩
  · repeat' ((conv => whnf); first | ((with_reducible apply Xq); assumption) | (with_reducible first | apply Xa | (first | apply xi | apply xp | apply xP); omega | apply Xe | refine Xg (by assumption) ?_) | refine Xo (by assumption) ?_ | refine x_0 (by first | assumption | rfl) ?_ | refine x_1 (by first | assumption | rfl) ?_ | refine Or.inl ⟨rfl, ?_⟩ | (split <;> (first | (rename_i u h; clear u) | rename_i h) <;> (try rewrite [h]) <;> (first | replace h := dt h | replace h := df h | replace h := Nt h | replace h := Nf h | skip) <;> (try dsimp only at h) <;> (first | contradiction | (exfalso; omega) | skip)) | (refine Or.inl ⟨_, by assumption, ?_⟩; first | rintro _ rfl | skip))
    all_goals (conv => whnf)
    all_goals rfl
end Go.V
namespace Go.V
open Go.RowKit
section
variable {H : Type} (enc : TypeId × Value → H) (P : Program) (w : World)
abbrev SW (w : World) : Nat → Prop := fun b => b < w.heap.size
def OpnT (t : TypeId) (n : Nat) (K : List AV → Prop) : Prop := ∀ (fuel : Nat) (cs : List Value) (x : DataW H × List MemPlace), DataW.trod enc P w 0 (fun _ => true) true fuel t cs = some x →
  ∃ xs, K xs ∧ cs.length = n ∧ One cs ∧ RepL (SW w) H0 w xs cs
variable {enc P w}
theorem opn_int {t : TypeId} {k : IntKind} (ht : P.underlying t = some (.int k)) : OpnT enc P w t 1 (fun xs => ∃ n, xs = [.int k n]) := fun fuel cs x h => by
  obtain ⟨n, rfl, _, _⟩ := DataW.trod_int ht h
  exact ⟨_, ⟨n, rfl⟩, rfl, by simp [One, Value.oneCell'], by simp [RepL, RepV]⟩
theorem opn_string {t : TypeId} (ht : P.underlying t = some .string) : OpnT enc P w t 1 (fun xs => ∃ s, xs = [.str s]) := fun fuel cs x h => by
  obtain ⟨s, rfl, _, _⟩ := DataW.trod_string ht h
  exact ⟨_, ⟨s, rfl⟩, rfl, by simp [One, Value.oneCell'], by simp [RepL, RepV]⟩
theorem exists_list {α : Type} {Q : Nat → α → Prop} : ∀ n : Nat, (∀ i, i < n → ∃ a, Q i a) → ∃ l : List α, l.length = n ∧ ∀ i (h : i < l.length), Q i l[i]
  | 0, _ => ⟨[], rfl, fun i h => by simp at h⟩
  | n + 1, hq => by
    obtain ⟨l, hl, h⟩ := exists_list n fun i hi => hq i (by omega)
    obtain ⟨a, ha⟩ := hq n (by omega)
    refine ⟨l ++ [a], by simp [hl], fun i hi => ?_⟩
    by_cases hin : i < l.length
    · rw [List.getElem_append_left hin]; exact h i hin
    · have : i = n := by simp at hi; omega
      subst this
      rw [List.getElem_append_right (by omega)]
      simpa using ha
theorem repLL_of {S : Nat → Prop} : ∀ {es : List (List AV)} {vss : List (List Value)}, es.length = vss.length → (∀ i (h1 : i < es.length) (h2 : i < vss.length), RepL S H0 w es[i] vss[i]) → RepLL S w es vss
  | [], [], _, _ => by simp [RepLL]
  | [], _ :: _, h, _ => by simp at h
  | _ :: _, [], h, _ => by simp at h
  | e :: es, v :: vss, h, hr => by
    simp only [RepLL]
    exact ⟨v, vss, rfl, hr 0 (by simp) (by simp), repLL_of (by simpa using h) fun i h1 h2 => hr (i + 1) (by simpa using h1) (by simpa using h2)⟩
theorem opn_slice {t e : TypeId} {n : Nat} {K : List AV → Prop} (ht : P.underlying t = some (.slice e)) (hc : P.cellsOf e = n) (hn : 0 < n) (he : OpnT enc P w e n K) :
    OpnT enc P w t 1 (fun xs => ∃ es, xs = [.ro n es] ∧ ∀ c ∈ es, K c) := fun fuel cs x h => by
  rcases DataW.trod_slice ht h with ⟨rfl, _⟩ | ⟨a, len, cap, elems, rest, m, _, rfl, _, _, hl, hm, hlen, hel, _⟩
  · refine ⟨_, ⟨[], rfl, by simp⟩, rfl, by simp [One, Value.oneCell'], ?_⟩
    simp [RepL, RepV]
    exact ⟨none, 0, ⟨rfl, rfl⟩, Nat.zero_le _⟩
  · rw [hc] at hel
    obtain ⟨l, hll, hq⟩ := exists_list (Q := fun i (p : List AV × List Value) => K p.1 ∧ w.cells? 0 (a.add (i * n)) n = some p.2 ∧ p.2.length = n ∧ One p.2 ∧ RepL (SW w) H0 w p.1 p.2) len fun i hi => by
      have hi2 := hel i hi
      rw [List.getElem?_eq_getElem (by omega)] at hi2
      obtain ⟨vs, h1, h2⟩ := Option.bind_eq_some_iff.1 hi2
      obtain ⟨xs, k1, k2, k3, k4⟩ := he _ _ _ h2
      exact ⟨(xs, vs), k1, h1, k2, k3, k4⟩
    refine ⟨_, ⟨l.map (·.1), rfl, fun c hc => ?_⟩, rfl, by simp [One, Value.oneCell'], ?_⟩
    · obtain ⟨p, hp, rfl⟩ := List.mem_map.1 hc
      obtain ⟨i, hi, rfl⟩ := List.getElem_of_mem hp
      exact (hq i hi).1
    · simp only [RepL, RepV]
      refine ⟨_, _, rfl, ⟨_, _, by rw [List.length_map, hll], by rw [List.length_map, hll]; exact hl, hm, ?_⟩, rfl⟩
      rcases Nat.eq_zero_or_pos len with h0 | h0
      · left; exact List.length_eq_zero_iff.1 (by rw [List.length_map, hll, h0])
      · have hb : a.block < w.heap.size := by
          have := World.cells?_block (hq 0 (by omega)).2.1 hn
          simpa [Addr.add] using this
        refine .inr ⟨a, rfl, hb, hb, l.map (·.2), repLL_of (by simp) fun i h1 h2 => ?_, fun vs hv => ?_, fun i vs hv k u hk => ?_⟩
        · simp only [List.getElem_map]
          exact (hq i (by simpa using h1)).2.2.2.2
        · obtain ⟨p, hp, rfl⟩ := List.mem_map.1 hv
          obtain ⟨i, hi, rfl⟩ := List.getElem_of_mem hp
          exact ⟨(hq i hi).2.2.1, (hq i hi).2.2.2.1⟩
        · rw [List.getElem?_map] at hv
          obtain ⟨p, hp, rfl⟩ := Option.map_eq_some_iff.1 hv
          obtain ⟨hi, rfl⟩ := List.getElem?_eq_some_iff.1 hp
          have h1 := (hq i hi).2.1
          have hk2 := (List.getElem?_eq_some_iff.1 hk).1
          have hlen2 := (hq i hi).2.2.1
          have := (World.cells?_some h1).2.2 k (by omega)
          rw [Addr.add_add] at this
          rw [this, hk]
def FldK : List Field → Nat → List (AV → Prop) → Prop
  | [], _, Ks => Ks = []
  | f :: fs, i, Ks => ∃ K Kr, Ks = K :: Kr ∧ f.offset = i ∧ P.cellsOf f.type = 1 ∧ OpnT enc P w f.type 1 (fun xs => ∃ a, xs = [a] ∧ K a) ∧ FldK fs (i + 1) Kr
theorem OpnT.mono {t : TypeId} {n : Nat} {K K' : List AV → Prop} (h : OpnT enc P w t n K) (hk : ∀ xs, K xs → K' xs) : OpnT enc P w t n K' := fun fuel cs x hx => by
  obtain ⟨xs, k, r⟩ := h fuel cs x hx
  exact ⟨xs, hk xs k, r⟩
def AllK : List (AV → Prop) → List AV → Prop
  | [], xs => xs = []
  | K :: Ks, xs => ∃ x r, xs = x :: r ∧ K x ∧ AllK Ks r
theorem opn_fields : ∀ (fs : List Field) (i : Nat) (Ks : List (AV → Prop)) (cs : List Value), FldK (enc := enc) (P := P) (w := w) fs i Ks → cs.length = i + fs.length →
    (∀ f ∈ fs, ∃ m y, DataW.trod enc P w 0 (fun _ => true) true m f.type ((cs.drop f.offset).take (P.cellsOf f.type)) = some y) → ∃ xs, AllK Ks xs ∧ One (cs.drop i) ∧ RepL (SW w) H0 w xs (cs.drop i)
  | [], i, Ks, cs, hf, hl, _ => by
    simp only [FldK] at hf
    subst hf
    have : cs.drop i = [] := List.drop_of_length_le (by simp at hl; omega)
    rw [this]
    exact ⟨[], rfl, by simp [One], by simp [RepL]⟩
  | f :: fs, i, Ks, cs, hf, hl, ht => by
    simp only [FldK] at hf
    obtain ⟨K, Kr, rfl, h1, h2, h3, h4⟩ := hf
    have hi : i < cs.length := by simp at hl; omega
    obtain ⟨xs, a1, a2, a3⟩ := opn_fields fs (i + 1) Kr cs h4 (by simp at hl; omega) (fun g hg => ht g (List.mem_cons_of_mem _ hg))
    obtain ⟨m, y, hy⟩ := ht f List.mem_cons_self
    have e : cs.drop i = cs[i] :: cs.drop (i + 1) := List.drop_eq_getElem_cons hi
    rw [h1, h2, e] at hy
    obtain ⟨zs, ⟨a, rfl, ha⟩, _, k2, k3⟩ := h3 _ _ _ hy
    simp only [List.take_succ_cons, List.take_zero] at k2 k3
    simp only [RepL] at k3
    obtain ⟨v, r, e2, hv, rfl⟩ := k3
    cases e2
    rw [e]
    refine ⟨a :: xs, ⟨a, xs, rfl, ha, a1⟩, fun u hu => ?_, ?_⟩
    · rcases List.mem_cons.1 hu with rfl | hu
      · exact k2 _ List.mem_cons_self
      · exact a2 u hu
    · simp only [RepL]; exact ⟨_, _, rfl, hv, a3⟩
theorem opn_struct {t : TypeId} {fs : Array Field} {Ks : List (AV → Prop)} (ht : P.underlying t = some (.struct fs)) (hn : P.cellsOf t = fs.size) (hf : FldK (enc := enc) (P := P) (w := w) fs.toList 0 Ks) :
    OpnT enc P w t fs.size (AllK Ks) := fun fuel cs x h => by
  obtain ⟨xs, m, _, _, hl, hlen, hx⟩ := DataW.trod_struct ht h
  obtain ⟨ys, a1, a2, a3⟩ := opn_fields fs.toList 0 Ks cs hf (by rw [hl, hn]; simp) fun f hm => by
    obtain ⟨i, hi, rfl⟩ := List.getElem_of_mem hm
    have := hx i _ (by rw [Array.getElem?_eq_getElem (by simpa using hi)])
    rw [List.getElem?_eq_getElem (by rw [hlen]; simpa using hi)] at this
    exact ⟨m, _, this⟩
  exact ⟨ys, a1, by rw [hl, hn], by simpa using a2, by simpa using a3⟩
theorem rows_of {α : Type} {f : α → List AV} : ∀ {es : List (List AV)}, (∀ c ∈ es, ∃ a, c = f a) → ∃ l : List α, es = l.map f
  | [], _ => ⟨[], rfl⟩
  | e :: es, h => by
    obtain ⟨a, ha⟩ := h e List.mem_cons_self
    obtain ⟨l, hl⟩ := rows_of (es := es) fun c hc => h c (List.mem_cons_of_mem _ hc)
    exact ⟨a :: l, by rw [ha, hl]; rfl⟩
theorem VCall.calls {gl : Gl} {f : FuncId} {fn : Func} {c : Code} {args : List AV} {r : AV} {vs : List Value} {v : Value} (h : VCall P gl f args (fun x => x = r)) (hf : P.funcs[f]? = some fn) (hb : fn.body = some c) (hname : (fn.name == "runtime.NumGoroutine") = false)
    (hgl : GlOK (SW w) w gl) (hargs : RepL (SW w) H0 w args vs) (hr : ∀ S b w' v', ResOK S b w' r v' → v' = v) :
    Calls P f vs.toArray w fun e w' => e = .returned v ∧ Below w.heap.size w w' := by
  have hne : fn.name ≠ "runtime.NumGoroutine" := by simpa using hname
  have hen : (callFunc f vs.toArray).run P w = .ok (.enter f vs.toArray) w := by simp [callFunc, hf, hne, hb]
  rcases h (SW w) w vs (fun b hb => hb) hgl hargs with ⟨_, h2⟩ | ⟨v2, w2, h1, _⟩ | ⟨row, xs, w2, h1, _⟩
  · refine h2.mono fun e w' he => ?_
    obtain ⟨u, rfl, x, rfl, h3, h4⟩ := he
    rw [hr _ _ _ _ h3]
    exact ⟨rfl, h4⟩
  · rw [hen] at h1; cases h1
  · rw [hen] at h1; cases h1
end
end Go.V
namespace Go.Proofs.YtnifmgbamcllaaaGreatDoor
open Go Go.ChangeShapes Go.WideShapes Go.ChangeAt Go.RowKit Go.V
set_option maxRecDepth 100000
def isS (a : AV) : Prop := ∃ s, a = .str s
def isI (a : AV) : Prop := ∃ n, a = .int .i64 n
def isZs (a : AV) : Prop := ∃ es, a = .ro 1 es ∧ ∀ c ∈ es, ∃ n, c = [.int .i64 n]
def isSs (a : AV) : Prop := ∃ es, a = .ro 1 es ∧ ∀ c ∈ es, ∃ s, c = [.str s]
def isNd (c : List AV) : Prop := ∃ x : Nd, c = x.cells
def isNs (a : AV) : Prop := ∃ es, a = .ro 8 es ∧ ∀ c ∈ es, isNd c
theorem node_of {c : List AV} (h : AllK [isS, isI, isI, isS, isZs, isS, isI, isSs] c) : isNd c := by
  obtain ⟨_, _, rfl, ⟨op, rfl⟩, _, _, rfl, ⟨a, rfl⟩, _, _, rfl, ⟨b, rfl⟩, _, _, rfl, ⟨name, rfl⟩, _, _, rfl, ⟨es, rfl, h1⟩, _, _, rfl, ⟨k, rfl⟩, _, _, rfl, ⟨n, rfl⟩, _, _, rfl, ⟨es2, rfl, h2⟩, rfl⟩ := h
  obtain ⟨shape, rfl⟩ := rows_of (f := fun n => [AV.int .i64 n]) h1
  obtain ⟨data, rfl⟩ := rows_of (f := fun s => [AV.str s]) h2
  exact ⟨⟨op, a, b, name, shape, k, n, data⟩, rfl⟩
theorem graph_of {c : List AV} (h : AllK [isNs, isI] c) : ∃ g : Gr, c = g.cells := by
  obtain ⟨_, _, rfl, ⟨es, rfl, h1⟩, _, _, rfl, ⟨n, rfl⟩, rfl⟩ := h
  obtain ⟨l, rfl⟩ := rows_of h1
  exact ⟨⟨l, n⟩, rfl⟩
section
variable {H : Type} {enc : TypeId × Value → H} {W : World}
theorem o_int : OpnT enc Go.Proofs.Tryz.prog W 3 1 (fun xs => ∃ a, xs = [a] ∧ isI a) := (opn_int Tryz.underlying3).mono fun xs ⟨n, h⟩ => ⟨_, h, n, rfl⟩
theorem o_str : OpnT enc Go.Proofs.Tryz.prog W 9 1 (fun xs => ∃ a, xs = [a] ∧ isS a) := (opn_string Tryz.underlying9).mono fun xs ⟨s, h⟩ => ⟨_, h, s, rfl⟩
theorem o_ints : OpnT enc Go.Proofs.Tryz.prog W 25 1 (fun xs => ∃ a, xs = [a] ∧ isZs a) := (opn_slice Tryz.underlying25 (by kernel_rfl) (by decide) (opn_int Tryz.underlying3)).mono fun xs ⟨es, h, k⟩ => ⟨_, h, es, rfl, k⟩
theorem o_strs : OpnT enc Go.Proofs.Tryz.prog W 41 1 (fun xs => ∃ a, xs = [a] ∧ isSs a) := (opn_slice Tryz.underlying41 (by kernel_rfl) (by decide) (opn_string Tryz.underlying9)).mono fun xs ⟨es, h, k⟩ => ⟨_, h, es, rfl, k⟩
theorem o_node : OpnT enc Go.Proofs.Tryz.prog W 43 8 isNd :=
  (opn_struct Tryz.underlying43 (by kernel_rfl) ⟨isS, _, rfl, rfl, by kernel_rfl, o_str, isI, _, rfl, rfl, by kernel_rfl, o_int, isI, _, rfl, rfl, by kernel_rfl, o_int, isS, _, rfl, rfl, by kernel_rfl, o_str, isZs, _, rfl, rfl, by kernel_rfl, o_ints,
    isS, _, rfl, rfl, by kernel_rfl, o_str, isI, _, rfl, rfl, by kernel_rfl, o_int, isSs, _, rfl, rfl, by kernel_rfl, o_strs, rfl⟩).mono fun xs h => node_of h
theorem o_nodes : OpnT enc Go.Proofs.Tryz.prog W 22 1 (fun xs => ∃ a, xs = [a] ∧ isNs a) := (opn_slice Tryz.underlying22 (by kernel_rfl) (by decide) o_node).mono fun xs ⟨es, h, k⟩ => ⟨_, h, es, rfl, k⟩
theorem o_graph : OpnT enc Go.Proofs.Tryz.prog W 24 2 (fun xs => ∃ g : Gr, xs = g.cells) :=
  (opn_struct Tryz.underlying24 (by kernel_rfl) ⟨isNs, _, rfl, rfl, by kernel_rfl, o_nodes, isI, _, rfl, rfl, by kernel_rfl, o_int, rfl⟩).mono fun xs h => graph_of h
theorem args_of {base : Nat} {v0 v1 : Value} {d0 d1 : DataW H} {p0 p1 : List MemPlace} (h0 : DataW.Trod enc Go.Proofs.Tryz.prog W 0 (fun _ => true) true 24 v0 d0 p0) (h1 : DataW.Trod enc Go.Proofs.Tryz.prog W 0 (fun _ => true) true 25 v1 d1 p1)
    (k0 : Value.okWide Go.Proofs.Tryz.prog W .any base 24 v0) (k1 : Value.okWide Go.Proofs.Tryz.prog W .any base 25 v1) :
    ∃ (g : Gr) (keep : List Int), RepL (SW W) H0 W [.agg g.cells, .ro 1 (rowZ keep)] [v0, v1] := by
  obtain ⟨cs, rfl, _⟩ := okWide_struct Tryz.underlying24 k0
  obtain ⟨a, len, cap, rfl⟩ := okWide_slice Tryz.underlying25 k1
  obtain ⟨f0, h0⟩ := h0
  obtain ⟨f1, h1⟩ := h1
  obtain ⟨xs, ⟨g, rfl⟩, _, e2, e3⟩ := o_graph f0 _ _ h0
  obtain ⟨ys, ⟨a', rfl, es, rfl, hk⟩, _, _, e4⟩ := o_ints f1 _ _ h1
  obtain ⟨keep, rfl⟩ := rows_of (f := fun n => [AV.int .i64 n]) hk
  refine ⟨g, keep, ?_⟩
  have c0 : (Value.agg cs).cells.toList = cs.toList := rfl
  rw [c0] at e2 e3
  have c1 : (Value.slice a len cap).cells.toList = [.slice a len cap] := rfl
  rw [c1] at e4
  simp only [RepL] at e4 ⊢
  obtain ⟨u, r, e5, e6, e7⟩ := e4
  injection e5 with e8 e9
  subst e8
  refine ⟨_, _, rfl, ?_, _, _, rfl, e6, rfl⟩
  simp only [RepV]
  exact ⟨cs.toList, by simp, e2, e3⟩
end
theorem own : ownKnob Go.Proofs.Tryz.prog.godebug = none := by kernel_rfl
theorem laidOut : laidOutB Go.Proofs.Tryz.prog = true := by kernel_rfl
theorem rowErr (u : TypeId) (h : Go.Proofs.Tryz.prog.typeName? 3 u = some "*errors.errorString") : u = 150 :=
  typeName_ptr_named (nm := "errors.errorString") (by kernel_rfl) (by kernel_rfl) (by decide) u h
theorem gl_of {W : World} {r : List (String × DataW Unit)} (h : laidMet Go.Proofs.Tryz.prog (("tapewright/rat.errForm", Rows.laid_tapewright_rat_errForm) :: r) W) : GlOK (SW W) W GL := by
  obtain ⟨a, s, hv, _, _, _⟩ := laid_sentinel h (show Go.Proofs.Tryz.prog.globalNamed "tapewright/rat.errForm" = some 0 by kernel_rfl) (show (Go.Proofs.Tryz.prog.globals[0]?).map (·.type) = some 77 by kernel_rfl)
    Tryz.underlying77 rowErr Tryz.underlying150 Tryz.underlying166 rfl rfl Tryz.underlying9 (by kernel_rfl) (by kernel_rfl)
  have hc := World.var?_cell (show Go.Proofs.Tryz.prog.globalNamed "tapewright/rat.errForm" = some 0 by kernel_rfl) hv 0
  have hc : W.cell? ⟨0, 0, none⟩ = some (.iface 150 (.pointer (some a))) := by simpa using hc
  have hb := World.block_lt_of_cell? W _ hc
  intro g cs hm
  simp only [GL, List.mem_singleton, Prod.mk.injEq] at hm
  obtain ⟨rfl, rfl⟩ := hm
  simp only [RepV]
  refine ⟨_, rfl, hb, hb, [.iface 150 (.pointer (some a))], ?_, by simp [Go.V.One, Value.oneCell'], fun k u hk => ?_⟩
  · simp [RepL, RepV]
  · rcases k with _ | k
    · simp at hk; subst hk; simpa [Addr.add] using hc
    · simp at hk
theorem walk_DeadParts {W : World} (g : Gr) (keep : List Int) (v0 v1 : Value) (hgl : GlOK (SW W) W GL) (ha : RepL (SW W) H0 W [.agg g.cells, .ro 1 (rowZ keep)] [v0, v1]) :
    Calls Go.Proofs.Tryz.prog 4 #[v0, v1] W fun e w' => e = .returned (.bool true) ∧ Below W.heap.size W w' :=
  VCall.calls (c_DeadParts g keep) Tryz.func4 rfl (by decide +kernel) hgl ha fun S b w' v' h => by
    obtain ⟨S', F, hF, _⟩ := h
    simp only [RepF, RepV] at hF
    exact hF.2
theorem lifted_DeadParts (os : Os) (started : os.Started) (H : Type) (enc : TypeId × Value → H) :
    ReturnsInHanded {} Tryz.checked os 4 .any (fun w args => (Rows.deadPartsSpec.pre enc Go.Proofs.Tryz.prog Go.Proofs.Tryz.f4 [] false w args ∧ laidMetH Go.Proofs.Tryz.prog Rows.deadPartsRow.laid w) ∧ sizedMet enc Go.Proofs.Tryz.prog Go.Proofs.Tryz.f4 (OpenSpec.ofChange Rows.deadPartsSpec) false w args)
      (Rows.deadPartsSpec.post enc Go.Proofs.Tryz.prog Go.Proofs.Tryz.f4 false true false false) := by
  refine returnsInHanded_of_change_and (C := Tryz.checked) (X := fun w _ => laidMetH Go.Proofs.Tryz.prog Rows.deadPartsRow.laid w) (fun _ _ _ hh h => h.of_heap hh) own started (by kernel_rfl) Tryz.func4
    (ChangeSpec.witness_shaped (enc := enc) (C := Tryz.checked) (os := os) (X := fun w _ => laidMetH Go.Proofs.Tryz.prog Rows.deadPartsRow.laid w) false (World.laidAll Go.Proofs.Tryz.prog os Rows.deadPartsRow.laid) #[.agg #[.slice none 0 0, .int .i64 0], .slice none 0 0] 8 (World.laidAll_os _ _ _)
      (World.shaped_of_ZipB (by kernel_rfl) (by kernel_rfl)) (by kernel_rfl) (by kernel_rfl) (by kernel_rfl)
      (by rw [MakeChecks.laidMetH_plain _ _ _ (by kernel_rfl)]; exact laidMet_laidAll _ (by kernel_rfl) (by kernel_rfl))) ?_
  intro W base args ds gs before hval0 hW hc _ hL _
  have hval : ∀ (j : Nat) t v, Go.Proofs.Tryz.f4.params[j]? = some t → args[j]? = some v → Value.okWide Go.Proofs.Tryz.prog W .any base t v := hval0
  have hW' := hW
  obtain ⟨p, q, hA0, hV, rfl, _, _⟩ := hW
  have hA : DataW.TrodAll enc Go.Proofs.Tryz.prog W 0 (fun _ => true) true Go.Proofs.Tryz.f4.params.toList args.toList ds p := hA0
  rw [Tryz.params4] at hA hval
  obtain ⟨v0, v1, d0, d1, p0, p1, rfl, rfl, rfl, h0, h1⟩ := trodAll_two hA
  obtain ⟨rfl, rfl⟩ := trodVars_none hV
  rw [MakeChecks.laidMetH_plain _ _ _ (by kernel_rfl)] at hL
  have hL2 := laidMet.tail hL
  obtain ⟨g, keep, hrep⟩ := args_of h0 h1 (hval 0 _ v0 rfl rfl) (hval 1 _ v1 rfl rfl)
  refine (walk_DeadParts g keep v0 v1 (gl_of hL2) hrep).mono fun e W' ⟨he, bel⟩ => ?_
  subst he
  have lt0 : ∀ x ∈ p0, x.block < W.heap.size := by obtain ⟨m, hm⟩ := h0; exact DataW.trod_lt m _ _ _ hm
  have lt1 : ∀ x ∈ p1, x.block < W.heap.size := by obtain ⟨m, hm⟩ := h1; exact DataW.trod_lt m _ _ _ hm
  exact ⟨_, rfl, _, _, _, [], _, [], hW', trodAll_mk1 (shut_bool Tryz.underlying4 _), (trodAll_cons_mk (Below.trod laidOut (by kernel_rfl) (of_decide_eq_true (by kernel_rfl)) h0 bel lt0) (trodAll_cons_mk (Below.trod laidOut (by kernel_rfl) (of_decide_eq_true (by kernel_rfl)) h1 bel lt1) trodAll_mk0)), rfl, bel.frame _, fun h => by cases h⟩
theorem row_DeadParts : Rows.DeadPartsSaid :=
  OpenClaim.holds_of_wide 4 Go.Proofs.Tryz.f4 rfl rfl rfl rfl rfl rfl rfl ⟨rfl, rfl, rfl, rfl, rfl⟩ rfl rfl rfl rfl rfl (by kernel_rfl) Tryz.func4 (by kernel_rfl)
    (of_decide_eq_true (by kernel_rfl)) (by unfold Func.isWrapper; first | (rw [if_pos (by decide +kernel)]; kernel_rfl) | (rw [if_neg (by decide +kernel)]; exact ⟨rfl, rfl⟩))
    (fun os started H enc _ => lifted_DeadParts os started H enc)
theorem deadParts_holds : Rows.DeadPartsCardSaid :=
  Claim7.holds_tied_plain_at .later [] [.data, .sentinel, .sentinel, .pinned] true Rows.deadPartsCard.stood.harness false row_DeadParts (fun _ h => by cases h) (by kernel_rfl) (fun _ h => by cases h) deadParts_row_tie rfl ⟨rfl, rfl⟩ (by kernel_rfl) rfl
    (fun f fn hf hfn => by
      obtain rfl : f = 4 := Option.some.inj ((show Go.Proofs.Tryz.prog.funcNamed "tapewright/tapewrightlaw16.DeadParts" = some 4 by kernel_rfl).symm.trans hf) |>.symm
      obtain rfl : fn = Go.Proofs.Tryz.f4 := (Option.some.inj (Tryz.func4.symm.trans hfn)).symm
      exact ⟨by kernel_rfl, fun j t ht => by
        rw [Tryz.params4] at ht
        have hm : t ∈ [24, 25] := by simpa using Array.mem_of_getElem? ht
        have hall : ([24, 25].all fun u => !Go.Proofs.Tryz.prog.wantsStandIn u) = true := by kernel_rfl
        exact (show Go.Proofs.Tryz.prog.wantsStandIn t = false by simpa using List.all_eq_true.1 hall t hm)⟩)
    (by kernel_rfl)
theorem walk_DeadPrunes {W : World} (g : Gr) (keep : List Int) (v0 v1 : Value) (hgl : GlOK (SW W) W GL) (ha : RepL (SW W) H0 W [.agg g.cells, .ro 1 (rowZ keep)] [v0, v1]) :
    Calls Go.Proofs.Tryz.prog 3 #[v0, v1] W fun e w' => e = .returned (.bool true) ∧ Below W.heap.size W w' :=
  VCall.calls (c_DeadPrunes g keep) Tryz.func3 rfl (by decide +kernel) hgl ha fun S b w' v' h => by
    obtain ⟨S', F, hF, _⟩ := h
    simp only [RepF, RepV] at hF
    exact hF.2
theorem lifted_DeadPrunes (os : Os) (started : os.Started) (H : Type) (enc : TypeId × Value → H) :
    ReturnsInHanded {} Tryz.checked os 3 .any (fun w args => (Rows.deadPrunesSpec.pre enc Go.Proofs.Tryz.prog Go.Proofs.Tryz.f3 [] false w args ∧ laidMetH Go.Proofs.Tryz.prog Rows.deadPrunesRow.laid w) ∧ sizedMet enc Go.Proofs.Tryz.prog Go.Proofs.Tryz.f3 (OpenSpec.ofChange Rows.deadPrunesSpec) false w args)
      (Rows.deadPrunesSpec.post enc Go.Proofs.Tryz.prog Go.Proofs.Tryz.f3 false true false false) := by
  refine returnsInHanded_of_change_and (C := Tryz.checked) (X := fun w _ => laidMetH Go.Proofs.Tryz.prog Rows.deadPrunesRow.laid w) (fun _ _ _ hh h => h.of_heap hh) own started (by kernel_rfl) Tryz.func3
    (ChangeSpec.witness_shaped (enc := enc) (C := Tryz.checked) (os := os) (X := fun w _ => laidMetH Go.Proofs.Tryz.prog Rows.deadPrunesRow.laid w) false (World.laidAll Go.Proofs.Tryz.prog os Rows.deadPrunesRow.laid) #[.agg #[.slice none 0 0, .int .i64 0], .slice none 0 0] 8 (World.laidAll_os _ _ _)
      (World.shaped_of_ZipB (by kernel_rfl) (by kernel_rfl)) (by kernel_rfl) (by kernel_rfl) (by kernel_rfl)
      (by rw [MakeChecks.laidMetH_plain _ _ _ (by kernel_rfl)]; exact laidMet_laidAll _ (by kernel_rfl) (by kernel_rfl))) ?_
  intro W base args ds gs before hval0 hW hc _ hL _
  have hval : ∀ (j : Nat) t v, Go.Proofs.Tryz.f3.params[j]? = some t → args[j]? = some v → Value.okWide Go.Proofs.Tryz.prog W .any base t v := hval0
  have hW' := hW
  obtain ⟨p, q, hA0, hV, rfl, _, _⟩ := hW
  have hA : DataW.TrodAll enc Go.Proofs.Tryz.prog W 0 (fun _ => true) true Go.Proofs.Tryz.f3.params.toList args.toList ds p := hA0
  rw [Tryz.params3] at hA hval
  obtain ⟨v0, v1, d0, d1, p0, p1, rfl, rfl, rfl, h0, h1⟩ := trodAll_two hA
  obtain ⟨rfl, rfl⟩ := trodVars_none hV
  rw [MakeChecks.laidMetH_plain _ _ _ (by kernel_rfl)] at hL
  have hL2 := laidMet.tail hL
  obtain ⟨g, keep, hrep⟩ := args_of h0 h1 (hval 0 _ v0 rfl rfl) (hval 1 _ v1 rfl rfl)
  refine (walk_DeadPrunes g keep v0 v1 (gl_of hL2) hrep).mono fun e W' ⟨he, bel⟩ => ?_
  subst he
  have lt0 : ∀ x ∈ p0, x.block < W.heap.size := by obtain ⟨m, hm⟩ := h0; exact DataW.trod_lt m _ _ _ hm
  have lt1 : ∀ x ∈ p1, x.block < W.heap.size := by obtain ⟨m, hm⟩ := h1; exact DataW.trod_lt m _ _ _ hm
  exact ⟨_, rfl, _, _, _, [], _, [], hW', trodAll_mk1 (shut_bool Tryz.underlying4 _), (trodAll_cons_mk (Below.trod laidOut (by kernel_rfl) (of_decide_eq_true (by kernel_rfl)) h0 bel lt0) (trodAll_cons_mk (Below.trod laidOut (by kernel_rfl) (of_decide_eq_true (by kernel_rfl)) h1 bel lt1) trodAll_mk0)), rfl, bel.frame _, fun h => by cases h⟩
theorem row_DeadPrunes : Rows.DeadPrunesSaid :=
  OpenClaim.holds_of_wide 3 Go.Proofs.Tryz.f3 rfl rfl rfl rfl rfl rfl rfl ⟨rfl, rfl, rfl, rfl, rfl⟩ rfl rfl rfl rfl rfl (by kernel_rfl) Tryz.func3 (by kernel_rfl)
    (of_decide_eq_true (by kernel_rfl)) (by unfold Func.isWrapper; first | (rw [if_pos (by decide +kernel)]; kernel_rfl) | (rw [if_neg (by decide +kernel)]; exact ⟨rfl, rfl⟩))
    (fun os started H enc _ => lifted_DeadPrunes os started H enc)
theorem deadPrunes_holds : Rows.DeadPrunesCardSaid :=
  Claim7.holds_tied_plain_at .later [] [.data, .sentinel, .sentinel, .pinned] true Rows.deadPrunesCard.stood.harness false row_DeadPrunes (fun _ h => by cases h) (by kernel_rfl) (fun _ h => by cases h) deadPrunes_row_tie rfl ⟨rfl, rfl⟩ (by kernel_rfl) rfl
    (fun f fn hf hfn => by
      obtain rfl : f = 3 := Option.some.inj ((show Go.Proofs.Tryz.prog.funcNamed "tapewright/tapewrightlaw16.DeadPrunes" = some 3 by kernel_rfl).symm.trans hf) |>.symm
      obtain rfl : fn = Go.Proofs.Tryz.f3 := (Option.some.inj (Tryz.func3.symm.trans hfn)).symm
      exact ⟨by kernel_rfl, fun j t ht => by
        rw [Tryz.params3] at ht
        have hm : t ∈ [24, 25] := by simpa using Array.mem_of_getElem? ht
        have hall : ([24, 25].all fun u => !Go.Proofs.Tryz.prog.wantsStandIn u) = true := by kernel_rfl
        exact (show Go.Proofs.Tryz.prog.wantsStandIn t = false by simpa using List.all_eq_true.1 hall t hm)⟩)
    (by kernel_rfl)
end Go.Proofs.YtnifmgbamcllaaaGreatDoor
