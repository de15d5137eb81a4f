/-
  Proved: the card of the law (DeadAll; DeadFew) of layer 16, for every graph and every row of numbers (and every number), with no condition of ours.
-/
import Derived.Test.YtnifmgbamcllaaaDoorDead4
import Derived.OpenShut
import Derived.Lay
import Derived.LaidMore
import Derived.ProofKit
import Derived.SevenTiedAt
import Derived.Stop.Joined
import Derived.Stop.LaidErr
import Derived.ChangeOld
import Derived.Carry
import Derived.DataElems
import Derived.Test.YtnifmgbamcllaaaDoorTie
import Derived.Test.YtnifmgbamcllaaaDoorCards
set_option linter.all false
namespace Go.V
open Go.N
set_option maxRecDepth 20000
def T_dPrune : Tab := [(24, ⟨.strc [(0, 1, false), (1, 1, false)], 2, 32, (.agg #[(.slice none 0 0), (.int .i64 0)]), [8, 0]⟩), (25, ⟨.slice 3, 1, 24, (.slice none 0 0), [1]⟩), (3, ⟨.int .i64, 1, 8, (.int .i64 0), [0]⟩), (28, ⟨.int .i64, 1, 8, (.int .i64 0), [0]⟩), (22, ⟨.slice 39, 1, 24, (.slice none 0 0), [8]⟩), (39, ⟨.strc [(0, 1, false), (1, 1, false), (2, 1, false), (3, 1, false), (4, 1, false), (5, 1, false), (6, 1, false), (7, 1, false)], 8, 120, (.agg #[(.string .empty), (.int .i64 0), (.int .i64 0), (.string .empty), (.slice none 0 0), (.string .empty), (.int .i64 0), (.slice none 0 0)]), [0, 0, 0, 0, 1, 0, 0, 1]⟩), (31, ⟨.slice 4, 1, 24, (.slice none 0 0), [1]⟩), (4, ⟨.bool, 1, 1, (.bool false), [0]⟩)]
theorem TOK_dPrune : TOK Go.Proofs.Tryd.prog T_dPrune := ⟨⟨info_of Go.Proofs.Tryd.type24 rfl, by decide +kernel, by decide +kernel⟩, ⟨⟨info_of Go.Proofs.Tryd.type25 rfl, by decide +kernel, by decide +kernel⟩, ⟨⟨info_of Go.Proofs.Tryd.type3 rfl, by decide +kernel, by decide +kernel⟩, ⟨⟨info_of Go.Proofs.Tryd.type28 rfl, by decide +kernel, by decide +kernel⟩, ⟨⟨info_of Go.Proofs.Tryd.type22 rfl, by decide +kernel, by decide +kernel⟩, ⟨⟨info_of Go.Proofs.Tryd.type39 rfl, by decide +kernel, by decide +kernel⟩, ⟨⟨info_of Go.Proofs.Tryd.type31 rfl, by decide +kernel, by decide +kernel⟩, ⟨⟨info_of Go.Proofs.Tryd.type4 rfl, by decide +kernel, by decide +kernel⟩, trivial⟩⟩⟩⟩⟩⟩⟩⟩
def atZ (pl : List Int) (a : Int) : Int := pl.getD a.toNat 0
theorem atZ_nat {pl : List Int} {k : Nat} (h : k < pl.length) : atZ pl k = pl[k] := by simp [atZ, h]
def reN (pl : List Int) (x : Nd) : Nd := match opParts x.op with | some 1 => { x with a := atZ pl x.a } | some 2 => { x with a := atZ pl x.a, b := atZ pl x.b } | _ => x
theorem dP0 {x : Nd} (h : opParts x.op = some 0) : dParts x = [] := by rw [dParts, h]; rfl
theorem dP1 {x : Nd} (h : opParts x.op = some 1) : dParts x = [x.a] := by rw [dParts, h]; rfl
theorem dP2 {x : Nd} (h : opParts x.op = some 2) : dParts x = [x.a, x.b] := by rw [dParts, h]; rfl
theorem re0 {x : Nd} {pl : List Int} (h : opParts x.op = some 0) : reN pl x = x := by rw [reN, h]; rfl
theorem re1 {x : Nd} {pl : List Int} (h : opParts x.op = some 1) : reN pl x = { x with a := atZ pl x.a } := by rw [reN, h]; rfl
theorem re2 {x : Nd} {pl : List Int} (h : opParts x.op = some 2) : reN pl x = { x with a := atZ pl x.a, b := atZ pl x.b } := by rw [reN, h]; rfl
def pruneTo (l : List Nd) (N : Nat → Bool) : Nat → List Int × List Nd
  | 0 => ([], [])
  | i + 1 => match l[i]? with
    | none => pruneTo l N i
    | some x => if N i = true then ((pruneTo l N i).1 ++ [((pruneTo l N i).2.length : Int)], (pruneTo l N i).2 ++ [reN (pruneTo l N i).1 x]) else ((pruneTo l N i).1 ++ [-1], (pruneTo l N i).2)
theorem prune_yes {l : List Nd} {N : Nat → Bool} {i : Nat} {pl : List Int} {out : List Nd} {x : Nd} (h : pruneTo l N i = (pl, out)) (hx : l[i]? = some x) (hN : N i = true) : pruneTo l N (i + 1) = (pl ++ [(out.length : Int)], out ++ [reN pl x]) := by
  simp only [pruneTo, hx, h, hN, if_true]
theorem prune_no {l : List Nd} {N : Nat → Bool} {i : Nat} {pl : List Int} {out : List Nd} {x : Nd} (h : pruneTo l N i = (pl, out)) (hx : l[i]? = some x) (hN : N i = false) : pruneTo l N (i + 1) = (pl ++ [-1], out) := by
  simp [pruneTo, hx, h, hN]
theorem prune_len {l : List Nd} {N : Nat → Bool} : ∀ {i : Nat}, i ≤ l.length → (pruneTo l N i).1.length = i ∧ (pruneTo l N i).2.length ≤ i
  | 0, _ => ⟨rfl, Nat.le_refl _⟩
  | i + 1, h => by
    have ih := prune_len (l := l) (N := N) (i := i) (by omega)
    have hx : l[i]? = some l[i] := List.getElem?_eq_getElem (by omega)
    cases hN : N i with
    | true => rw [prune_yes (Prod.eta _).symm hx hN]; simp; omega
    | false => rw [prune_no (Prod.eta _).symm hx hN]; simp; omega
def pruneG (g : Gr) (N : Nat → Bool) : Gr × List Int := (⟨(pruneTo g.nodes N g.nodes.length).2, atZ (pruneTo g.nodes N g.nodes.length).1 g.loss⟩, (pruneTo g.nodes N g.nodes.length).1)
theorem rowZ_snoc (pl : List Int) (v : Int) : rowZ (pl ++ [v]) = (rowZ pl).take (rowZ pl).length ++ [[.int .i64 v]] := by rw [List.take_length]; simp [rowZ]
theorem rowN_snoc (l : List Nd) (x : Nd) {c : List AV} (h : c = x.cells) : rowN (l ++ [x]) = (rowN l).take (rowN l).length ++ [c] := by rw [List.take_length, h]; simp [rowN]
set_option maxHeartbeats 8000000 in
theorem c_dPrune (g : Gr) (keep : List Int) (hs : ∀ x ∈ g.nodes, x.Sm) (hl : g.nodes.length ≤ 1000) (hk : keep.length ≤ 1000) :
    VCall Go.Proofs.Tryd.prog GL 7 [.agg g.cells, .ro 1 (rowZ keep)]
      (fun y => y = if okDead g keep = true then .tup [.agg (pruneG g (NB g keep)).1.cells, .ro 1 (rowZ (pruneG g (NB g keep)).2), .int .i64 0] else .tup [.agg [.ro 8 [], .int .i64 0], .ro 1 [], .int .i64 1]) := by
  have hnd := c_dNeeded g keep hs hl hk
  refine VCall.taken ?_
  cases hok : okDead g keep
  · rw [hok, if_neg (by simp)] at hnd
    rw [if_neg (by simp)]
    refine vcall_of TOK_dPrune HM Go.Proofs.Tryd.func7 rfl (by decide +kernel) (by decide +kernel) rfl ?_
    repeat' ((conv => whnf); first | ((with_reducible apply Xq); assumption) | (with_reducible first | apply Xa | (first | apply xi | apply xp | apply xP); omega | apply Xe | refine Xg (by assumption) ?_) | refine Xo (by assumption) ?_ | refine x_0 (by first | assumption | rfl) ?_ | refine x_1 (by first | assumption | rfl) ?_ | refine Or.inl ⟨rfl, ?_⟩ | (split <;> (first | (rename_i u h; clear u) | rename_i h) <;> (try rewrite [h]) <;> (first | replace h := dt h | replace h := df h | replace h := Nt h | replace h := Nf h | skip) <;> (try dsimp only at h) <;> (first | contradiction | (exfalso; omega) | skip)) | (refine Or.inl ⟨_, by assumption, ?_⟩; first | rintro _ rfl | skip))
    all_goals (conv => whnf)
    exact ⟨_, roTo3 (roToA (show RoTo .nils (.ro 8 []) from ⟨8, rfl⟩) rfl) (show RoTo .nils (.ro 1 []) from ⟨1, rfl⟩) rfl, rfl⟩
  rw [hok, if_pos rfl] at hnd
  rw [if_pos rfl]
  have hg : grOK g = true := by simp only [okDead, Bool.and_eq_true] at hok; exact hok.1
  obtain ⟨h1, h2, q, hq1, hq⟩ := ok_pre hg
  have hpt := fun {i : Nat} {x : Nd} => @ok_parts g hg i x
  have hfit := fun {i : Nat} {x : Nd} => @ok_fit g hg i x
  have hget : ∀ i (h : i < g.nodes.length), g.nodes[i]? = some g.nodes[i] := fun i h => List.getElem?_eq_getElem h
  generalize NB g keep = N at hnd ⊢
  clear hok hg
  obtain ⟨l, p⟩ := g
  dsimp only at hs hl hnd h1 h2 hq1 hq hpt hfit hget
  subst hq1
  show VCall _ _ _ [.agg [.ro 8 (rowN l), .int .i64 (q : Nat)], _] _
  have hlr := rowN_length l
  have hfin : ∀ pl out, pruneTo l N l.length = (pl, out) → pruneG ⟨l, (q : Int)⟩ N = (⟨out, atZ pl q⟩, pl) := fun pl out h => by simp only [pruneG, h]
  generalize pruneG ⟨l, (q : Int)⟩ N = G at hfin ⊢
  refine vcall_of TOK_dPrune HM Go.Proofs.Tryd.func7 rfl (by decide +kernel) (by decide +kernel) rfl ?_
  repeat' ((conv => whnf); first | ((with_reducible apply Xq); assumption) | (with_reducible first | apply Xa | (first | apply xi | apply xp | apply xP); omega | apply Xe | refine Xg (by assumption) ?_) | refine Xo (by assumption) ?_ | refine x_0 (by first | assumption | rfl) ?_ | refine x_1 (by first | assumption | rfl) ?_ | refine Or.inl ⟨rfl, ?_⟩ | (split <;> (first | (rename_i u h; clear u) | rename_i h) <;> (try rewrite [h]) <;> (first | replace h := dt h | replace h := df h | replace h := Nt h | replace h := Nf h | skip) <;> (try dsimp only at h) <;> (first | contradiction | (exfalso; omega) | skip)) | (refine Or.inl ⟨_, by assumption, ?_⟩; first | rintro _ rfl | skip))
  refine ⟨[2, 4, 7, 9, 10, 25, 26, 27], [0, 1, 2], fun m st => ∃ (i : Nat) (pl : List Int) (out : List Nd), i ≤ l.length ∧ m = l.length - i ∧ pruneTo l N i = (pl, out) ∧
    (i = 0 ∧ st = ⟨[(2, .bptr 0 0), (4, .bptr 1 0), (7, .ro 1 (fB l.length N)), (9, .bptr 2 0), (10, .nils), (25, .ro 8 (rowN l)), (26, .int .i64 ((rowN l).length : Nat)), (27, .int .i64 (i : Nat))], [.box 24 [.ro 8 (rowN l), .int .i64 (q : Nat)], .box 24 [.nils, .int .i64 0], .box 24 [.nils, .int .i64 0]]⟩ ∨ (0 < i ∧ out = [] ∧ st = ⟨[(2, .bptr 0 0), (4, .bptr 1 0), (7, .ro 1 (fB l.length N)), (9, .bptr 2 0), (10, .own 3 0 (rowZ pl).length), (25, .ro 8 (rowN l)), (26, .int .i64 ((rowN l).length : Nat)), (27, .int .i64 (i : Nat))], [.box 24 [.ro 8 (rowN l), .int .i64 (q : Nat)], .box 24 [.nils, .int .i64 0], .box 24 [.nils, .int .i64 0], .row false 3 1 (rowZ pl)]⟩) ∨ (0 < i ∧ st = ⟨[(2, .bptr 0 0), (4, .bptr 1 0), (7, .ro 1 (fB l.length N)), (9, .bptr 2 0), (10, .own 3 0 (rowZ pl).length), (25, .ro 8 (rowN l)), (26, .int .i64 ((rowN l).length : Nat)), (27, .int .i64 (i : Nat))], [.box 24 [.ro 8 (rowN l), .int .i64 (q : Nat)], .box 24 [.nils, .int .i64 0], .box 24 [.own 4 0 (rowN out).length, .int .i64 0], .row false 3 1 (rowZ pl), .row false 39 8 (rowN out)]⟩)), rfl, ⟨l.length, 0, [], [], by omega, rfl, rfl, .inl ⟨rfl, rfl⟩⟩, ?_⟩
  rintro m _ ⟨i, pl, out, hi, hm, hpr, hst⟩
  have hlen := prune_len (l := l) (N := N) hi
  rw [hpr] at hlen
  dsimp only at hlen
  have hpl := rowZ_length pl
  have hol := rowN_length out
  rcases Nat.lt_or_ge i l.length with hil | hge
  · obtain ⟨x, hx⟩ : ∃ x, x = l[i] := ⟨_, rfl⟩
    have hgx : l[i]? = some x := by rw [hx]; exact hget i hil
    have g : (rowN l)[i]? = some x.cells := by rw [hx]; exact rowN_get hil
    have g1 : (fB l.length N)[i]? = some [.bool (N i)] := fB_get hil
    clear hx
    cases hN : N i
    · have hnx := prune_no hpr hgx hN
      rw [hN] at g1
      obtain ⟨op, a, b, name, shape, k, n, data⟩ := x
      rcases hst with ⟨rfl, rfl⟩ | ⟨h0, rfl, rfl⟩ | ⟨h0, rfl⟩
      · obtain ⟨rfl, rfl⟩ : pl = [] ∧ out = [] := by cases hpr; exact ⟨rfl, rfl⟩
        repeat' ((conv => whnf); first | ((with_reducible apply Xq); assumption) | (with_reducible first | apply Xa | (first | apply xi | apply xp | apply xP); omega | apply Xe | refine Xg (by assumption) ?_) | refine Xo (by assumption) ?_ | refine x_0 (by first | assumption | rfl) ?_ | refine x_1 (by first | assumption | rfl) ?_ | refine Or.inl ⟨rfl, ?_⟩ | (split <;> (first | (rename_i u h; clear u) | rename_i h) <;> (try rewrite [h]) <;> (first | replace h := dt h | replace h := df h | replace h := Nt h | replace h := Nf h | skip) <;> (try dsimp only at h) <;> (first | contradiction | (exfalso; omega) | skip)) | (refine Or.inl ⟨_, by assumption, ?_⟩; first | rintro _ rfl | skip))
        conv => whnf
        refine ⟨Nat.le_of_ble_eq_true rfl, fun h => Nat.succ_ne_zero _ (congrArg List.length h), ?_⟩
        repeat' ((conv => whnf); first | ((with_reducible apply Xq); assumption) | (with_reducible first | apply Xa | (first | apply xi | apply xp | apply xP); omega | apply Xe | refine Xg (by assumption) ?_) | refine Xo (by assumption) ?_ | refine x_0 (by first | assumption | rfl) ?_ | refine x_1 (by first | assumption | rfl) ?_ | refine Or.inl ⟨rfl, ?_⟩ | (split <;> (first | (rename_i u h; clear u) | rename_i h) <;> (try rewrite [h]) <;> (first | replace h := dt h | replace h := df h | replace h := Nt h | replace h := Nf h | skip) <;> (try dsimp only at h) <;> (first | contradiction | (exfalso; omega) | skip)) | (refine Or.inl ⟨_, by assumption, ?_⟩; first | rintro _ rfl | skip))
        exact ⟨[0, 1, 2, 5], l.length - (0 + 1), rfl, by omega, 0 + 1, _, _, by omega, rfl, hnx, .inr (.inl ⟨by omega, rfl, rfl⟩)⟩
      · repeat' ((conv => whnf); first | ((with_reducible apply Xq); assumption) | (with_reducible first | apply Xa | (first | apply xi | apply xp | apply xP); omega | apply Xe | refine Xg (by assumption) ?_) | refine Xo (by assumption) ?_ | refine x_0 (by first | assumption | rfl) ?_ | refine x_1 (by first | assumption | rfl) ?_ | refine Or.inl ⟨rfl, ?_⟩ | (split <;> (first | (rename_i u h; clear u) | rename_i h) <;> (try rewrite [h]) <;> (first | replace h := dt h | replace h := df h | replace h := Nt h | replace h := Nf h | skip) <;> (try dsimp only at h) <;> (first | contradiction | (exfalso; omega) | skip)) | (refine Or.inl ⟨_, by assumption, ?_⟩; first | rintro _ rfl | skip))
        refine ⟨Nat.le_refl _, (show ((rowZ pl).length + 1) * 8 ≤ 140737488355328 by omega), _, rowZ_snoc pl _, ?_⟩
        repeat' ((conv => whnf); first | ((with_reducible apply Xq); assumption) | (with_reducible first | apply Xa | (first | apply xi | apply xp | apply xP); omega | apply Xe | refine Xg (by assumption) ?_) | refine Xo (by assumption) ?_ | refine x_0 (by first | assumption | rfl) ?_ | refine x_1 (by first | assumption | rfl) ?_ | refine Or.inl ⟨rfl, ?_⟩ | (split <;> (first | (rename_i u h; clear u) | rename_i h) <;> (try rewrite [h]) <;> (first | replace h := dt h | replace h := df h | replace h := Nt h | replace h := Nf h | skip) <;> (try dsimp only at h) <;> (first | contradiction | (exfalso; omega) | skip)) | (refine Or.inl ⟨_, by assumption, ?_⟩; first | rintro _ rfl | skip))
        exact ⟨[0, 1, 2, 6], l.length - (i + 1), rfl, by omega, i + 1, _, _, by omega, rfl, hnx, .inr (.inl ⟨by omega, rfl, rfl⟩)⟩
      · repeat' ((conv => whnf); first | ((with_reducible apply Xq); assumption) | (with_reducible first | apply Xa | (first | apply xi | apply xp | apply xP); omega | apply Xe | refine Xg (by assumption) ?_) | refine Xo (by assumption) ?_ | refine x_0 (by first | assumption | rfl) ?_ | refine x_1 (by first | assumption | rfl) ?_ | refine Or.inl ⟨rfl, ?_⟩ | (split <;> (first | (rename_i u h; clear u) | rename_i h) <;> (try rewrite [h]) <;> (first | replace h := dt h | replace h := df h | replace h := Nt h | replace h := Nf h | skip) <;> (try dsimp only at h) <;> (first | contradiction | (exfalso; omega) | skip)) | (refine Or.inl ⟨_, by assumption, ?_⟩; first | rintro _ rfl | skip))
        refine ⟨Nat.le_refl _, (show ((rowZ pl).length + 1) * 8 ≤ 140737488355328 by omega), _, rowZ_snoc pl _, ?_⟩
        repeat' ((conv => whnf); first | ((with_reducible apply Xq); assumption) | (with_reducible first | apply Xa | (first | apply xi | apply xp | apply xP); omega | apply Xe | refine Xg (by assumption) ?_) | refine Xo (by assumption) ?_ | refine x_0 (by first | assumption | rfl) ?_ | refine x_1 (by first | assumption | rfl) ?_ | refine Or.inl ⟨rfl, ?_⟩ | (split <;> (first | (rename_i u h; clear u) | rename_i h) <;> (try rewrite [h]) <;> (first | replace h := dt h | replace h := df h | replace h := Nt h | replace h := Nf h | skip) <;> (try dsimp only at h) <;> (first | contradiction | (exfalso; omega) | skip)) | (refine Or.inl ⟨_, by assumption, ?_⟩; first | rintro _ rfl | skip))
        exact ⟨[0, 1, 2, 7, 4], l.length - (i + 1), rfl, by omega, i + 1, _, _, by omega, rfl, hnx, .inr (.inr ⟨by omega, rfl⟩)⟩
    · have hnx := prune_yes hpr hgx hN
      rw [hN] at g1
      rcases hst with ⟨rfl, rfl⟩ | ⟨h0, rfl, rfl⟩ | ⟨h0, rfl⟩
      · obtain ⟨rfl, rfl⟩ : pl = [] ∧ out = [] := by cases hpr; exact ⟨rfl, rfl⟩
        obtain ⟨m0, hop, F⟩ := hfit hgx
        have hm2 := opParts_le hop
        have hDn := hpt hgx
        have hdp := c_dparts GL x
        obtain ⟨op, a, b, name, shape, k, n, data⟩ := x
        have h3 : m0 = 0 ∨ m0 = 1 ∨ m0 = 2 := by omega
        rcases h3 with rfl | rfl | rfl
        · rw [dP0 hop] at hdp
          rw [re0 hop] at hnx
          repeat' ((conv => whnf); first | ((with_reducible apply Xq); assumption) | (with_reducible first | apply Xa | (first | apply xi | apply xp | apply xP); omega | apply Xe | refine Xg (by assumption) ?_) | refine Xo (by assumption) ?_ | refine x_0 (by first | assumption | rfl) ?_ | refine x_1 (by first | assumption | rfl) ?_ | refine Or.inl ⟨rfl, ?_⟩ | (split <;> (first | (rename_i u h; clear u) | rename_i h) <;> (try rewrite [h]) <;> (first | replace h := dt h | replace h := df h | replace h := Nt h | replace h := Nf h | skip) <;> (try dsimp only at h) <;> (first | contradiction | (exfalso; omega) | skip)) | (refine Or.inl ⟨_, by assumption, ?_⟩; first | rintro _ rfl | skip))
          conv => whnf
          refine ⟨Nat.le_of_ble_eq_true rfl, fun h => Nat.succ_ne_zero _ (congrArg List.length h), ?_⟩
          repeat' ((conv => whnf); first | ((with_reducible apply Xq); assumption) | (with_reducible first | apply Xa | (first | apply xi | apply xp | apply xP); omega | apply Xe | refine Xg (by assumption) ?_) | refine Xo (by assumption) ?_ | refine x_0 (by first | assumption | rfl) ?_ | refine x_1 (by first | assumption | rfl) ?_ | refine Or.inl ⟨rfl, ?_⟩ | (split <;> (first | (rename_i u h; clear u) | rename_i h) <;> (try rewrite [h]) <;> (first | replace h := dt h | replace h := df h | replace h := Nt h | replace h := Nf h | skip) <;> (try dsimp only at h) <;> (first | contradiction | (exfalso; omega) | skip)) | (refine Or.inl ⟨_, by assumption, ?_⟩; first | rintro _ rfl | skip))
          conv => whnf
          refine ⟨Nat.le_of_ble_eq_true rfl, fun h => Nat.succ_ne_zero _ (congrArg List.length h), ?_⟩
          repeat' ((conv => whnf); first | ((with_reducible apply Xq); assumption) | (with_reducible first | apply Xa | (first | apply xi | apply xp | apply xP); omega | apply Xe | refine Xg (by assumption) ?_) | refine Xo (by assumption) ?_ | refine x_0 (by first | assumption | rfl) ?_ | refine x_1 (by first | assumption | rfl) ?_ | refine Or.inl ⟨rfl, ?_⟩ | (split <;> (first | (rename_i u h; clear u) | rename_i h) <;> (try rewrite [h]) <;> (first | replace h := dt h | replace h := df h | replace h := Nt h | replace h := Nf h | skip) <;> (try dsimp only at h) <;> (first | contradiction | (exfalso; omega) | skip)) | (refine Or.inl ⟨_, by assumption, ?_⟩; first | rintro _ rfl | skip))
          exact ⟨[0, 1, 2, 5, 7], l.length - (0 + 1), rfl, by omega, 0 + 1, _, [⟨op, a, b, name, shape, k, n, data⟩], by omega, rfl, hnx, .inr (.inr ⟨by omega, rfl⟩)⟩
        · obtain ⟨u, _, hu⟩ := hDn a (by rw [dP1 hop]; simp)
          omega
        · obtain ⟨u, _, hu⟩ := hDn a (by rw [dP2 hop]; simp)
          omega
      · obtain ⟨m0, hop, F⟩ := hfit hgx
        have hm2 := opParts_le hop
        have h3 : m0 = 0 ∨ m0 = 1 ∨ m0 = 2 := by omega
        have hDn := hpt hgx
        have hdp := c_dparts GL x
        obtain ⟨op, a, b, name, shape, k, n, data⟩ := x
        rcases h3 with rfl | rfl | rfl
        · rw [dP0 hop] at hdp
          rw [re0 hop] at hnx
          repeat' ((conv => whnf); first | ((with_reducible apply Xq); assumption) | (with_reducible first | apply Xa | (first | apply xi | apply xp | apply xP); omega | apply Xe | refine Xg (by assumption) ?_) | refine Xo (by assumption) ?_ | refine x_0 (by first | assumption | rfl) ?_ | refine x_1 (by first | assumption | rfl) ?_ | refine Or.inl ⟨rfl, ?_⟩ | (split <;> (first | (rename_i u h; clear u) | rename_i h) <;> (try rewrite [h]) <;> (first | replace h := dt h | replace h := df h | replace h := Nt h | replace h := Nf h | skip) <;> (try dsimp only at h) <;> (first | contradiction | (exfalso; omega) | skip)) | (refine Or.inl ⟨_, by assumption, ?_⟩; first | rintro _ rfl | skip))
          refine ⟨Nat.le_refl _, (show ((rowZ pl).length + 1) * 8 ≤ 140737488355328 by omega), _, rowZ_snoc pl _, ?_⟩
          repeat' ((conv => whnf); first | ((with_reducible apply Xq); assumption) | (with_reducible first | apply Xa | (first | apply xi | apply xp | apply xP); omega | apply Xe | refine Xg (by assumption) ?_) | refine Xo (by assumption) ?_ | refine x_0 (by first | assumption | rfl) ?_ | refine x_1 (by first | assumption | rfl) ?_ | refine Or.inl ⟨rfl, ?_⟩ | (split <;> (first | (rename_i u h; clear u) | rename_i h) <;> (try rewrite [h]) <;> (first | replace h := dt h | replace h := df h | replace h := Nt h | replace h := Nf h | skip) <;> (try dsimp only at h) <;> (first | contradiction | (exfalso; omega) | skip)) | (refine Or.inl ⟨_, by assumption, ?_⟩; first | rintro _ rfl | skip))
          conv => whnf
          refine ⟨Nat.le_of_ble_eq_true rfl, fun h => Nat.succ_ne_zero _ (congrArg List.length h), ?_⟩
          repeat' ((conv => whnf); first | ((with_reducible apply Xq); assumption) | (with_reducible first | apply Xa | (first | apply xi | apply xp | apply xP); omega | apply Xe | refine Xg (by assumption) ?_) | refine Xo (by assumption) ?_ | refine x_0 (by first | assumption | rfl) ?_ | refine x_1 (by first | assumption | rfl) ?_ | refine Or.inl ⟨rfl, ?_⟩ | (split <;> (first | (rename_i u h; clear u) | rename_i h) <;> (try rewrite [h]) <;> (first | replace h := dt h | replace h := df h | replace h := Nt h | replace h := Nf h | skip) <;> (try dsimp only at h) <;> (first | contradiction | (exfalso; omega) | skip)) | (refine Or.inl ⟨_, by assumption, ?_⟩; first | rintro _ rfl | skip))
          exact ⟨[0, 1, 2, 6, 8], l.length - (i + 1), rfl, by omega, i + 1, _, [⟨op, a, b, name, shape, k, n, data⟩], by omega, rfl, hnx, .inr (.inr ⟨by omega, rfl⟩)⟩
        · rw [dP1 hop] at hdp hDn
          rw [re1 hop] at hnx
          dsimp only at hdp hnx hDn
          obtain ⟨u, rfl, hu⟩ : ∃ u : Nat, a = u ∧ u < i := hDn a (by simp)
          have gu : (rowZ pl)[0 + u]? = some [.int .i64 (atZ pl u)] := by rw [Nat.zero_add, rowZ_get (by omega), atZ_nat (by omega)]
          repeat' ((conv => whnf); first | ((with_reducible apply Xq); assumption) | (with_reducible first | apply Xa | (first | apply xi | apply xp | apply xP); omega | apply Xe | refine Xg (by assumption) ?_) | refine Xo (by assumption) ?_ | refine x_0 (by first | assumption | rfl) ?_ | refine x_1 (by first | assumption | rfl) ?_ | refine Or.inl ⟨rfl, ?_⟩ | (split <;> (first | (rename_i u h; clear u) | rename_i h) <;> (try rewrite [h]) <;> (first | replace h := dt h | replace h := df h | replace h := Nt h | replace h := Nf h | skip) <;> (try dsimp only at h) <;> (first | contradiction | (exfalso; omega) | skip)) | (refine Or.inl ⟨_, by assumption, ?_⟩; first | rintro _ rfl | skip))
          refine ⟨Nat.le_refl _, (show ((rowZ pl).length + 1) * 8 ≤ 140737488355328 by omega), _, rowZ_snoc pl _, ?_⟩
          repeat' ((conv => whnf); first | ((with_reducible apply Xq); assumption) | (with_reducible first | apply Xa | (first | apply xi | apply xp | apply xP); omega | apply Xe | refine Xg (by assumption) ?_) | refine Xo (by assumption) ?_ | refine x_0 (by first | assumption | rfl) ?_ | refine x_1 (by first | assumption | rfl) ?_ | refine Or.inl ⟨rfl, ?_⟩ | (split <;> (first | (rename_i u h; clear u) | rename_i h) <;> (try rewrite [h]) <;> (first | replace h := dt h | replace h := df h | replace h := Nt h | replace h := Nf h | skip) <;> (try dsimp only at h) <;> (first | contradiction | (exfalso; omega) | skip)) | (refine Or.inl ⟨_, by assumption, ?_⟩; first | rintro _ rfl | skip))
          conv => whnf
          refine ⟨Nat.le_of_ble_eq_true rfl, fun h => Nat.succ_ne_zero _ (congrArg List.length h), ?_⟩
          repeat' ((conv => whnf); first | ((with_reducible apply Xq); assumption) | (with_reducible first | apply Xa | (first | apply xi | apply xp | apply xP); omega | apply Xe | refine Xg (by assumption) ?_) | refine Xo (by assumption) ?_ | refine x_0 (by first | assumption | rfl) ?_ | refine x_1 (by first | assumption | rfl) ?_ | refine Or.inl ⟨rfl, ?_⟩ | (split <;> (first | (rename_i u h; clear u) | rename_i h) <;> (try rewrite [h]) <;> (first | replace h := dt h | replace h := df h | replace h := Nt h | replace h := Nf h | skip) <;> (try dsimp only at h) <;> (first | contradiction | (exfalso; omega) | skip)) | (refine Or.inl ⟨_, by assumption, ?_⟩; first | rintro _ rfl | skip))
          exact ⟨[0, 1, 2, 6, 8], l.length - (i + 1), rfl, by omega, i + 1, _, [⟨op, atZ pl u, b, name, shape, k, n, data⟩], by omega, rfl, hnx, .inr (.inr ⟨by omega, rfl⟩)⟩
        · rw [dP2 hop] at hdp hDn
          rw [re2 hop] at hnx
          dsimp only at hdp hnx hDn
          obtain ⟨u, rfl, hu⟩ : ∃ u : Nat, a = u ∧ u < i := hDn a (by simp)
          obtain ⟨v, rfl, hv⟩ : ∃ u : Nat, b = u ∧ u < i := hDn b (by simp)
          have gu : (rowZ pl)[0 + u]? = some [.int .i64 (atZ pl u)] := by rw [Nat.zero_add, rowZ_get (by omega), atZ_nat (by omega)]
          have gv : (rowZ pl)[0 + v]? = some [.int .i64 (atZ pl v)] := by rw [Nat.zero_add, rowZ_get (by omega), atZ_nat (by omega)]
          repeat' ((conv => whnf); first | ((with_reducible apply Xq); assumption) | (with_reducible first | apply Xa | (first | apply xi | apply xp | apply xP); omega | apply Xe | refine Xg (by assumption) ?_) | refine Xo (by assumption) ?_ | refine x_0 (by first | assumption | rfl) ?_ | refine x_1 (by first | assumption | rfl) ?_ | refine Or.inl ⟨rfl, ?_⟩ | (split <;> (first | (rename_i u h; clear u) | rename_i h) <;> (try rewrite [h]) <;> (first | replace h := dt h | replace h := df h | replace h := Nt h | replace h := Nf h | skip) <;> (try dsimp only at h) <;> (first | contradiction | (exfalso; omega) | skip)) | (refine Or.inl ⟨_, by assumption, ?_⟩; first | rintro _ rfl | skip))
          refine ⟨Nat.le_refl _, (show ((rowZ pl).length + 1) * 8 ≤ 140737488355328 by omega), _, rowZ_snoc pl _, ?_⟩
          repeat' ((conv => whnf); first | ((with_reducible apply Xq); assumption) | (with_reducible first | apply Xa | (first | apply xi | apply xp | apply xP); omega | apply Xe | refine Xg (by assumption) ?_) | refine Xo (by assumption) ?_ | refine x_0 (by first | assumption | rfl) ?_ | refine x_1 (by first | assumption | rfl) ?_ | refine Or.inl ⟨rfl, ?_⟩ | (split <;> (first | (rename_i u h; clear u) | rename_i h) <;> (try rewrite [h]) <;> (first | replace h := dt h | replace h := df h | replace h := Nt h | replace h := Nf h | skip) <;> (try dsimp only at h) <;> (first | contradiction | (exfalso; omega) | skip)) | (refine Or.inl ⟨_, by assumption, ?_⟩; first | rintro _ rfl | skip))
          conv => whnf
          refine ⟨Nat.le_of_ble_eq_true rfl, fun h => Nat.succ_ne_zero _ (congrArg List.length h), ?_⟩
          repeat' ((conv => whnf); first | ((with_reducible apply Xq); assumption) | (with_reducible first | apply Xa | (first | apply xi | apply xp | apply xP); omega | apply Xe | refine Xg (by assumption) ?_) | refine Xo (by assumption) ?_ | refine x_0 (by first | assumption | rfl) ?_ | refine x_1 (by first | assumption | rfl) ?_ | refine Or.inl ⟨rfl, ?_⟩ | (split <;> (first | (rename_i u h; clear u) | rename_i h) <;> (try rewrite [h]) <;> (first | replace h := dt h | replace h := df h | replace h := Nt h | replace h := Nf h | skip) <;> (try dsimp only at h) <;> (first | contradiction | (exfalso; omega) | skip)) | (refine Or.inl ⟨_, by assumption, ?_⟩; first | rintro _ rfl | skip))
          exact ⟨[0, 1, 2, 6, 8], l.length - (i + 1), rfl, by omega, i + 1, _, [⟨op, atZ pl u, atZ pl v, name, shape, k, n, data⟩], by omega, rfl, hnx, .inr (.inr ⟨by omega, rfl⟩)⟩
      · rw [show out.length = (rowN out).length from (rowN_length out).symm] at hnx
        obtain ⟨m0, hop, F⟩ := hfit hgx
        have hm2 := opParts_le hop
        have h3 : m0 = 0 ∨ m0 = 1 ∨ m0 = 2 := by omega
        have hDn := hpt hgx
        have hdp := c_dparts GL x
        obtain ⟨op, a, b, name, shape, k, n, data⟩ := x
        rcases h3 with rfl | rfl | rfl
        · rw [dP0 hop] at hdp
          rw [re0 hop] at hnx
          repeat' ((conv => whnf); first | ((with_reducible apply Xq); assumption) | (with_reducible first | apply Xa | (first | apply xi | apply xp | apply xP); omega | apply Xe | refine Xg (by assumption) ?_) | refine Xo (by assumption) ?_ | refine x_0 (by first | assumption | rfl) ?_ | refine x_1 (by first | assumption | rfl) ?_ | refine Or.inl ⟨rfl, ?_⟩ | (split <;> (first | (rename_i u h; clear u) | rename_i h) <;> (try rewrite [h]) <;> (first | replace h := dt h | replace h := df h | replace h := Nt h | replace h := Nf h | skip) <;> (try dsimp only at h) <;> (first | contradiction | (exfalso; omega) | skip)) | (refine Or.inl ⟨_, by assumption, ?_⟩; first | rintro _ rfl | skip))
          refine ⟨Nat.le_refl _, (show ((rowZ pl).length + 1) * 8 ≤ 140737488355328 by omega), _, rowZ_snoc pl _, ?_⟩
          repeat' ((conv => whnf); first | ((with_reducible apply Xq); assumption) | (with_reducible first | apply Xa | (first | apply xi | apply xp | apply xP); omega | apply Xe | refine Xg (by assumption) ?_) | refine Xo (by assumption) ?_ | refine x_0 (by first | assumption | rfl) ?_ | refine x_1 (by first | assumption | rfl) ?_ | refine Or.inl ⟨rfl, ?_⟩ | (split <;> (first | (rename_i u h; clear u) | rename_i h) <;> (try rewrite [h]) <;> (first | replace h := dt h | replace h := df h | replace h := Nt h | replace h := Nf h | skip) <;> (try dsimp only at h) <;> (first | contradiction | (exfalso; omega) | skip)) | (refine Or.inl ⟨_, by assumption, ?_⟩; first | rintro _ rfl | skip))
          refine ⟨Nat.le_refl _, (show ((rowN out).length + 1) * 120 ≤ 140737488355328 by omega), _, rowN_snoc out ⟨op, a, b, name, shape, k, n, data⟩ rfl, ?_⟩
          repeat' ((conv => whnf); first | ((with_reducible apply Xq); assumption) | (with_reducible first | apply Xa | (first | apply xi | apply xp | apply xP); omega | apply Xe | refine Xg (by assumption) ?_) | refine Xo (by assumption) ?_ | refine x_0 (by first | assumption | rfl) ?_ | refine x_1 (by first | assumption | rfl) ?_ | refine Or.inl ⟨rfl, ?_⟩ | (split <;> (first | (rename_i u h; clear u) | rename_i h) <;> (try rewrite [h]) <;> (first | replace h := dt h | replace h := df h | replace h := Nt h | replace h := Nf h | skip) <;> (try dsimp only at h) <;> (first | contradiction | (exfalso; omega) | skip)) | (refine Or.inl ⟨_, by assumption, ?_⟩; first | rintro _ rfl | skip))
          exact ⟨[0, 1, 2, 7, 9], l.length - (i + 1), rfl, by omega, i + 1, _, _, by omega, rfl, hnx, .inr (.inr ⟨by omega, rfl⟩)⟩
        · rw [dP1 hop] at hdp hDn
          rw [re1 hop] at hnx
          dsimp only at hdp hnx hDn
          obtain ⟨u, rfl, hu⟩ : ∃ u : Nat, a = u ∧ u < i := hDn a (by simp)
          have gu : (rowZ pl)[0 + u]? = some [.int .i64 (atZ pl u)] := by rw [Nat.zero_add, rowZ_get (by omega), atZ_nat (by omega)]
          repeat' ((conv => whnf); first | ((with_reducible apply Xq); assumption) | (with_reducible first | apply Xa | (first | apply xi | apply xp | apply xP); omega | apply Xe | refine Xg (by assumption) ?_) | refine Xo (by assumption) ?_ | refine x_0 (by first | assumption | rfl) ?_ | refine x_1 (by first | assumption | rfl) ?_ | refine Or.inl ⟨rfl, ?_⟩ | (split <;> (first | (rename_i u h; clear u) | rename_i h) <;> (try rewrite [h]) <;> (first | replace h := dt h | replace h := df h | replace h := Nt h | replace h := Nf h | skip) <;> (try dsimp only at h) <;> (first | contradiction | (exfalso; omega) | skip)) | (refine Or.inl ⟨_, by assumption, ?_⟩; first | rintro _ rfl | skip))
          refine ⟨Nat.le_refl _, (show ((rowZ pl).length + 1) * 8 ≤ 140737488355328 by omega), _, rowZ_snoc pl _, ?_⟩
          repeat' ((conv => whnf); first | ((with_reducible apply Xq); assumption) | (with_reducible first | apply Xa | (first | apply xi | apply xp | apply xP); omega | apply Xe | refine Xg (by assumption) ?_) | refine Xo (by assumption) ?_ | refine x_0 (by first | assumption | rfl) ?_ | refine x_1 (by first | assumption | rfl) ?_ | refine Or.inl ⟨rfl, ?_⟩ | (split <;> (first | (rename_i u h; clear u) | rename_i h) <;> (try rewrite [h]) <;> (first | replace h := dt h | replace h := df h | replace h := Nt h | replace h := Nf h | skip) <;> (try dsimp only at h) <;> (first | contradiction | (exfalso; omega) | skip)) | (refine Or.inl ⟨_, by assumption, ?_⟩; first | rintro _ rfl | skip))
          refine ⟨Nat.le_refl _, (show ((rowN out).length + 1) * 120 ≤ 140737488355328 by omega), _, rowN_snoc out ⟨op, atZ pl u, b, name, shape, k, n, data⟩ rfl, ?_⟩
          repeat' ((conv => whnf); first | ((with_reducible apply Xq); assumption) | (with_reducible first | apply Xa | (first | apply xi | apply xp | apply xP); omega | apply Xe | refine Xg (by assumption) ?_) | refine Xo (by assumption) ?_ | refine x_0 (by first | assumption | rfl) ?_ | refine x_1 (by first | assumption | rfl) ?_ | refine Or.inl ⟨rfl, ?_⟩ | (split <;> (first | (rename_i u h; clear u) | rename_i h) <;> (try rewrite [h]) <;> (first | replace h := dt h | replace h := df h | replace h := Nt h | replace h := Nf h | skip) <;> (try dsimp only at h) <;> (first | contradiction | (exfalso; omega) | skip)) | (refine Or.inl ⟨_, by assumption, ?_⟩; first | rintro _ rfl | skip))
          exact ⟨[0, 1, 2, 7, 9], l.length - (i + 1), rfl, by omega, i + 1, _, _, by omega, rfl, hnx, .inr (.inr ⟨by omega, rfl⟩)⟩
        · rw [dP2 hop] at hdp hDn
          rw [re2 hop] at hnx
          dsimp only at hdp hnx hDn
          obtain ⟨u, rfl, hu⟩ : ∃ u : Nat, a = u ∧ u < i := hDn a (by simp)
          obtain ⟨v, rfl, hv⟩ : ∃ u : Nat, b = u ∧ u < i := hDn b (by simp)
          have gu : (rowZ pl)[0 + u]? = some [.int .i64 (atZ pl u)] := by rw [Nat.zero_add, rowZ_get (by omega), atZ_nat (by omega)]
          have gv : (rowZ pl)[0 + v]? = some [.int .i64 (atZ pl v)] := by rw [Nat.zero_add, rowZ_get (by omega), atZ_nat (by omega)]
          repeat' ((conv => whnf); first | ((with_reducible apply Xq); assumption) | (with_reducible first | apply Xa | (first | apply xi | apply xp | apply xP); omega | apply Xe | refine Xg (by assumption) ?_) | refine Xo (by assumption) ?_ | refine x_0 (by first | assumption | rfl) ?_ | refine x_1 (by first | assumption | rfl) ?_ | refine Or.inl ⟨rfl, ?_⟩ | (split <;> (first | (rename_i u h; clear u) | rename_i h) <;> (try rewrite [h]) <;> (first | replace h := dt h | replace h := df h | replace h := Nt h | replace h := Nf h | skip) <;> (try dsimp only at h) <;> (first | contradiction | (exfalso; omega) | skip)) | (refine Or.inl ⟨_, by assumption, ?_⟩; first | rintro _ rfl | skip))
          refine ⟨Nat.le_refl _, (show ((rowZ pl).length + 1) * 8 ≤ 140737488355328 by omega), _, rowZ_snoc pl _, ?_⟩
          repeat' ((conv => whnf); first | ((with_reducible apply Xq); assumption) | (with_reducible first | apply Xa | (first | apply xi | apply xp | apply xP); omega | apply Xe | refine Xg (by assumption) ?_) | refine Xo (by assumption) ?_ | refine x_0 (by first | assumption | rfl) ?_ | refine x_1 (by first | assumption | rfl) ?_ | refine Or.inl ⟨rfl, ?_⟩ | (split <;> (first | (rename_i u h; clear u) | rename_i h) <;> (try rewrite [h]) <;> (first | replace h := dt h | replace h := df h | replace h := Nt h | replace h := Nf h | skip) <;> (try dsimp only at h) <;> (first | contradiction | (exfalso; omega) | skip)) | (refine Or.inl ⟨_, by assumption, ?_⟩; first | rintro _ rfl | skip))
          refine ⟨Nat.le_refl _, (show ((rowN out).length + 1) * 120 ≤ 140737488355328 by omega), _, rowN_snoc out ⟨op, atZ pl u, atZ pl v, name, shape, k, n, data⟩ rfl, ?_⟩
          repeat' ((conv => whnf); first | ((with_reducible apply Xq); assumption) | (with_reducible first | apply Xa | (first | apply xi | apply xp | apply xP); omega | apply Xe | refine Xg (by assumption) ?_) | refine Xo (by assumption) ?_ | refine x_0 (by first | assumption | rfl) ?_ | refine x_1 (by first | assumption | rfl) ?_ | refine Or.inl ⟨rfl, ?_⟩ | (split <;> (first | (rename_i u h; clear u) | rename_i h) <;> (try rewrite [h]) <;> (first | replace h := dt h | replace h := df h | replace h := Nt h | replace h := Nf h | skip) <;> (try dsimp only at h) <;> (first | contradiction | (exfalso; omega) | skip)) | (refine Or.inl ⟨_, by assumption, ?_⟩; first | rintro _ rfl | skip))
          exact ⟨[0, 1, 2, 7, 9], l.length - (i + 1), rfl, by omega, i + 1, _, _, by omega, rfl, hnx, .inr (.inr ⟨by omega, rfl⟩)⟩
  · have hi2 : i = l.length := by omega
    subst hi2
    have hG := hfin pl out hpr
    have gq : (rowZ pl)[0 + q]? = some [.int .i64 (atZ pl q)] := by rw [Nat.zero_add, rowZ_get (by omega), atZ_nat (by omega)]
    rcases hst with ⟨h0, rfl⟩ | ⟨h0, rfl, rfl⟩ | ⟨h0, rfl⟩
    · omega
    · repeat' ((conv => whnf); first | ((with_reducible apply Xq); assumption) | (with_reducible first | apply Xa | (first | apply xi | apply xp | apply xP); omega | apply Xe | refine Xg (by assumption) ?_) | refine Xo (by assumption) ?_ | refine x_0 (by first | assumption | rfl) ?_ | refine x_1 (by first | assumption | rfl) ?_ | refine Or.inl ⟨rfl, ?_⟩ | (split <;> (first | (rename_i u h; clear u) | rename_i h) <;> (try rewrite [h]) <;> (first | replace h := dt h | replace h := df h | replace h := Nt h | replace h := Nf h | skip) <;> (try dsimp only at h) <;> (first | contradiction | (exfalso; omega) | skip)) | (refine Or.inl ⟨_, by assumption, ?_⟩; first | rintro _ rfl | skip))
      all_goals (conv => whnf)
      exact ⟨_, roTo3 (roToA (show RoTo .nils (.ro 8 []) from ⟨8, rfl⟩) rfl) rfl rfl, by rw [hG]; rfl⟩
    · repeat' ((conv => whnf); first | ((with_reducible apply Xq); assumption) | (with_reducible first | apply Xa | (first | apply xi | apply xp | apply xP); omega | apply Xe | refine Xg (by assumption) ?_) | refine Xo (by assumption) ?_ | refine x_0 (by first | assumption | rfl) ?_ | refine x_1 (by first | assumption | rfl) ?_ | refine Or.inl ⟨rfl, ?_⟩ | (split <;> (first | (rename_i u h; clear u) | rename_i h) <;> (try rewrite [h]) <;> (first | replace h := dt h | replace h := df h | replace h := Nt h | replace h := Nf h | skip) <;> (try dsimp only at h) <;> (first | contradiction | (exfalso; omega) | skip)) | (refine Or.inl ⟨_, by assumption, ?_⟩; first | rintro _ rfl | skip))
      all_goals (conv => whnf)
      exact ⟨_, roTo3 (roToA rfl rfl) rfl rfl, by rw [hG]; rfl⟩
end Go.V
namespace Go.V
open Go.N
set_option maxRecDepth 20000
variable (gl : Gl)
end Go.V
namespace Go.V
open Go.N
set_option maxRecDepth 20000
variable (gl : Gl)
end Go.V
namespace Go.V
open Go.N
set_option maxRecDepth 20000
def T_awake : Tab := [(39, ⟨.strc [(0, 1, false), (1, 1, false), (2, 1, false), (3, 1, false), (4, 1, false), (5, 1, false), (6, 1, false), (7, 1, false)], 8, 120, (.agg #[(.string .empty), (.int .i64 0), (.int .i64 0), (.string .empty), (.slice none 0 0), (.string .empty), (.int .i64 0), (.slice none 0 0)]), [0, 0, 0, 0, 1, 0, 0, 1]⟩), (22, ⟨.slice 39, 1, 24, (.slice none 0 0), [8]⟩), (24, ⟨.strc [(0, 1, false), (1, 1, false)], 2, 32, (.agg #[(.slice none 0 0), (.int .i64 0)]), [8, 0]⟩), (25, ⟨.slice 3, 1, 24, (.slice none 0 0), [1]⟩), (3, ⟨.int .i64, 1, 8, (.int .i64 0), [0]⟩), (28, ⟨.int .i64, 1, 8, (.int .i64 0), [0]⟩)]
theorem TOK_awake : TOK Go.Proofs.Tryd.prog T_awake := ⟨⟨info_of Go.Proofs.Tryd.type39 rfl, by decide +kernel, by decide +kernel⟩, ⟨⟨info_of Go.Proofs.Tryd.type22 rfl, by decide +kernel, by decide +kernel⟩, ⟨⟨info_of Go.Proofs.Tryd.type24 rfl, by decide +kernel, by decide +kernel⟩, ⟨⟨info_of Go.Proofs.Tryd.type25 rfl, by decide +kernel, by decide +kernel⟩, ⟨⟨info_of Go.Proofs.Tryd.type3 rfl, by decide +kernel, by decide +kernel⟩, ⟨⟨info_of Go.Proofs.Tryd.type28 rfl, by decide +kernel, by decide +kernel⟩, trivial⟩⟩⟩⟩⟩⟩
mutual
def AsRo : AV → AV → Prop
  | .nils, y => y = .nils ∨ ∃ sz, y = .ro sz []
  | .ro sz es, y => ∃ es', y = .ro sz es' ∧ AsRoLL es es'
  | .agg cs, y => ∃ cs', y = .agg cs' ∧ AsRoL cs cs'
  | x, y => y = x
def AsRoL : List AV → List AV → Prop
  | [], ys => ys = []
  | x :: xs, ys => ∃ y r, ys = y :: r ∧ AsRo x y ∧ AsRoL xs r
def AsRoLL : List (List AV) → List (List AV) → Prop
  | [], ys => ys = []
  | x :: xs, ys => ∃ y r, ys = y :: r ∧ AsRoL x y ∧ AsRoLL xs r
end
theorem asRoLL_len : ∀ (es es' : List (List AV)), AsRoLL es es' → es'.length = es.length
  | [], _, h => by simp only [AsRoLL] at h; rw [h]
  | _ :: xs, _, h => by
    simp only [AsRoLL] at h
    obtain ⟨y, r, rfl, _, h⟩ := h
    simp [asRoLL_len xs r h]
mutual
theorem asRo_rep {S : Nat → Prop} {H : Hp} {w : World} : ∀ (x y : AV) (v : Value), AsRo x y → RepV S H w x v → RepV S H w y v
  | .nils, y, v, hy, h => by
    simp only [AsRo] at hy
    rcases hy with rfl | ⟨sz, rfl⟩
    · exact h
    · simp only [RepV] at h ⊢
      subst h
      exact ⟨none, 0, by simp⟩
  | .ro sz es, y, v, hy, h => by
    simp only [AsRo] at hy
    obtain ⟨es', rfl, hl⟩ := hy
    have hn := asRoLL_len _ _ hl
    simp only [RepV] at h ⊢
    obtain ⟨A, c, e, hc, hm, h⟩ := h
    refine ⟨A, c, by rw [hn]; exact e, by rw [hn]; exact hc, hm, ?_⟩
    rcases h with h | ⟨a, ea, hs, hb, vss, hvl, hz, hcell⟩
    · left; exact List.length_eq_zero_iff.1 (by rw [hn, h]; rfl)
    · exact .inr ⟨a, ea, hs, hb, vss, asRoLL_rep es es' vss hl hvl, hz, hcell⟩
  | .agg cs, y, v, hy, h => by
    simp only [AsRo] at hy
    obtain ⟨cs', rfl, hl⟩ := hy
    simp only [RepV] at h ⊢
    obtain ⟨vs, e, h1, h2⟩ := h
    exact ⟨vs, e, h1, asRoL_rep cs cs' vs hl h2⟩
  | .j, y, v, hy, h | .u, y, v, hy, h | .int _ _, y, v, hy, h | .bool _, y, v, hy, h | .str _, y, v, hy, h | .nili, y, v, hy, h | .tup _, y, v, hy, h | .fr _ _ _, y, v, hy, h
  | .own _ _ _, y, v, hy, h | .ptr _ _ _, y, v, hy, h | .bptr _ _, y, v, hy, h | .map _, y, v, hy, h | .rp _, y, v, hy, h | .fn _ _, y, v, hy, h | .iface _ _, y, v, hy, h => by
    simp only [AsRo] at hy
    subst hy; exact h
theorem asRoL_rep {S : Nat → Prop} {H : Hp} {w : World} : ∀ (xs ys : List AV) (vs : List Value), AsRoL xs ys → RepL S H w xs vs → RepL S H w ys vs
  | [], ys, vs, hy, h => by simp only [AsRoL] at hy; subst hy; exact h
  | x :: xs, ys, vs, hy, h => by
    simp only [AsRoL] at hy
    obtain ⟨y, r, rfl, h1, h2⟩ := hy
    simp only [RepL] at h ⊢
    obtain ⟨v, r', rfl, h3, h4⟩ := h
    exact ⟨v, r', rfl, asRo_rep x y v h1 h3, asRoL_rep xs r r' h2 h4⟩
theorem asRoLL_rep {S : Nat → Prop} {w : World} : ∀ (xs ys : List (List AV)) (vs : List (List Value)), AsRoLL xs ys → RepLL S w xs vs → RepLL S w ys vs
  | [], ys, vs, hy, h => by simp only [AsRoLL] at hy; subst hy; exact h
  | x :: xs, ys, vs, hy, h => by
    simp only [AsRoLL] at hy
    obtain ⟨y, r, rfl, h1, h2⟩ := hy
    simp only [RepLL] at h ⊢
    obtain ⟨v, r', rfl, h3, h4⟩ := h
    exact ⟨v, r', rfl, asRoL_rep x y v h1 h3, asRoLL_rep xs r r' h2 h4⟩
end
theorem VCall.args {P : Program} {gl : Gl} {f : FuncId} {xs ys : List AV} {R : AV → Prop} (h : VCall P gl f ys R) (ha : AsRoL xs ys) : VCall P gl f xs R :=
  fun S w vs h1 h2 h3 => h S w vs h1 h2 (asRoL_rep _ _ _ ha h3)
def ndA (op name : ByteArray) : List AV := [.str op, .int .i64 0, .int .i64 0, .str name, .nils, .str ⟨#[]⟩, .int .i64 0, .nils]
theorem ndA_as (op name : ByteArray) : AsRoL (ndA op name) (Nd.cells ⟨op, 0, 0, name, [], ⟨#[]⟩, 0, []⟩) :=
  ⟨_, _, rfl, rfl, _, _, rfl, rfl, _, _, rfl, rfl, _, _, rfl, rfl, _, _, rfl, .inr ⟨1, rfl⟩, _, _, rfl, rfl, _, _, rfl, rfl, _, _, rfl, .inr ⟨1, rfl⟩, rfl⟩
def nd0 (op name : ByteArray) : Nd := ⟨op, 0, 0, name, [], ⟨#[]⟩, 0, []⟩
def G0 : Gr := ⟨[nd0 sParam ⟨#[119]⟩, nd0 sRelu ⟨#[]⟩, nd0 sAdd ⟨#[]⟩], 2⟩
theorem G0_ok : okDead G0 [] = true := by decide +kernel
theorem G0_0 : NB G0 [] 0 = true := NB_iff.2 (.name (x := nd0 sParam ⟨#[119]⟩) rfl (by decide))
theorem G0_2 : NB G0 [] 2 = true := NB_iff.2 (.loss rfl)
theorem G0_1 : NB G0 [] 1 = false := by
  rw [Bool.eq_false_iff]
  intro h
  rcases (need_iff (x := nd0 sRelu ⟨#[]⟩) rfl).1 (NB_iff.1 h) with (h | h | ⟨k, y, h1, h2, h3, _⟩) | h
  · exact absurd h (by decide)
  · simp at h
  · have hk : k < 3 := (List.getElem?_eq_some_iff.1 h2).1
    obtain rfl : k = 2 := by omega
    have : y = nd0 sAdd ⟨#[]⟩ := by
      have e : G0.nodes[2]? = some (nd0 sAdd ⟨#[]⟩) := rfl
      rw [e] at h2; cases h2; rfl
    subst this
    exact absurd h3 (by decide)
  · exact h rfl
theorem G0_prune : pruneG G0 (NB G0 []) = (⟨[nd0 sParam ⟨#[119]⟩, nd0 sAdd ⟨#[]⟩], 1⟩, [0, -1, 1]) := by
  have h1 := prune_yes (l := G0.nodes) (N := NB G0 []) (i := 0) (x := nd0 sParam ⟨#[119]⟩) rfl rfl G0_0
  have h2 := prune_no h1 (x := nd0 sRelu ⟨#[]⟩) rfl G0_1
  have h3 := prune_yes h2 (x := nd0 sAdd ⟨#[]⟩) rfl G0_2
  have e : G0.nodes.length = 3 := rfl
  rw [pruneG, e, h3]
  rfl
theorem c_awake : VCall Go.Proofs.Tryd.prog GL 6 [] (fun r => r = .bool true) := by
  have hp := c_dPrune G0 [] (fun x hx => by
    simp only [G0, List.mem_cons, List.not_mem_nil, or_false] at hx
    rcases hx with rfl | rfl | rfl <;> exact ⟨by decide, by decide, by decide, by decide, fun d hd => by simp [nd0] at hd⟩) (by decide) (by decide)
  rw [G0_ok, if_pos rfl, G0_prune] at hp
  have hs := c_r04_Same GL [0, -1, 1] [0, -1, 1] (by decide) (by decide)
  rw [decide_eq_true rfl] at hs
  have hp := hp.args (xs := [.agg [.ro 8 [ndA sParam ⟨#[119]⟩, ndA sRelu ⟨#[]⟩, ndA sAdd ⟨#[]⟩], .int .i64 2], .ro 1 []])
    ⟨_, _, rfl, ⟨_, rfl, _, _, rfl, ⟨_, rfl, _, _, rfl, ndA_as _ _, _, _, rfl, ndA_as _ _, _, _, rfl, ndA_as _ _, rfl⟩, _, _, rfl, rfl, rfl⟩, _, _, rfl, ⟨_, rfl, rfl⟩, rfl⟩
  refine vcall_of TOK_awake HM Go.Proofs.Tryd.func6 rfl (by decide +kernel) (by decide +kernel) rfl ?_
  repeat' ((conv => whnf); first | ((with_reducible apply Xq); assumption) | (with_reducible first | apply Xa | (first | apply xi | apply xp | apply xP); omega | apply Xe | refine Xg (by assumption) ?_) | refine Xo (by assumption) ?_ | refine x_0 (by first | assumption | rfl) ?_ | refine x_1 (by first | assumption | rfl) ?_ | refine Or.inl ⟨rfl, ?_⟩ | (split <;> (first | (rename_i u h; clear u) | rename_i h) <;> (try rewrite [h]) <;> (first | replace h := dt h | replace h := df h | replace h := Nt h | replace h := Nf h | skip) <;> (try dsimp only at h) <;> (first | contradiction | (exfalso; omega) | skip)) | (refine Or.inl ⟨_, by assumption, ?_⟩; first | rintro _ rfl | skip))
  conv => whnf
  rfl
theorem reN_sm {pl : List Int} {x : Nd} (h : x.Sm) : (reN pl x).Sm := by
  unfold reN
  split
  · exact ⟨h.name, h.k, h.shape, h.data, h.each⟩
  · exact ⟨h.name, h.k, h.shape, h.data, h.each⟩
  · exact h
theorem prune_sm {l : List Nd} {N : Nat → Bool} (hs : ∀ x ∈ l, x.Sm) : ∀ i, ∀ x ∈ (pruneTo l N i).2, x.Sm
  | 0, x, hx => by simp [pruneTo] at hx
  | i + 1, x, hx => by
    have ih := prune_sm (N := N) hs i
    unfold pruneTo at hx
    split at hx
    · exact ih x hx
    · rename_i y hy
      split at hx
      · simp only [List.mem_append, List.mem_singleton] at hx
        rcases hx with hx | rfl
        · exact ih x hx
        · exact reN_sm (hs y (List.mem_of_getElem? hy))
      · exact ih x hx
end Go.V
namespace Go.V
open Go.N
set_option maxRecDepth 20000
end Go.V
namespace Go.V
open Go.N
set_option maxRecDepth 20000
def T_DeadAll : Tab := [(24, ⟨.strc [(0, 1, false), (1, 1, false)], 2, 32, (.agg #[(.slice none 0 0), (.int .i64 0)]), [8, 0]⟩), (4, ⟨.bool, 1, 1, (.bool false), [0]⟩), (25, ⟨.slice 3, 1, 24, (.slice none 0 0), [1]⟩), (3, ⟨.int .i64, 1, 8, (.int .i64 0), [0]⟩), (22, ⟨.slice 39, 1, 24, (.slice none 0 0), [8]⟩), (39, ⟨.strc [(0, 1, false), (1, 1, false), (2, 1, false), (3, 1, false), (4, 1, false), (5, 1, false), (6, 1, false), (7, 1, false)], 8, 120, (.agg #[(.string .empty), (.int .i64 0), (.int .i64 0), (.string .empty), (.slice none 0 0), (.string .empty), (.int .i64 0), (.slice none 0 0)]), [0, 0, 0, 0, 1, 0, 0, 1]⟩), (28, ⟨.int .i64, 1, 8, (.int .i64 0), [0]⟩), (31, ⟨.slice 4, 1, 24, (.slice none 0 0), [1]⟩)]
theorem TOK_DeadAll : TOK Go.Proofs.Tryd.prog T_DeadAll := ⟨⟨info_of Go.Proofs.Tryd.type24 rfl, by decide +kernel, by decide +kernel⟩, ⟨⟨info_of Go.Proofs.Tryd.type4 rfl, by decide +kernel, by decide +kernel⟩, ⟨⟨info_of Go.Proofs.Tryd.type25 rfl, by decide +kernel, by decide +kernel⟩, ⟨⟨info_of Go.Proofs.Tryd.type3 rfl, by decide +kernel, by decide +kernel⟩, ⟨⟨info_of Go.Proofs.Tryd.type22 rfl, by decide +kernel, by decide +kernel⟩, ⟨⟨info_of Go.Proofs.Tryd.type39 rfl, by decide +kernel, by decide +kernel⟩, ⟨⟨info_of Go.Proofs.Tryd.type28 rfl, by decide +kernel, by decide +kernel⟩, ⟨⟨info_of Go.Proofs.Tryd.type31 rfl, by decide +kernel, by decide +kernel⟩, trivial⟩⟩⟩⟩⟩⟩⟩⟩
theorem need_mono {g : Gr} {keep : List Int} {more : Int} {i : Nat} (h : NeedP g keep i) : NeedP g (keep ++ [more]) i := by
  induction h with
  | loss h => exact .loss h
  | keep h => exact .keep (List.mem_append_left _ h)
  | name h1 h2 => exact .name h1 h2
  | use h1 h2 h3 _ ih => exact .use h1 h2 h3 ih
def upTo (n : Nat) : List Int := (List.range n).map fun (k : Nat) => (k : Int)
theorem upTo_length (n : Nat) : (upTo n).length = n := by simp [upTo]
theorem upTo_succ (n : Nat) : upTo (n + 1) = upTo n ++ [(n : Int)] := by simp [upTo, List.range_succ]
theorem atZ_upTo {i k : Nat} (h : k < i) : atZ (upTo i) k = k := by rw [atZ_nat (by rw [upTo_length]; exact h)]; simp [upTo]
theorem re_upTo {g : Gr} (hg : grOK g = true) {i : Nat} {x : Nd} (hx : g.nodes[i]? = some x) : reN (upTo i) x = x := by
  obtain ⟨m, hop, F⟩ := ok_fit hg hx
  have hm := opParts_le hop
  have hp := ok_parts hg hx
  have h3 : m = 0 ∨ m = 1 ∨ m = 2 := by omega
  rcases h3 with rfl | rfl | rfl
  · exact re0 hop
  · rw [dP1 hop] at hp
    obtain ⟨k, hk, hki⟩ := hp x.a (by simp)
    rw [re1 hop, hk, atZ_upTo hki, ← hk]
  · rw [dP2 hop] at hp
    obtain ⟨k, hk, hki⟩ := hp x.a (by simp)
    obtain ⟨k2, hk2, hki2⟩ := hp x.b (by simp)
    rw [re2 hop, hk, atZ_upTo hki, ← hk, hk2, atZ_upTo hki2, ← hk2]
theorem prune_all {g : Gr} (hg : grOK g = true) {N : Nat → Bool} (hN : ∀ i, i < g.nodes.length → N i = true) : ∀ i, i ≤ g.nodes.length → pruneTo g.nodes N i = (upTo i, g.nodes.take i)
  | 0, _ => by simp [pruneTo, upTo]
  | i + 1, h => by
    have hx : g.nodes[i]? = some g.nodes[i] := List.getElem?_eq_getElem (by omega)
    rw [prune_yes (prune_all hg hN i (by omega)) hx (hN i (by omega)), re_upTo hg hx, upTo_succ, List.length_take, List.take_succ_eq_append_getElem (by omega), Nat.min_eq_left (by omega)]
theorem pruneG_all {g : Gr} (hg : grOK g = true) {N : Nat → Bool} (hN : ∀ i, i < g.nodes.length → N i = true) : pruneG g N = (g, upTo g.nodes.length) := by
  obtain ⟨_, _, q, hq, hql⟩ := ok_pre hg
  rw [pruneG, prune_all hg hN _ (Nat.le_refl _), List.take_length]
  dsimp only
  rw [hq, atZ_upTo hql, ← hq]
theorem keep_all (g : Gr) : keepOK g (upTo g.nodes.length) = true := by
  rw [keepOK, Bool.not_eq_true', List.any_eq_false]
  intro x hx
  obtain ⟨k, hk, rfl⟩ := List.mem_map.1 hx
  have := List.mem_range.1 hk
  simp only [Bool.or_eq_true, decide_eq_true_eq]; omega
theorem NB_all (g : Gr) : ∀ i, i < g.nodes.length → NB g (upTo g.nodes.length) i = true := fun i hi => NB_iff.2 (.keep (List.mem_map.2 ⟨i, List.mem_range.2 hi, rfl⟩))
theorem own_all (X : List (List AV)) : X = List.take X.length (List.drop 0 X) := by rw [List.drop_zero, List.take_length]
theorem keep_more {g : Gr} {keep : List Int} {more : Int} : keepOK g (keep ++ [more]) = (keepOK g keep && !(decide (more < 0) || decide ((g.nodes.length : Int) ≤ more))) := by
  simp [keepOK, List.any_append, Bool.not_or]
open Classical in
set_option maxHeartbeats 8000000 in
theorem c_DeadAll (g : Gr) (keep : List Int) (more : Int) : VCall Go.Proofs.Tryd.prog GL 3 [.agg g.cells, .ro 1 (rowZ keep), .int .i64 more] (fun r => r = .bool true) := by
  have haw := c_awake
  obtain ⟨l, p⟩ := g
  show VCall _ _ _ [.agg [.ro 8 (rowN l), .int .i64 p], .ro 1 (rowZ keep), .int .i64 more] _
  have hsm := c_r10_Small GL ⟨l, p⟩
  have hlr := rowN_length l
  have hkr := rowZ_length keep
  cases hS : smallG ⟨l, p⟩
  · rw [hS] at hsm
    refine vcall_of TOK_DeadAll HM Go.Proofs.Tryd.func3 rfl (by decide +kernel) (by decide +kernel) rfl ?_
    repeat' ((conv => whnf); first | ((with_reducible apply Xq); assumption) | (with_reducible first | apply Xa | (first | apply xi | apply xp | apply xP); omega | apply Xe | refine Xg (by assumption) ?_) | refine Xo (by assumption) ?_ | refine x_0 (by first | assumption | rfl) ?_ | refine x_1 (by first | assumption | rfl) ?_ | refine Or.inl ⟨rfl, ?_⟩ | (split <;> (first | (rename_i u h; clear u) | rename_i h) <;> (try rewrite [h]) <;> (first | replace h := dt h | replace h := df h | replace h := Nt h | replace h := Nf h | skip) <;> (try dsimp only at h) <;> (first | contradiction | (exfalso; omega) | skip)) | (refine Or.inl ⟨_, by assumption, ?_⟩; first | rintro _ rfl | skip))
    all_goals (conv => whnf)
    all_goals rfl
  by_cases hkl : keep.length ≤ 40
  case neg =>
    rw [hS] at hsm
    refine vcall_of TOK_DeadAll HM Go.Proofs.Tryd.func3 rfl (by decide +kernel) (by decide +kernel) rfl ?_
    repeat' ((conv => whnf); first | ((with_reducible apply Xq); assumption) | (with_reducible first | apply Xa | (first | apply xi | apply xp | apply xP); omega | apply Xe | refine Xg (by assumption) ?_) | refine Xo (by assumption) ?_ | refine x_0 (by first | assumption | rfl) ?_ | refine x_1 (by first | assumption | rfl) ?_ | refine Or.inl ⟨rfl, ?_⟩ | (split <;> (first | (rename_i u h; clear u) | rename_i h) <;> (try rewrite [h]) <;> (first | replace h := dt h | replace h := df h | replace h := Nt h | replace h := Nf h | skip) <;> (try dsimp only at h) <;> (first | contradiction | (exfalso; omega) | skip)) | (refine Or.inl ⟨_, by assumption, ?_⟩; first | rintro _ rfl | skip))
    all_goals (conv => whnf)
    all_goals rfl
  rw [hS] at hsm
  simp only [smallG, Bool.and_eq_true, decide_eq_true_eq, List.all_eq_true] at hS
  obtain ⟨hl, hs⟩ := hS
  have hs := fun x hx => smallN_sm (hs x hx)
  have hpr := c_dPrune ⟨l, p⟩ (upTo l.length) hs (by dsimp only; omega) (by rw [upTo_length]; omega)
  have hna := c_dNeeded ⟨l, p⟩ keep hs (by dsimp only; omega) (by omega)
  have hnb := c_dNeeded ⟨l, p⟩ (keep ++ [more]) hs (by dsimp only; omega) (by simp; omega)
  rw [own_all (rowZ (upTo l.length))] at hpr
  rw [own_all (rowZ (keep ++ [more]))] at hnb
  have hul := upTo_length l.length
  refine vcall_of TOK_DeadAll HM Go.Proofs.Tryd.func3 rfl (by decide +kernel) (by decide +kernel) rfl ?_
  repeat' ((conv => whnf); first | ((with_reducible apply Xq); assumption) | (with_reducible first | apply Xa | (first | apply xi | apply xp | apply xP); omega | apply Xe | refine Xg (by assumption) ?_) | refine Xo (by assumption) ?_ | refine x_0 (by first | assumption | rfl) ?_ | refine x_1 (by first | assumption | rfl) ?_ | refine Or.inl ⟨rfl, ?_⟩ | (split <;> (first | (rename_i u h; clear u) | rename_i h) <;> (try rewrite [h]) <;> (first | replace h := dt h | replace h := df h | replace h := Nt h | replace h := Nf h | skip) <;> (try dsimp only at h) <;> (first | contradiction | (exfalso; omega) | skip)) | (refine Or.inl ⟨_, by assumption, ?_⟩; first | rintro _ rfl | skip))
  refine ⟨[1, 2, 3, 7, 27, 28, 29], [0], fun m st => ∃ i : Nat, i ≤ l.length ∧ m = l.length - i ∧ ((i = 0 ∧ st = ⟨[(1, .ro 1 (rowZ keep)), (2, .int .i64 more), (3, .bptr 0 0), (7, .nils), (27, .ro 8 (rowN l)), (28, .int .i64 ((rowN l).length : Nat)), (29, .int .i64 (i : Nat))], [.box 24 [.ro 8 (rowN l), .int .i64 p]]⟩) ∨ (0 < i ∧ st = ⟨[(1, .ro 1 (rowZ keep)), (2, .int .i64 more), (3, .bptr 0 0), (7, .own 1 0 (rowZ (upTo i)).length), (27, .ro 8 (rowN l)), (28, .int .i64 ((rowN l).length : Nat)), (29, .int .i64 (i : Nat))], [.box 24 [.ro 8 (rowN l), .int .i64 p], .row false 3 1 (rowZ (upTo i))]⟩)), rfl, ⟨l.length, 0, by omega, rfl, .inl ⟨rfl, rfl⟩⟩, ?_⟩
  rintro m _ ⟨i, hi, hm, hst⟩
  have hui := rowZ_length (upTo i)
  rw [upTo_length] at hui
  rcases Nat.lt_or_ge i l.length with hil | hge
  · rcases hst with ⟨rfl, rfl⟩ | ⟨h0, rfl⟩
    · repeat' ((conv => whnf); first | ((with_reducible apply Xq); assumption) | (with_reducible first | apply Xa | (first | apply xi | apply xp | apply xP); omega | apply Xe | refine Xg (by assumption) ?_) | refine Xo (by assumption) ?_ | refine x_0 (by first | assumption | rfl) ?_ | refine x_1 (by first | assumption | rfl) ?_ | refine Or.inl ⟨rfl, ?_⟩ | (split <;> (first | (rename_i u h; clear u) | rename_i h) <;> (try rewrite [h]) <;> (first | replace h := dt h | replace h := df h | replace h := Nt h | replace h := Nf h | skip) <;> (try dsimp only at h) <;> (first | contradiction | (exfalso; omega) | skip)) | (refine Or.inl ⟨_, by assumption, ?_⟩; first | rintro _ rfl | skip))
      conv => whnf
      refine ⟨Nat.le_of_ble_eq_true rfl, fun h => Nat.succ_ne_zero _ (congrArg List.length h), ?_⟩
      repeat' ((conv => whnf); first | ((with_reducible apply Xq); assumption) | (with_reducible first | apply Xa | (first | apply xi | apply xp | apply xP); omega | apply Xe | refine Xg (by assumption) ?_) | refine Xo (by assumption) ?_ | refine x_0 (by first | assumption | rfl) ?_ | refine x_1 (by first | assumption | rfl) ?_ | refine Or.inl ⟨rfl, ?_⟩ | (split <;> (first | (rename_i u h; clear u) | rename_i h) <;> (try rewrite [h]) <;> (first | replace h := dt h | replace h := df h | replace h := Nt h | replace h := Nf h | skip) <;> (try dsimp only at h) <;> (first | contradiction | (exfalso; omega) | skip)) | (refine Or.inl ⟨_, by assumption, ?_⟩; first | rintro _ rfl | skip))
      exact ⟨[0, 2], l.length - (0 + 1), rfl, by omega, 0 + 1, by omega, rfl, .inr ⟨by omega, rfl⟩⟩
    · repeat' ((conv => whnf); first | ((with_reducible apply Xq); assumption) | (with_reducible first | apply Xa | (first | apply xi | apply xp | apply xP); omega | apply Xe | refine Xg (by assumption) ?_) | refine Xo (by assumption) ?_ | refine x_0 (by first | assumption | rfl) ?_ | refine x_1 (by first | assumption | rfl) ?_ | refine Or.inl ⟨rfl, ?_⟩ | (split <;> (first | (rename_i u h; clear u) | rename_i h) <;> (try rewrite [h]) <;> (first | replace h := dt h | replace h := df h | replace h := Nt h | replace h := Nf h | skip) <;> (try dsimp only at h) <;> (first | contradiction | (exfalso; omega) | skip)) | (refine Or.inl ⟨_, by assumption, ?_⟩; first | rintro _ rfl | skip))
      refine ⟨Nat.le_refl _, (show ((rowZ (upTo i)).length + 1) * 8 ≤ 140737488355328 by omega), rowZ (upTo (i + 1)), (by rw [upTo_succ]; exact rowZ_snoc (upTo i) _), ?_⟩
      repeat' ((conv => whnf); first | ((with_reducible apply Xq); assumption) | (with_reducible first | apply Xa | (first | apply xi | apply xp | apply xP); omega | apply Xe | refine Xg (by assumption) ?_) | refine Xo (by assumption) ?_ | refine x_0 (by first | assumption | rfl) ?_ | refine x_1 (by first | assumption | rfl) ?_ | refine Or.inl ⟨rfl, ?_⟩ | (split <;> (first | (rename_i u h; clear u) | rename_i h) <;> (try rewrite [h]) <;> (first | replace h := dt h | replace h := df h | replace h := Nt h | replace h := Nf h | skip) <;> (try dsimp only at h) <;> (first | contradiction | (exfalso; omega) | skip)) | (refine Or.inl ⟨_, by assumption, ?_⟩; first | rintro _ rfl | skip))
      exact ⟨[0, 3], l.length - (i + 1), rfl, by omega, i + 1, by omega, rfl, .inr ⟨by omega, rfl⟩⟩
  have hi2 : i = l.length := by omega
  subst hi2
  cases hg : grOK ⟨l, p⟩
  · have e1 : ∀ k, okDead ⟨l, p⟩ k = false := fun k => by rw [okDead, hg]; rfl
    rw [e1, if_neg (by simp)] at hpr hna hnb
    rcases hst with ⟨h0, rfl⟩ | ⟨h0, rfl⟩
    · obtain rfl := List.length_eq_zero_iff.1 h0
      repeat' ((conv => whnf); first | ((with_reducible apply Xq); assumption) | (with_reducible first | apply Xa | (first | apply xi | apply xp | apply xP); omega | apply Xe | refine Xg (by assumption) ?_) | refine Xo (by assumption) ?_ | refine x_0 (by first | assumption | rfl) ?_ | refine x_1 (by first | assumption | rfl) ?_ | refine Or.inl ⟨rfl, ?_⟩ | (split <;> (first | (rename_i u h; clear u) | rename_i h) <;> (try rewrite [h]) <;> (first | replace h := dt h | replace h := df h | replace h := Nt h | replace h := Nf h | skip) <;> (try dsimp only at h) <;> (first | contradiction | (exfalso; omega) | skip)) | (refine Or.inl ⟨_, by assumption, ?_⟩; first | rintro _ rfl | skip))
      refine ⟨by decide +kernel, [0, 0, 0, 6, 0, 16, 62, 127, 255, 511, 511, 1023, 4095], by decide +kernel, ?_⟩
      repeat' ((conv => whnf); first | ((with_reducible apply Xq); assumption) | (with_reducible first | apply Xa | (first | apply xi | apply xp | apply xP); omega | apply Xe | refine Xg (by assumption) ?_) | refine Xo (by assumption) ?_ | refine x_0 (by first | assumption | rfl) ?_ | refine x_1 (by first | assumption | rfl) ?_ | refine Or.inl ⟨rfl, ?_⟩ | (split <;> (first | (rename_i u h; clear u) | rename_i h) <;> (try rewrite [h]) <;> (first | replace h := dt h | replace h := df h | replace h := Nt h | replace h := Nf h | skip) <;> (try dsimp only at h) <;> (first | contradiction | (exfalso; omega) | skip)) | (refine Or.inl ⟨_, by assumption, ?_⟩; first | rintro _ rfl | skip))
      refine ⟨Nat.le_refl _, (show (0 + (rowZ keep).length) * 8 ≤ 140737488355328 by omega), rowZ keep, rfl, ?_⟩
      repeat' ((conv => whnf); first | ((with_reducible apply Xq); assumption) | (with_reducible first | apply Xa | (first | apply xi | apply xp | apply xP); omega | apply Xe | refine Xg (by assumption) ?_) | refine Xo (by assumption) ?_ | refine x_0 (by first | assumption | rfl) ?_ | refine x_1 (by first | assumption | rfl) ?_ | refine Or.inl ⟨rfl, ?_⟩ | (split <;> (first | (rename_i u h; clear u) | rename_i h) <;> (try rewrite [h]) <;> (first | replace h := dt h | replace h := df h | replace h := Nt h | replace h := Nf h | skip) <;> (try dsimp only at h) <;> (first | contradiction | (exfalso; omega) | skip)) | (refine Or.inl ⟨_, by assumption, ?_⟩; first | rintro _ rfl | skip))
      refine ⟨Nat.le_refl _, (show ((rowZ keep).length + 1) * 8 ≤ 140737488355328 by omega), _, rowZ_snoc keep more, ?_⟩
      repeat' ((conv => whnf); first | ((with_reducible apply Xq); assumption) | (with_reducible first | apply Xa | (first | apply xi | apply xp | apply xP); omega | apply Xe | refine Xg (by assumption) ?_) | refine Xo (by assumption) ?_ | refine x_0 (by first | assumption | rfl) ?_ | refine x_1 (by first | assumption | rfl) ?_ | refine Or.inl ⟨rfl, ?_⟩ | (split <;> (first | (rename_i u h; clear u) | rename_i h) <;> (try rewrite [h]) <;> (first | replace h := dt h | replace h := df h | replace h := Nt h | replace h := Nf h | skip) <;> (try dsimp only at h) <;> (first | contradiction | (exfalso; omega) | skip)) | (refine Or.inl ⟨_, by assumption, ?_⟩; first | rintro _ rfl | skip))
      all_goals (conv => whnf)
      all_goals rfl
    · repeat' ((conv => whnf); first | ((with_reducible apply Xq); assumption) | (with_reducible first | apply Xa | (first | apply xi | apply xp | apply xP); omega | apply Xe | refine Xg (by assumption) ?_) | refine Xo (by assumption) ?_ | refine x_0 (by first | assumption | rfl) ?_ | refine x_1 (by first | assumption | rfl) ?_ | refine Or.inl ⟨rfl, ?_⟩ | (split <;> (first | (rename_i u h; clear u) | rename_i h) <;> (try rewrite [h]) <;> (first | replace h := dt h | replace h := df h | replace h := Nt h | replace h := Nf h | skip) <;> (try dsimp only at h) <;> (first | contradiction | (exfalso; omega) | skip)) | (refine Or.inl ⟨_, by assumption, ?_⟩; first | rintro _ rfl | skip))
      refine ⟨by decide +kernel, [0, 0, 0, 6, 0, 16, 62, 127, 255, 511, 511, 1023, 4095], by decide +kernel, ?_⟩
      repeat' ((conv => whnf); first | ((with_reducible apply Xq); assumption) | (with_reducible first | apply Xa | (first | apply xi | apply xp | apply xP); omega | apply Xe | refine Xg (by assumption) ?_) | refine Xo (by assumption) ?_ | refine x_0 (by first | assumption | rfl) ?_ | refine x_1 (by first | assumption | rfl) ?_ | refine Or.inl ⟨rfl, ?_⟩ | (split <;> (first | (rename_i u h; clear u) | rename_i h) <;> (try rewrite [h]) <;> (first | replace h := dt h | replace h := df h | replace h := Nt h | replace h := Nf h | skip) <;> (try dsimp only at h) <;> (first | contradiction | (exfalso; omega) | skip)) | (refine Or.inl ⟨_, by assumption, ?_⟩; first | rintro _ rfl | skip))
      refine ⟨Nat.le_refl _, (show (0 + (rowZ keep).length) * 8 ≤ 140737488355328 by omega), rowZ keep, rfl, ?_⟩
      repeat' ((conv => whnf); first | ((with_reducible apply Xq); assumption) | (with_reducible first | apply Xa | (first | apply xi | apply xp | apply xP); omega | apply Xe | refine Xg (by assumption) ?_) | refine Xo (by assumption) ?_ | refine x_0 (by first | assumption | rfl) ?_ | refine x_1 (by first | assumption | rfl) ?_ | refine Or.inl ⟨rfl, ?_⟩ | (split <;> (first | (rename_i u h; clear u) | rename_i h) <;> (try rewrite [h]) <;> (first | replace h := dt h | replace h := df h | replace h := Nt h | replace h := Nf h | skip) <;> (try dsimp only at h) <;> (first | contradiction | (exfalso; omega) | skip)) | (refine Or.inl ⟨_, by assumption, ?_⟩; first | rintro _ rfl | skip))
      refine ⟨Nat.le_refl _, (show ((rowZ keep).length + 1) * 8 ≤ 140737488355328 by omega), _, rowZ_snoc keep more, ?_⟩
      repeat' ((conv => whnf); first | ((with_reducible apply Xq); assumption) | (with_reducible first | apply Xa | (first | apply xi | apply xp | apply xP); omega | apply Xe | refine Xg (by assumption) ?_) | refine Xo (by assumption) ?_ | refine x_0 (by first | assumption | rfl) ?_ | refine x_1 (by first | assumption | rfl) ?_ | refine Or.inl ⟨rfl, ?_⟩ | (split <;> (first | (rename_i u h; clear u) | rename_i h) <;> (try rewrite [h]) <;> (first | replace h := dt h | replace h := df h | replace h := Nt h | replace h := Nf h | skip) <;> (try dsimp only at h) <;> (first | contradiction | (exfalso; omega) | skip)) | (refine Or.inl ⟨_, by assumption, ?_⟩; first | rintro _ rfl | skip))
      all_goals (conv => whnf)
      all_goals rfl
  rcases hst with ⟨h0, rfl⟩ | ⟨h0, rfl⟩
  · have := (ok_pre hg).1
    dsimp only at this
    omega
  have e1 : okDead ⟨l, p⟩ (upTo l.length) = true := by rw [okDead, hg, show keepOK ⟨l, p⟩ (upTo l.length) = true from keep_all ⟨l, p⟩]; rfl
  rw [e1, if_pos rfl, show pruneG ⟨l, p⟩ (NB ⟨l, p⟩ (upTo l.length)) = (⟨l, p⟩, upTo l.length) from pruneG_all hg (NB_all ⟨l, p⟩)] at hpr
  dsimp only at hpr
  have heq := c_r10_Equal GL ⟨l, p⟩ ⟨l, p⟩ hs hs (by dsimp only; omega)
  rw [decide_eq_true rfl] at heq
  have hsame := c_r04_Same GL (upTo l.length) (upTo l.length) (by omega) (by omega)
  rw [decide_eq_true rfl] at hsame
  have hsame2 := hsame
  rw [own_all (rowZ (upTo l.length))] at hsame2
  have hsame3 : VCall Go.Proofs.Tryd.prog GL 10 [.ro 1 (rowZ (upTo l.length)), .ro 1 (List.take (rowZ (upTo l.length)).length (List.drop 0 (rowZ (upTo l.length))))] (fun x => x = .bool true) := by rw [← own_all]; exact hsame
  clear hsame2
  obtain ⟨c0, cs0, hc0⟩ : ∃ c cs, rowN l = c :: cs := List.exists_cons_of_length_pos (by omega)
  have hpr2 := hpr.mono (R' := fun y => y = .tup [.agg [.ro 8 (c0 :: cs0), .int .i64 p], .ro 1 (rowZ (upTo l.length)), .int .i64 0]) fun y hy => by
    rw [hy, ← hc0]; rfl
  have heq2 : VCall Go.Proofs.Tryd.prog GL 9 [.agg [.ro 8 (c0 :: cs0), .int .i64 p], .agg [.ro 8 (rowN l), .int .i64 p]] (fun x => x = .bool true) := by rw [← hc0]; exact heq
  clear hpr heq
  cases hk : keepOK ⟨l, p⟩ keep
  · have e2 : okDead ⟨l, p⟩ keep = false := by rw [okDead, hg, hk]; rfl
    have e3 : okDead ⟨l, p⟩ (keep ++ [more]) = false := by rw [okDead, hg, keep_more, hk]; rfl
    rw [e2, if_neg (by simp)] at hna
    rw [e3, if_neg (by simp)] at hnb
    repeat' ((conv => whnf); first | ((with_reducible apply Xq); assumption) | (with_reducible first | apply Xa | (first | apply xi | apply xp | apply xP); omega | apply Xe | refine Xg (by assumption) ?_) | refine Xo (by assumption) ?_ | refine x_0 (by first | assumption | rfl) ?_ | refine x_1 (by first | assumption | rfl) ?_ | refine Or.inl ⟨rfl, ?_⟩ | (split <;> (first | (rename_i u h; clear u) | rename_i h) <;> (try rewrite [h]) <;> (first | replace h := dt h | replace h := df h | replace h := Nt h | replace h := Nf h | skip) <;> (try dsimp only at h) <;> (first | contradiction | (exfalso; omega) | skip)) | (refine Or.inl ⟨_, by assumption, ?_⟩; first | rintro _ rfl | skip))
    refine ⟨by decide +kernel, [0, 0, 0, 6, 0, 16, 62, 127, 255, 511, 511, 1023, 4095], by decide +kernel, ?_⟩
    repeat' ((conv => whnf); first | ((with_reducible apply Xq); assumption) | (with_reducible first | apply Xa | (first | apply xi | apply xp | apply xP); omega | apply Xe | refine Xg (by assumption) ?_) | refine Xo (by assumption) ?_ | refine x_0 (by first | assumption | rfl) ?_ | refine x_1 (by first | assumption | rfl) ?_ | refine Or.inl ⟨rfl, ?_⟩ | (split <;> (first | (rename_i u h; clear u) | rename_i h) <;> (try rewrite [h]) <;> (first | replace h := dt h | replace h := df h | replace h := Nt h | replace h := Nf h | skip) <;> (try dsimp only at h) <;> (first | contradiction | (exfalso; omega) | skip)) | (refine Or.inl ⟨_, by assumption, ?_⟩; first | rintro _ rfl | skip))
    refine ⟨Nat.le_refl _, (show (0 + (rowZ keep).length) * 8 ≤ 140737488355328 by omega), rowZ keep, rfl, ?_⟩
    repeat' ((conv => whnf); first | ((with_reducible apply Xq); assumption) | (with_reducible first | apply Xa | (first | apply xi | apply xp | apply xP); omega | apply Xe | refine Xg (by assumption) ?_) | refine Xo (by assumption) ?_ | refine x_0 (by first | assumption | rfl) ?_ | refine x_1 (by first | assumption | rfl) ?_ | refine Or.inl ⟨rfl, ?_⟩ | (split <;> (first | (rename_i u h; clear u) | rename_i h) <;> (try rewrite [h]) <;> (first | replace h := dt h | replace h := df h | replace h := Nt h | replace h := Nf h | skip) <;> (try dsimp only at h) <;> (first | contradiction | (exfalso; omega) | skip)) | (refine Or.inl ⟨_, by assumption, ?_⟩; first | rintro _ rfl | skip))
    refine ⟨Nat.le_refl _, (show ((rowZ keep).length + 1) * 8 ≤ 140737488355328 by omega), _, rowZ_snoc keep more, ?_⟩
    repeat' ((conv => whnf); first | ((with_reducible apply Xq); assumption) | (with_reducible first | apply Xa | (first | apply xi | apply xp | apply xP); omega | apply Xe | refine Xg (by assumption) ?_) | refine Xo (by assumption) ?_ | refine x_0 (by first | assumption | rfl) ?_ | refine x_1 (by first | assumption | rfl) ?_ | refine Or.inl ⟨rfl, ?_⟩ | (split <;> (first | (rename_i u h; clear u) | rename_i h) <;> (try rewrite [h]) <;> (first | replace h := dt h | replace h := df h | replace h := Nt h | replace h := Nf h | skip) <;> (try dsimp only at h) <;> (first | contradiction | (exfalso; omega) | skip)) | (refine Or.inl ⟨_, by assumption, ?_⟩; first | rintro _ rfl | skip))
    all_goals (conv => whnf)
    all_goals rfl
  have e2 : okDead ⟨l, p⟩ keep = true := by rw [okDead, hg, hk]; rfl
  rw [e2, if_pos rfl] at hna
  cases hk2 : keepOK ⟨l, p⟩ (keep ++ [more])
  · have e3 : okDead ⟨l, p⟩ (keep ++ [more]) = false := by rw [okDead, hg, hk2]; rfl
    rw [e3, if_neg (by simp)] at hnb
    repeat' ((conv => whnf); first | ((with_reducible apply Xq); assumption) | (with_reducible first | apply Xa | (first | apply xi | apply xp | apply xP); omega | apply Xe | refine Xg (by assumption) ?_) | refine Xo (by assumption) ?_ | refine x_0 (by first | assumption | rfl) ?_ | refine x_1 (by first | assumption | rfl) ?_ | refine Or.inl ⟨rfl, ?_⟩ | (split <;> (first | (rename_i u h; clear u) | rename_i h) <;> (try rewrite [h]) <;> (first | replace h := dt h | replace h := df h | replace h := Nt h | replace h := Nf h | skip) <;> (try dsimp only at h) <;> (first | contradiction | (exfalso; omega) | skip)) | (refine Or.inl ⟨_, by assumption, ?_⟩; first | rintro _ rfl | skip))
    refine ⟨by decide +kernel, [0, 0, 0, 6, 0, 16, 62, 127, 255, 511, 511, 1023, 4095], by decide +kernel, ?_⟩
    repeat' ((conv => whnf); first | ((with_reducible apply Xq); assumption) | (with_reducible first | apply Xa | (first | apply xi | apply xp | apply xP); omega | apply Xe | refine Xg (by assumption) ?_) | refine Xo (by assumption) ?_ | refine x_0 (by first | assumption | rfl) ?_ | refine x_1 (by first | assumption | rfl) ?_ | refine Or.inl ⟨rfl, ?_⟩ | (split <;> (first | (rename_i u h; clear u) | rename_i h) <;> (try rewrite [h]) <;> (first | replace h := dt h | replace h := df h | replace h := Nt h | replace h := Nf h | skip) <;> (try dsimp only at h) <;> (first | contradiction | (exfalso; omega) | skip)) | (refine Or.inl ⟨_, by assumption, ?_⟩; first | rintro _ rfl | skip))
    refine ⟨Nat.le_refl _, (show (0 + (rowZ keep).length) * 8 ≤ 140737488355328 by omega), rowZ keep, rfl, ?_⟩
    repeat' ((conv => whnf); first | ((with_reducible apply Xq); assumption) | (with_reducible first | apply Xa | (first | apply xi | apply xp | apply xP); omega | apply Xe | refine Xg (by assumption) ?_) | refine Xo (by assumption) ?_ | refine x_0 (by first | assumption | rfl) ?_ | refine x_1 (by first | assumption | rfl) ?_ | refine Or.inl ⟨rfl, ?_⟩ | (split <;> (first | (rename_i u h; clear u) | rename_i h) <;> (try rewrite [h]) <;> (first | replace h := dt h | replace h := df h | replace h := Nt h | replace h := Nf h | skip) <;> (try dsimp only at h) <;> (first | contradiction | (exfalso; omega) | skip)) | (refine Or.inl ⟨_, by assumption, ?_⟩; first | rintro _ rfl | skip))
    refine ⟨Nat.le_refl _, (show ((rowZ keep).length + 1) * 8 ≤ 140737488355328 by omega), _, rowZ_snoc keep more, ?_⟩
    repeat' ((conv => whnf); first | ((with_reducible apply Xq); assumption) | (with_reducible first | apply Xa | (first | apply xi | apply xp | apply xP); omega | apply Xe | refine Xg (by assumption) ?_) | refine Xo (by assumption) ?_ | refine x_0 (by first | assumption | rfl) ?_ | refine x_1 (by first | assumption | rfl) ?_ | refine Or.inl ⟨rfl, ?_⟩ | (split <;> (first | (rename_i u h; clear u) | rename_i h) <;> (try rewrite [h]) <;> (first | replace h := dt h | replace h := df h | replace h := Nt h | replace h := Nf h | skip) <;> (try dsimp only at h) <;> (first | contradiction | (exfalso; omega) | skip)) | (refine Or.inl ⟨_, by assumption, ?_⟩; first | rintro _ rfl | skip))
    all_goals (conv => whnf)
    all_goals rfl
  have e3 : okDead ⟨l, p⟩ (keep ++ [more]) = true := by rw [okDead, hg, hk2]; rfl
  rw [e3, if_pos rfl] at hnb
  obtain ⟨k, hmk, hkl2⟩ := keepOK_get hk2 (x := more) (by simp)
  have hmono : ∀ j, NB ⟨l, p⟩ keep j = true → NB ⟨l, p⟩ (keep ++ [more]) j = true := fun j h => NB_iff.2 (need_mono (NB_iff.1 h))
  have hNk : NB ⟨l, p⟩ (keep ++ [more]) k = true := NB_iff.2 (.keep (by rw [hmk]; simp))
  generalize NB ⟨l, p⟩ keep = N1 at hna hmono
  generalize NB ⟨l, p⟩ (keep ++ [more]) = N2 at hnb hmono hNk
  clear e1 e2 e3 hk hk2 hg
  dsimp only at hna hnb hkl2
  subst hmk
  obtain ⟨c2, cs2, hc2⟩ : ∃ c cs, fB l.length N2 = c :: cs := List.exists_cons_of_length_pos (by rw [fB_length]; omega)
  have hnb2 := hnb.mono (R' := fun y => y = .tup [.ro 1 (c2 :: cs2), .int .i64 0]) fun y hy => by rw [hy, ← hc2]
  have gk : (c2 :: cs2)[k]? = some [.bool true] := by rw [← hc2, fB_get hkl2, hNk]
  have hf1 := fB_length l.length N1
  have hf2 := fB_length l.length N2
  rw [hc2] at hf2
  clear hnb
  repeat' ((conv => whnf); first | ((with_reducible apply Xq); assumption) | (with_reducible first | apply Xa | (first | apply xi | apply xp | apply xP); omega | apply Xe | refine Xg (by assumption) ?_) | refine Xo (by assumption) ?_ | refine x_0 (by first | assumption | rfl) ?_ | refine x_1 (by first | assumption | rfl) ?_ | refine Or.inl ⟨rfl, ?_⟩ | (split <;> (first | (rename_i u h; clear u) | rename_i h) <;> (try rewrite [h]) <;> (first | replace h := dt h | replace h := df h | replace h := Nt h | replace h := Nf h | skip) <;> (try dsimp only at h) <;> (first | contradiction | (exfalso; omega) | skip)) | (refine Or.inl ⟨_, by assumption, ?_⟩; first | rintro _ rfl | skip))
  refine ⟨by decide +kernel, [0, 0, 0, 6, 0, 16, 62, 127, 255, 511, 511, 1023, 4095], by decide +kernel, ?_⟩
  repeat' ((conv => whnf); first | ((with_reducible apply Xq); assumption) | (with_reducible first | apply Xa | (first | apply xi | apply xp | apply xP); omega | apply Xe | refine Xg (by assumption) ?_) | refine Xo (by assumption) ?_ | refine x_0 (by first | assumption | rfl) ?_ | refine x_1 (by first | assumption | rfl) ?_ | refine Or.inl ⟨rfl, ?_⟩ | (split <;> (first | (rename_i u h; clear u) | rename_i h) <;> (try rewrite [h]) <;> (first | replace h := dt h | replace h := df h | replace h := Nt h | replace h := Nf h | skip) <;> (try dsimp only at h) <;> (first | contradiction | (exfalso; omega) | skip)) | (refine Or.inl ⟨_, by assumption, ?_⟩; first | rintro _ rfl | skip))
  refine ⟨Nat.le_refl _, (show (0 + (rowZ keep).length) * 8 ≤ 140737488355328 by omega), rowZ keep, rfl, ?_⟩
  repeat' ((conv => whnf); first | ((with_reducible apply Xq); assumption) | (with_reducible first | apply Xa | (first | apply xi | apply xp | apply xP); omega | apply Xe | refine Xg (by assumption) ?_) | refine Xo (by assumption) ?_ | refine x_0 (by first | assumption | rfl) ?_ | refine x_1 (by first | assumption | rfl) ?_ | refine Or.inl ⟨rfl, ?_⟩ | (split <;> (first | (rename_i u h; clear u) | rename_i h) <;> (try rewrite [h]) <;> (first | replace h := dt h | replace h := df h | replace h := Nt h | replace h := Nf h | skip) <;> (try dsimp only at h) <;> (first | contradiction | (exfalso; omega) | skip)) | (refine Or.inl ⟨_, by assumption, ?_⟩; first | rintro _ rfl | skip))
  refine ⟨Nat.le_refl _, (show ((rowZ keep).length + 1) * 8 ≤ 140737488355328 by omega), _, rowZ_snoc keep (k : Nat), ?_⟩
  repeat' ((conv => whnf); first | ((with_reducible apply Xq); assumption) | (with_reducible first | apply Xa | (first | apply xi | apply xp | apply xP); omega | apply Xe | refine Xg (by assumption) ?_) | refine Xo (by assumption) ?_ | refine x_0 (by first | assumption | rfl) ?_ | refine x_1 (by first | assumption | rfl) ?_ | refine Or.inl ⟨rfl, ?_⟩ | (split <;> (first | (rename_i u h; clear u) | rename_i h) <;> (try rewrite [h]) <;> (first | replace h := dt h | replace h := df h | replace h := Nt h | replace h := Nf h | skip) <;> (try dsimp only at h) <;> (first | contradiction | (exfalso; omega) | skip)) | (refine Or.inl ⟨_, by assumption, ?_⟩; first | rintro _ rfl | skip))
  refine ⟨[2, 12, 14, 111, 112], [], fun m st => ∃ i : Nat, i ≤ l.length ∧ m = l.length - i ∧
    st = ⟨[(2, .int .i64 (k : Nat)), (12, .ro 1 (fB l.length N1)), (14, .ro 1 (c2 :: cs2)), (111, .int .i64 ((fB l.length N1).length : Nat)), (112, .int .i64 (i : Nat))], []⟩, rfl, ⟨l.length, 0, by omega, rfl, rfl⟩, ?_⟩
  rintro m2 _ ⟨i, hi, hm2, rfl⟩
  rcases Nat.lt_or_ge i l.length with hil | hge
  · have g1 : (fB l.length N1)[i]? = some [.bool (N1 i)] := fB_get hil
    have g2 : (c2 :: cs2)[i]? = some [.bool (N2 i)] := by rw [← hc2]; exact fB_get hil
    have hmi := hmono i
    cases hN : N1 i
    · rw [hN] at g1
      repeat' ((conv => whnf); first | ((with_reducible apply Xq); assumption) | (with_reducible first | apply Xa | (first | apply xi | apply xp | apply xP); omega | apply Xe | refine Xg (by assumption) ?_) | refine Xo (by assumption) ?_ | refine x_0 (by first | assumption | rfl) ?_ | refine x_1 (by first | assumption | rfl) ?_ | refine Or.inl ⟨rfl, ?_⟩ | (split <;> (first | (rename_i u h; clear u) | rename_i h) <;> (try rewrite [h]) <;> (first | replace h := dt h | replace h := df h | replace h := Nt h | replace h := Nf h | skip) <;> (try dsimp only at h) <;> (first | contradiction | (exfalso; omega) | skip)) | (refine Or.inl ⟨_, by assumption, ?_⟩; first | rintro _ rfl | skip))
      exact ⟨[], l.length - (i + 1), rfl, by omega, i + 1, by omega, rfl, rfl⟩
    · rw [hN] at g1
      rw [hmi hN] at g2
      repeat' ((conv => whnf); first | ((with_reducible apply Xq); assumption) | (with_reducible first | apply Xa | (first | apply xi | apply xp | apply xP); omega | apply Xe | refine Xg (by assumption) ?_) | refine Xo (by assumption) ?_ | refine x_0 (by first | assumption | rfl) ?_ | refine x_1 (by first | assumption | rfl) ?_ | refine Or.inl ⟨rfl, ?_⟩ | (split <;> (first | (rename_i u h; clear u) | rename_i h) <;> (try rewrite [h]) <;> (first | replace h := dt h | replace h := df h | replace h := Nt h | replace h := Nf h | skip) <;> (try dsimp only at h) <;> (first | contradiction | (exfalso; omega) | skip)) | (refine Or.inl ⟨_, by assumption, ?_⟩; first | rintro _ rfl | skip))
      exact ⟨[], l.length - (i + 1), rfl, by omega, i + 1, by omega, rfl, rfl⟩
  · repeat' ((conv => whnf); first | ((with_reducible apply Xq); assumption) | (with_reducible first | apply Xa | (first | apply xi | apply xp | apply xP); omega | apply Xe | refine Xg (by assumption) ?_) | refine Xo (by assumption) ?_ | refine x_0 (by first | assumption | rfl) ?_ | refine x_1 (by first | assumption | rfl) ?_ | refine Or.inl ⟨rfl, ?_⟩ | (split <;> (first | (rename_i u h; clear u) | rename_i h) <;> (try rewrite [h]) <;> (first | replace h := dt h | replace h := df h | replace h := Nt h | replace h := Nf h | skip) <;> (try dsimp only at h) <;> (first | contradiction | (exfalso; omega) | skip)) | (refine Or.inl ⟨_, by assumption, ?_⟩; first | rintro _ rfl | skip))
    all_goals (conv => whnf)
    all_goals rfl
end Go.V
namespace Go.V
open Go.N
set_option maxRecDepth 20000
def T_DeadFew : Tab := [(24, ⟨.strc [(0, 1, false), (1, 1, false)], 2, 32, (.agg #[(.slice none 0 0), (.int .i64 0)]), [8, 0]⟩), (4, ⟨.bool, 1, 1, (.bool false), [0]⟩), (22, ⟨.slice 39, 1, 24, (.slice none 0 0), [8]⟩), (39, ⟨.strc [(0, 1, false), (1, 1, false), (2, 1, false), (3, 1, false), (4, 1, false), (5, 1, false), (6, 1, false), (7, 1, false)], 8, 120, (.agg #[(.string .empty), (.int .i64 0), (.int .i64 0), (.string .empty), (.slice none 0 0), (.string .empty), (.int .i64 0), (.slice none 0 0)]), [0, 0, 0, 0, 1, 0, 0, 1]⟩), (3, ⟨.int .i64, 1, 8, (.int .i64 0), [0]⟩), (25, ⟨.slice 3, 1, 24, (.slice none 0 0), [1]⟩), (28, ⟨.int .i64, 1, 8, (.int .i64 0), [0]⟩), (31, ⟨.slice 4, 1, 24, (.slice none 0 0), [1]⟩), (37, ⟨.slice 9, 1, 24, (.slice none 0 0), [1]⟩), (9, ⟨.str, 1, 16, (.string .empty), [0]⟩)]
theorem TOK_DeadFew : TOK Go.Proofs.Tryd.prog T_DeadFew := ⟨⟨info_of Go.Proofs.Tryd.type24 rfl, by decide +kernel, by decide +kernel⟩, ⟨⟨info_of Go.Proofs.Tryd.type4 rfl, by decide +kernel, by decide +kernel⟩, ⟨⟨info_of Go.Proofs.Tryd.type22 rfl, by decide +kernel, by decide +kernel⟩, ⟨⟨info_of Go.Proofs.Tryd.type39 rfl, by decide +kernel, by decide +kernel⟩, ⟨⟨info_of Go.Proofs.Tryd.type3 rfl, by decide +kernel, by decide +kernel⟩, ⟨⟨info_of Go.Proofs.Tryd.type25 rfl, by decide +kernel, by decide +kernel⟩, ⟨⟨info_of Go.Proofs.Tryd.type28 rfl, by decide +kernel, by decide +kernel⟩, ⟨⟨info_of Go.Proofs.Tryd.type31 rfl, by decide +kernel, by decide +kernel⟩, ⟨⟨info_of Go.Proofs.Tryd.type37 rfl, by decide +kernel, by decide +kernel⟩, ⟨⟨info_of Go.Proofs.Tryd.type9 rfl, by decide +kernel, by decide +kernel⟩, trivial⟩⟩⟩⟩⟩⟩⟩⟩⟩⟩
def countTo (N : Nat → Bool) : Nat → Nat
  | 0 => 0
  | i + 1 => countTo N i + (if N i = true then 1 else 0)
theorem countTo_le (N : Nat → Bool) : ∀ i, countTo N i ≤ i
  | 0 => Nat.le_refl _
  | i + 1 => by have := countTo_le N i; unfold countTo; split <;> omega
theorem prune_cnt {l : List Nd} {N : Nat → Bool} : ∀ i, i ≤ l.length → (pruneTo l N i).2.length = countTo N i
  | 0, _ => rfl
  | i + 1, h => by
    have ih := prune_cnt (l := l) (N := N) i (by omega)
    have hx : l[i]? = some l[i] := List.getElem?_eq_getElem (by omega)
    cases hN : N i with
    | true => rw [prune_yes (Prod.eta _).symm hx hN]; simp [countTo, hN, ih]
    | false => rw [prune_no (Prod.eta _).symm hx hN]; simp [countTo, hN, ih]
theorem prune_sign {l : List Nd} {N : Nat → Bool} : ∀ i, i ≤ l.length → ∀ j v, (pruneTo l N i).1[j]? = some v → decide (0 ≤ v) = N j
  | 0, _, j, v, h => by simp [pruneTo] at h
  | i + 1, h, j, v, hj => by
    have ih := prune_sign (l := l) (N := N) i (by omega) j v
    have hx : l[i]? = some l[i] := List.getElem?_eq_getElem (by omega)
    have hl := (prune_len (l := l) (N := N) (i := i) (by omega)).1
    have key : ∀ w : Int, ((pruneTo l N i).1 ++ [w])[j]? = some v → (decide (0 ≤ w) = N i) → decide (0 ≤ v) = N j := fun w hw hwN => by
      by_cases hji : j < i
      · rw [List.getElem?_append_left (by omega)] at hw; exact ih hw
      · rw [List.getElem?_append_right (by omega), hl] at hw
        have : j - i = 0 := by
          have := (List.getElem?_eq_some_iff.1 hw).1
          simpa using this
        rw [this] at hw
        have e : j = i := by omega
        subst e
        simp at hw; subst hw; exact hwN
    cases hN : N i with
    | true => rw [prune_yes (Prod.eta _).symm hx hN] at hj; exact key _ hj (by rw [hN]; simp)
    | false => rw [prune_no (Prod.eta _).symm hx hN] at hj; exact key _ hj (by rw [hN]; simp)
def nd1 : Nd := ⟨sConst, 0, 0, ⟨#[]⟩, [], ⟨#[]⟩, 0, [⟨#[49]⟩]⟩
def moreG (g : Gr) : Gr := ⟨g.nodes ++ [nd1], g.loss⟩
theorem one_ok : ratOK ⟨#[49]⟩ = true := by decide +kernel
theorem infer_nd1 (l : List Nd) : inferN l nd1 = some [] := by
  have hf : fitN l nd1 0 = true := (fit_iff _ _ _).2 ⟨fun _ => rfl, fun _ => rfl, fun h => absurd h (by decide), fun _ => rfl, fun _ => rfl, fun _ => rfl, fun h => absurd rfl h, fun h => absurd h (by decide), fun h => absurd h (by decide)⟩
  rw [inferN_ok (show opParts nd1.op = some 0 from rfl) hf]
  have e : ofZ nd1 (if 0 = 0 then [] else shAt l nd1.a) (if 0 < 2 then [] else shAt l nd1.b) = ([], decide ((1 : Int) = sizeZ []) && !((nd1.data).any fun d => !ratOK d)) := rfl
  rw [e, show (nd1.data).any (fun d => !ratOK d) = false by simp [nd1, one_ok], show decide ((1 : Int) = sizeZ []) = true by decide +kernel]
  rfl
theorem more_get {l : List Nd} {x : Nd} {k : Nat} (h : k < l.length) : (l ++ [x])[k]? = l[k]? := List.getElem?_append_left h
theorem ndAt_more {l : List Nd} {x : Nd} {k : Nat} (h : k < l.length) : ndAt (l ++ [x]) k = ndAt l k := by
  rw [ndAt, ndAt, more_get h, List.take_append_of_le_length (by omega)]
theorem allTo_more {l : List Nd} {x : Nd} : ∀ k, k ≤ l.length → allTo (l ++ [x]) k = allTo l k
  | 0, _ => rfl
  | k + 1, h => by rw [allTo_succ, allTo_succ, allTo_more k (by omega), ndAt_more (by omega)]
theorem more_ok {g : Gr} (h : grOK g = true) (hl : g.nodes.length ≤ 100) : grOK (moreG g) = true := by
  obtain ⟨h1, h2, q, hq, hql⟩ := ok_pre h
  have h0 := h
  simp only [grOK, preG, Bool.and_eq_true, decide_eq_true_eq] at h ⊢
  obtain ⟨⟨⟨⟨a1, a2⟩, a3⟩, a4⟩, a5⟩ := h
  refine ⟨⟨⟨⟨by simp [moreG], by simp [moreG]; omega⟩, by simp [moreG, inR, hq]; omega⟩, ?_⟩, ?_⟩
  · rw [hq, shAt_nat hql] at a4
    have : q < (g.nodes ++ [nd1]).length := by simp; omega
    show shAt (g.nodes ++ [nd1]) g.loss = []
    rw [hq, shAt_nat this, List.getElem_append_left hql]; exact a4
  · show allTo (g.nodes ++ [nd1]) (g.nodes ++ [nd1]).length = true
    rw [List.length_append, List.length_singleton, allTo_succ, allTo_more _ (Nat.le_refl _), a5, Bool.true_and, ndAt, List.getElem?_append_right (Nat.le_refl _), Nat.sub_self]
    show ndOK (List.take g.nodes.length (g.nodes ++ [nd1])) nd1 = true
    rw [ndOK, infer_nd1, show nd1.shape = [] from rfl, decide_eq_true rfl, Bool.true_and, List.all_eq_true]
    intro y _; rfl
theorem more_keep {g : Gr} {keep : List Int} (h : keepOK g keep = true) : keepOK (moreG g) keep = true := by
  rw [keepOK, Bool.not_eq_true', List.any_eq_false]
  intro x hx
  obtain ⟨k, hk, hkl⟩ := keepOK_get h hx
  simp only [Bool.or_eq_true, decide_eq_true_eq, moreG, List.length_append, List.length_singleton]; omega
theorem uses_nd1 (j : Nat) : usesN nd1 j = false := by
  rw [usesN, show partsZ nd1.op = 0 from rfl]; rfl
theorem more_need {g : Gr} {keep : List Int} {j : Nat} (hj : j < g.nodes.length) : NeedP (moreG g) keep j ↔ NeedP g keep j := by
  constructor
  · intro h
    induction h with
    | loss h => exact .loss h
    | keep h => exact .keep h
    | @name i x h1 h2 => exact .name (by rw [← more_get hj]; exact h1) h2
    | @use i k x h1 h2 h3 _ ih =>
      by_cases hk : k < g.nodes.length
      · exact .use h1 (by rw [← more_get hk]; exact h2) h3 (ih hk)
      · have h2 : (g.nodes ++ [nd1])[k]? = some x := h2
        have hkl : k < (g.nodes ++ [nd1]).length := (List.getElem?_eq_some_iff.1 h2).1
        have : k = g.nodes.length := by simp at hkl; omega
        subst this
        rw [List.getElem?_append_right (Nat.le_refl _), Nat.sub_self] at h2
        simp at h2; subst h2
        rw [uses_nd1] at h3; cases h3
  · intro h
    have : ∀ {i}, NeedP g keep i → NeedP (moreG g) keep i := fun h => by
      induction h with
      | loss h => exact .loss h
      | keep h => exact .keep h
      | @name i x h1 h2 => exact .name (by show (g.nodes ++ [nd1])[i]? = some x; rw [more_get (List.getElem?_eq_some_iff.1 h1).1]; exact h1) h2
      | @use i k x h1 h2 h3 _ ih => exact .use h1 (by show (g.nodes ++ [nd1])[k]? = some x; rw [more_get (List.getElem?_eq_some_iff.1 h2).1]; exact h2) h3 ih
    exact this h
theorem more_last {g : Gr} {keep : List Int} (h : grOK g = true) (hk : keepOK g keep = true) : NB (moreG g) keep g.nodes.length = false := by
  obtain ⟨_, _, q, hq, hql⟩ := ok_pre h
  rw [Bool.eq_false_iff]
  intro hN
  have hN := NB_iff.1 hN
  have hx : (moreG g).nodes[g.nodes.length]? = some nd1 := by show (g.nodes ++ [nd1])[g.nodes.length]? = _; rw [List.getElem?_append_right (Nat.le_refl _), Nat.sub_self]; rfl
  rcases (need_iff hx).1 hN with (h1 | h1 | ⟨k, y, h1, h2, _, _⟩) | h1
  · have h1 : ((g.nodes.length : Nat) : Int) = g.loss := h1
    omega
  · obtain ⟨k, hk1, hk2⟩ := keepOK_get hk h1
    omega
  · have := (List.getElem?_eq_some_iff.1 h2).1
    simp [moreG] at this; omega
  · exact h1 rfl
theorem prune_more {l : List Nd} {x : Nd} {N N' : Nat → Bool} (hN : ∀ j, j < l.length → N' j = N j) : ∀ i, i ≤ l.length → pruneTo (l ++ [x]) N' i = pruneTo l N i
  | 0, _ => rfl
  | i + 1, h => by
    have hx : l[i]? = some l[i] := List.getElem?_eq_getElem (by omega)
    have hx2 : (l ++ [x])[i]? = some l[i] := by rw [more_get (by omega)]; exact hx
    have ih := prune_more (x := x) hN i (by omega)
    cases hNi : N i with
    | true => rw [prune_yes (Prod.eta _).symm hx hNi, prune_yes (Prod.eta _).symm hx2 (by rw [hN i (by omega), hNi]), ih]
    | false => rw [prune_no (Prod.eta _).symm hx hNi, prune_no (Prod.eta _).symm hx2 (by rw [hN i (by omega), hNi]), ih]
theorem more_prune {g : Gr} {keep : List Int} (h : grOK g = true) (hk : keepOK g keep = true) :
    pruneG (moreG g) (NB (moreG g) keep) = ((pruneG g (NB g keep)).1, (pruneG g (NB g keep)).2 ++ [-1]) := by
  obtain ⟨_, _, q, hq, hql⟩ := ok_pre h
  have hN : ∀ j, j < g.nodes.length → NB (moreG g) keep j = NB g keep j := fun j hj => by
    rw [Bool.eq_iff_iff, NB_iff, NB_iff]; exact more_need hj
  have h1 := prune_more (x := nd1) hN g.nodes.length (Nat.le_refl _)
  have h2 := prune_no (l := (moreG g).nodes) (i := g.nodes.length) (h1.trans (Prod.eta _).symm) (show (moreG g).nodes[g.nodes.length]? = some nd1 by show (g.nodes ++ [nd1])[g.nodes.length]? = _; rw [List.getElem?_append_right (Nat.le_refl _), Nat.sub_self]; rfl) (more_last h hk)
  have e : (moreG g).nodes.length = g.nodes.length + 1 := by simp [moreG]
  have hlen := (prune_len (l := g.nodes) (N := NB g keep) (Nat.le_refl _)).1
  rw [pruneG, e, h2, pruneG]
  dsimp only
  refine congrArg (fun z => ((⟨_, z⟩ : Gr), _)) ?_
  show atZ (_ ++ [-1]) g.loss = _
  rw [hq, atZ_nat (by simp; omega), atZ_nat (by omega), List.getElem_append_left (by omega)]
theorem asRoLL_refl1 {α : Type} {f : α → AV} (hf : ∀ a, AsRo (f a) (f a)) : ∀ l : List α, AsRoLL (l.map fun a => [f a]) (l.map fun a => [f a])
  | [] => rfl
  | a :: l => ⟨_, _, rfl, ⟨_, _, rfl, hf a, rfl⟩, asRoLL_refl1 hf l⟩
theorem asRo_cells (x : Nd) : AsRoL x.cells x.cells :=
  ⟨_, _, rfl, rfl, _, _, rfl, rfl, _, _, rfl, rfl, _, _, rfl, rfl, _, _, rfl, ⟨_, rfl, asRoLL_refl1 (f := fun z => AV.int .i64 z) (fun _ => rfl) _⟩, _, _, rfl, rfl, _, _, rfl, rfl, _, _, rfl, ⟨_, rfl, asRoLL_refl1 (f := AV.str) (fun _ => rfl) _⟩, rfl⟩
def cA : List AV := [.str sConst, .int .i64 0, .int .i64 0, .str ⟨#[]⟩, .nils, .str ⟨#[]⟩, .int .i64 0, .ro 1 [[.str ⟨#[49]⟩]]]
theorem cA_as : AsRoL cA nd1.cells :=
  ⟨_, _, rfl, rfl, _, _, rfl, rfl, _, _, rfl, rfl, _, _, rfl, rfl, _, _, rfl, .inr ⟨1, rfl⟩, _, _, rfl, rfl, _, _, rfl, rfl, _, _, rfl, ⟨_, rfl, _, _, rfl, ⟨_, _, rfl, rfl, rfl⟩, rfl⟩, rfl⟩
theorem asRo_more : ∀ l : List Nd, AsRoLL (rowN l ++ [cA]) (rowN (l ++ [nd1]))
  | [] => ⟨_, _, rfl, cA_as, rfl⟩
  | x :: l => ⟨_, _, rfl, asRo_cells x, asRo_more l⟩
open Classical in
set_option maxHeartbeats 8000000 in
theorem c_DeadFew (g : Gr) (keep : List Int) : VCall Go.Proofs.Tryd.prog GL 4 [.agg g.cells, .ro 1 (rowZ keep)] (fun r => r = .bool true) := by
  have haw := c_awake
  obtain ⟨l, p⟩ := g
  show VCall _ _ _ [.agg [.ro 8 (rowN l), .int .i64 p], .ro 1 (rowZ keep)] _
  have hsm := c_r10_Small GL ⟨l, p⟩
  have hlr := rowN_length l
  have hkr := rowZ_length keep
  cases hS : smallG ⟨l, p⟩
  · rw [hS] at hsm
    refine vcall_of TOK_DeadFew HM Go.Proofs.Tryd.func4 rfl (by decide +kernel) (by decide +kernel) rfl ?_
    repeat' ((conv => whnf); first | ((with_reducible apply Xq); assumption) | (with_reducible first | apply Xa | (first | apply xi | apply xp | apply xP); omega | apply Xe | refine Xg (by assumption) ?_) | refine Xo (by assumption) ?_ | refine x_0 (by first | assumption | rfl) ?_ | refine x_1 (by first | assumption | rfl) ?_ | refine Or.inl ⟨rfl, ?_⟩ | (split <;> (first | (rename_i u h; clear u) | rename_i h) <;> (try rewrite [h]) <;> (first | replace h := dt h | replace h := df h | replace h := Nt h | replace h := Nf h | skip) <;> (try dsimp only at h) <;> (first | contradiction | (exfalso; omega) | skip)) | (refine Or.inl ⟨_, by assumption, ?_⟩; first | rintro _ rfl | skip))
    all_goals (conv => whnf)
    all_goals rfl
  rw [hS] at hsm
  by_cases hl38 : l.length ≤ 38
  case neg =>
    refine vcall_of TOK_DeadFew HM Go.Proofs.Tryd.func4 rfl (by decide +kernel) (by decide +kernel) rfl ?_
    repeat' ((conv => whnf); first | ((with_reducible apply Xq); assumption) | (with_reducible first | apply Xa | (first | apply xi | apply xp | apply xP); omega | apply Xe | refine Xg (by assumption) ?_) | refine Xo (by assumption) ?_ | refine x_0 (by first | assumption | rfl) ?_ | refine x_1 (by first | assumption | rfl) ?_ | refine Or.inl ⟨rfl, ?_⟩ | (split <;> (first | (rename_i u h; clear u) | rename_i h) <;> (try rewrite [h]) <;> (first | replace h := dt h | replace h := df h | replace h := Nt h | replace h := Nf h | skip) <;> (try dsimp only at h) <;> (first | contradiction | (exfalso; omega) | skip)) | (refine Or.inl ⟨_, by assumption, ?_⟩; first | rintro _ rfl | skip))
    all_goals (conv => whnf)
    all_goals rfl
  by_cases hkl : keep.length ≤ 40
  case neg =>
    refine vcall_of TOK_DeadFew HM Go.Proofs.Tryd.func4 rfl (by decide +kernel) (by decide +kernel) rfl ?_
    repeat' ((conv => whnf); first | ((with_reducible apply Xq); assumption) | (with_reducible first | apply Xa | (first | apply xi | apply xp | apply xP); omega | apply Xe | refine Xg (by assumption) ?_) | refine Xo (by assumption) ?_ | refine x_0 (by first | assumption | rfl) ?_ | refine x_1 (by first | assumption | rfl) ?_ | refine Or.inl ⟨rfl, ?_⟩ | (split <;> (first | (rename_i u h; clear u) | rename_i h) <;> (try rewrite [h]) <;> (first | replace h := dt h | replace h := df h | replace h := Nt h | replace h := Nf h | skip) <;> (try dsimp only at h) <;> (first | contradiction | (exfalso; omega) | skip)) | (refine Or.inl ⟨_, by assumption, ?_⟩; first | rintro _ rfl | skip))
    all_goals (conv => whnf)
    all_goals rfl
  simp only [smallG, Bool.and_eq_true, decide_eq_true_eq, List.all_eq_true] at hS
  obtain ⟨hl, hs⟩ := hS
  have hs := fun x hx => smallN_sm (hs x hx)
  have hnd := c_dNeeded ⟨l, p⟩ keep hs (by dsimp only; omega) (by omega)
  have hpr := c_dPrune ⟨l, p⟩ keep hs (by dsimp only; omega) (by omega)
  cases hok : okDead ⟨l, p⟩ keep
  · rw [hok, if_neg (by simp)] at hnd hpr
    refine vcall_of TOK_DeadFew HM Go.Proofs.Tryd.func4 rfl (by decide +kernel) (by decide +kernel) rfl ?_
    repeat' ((conv => whnf); first | ((with_reducible apply Xq); assumption) | (with_reducible first | apply Xa | (first | apply xi | apply xp | apply xP); omega | apply Xe | refine Xg (by assumption) ?_) | refine Xo (by assumption) ?_ | refine x_0 (by first | assumption | rfl) ?_ | refine x_1 (by first | assumption | rfl) ?_ | refine Or.inl ⟨rfl, ?_⟩ | (split <;> (first | (rename_i u h; clear u) | rename_i h) <;> (try rewrite [h]) <;> (first | replace h := dt h | replace h := df h | replace h := Nt h | replace h := Nf h | skip) <;> (try dsimp only at h) <;> (first | contradiction | (exfalso; omega) | skip)) | (refine Or.inl ⟨_, by assumption, ?_⟩; first | rintro _ rfl | skip))
    all_goals (conv => whnf)
    all_goals rfl
  rw [hok, if_pos rfl] at hnd hpr
  have hg : grOK ⟨l, p⟩ = true := by simp only [okDead, Bool.and_eq_true] at hok; exact hok.1
  have hk : keepOK ⟨l, p⟩ keep = true := by simp only [okDead, Bool.and_eq_true] at hok; exact hok.2
  have hmok : okDead (moreG ⟨l, p⟩) keep = true := by rw [okDead, more_ok hg (by dsimp only; omega), more_keep hk]; rfl
  have hpm := c_dPrune (moreG ⟨l, p⟩) keep (fun x hx => by
    simp only [moreG, List.mem_append, List.mem_singleton] at hx
    rcases hx with hx | rfl
    · exact hs x hx
    · exact ⟨by decide, by decide, by decide, by decide, fun d hd => by simp only [nd1, List.mem_singleton] at hd; subst hd; decide⟩) (by simp [moreG]; omega) (by omega)
  rw [hmok, if_pos rfl, more_prune hg hk] at hpm
  have hpm := hpm.args (xs := [.agg [.ro 8 (List.take (rowN l ++ [cA]).length (List.drop 0 (rowN l ++ [cA]))), .int .i64 p], .ro 1 (rowZ keep)]) (by
    rw [← own_all]
    exact ⟨_, _, rfl, ⟨_, rfl, _, _, rfl, ⟨_, rfl, asRo_more l⟩, _, _, rfl, rfl, rfl⟩, _, _, rfl, ⟨_, rfl, asRoLL_refl1 (f := fun z => AV.int .i64 z) (fun _ => rfl) _⟩, rfl⟩)
  have hsm2 := prune_sm (N := NB ⟨l, p⟩ keep) hs l.length
  have hln := prune_len (l := l) (N := NB ⟨l, p⟩ keep) (Nat.le_refl _)
  have hct := prune_cnt (l := l) (N := NB ⟨l, p⟩ keep) l.length (Nat.le_refl _)
  have hsg := prune_sign (l := l) (N := NB ⟨l, p⟩ keep) l.length (Nat.le_refl _)
  have hG : pruneG ⟨l, p⟩ (NB ⟨l, p⟩ keep) = (⟨(pruneTo l (NB ⟨l, p⟩ keep) l.length).2, atZ (pruneTo l (NB ⟨l, p⟩ keep) l.length).1 p⟩, (pruneTo l (NB ⟨l, p⟩ keep) l.length).1) := rfl
  rw [hG] at hpr hpm
  have hcl := countTo_le (NB ⟨l, p⟩ keep)
  generalize NB ⟨l, p⟩ keep = N at hnd hpr hpm hsm2 hln hct hsg hcl
  generalize pruneTo l N l.length = R at hpr hpm hsm2 hln hct hsg
  obtain ⟨pl, out⟩ := R
  dsimp only at hnd hpr hpm hsm2 hln hct hsg
  have heq := c_r10_Equal GL ⟨out, atZ pl p⟩ ⟨out, atZ pl p⟩ hsm2 hsm2 (by dsimp only; omega)
  rw [decide_eq_true rfl] at heq
  have hfl := fB_length l.length N
  have hpl := rowZ_length pl
  have hpl2 := rowZ_length (pl ++ [-1])
  rw [List.length_append, List.length_singleton] at hpl2
  have hol := rowN_length out
  refine vcall_of TOK_DeadFew HM Go.Proofs.Tryd.func4 rfl (by decide +kernel) (by decide +kernel) rfl ?_
  repeat' ((conv => whnf); first | ((with_reducible apply Xq); assumption) | (with_reducible first | apply Xa | (first | apply xi | apply xp | apply xP); omega | apply Xe | refine Xg (by assumption) ?_) | refine Xo (by assumption) ?_ | refine x_0 (by first | assumption | rfl) ?_ | refine x_1 (by first | assumption | rfl) ?_ | refine Or.inl ⟨rfl, ?_⟩ | (split <;> (first | (rename_i u h; clear u) | rename_i h) <;> (try rewrite [h]) <;> (first | replace h := dt h | replace h := df h | replace h := Nt h | replace h := Nf h | skip) <;> (try dsimp only at h) <;> (first | contradiction | (exfalso; omega) | skip)) | (refine Or.inl ⟨_, by assumption, ?_⟩; first | rintro _ rfl | skip))
  refine ⟨[1, 2, 7, 8, 9, 10, 59, 60, 61], [0, 1], fun m st => ∃ i : Nat, i ≤ l.length ∧ m = l.length - i ∧
    st = ⟨[(1, .ro 1 (rowZ keep)), (2, .bptr 0 0), (7, .bptr 1 0), (8, .ro 1 (rowZ pl)), (9, .int .i64 0), (10, .int .i64 (countTo N i : Nat)), (59, .ro 1 (fB l.length N)), (60, .int .i64 ((fB l.length N).length : Nat)), (61, .int .i64 (i : Nat))],
      [.box 24 [.ro 8 (rowN l), .int .i64 p], .box 24 [.ro 8 (rowN out), .int .i64 (atZ pl p)]]⟩, rfl, ⟨l.length, 0, by omega, rfl, rfl⟩, ?_⟩
  rintro m _ ⟨i, hi, hm, rfl⟩
  have hci := hcl i
  rcases Nat.lt_or_ge i l.length with hil | hge
  · have g1 : (fB l.length N)[i]? = some [.bool (N i)] := fB_get hil
    have g2 := rowZ_get (l := pl) (k := i) (by omega)
    have hsi := hsg i pl[i] (List.getElem?_eq_getElem (by omega))
    generalize pl[i] = v at g2 hsi
    cases hN : N i
    · rw [hN] at g1 hsi
      have hv : ¬ 0 ≤ v := by simpa using hsi
      have hcs : countTo N (i + 1) = countTo N i := by simp [countTo, hN]
      repeat' ((conv => whnf); first | ((with_reducible apply Xq); assumption) | (with_reducible first | apply Xa | (first | apply xi | apply xp | apply xP); omega | apply Xe | refine Xg (by assumption) ?_) | refine Xo (by assumption) ?_ | refine x_0 (by first | assumption | rfl) ?_ | refine x_1 (by first | assumption | rfl) ?_ | refine Or.inl ⟨rfl, ?_⟩ | (split <;> (first | (rename_i u h; clear u) | rename_i h) <;> (try rewrite [h]) <;> (first | replace h := dt h | replace h := df h | replace h := Nt h | replace h := Nf h | skip) <;> (try dsimp only at h) <;> (first | contradiction | (exfalso; omega) | skip)) | (refine Or.inl ⟨_, by assumption, ?_⟩; first | rintro _ rfl | skip))
      all_goals first | exact ⟨[0, 1], l.length - (i + 1), rfl, by omega, i + 1, by omega, rfl, Eq.trans rfl (congrArg (fun z : Nat => (⟨[(1, .ro 1 (rowZ keep)), (2, .bptr 0 0), (7, .bptr 1 0), (8, .ro 1 (rowZ pl)), (9, .int .i64 0), (10, .int .i64 (z : Nat)), (59, .ro 1 (fB l.length N)), (60, .int .i64 ((fB l.length N).length : Nat)), (61, .int .i64 ((i + 1 : Nat) : Int))],
      [.box 24 [.ro 8 (rowN l), .int .i64 p], .box 24 [.ro 8 (rowN out), .int .i64 (atZ pl p)]]⟩ : St)) hcs.symm)⟩ | (exfalso; clear hnd hpr hpm heq hsm haw; simp_all)
    · rw [hN] at g1 hsi
      have hv : 0 ≤ v := by simpa using hsi
      have hcs : countTo N (i + 1) = countTo N i + 1 := by simp [countTo, hN]
      repeat' ((conv => whnf); first | ((with_reducible apply Xq); assumption) | (with_reducible first | apply Xa | (first | apply xi | apply xp | apply xP); omega | apply Xe | refine Xg (by assumption) ?_) | refine Xo (by assumption) ?_ | refine x_0 (by first | assumption | rfl) ?_ | refine x_1 (by first | assumption | rfl) ?_ | refine Or.inl ⟨rfl, ?_⟩ | (split <;> (first | (rename_i u h; clear u) | rename_i h) <;> (try rewrite [h]) <;> (first | replace h := dt h | replace h := df h | replace h := Nt h | replace h := Nf h | skip) <;> (try dsimp only at h) <;> (first | contradiction | (exfalso; omega) | skip)) | (refine Or.inl ⟨_, by assumption, ?_⟩; first | rintro _ rfl | skip))
      all_goals first | exact ⟨[0, 1], l.length - (i + 1), rfl, by omega, i + 1, by omega, rfl, Eq.trans rfl (congrArg (fun z : Nat => (⟨[(1, .ro 1 (rowZ keep)), (2, .bptr 0 0), (7, .bptr 1 0), (8, .ro 1 (rowZ pl)), (9, .int .i64 0), (10, .int .i64 (z : Nat)), (59, .ro 1 (fB l.length N)), (60, .int .i64 ((fB l.length N).length : Nat)), (61, .int .i64 ((i + 1 : Nat) : Int))],
      [.box 24 [.ro 8 (rowN l), .int .i64 p], .box 24 [.ro 8 (rowN out), .int .i64 (atZ pl p)]]⟩ : St)) hcs.symm)⟩ | (exfalso; clear hnd hpr hpm heq hsm haw; simp_all)
  have hi2 : i = l.length := by omega
  subst hi2
  obtain ⟨c1, cs1, hc1⟩ : ∃ c cs, rowZ (pl ++ [-1]) = c :: cs := List.exists_cons_of_length_pos (by omega)
  obtain ⟨X, hX⟩ : ∃ X, X = rowN out := ⟨_, rfl⟩
  have hpm2 := hpm.mono (R' := fun y => y = .tup [.agg [.ro 8 X, .int .i64 (atZ pl p)], .ro 1 (c1 :: cs1), .int .i64 0]) fun y hy => by rw [hy, hX, ← hc1]; rfl
  have heq2 : VCall Go.Proofs.Tryd.prog GL 9 [.agg [.ro 8 X, .int .i64 (atZ pl p)], .agg [.ro 8 (rowN out), .int .i64 (atZ pl p)]] (fun x => x = .bool true) := by rw [hX]; exact heq
  have gp : (c1 :: cs1)[(rowZ pl).length]? = some [.int .i64 (-1)] := by rw [← hc1, hpl, rowZ_get (by simp)]; simp
  rw [hc1] at hpl2
  clear hpm heq hc1
  have hct2 : (rowN out).length = countTo N l.length := by omega
  cases X
  all_goals (repeat' ((conv => whnf); first | ((with_reducible apply Xq); assumption) | (with_reducible first | apply Xa | (first | apply xi | apply xp | apply xP); omega | apply Xe | refine Xg (by assumption) ?_) | refine Xo (by assumption) ?_ | refine x_0 (by first | assumption | rfl) ?_ | refine x_1 (by first | assumption | rfl) ?_ | refine Or.inl ⟨rfl, ?_⟩ | (split <;> (first | (rename_i u h; clear u) | rename_i h) <;> (try rewrite [h]) <;> (first | replace h := dt h | replace h := df h | replace h := Nt h | replace h := Nf h | skip) <;> (try dsimp only at h) <;> (first | contradiction | (exfalso; omega) | skip)) | (refine Or.inl ⟨_, by assumption, ?_⟩; first | rintro _ rfl | skip)))
  all_goals refine ⟨by decide +kernel, [0, 0, 2, 7, 0, 16, 48, 127, 0, 256, 1023, 0, 4095], by decide +kernel, ?_⟩
  all_goals (repeat' ((conv => whnf); first | ((with_reducible apply Xq); assumption) | (with_reducible first | apply Xa | (first | apply xi | apply xp | apply xP); omega | apply Xe | refine Xg (by assumption) ?_) | refine Xo (by assumption) ?_ | refine x_0 (by first | assumption | rfl) ?_ | refine x_1 (by first | assumption | rfl) ?_ | refine Or.inl ⟨rfl, ?_⟩ | (split <;> (first | (rename_i u h; clear u) | rename_i h) <;> (try rewrite [h]) <;> (first | replace h := dt h | replace h := df h | replace h := Nt h | replace h := Nf h | skip) <;> (try dsimp only at h) <;> (first | contradiction | (exfalso; omega) | skip)) | (refine Or.inl ⟨_, by assumption, ?_⟩; first | rintro _ rfl | skip)))
  all_goals refine ⟨Nat.le_refl _, (show (0 + (rowN l).length) * 120 ≤ 140737488355328 by omega), rowN l, rfl, ?_⟩
  all_goals (repeat' ((conv => whnf); first | ((with_reducible apply Xq); assumption) | (with_reducible first | apply Xa | (first | apply xi | apply xp | apply xP); omega | apply Xe | refine Xg (by assumption) ?_) | refine Xo (by assumption) ?_ | refine x_0 (by first | assumption | rfl) ?_ | refine x_1 (by first | assumption | rfl) ?_ | refine Or.inl ⟨rfl, ?_⟩ | (split <;> (first | (rename_i u h; clear u) | rename_i h) <;> (try rewrite [h]) <;> (first | replace h := dt h | replace h := df h | replace h := Nt h | replace h := Nf h | skip) <;> (try dsimp only at h) <;> (first | contradiction | (exfalso; omega) | skip)) | (refine Or.inl ⟨_, by assumption, ?_⟩; first | rintro _ rfl | skip)))
  all_goals refine ⟨Nat.le_refl _, (show ((rowN l).length + 1) * 120 ≤ 140737488355328 by omega), rowN l ++ [cA], (by rw [List.take_length]; rfl), ?_⟩
  all_goals (repeat' ((conv => whnf); first | ((with_reducible apply Xq); assumption) | (with_reducible first | apply Xa | (first | apply xi | apply xp | apply xP); omega | apply Xe | refine Xg (by assumption) ?_) | refine Xo (by assumption) ?_ | refine x_0 (by first | assumption | rfl) ?_ | refine x_1 (by first | assumption | rfl) ?_ | refine Or.inl ⟨rfl, ?_⟩ | (split <;> (first | (rename_i u h; clear u) | rename_i h) <;> (try rewrite [h]) <;> (first | replace h := dt h | replace h := df h | replace h := Nt h | replace h := Nf h | skip) <;> (try dsimp only at h) <;> (first | contradiction | (exfalso; omega) | skip)) | (refine Or.inl ⟨_, by assumption, ?_⟩; first | rintro _ rfl | skip)))
  all_goals (conv => whnf)
  all_goals rfl
end Go.V
namespace Go.V
open Go.N
set_option maxRecDepth 20000
end Go.V
namespace Go.V
open Go.RowKit
section
variable {H : Type} (enc : TypeId × Value → H) (P : Program) (w : World)
abbrev SW (w : World) : Nat → Prop := fun b => b < w.heap.size
def OpnT (t : TypeId) (n : Nat) (K : List AV → Prop) : Prop := ∀ (fuel : Nat) (cs : List Value) (x : DataW H × List MemPlace), DataW.trod enc P w 0 (fun _ => true) true fuel t cs = some x →
  ∃ xs, K xs ∧ cs.length = n ∧ One cs ∧ RepL (SW w) H0 w xs cs
variable {enc P w}
theorem opn_int {t : TypeId} {k : IntKind} (ht : P.underlying t = some (.int k)) : OpnT enc P w t 1 (fun xs => ∃ n, xs = [.int k n]) := fun fuel cs x h => by
  obtain ⟨n, rfl, _, _⟩ := DataW.trod_int ht h
  exact ⟨_, ⟨n, rfl⟩, rfl, by simp [One, Value.oneCell'], by simp [RepL, RepV]⟩
theorem opn_string {t : TypeId} (ht : P.underlying t = some .string) : OpnT enc P w t 1 (fun xs => ∃ s, xs = [.str s]) := fun fuel cs x h => by
  obtain ⟨s, rfl, _, _⟩ := DataW.trod_string ht h
  exact ⟨_, ⟨s, rfl⟩, rfl, by simp [One, Value.oneCell'], by simp [RepL, RepV]⟩
theorem exists_list {α : Type} {Q : Nat → α → Prop} : ∀ n : Nat, (∀ i, i < n → ∃ a, Q i a) → ∃ l : List α, l.length = n ∧ ∀ i (h : i < l.length), Q i l[i]
  | 0, _ => ⟨[], rfl, fun i h => by simp at h⟩
  | n + 1, hq => by
    obtain ⟨l, hl, h⟩ := exists_list n fun i hi => hq i (by omega)
    obtain ⟨a, ha⟩ := hq n (by omega)
    refine ⟨l ++ [a], by simp [hl], fun i hi => ?_⟩
    by_cases hin : i < l.length
    · rw [List.getElem_append_left hin]; exact h i hin
    · have : i = n := by simp at hi; omega
      subst this
      rw [List.getElem_append_right (by omega)]
      simpa using ha
theorem repLL_of {S : Nat → Prop} : ∀ {es : List (List AV)} {vss : List (List Value)}, es.length = vss.length → (∀ i (h1 : i < es.length) (h2 : i < vss.length), RepL S H0 w es[i] vss[i]) → RepLL S w es vss
  | [], [], _, _ => by simp [RepLL]
  | [], _ :: _, h, _ => by simp at h
  | _ :: _, [], h, _ => by simp at h
  | e :: es, v :: vss, h, hr => by
    simp only [RepLL]
    exact ⟨v, vss, rfl, hr 0 (by simp) (by simp), repLL_of (by simpa using h) fun i h1 h2 => hr (i + 1) (by simpa using h1) (by simpa using h2)⟩
theorem opn_slice {t e : TypeId} {n : Nat} {K : List AV → Prop} (ht : P.underlying t = some (.slice e)) (hc : P.cellsOf e = n) (hn : 0 < n) (he : OpnT enc P w e n K) :
    OpnT enc P w t 1 (fun xs => ∃ es, xs = [.ro n es] ∧ ∀ c ∈ es, K c) := fun fuel cs x h => by
  rcases DataW.trod_slice ht h with ⟨rfl, _⟩ | ⟨a, len, cap, elems, rest, m, _, rfl, _, _, hl, hm, hlen, hel, _⟩
  · refine ⟨_, ⟨[], rfl, by simp⟩, rfl, by simp [One, Value.oneCell'], ?_⟩
    simp [RepL, RepV]
    exact ⟨none, 0, ⟨rfl, rfl⟩, Nat.zero_le _⟩
  · rw [hc] at hel
    obtain ⟨l, hll, hq⟩ := exists_list (Q := fun i (p : List AV × List Value) => K p.1 ∧ w.cells? 0 (a.add (i * n)) n = some p.2 ∧ p.2.length = n ∧ One p.2 ∧ RepL (SW w) H0 w p.1 p.2) len fun i hi => by
      have hi2 := hel i hi
      rw [List.getElem?_eq_getElem (by omega)] at hi2
      obtain ⟨vs, h1, h2⟩ := Option.bind_eq_some_iff.1 hi2
      obtain ⟨xs, k1, k2, k3, k4⟩ := he _ _ _ h2
      exact ⟨(xs, vs), k1, h1, k2, k3, k4⟩
    refine ⟨_, ⟨l.map (·.1), rfl, fun c hc => ?_⟩, rfl, by simp [One, Value.oneCell'], ?_⟩
    · obtain ⟨p, hp, rfl⟩ := List.mem_map.1 hc
      obtain ⟨i, hi, rfl⟩ := List.getElem_of_mem hp
      exact (hq i hi).1
    · simp only [RepL, RepV]
      refine ⟨_, _, rfl, ⟨_, _, by rw [List.length_map, hll], by rw [List.length_map, hll]; exact hl, hm, ?_⟩, rfl⟩
      rcases Nat.eq_zero_or_pos len with h0 | h0
      · left; exact List.length_eq_zero_iff.1 (by rw [List.length_map, hll, h0])
      · have hb : a.block < w.heap.size := by
          have := World.cells?_block (hq 0 (by omega)).2.1 hn
          simpa [Addr.add] using this
        refine .inr ⟨a, rfl, hb, hb, l.map (·.2), repLL_of (by simp) fun i h1 h2 => ?_, fun vs hv => ?_, fun i vs hv k u hk => ?_⟩
        · simp only [List.getElem_map]
          exact (hq i (by simpa using h1)).2.2.2.2
        · obtain ⟨p, hp, rfl⟩ := List.mem_map.1 hv
          obtain ⟨i, hi, rfl⟩ := List.getElem_of_mem hp
          exact ⟨(hq i hi).2.2.1, (hq i hi).2.2.2.1⟩
        · rw [List.getElem?_map] at hv
          obtain ⟨p, hp, rfl⟩ := Option.map_eq_some_iff.1 hv
          obtain ⟨hi, rfl⟩ := List.getElem?_eq_some_iff.1 hp
          have h1 := (hq i hi).2.1
          have hk2 := (List.getElem?_eq_some_iff.1 hk).1
          have hlen2 := (hq i hi).2.2.1
          have := (World.cells?_some h1).2.2 k (by omega)
          rw [Addr.add_add] at this
          rw [this, hk]
def FldK : List Field → Nat → List (AV → Prop) → Prop
  | [], _, Ks => Ks = []
  | f :: fs, i, Ks => ∃ K Kr, Ks = K :: Kr ∧ f.offset = i ∧ P.cellsOf f.type = 1 ∧ OpnT enc P w f.type 1 (fun xs => ∃ a, xs = [a] ∧ K a) ∧ FldK fs (i + 1) Kr
theorem OpnT.mono {t : TypeId} {n : Nat} {K K' : List AV → Prop} (h : OpnT enc P w t n K) (hk : ∀ xs, K xs → K' xs) : OpnT enc P w t n K' := fun fuel cs x hx => by
  obtain ⟨xs, k, r⟩ := h fuel cs x hx
  exact ⟨xs, hk xs k, r⟩
def AllK : List (AV → Prop) → List AV → Prop
  | [], xs => xs = []
  | K :: Ks, xs => ∃ x r, xs = x :: r ∧ K x ∧ AllK Ks r
theorem opn_fields : ∀ (fs : List Field) (i : Nat) (Ks : List (AV → Prop)) (cs : List Value), FldK (enc := enc) (P := P) (w := w) fs i Ks → cs.length = i + fs.length →
    (∀ f ∈ fs, ∃ m y, DataW.trod enc P w 0 (fun _ => true) true m f.type ((cs.drop f.offset).take (P.cellsOf f.type)) = some y) → ∃ xs, AllK Ks xs ∧ One (cs.drop i) ∧ RepL (SW w) H0 w xs (cs.drop i)
  | [], i, Ks, cs, hf, hl, _ => by
    simp only [FldK] at hf
    subst hf
    have : cs.drop i = [] := List.drop_of_length_le (by simp at hl; omega)
    rw [this]
    exact ⟨[], rfl, by simp [One], by simp [RepL]⟩
  | f :: fs, i, Ks, cs, hf, hl, ht => by
    simp only [FldK] at hf
    obtain ⟨K, Kr, rfl, h1, h2, h3, h4⟩ := hf
    have hi : i < cs.length := by simp at hl; omega
    obtain ⟨xs, a1, a2, a3⟩ := opn_fields fs (i + 1) Kr cs h4 (by simp at hl; omega) (fun g hg => ht g (List.mem_cons_of_mem _ hg))
    obtain ⟨m, y, hy⟩ := ht f List.mem_cons_self
    have e : cs.drop i = cs[i] :: cs.drop (i + 1) := List.drop_eq_getElem_cons hi
    rw [h1, h2, e] at hy
    obtain ⟨zs, ⟨a, rfl, ha⟩, _, k2, k3⟩ := h3 _ _ _ hy
    simp only [List.take_succ_cons, List.take_zero] at k2 k3
    simp only [RepL] at k3
    obtain ⟨v, r, e2, hv, rfl⟩ := k3
    cases e2
    rw [e]
    refine ⟨a :: xs, ⟨a, xs, rfl, ha, a1⟩, fun u hu => ?_, ?_⟩
    · rcases List.mem_cons.1 hu with rfl | hu
      · exact k2 _ List.mem_cons_self
      · exact a2 u hu
    · simp only [RepL]; exact ⟨_, _, rfl, hv, a3⟩
theorem opn_struct {t : TypeId} {fs : Array Field} {Ks : List (AV → Prop)} (ht : P.underlying t = some (.struct fs)) (hn : P.cellsOf t = fs.size) (hf : FldK (enc := enc) (P := P) (w := w) fs.toList 0 Ks) :
    OpnT enc P w t fs.size (AllK Ks) := fun fuel cs x h => by
  obtain ⟨xs, m, _, _, hl, hlen, hx⟩ := DataW.trod_struct ht h
  obtain ⟨ys, a1, a2, a3⟩ := opn_fields fs.toList 0 Ks cs hf (by rw [hl, hn]; simp) fun f hm => by
    obtain ⟨i, hi, rfl⟩ := List.getElem_of_mem hm
    have := hx i _ (by rw [Array.getElem?_eq_getElem (by simpa using hi)])
    rw [List.getElem?_eq_getElem (by rw [hlen]; simpa using hi)] at this
    exact ⟨m, _, this⟩
  exact ⟨ys, a1, by rw [hl, hn], by simpa using a2, by simpa using a3⟩
theorem rows_of {α : Type} {f : α → List AV} : ∀ {es : List (List AV)}, (∀ c ∈ es, ∃ a, c = f a) → ∃ l : List α, es = l.map f
  | [], _ => ⟨[], rfl⟩
  | e :: es, h => by
    obtain ⟨a, ha⟩ := h e List.mem_cons_self
    obtain ⟨l, hl⟩ := rows_of (es := es) fun c hc => h c (List.mem_cons_of_mem _ hc)
    exact ⟨a :: l, by rw [ha, hl]; rfl⟩
theorem VCall.calls {gl : Gl} {f : FuncId} {fn : Func} {c : Code} {args : List AV} {r : AV} {vs : List Value} {v : Value} (h : VCall P gl f args (fun x => x = r)) (hf : P.funcs[f]? = some fn) (hb : fn.body = some c) (hname : (fn.name == "runtime.NumGoroutine") = false)
    (hgl : GlOK (SW w) w gl) (hargs : RepL (SW w) H0 w args vs) (hr : ∀ S b w' v', ResOK S b w' r v' → v' = v) :
    Calls P f vs.toArray w fun e w' => e = .returned v ∧ Below w.heap.size w w' := by
  have hne : fn.name ≠ "runtime.NumGoroutine" := by simpa using hname
  have hen : (callFunc f vs.toArray).run P w = .ok (.enter f vs.toArray) w := by simp [callFunc, hf, hne, hb]
  rcases h (SW w) w vs (fun b hb => hb) hgl hargs with ⟨_, h2⟩ | ⟨v2, w2, h1, _⟩ | ⟨row, xs, w2, h1, _⟩
  · refine h2.mono fun e w' he => ?_
    obtain ⟨u, rfl, x, rfl, h3, h4⟩ := he
    rw [hr _ _ _ _ h3]
    exact ⟨rfl, h4⟩
  · rw [hen] at h1; cases h1
  · rw [hen] at h1; cases h1
end
end Go.V
namespace Go.Proofs.YtnifmgbamcllaaaDoor
open Go Go.ChangeShapes Go.WideShapes Go.ChangeAt Go.RowKit Go.V
set_option maxRecDepth 100000
def isS (a : AV) : Prop := ∃ s, a = .str s
def isI (a : AV) : Prop := ∃ n, a = .int .i64 n
def isZs (a : AV) : Prop := ∃ es, a = .ro 1 es ∧ ∀ c ∈ es, ∃ n, c = [.int .i64 n]
def isSs (a : AV) : Prop := ∃ es, a = .ro 1 es ∧ ∀ c ∈ es, ∃ s, c = [.str s]
def isNd (c : List AV) : Prop := ∃ x : Nd, c = x.cells
def isNs (a : AV) : Prop := ∃ es, a = .ro 8 es ∧ ∀ c ∈ es, isNd c
theorem node_of {c : List AV} (h : AllK [isS, isI, isI, isS, isZs, isS, isI, isSs] c) : isNd c := by
  obtain ⟨_, _, rfl, ⟨op, rfl⟩, _, _, rfl, ⟨a, rfl⟩, _, _, rfl, ⟨b, rfl⟩, _, _, rfl, ⟨name, rfl⟩, _, _, rfl, ⟨es, rfl, h1⟩, _, _, rfl, ⟨k, rfl⟩, _, _, rfl, ⟨n, rfl⟩, _, _, rfl, ⟨es2, rfl, h2⟩, rfl⟩ := h
  obtain ⟨shape, rfl⟩ := rows_of (f := fun n => [AV.int .i64 n]) h1
  obtain ⟨data, rfl⟩ := rows_of (f := fun s => [AV.str s]) h2
  exact ⟨⟨op, a, b, name, shape, k, n, data⟩, rfl⟩
theorem graph_of {c : List AV} (h : AllK [isNs, isI] c) : ∃ g : Gr, c = g.cells := by
  obtain ⟨_, _, rfl, ⟨es, rfl, h1⟩, _, _, rfl, ⟨n, rfl⟩, rfl⟩ := h
  obtain ⟨l, rfl⟩ := rows_of h1
  exact ⟨⟨l, n⟩, rfl⟩
section
variable {H : Type} {enc : TypeId × Value → H} {W : World}
theorem o_int : OpnT enc Go.Proofs.Tryd.prog W 3 1 (fun xs => ∃ a, xs = [a] ∧ isI a) := (opn_int Tryd.underlying3).mono fun xs ⟨n, h⟩ => ⟨_, h, n, rfl⟩
theorem o_str : OpnT enc Go.Proofs.Tryd.prog W 9 1 (fun xs => ∃ a, xs = [a] ∧ isS a) := (opn_string Tryd.underlying9).mono fun xs ⟨s, h⟩ => ⟨_, h, s, rfl⟩
theorem o_ints : OpnT enc Go.Proofs.Tryd.prog W 25 1 (fun xs => ∃ a, xs = [a] ∧ isZs a) := (opn_slice Tryd.underlying25 (by kernel_rfl) (by decide) (opn_int Tryd.underlying3)).mono fun xs ⟨es, h, k⟩ => ⟨_, h, es, rfl, k⟩
theorem o_strs : OpnT enc Go.Proofs.Tryd.prog W 37 1 (fun xs => ∃ a, xs = [a] ∧ isSs a) := (opn_slice Tryd.underlying37 (by kernel_rfl) (by decide) (opn_string Tryd.underlying9)).mono fun xs ⟨es, h, k⟩ => ⟨_, h, es, rfl, k⟩
theorem o_node : OpnT enc Go.Proofs.Tryd.prog W 39 8 isNd :=
  (opn_struct Tryd.underlying39 (by kernel_rfl) ⟨isS, _, rfl, rfl, by kernel_rfl, o_str, isI, _, rfl, rfl, by kernel_rfl, o_int, isI, _, rfl, rfl, by kernel_rfl, o_int, isS, _, rfl, rfl, by kernel_rfl, o_str, isZs, _, rfl, rfl, by kernel_rfl, o_ints,
    isS, _, rfl, rfl, by kernel_rfl, o_str, isI, _, rfl, rfl, by kernel_rfl, o_int, isSs, _, rfl, rfl, by kernel_rfl, o_strs, rfl⟩).mono fun xs h => node_of h
theorem o_nodes : OpnT enc Go.Proofs.Tryd.prog W 22 1 (fun xs => ∃ a, xs = [a] ∧ isNs a) := (opn_slice Tryd.underlying22 (by kernel_rfl) (by decide) o_node).mono fun xs ⟨es, h, k⟩ => ⟨_, h, es, rfl, k⟩
theorem o_graph : OpnT enc Go.Proofs.Tryd.prog W 24 2 (fun xs => ∃ g : Gr, xs = g.cells) :=
  (opn_struct Tryd.underlying24 (by kernel_rfl) ⟨isNs, _, rfl, rfl, by kernel_rfl, o_nodes, isI, _, rfl, rfl, by kernel_rfl, o_int, rfl⟩).mono fun xs h => graph_of h
theorem args_of {base : Nat} {v0 v1 : Value} {d0 d1 : DataW H} {p0 p1 : List MemPlace} (h0 : DataW.Trod enc Go.Proofs.Tryd.prog W 0 (fun _ => true) true 24 v0 d0 p0) (h1 : DataW.Trod enc Go.Proofs.Tryd.prog W 0 (fun _ => true) true 25 v1 d1 p1)
    (k0 : Value.okWide Go.Proofs.Tryd.prog W .any base 24 v0) (k1 : Value.okWide Go.Proofs.Tryd.prog W .any base 25 v1) :
    ∃ (g : Gr) (keep : List Int), RepL (SW W) H0 W [.agg g.cells, .ro 1 (rowZ keep)] [v0, v1] := by
  obtain ⟨cs, rfl, _⟩ := okWide_struct Tryd.underlying24 k0
  obtain ⟨a, len, cap, rfl⟩ := okWide_slice Tryd.underlying25 k1
  obtain ⟨f0, h0⟩ := h0
  obtain ⟨f1, h1⟩ := h1
  obtain ⟨xs, ⟨g, rfl⟩, _, e2, e3⟩ := o_graph f0 _ _ h0
  obtain ⟨ys, ⟨a', rfl, es, rfl, hk⟩, _, _, e4⟩ := o_ints f1 _ _ h1
  obtain ⟨keep, rfl⟩ := rows_of (f := fun n => [AV.int .i64 n]) hk
  refine ⟨g, keep, ?_⟩
  have c0 : (Value.agg cs).cells.toList = cs.toList := rfl
  rw [c0] at e2 e3
  have c1 : (Value.slice a len cap).cells.toList = [.slice a len cap] := rfl
  rw [c1] at e4
  simp only [RepL] at e4 ⊢
  obtain ⟨u, r, e5, e6, e7⟩ := e4
  injection e5 with e8 e9
  subst e8
  refine ⟨_, _, rfl, ?_, _, _, rfl, e6, rfl⟩
  simp only [RepV]
  exact ⟨cs.toList, by simp, e2, e3⟩
end
theorem own : ownKnob Go.Proofs.Tryd.prog.godebug = none := by kernel_rfl
theorem laidOut : laidOutB Go.Proofs.Tryd.prog = true := by kernel_rfl
theorem rowErr (u : TypeId) (h : Go.Proofs.Tryd.prog.typeName? 3 u = some "*errors.errorString") : u = 134 :=
  typeName_ptr_named (nm := "errors.errorString") (by kernel_rfl) (by kernel_rfl) (by decide) u h
theorem gl_of {W : World} {r : List (String × DataW Unit)} (h : laidMet Go.Proofs.Tryd.prog (("tapewright/rat.errForm", Rows.laid_tapewright_rat_errForm) :: r) W) : GlOK (SW W) W GL := by
  obtain ⟨a, s, hv, _, _, _⟩ := laid_sentinel h (show Go.Proofs.Tryd.prog.globalNamed "tapewright/rat.errForm" = some 0 by kernel_rfl) (show (Go.Proofs.Tryd.prog.globals[0]?).map (·.type) = some 63 by kernel_rfl)
    Tryd.underlying63 rowErr Tryd.underlying134 Tryd.underlying150 rfl rfl Tryd.underlying9 (by kernel_rfl) (by kernel_rfl)
  have hc := World.var?_cell (show Go.Proofs.Tryd.prog.globalNamed "tapewright/rat.errForm" = some 0 by kernel_rfl) hv 0
  have hc : W.cell? ⟨0, 0, none⟩ = some (.iface 134 (.pointer (some a))) := by simpa using hc
  have hb := World.block_lt_of_cell? W _ hc
  intro g cs hm
  simp only [GL, List.mem_singleton, Prod.mk.injEq] at hm
  obtain ⟨rfl, rfl⟩ := hm
  simp only [RepV]
  refine ⟨_, rfl, hb, hb, [.iface 134 (.pointer (some a))], ?_, by simp [Go.V.One, Value.oneCell'], fun k u hk => ?_⟩
  · simp [RepL, RepV]
  · rcases k with _ | k
    · simp at hk; subst hk; simpa [Addr.add] using hc
    · simp at hk
theorem walk_DeadAll {W : World} (g : Gr) (keep : List Int) (more : Int) (v0 v1 v2 : Value) (hgl : GlOK (SW W) W GL) (ha : RepL (SW W) H0 W [.agg g.cells, .ro 1 (rowZ keep), .int .i64 more] [v0, v1, v2]) :
    Calls Go.Proofs.Tryd.prog 3 #[v0, v1, v2] W fun e w' => e = .returned (.bool true) ∧ Below W.heap.size W w' :=
  VCall.calls (c_DeadAll g keep more) Tryd.func3 rfl (by decide +kernel) hgl ha fun S b w' v' h => by
    obtain ⟨S', F, hF, _⟩ := h
    simp only [RepF, RepV] at hF
    exact hF.2
theorem lifted_DeadAll (os : Os) (started : os.Started) (H : Type) (enc : TypeId × Value → H) :
    ReturnsInHanded {} Tryd.checked os 3 .any (fun w args => (Rows.deadAllSpec.pre enc Go.Proofs.Tryd.prog Go.Proofs.Tryd.f3 [] false w args ∧ laidMetH Go.Proofs.Tryd.prog Rows.deadAllRow.laid w) ∧ sizedMet enc Go.Proofs.Tryd.prog Go.Proofs.Tryd.f3 (OpenSpec.ofChange Rows.deadAllSpec) false w args)
      (Rows.deadAllSpec.post enc Go.Proofs.Tryd.prog Go.Proofs.Tryd.f3 false true false false) := by
  refine returnsInHanded_of_change_and (C := Tryd.checked) (X := fun w _ => laidMetH Go.Proofs.Tryd.prog Rows.deadAllRow.laid w) (fun _ _ _ hh h => h.of_heap hh) own started (by kernel_rfl) Tryd.func3
    (ChangeSpec.witness_shaped (enc := enc) (C := Tryd.checked) (os := os) (X := fun w _ => laidMetH Go.Proofs.Tryd.prog Rows.deadAllRow.laid w) false (World.laidAll Go.Proofs.Tryd.prog os Rows.deadAllRow.laid) #[.agg #[.slice none 0 0, .int .i64 0], .slice none 0 0, .int .i64 0] 8 (World.laidAll_os _ _ _)
      (World.shaped_of_ZipB (by kernel_rfl) (by kernel_rfl)) (by kernel_rfl) (by kernel_rfl) (by kernel_rfl)
      (by rw [MakeChecks.laidMetH_plain _ _ _ (by kernel_rfl)]; exact laidMet_laidAll _ (by kernel_rfl) (by kernel_rfl))) ?_
  intro W base args ds gs before hval0 hW hc _ hL _
  have hval : ∀ (j : Nat) t v, Go.Proofs.Tryd.f3.params[j]? = some t → args[j]? = some v → Value.okWide Go.Proofs.Tryd.prog W .any base t v := hval0
  have hW' := hW
  obtain ⟨p, q, hA0, hV, rfl, _, _⟩ := hW
  have hA : DataW.TrodAll enc Go.Proofs.Tryd.prog W 0 (fun _ => true) true Go.Proofs.Tryd.f3.params.toList args.toList ds p := hA0
  rw [Tryd.params3] at hA hval
  obtain ⟨v0, vs0, d0, ds0, p0, q0, hargs, rfl, rfl, h0, r0⟩ := trodAll_cons hA
  obtain ⟨v1, vs1, d1, ds1, p1, q1, rfl, rfl, rfl, h1, r1⟩ := trodAll_cons r0
  obtain ⟨v2, vs2, d2, ds2, p2, q2, rfl, rfl, rfl, h2, r2⟩ := trodAll_cons r1
  obtain ⟨rfl, rfl, rfl⟩ := trodAll_nil r2
  obtain rfl : args = #[v0, v1, v2] := by cases args; simp_all
  obtain ⟨rfl, rfl⟩ := trodVars_none hV
  rw [MakeChecks.laidMetH_plain _ _ _ (by kernel_rfl)] at hL
  have hL2 := laidMet.tail hL
  obtain ⟨more, rfl, rfl, rfl, wx⟩ := open_int Tryd.underlying3 (hval 2 _ v2 rfl rfl) h2
  obtain ⟨g, keep, hrep⟩ := args_of h0 h1 (hval 0 _ v0 rfl rfl) (hval 1 _ v1 rfl rfl)
  have hrep3 : RepL (SW W) H0 W [.agg g.cells, .ro 1 (rowZ keep), .int .i64 more] [v0, v1, .int .i64 more] := by
    simp only [RepL] at hrep ⊢
    obtain ⟨u, r, e1, e2, u2, r2, e3, e4, e5⟩ := hrep
    subst e5; subst e3
    cases e1
    exact ⟨_, _, rfl, e2, _, _, rfl, e4, _, _, rfl, by simp [RepV], rfl⟩
  refine (walk_DeadAll g keep more v0 v1 _ (gl_of hL2) hrep3).mono fun e W' ⟨he, bel⟩ => ?_
  subst he
  have lt0 : ∀ x ∈ p0, x.block < W.heap.size := by obtain ⟨m, hm⟩ := h0; exact DataW.trod_lt m _ _ _ hm
  have lt1 : ∀ x ∈ p1, x.block < W.heap.size := by obtain ⟨m, hm⟩ := h1; exact DataW.trod_lt m _ _ _ hm
  exact ⟨_, rfl, _, _, _, [], _, [], hW', trodAll_mk1 (shut_bool Tryd.underlying4 _), (trodAll_cons_mk (Below.trod laidOut (by kernel_rfl) (of_decide_eq_true (by kernel_rfl)) h0 bel lt0) (trodAll_cons_mk (Below.trod laidOut (by kernel_rfl) (of_decide_eq_true (by kernel_rfl)) h1 bel lt1) (trodAll_cons_mk (shut_int Tryd.underlying3 wx) trodAll_mk0))), rfl, bel.frame _, fun h => by cases h⟩
theorem row_DeadAll : Rows.DeadAllSaid :=
  OpenClaim.holds_of_wide 3 Go.Proofs.Tryd.f3 rfl rfl rfl rfl rfl rfl rfl ⟨rfl, rfl, rfl, rfl, rfl⟩ rfl rfl rfl rfl rfl (by kernel_rfl) Tryd.func3 (by kernel_rfl)
    (of_decide_eq_true (by kernel_rfl)) (by unfold Func.isWrapper; first | (rw [if_pos (by decide +kernel)]; kernel_rfl) | (rw [if_neg (by decide +kernel)]; exact ⟨rfl, rfl⟩))
    (fun os started H enc _ => lifted_DeadAll os started H enc)
theorem deadAll_holds : Rows.DeadAllCardSaid :=
  Claim7.holds_tied_plain_at .later [] [.data, .sentinel, .sentinel, .pinned] true Rows.deadAllCard.stood.harness false row_DeadAll (fun _ h => by cases h) (by kernel_rfl) (fun _ h => by cases h) deadAll_row_tie rfl ⟨rfl, rfl⟩ (by kernel_rfl) rfl
    (fun f fn hf hfn => by
      obtain rfl : f = 3 := Option.some.inj ((show Go.Proofs.Tryd.prog.funcNamed "tapewright/tapewrightlaw16.DeadAll" = some 3 by kernel_rfl).symm.trans hf) |>.symm
      obtain rfl : fn = Go.Proofs.Tryd.f3 := (Option.some.inj (Tryd.func3.symm.trans hfn)).symm
      exact ⟨by kernel_rfl, fun j t ht => by
        rw [Tryd.params3] at ht
        have hm : t ∈ [24, 25, 3] := by simpa using Array.mem_of_getElem? ht
        have hall : ([24, 25, 3].all fun u => !Go.Proofs.Tryd.prog.wantsStandIn u) = true := by kernel_rfl
        exact (show Go.Proofs.Tryd.prog.wantsStandIn t = false by simpa using List.all_eq_true.1 hall t hm)⟩)
    (by kernel_rfl)
theorem walk_DeadFew {W : World} (g : Gr) (keep : List Int) (v0 v1 : Value) (hgl : GlOK (SW W) W GL) (ha : RepL (SW W) H0 W [.agg g.cells, .ro 1 (rowZ keep)] [v0, v1]) :
    Calls Go.Proofs.Tryd.prog 4 #[v0, v1] W fun e w' => e = .returned (.bool true) ∧ Below W.heap.size W w' :=
  VCall.calls (c_DeadFew g keep) Tryd.func4 rfl (by decide +kernel) hgl ha fun S b w' v' h => by
    obtain ⟨S', F, hF, _⟩ := h
    simp only [RepF, RepV] at hF
    exact hF.2
theorem lifted_DeadFew (os : Os) (started : os.Started) (H : Type) (enc : TypeId × Value → H) :
    ReturnsInHanded {} Tryd.checked os 4 .any (fun w args => (Rows.deadFewSpec.pre enc Go.Proofs.Tryd.prog Go.Proofs.Tryd.f4 [] false w args ∧ laidMetH Go.Proofs.Tryd.prog Rows.deadFewRow.laid w) ∧ sizedMet enc Go.Proofs.Tryd.prog Go.Proofs.Tryd.f4 (OpenSpec.ofChange Rows.deadFewSpec) false w args)
      (Rows.deadFewSpec.post enc Go.Proofs.Tryd.prog Go.Proofs.Tryd.f4 false true false false) := by
  refine returnsInHanded_of_change_and (C := Tryd.checked) (X := fun w _ => laidMetH Go.Proofs.Tryd.prog Rows.deadFewRow.laid w) (fun _ _ _ hh h => h.of_heap hh) own started (by kernel_rfl) Tryd.func4
    (ChangeSpec.witness_shaped (enc := enc) (C := Tryd.checked) (os := os) (X := fun w _ => laidMetH Go.Proofs.Tryd.prog Rows.deadFewRow.laid w) false (World.laidAll Go.Proofs.Tryd.prog os Rows.deadFewRow.laid) #[.agg #[.slice none 0 0, .int .i64 0], .slice none 0 0] 8 (World.laidAll_os _ _ _)
      (World.shaped_of_ZipB (by kernel_rfl) (by kernel_rfl)) (by kernel_rfl) (by kernel_rfl) (by kernel_rfl)
      (by rw [MakeChecks.laidMetH_plain _ _ _ (by kernel_rfl)]; exact laidMet_laidAll _ (by kernel_rfl) (by kernel_rfl))) ?_
  intro W base args ds gs before hval0 hW hc _ hL _
  have hval : ∀ (j : Nat) t v, Go.Proofs.Tryd.f4.params[j]? = some t → args[j]? = some v → Value.okWide Go.Proofs.Tryd.prog W .any base t v := hval0
  have hW' := hW
  obtain ⟨p, q, hA0, hV, rfl, _, _⟩ := hW
  have hA : DataW.TrodAll enc Go.Proofs.Tryd.prog W 0 (fun _ => true) true Go.Proofs.Tryd.f4.params.toList args.toList ds p := hA0
  rw [Tryd.params4] at hA hval
  obtain ⟨v0, v1, d0, d1, p0, p1, rfl, rfl, rfl, h0, h1⟩ := trodAll_two hA
  obtain ⟨rfl, rfl⟩ := trodVars_none hV
  rw [MakeChecks.laidMetH_plain _ _ _ (by kernel_rfl)] at hL
  have hL2 := laidMet.tail hL
  obtain ⟨g, keep, hrep⟩ := args_of h0 h1 (hval 0 _ v0 rfl rfl) (hval 1 _ v1 rfl rfl)
  refine (walk_DeadFew g keep v0 v1 (gl_of hL2) hrep).mono fun e W' ⟨he, bel⟩ => ?_
  subst he
  have lt0 : ∀ x ∈ p0, x.block < W.heap.size := by obtain ⟨m, hm⟩ := h0; exact DataW.trod_lt m _ _ _ hm
  have lt1 : ∀ x ∈ p1, x.block < W.heap.size := by obtain ⟨m, hm⟩ := h1; exact DataW.trod_lt m _ _ _ hm
  exact ⟨_, rfl, _, _, _, [], _, [], hW', trodAll_mk1 (shut_bool Tryd.underlying4 _), (trodAll_cons_mk (Below.trod laidOut (by kernel_rfl) (of_decide_eq_true (by kernel_rfl)) h0 bel lt0) (trodAll_cons_mk (Below.trod laidOut (by kernel_rfl) (of_decide_eq_true (by kernel_rfl)) h1 bel lt1) trodAll_mk0)), rfl, bel.frame _, fun h => by cases h⟩
theorem row_DeadFew : Rows.DeadFewSaid :=
  OpenClaim.holds_of_wide 4 Go.Proofs.Tryd.f4 rfl rfl rfl rfl rfl rfl rfl ⟨rfl, rfl, rfl, rfl, rfl⟩ rfl rfl rfl rfl rfl (by kernel_rfl) Tryd.func4 (by kernel_rfl)
    (of_decide_eq_true (by kernel_rfl)) (by unfold Func.isWrapper; first | (rw [if_pos (by decide +kernel)]; kernel_rfl) | (rw [if_neg (by decide +kernel)]; exact ⟨rfl, rfl⟩))
    (fun os started H enc _ => lifted_DeadFew os started H enc)
theorem deadFew_holds : Rows.DeadFewCardSaid :=
  Claim7.holds_tied_plain_at .later [] [.data, .sentinel, .sentinel, .pinned] true Rows.deadFewCard.stood.harness false row_DeadFew (fun _ h => by cases h) (by kernel_rfl) (fun _ h => by cases h) deadFew_row_tie rfl ⟨rfl, rfl⟩ (by kernel_rfl) rfl
    (fun f fn hf hfn => by
      obtain rfl : f = 4 := Option.some.inj ((show Go.Proofs.Tryd.prog.funcNamed "tapewright/tapewrightlaw16.DeadFew" = some 4 by kernel_rfl).symm.trans hf) |>.symm
      obtain rfl : fn = Go.Proofs.Tryd.f4 := (Option.some.inj (Tryd.func4.symm.trans hfn)).symm
      exact ⟨by kernel_rfl, fun j t ht => by
        rw [Tryd.params4] at ht
        have hm : t ∈ [24, 25] := by simpa using Array.mem_of_getElem? ht
        have hall : ([24, 25].all fun u => !Go.Proofs.Tryd.prog.wantsStandIn u) = true := by kernel_rfl
        exact (show Go.Proofs.Tryd.prog.wantsStandIn t = false by simpa using List.all_eq_true.1 hall t hm)⟩)
    (by kernel_rfl)
end Go.Proofs.YtnifmgbamcllaaaDoor
