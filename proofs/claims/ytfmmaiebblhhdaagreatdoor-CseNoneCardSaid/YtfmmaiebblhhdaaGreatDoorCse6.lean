/-
  CseMerges, CsePlaces and CseNone: merging equal nodes of any graph answers as the document says, for every input; no condition.
-/
import Derived.Test.YtfmmaiebblhhdaaGreatDoorCse5
set_option linter.all false
namespace Go.V
open Go.N
set_option maxRecDepth 20000
def T_cMerge : Tab := [(24, i24), (4, i4), (22, i22), (37, i37), (27, i27), (3, i3), (39, i39), (9, i9)]
theorem TOK_cMerge : TOK Go.Proofs.Tryz.prog T_cMerge := ⟨K24, ⟨K4, ⟨K22, ⟨K37, ⟨K27, ⟨K3, ⟨K39, ⟨K9, trivial⟩⟩⟩⟩⟩⟩⟩⟩
theorem mk_op0 {s : ByteArray} (h : opParts s = some 0) : s = sConst ∨ namedOp s = true := by
  rcases opc_cases s with ⟨o, rfl⟩ | hn
  · cases o <;> first | exact .inl rfl | exact .inr rfl | (exact absurd h (by decide))
  · rw [hn] at h; cases h
theorem mk_op1 {s : ByteArray} {m : Nat} (h : opParts s = some m) (hm : 0 < m) : s ≠ sConst ∧ namedOp s = false ∧ inOps s ops2 = decide (m = 2) := by
  rcases opc_cases s with ⟨o, rfl⟩ | hn
  · rw [opc_many] at h
    injection h with h
    subst h
    cases o <;> first | (exact ⟨by decide, rfl, rfl⟩) | (exact absurd hm (by decide))
  · rw [hn] at h; cases h
set_option maxHeartbeats 16000000 in
theorem c_cMerge (g : Gr) (hs : ∀ x ∈ g.nodes, x.Sm) (hl : g.nodes.length ≤ 1000) : VCall Go.Proofs.Tryz.prog GL 8 [.agg g.cells]
    (fun y => y = if grOK g = true then .tup [.agg (mergeG g).1.cells, .ro 1 (rowZ (mergeG g).2), .int .i64 0] else .tup [.agg [.ro 8 [], .int .i64 0], .ro 1 [], .int .i64 1]) := by
  have hR := c_gRight g hs hl
  refine VCall.taken ?_
  cases hg : grOK g
  · rw [hg] at hR
    rw [if_neg (by simp)]
    obtain ⟨l, p⟩ := g
    show VCall _ _ _ [.agg [.ro 8 (rowN l), .int .i64 p]] _
    refine vcall_of TOK_cMerge HM Go.Proofs.Tryz.func8 rfl (by decide +kernel) (by decide +kernel) rfl ?_
    repeat' ((conv => whnf); first | ((with_reducible apply Xq); assumption) | (with_reducible first | apply Xa | (first | apply xi | apply xp | apply xP); omega | apply Xe | refine Xg (by assumption) ?_) | refine Xo (by assumption) ?_ | refine x_0 (by first | assumption | rfl) ?_ | refine x_1 (by first | assumption | rfl) ?_ | refine Or.inl ⟨rfl, ?_⟩ | (split <;> (first | (rename_i u h; clear u) | rename_i h) <;> (try rewrite [h]) <;> (first | replace h := dt h | replace h := df h | replace h := Nt h | replace h := Nf h | skip) <;> (try dsimp only at h) <;> (first | contradiction | (exfalso; omega) | skip)) | (refine Or.inl ⟨_, by assumption, ?_⟩; first | rintro _ rfl | skip))
    all_goals (conv => whnf)
    exact ⟨_, roTo3 (roToA (show RoTo .nils (.ro 8 []) from ⟨8, rfl⟩) rfl) (show RoTo .nils (.ro 1 []) from ⟨1, rfl⟩) rfl, rfl⟩
  rw [hg] at hR
  rw [if_pos rfl]
  obtain ⟨h1, h2, q, hq1, hq⟩ := ok_pre hg
  have hpt := fun {i : Nat} {x : Nd} => @ok_parts g hg i x
  have hfit := fun {i : Nat} {x : Nd} => @ok_fit g hg i x
  have hget : ∀ i (h : i < g.nodes.length), g.nodes[i]? = some g.nodes[i] := fun i h => List.getElem?_eq_getElem h
  have hns := fun {i : Nat} {x : Nd} (hx : g.nodes[i]? = some x) => ok_nosp hg hx
  have hmd := fun {i : Nat} {x : Nd} (hx : g.nodes[i]? = some x) => ok_mid hg hl hx
  clear hg
  obtain ⟨l, p⟩ := g
  dsimp only at hs hl h1 h2 hq1 hq hpt hfit hget hns hmd
  subst hq1
  show VCall _ _ _ [.agg [.ro 8 (rowN l), .int .i64 (q : Nat)]] _
  have hlr := rowN_length l
  have hfin : ∀ pl out, mergeTo l l.length = (pl, out) → mergeG ⟨l, (q : Int)⟩ = (⟨out, atZ pl q⟩, pl) := fun pl out h => by simp only [mergeG, h]
  generalize mergeG ⟨l, (q : Int)⟩ = G at hfin ⊢
  refine vcall_of TOK_cMerge HM Go.Proofs.Tryz.func8 rfl (by decide +kernel) (by decide +kernel) rfl ?_
  repeat' ((conv => whnf); first | ((with_reducible apply Xq); assumption) | (with_reducible first | apply Xa | (first | apply xi | apply xp | apply xP); omega | apply Xe | refine Xg (by assumption) ?_) | refine Xo (by assumption) ?_ | refine x_0 (by first | assumption | rfl) ?_ | refine x_1 (by first | assumption | rfl) ?_ | refine Or.inl ⟨rfl, ?_⟩ | (split <;> (first | (rename_i u h; clear u) | rename_i h) <;> (try rewrite [h]) <;> (first | replace h := dt h | replace h := df h | replace h := Nt h | replace h := Nf h | skip) <;> (try dsimp only at h) <;> (first | contradiction | (exfalso; omega) | skip)) | (refine Or.inl ⟨_, by assumption, ?_⟩; first | rintro _ rfl | skip))
  refine ⟨Int.le_refl _, (show (0 : Int) ≤ ((rowN l).length : Int) by omega), (show ((rowN l).length : Int) ≤ 1073741824 by omega), (show ((rowN l).length : Int) * ((8 : Nat) : Int) ≤ 140737488355328 by omega), 0, rfl, ?_⟩
  repeat' ((conv => whnf); first | ((with_reducible apply Xq); assumption) | (with_reducible first | apply Xa | (first | apply xi | apply xp | apply xP); omega | apply Xe | refine Xg (by assumption) ?_) | refine Xo (by assumption) ?_ | refine x_0 (by first | assumption | rfl) ?_ | refine x_1 (by first | assumption | rfl) ?_ | refine Or.inl ⟨rfl, ?_⟩ | (split <;> (first | (rename_i u h; clear u) | rename_i h) <;> (try rewrite [h]) <;> (first | replace h := dt h | replace h := df h | replace h := Nt h | replace h := Nf h | skip) <;> (try dsimp only at h) <;> (first | contradiction | (exfalso; omega) | skip)) | (refine Or.inl ⟨_, by assumption, ?_⟩; first | rintro _ rfl | skip))
  refine ⟨[1, 2, 5, 6, 7, 23, 24, 25], [0, 1, 2, 3, 4], fun m st => ∃ (i : Nat) (pl : List Int) (out : List Nd) (kv : List (ByteArray × AV)), i ≤ l.length ∧ m = l.length - i ∧ mergeTo l i = (pl, out) ∧ PlK kv out ∧ intK kv ∧
    (i = 0 ∧ kv = [] ∧ st = ⟨[(1, .bptr 0 0), (2, .bptr 1 0), (5, .bptr 2 0), (6, .own 3 0 0), (7, .map 4), (23, .ro 8 (rowN l)), (24, .int .i64 ((rowN l).length : Nat)), (25, .int .i64 (i : Nat))], [.box 24 [.ro 8 (rowN l), .int .i64 (q : Nat)], .box 24 [.nils, .int .i64 0], .box 24 [.nils, .int .i64 0], .row false 3 1 [], .kv []]⟩ ∨
    (0 < i ∧ st = ⟨[(1, .bptr 0 0), (2, .bptr 1 0), (5, .bptr 2 0), (6, .own 3 0 (rowZ pl).length), (7, .map 4), (23, .ro 8 (rowN l)), (24, .int .i64 ((rowN l).length : Nat)), (25, .int .i64 (i : Nat))], [.box 24 [.ro 8 (rowN l), .int .i64 (q : Nat)], .box 24 [.nils, .int .i64 0], .box 24 [.own 5 0 (rowN out).length, .int .i64 0], .row false 3 1 (rowZ pl), .kv kv, .row false 37 8 (rowN out)]⟩)), rfl,
    ⟨l.length, 0, [], [], [], by omega, rfl, rfl, plK_nil, (fun e he => by cases he), .inl ⟨rfl, rfl, rfl⟩⟩, ?_⟩
  rintro m _ ⟨i, pl, out, kv, hi, hm, hpr, hpk0, hik0, hst⟩
  have hlen := merge_len (l := l) i hi
  have hpm := merge_mid hl i hi
  rw [hpr] at hlen hpm
  dsimp only at hlen hpm
  have hpl := rowZ_length pl
  have hol := rowN_length out
  rcases Nat.lt_or_ge i l.length with hil | hge
  · obtain ⟨x, hx⟩ : ∃ x, x = l[i] := ⟨_, rfl⟩
    have hgx : l[i]? = some x := by rw [hx]; exact hget i hil
    have g : (rowN l)[i]? = some x.cells := by rw [hx]; exact rowN_get hil
    clear hx
    have hyn := re_nosp (pl := pl) (hns hgx)
    have hkey := c_key (reN pl x) (reN_sm (hs x (List.mem_of_getElem? hgx))) (re_mid (hmd hgx) hpm)
    have hnx := merge_step hpr hgx
    obtain ⟨m0, hop, F⟩ := hfit hgx
    have hm2 := opParts_le hop
    have h3 : m0 = 0 ∨ m0 = 1 ∨ m0 = 2 := by omega
    have hDn := hpt hgx
    have hb0 : m0 = 0 → x.op = sConst ∨ x.name ≠ ⟨#[]⟩ := fun e => by
      subst e
      rcases mk_op0 hop with h | h
      · exact .inl h
      · exact .inr fun e => by have := F.nm h; rw [e, isName_empty] at this; cases this
    have hb1 : 0 < m0 → x.op ≠ sConst ∧ x.name = ⟨#[]⟩ ∧ inOps x.op ops2 = decide (m0 = 2) := fun h => by
      obtain ⟨e1, e2, e3⟩ := mk_op1 hop h
      exact ⟨e1, F.nn e2, e3⟩
    have hbz := F.b0
    have htwo := c_two GL x.op
    clear F
    rcases hst with ⟨rfl, rfl, rfl⟩ | ⟨h0, rfl⟩
    · obtain ⟨rfl, rfl⟩ : pl = [] ∧ out = [] := by cases hpr; exact ⟨rfl, rfl⟩
      have hfi : firstIx [] (reN [] x) = ([] : List Nd).length := firstIx_none (fun j hj => by simp at hj)
      have hpk := plK_put plK_nil hyn hfi
      have hik := intK_set (kv := []) (fun e he => by cases he) (keyB (reN [] x)) ((0 : Nat) : Int)
      rw [hfi, if_pos rfl] at hnx
      clear hfi hyn hpm hpk0 hik0
      obtain ⟨op, a, b, name, shape, k2, n, data⟩ := x
      rcases h3 with rfl | rfl | rfl
      · simp only [re0 hop] at hnx hkey hpk hik
        have hb : op = sConst ∨ name ≠ ⟨#[]⟩ := hb0 rfl
        repeat' ((conv => whnf); first | ((with_reducible apply Xq); assumption) | (with_reducible first | apply Xa | (first | apply xi | apply xp | apply xP); omega | apply Xe | refine Xg (by assumption) ?_) | refine Xo (by assumption) ?_ | refine x_0 (by first | assumption | rfl) ?_ | refine x_1 (by first | assumption | rfl) ?_ | refine Or.inl ⟨rfl, ?_⟩ | (split <;> (first | (rename_i u h; clear u) | rename_i h) <;> (try rewrite [h]) <;> (first | replace h := dt h | replace h := df h | replace h := Nt h | replace h := Nf h | skip) <;> (try dsimp only at h) <;> (first | contradiction | (exfalso; omega) | skip)) | (refine Or.inl ⟨_, by assumption, ?_⟩; first | rintro _ rfl | skip))
        all_goals refine ⟨.int .i64 0, false, rfl, rfl, ?_⟩
        all_goals (repeat' ((conv => whnf); first | ((with_reducible apply Xq); assumption) | (with_reducible first | apply Xa | (first | apply xi | apply xp | apply xP); omega | apply Xe | refine Xg (by assumption) ?_) | refine Xo (by assumption) ?_ | refine x_0 (by first | assumption | rfl) ?_ | refine x_1 (by first | assumption | rfl) ?_ | refine Or.inl ⟨rfl, ?_⟩ | (split <;> (first | (rename_i u h; clear u) | rename_i h) <;> (try rewrite [h]) <;> (first | replace h := dt h | replace h := df h | replace h := Nt h | replace h := Nf h | skip) <;> (try dsimp only at h) <;> (first | contradiction | (exfalso; omega) | skip)) | (refine Or.inl ⟨_, by assumption, ?_⟩; first | rintro _ rfl | skip)))
        conv => whnf
        refine ⟨Nat.le_of_ble_eq_true rfl, fun h => Nat.succ_ne_zero _ (congrArg List.length h), ?_⟩
        repeat' ((conv => whnf); first | ((with_reducible apply Xq); assumption) | (with_reducible first | apply Xa | (first | apply xi | apply xp | apply xP); omega | apply Xe | refine Xg (by assumption) ?_) | refine Xo (by assumption) ?_ | refine x_0 (by first | assumption | rfl) ?_ | refine x_1 (by first | assumption | rfl) ?_ | refine Or.inl ⟨rfl, ?_⟩ | (split <;> (first | (rename_i u h; clear u) | rename_i h) <;> (try rewrite [h]) <;> (first | replace h := dt h | replace h := df h | replace h := Nt h | replace h := Nf h | skip) <;> (try dsimp only at h) <;> (first | contradiction | (exfalso; omega) | skip)) | (refine Or.inl ⟨_, by assumption, ?_⟩; first | rintro _ rfl | skip))
        refine ⟨Nat.le_refl _, (show (0 + 1) * 8 ≤ 140737488355328 by omega), _, rfl, ?_⟩
        repeat' ((conv => whnf); first | ((with_reducible apply Xq); assumption) | (with_reducible first | apply Xa | (first | apply xi | apply xp | apply xP); omega | apply Xe | refine Xg (by assumption) ?_) | refine Xo (by assumption) ?_ | refine x_0 (by first | assumption | rfl) ?_ | refine x_1 (by first | assumption | rfl) ?_ | refine Or.inl ⟨rfl, ?_⟩ | (split <;> (first | (rename_i u h; clear u) | rename_i h) <;> (try rewrite [h]) <;> (first | replace h := dt h | replace h := df h | replace h := Nt h | replace h := Nf h | skip) <;> (try dsimp only at h) <;> (first | contradiction | (exfalso; omega) | skip)) | (refine Or.inl ⟨_, by assumption, ?_⟩; first | rintro _ rfl | skip))
        refine ⟨[0, 1, 2, 9, 4, 7], l.length - (0 + 1), rfl, by omega, 0 + 1, _, _, _, by omega, rfl, hnx, hpk, hik, .inr ⟨by omega, ?_⟩⟩
        all_goals (refine (congr (congrArg St.mk (?_ : _ = _)) (congr (congrArg List.cons (?_ : _ = _)) (congr (congrArg List.cons (?_ : _ = _)) (congr (congrArg List.cons (?_ : _ = _)) (congr (congrArg List.cons (?_ : _ = _)) (congr (congrArg List.cons (?_ : _ = _)) (congr (congrArg List.cons (?_ : _ = _)) (?_ : _ = _)))))))))
        any_goals rfl
        all_goals (conv => lhs; whnf)
        all_goals refine congrArg Ob.kv ?_
        all_goals refine Eq.trans (congrArg (List.map _) (congrArg (setK [] _) (?_ : _ = AV.int .i64 (0 : Nat)))) (ren_intK _ hik)
        all_goals (conv => lhs; whnf)
      · obtain ⟨u, _, hu⟩ := hDn a (by rw [dP1 hop]; simp)
        omega
      · obtain ⟨u, _, hu⟩ := hDn a (by rw [dP2 hop]; simp)
        omega
    · by_cases hfi : firstIx out (reN pl x) = out.length
      · have hf := plK_new hpk0 hyn hfi
        have hpk := plK_put hpk0 hyn hfi
        have hik := intK_set hik0 (keyB (reN pl x)) (out.length : Nat)
        rw [hfi, if_pos rfl] at hnx
        rw [show out.length = (rowN out).length from (rowN_length out).symm] at hnx hpk hik
        clear hfi hyn hpm hpk0 hik0
        obtain ⟨op, a, b, name, shape, k2, n, data⟩ := x
        rcases h3 with rfl | rfl | rfl
        · simp only [re0 hop] at hnx hf hkey hpk hik
          have hb : op = sConst ∨ name ≠ ⟨#[]⟩ := hb0 rfl
          rcases hb with rfl | hb
          · repeat' ((conv => whnf); first | ((with_reducible apply Xq); assumption) | (with_reducible first | apply Xa | (first | apply xi | apply xp | apply xP); omega | apply Xe | refine Xg (by assumption) ?_) | refine Xo (by assumption) ?_ | refine x_0 (by first | assumption | rfl) ?_ | refine x_1 (by first | assumption | rfl) ?_ | refine Or.inl ⟨rfl, ?_⟩ | (split <;> (first | (rename_i u h; clear u) | rename_i h) <;> (try rewrite [h]) <;> (first | replace h := dt h | replace h := df h | replace h := Nt h | replace h := Nf h | skip) <;> (try dsimp only at h) <;> (first | contradiction | (exfalso; omega) | skip)) | (refine Or.inl ⟨_, by assumption, ?_⟩; first | rintro _ rfl | skip))
            all_goals refine ⟨.int .i64 0, false, by rw [hf]; rfl, by rw [hf]; rfl, ?_⟩
            all_goals (repeat' ((conv => whnf); first | ((with_reducible apply Xq); assumption) | (with_reducible first | apply Xa | (first | apply xi | apply xp | apply xP); omega | apply Xe | refine Xg (by assumption) ?_) | refine Xo (by assumption) ?_ | refine x_0 (by first | assumption | rfl) ?_ | refine x_1 (by first | assumption | rfl) ?_ | refine Or.inl ⟨rfl, ?_⟩ | (split <;> (first | (rename_i u h; clear u) | rename_i h) <;> (try rewrite [h]) <;> (first | replace h := dt h | replace h := df h | replace h := Nt h | replace h := Nf h | skip) <;> (try dsimp only at h) <;> (first | contradiction | (exfalso; omega) | skip)) | (refine Or.inl ⟨_, by assumption, ?_⟩; first | rintro _ rfl | skip)))
            all_goals refine ⟨Nat.le_refl _, (show ((rowN out).length + 1) * 120 ≤ 140737488355328 by omega), _, rowN_snoc out ⟨sConst, a, b, name, shape, k2, n, data⟩ rfl, ?_⟩
            all_goals (repeat' ((conv => whnf); first | ((with_reducible apply Xq); assumption) | (with_reducible first | apply Xa | (first | apply xi | apply xp | apply xP); omega | apply Xe | refine Xg (by assumption) ?_) | refine Xo (by assumption) ?_ | refine x_0 (by first | assumption | rfl) ?_ | refine x_1 (by first | assumption | rfl) ?_ | refine Or.inl ⟨rfl, ?_⟩ | (split <;> (first | (rename_i u h; clear u) | rename_i h) <;> (try rewrite [h]) <;> (first | replace h := dt h | replace h := df h | replace h := Nt h | replace h := Nf h | skip) <;> (try dsimp only at h) <;> (first | contradiction | (exfalso; omega) | skip)) | (refine Or.inl ⟨_, by assumption, ?_⟩; first | rintro _ rfl | skip)))
            all_goals refine ⟨Nat.le_refl _, (show ((rowZ pl).length + 1) * 8 ≤ 140737488355328 by omega), _, rowZ_snoc pl _, ?_⟩
            all_goals (repeat' ((conv => whnf); first | ((with_reducible apply Xq); assumption) | (with_reducible first | apply Xa | (first | apply xi | apply xp | apply xP); omega | apply Xe | refine Xg (by assumption) ?_) | refine Xo (by assumption) ?_ | refine x_0 (by first | assumption | rfl) ?_ | refine x_1 (by first | assumption | rfl) ?_ | refine Or.inl ⟨rfl, ?_⟩ | (split <;> (first | (rename_i u h; clear u) | rename_i h) <;> (try rewrite [h]) <;> (first | replace h := dt h | replace h := df h | replace h := Nt h | replace h := Nf h | skip) <;> (try dsimp only at h) <;> (first | contradiction | (exfalso; omega) | skip)) | (refine Or.inl ⟨_, by assumption, ?_⟩; first | rintro _ rfl | skip)))
            all_goals refine ⟨[0, 1, 2, 10, 4, 8], l.length - (i + 1), rfl, by omega, i + 1, _, _, _, by omega, rfl, hnx, hpk, hik, .inr ⟨by omega, ?_⟩⟩
            all_goals (refine (congr (congrArg St.mk (?_ : _ = _)) (congr (congrArg List.cons (?_ : _ = _)) (congr (congrArg List.cons (?_ : _ = _)) (congr (congrArg List.cons (?_ : _ = _)) (congr (congrArg List.cons (?_ : _ = _)) (congr (congrArg List.cons (?_ : _ = _)) (congr (congrArg List.cons (?_ : _ = _)) (?_ : _ = _)))))))))
            any_goals rfl
            all_goals (conv => lhs; whnf)
            all_goals refine congrArg Ob.kv ?_
            all_goals refine Eq.trans (congrArg (List.map _) (congrArg (setK kv _) (?_ : _ = AV.int .i64 ((rowN out).length : Nat)))) (ren_intK _ hik)
            all_goals (conv => lhs; whnf)
          · repeat' ((conv => whnf); first | ((with_reducible apply Xq); assumption) | (with_reducible first | apply Xa | (first | apply xi | apply xp | apply xP); omega | apply Xe | refine Xg (by assumption) ?_) | refine Xo (by assumption) ?_ | refine x_0 (by first | assumption | rfl) ?_ | refine x_1 (by first | assumption | rfl) ?_ | refine Or.inl ⟨rfl, ?_⟩ | (split <;> (first | (rename_i u h; clear u) | rename_i h) <;> (try rewrite [h]) <;> (first | replace h := dt h | replace h := df h | replace h := Nt h | replace h := Nf h | skip) <;> (try dsimp only at h) <;> (first | contradiction | (exfalso; omega) | skip)) | (refine Or.inl ⟨_, by assumption, ?_⟩; first | rintro _ rfl | skip))
            all_goals refine ⟨.int .i64 0, false, by rw [hf]; rfl, by rw [hf]; rfl, ?_⟩
            all_goals (repeat' ((conv => whnf); first | ((with_reducible apply Xq); assumption) | (with_reducible first | apply Xa | (first | apply xi | apply xp | apply xP); omega | apply Xe | refine Xg (by assumption) ?_) | refine Xo (by assumption) ?_ | refine x_0 (by first | assumption | rfl) ?_ | refine x_1 (by first | assumption | rfl) ?_ | refine Or.inl ⟨rfl, ?_⟩ | (split <;> (first | (rename_i u h; clear u) | rename_i h) <;> (try rewrite [h]) <;> (first | replace h := dt h | replace h := df h | replace h := Nt h | replace h := Nf h | skip) <;> (try dsimp only at h) <;> (first | contradiction | (exfalso; omega) | skip)) | (refine Or.inl ⟨_, by assumption, ?_⟩; first | rintro _ rfl | skip)))
            all_goals refine ⟨Nat.le_refl _, (show ((rowN out).length + 1) * 120 ≤ 140737488355328 by omega), _, rowN_snoc out ⟨op, a, b, name, shape, k2, n, data⟩ rfl, ?_⟩
            all_goals (repeat' ((conv => whnf); first | ((with_reducible apply Xq); assumption) | (with_reducible first | apply Xa | (first | apply xi | apply xp | apply xP); omega | apply Xe | refine Xg (by assumption) ?_) | refine Xo (by assumption) ?_ | refine x_0 (by first | assumption | rfl) ?_ | refine x_1 (by first | assumption | rfl) ?_ | refine Or.inl ⟨rfl, ?_⟩ | (split <;> (first | (rename_i u h; clear u) | rename_i h) <;> (try rewrite [h]) <;> (first | replace h := dt h | replace h := df h | replace h := Nt h | replace h := Nf h | skip) <;> (try dsimp only at h) <;> (first | contradiction | (exfalso; omega) | skip)) | (refine Or.inl ⟨_, by assumption, ?_⟩; first | rintro _ rfl | skip)))
            all_goals refine ⟨Nat.le_refl _, (show ((rowZ pl).length + 1) * 8 ≤ 140737488355328 by omega), _, rowZ_snoc pl _, ?_⟩
            all_goals (repeat' ((conv => whnf); first | ((with_reducible apply Xq); assumption) | (with_reducible first | apply Xa | (first | apply xi | apply xp | apply xP); omega | apply Xe | refine Xg (by assumption) ?_) | refine Xo (by assumption) ?_ | refine x_0 (by first | assumption | rfl) ?_ | refine x_1 (by first | assumption | rfl) ?_ | refine Or.inl ⟨rfl, ?_⟩ | (split <;> (first | (rename_i u h; clear u) | rename_i h) <;> (try rewrite [h]) <;> (first | replace h := dt h | replace h := df h | replace h := Nt h | replace h := Nf h | skip) <;> (try dsimp only at h) <;> (first | contradiction | (exfalso; omega) | skip)) | (refine Or.inl ⟨_, by assumption, ?_⟩; first | rintro _ rfl | skip)))
            all_goals refine ⟨[0, 1, 2, 10, 4, 8], l.length - (i + 1), rfl, by omega, i + 1, _, _, _, by omega, rfl, hnx, hpk, hik, .inr ⟨by omega, ?_⟩⟩
            all_goals (refine (congr (congrArg St.mk (?_ : _ = _)) (congr (congrArg List.cons (?_ : _ = _)) (congr (congrArg List.cons (?_ : _ = _)) (congr (congrArg List.cons (?_ : _ = _)) (congr (congrArg List.cons (?_ : _ = _)) (congr (congrArg List.cons (?_ : _ = _)) (congr (congrArg List.cons (?_ : _ = _)) (?_ : _ = _)))))))))
            any_goals rfl
            all_goals (conv => lhs; whnf)
            all_goals refine congrArg Ob.kv ?_
            all_goals refine Eq.trans (congrArg (List.map _) (congrArg (setK kv _) (?_ : _ = AV.int .i64 ((rowN out).length : Nat)))) (ren_intK _ hik)
            all_goals (conv => lhs; whnf)
        · obtain ⟨hc, hn2, htw⟩ := hb1 (by decide)
          have hb2 := hbz (by decide)
          simp only [re1 hop] at hnx hf hkey hpk hik
          rw [dP1 hop] at hDn
          dsimp only at hnx hDn hf hkey hpk hik hc hn2 htw hb2
          subst hn2
          subst hb2
          rw [show inOps op ops2 = false from htw] at htwo
          obtain ⟨u, rfl, hu⟩ : ∃ u : Nat, a = u ∧ u < i := hDn a (by simp)
          have gu : (rowZ pl)[0 + u]? = some [.int .i64 (atZ pl u)] := by rw [Nat.zero_add, rowZ_get (by omega), atZ_nat (by omega)]
          repeat' ((conv => whnf); first | ((with_reducible apply Xq); assumption) | (with_reducible first | apply Xa | (first | apply xi | apply xp | apply xP); omega | apply Xe | refine Xg (by assumption) ?_) | refine Xo (by assumption) ?_ | refine x_0 (by first | assumption | rfl) ?_ | refine x_1 (by first | assumption | rfl) ?_ | refine Or.inl ⟨rfl, ?_⟩ | (split <;> (first | (rename_i u h; clear u) | rename_i h) <;> (try rewrite [h]) <;> (first | replace h := dt h | replace h := df h | replace h := Nt h | replace h := Nf h | skip) <;> (try dsimp only at h) <;> (first | contradiction | (exfalso; omega) | skip)) | (refine Or.inl ⟨_, by assumption, ?_⟩; first | rintro _ rfl | skip))
          all_goals refine ⟨.int .i64 0, false, by rw [hf]; rfl, by rw [hf]; rfl, ?_⟩
          all_goals (repeat' ((conv => whnf); first | ((with_reducible apply Xq); assumption) | (with_reducible first | apply Xa | (first | apply xi | apply xp | apply xP); omega | apply Xe | refine Xg (by assumption) ?_) | refine Xo (by assumption) ?_ | refine x_0 (by first | assumption | rfl) ?_ | refine x_1 (by first | assumption | rfl) ?_ | refine Or.inl ⟨rfl, ?_⟩ | (split <;> (first | (rename_i u h; clear u) | rename_i h) <;> (try rewrite [h]) <;> (first | replace h := dt h | replace h := df h | replace h := Nt h | replace h := Nf h | skip) <;> (try dsimp only at h) <;> (first | contradiction | (exfalso; omega) | skip)) | (refine Or.inl ⟨_, by assumption, ?_⟩; first | rintro _ rfl | skip)))
          all_goals refine ⟨Nat.le_refl _, (show ((rowN out).length + 1) * 120 ≤ 140737488355328 by omega), _, rowN_snoc out ⟨op, atZ pl u, 0, ⟨#[]⟩, shape, k2, n, data⟩ rfl, ?_⟩
          all_goals (repeat' ((conv => whnf); first | ((with_reducible apply Xq); assumption) | (with_reducible first | apply Xa | (first | apply xi | apply xp | apply xP); omega | apply Xe | refine Xg (by assumption) ?_) | refine Xo (by assumption) ?_ | refine x_0 (by first | assumption | rfl) ?_ | refine x_1 (by first | assumption | rfl) ?_ | refine Or.inl ⟨rfl, ?_⟩ | (split <;> (first | (rename_i u h; clear u) | rename_i h) <;> (try rewrite [h]) <;> (first | replace h := dt h | replace h := df h | replace h := Nt h | replace h := Nf h | skip) <;> (try dsimp only at h) <;> (first | contradiction | (exfalso; omega) | skip)) | (refine Or.inl ⟨_, by assumption, ?_⟩; first | rintro _ rfl | skip)))
          all_goals refine ⟨Nat.le_refl _, (show ((rowZ pl).length + 1) * 8 ≤ 140737488355328 by omega), _, rowZ_snoc pl _, ?_⟩
          all_goals (repeat' ((conv => whnf); first | ((with_reducible apply Xq); assumption) | (with_reducible first | apply Xa | (first | apply xi | apply xp | apply xP); omega | apply Xe | refine Xg (by assumption) ?_) | refine Xo (by assumption) ?_ | refine x_0 (by first | assumption | rfl) ?_ | refine x_1 (by first | assumption | rfl) ?_ | refine Or.inl ⟨rfl, ?_⟩ | (split <;> (first | (rename_i u h; clear u) | rename_i h) <;> (try rewrite [h]) <;> (first | replace h := dt h | replace h := df h | replace h := Nt h | replace h := Nf h | skip) <;> (try dsimp only at h) <;> (first | contradiction | (exfalso; omega) | skip)) | (refine Or.inl ⟨_, by assumption, ?_⟩; first | rintro _ rfl | skip)))
          all_goals refine ⟨[0, 1, 2, 10, 4, 8], l.length - (i + 1), rfl, by omega, i + 1, _, _, _, by omega, rfl, hnx, hpk, hik, .inr ⟨by omega, ?_⟩⟩
          all_goals (refine (congr (congrArg St.mk (?_ : _ = _)) (congr (congrArg List.cons (?_ : _ = _)) (congr (congrArg List.cons (?_ : _ = _)) (congr (congrArg List.cons (?_ : _ = _)) (congr (congrArg List.cons (?_ : _ = _)) (congr (congrArg List.cons (?_ : _ = _)) (congr (congrArg List.cons (?_ : _ = _)) (?_ : _ = _)))))))))
          any_goals rfl
          all_goals (conv => lhs; whnf)
          all_goals refine congrArg Ob.kv ?_
          all_goals refine Eq.trans (congrArg (List.map _) (congrArg (setK kv _) (?_ : _ = AV.int .i64 ((rowN out).length : Nat)))) (ren_intK _ hik)
          all_goals (conv => lhs; whnf)
        · obtain ⟨hc, hn2, htw⟩ := hb1 (by decide)
          simp only [re2 hop] at hnx hf hkey hpk hik
          rw [dP2 hop] at hDn
          dsimp only at hnx hDn hf hkey hpk hik hc hn2 htw
          subst hn2
          rw [show inOps op ops2 = true from htw] at htwo
          obtain ⟨u, rfl, hu⟩ : ∃ u : Nat, a = u ∧ u < i := hDn a (by simp)
          obtain ⟨v, rfl, hv⟩ : ∃ u : Nat, b = u ∧ u < i := hDn b (by simp)
          have gu : (rowZ pl)[0 + u]? = some [.int .i64 (atZ pl u)] := by rw [Nat.zero_add, rowZ_get (by omega), atZ_nat (by omega)]
          have gv : (rowZ pl)[0 + v]? = some [.int .i64 (atZ pl v)] := by rw [Nat.zero_add, rowZ_get (by omega), atZ_nat (by omega)]
          repeat' ((conv => whnf); first | ((with_reducible apply Xq); assumption) | (with_reducible first | apply Xa | (first | apply xi | apply xp | apply xP); omega | apply Xe | refine Xg (by assumption) ?_) | refine Xo (by assumption) ?_ | refine x_0 (by first | assumption | rfl) ?_ | refine x_1 (by first | assumption | rfl) ?_ | refine Or.inl ⟨rfl, ?_⟩ | (split <;> (first | (rename_i u h; clear u) | rename_i h) <;> (try rewrite [h]) <;> (first | replace h := dt h | replace h := df h | replace h := Nt h | replace h := Nf h | skip) <;> (try dsimp only at h) <;> (first | contradiction | (exfalso; omega) | skip)) | (refine Or.inl ⟨_, by assumption, ?_⟩; first | rintro _ rfl | skip))
          all_goals refine ⟨.int .i64 0, false, by rw [hf]; rfl, by rw [hf]; rfl, ?_⟩
          all_goals (repeat' ((conv => whnf); first | ((with_reducible apply Xq); assumption) | (with_reducible first | apply Xa | (first | apply xi | apply xp | apply xP); omega | apply Xe | refine Xg (by assumption) ?_) | refine Xo (by assumption) ?_ | refine x_0 (by first | assumption | rfl) ?_ | refine x_1 (by first | assumption | rfl) ?_ | refine Or.inl ⟨rfl, ?_⟩ | (split <;> (first | (rename_i u h; clear u) | rename_i h) <;> (try rewrite [h]) <;> (first | replace h := dt h | replace h := df h | replace h := Nt h | replace h := Nf h | skip) <;> (try dsimp only at h) <;> (first | contradiction | (exfalso; omega) | skip)) | (refine Or.inl ⟨_, by assumption, ?_⟩; first | rintro _ rfl | skip)))
          all_goals refine ⟨Nat.le_refl _, (show ((rowN out).length + 1) * 120 ≤ 140737488355328 by omega), _, rowN_snoc out ⟨op, atZ pl u, atZ pl v, ⟨#[]⟩, shape, k2, n, data⟩ rfl, ?_⟩
          all_goals (repeat' ((conv => whnf); first | ((with_reducible apply Xq); assumption) | (with_reducible first | apply Xa | (first | apply xi | apply xp | apply xP); omega | apply Xe | refine Xg (by assumption) ?_) | refine Xo (by assumption) ?_ | refine x_0 (by first | assumption | rfl) ?_ | refine x_1 (by first | assumption | rfl) ?_ | refine Or.inl ⟨rfl, ?_⟩ | (split <;> (first | (rename_i u h; clear u) | rename_i h) <;> (try rewrite [h]) <;> (first | replace h := dt h | replace h := df h | replace h := Nt h | replace h := Nf h | skip) <;> (try dsimp only at h) <;> (first | contradiction | (exfalso; omega) | skip)) | (refine Or.inl ⟨_, by assumption, ?_⟩; first | rintro _ rfl | skip)))
          all_goals refine ⟨Nat.le_refl _, (show ((rowZ pl).length + 1) * 8 ≤ 140737488355328 by omega), _, rowZ_snoc pl _, ?_⟩
          all_goals (repeat' ((conv => whnf); first | ((with_reducible apply Xq); assumption) | (with_reducible first | apply Xa | (first | apply xi | apply xp | apply xP); omega | apply Xe | refine Xg (by assumption) ?_) | refine Xo (by assumption) ?_ | refine x_0 (by first | assumption | rfl) ?_ | refine x_1 (by first | assumption | rfl) ?_ | refine Or.inl ⟨rfl, ?_⟩ | (split <;> (first | (rename_i u h; clear u) | rename_i h) <;> (try rewrite [h]) <;> (first | replace h := dt h | replace h := df h | replace h := Nt h | replace h := Nf h | skip) <;> (try dsimp only at h) <;> (first | contradiction | (exfalso; omega) | skip)) | (refine Or.inl ⟨_, by assumption, ?_⟩; first | rintro _ rfl | skip)))
          all_goals refine ⟨[0, 1, 2, 10, 4, 8], l.length - (i + 1), rfl, by omega, i + 1, _, _, _, by omega, rfl, hnx, hpk, hik, .inr ⟨by omega, ?_⟩⟩
          all_goals (refine (congr (congrArg St.mk (?_ : _ = _)) (congr (congrArg List.cons (?_ : _ = _)) (congr (congrArg List.cons (?_ : _ = _)) (congr (congrArg List.cons (?_ : _ = _)) (congr (congrArg List.cons (?_ : _ = _)) (congr (congrArg List.cons (?_ : _ = _)) (congr (congrArg List.cons (?_ : _ = _)) (?_ : _ = _)))))))))
          any_goals rfl
          all_goals (conv => lhs; whnf)
          all_goals refine congrArg Ob.kv ?_
          all_goals refine Eq.trans (congrArg (List.map _) (congrArg (setK kv _) (?_ : _ = AV.int .i64 ((rowN out).length : Nat)))) (ren_intK _ hik)
          all_goals (conv => lhs; whnf)
      · have hf := plK_old hpk0 hyn hfi
        have hpk := hpk0
        have hik := hik0
        rw [if_neg hfi] at hnx
        generalize firstIx out (reN pl x) = k at hnx hf hfi
        clear hfi hyn hpm hpk0 hik0
        obtain ⟨op, a, b, name, shape, k2, n, data⟩ := x
        rcases h3 with rfl | rfl | rfl
        · simp only [re0 hop] at hnx hf hkey hpk hik
          have hb : op = sConst ∨ name ≠ ⟨#[]⟩ := hb0 rfl
          rcases hb with rfl | hb
          · repeat' ((conv => whnf); first | ((with_reducible apply Xq); assumption) | (with_reducible first | apply Xa | (first | apply xi | apply xp | apply xP); omega | apply Xe | refine Xg (by assumption) ?_) | refine Xo (by assumption) ?_ | refine x_0 (by first | assumption | rfl) ?_ | refine x_1 (by first | assumption | rfl) ?_ | refine Or.inl ⟨rfl, ?_⟩ | (split <;> (first | (rename_i u h; clear u) | rename_i h) <;> (try rewrite [h]) <;> (first | replace h := dt h | replace h := df h | replace h := Nt h | replace h := Nf h | skip) <;> (try dsimp only at h) <;> (first | contradiction | (exfalso; omega) | skip)) | (refine Or.inl ⟨_, by assumption, ?_⟩; first | rintro _ rfl | skip))
            all_goals refine ⟨.int .i64 (k : Nat), true, by rw [hf]; rfl, by rw [hf]; rfl, ?_⟩
            all_goals (repeat' ((conv => whnf); first | ((with_reducible apply Xq); assumption) | (with_reducible first | apply Xa | (first | apply xi | apply xp | apply xP); omega | apply Xe | refine Xg (by assumption) ?_) | refine Xo (by assumption) ?_ | refine x_0 (by first | assumption | rfl) ?_ | refine x_1 (by first | assumption | rfl) ?_ | refine Or.inl ⟨rfl, ?_⟩ | (split <;> (first | (rename_i u h; clear u) | rename_i h) <;> (try rewrite [h]) <;> (first | replace h := dt h | replace h := df h | replace h := Nt h | replace h := Nf h | skip) <;> (try dsimp only at h) <;> (first | contradiction | (exfalso; omega) | skip)) | (refine Or.inl ⟨_, by assumption, ?_⟩; first | rintro _ rfl | skip)))
            all_goals refine ⟨Nat.le_refl _, (show ((rowZ pl).length + 1) * 8 ≤ 140737488355328 by omega), _, rowZ_snoc pl _, ?_⟩
            all_goals (repeat' ((conv => whnf); first | ((with_reducible apply Xq); assumption) | (with_reducible first | apply Xa | (first | apply xi | apply xp | apply xP); omega | apply Xe | refine Xg (by assumption) ?_) | refine Xo (by assumption) ?_ | refine x_0 (by first | assumption | rfl) ?_ | refine x_1 (by first | assumption | rfl) ?_ | refine Or.inl ⟨rfl, ?_⟩ | (split <;> (first | (rename_i u h; clear u) | rename_i h) <;> (try rewrite [h]) <;> (first | replace h := dt h | replace h := df h | replace h := Nt h | replace h := Nf h | skip) <;> (try dsimp only at h) <;> (first | contradiction | (exfalso; omega) | skip)) | (refine Or.inl ⟨_, by assumption, ?_⟩; first | rintro _ rfl | skip)))
            all_goals exact ⟨[0, 1, 2, 8, 4, 5], l.length - (i + 1), rfl, by omega, i + 1, _, _, _, by omega, rfl, hnx, hpk, hik, .inr ⟨by omega, Eq.trans rfl (congrArg (fun z : List (ByteArray × AV) => (⟨[(1, .bptr 0 0), (2, .bptr 1 0), (5, .bptr 2 0), (6, .own 3 0 (rowZ (pl ++ [(k : Int)])).length), (7, .map 4), (23, .ro 8 (rowN l)), (24, .int .i64 ((rowN l).length : Nat)), (25, .int .i64 ((i + 1 : Nat) : Int))], [.box 24 [.ro 8 (rowN l), .int .i64 (q : Nat)], .box 24 [.nils, .int .i64 0], .box 24 [.own 5 0 (rowN out).length, .int .i64 0], .row false 3 1 (rowZ (pl ++ [(k : Int)])), .kv z, .row false 37 8 (rowN out)]⟩ : St)) (ren_intK [0, 1, 2, 8, 4, 5] hik))⟩⟩
          · repeat' ((conv => whnf); first | ((with_reducible apply Xq); assumption) | (with_reducible first | apply Xa | (first | apply xi | apply xp | apply xP); omega | apply Xe | refine Xg (by assumption) ?_) | refine Xo (by assumption) ?_ | refine x_0 (by first | assumption | rfl) ?_ | refine x_1 (by first | assumption | rfl) ?_ | refine Or.inl ⟨rfl, ?_⟩ | (split <;> (first | (rename_i u h; clear u) | rename_i h) <;> (try rewrite [h]) <;> (first | replace h := dt h | replace h := df h | replace h := Nt h | replace h := Nf h | skip) <;> (try dsimp only at h) <;> (first | contradiction | (exfalso; omega) | skip)) | (refine Or.inl ⟨_, by assumption, ?_⟩; first | rintro _ rfl | skip))
            all_goals refine ⟨.int .i64 (k : Nat), true, by rw [hf]; rfl, by rw [hf]; rfl, ?_⟩
            all_goals (repeat' ((conv => whnf); first | ((with_reducible apply Xq); assumption) | (with_reducible first | apply Xa | (first | apply xi | apply xp | apply xP); omega | apply Xe | refine Xg (by assumption) ?_) | refine Xo (by assumption) ?_ | refine x_0 (by first | assumption | rfl) ?_ | refine x_1 (by first | assumption | rfl) ?_ | refine Or.inl ⟨rfl, ?_⟩ | (split <;> (first | (rename_i u h; clear u) | rename_i h) <;> (try rewrite [h]) <;> (first | replace h := dt h | replace h := df h | replace h := Nt h | replace h := Nf h | skip) <;> (try dsimp only at h) <;> (first | contradiction | (exfalso; omega) | skip)) | (refine Or.inl ⟨_, by assumption, ?_⟩; first | rintro _ rfl | skip)))
            all_goals refine ⟨Nat.le_refl _, (show ((rowZ pl).length + 1) * 8 ≤ 140737488355328 by omega), _, rowZ_snoc pl _, ?_⟩
            all_goals (repeat' ((conv => whnf); first | ((with_reducible apply Xq); assumption) | (with_reducible first | apply Xa | (first | apply xi | apply xp | apply xP); omega | apply Xe | refine Xg (by assumption) ?_) | refine Xo (by assumption) ?_ | refine x_0 (by first | assumption | rfl) ?_ | refine x_1 (by first | assumption | rfl) ?_ | refine Or.inl ⟨rfl, ?_⟩ | (split <;> (first | (rename_i u h; clear u) | rename_i h) <;> (try rewrite [h]) <;> (first | replace h := dt h | replace h := df h | replace h := Nt h | replace h := Nf h | skip) <;> (try dsimp only at h) <;> (first | contradiction | (exfalso; omega) | skip)) | (refine Or.inl ⟨_, by assumption, ?_⟩; first | rintro _ rfl | skip)))
            all_goals exact ⟨[0, 1, 2, 8, 4, 5], l.length - (i + 1), rfl, by omega, i + 1, _, _, _, by omega, rfl, hnx, hpk, hik, .inr ⟨by omega, Eq.trans rfl (congrArg (fun z : List (ByteArray × AV) => (⟨[(1, .bptr 0 0), (2, .bptr 1 0), (5, .bptr 2 0), (6, .own 3 0 (rowZ (pl ++ [(k : Int)])).length), (7, .map 4), (23, .ro 8 (rowN l)), (24, .int .i64 ((rowN l).length : Nat)), (25, .int .i64 ((i + 1 : Nat) : Int))], [.box 24 [.ro 8 (rowN l), .int .i64 (q : Nat)], .box 24 [.nils, .int .i64 0], .box 24 [.own 5 0 (rowN out).length, .int .i64 0], .row false 3 1 (rowZ (pl ++ [(k : Int)])), .kv z, .row false 37 8 (rowN out)]⟩ : St)) (ren_intK [0, 1, 2, 8, 4, 5] hik))⟩⟩
        · obtain ⟨hc, hn2, htw⟩ := hb1 (by decide)
          have hb2 := hbz (by decide)
          simp only [re1 hop] at hnx hf hkey hpk hik
          rw [dP1 hop] at hDn
          dsimp only at hnx hDn hf hkey hpk hik hc hn2 htw hb2
          subst hn2
          subst hb2
          rw [show inOps op ops2 = false from htw] at htwo
          obtain ⟨u, rfl, hu⟩ : ∃ u : Nat, a = u ∧ u < i := hDn a (by simp)
          have gu : (rowZ pl)[0 + u]? = some [.int .i64 (atZ pl u)] := by rw [Nat.zero_add, rowZ_get (by omega), atZ_nat (by omega)]
          repeat' ((conv => whnf); first | ((with_reducible apply Xq); assumption) | (with_reducible first | apply Xa | (first | apply xi | apply xp | apply xP); omega | apply Xe | refine Xg (by assumption) ?_) | refine Xo (by assumption) ?_ | refine x_0 (by first | assumption | rfl) ?_ | refine x_1 (by first | assumption | rfl) ?_ | refine Or.inl ⟨rfl, ?_⟩ | (split <;> (first | (rename_i u h; clear u) | rename_i h) <;> (try rewrite [h]) <;> (first | replace h := dt h | replace h := df h | replace h := Nt h | replace h := Nf h | skip) <;> (try dsimp only at h) <;> (first | contradiction | (exfalso; omega) | skip)) | (refine Or.inl ⟨_, by assumption, ?_⟩; first | rintro _ rfl | skip))
          all_goals refine ⟨.int .i64 (k : Nat), true, by rw [hf]; rfl, by rw [hf]; rfl, ?_⟩
          all_goals (repeat' ((conv => whnf); first | ((with_reducible apply Xq); assumption) | (with_reducible first | apply Xa | (first | apply xi | apply xp | apply xP); omega | apply Xe | refine Xg (by assumption) ?_) | refine Xo (by assumption) ?_ | refine x_0 (by first | assumption | rfl) ?_ | refine x_1 (by first | assumption | rfl) ?_ | refine Or.inl ⟨rfl, ?_⟩ | (split <;> (first | (rename_i u h; clear u) | rename_i h) <;> (try rewrite [h]) <;> (first | replace h := dt h | replace h := df h | replace h := Nt h | replace h := Nf h | skip) <;> (try dsimp only at h) <;> (first | contradiction | (exfalso; omega) | skip)) | (refine Or.inl ⟨_, by assumption, ?_⟩; first | rintro _ rfl | skip)))
          all_goals refine ⟨Nat.le_refl _, (show ((rowZ pl).length + 1) * 8 ≤ 140737488355328 by omega), _, rowZ_snoc pl _, ?_⟩
          all_goals (repeat' ((conv => whnf); first | ((with_reducible apply Xq); assumption) | (with_reducible first | apply Xa | (first | apply xi | apply xp | apply xP); omega | apply Xe | refine Xg (by assumption) ?_) | refine Xo (by assumption) ?_ | refine x_0 (by first | assumption | rfl) ?_ | refine x_1 (by first | assumption | rfl) ?_ | refine Or.inl ⟨rfl, ?_⟩ | (split <;> (first | (rename_i u h; clear u) | rename_i h) <;> (try rewrite [h]) <;> (first | replace h := dt h | replace h := df h | replace h := Nt h | replace h := Nf h | skip) <;> (try dsimp only at h) <;> (first | contradiction | (exfalso; omega) | skip)) | (refine Or.inl ⟨_, by assumption, ?_⟩; first | rintro _ rfl | skip)))
          all_goals exact ⟨[0, 1, 2, 8, 4, 5], l.length - (i + 1), rfl, by omega, i + 1, _, _, _, by omega, rfl, hnx, hpk, hik, .inr ⟨by omega, Eq.trans rfl (congrArg (fun z : List (ByteArray × AV) => (⟨[(1, .bptr 0 0), (2, .bptr 1 0), (5, .bptr 2 0), (6, .own 3 0 (rowZ (pl ++ [(k : Int)])).length), (7, .map 4), (23, .ro 8 (rowN l)), (24, .int .i64 ((rowN l).length : Nat)), (25, .int .i64 ((i + 1 : Nat) : Int))], [.box 24 [.ro 8 (rowN l), .int .i64 (q : Nat)], .box 24 [.nils, .int .i64 0], .box 24 [.own 5 0 (rowN out).length, .int .i64 0], .row false 3 1 (rowZ (pl ++ [(k : Int)])), .kv z, .row false 37 8 (rowN out)]⟩ : St)) (ren_intK [0, 1, 2, 8, 4, 5] hik))⟩⟩
        · obtain ⟨hc, hn2, htw⟩ := hb1 (by decide)
          simp only [re2 hop] at hnx hf hkey hpk hik
          rw [dP2 hop] at hDn
          dsimp only at hnx hDn hf hkey hpk hik hc hn2 htw
          subst hn2
          rw [show inOps op ops2 = true from htw] at htwo
          obtain ⟨u, rfl, hu⟩ : ∃ u : Nat, a = u ∧ u < i := hDn a (by simp)
          obtain ⟨v, rfl, hv⟩ : ∃ u : Nat, b = u ∧ u < i := hDn b (by simp)
          have gu : (rowZ pl)[0 + u]? = some [.int .i64 (atZ pl u)] := by rw [Nat.zero_add, rowZ_get (by omega), atZ_nat (by omega)]
          have gv : (rowZ pl)[0 + v]? = some [.int .i64 (atZ pl v)] := by rw [Nat.zero_add, rowZ_get (by omega), atZ_nat (by omega)]
          repeat' ((conv => whnf); first | ((with_reducible apply Xq); assumption) | (with_reducible first | apply Xa | (first | apply xi | apply xp | apply xP); omega | apply Xe | refine Xg (by assumption) ?_) | refine Xo (by assumption) ?_ | refine x_0 (by first | assumption | rfl) ?_ | refine x_1 (by first | assumption | rfl) ?_ | refine Or.inl ⟨rfl, ?_⟩ | (split <;> (first | (rename_i u h; clear u) | rename_i h) <;> (try rewrite [h]) <;> (first | replace h := dt h | replace h := df h | replace h := Nt h | replace h := Nf h | skip) <;> (try dsimp only at h) <;> (first | contradiction | (exfalso; omega) | skip)) | (refine Or.inl ⟨_, by assumption, ?_⟩; first | rintro _ rfl | skip))
          all_goals refine ⟨.int .i64 (k : Nat), true, by rw [hf]; rfl, by rw [hf]; rfl, ?_⟩
          all_goals (repeat' ((conv => whnf); first | ((with_reducible apply Xq); assumption) | (with_reducible first | apply Xa | (first | apply xi | apply xp | apply xP); omega | apply Xe | refine Xg (by assumption) ?_) | refine Xo (by assumption) ?_ | refine x_0 (by first | assumption | rfl) ?_ | refine x_1 (by first | assumption | rfl) ?_ | refine Or.inl ⟨rfl, ?_⟩ | (split <;> (first | (rename_i u h; clear u) | rename_i h) <;> (try rewrite [h]) <;> (first | replace h := dt h | replace h := df h | replace h := Nt h | replace h := Nf h | skip) <;> (try dsimp only at h) <;> (first | contradiction | (exfalso; omega) | skip)) | (refine Or.inl ⟨_, by assumption, ?_⟩; first | rintro _ rfl | skip)))
          all_goals refine ⟨Nat.le_refl _, (show ((rowZ pl).length + 1) * 8 ≤ 140737488355328 by omega), _, rowZ_snoc pl _, ?_⟩
          all_goals (repeat' ((conv => whnf); first | ((with_reducible apply Xq); assumption) | (with_reducible first | apply Xa | (first | apply xi | apply xp | apply xP); omega | apply Xe | refine Xg (by assumption) ?_) | refine Xo (by assumption) ?_ | refine x_0 (by first | assumption | rfl) ?_ | refine x_1 (by first | assumption | rfl) ?_ | refine Or.inl ⟨rfl, ?_⟩ | (split <;> (first | (rename_i u h; clear u) | rename_i h) <;> (try rewrite [h]) <;> (first | replace h := dt h | replace h := df h | replace h := Nt h | replace h := Nf h | skip) <;> (try dsimp only at h) <;> (first | contradiction | (exfalso; omega) | skip)) | (refine Or.inl ⟨_, by assumption, ?_⟩; first | rintro _ rfl | skip)))
          all_goals exact ⟨[0, 1, 2, 8, 4, 5], l.length - (i + 1), rfl, by omega, i + 1, _, _, _, by omega, rfl, hnx, hpk, hik, .inr ⟨by omega, Eq.trans rfl (congrArg (fun z : List (ByteArray × AV) => (⟨[(1, .bptr 0 0), (2, .bptr 1 0), (5, .bptr 2 0), (6, .own 3 0 (rowZ (pl ++ [(k : Int)])).length), (7, .map 4), (23, .ro 8 (rowN l)), (24, .int .i64 ((rowN l).length : Nat)), (25, .int .i64 ((i + 1 : Nat) : Int))], [.box 24 [.ro 8 (rowN l), .int .i64 (q : Nat)], .box 24 [.nils, .int .i64 0], .box 24 [.own 5 0 (rowN out).length, .int .i64 0], .row false 3 1 (rowZ (pl ++ [(k : Int)])), .kv z, .row false 37 8 (rowN out)]⟩ : St)) (ren_intK [0, 1, 2, 8, 4, 5] hik))⟩⟩
  · have hi2 : i = l.length := by omega
    subst hi2
    have hG := hfin pl out hpr
    have gq : (rowZ pl)[0 + q]? = some [.int .i64 (atZ pl q)] := by rw [Nat.zero_add, rowZ_get (by omega), atZ_nat (by omega)]
    rcases hst with ⟨h0, _, rfl⟩ | ⟨h0, rfl⟩
    · omega
    · repeat' ((conv => whnf); first | ((with_reducible apply Xq); assumption) | (with_reducible first | apply Xa | (first | apply xi | apply xp | apply xP); omega | apply Xe | refine Xg (by assumption) ?_) | refine Xo (by assumption) ?_ | refine x_0 (by first | assumption | rfl) ?_ | refine x_1 (by first | assumption | rfl) ?_ | refine Or.inl ⟨rfl, ?_⟩ | (split <;> (first | (rename_i u h; clear u) | rename_i h) <;> (try rewrite [h]) <;> (first | replace h := dt h | replace h := df h | replace h := Nt h | replace h := Nf h | skip) <;> (try dsimp only at h) <;> (first | contradiction | (exfalso; omega) | skip)) | (refine Or.inl ⟨_, by assumption, ?_⟩; first | rintro _ rfl | skip))
      all_goals (conv => whnf)
      exact ⟨_, roTo3 (roToA rfl rfl) rfl rfl, by rw [hG]; rfl⟩
end Go.V
namespace Go.V
open Go.N
set_option maxRecDepth 20000
def T_r15_Merge : Tab := [(24, i24), (22, i22), (37, i37), (3, i3), (9, i9), (27, i27)]
theorem TOK_r15_Merge : TOK Go.Proofs.Tryz.prog T_r15_Merge := ⟨K24, ⟨K22, ⟨K37, ⟨K3, ⟨K9, ⟨K27, trivial⟩⟩⟩⟩⟩⟩
def LowAt (out : List Nd) (y : Nd) (m a : Nat) : Prop := (a = out.length ∧ ∀ j (hj : j < out.length), m ≤ j → out[j] ≠ y) ∨ (m ≤ a ∧ ∃ h : a < out.length, out[a] = y ∧ ∀ j (hj : j < a), m ≤ j → out[j]'(by omega) ≠ y)
theorem low_top (out : List Nd) (y : Nd) : LowAt out y out.length out.length := .inl ⟨rfl, fun j hj h => by omega⟩
theorem low_eq {out : List Nd} {y : Nd} {a m : Nat} (h : LowAt out y (m + 1) a) (hm : m < out.length) (e : out[m] = y) : LowAt out y m m := .inr ⟨Nat.le_refl _, hm, e, fun j hj h => by omega⟩
theorem low_ne {out : List Nd} {y : Nd} {a m : Nat} (h : LowAt out y (m + 1) a) (hm : m < out.length) (e : out[m] ≠ y) : LowAt out y m a := by
  rcases h with ⟨h1, h2⟩ | ⟨h1, h2, h3, h4⟩
  · exact .inl ⟨h1, fun j hj hmj => by
      rcases Nat.eq_or_lt_of_le hmj with h | h
      · subst h; exact e
      · exact h2 j hj h⟩
  · exact .inr ⟨by omega, h2, h3, fun j hj hmj => by
      rcases Nat.eq_or_lt_of_le hmj with h | h
      · subst h; exact e
      · exact h4 j hj h⟩
theorem low_first {out : List Nd} {y : Nd} {a : Nat} (h : LowAt out y 0 a) : a = firstIx out y := by
  rcases h with ⟨h1, h2⟩ | ⟨_, h2, h3, h4⟩
  · rw [firstIx_none (fun j hj => h2 j hj (Nat.zero_le _)), h1]
  · exact (firstIx_lt h2 h3 (fun j hj => h4 j hj (Nat.zero_le _))).symm
theorem partsZ_some {s : ByteArray} {m : Nat} (h : opParts s = some m) : partsZ s = (m : Int) := by simp only [partsZ, h]
set_option maxHeartbeats 16000000 in
theorem c_r15_Merge (g : Gr) (hg : grOK g = true) (hs : ∀ x ∈ g.nodes, x.Sm) (hl : g.nodes.length ≤ 1000) : VCall Go.Proofs.Tryz.prog GL 10 [.agg g.cells]
    (fun y => y = .tup [.agg (mergeG g).1.cells, .ro 1 (rowZ (mergeG g).2)]) := by
  refine VCall.taken ?_
  obtain ⟨h1, h2, q, hq1, hq⟩ := ok_pre hg
  have hpt := fun {i : Nat} {x : Nd} => @ok_parts g hg i x
  have hfit := fun {i : Nat} {x : Nd} => @ok_fit g hg i x
  have hget : ∀ i (h : i < g.nodes.length), g.nodes[i]? = some g.nodes[i] := fun i h => List.getElem?_eq_getElem h
  clear hg
  obtain ⟨l, p⟩ := g
  dsimp only at hs hl h1 h2 hq1 hq hpt hfit hget
  subst hq1
  show VCall _ _ _ [.agg [.ro 8 (rowN l), .int .i64 (q : Nat)]] _
  have hlr := rowN_length l
  have hfin : ∀ pl out, mergeTo l l.length = (pl, out) → mergeG ⟨l, (q : Int)⟩ = (⟨out, atZ pl q⟩, pl) := fun pl out h => by simp only [mergeG, h]
  generalize mergeG ⟨l, (q : Int)⟩ = G at hfin ⊢
  refine vcall_of TOK_r15_Merge HM Go.Proofs.Tryz.func10 rfl (by decide +kernel) (by decide +kernel) rfl ?_
  repeat' ((conv => whnf); first | ((with_reducible apply Xq); assumption) | (with_reducible first | apply Xa | (first | apply xi | apply xp | apply xP); omega | apply Xe | refine Xg (by assumption) ?_) | refine Xo (by assumption) ?_ | refine x_0 (by first | assumption | rfl) ?_ | refine x_1 (by first | assumption | rfl) ?_ | refine Or.inl ⟨rfl, ?_⟩ | (split <;> (first | (rename_i u h; clear u) | rename_i h) <;> (try rewrite [h]) <;> (first | replace h := dt h | replace h := df h | replace h := Nt h | replace h := Nf h | skip) <;> (try dsimp only at h) <;> (first | contradiction | (exfalso; omega) | skip)) | (refine Or.inl ⟨_, by assumption, ?_⟩; first | rintro _ rfl | skip))
  refine ⟨[1, 2, 4, 5, 6], [0, 1, 2], fun m st => ∃ (i : Nat) (pl : List Int) (out : List Nd), i ≤ l.length ∧ m = l.length - i ∧ mergeTo l i = (pl, out) ∧
    (i = 0 ∧ st = ⟨[(1, .bptr 0 0), (2, .bptr 1 0), (4, .bptr 2 0), (5, .nils), (6, .int .i64 (i : Nat))], [.box 24 [.ro 8 (rowN l), .int .i64 (q : Nat)], .box 24 [.nils, .int .i64 0], .box 24 [.nils, .int .i64 0]]⟩ ∨
    (0 < i ∧ st = ⟨[(1, .bptr 0 0), (2, .bptr 1 0), (4, .bptr 2 0), (5, .own 3 0 (rowZ pl).length), (6, .int .i64 (i : Nat))], [.box 24 [.ro 8 (rowN l), .int .i64 (q : Nat)], .box 24 [.nils, .int .i64 0], .box 24 [.own 4 0 (rowN out).length, .int .i64 0], .row false 3 1 (rowZ pl), .row false 37 8 (rowN out)]⟩)), rfl,
    ⟨l.length, 0, [], [], by omega, rfl, rfl, .inl ⟨rfl, rfl⟩⟩, ?_⟩
  rintro m _ ⟨i, pl, out, hi, hm, hpr, hst⟩
  have hlen := merge_len (l := l) i hi
  rw [hpr] at hlen
  dsimp only at hlen
  have hpl := rowZ_length pl
  have hol := rowN_length out
  rcases Nat.lt_or_ge i l.length with hil | hge
  · obtain ⟨x, hx⟩ : ∃ x, x = l[i] := ⟨_, rfl⟩
    have hgx : l[i]? = some x := by rw [hx]; exact hget i hil
    have g : (rowN l)[i]? = some x.cells := by rw [hx]; exact rowN_get hil
    clear hx
    have hnx := merge_step hpr hgx
    obtain ⟨m0, hop, F⟩ := hfit hgx
    have hm2 := opParts_le hop
    have h3 : m0 = 0 ∨ m0 = 1 ∨ m0 = 2 := by omega
    have hDn := hpt hgx
    have hdp := c_r10_Parts GL x.op
    have hso := merge_sm hs i
    rw [hpr] at hso
    have hys := reN_sm (pl := pl) (hs x (List.mem_of_getElem? hgx))
    rw [partsZ_some hop] at hdp
    obtain ⟨op, a, b, name, shape, k2, n, data⟩ := x
    rcases hst with ⟨rfl, rfl⟩ | ⟨h0, rfl⟩
    · obtain ⟨rfl, rfl⟩ : pl = [] ∧ out = [] := by cases hpr; exact ⟨rfl, rfl⟩
      have hfi : firstIx [] (reN [] ⟨op, a, b, name, shape, k2, n, data⟩) = ([] : List Nd).length := firstIx_none (fun j hj => by simp at hj)
      rw [hfi, if_pos rfl] at hnx
      rcases h3 with rfl | rfl | rfl
      · simp only [re0 hop] at hnx
        repeat' ((conv => whnf); first | ((with_reducible apply Xq); assumption) | (with_reducible first | apply Xa | (first | apply xi | apply xp | apply xP); omega | apply Xe | refine Xg (by assumption) ?_) | refine Xo (by assumption) ?_ | refine x_0 (by first | assumption | rfl) ?_ | refine x_1 (by first | assumption | rfl) ?_ | refine Or.inl ⟨rfl, ?_⟩ | (split <;> (first | (rename_i u h; clear u) | rename_i h) <;> (try rewrite [h]) <;> (first | replace h := dt h | replace h := df h | replace h := Nt h | replace h := Nf h | skip) <;> (try dsimp only at h) <;> (first | contradiction | (exfalso; omega) | skip)) | (refine Or.inl ⟨_, by assumption, ?_⟩; first | rintro _ rfl | skip))
        refine ⟨[1, 2, 4, 5, 6, 7, 9, 10], [0, 1, 2, 3], fun m st => m = 0 ∧ st = ⟨[(1, .bptr 0 0), (2, .bptr 1 0), (4, .bptr 2 0), (5, .nils), (6, .int .i64 ((0 : Nat) : Int)), (7, .bptr 3 0), (9, .int .i64 0), (10, .int .i64 (-1))], [.box 24 [.ro 8 (rowN l), .int .i64 (q : Nat)], .box 24 [.nils, .int .i64 0], .box 24 [.nils, .int .i64 0], .box 37 (Nd.cells ⟨op, a, b, name, shape, k2, n, data⟩)]⟩, rfl, ⟨0, rfl, rfl⟩, ?_⟩
        rintro m2 _ ⟨rfl, rfl⟩
        repeat' ((conv => whnf); first | ((with_reducible apply Xq); assumption) | (with_reducible first | apply Xa | (first | apply xi | apply xp | apply xP); omega | apply Xe | refine Xg (by assumption) ?_) | refine Xo (by assumption) ?_ | refine x_0 (by first | assumption | rfl) ?_ | refine x_1 (by first | assumption | rfl) ?_ | refine Or.inl ⟨rfl, ?_⟩ | (split <;> (first | (rename_i u h; clear u) | rename_i h) <;> (try rewrite [h]) <;> (first | replace h := dt h | replace h := df h | replace h := Nt h | replace h := Nf h | skip) <;> (try dsimp only at h) <;> (first | contradiction | (exfalso; omega) | skip)) | (refine Or.inl ⟨_, by assumption, ?_⟩; first | rintro _ rfl | skip))
        conv => whnf
        refine ⟨Nat.le_of_ble_eq_true rfl, fun h => Nat.succ_ne_zero _ (congrArg List.length h), ?_⟩
        repeat' ((conv => whnf); first | ((with_reducible apply Xq); assumption) | (with_reducible first | apply Xa | (first | apply xi | apply xp | apply xP); omega | apply Xe | refine Xg (by assumption) ?_) | refine Xo (by assumption) ?_ | refine x_0 (by first | assumption | rfl) ?_ | refine x_1 (by first | assumption | rfl) ?_ | refine Or.inl ⟨rfl, ?_⟩ | (split <;> (first | (rename_i u h; clear u) | rename_i h) <;> (try rewrite [h]) <;> (first | replace h := dt h | replace h := df h | replace h := Nt h | replace h := Nf h | skip) <;> (try dsimp only at h) <;> (first | contradiction | (exfalso; omega) | skip)) | (refine Or.inl ⟨_, by assumption, ?_⟩; first | rintro _ rfl | skip))
        conv => whnf
        refine ⟨Nat.le_of_ble_eq_true rfl, fun h => Nat.succ_ne_zero _ (congrArg List.length h), ?_⟩
        repeat' ((conv => whnf); first | ((with_reducible apply Xq); assumption) | (with_reducible first | apply Xa | (first | apply xi | apply xp | apply xP); omega | apply Xe | refine Xg (by assumption) ?_) | refine Xo (by assumption) ?_ | refine x_0 (by first | assumption | rfl) ?_ | refine x_1 (by first | assumption | rfl) ?_ | refine Or.inl ⟨rfl, ?_⟩ | (split <;> (first | (rename_i u h; clear u) | rename_i h) <;> (try rewrite [h]) <;> (first | replace h := dt h | replace h := df h | replace h := Nt h | replace h := Nf h | skip) <;> (try dsimp only at h) <;> (first | contradiction | (exfalso; omega) | skip)) | (refine Or.inl ⟨_, by assumption, ?_⟩; first | rintro _ rfl | skip))
        exact ⟨[0, 1, 2, 7, 5], l.length - (0 + 1), rfl, by omega, 0 + 1, _, [⟨op, a, b, name, shape, k2, n, data⟩], by omega, rfl, hnx, .inr ⟨by omega, rfl⟩⟩
      · obtain ⟨u, _, hu⟩ := hDn a (by rw [dP1 hop]; simp)
        omega
      · obtain ⟨u, _, hu⟩ := hDn a (by rw [dP2 hop]; simp)
        omega
    · rcases h3 with rfl | rfl | rfl
      · simp only [re0 hop] at hnx hys
        repeat' ((conv => whnf); first | ((with_reducible apply Xq); assumption) | (with_reducible first | apply Xa | (first | apply xi | apply xp | apply xP); omega | apply Xe | refine Xg (by assumption) ?_) | refine Xo (by assumption) ?_ | refine x_0 (by first | assumption | rfl) ?_ | refine x_1 (by first | assumption | rfl) ?_ | refine Or.inl ⟨rfl, ?_⟩ | (split <;> (first | (rename_i u h; clear u) | rename_i h) <;> (try rewrite [h]) <;> (first | replace h := dt h | replace h := df h | replace h := Nt h | replace h := Nf h | skip) <;> (try dsimp only at h) <;> (first | contradiction | (exfalso; omega) | skip)) | (refine Or.inl ⟨_, by assumption, ?_⟩; first | rintro _ rfl | skip))
        refine ⟨[1, 2, 4, 5, 6, 7, 9, 10], [0, 1, 2, 3, 4, 5], fun m st => ∃ (at0 : Nat) (e : Int), e = (m : Int) - 1 ∧ m ≤ out.length ∧ LowAt out ⟨op, a, b, name, shape, k2, n, data⟩ m at0 ∧ st = ⟨[(1, .bptr 0 0), (2, .bptr 1 0), (4, .bptr 2 0), (5, .own 3 0 (rowZ pl).length), (6, .int .i64 (i : Nat)), (7, .bptr 5 0), (9, .int .i64 (at0 : Nat)), (10, .int .i64 e)], [.box 24 [.ro 8 (rowN l), .int .i64 (q : Nat)], .box 24 [.nils, .int .i64 0], .box 24 [.own 4 0 (rowN out).length, .int .i64 0], .row false 3 1 (rowZ pl), .row false 37 8 (rowN out), .box 37 (Nd.cells ⟨op, a, b, name, shape, k2, n, data⟩)]⟩, rfl,
          ⟨out.length, (rowN out).length, ((rowN out).length : Int) - 1, by omega, Nat.le_refl _, by rw [hol]; exact low_top _ _, rfl⟩, ?_⟩
        rintro m2 _ ⟨a2, e, he, hm3, hlow, rfl⟩
        rcases m2 with _ | k3
        · obtain rfl : e = -1 := by omega
          have hfx := low_first hlow
          rw [← hfx] at hnx
          by_cases hfe : a2 = out.length
          · rw [if_pos hfe] at hnx
            repeat' ((conv => whnf); first | ((with_reducible apply Xq); assumption) | (with_reducible first | apply Xa | (first | apply xi | apply xp | apply xP); omega | apply Xe | refine Xg (by assumption) ?_) | refine Xo (by assumption) ?_ | refine x_0 (by first | assumption | rfl) ?_ | refine x_1 (by first | assumption | rfl) ?_ | refine Or.inl ⟨rfl, ?_⟩ | (split <;> (first | (rename_i u h; clear u) | rename_i h) <;> (try rewrite [h]) <;> (first | replace h := dt h | replace h := df h | replace h := Nt h | replace h := Nf h | skip) <;> (try dsimp only at h) <;> (first | contradiction | (exfalso; omega) | skip)) | (refine Or.inl ⟨_, by assumption, ?_⟩; first | rintro _ rfl | skip))
            refine ⟨Nat.le_refl _, (show ((rowN out).length + 1) * 120 ≤ 140737488355328 by omega), _, rowN_snoc out ⟨op, a, b, name, shape, k2, n, data⟩ rfl, ?_⟩
            repeat' ((conv => whnf); first | ((with_reducible apply Xq); assumption) | (with_reducible first | apply Xa | (first | apply xi | apply xp | apply xP); omega | apply Xe | refine Xg (by assumption) ?_) | refine Xo (by assumption) ?_ | refine x_0 (by first | assumption | rfl) ?_ | refine x_1 (by first | assumption | rfl) ?_ | refine Or.inl ⟨rfl, ?_⟩ | (split <;> (first | (rename_i u h; clear u) | rename_i h) <;> (try rewrite [h]) <;> (first | replace h := dt h | replace h := df h | replace h := Nt h | replace h := Nf h | skip) <;> (try dsimp only at h) <;> (first | contradiction | (exfalso; omega) | skip)) | (refine Or.inl ⟨_, by assumption, ?_⟩; first | rintro _ rfl | skip))
            refine ⟨Nat.le_refl _, (show ((rowZ pl).length + 1) * 8 ≤ 140737488355328 by omega), _, rowZ_snoc pl _, ?_⟩
            repeat' ((conv => whnf); first | ((with_reducible apply Xq); assumption) | (with_reducible first | apply Xa | (first | apply xi | apply xp | apply xP); omega | apply Xe | refine Xg (by assumption) ?_) | refine Xo (by assumption) ?_ | refine x_0 (by first | assumption | rfl) ?_ | refine x_1 (by first | assumption | rfl) ?_ | refine Or.inl ⟨rfl, ?_⟩ | (split <;> (first | (rename_i u h; clear u) | rename_i h) <;> (try rewrite [h]) <;> (first | replace h := dt h | replace h := df h | replace h := Nt h | replace h := Nf h | skip) <;> (try dsimp only at h) <;> (first | contradiction | (exfalso; omega) | skip)) | (refine Or.inl ⟨_, by assumption, ?_⟩; first | rintro _ rfl | skip))
            exact ⟨[0, 1, 2, 9, 7], l.length - (i + 1), rfl, by omega, i + 1, _, _, by omega, rfl, hnx, .inr ⟨by omega, rfl⟩⟩
          · rw [if_neg hfe] at hnx
            repeat' ((conv => whnf); first | ((with_reducible apply Xq); assumption) | (with_reducible first | apply Xa | (first | apply xi | apply xp | apply xP); omega | apply Xe | refine Xg (by assumption) ?_) | refine Xo (by assumption) ?_ | refine x_0 (by first | assumption | rfl) ?_ | refine x_1 (by first | assumption | rfl) ?_ | refine Or.inl ⟨rfl, ?_⟩ | (split <;> (first | (rename_i u h; clear u) | rename_i h) <;> (try rewrite [h]) <;> (first | replace h := dt h | replace h := df h | replace h := Nt h | replace h := Nf h | skip) <;> (try dsimp only at h) <;> (first | contradiction | (exfalso; omega) | skip)) | (refine Or.inl ⟨_, by assumption, ?_⟩; first | rintro _ rfl | skip))
            refine ⟨Nat.le_refl _, (show ((rowZ pl).length + 1) * 8 ≤ 140737488355328 by omega), _, rowZ_snoc pl _, ?_⟩
            repeat' ((conv => whnf); first | ((with_reducible apply Xq); assumption) | (with_reducible first | apply Xa | (first | apply xi | apply xp | apply xP); omega | apply Xe | refine Xg (by assumption) ?_) | refine Xo (by assumption) ?_ | refine x_0 (by first | assumption | rfl) ?_ | refine x_1 (by first | assumption | rfl) ?_ | refine Or.inl ⟨rfl, ?_⟩ | (split <;> (first | (rename_i u h; clear u) | rename_i h) <;> (try rewrite [h]) <;> (first | replace h := dt h | replace h := df h | replace h := Nt h | replace h := Nf h | skip) <;> (try dsimp only at h) <;> (first | contradiction | (exfalso; omega) | skip)) | (refine Or.inl ⟨_, by assumption, ?_⟩; first | rintro _ rfl | skip))
            exact ⟨[0, 1, 2, 7, 4], l.length - (i + 1), rfl, by omega, i + 1, _, _, by omega, rfl, hnx, .inr ⟨by omega, rfl⟩⟩
        · obtain rfl : e = (k3 : Int) := by omega
          obtain ⟨z, hz⟩ : ∃ z, z = out[k3]'(by omega) := ⟨_, rfl⟩
          have g3 : (rowN out)[0 + k3]? = some z.cells := by rw [Nat.zero_add, hz]; exact rowN_get (by omega)
          have hsm := c_r10_Same GL z ⟨op, a, b, name, shape, k2, n, data⟩ (by rw [hz]; exact hso _ (List.getElem_mem _)) hys
          by_cases e3 : z = ⟨op, a, b, name, shape, k2, n, data⟩
          · have hlw := low_eq hlow (by omega) (hz.symm.trans e3)
            clear hz
            subst e3
            simp only [decide_true] at hsm
            repeat' ((conv => whnf); first | ((with_reducible apply Xq); assumption) | (with_reducible first | apply Xa | (first | apply xi | apply xp | apply xP); omega | apply Xe | refine Xg (by assumption) ?_) | refine Xo (by assumption) ?_ | refine x_0 (by first | assumption | rfl) ?_ | refine x_1 (by first | assumption | rfl) ?_ | refine Or.inl ⟨rfl, ?_⟩ | (split <;> (first | (rename_i u h; clear u) | rename_i h) <;> (try rewrite [h]) <;> (first | replace h := dt h | replace h := df h | replace h := Nt h | replace h := Nf h | skip) <;> (try dsimp only at h) <;> (first | contradiction | (exfalso; omega) | skip)) | (refine Or.inl ⟨_, by assumption, ?_⟩; first | rintro _ rfl | skip))
            refine ⟨by decide +kernel, [0, 1, 0, 7, 15, 0, 63], by decide +kernel, ?_⟩
            repeat' ((conv => whnf); first | ((with_reducible apply Xq); assumption) | (with_reducible first | apply Xa | (first | apply xi | apply xp | apply xP); omega | apply Xe | refine Xg (by assumption) ?_) | refine Xo (by assumption) ?_ | refine x_0 (by first | assumption | rfl) ?_ | refine x_1 (by first | assumption | rfl) ?_ | refine Or.inl ⟨rfl, ?_⟩ | (split <;> (first | (rename_i u h; clear u) | rename_i h) <;> (try rewrite [h]) <;> (first | replace h := dt h | replace h := df h | replace h := Nt h | replace h := Nf h | skip) <;> (try dsimp only at h) <;> (first | contradiction | (exfalso; omega) | skip)) | (refine Or.inl ⟨_, by assumption, ?_⟩; first | rintro _ rfl | skip))
            exact ⟨[0, 1, 2, 3, 4, 5], k3, rfl, by omega, k3, (k3 : Int) - 1, rfl, by omega, hlw, rfl⟩
          · have hlw := low_ne hlow (by omega) (fun h => e3 (hz.trans h))
            simp only [e3, decide_false] at hsm
            clear hz e3
            obtain ⟨op3, a3, b3, name3, shape3, k4, n3, data3⟩ := z
            repeat' ((conv => whnf); first | ((with_reducible apply Xq); assumption) | (with_reducible first | apply Xa | (first | apply xi | apply xp | apply xP); omega | apply Xe | refine Xg (by assumption) ?_) | refine Xo (by assumption) ?_ | refine x_0 (by first | assumption | rfl) ?_ | refine x_1 (by first | assumption | rfl) ?_ | refine Or.inl ⟨rfl, ?_⟩ | (split <;> (first | (rename_i u h; clear u) | rename_i h) <;> (try rewrite [h]) <;> (first | replace h := dt h | replace h := df h | replace h := Nt h | replace h := Nf h | skip) <;> (try dsimp only at h) <;> (first | contradiction | (exfalso; omega) | skip)) | (refine Or.inl ⟨_, by assumption, ?_⟩; first | rintro _ rfl | skip))
            refine ⟨by decide +kernel, [0, 1, 0, 7, 15, 0, 63], by decide +kernel, ?_⟩
            repeat' ((conv => whnf); first | ((with_reducible apply Xq); assumption) | (with_reducible first | apply Xa | (first | apply xi | apply xp | apply xP); omega | apply Xe | refine Xg (by assumption) ?_) | refine Xo (by assumption) ?_ | refine x_0 (by first | assumption | rfl) ?_ | refine x_1 (by first | assumption | rfl) ?_ | refine Or.inl ⟨rfl, ?_⟩ | (split <;> (first | (rename_i u h; clear u) | rename_i h) <;> (try rewrite [h]) <;> (first | replace h := dt h | replace h := df h | replace h := Nt h | replace h := Nf h | skip) <;> (try dsimp only at h) <;> (first | contradiction | (exfalso; omega) | skip)) | (refine Or.inl ⟨_, by assumption, ?_⟩; first | rintro _ rfl | skip))
            exact ⟨[0, 1, 2, 3, 4, 5], k3, rfl, by omega, a2, (k3 : Int) - 1, rfl, by omega, hlw, rfl⟩
      · simp only [re1 hop] at hnx hys
        rw [dP1 hop] at hDn
        dsimp only at hnx hys hDn
        obtain ⟨u, rfl, hu⟩ : ∃ u : Nat, a = u ∧ u < i := hDn a (by simp)
        have gu : (rowZ pl)[0 + u]? = some [.int .i64 (atZ pl u)] := by rw [Nat.zero_add, rowZ_get (by omega), atZ_nat (by omega)]
        repeat' ((conv => whnf); first | ((with_reducible apply Xq); assumption) | (with_reducible first | apply Xa | (first | apply xi | apply xp | apply xP); omega | apply Xe | refine Xg (by assumption) ?_) | refine Xo (by assumption) ?_ | refine x_0 (by first | assumption | rfl) ?_ | refine x_1 (by first | assumption | rfl) ?_ | refine Or.inl ⟨rfl, ?_⟩ | (split <;> (first | (rename_i u h; clear u) | rename_i h) <;> (try rewrite [h]) <;> (first | replace h := dt h | replace h := df h | replace h := Nt h | replace h := Nf h | skip) <;> (try dsimp only at h) <;> (first | contradiction | (exfalso; omega) | skip)) | (refine Or.inl ⟨_, by assumption, ?_⟩; first | rintro _ rfl | skip))
        refine ⟨[1, 2, 4, 5, 6, 7, 9, 10], [0, 1, 2, 3, 4, 5], fun m st => ∃ (at0 : Nat) (e : Int), e = (m : Int) - 1 ∧ m ≤ out.length ∧ LowAt out ⟨op, atZ pl u, b, name, shape, k2, n, data⟩ m at0 ∧ st = ⟨[(1, .bptr 0 0), (2, .bptr 1 0), (4, .bptr 2 0), (5, .own 3 0 (rowZ pl).length), (6, .int .i64 (i : Nat)), (7, .bptr 5 0), (9, .int .i64 (at0 : Nat)), (10, .int .i64 e)], [.box 24 [.ro 8 (rowN l), .int .i64 (q : Nat)], .box 24 [.nils, .int .i64 0], .box 24 [.own 4 0 (rowN out).length, .int .i64 0], .row false 3 1 (rowZ pl), .row false 37 8 (rowN out), .box 37 (Nd.cells ⟨op, atZ pl u, b, name, shape, k2, n, data⟩)]⟩, rfl,
          ⟨out.length, (rowN out).length, ((rowN out).length : Int) - 1, by omega, Nat.le_refl _, by rw [hol]; exact low_top _ _, rfl⟩, ?_⟩
        rintro m2 _ ⟨a2, e, he, hm3, hlow, rfl⟩
        rcases m2 with _ | k3
        · obtain rfl : e = -1 := by omega
          have hfx := low_first hlow
          rw [← hfx] at hnx
          by_cases hfe : a2 = out.length
          · rw [if_pos hfe] at hnx
            repeat' ((conv => whnf); first | ((with_reducible apply Xq); assumption) | (with_reducible first | apply Xa | (first | apply xi | apply xp | apply xP); omega | apply Xe | refine Xg (by assumption) ?_) | refine Xo (by assumption) ?_ | refine x_0 (by first | assumption | rfl) ?_ | refine x_1 (by first | assumption | rfl) ?_ | refine Or.inl ⟨rfl, ?_⟩ | (split <;> (first | (rename_i u h; clear u) | rename_i h) <;> (try rewrite [h]) <;> (first | replace h := dt h | replace h := df h | replace h := Nt h | replace h := Nf h | skip) <;> (try dsimp only at h) <;> (first | contradiction | (exfalso; omega) | skip)) | (refine Or.inl ⟨_, by assumption, ?_⟩; first | rintro _ rfl | skip))
            refine ⟨Nat.le_refl _, (show ((rowN out).length + 1) * 120 ≤ 140737488355328 by omega), _, rowN_snoc out ⟨op, atZ pl u, b, name, shape, k2, n, data⟩ rfl, ?_⟩
            repeat' ((conv => whnf); first | ((with_reducible apply Xq); assumption) | (with_reducible first | apply Xa | (first | apply xi | apply xp | apply xP); omega | apply Xe | refine Xg (by assumption) ?_) | refine Xo (by assumption) ?_ | refine x_0 (by first | assumption | rfl) ?_ | refine x_1 (by first | assumption | rfl) ?_ | refine Or.inl ⟨rfl, ?_⟩ | (split <;> (first | (rename_i u h; clear u) | rename_i h) <;> (try rewrite [h]) <;> (first | replace h := dt h | replace h := df h | replace h := Nt h | replace h := Nf h | skip) <;> (try dsimp only at h) <;> (first | contradiction | (exfalso; omega) | skip)) | (refine Or.inl ⟨_, by assumption, ?_⟩; first | rintro _ rfl | skip))
            refine ⟨Nat.le_refl _, (show ((rowZ pl).length + 1) * 8 ≤ 140737488355328 by omega), _, rowZ_snoc pl _, ?_⟩
            repeat' ((conv => whnf); first | ((with_reducible apply Xq); assumption) | (with_reducible first | apply Xa | (first | apply xi | apply xp | apply xP); omega | apply Xe | refine Xg (by assumption) ?_) | refine Xo (by assumption) ?_ | refine x_0 (by first | assumption | rfl) ?_ | refine x_1 (by first | assumption | rfl) ?_ | refine Or.inl ⟨rfl, ?_⟩ | (split <;> (first | (rename_i u h; clear u) | rename_i h) <;> (try rewrite [h]) <;> (first | replace h := dt h | replace h := df h | replace h := Nt h | replace h := Nf h | skip) <;> (try dsimp only at h) <;> (first | contradiction | (exfalso; omega) | skip)) | (refine Or.inl ⟨_, by assumption, ?_⟩; first | rintro _ rfl | skip))
            exact ⟨[0, 1, 2, 9, 7], l.length - (i + 1), rfl, by omega, i + 1, _, _, by omega, rfl, hnx, .inr ⟨by omega, rfl⟩⟩
          · rw [if_neg hfe] at hnx
            repeat' ((conv => whnf); first | ((with_reducible apply Xq); assumption) | (with_reducible first | apply Xa | (first | apply xi | apply xp | apply xP); omega | apply Xe | refine Xg (by assumption) ?_) | refine Xo (by assumption) ?_ | refine x_0 (by first | assumption | rfl) ?_ | refine x_1 (by first | assumption | rfl) ?_ | refine Or.inl ⟨rfl, ?_⟩ | (split <;> (first | (rename_i u h; clear u) | rename_i h) <;> (try rewrite [h]) <;> (first | replace h := dt h | replace h := df h | replace h := Nt h | replace h := Nf h | skip) <;> (try dsimp only at h) <;> (first | contradiction | (exfalso; omega) | skip)) | (refine Or.inl ⟨_, by assumption, ?_⟩; first | rintro _ rfl | skip))
            refine ⟨Nat.le_refl _, (show ((rowZ pl).length + 1) * 8 ≤ 140737488355328 by omega), _, rowZ_snoc pl _, ?_⟩
            repeat' ((conv => whnf); first | ((with_reducible apply Xq); assumption) | (with_reducible first | apply Xa | (first | apply xi | apply xp | apply xP); omega | apply Xe | refine Xg (by assumption) ?_) | refine Xo (by assumption) ?_ | refine x_0 (by first | assumption | rfl) ?_ | refine x_1 (by first | assumption | rfl) ?_ | refine Or.inl ⟨rfl, ?_⟩ | (split <;> (first | (rename_i u h; clear u) | rename_i h) <;> (try rewrite [h]) <;> (first | replace h := dt h | replace h := df h | replace h := Nt h | replace h := Nf h | skip) <;> (try dsimp only at h) <;> (first | contradiction | (exfalso; omega) | skip)) | (refine Or.inl ⟨_, by assumption, ?_⟩; first | rintro _ rfl | skip))
            exact ⟨[0, 1, 2, 7, 4], l.length - (i + 1), rfl, by omega, i + 1, _, _, by omega, rfl, hnx, .inr ⟨by omega, rfl⟩⟩
        · obtain rfl : e = (k3 : Int) := by omega
          obtain ⟨z, hz⟩ : ∃ z, z = out[k3]'(by omega) := ⟨_, rfl⟩
          have g3 : (rowN out)[0 + k3]? = some z.cells := by rw [Nat.zero_add, hz]; exact rowN_get (by omega)
          have hsm := c_r10_Same GL z ⟨op, atZ pl u, b, name, shape, k2, n, data⟩ (by rw [hz]; exact hso _ (List.getElem_mem _)) hys
          by_cases e3 : z = ⟨op, atZ pl u, b, name, shape, k2, n, data⟩
          · have hlw := low_eq hlow (by omega) (hz.symm.trans e3)
            clear hz
            subst e3
            simp only [decide_true] at hsm
            repeat' ((conv => whnf); first | ((with_reducible apply Xq); assumption) | (with_reducible first | apply Xa | (first | apply xi | apply xp | apply xP); omega | apply Xe | refine Xg (by assumption) ?_) | refine Xo (by assumption) ?_ | refine x_0 (by first | assumption | rfl) ?_ | refine x_1 (by first | assumption | rfl) ?_ | refine Or.inl ⟨rfl, ?_⟩ | (split <;> (first | (rename_i u h; clear u) | rename_i h) <;> (try rewrite [h]) <;> (first | replace h := dt h | replace h := df h | replace h := Nt h | replace h := Nf h | skip) <;> (try dsimp only at h) <;> (first | contradiction | (exfalso; omega) | skip)) | (refine Or.inl ⟨_, by assumption, ?_⟩; first | rintro _ rfl | skip))
            refine ⟨by decide +kernel, [0, 1, 0, 7, 15, 0, 63], by decide +kernel, ?_⟩
            repeat' ((conv => whnf); first | ((with_reducible apply Xq); assumption) | (with_reducible first | apply Xa | (first | apply xi | apply xp | apply xP); omega | apply Xe | refine Xg (by assumption) ?_) | refine Xo (by assumption) ?_ | refine x_0 (by first | assumption | rfl) ?_ | refine x_1 (by first | assumption | rfl) ?_ | refine Or.inl ⟨rfl, ?_⟩ | (split <;> (first | (rename_i u h; clear u) | rename_i h) <;> (try rewrite [h]) <;> (first | replace h := dt h | replace h := df h | replace h := Nt h | replace h := Nf h | skip) <;> (try dsimp only at h) <;> (first | contradiction | (exfalso; omega) | skip)) | (refine Or.inl ⟨_, by assumption, ?_⟩; first | rintro _ rfl | skip))
            exact ⟨[0, 1, 2, 3, 4, 5], k3, rfl, by omega, k3, (k3 : Int) - 1, rfl, by omega, hlw, rfl⟩
          · have hlw := low_ne hlow (by omega) (fun h => e3 (hz.trans h))
            simp only [e3, decide_false] at hsm
            clear hz e3
            obtain ⟨op3, a3, b3, name3, shape3, k4, n3, data3⟩ := z
            repeat' ((conv => whnf); first | ((with_reducible apply Xq); assumption) | (with_reducible first | apply Xa | (first | apply xi | apply xp | apply xP); omega | apply Xe | refine Xg (by assumption) ?_) | refine Xo (by assumption) ?_ | refine x_0 (by first | assumption | rfl) ?_ | refine x_1 (by first | assumption | rfl) ?_ | refine Or.inl ⟨rfl, ?_⟩ | (split <;> (first | (rename_i u h; clear u) | rename_i h) <;> (try rewrite [h]) <;> (first | replace h := dt h | replace h := df h | replace h := Nt h | replace h := Nf h | skip) <;> (try dsimp only at h) <;> (first | contradiction | (exfalso; omega) | skip)) | (refine Or.inl ⟨_, by assumption, ?_⟩; first | rintro _ rfl | skip))
            refine ⟨by decide +kernel, [0, 1, 0, 7, 15, 0, 63], by decide +kernel, ?_⟩
            repeat' ((conv => whnf); first | ((with_reducible apply Xq); assumption) | (with_reducible first | apply Xa | (first | apply xi | apply xp | apply xP); omega | apply Xe | refine Xg (by assumption) ?_) | refine Xo (by assumption) ?_ | refine x_0 (by first | assumption | rfl) ?_ | refine x_1 (by first | assumption | rfl) ?_ | refine Or.inl ⟨rfl, ?_⟩ | (split <;> (first | (rename_i u h; clear u) | rename_i h) <;> (try rewrite [h]) <;> (first | replace h := dt h | replace h := df h | replace h := Nt h | replace h := Nf h | skip) <;> (try dsimp only at h) <;> (first | contradiction | (exfalso; omega) | skip)) | (refine Or.inl ⟨_, by assumption, ?_⟩; first | rintro _ rfl | skip))
            exact ⟨[0, 1, 2, 3, 4, 5], k3, rfl, by omega, a2, (k3 : Int) - 1, rfl, by omega, hlw, rfl⟩
      · simp only [re2 hop] at hnx hys
        rw [dP2 hop] at hDn
        dsimp only at hnx hys hDn
        obtain ⟨u, rfl, hu⟩ : ∃ u : Nat, a = u ∧ u < i := hDn a (by simp)
        obtain ⟨v, rfl, hv⟩ : ∃ u : Nat, b = u ∧ u < i := hDn b (by simp)
        have gu : (rowZ pl)[0 + u]? = some [.int .i64 (atZ pl u)] := by rw [Nat.zero_add, rowZ_get (by omega), atZ_nat (by omega)]
        have gv : (rowZ pl)[0 + v]? = some [.int .i64 (atZ pl v)] := by rw [Nat.zero_add, rowZ_get (by omega), atZ_nat (by omega)]
        repeat' ((conv => whnf); first | ((with_reducible apply Xq); assumption) | (with_reducible first | apply Xa | (first | apply xi | apply xp | apply xP); omega | apply Xe | refine Xg (by assumption) ?_) | refine Xo (by assumption) ?_ | refine x_0 (by first | assumption | rfl) ?_ | refine x_1 (by first | assumption | rfl) ?_ | refine Or.inl ⟨rfl, ?_⟩ | (split <;> (first | (rename_i u h; clear u) | rename_i h) <;> (try rewrite [h]) <;> (first | replace h := dt h | replace h := df h | replace h := Nt h | replace h := Nf h | skip) <;> (try dsimp only at h) <;> (first | contradiction | (exfalso; omega) | skip)) | (refine Or.inl ⟨_, by assumption, ?_⟩; first | rintro _ rfl | skip))
        refine ⟨[1, 2, 4, 5, 6, 7, 9, 10], [0, 1, 2, 3, 4, 5], fun m st => ∃ (at0 : Nat) (e : Int), e = (m : Int) - 1 ∧ m ≤ out.length ∧ LowAt out ⟨op, atZ pl u, atZ pl v, name, shape, k2, n, data⟩ m at0 ∧ st = ⟨[(1, .bptr 0 0), (2, .bptr 1 0), (4, .bptr 2 0), (5, .own 3 0 (rowZ pl).length), (6, .int .i64 (i : Nat)), (7, .bptr 5 0), (9, .int .i64 (at0 : Nat)), (10, .int .i64 e)], [.box 24 [.ro 8 (rowN l), .int .i64 (q : Nat)], .box 24 [.nils, .int .i64 0], .box 24 [.own 4 0 (rowN out).length, .int .i64 0], .row false 3 1 (rowZ pl), .row false 37 8 (rowN out), .box 37 (Nd.cells ⟨op, atZ pl u, atZ pl v, name, shape, k2, n, data⟩)]⟩, rfl,
          ⟨out.length, (rowN out).length, ((rowN out).length : Int) - 1, by omega, Nat.le_refl _, by rw [hol]; exact low_top _ _, rfl⟩, ?_⟩
        rintro m2 _ ⟨a2, e, he, hm3, hlow, rfl⟩
        rcases m2 with _ | k3
        · obtain rfl : e = -1 := by omega
          have hfx := low_first hlow
          rw [← hfx] at hnx
          by_cases hfe : a2 = out.length
          · rw [if_pos hfe] at hnx
            repeat' ((conv => whnf); first | ((with_reducible apply Xq); assumption) | (with_reducible first | apply Xa | (first | apply xi | apply xp | apply xP); omega | apply Xe | refine Xg (by assumption) ?_) | refine Xo (by assumption) ?_ | refine x_0 (by first | assumption | rfl) ?_ | refine x_1 (by first | assumption | rfl) ?_ | refine Or.inl ⟨rfl, ?_⟩ | (split <;> (first | (rename_i u h; clear u) | rename_i h) <;> (try rewrite [h]) <;> (first | replace h := dt h | replace h := df h | replace h := Nt h | replace h := Nf h | skip) <;> (try dsimp only at h) <;> (first | contradiction | (exfalso; omega) | skip)) | (refine Or.inl ⟨_, by assumption, ?_⟩; first | rintro _ rfl | skip))
            refine ⟨Nat.le_refl _, (show ((rowN out).length + 1) * 120 ≤ 140737488355328 by omega), _, rowN_snoc out ⟨op, atZ pl u, atZ pl v, name, shape, k2, n, data⟩ rfl, ?_⟩
            repeat' ((conv => whnf); first | ((with_reducible apply Xq); assumption) | (with_reducible first | apply Xa | (first | apply xi | apply xp | apply xP); omega | apply Xe | refine Xg (by assumption) ?_) | refine Xo (by assumption) ?_ | refine x_0 (by first | assumption | rfl) ?_ | refine x_1 (by first | assumption | rfl) ?_ | refine Or.inl ⟨rfl, ?_⟩ | (split <;> (first | (rename_i u h; clear u) | rename_i h) <;> (try rewrite [h]) <;> (first | replace h := dt h | replace h := df h | replace h := Nt h | replace h := Nf h | skip) <;> (try dsimp only at h) <;> (first | contradiction | (exfalso; omega) | skip)) | (refine Or.inl ⟨_, by assumption, ?_⟩; first | rintro _ rfl | skip))
            refine ⟨Nat.le_refl _, (show ((rowZ pl).length + 1) * 8 ≤ 140737488355328 by omega), _, rowZ_snoc pl _, ?_⟩
            repeat' ((conv => whnf); first | ((with_reducible apply Xq); assumption) | (with_reducible first | apply Xa | (first | apply xi | apply xp | apply xP); omega | apply Xe | refine Xg (by assumption) ?_) | refine Xo (by assumption) ?_ | refine x_0 (by first | assumption | rfl) ?_ | refine x_1 (by first | assumption | rfl) ?_ | refine Or.inl ⟨rfl, ?_⟩ | (split <;> (first | (rename_i u h; clear u) | rename_i h) <;> (try rewrite [h]) <;> (first | replace h := dt h | replace h := df h | replace h := Nt h | replace h := Nf h | skip) <;> (try dsimp only at h) <;> (first | contradiction | (exfalso; omega) | skip)) | (refine Or.inl ⟨_, by assumption, ?_⟩; first | rintro _ rfl | skip))
            exact ⟨[0, 1, 2, 9, 7], l.length - (i + 1), rfl, by omega, i + 1, _, _, by omega, rfl, hnx, .inr ⟨by omega, rfl⟩⟩
          · rw [if_neg hfe] at hnx
            repeat' ((conv => whnf); first | ((with_reducible apply Xq); assumption) | (with_reducible first | apply Xa | (first | apply xi | apply xp | apply xP); omega | apply Xe | refine Xg (by assumption) ?_) | refine Xo (by assumption) ?_ | refine x_0 (by first | assumption | rfl) ?_ | refine x_1 (by first | assumption | rfl) ?_ | refine Or.inl ⟨rfl, ?_⟩ | (split <;> (first | (rename_i u h; clear u) | rename_i h) <;> (try rewrite [h]) <;> (first | replace h := dt h | replace h := df h | replace h := Nt h | replace h := Nf h | skip) <;> (try dsimp only at h) <;> (first | contradiction | (exfalso; omega) | skip)) | (refine Or.inl ⟨_, by assumption, ?_⟩; first | rintro _ rfl | skip))
            refine ⟨Nat.le_refl _, (show ((rowZ pl).length + 1) * 8 ≤ 140737488355328 by omega), _, rowZ_snoc pl _, ?_⟩
            repeat' ((conv => whnf); first | ((with_reducible apply Xq); assumption) | (with_reducible first | apply Xa | (first | apply xi | apply xp | apply xP); omega | apply Xe | refine Xg (by assumption) ?_) | refine Xo (by assumption) ?_ | refine x_0 (by first | assumption | rfl) ?_ | refine x_1 (by first | assumption | rfl) ?_ | refine Or.inl ⟨rfl, ?_⟩ | (split <;> (first | (rename_i u h; clear u) | rename_i h) <;> (try rewrite [h]) <;> (first | replace h := dt h | replace h := df h | replace h := Nt h | replace h := Nf h | skip) <;> (try dsimp only at h) <;> (first | contradiction | (exfalso; omega) | skip)) | (refine Or.inl ⟨_, by assumption, ?_⟩; first | rintro _ rfl | skip))
            exact ⟨[0, 1, 2, 7, 4], l.length - (i + 1), rfl, by omega, i + 1, _, _, by omega, rfl, hnx, .inr ⟨by omega, rfl⟩⟩
        · obtain rfl : e = (k3 : Int) := by omega
          obtain ⟨z, hz⟩ : ∃ z, z = out[k3]'(by omega) := ⟨_, rfl⟩
          have g3 : (rowN out)[0 + k3]? = some z.cells := by rw [Nat.zero_add, hz]; exact rowN_get (by omega)
          have hsm := c_r10_Same GL z ⟨op, atZ pl u, atZ pl v, name, shape, k2, n, data⟩ (by rw [hz]; exact hso _ (List.getElem_mem _)) hys
          by_cases e3 : z = ⟨op, atZ pl u, atZ pl v, name, shape, k2, n, data⟩
          · have hlw := low_eq hlow (by omega) (hz.symm.trans e3)
            clear hz
            subst e3
            simp only [decide_true] at hsm
            repeat' ((conv => whnf); first | ((with_reducible apply Xq); assumption) | (with_reducible first | apply Xa | (first | apply xi | apply xp | apply xP); omega | apply Xe | refine Xg (by assumption) ?_) | refine Xo (by assumption) ?_ | refine x_0 (by first | assumption | rfl) ?_ | refine x_1 (by first | assumption | rfl) ?_ | refine Or.inl ⟨rfl, ?_⟩ | (split <;> (first | (rename_i u h; clear u) | rename_i h) <;> (try rewrite [h]) <;> (first | replace h := dt h | replace h := df h | replace h := Nt h | replace h := Nf h | skip) <;> (try dsimp only at h) <;> (first | contradiction | (exfalso; omega) | skip)) | (refine Or.inl ⟨_, by assumption, ?_⟩; first | rintro _ rfl | skip))
            refine ⟨by decide +kernel, [0, 1, 0, 7, 15, 0, 63], by decide +kernel, ?_⟩
            repeat' ((conv => whnf); first | ((with_reducible apply Xq); assumption) | (with_reducible first | apply Xa | (first | apply xi | apply xp | apply xP); omega | apply Xe | refine Xg (by assumption) ?_) | refine Xo (by assumption) ?_ | refine x_0 (by first | assumption | rfl) ?_ | refine x_1 (by first | assumption | rfl) ?_ | refine Or.inl ⟨rfl, ?_⟩ | (split <;> (first | (rename_i u h; clear u) | rename_i h) <;> (try rewrite [h]) <;> (first | replace h := dt h | replace h := df h | replace h := Nt h | replace h := Nf h | skip) <;> (try dsimp only at h) <;> (first | contradiction | (exfalso; omega) | skip)) | (refine Or.inl ⟨_, by assumption, ?_⟩; first | rintro _ rfl | skip))
            exact ⟨[0, 1, 2, 3, 4, 5], k3, rfl, by omega, k3, (k3 : Int) - 1, rfl, by omega, hlw, rfl⟩
          · have hlw := low_ne hlow (by omega) (fun h => e3 (hz.trans h))
            simp only [e3, decide_false] at hsm
            clear hz e3
            obtain ⟨op3, a3, b3, name3, shape3, k4, n3, data3⟩ := z
            repeat' ((conv => whnf); first | ((with_reducible apply Xq); assumption) | (with_reducible first | apply Xa | (first | apply xi | apply xp | apply xP); omega | apply Xe | refine Xg (by assumption) ?_) | refine Xo (by assumption) ?_ | refine x_0 (by first | assumption | rfl) ?_ | refine x_1 (by first | assumption | rfl) ?_ | refine Or.inl ⟨rfl, ?_⟩ | (split <;> (first | (rename_i u h; clear u) | rename_i h) <;> (try rewrite [h]) <;> (first | replace h := dt h | replace h := df h | replace h := Nt h | replace h := Nf h | skip) <;> (try dsimp only at h) <;> (first | contradiction | (exfalso; omega) | skip)) | (refine Or.inl ⟨_, by assumption, ?_⟩; first | rintro _ rfl | skip))
            refine ⟨by decide +kernel, [0, 1, 0, 7, 15, 0, 63], by decide +kernel, ?_⟩
            repeat' ((conv => whnf); first | ((with_reducible apply Xq); assumption) | (with_reducible first | apply Xa | (first | apply xi | apply xp | apply xP); omega | apply Xe | refine Xg (by assumption) ?_) | refine Xo (by assumption) ?_ | refine x_0 (by first | assumption | rfl) ?_ | refine x_1 (by first | assumption | rfl) ?_ | refine Or.inl ⟨rfl, ?_⟩ | (split <;> (first | (rename_i u h; clear u) | rename_i h) <;> (try rewrite [h]) <;> (first | replace h := dt h | replace h := df h | replace h := Nt h | replace h := Nf h | skip) <;> (try dsimp only at h) <;> (first | contradiction | (exfalso; omega) | skip)) | (refine Or.inl ⟨_, by assumption, ?_⟩; first | rintro _ rfl | skip))
            exact ⟨[0, 1, 2, 3, 4, 5], k3, rfl, by omega, a2, (k3 : Int) - 1, rfl, by omega, hlw, rfl⟩
  · have hi2 : i = l.length := by omega
    subst hi2
    have hG := hfin pl out hpr
    have gq : (rowZ pl)[0 + q]? = some [.int .i64 (atZ pl q)] := by rw [Nat.zero_add, rowZ_get (by omega), atZ_nat (by omega)]
    rcases hst with ⟨h0, rfl⟩ | ⟨h0, rfl⟩
    · omega
    · repeat' ((conv => whnf); first | ((with_reducible apply Xq); assumption) | (with_reducible first | apply Xa | (first | apply xi | apply xp | apply xP); omega | apply Xe | refine Xg (by assumption) ?_) | refine Xo (by assumption) ?_ | refine x_0 (by first | assumption | rfl) ?_ | refine x_1 (by first | assumption | rfl) ?_ | refine Or.inl ⟨rfl, ?_⟩ | (split <;> (first | (rename_i u h; clear u) | rename_i h) <;> (try rewrite [h]) <;> (first | replace h := dt h | replace h := df h | replace h := Nt h | replace h := Nf h | skip) <;> (try dsimp only at h) <;> (first | contradiction | (exfalso; omega) | skip)) | (refine Or.inl ⟨_, by assumption, ?_⟩; first | rintro _ rfl | skip))
      all_goals (conv => whnf)
      exact ⟨_, roTo2 (roToA rfl rfl) rfl, by rw [hG]; rfl⟩
end Go.V
namespace Go.V
open Go.N
set_option maxRecDepth 20000
def T_awake15 : Tab := [(37, i37), (22, i22), (24, i24), (28, i28), (3, i3), (27, i27)]
theorem TOK_awake15 : TOK Go.Proofs.Tryz.prog T_awake15 := ⟨K37, ⟨K22, ⟨K24, ⟨K28, ⟨K3, ⟨K27, trivial⟩⟩⟩⟩⟩⟩
def ndB (op : ByteArray) (a b : Int) : List AV := [.str op, .int .i64 a, .int .i64 b, .str ⟨#[]⟩, .nils, .str ⟨#[]⟩, .int .i64 0, .nils]
theorem ndB_as (op : ByteArray) (a b : Int) : AsRoL (ndB op a b) (Nd.cells ⟨op, a, b, ⟨#[]⟩, [], ⟨#[]⟩, 0, []⟩) :=
  ⟨_, _, rfl, rfl, _, _, rfl, rfl, _, _, rfl, rfl, _, _, rfl, rfl, _, _, rfl, .inr ⟨1, rfl⟩, _, _, rfl, rfl, _, _, rfl, rfl, _, _, rfl, .inr ⟨1, rfl⟩, rfl⟩
def nAdd (a b : Int) : Nd := ⟨sAdd, a, b, ⟨#[]⟩, [], ⟨#[]⟩, 0, []⟩
def G1 : Gr := ⟨[nd0 sParam ⟨#[119]⟩, nd0 sRelu ⟨#[]⟩, nd0 sRelu ⟨#[]⟩, nAdd 1 2], 3⟩
theorem G1_ok : grOK G1 = true := by decide +kernel
theorem G1_merge : mergeG G1 = (⟨[nd0 sParam ⟨#[119]⟩, nd0 sRelu ⟨#[]⟩, nAdd 1 1], 2⟩, [0, 1, 1, 2]) := by
  have n1 : nd0 sParam ⟨#[119]⟩ ≠ nd0 sRelu ⟨#[]⟩ := fun h => absurd (congrArg Nd.op h) (by decide)
  have n2 : nd0 sParam ⟨#[119]⟩ ≠ nAdd 1 1 := fun h => absurd (congrArg Nd.op h) (by decide)
  have n3 : nd0 sRelu ⟨#[]⟩ ≠ nAdd 1 1 := fun h => absurd (congrArg Nd.op h) (by decide)
  have r1 : ∀ pl, reN pl (nd0 sParam ⟨#[119]⟩) = nd0 sParam ⟨#[119]⟩ := fun _ => re0 (by decide)
  have r2 : ∀ pl, opParts (nd0 sRelu ⟨#[]⟩).op = some 1 ∧ reN pl (nd0 sRelu ⟨#[]⟩) = { nd0 sRelu ⟨#[]⟩ with a := atZ pl 0 } := fun _ => ⟨by decide, re1 (by decide)⟩
  have e1 : mergeTo G1.nodes 1 = ([0], [nd0 sParam ⟨#[119]⟩]) := by
    rw [merge_step (l := G1.nodes) (i := 0) rfl (x := nd0 sParam ⟨#[119]⟩) rfl, r1, firstIx_none (by simp)]
    rfl
  have e2 : mergeTo G1.nodes 2 = ([0, 1], [nd0 sParam ⟨#[119]⟩, nd0 sRelu ⟨#[]⟩]) := by
    rw [merge_step e1 (x := nd0 sRelu ⟨#[]⟩) rfl, (r2 _).2, show ({ nd0 sRelu ⟨#[]⟩ with a := atZ [0] 0 } : Nd) = nd0 sRelu ⟨#[]⟩ from rfl,
      firstIx_none (fun j hj => by
        obtain rfl : j = 0 := by simpa using hj
        exact n1)]
    rfl
  have e3 : mergeTo G1.nodes 3 = ([0, 1, 1], [nd0 sParam ⟨#[119]⟩, nd0 sRelu ⟨#[]⟩]) := by
    rw [merge_step e2 (x := nd0 sRelu ⟨#[]⟩) rfl, (r2 _).2, show ({ nd0 sRelu ⟨#[]⟩ with a := atZ [0, 1] 0 } : Nd) = nd0 sRelu ⟨#[]⟩ from rfl,
      firstIx_lt (out := [nd0 sParam ⟨#[119]⟩, nd0 sRelu ⟨#[]⟩]) (y := nd0 sRelu ⟨#[]⟩) (k := 1) (by decide) rfl (fun j hj => by
        obtain rfl : j = 0 := by omega
        exact n1)]
    rfl
  have e4 : mergeTo G1.nodes 4 = ([0, 1, 1, 2], [nd0 sParam ⟨#[119]⟩, nd0 sRelu ⟨#[]⟩, nAdd 1 1]) := by
    rw [merge_step e3 (x := nAdd 1 2) rfl, re2 (by decide), show ({ nAdd 1 2 with a := atZ [0, 1, 1] (nAdd 1 2).a, b := atZ [0, 1, 1] (nAdd 1 2).b } : Nd) = nAdd 1 1 from rfl,
      firstIx_none (fun j hj => by
        have : j = 0 ∨ j = 1 := by simp at hj; omega
        rcases this with rfl | rfl
        · exact n2
        · exact n3)]
    rfl
  have e : G1.nodes.length = 4 := rfl
  rw [mergeG, e, e4]
  rfl
theorem c_awake15 : VCall Go.Proofs.Tryz.prog GL 7 [] (fun r => r = .bool true) := by
  have hp := c_cMerge G1 (fun x hx => by
    simp only [G1, List.mem_cons, List.not_mem_nil, or_false] at hx
    rcases hx with rfl | rfl | rfl | rfl <;> exact ⟨by decide, by decide, by decide, by decide, fun d hd => by simp [nd0, nAdd] at hd⟩) (by decide)
  rw [G1_ok, if_pos rfl, G1_merge] at hp
  have hs := c_r04_Same GL [0, 1, 1, 2] [0, 1, 1, 2] (by decide) (by decide)
  rw [decide_eq_true rfl] at hs
  have hp := hp.args (xs := [.agg [.ro 8 [ndA sParam ⟨#[119]⟩, ndA sRelu ⟨#[]⟩, ndA sRelu ⟨#[]⟩, ndB sAdd 1 2], .int .i64 3]])
    ⟨_, _, rfl, ⟨_, rfl, _, _, rfl, ⟨_, rfl, _, _, rfl, ndA_as _ _, _, _, rfl, ndA_as _ _, _, _, rfl, ndA_as _ _, _, _, rfl, ndB_as _ _ _, rfl⟩, _, _, rfl, rfl, rfl⟩, rfl⟩
  refine vcall_of TOK_awake15 HM Go.Proofs.Tryz.func7 rfl (by decide +kernel) (by decide +kernel) rfl ?_
  repeat' ((conv => whnf); first | ((with_reducible apply Xq); assumption) | (with_reducible first | apply Xa | (first | apply xi | apply xp | apply xP); omega | apply Xe | refine Xg (by assumption) ?_) | refine Xo (by assumption) ?_ | refine x_0 (by first | assumption | rfl) ?_ | refine x_1 (by first | assumption | rfl) ?_ | refine Or.inl ⟨rfl, ?_⟩ | (split <;> (first | (rename_i u h; clear u) | rename_i h) <;> (try rewrite [h]) <;> (first | replace h := dt h | replace h := df h | replace h := Nt h | replace h := Nf h | skip) <;> (try dsimp only at h) <;> (first | contradiction | (exfalso; omega) | skip)) | (refine Or.inl ⟨_, by assumption, ?_⟩; first | rintro _ rfl | skip))
  refine ⟨2, _, rfl, rfl, ?_⟩
  repeat' ((conv => whnf); first | ((with_reducible apply Xq); assumption) | (with_reducible first | apply Xa | (first | apply xi | apply xp | apply xP); omega | apply Xe | refine Xg (by assumption) ?_) | refine Xo (by assumption) ?_ | refine x_0 (by first | assumption | rfl) ?_ | refine x_1 (by first | assumption | rfl) ?_ | refine Or.inl ⟨rfl, ?_⟩ | (split <;> (first | (rename_i u h; clear u) | rename_i h) <;> (try rewrite [h]) <;> (first | replace h := dt h | replace h := df h | replace h := Nt h | replace h := Nf h | skip) <;> (try dsimp only at h) <;> (first | contradiction | (exfalso; omega) | skip)) | (refine Or.inl ⟨_, by assumption, ?_⟩; first | rintro _ rfl | skip))
  conv => whnf
  rfl
end Go.V
namespace Go.V
open Go.N
set_option maxRecDepth 20000
def T_CseMerges : Tab := [(24, i24), (4, i4), (22, i22), (37, i37), (27, i27), (3, i3), (28, i28)]
theorem TOK_CseMerges : TOK Go.Proofs.Tryz.prog T_CseMerges := ⟨K24, ⟨K4, ⟨K22, ⟨K37, ⟨K27, ⟨K3, ⟨K28, trivial⟩⟩⟩⟩⟩⟩⟩
def T_CsePlaces : Tab := [(24, i24), (4, i4), (28, i28), (27, i27), (3, i3), (22, i22), (37, i37), (9, i9)]
theorem TOK_CsePlaces : TOK Go.Proofs.Tryz.prog T_CsePlaces := ⟨K24, ⟨K4, ⟨K28, ⟨K27, ⟨K3, ⟨K22, ⟨K37, ⟨K9, trivial⟩⟩⟩⟩⟩⟩⟩⟩
def T_CseNone : Tab := [(24, i24), (4, i4), (28, i28), (22, i22), (37, i37), (3, i3), (27, i27)]
theorem TOK_CseNone : TOK Go.Proofs.Tryz.prog T_CseNone := ⟨K24, ⟨K4, ⟨K28, ⟨K22, ⟨K37, ⟨K3, ⟨K27, trivial⟩⟩⟩⟩⟩⟩⟩
open Classical in
set_option maxHeartbeats 4000000 in
theorem c_CseMerges (g : Gr) : VCall Go.Proofs.Tryz.prog GL 3 [.agg g.cells] (fun r => r = .bool true) := by
  have haw := c_awake15
  obtain ⟨l, p⟩ := g
  show VCall _ _ _ [.agg [.ro 8 (rowN l), .int .i64 p]] _
  have hsm := c_r10_Small GL ⟨l, p⟩
  have hlr := rowN_length l
  cases hS : smallG ⟨l, p⟩
  · rw [hS] at hsm
    refine vcall_of TOK_CseMerges HM Go.Proofs.Tryz.func3 rfl (by decide +kernel) (by decide +kernel) rfl ?_
    repeat' ((conv => whnf); first | ((with_reducible apply Xq); assumption) | (with_reducible first | apply Xa | (first | apply xi | apply xp | apply xP); omega | apply Xe | refine Xg (by assumption) ?_) | refine Xo (by assumption) ?_ | refine x_0 (by first | assumption | rfl) ?_ | refine x_1 (by first | assumption | rfl) ?_ | refine Or.inl ⟨rfl, ?_⟩ | (split <;> (first | (rename_i u h; clear u) | rename_i h) <;> (try rewrite [h]) <;> (first | replace h := dt h | replace h := df h | replace h := Nt h | replace h := Nf h | skip) <;> (try dsimp only at h) <;> (first | contradiction | (exfalso; omega) | skip)) | (refine Or.inl ⟨_, by assumption, ?_⟩; first | rintro _ rfl | skip))
    all_goals (conv => whnf)
    all_goals rfl
  rw [hS] at hsm
  simp only [smallG, Bool.and_eq_true, decide_eq_true_eq, List.all_eq_true] at hS
  obtain ⟨hl, hs⟩ := hS
  have hs := fun x hx => smallN_sm (hs x hx)
  have hR := c_r10_Right GL ⟨l, p⟩ hs (by dsimp only; omega)
  have hM := c_cMerge ⟨l, p⟩ hs (by dsimp only; omega)
  cases hg : grOK ⟨l, p⟩
  · rw [hg] at hR hM
    rw [if_neg (by simp)] at hM
    refine vcall_of TOK_CseMerges HM Go.Proofs.Tryz.func3 rfl (by decide +kernel) (by decide +kernel) rfl ?_
    repeat' ((conv => whnf); first | ((with_reducible apply Xq); assumption) | (with_reducible first | apply Xa | (first | apply xi | apply xp | apply xP); omega | apply Xe | refine Xg (by assumption) ?_) | refine Xo (by assumption) ?_ | refine x_0 (by first | assumption | rfl) ?_ | refine x_1 (by first | assumption | rfl) ?_ | refine Or.inl ⟨rfl, ?_⟩ | (split <;> (first | (rename_i u h; clear u) | rename_i h) <;> (try rewrite [h]) <;> (first | replace h := dt h | replace h := df h | replace h := Nt h | replace h := Nf h | skip) <;> (try dsimp only at h) <;> (first | contradiction | (exfalso; omega) | skip)) | (refine Or.inl ⟨_, by assumption, ?_⟩; first | rintro _ rfl | skip))
    all_goals (conv => whnf)
    all_goals rfl
  rw [hg] at hR hM
  rw [if_pos rfl] at hM
  have h15 := c_r15_Merge ⟨l, p⟩ hg hs (by dsimp only; omega)
  have hsm2 := merge_sm hs l.length
  have hln := merge_len (l := l) l.length (Nat.le_refl _)
  have hG : mergeG ⟨l, p⟩ = (⟨(mergeTo l l.length).2, atZ (mergeTo l l.length).1 p⟩, (mergeTo l l.length).1) := rfl
  rw [hG] at hM h15
  generalize mergeTo l l.length = R at hM h15 hsm2 hln
  obtain ⟨pl, out⟩ := R
  dsimp only at hM h15 hsm2 hln
  have heq := c_r10_Equal GL ⟨out, atZ pl p⟩ ⟨out, atZ pl p⟩ hsm2 hsm2 (by dsimp only; omega)
  rw [decide_eq_true rfl] at heq
  have hsame := c_r04_Same GL pl pl (by omega) (by omega)
  rw [decide_eq_true rfl] at hsame
  refine vcall_of TOK_CseMerges HM Go.Proofs.Tryz.func3 rfl (by decide +kernel) (by decide +kernel) rfl ?_
  repeat' ((conv => whnf); first | ((with_reducible apply Xq); assumption) | (with_reducible first | apply Xa | (first | apply xi | apply xp | apply xP); omega | apply Xe | refine Xg (by assumption) ?_) | refine Xo (by assumption) ?_ | refine x_0 (by first | assumption | rfl) ?_ | refine x_1 (by first | assumption | rfl) ?_ | refine Or.inl ⟨rfl, ?_⟩ | (split <;> (first | (rename_i u h; clear u) | rename_i h) <;> (try rewrite [h]) <;> (first | replace h := dt h | replace h := df h | replace h := Nt h | replace h := Nf h | skip) <;> (try dsimp only at h) <;> (first | contradiction | (exfalso; omega) | skip)) | (refine Or.inl ⟨_, by assumption, ?_⟩; first | rintro _ rfl | skip))
  all_goals (conv => whnf)
  all_goals rfl
theorem merge_take {l : List Nd} {i n : Nat} (hi : i ≤ n) (hn : n ≤ l.length) : (mergeTo l i).1 = (mergeTo l n).1.take i := by
  have h1 := (merge_len (l := l) i (by omega)).1
  have h2 := (merge_len (l := l) n hn).1
  refine List.ext_getElem (by simp; omega) fun k hk1 hk2 => ?_
  have h3 : (mergeTo l i).1[k]? = some (mergeTo l i).1[k] := List.getElem?_eq_getElem hk1
  have h4 := merge_pl2 h3 n hi hn
  obtain ⟨h5, h6⟩ := List.getElem?_eq_some_iff.1 h4
  rw [List.getElem_take, h6]
theorem most_ge : ∀ (l : List Int) (b : Int), b ≤ l.foldl max b
  | [], b => Int.le_refl b
  | x :: l, b => by have := most_ge l (max b x); simp only [List.foldl_cons]; omega
theorem merge_place {l : List Nd} (i : Nat) (hi : i < l.length) : ∃ (p : Nat) (y : Nd), (mergeTo l l.length).1[i]? = some (p : Int) ∧ (mergeTo l l.length).2[p]? = some y ∧ y.op = l[i].op ∧ y.name = l[i].name ∧ y.shape = l[i].shape ∧
    (p : Int) ≤ mostZ ((mergeTo l l.length).1.take i) + 1 ∧ mostZ ((mergeTo l l.length).1.take (i + 1)) = max (mostZ ((mergeTo l l.length).1.take i)) p ∧ -1 ≤ mostZ ((mergeTo l l.length).1.take i) ∧ mostZ ((mergeTo l l.length).1.take i) < i := by
  have hx : l[i]? = some l[i] := List.getElem?_eq_getElem hi
  obtain ⟨p, h1, h2, h3, h4⟩ := merge_at hx
  have hm := merge_most (l := l) i (by omega)
  have hl := (merge_len (l := l) i (by omega)).2
  have hm1 := merge_most (l := l) (i + 1) (by omega)
  rw [← merge_take (i := i) (by omega) (Nat.le_refl _), ← merge_take (i := i + 1) (by omega) (Nat.le_refl _)]
  refine ⟨p, _, merge_pl2 h2 _ (by omega) (Nat.le_refl _), merge_mono2 h3 _ (by omega) (Nat.le_refl _), re_same.1, re_same.2.1, re_same.2.2, by omega, ?_, most_ge _ _, by omega⟩
  omega
set_option maxHeartbeats 4000000 in
theorem c_CsePlaces (g : Gr) : VCall Go.Proofs.Tryz.prog GL 4 [.agg g.cells] (fun r => r = .bool true) := by
  have haw := c_awake15
  obtain ⟨l, p⟩ := g
  show VCall _ _ _ [.agg [.ro 8 (rowN l), .int .i64 p]] _
  have hsm := c_r10_Small GL ⟨l, p⟩
  have hlr := rowN_length l
  cases hS : smallG ⟨l, p⟩
  · rw [hS] at hsm
    refine vcall_of TOK_CsePlaces HM Go.Proofs.Tryz.func4 rfl (by decide +kernel) (by decide +kernel) rfl ?_
    repeat' ((conv => whnf); first | ((with_reducible apply Xq); assumption) | (with_reducible first | apply Xa | (first | apply xi | apply xp | apply xP); omega | apply Xe | refine Xg (by assumption) ?_) | refine Xo (by assumption) ?_ | refine x_0 (by first | assumption | rfl) ?_ | refine x_1 (by first | assumption | rfl) ?_ | refine Or.inl ⟨rfl, ?_⟩ | (split <;> (first | (rename_i u h; clear u) | rename_i h) <;> (try rewrite [h]) <;> (first | replace h := dt h | replace h := df h | replace h := Nt h | replace h := Nf h | skip) <;> (try dsimp only at h) <;> (first | contradiction | (exfalso; omega) | skip)) | (refine Or.inl ⟨_, by assumption, ?_⟩; first | rintro _ rfl | skip))
    all_goals (conv => whnf)
    all_goals rfl
  rw [hS] at hsm
  simp only [smallG, Bool.and_eq_true, decide_eq_true_eq, List.all_eq_true] at hS
  obtain ⟨hl, hs⟩ := hS
  have hs := fun x hx => smallN_sm (hs x hx)
  have hR := c_r10_Right GL ⟨l, p⟩ hs (by dsimp only; omega)
  have hM := c_cMerge ⟨l, p⟩ hs (by dsimp only; omega)
  cases hg : grOK ⟨l, p⟩
  · rw [hg] at hR hM
    rw [if_neg (by simp)] at hM
    refine vcall_of TOK_CsePlaces HM Go.Proofs.Tryz.func4 rfl (by decide +kernel) (by decide +kernel) rfl ?_
    repeat' ((conv => whnf); first | ((with_reducible apply Xq); assumption) | (with_reducible first | apply Xa | (first | apply xi | apply xp | apply xP); omega | apply Xe | refine Xg (by assumption) ?_) | refine Xo (by assumption) ?_ | refine x_0 (by first | assumption | rfl) ?_ | refine x_1 (by first | assumption | rfl) ?_ | refine Or.inl ⟨rfl, ?_⟩ | (split <;> (first | (rename_i u h; clear u) | rename_i h) <;> (try rewrite [h]) <;> (first | replace h := dt h | replace h := df h | replace h := Nt h | replace h := Nf h | skip) <;> (try dsimp only at h) <;> (first | contradiction | (exfalso; omega) | skip)) | (refine Or.inl ⟨_, by assumption, ?_⟩; first | rintro _ rfl | skip))
    all_goals (conv => whnf)
    all_goals rfl
  rw [hg] at hR hM
  rw [if_pos rfl] at hM
  have hln := merge_len (l := l) l.length (Nat.le_refl _)
  have hmp := merge_place (l := l)
  have hmo := merge_most (l := l) l.length (Nat.le_refl _)
  obtain ⟨_, _, q, hq1, hq⟩ := ok_pre hg
  dsimp only at hq1 hq
  subst hq1
  have hG : mergeG ⟨l, q⟩ = (⟨(mergeTo l l.length).2, atZ (mergeTo l l.length).1 q⟩, (mergeTo l l.length).1) := rfl
  rw [hG] at hM
  generalize mergeTo l l.length = R at hM hln hmp hmo
  obtain ⟨pl, out⟩ := R
  dsimp only at hM hln hmp hmo
  have hplr := rowZ_length pl
  have hor := rowN_length out
  have gq : (rowZ pl)[q]? = some [.int .i64 (atZ pl q)] := by rw [atZ_nat (by omega), rowZ_get (by omega)]
  refine vcall_of TOK_CsePlaces HM Go.Proofs.Tryz.func4 rfl (by decide +kernel) (by decide +kernel) rfl ?_
  repeat' ((conv => whnf); first | ((with_reducible apply Xq); assumption) | (with_reducible first | apply Xa | (first | apply xi | apply xp | apply xP); omega | apply Xe | refine Xg (by assumption) ?_) | refine Xo (by assumption) ?_ | refine x_0 (by first | assumption | rfl) ?_ | refine x_1 (by first | assumption | rfl) ?_ | refine Or.inl ⟨rfl, ?_⟩ | (split <;> (first | (rename_i u h; clear u) | rename_i h) <;> (try rewrite [h]) <;> (first | replace h := dt h | replace h := df h | replace h := Nt h | replace h := Nf h | skip) <;> (try dsimp only at h) <;> (first | contradiction | (exfalso; omega) | skip)) | (refine Or.inl ⟨_, by assumption, ?_⟩; first | rintro _ rfl | skip))
  refine ⟨[1, 3, 4, 6, 38, 39, 40], [0, 1], fun m st => ∃ i : Nat, i ≤ l.length ∧ m = l.length - i ∧
    st = ⟨[(1, .bptr 0 0), (3, .bptr 1 0), (4, .ro 1 (rowZ pl)), (6, .int .i64 (mostZ (pl.take i))), (38, .ro 1 (rowZ pl)), (39, .int .i64 ((rowZ pl).length : Nat)), (40, .int .i64 (i : Nat))],
      [.box 24 [.ro 8 (rowN l), .int .i64 (q : Nat)], .box 24 [.ro 8 (rowN out), .int .i64 (atZ pl (q : Nat))]]⟩, rfl, ⟨l.length, 0, by omega, rfl, rfl⟩, ?_⟩
  rintro m _ ⟨i, hi, hm, rfl⟩
  rcases Nat.lt_or_ge i l.length with hil | hge
  · obtain ⟨v, y, f1, f2, f3, f4, f5, f6, f7, f8, f9⟩ := hmp i hil
    have hgx : (rowN l)[i]? = some (l[i]).cells := rowN_get hil
    have hvl : v < out.length := (List.getElem?_eq_some_iff.1 f2).1
    have hgy : (rowN out)[v]? = some y.cells := by rw [rowN_get hvl, (List.getElem?_eq_some_iff.1 f2).2]
    have hgp : (rowZ pl)[i]? = some [.int .i64 (v : Nat)] := by rw [rowZ_get (by omega), (List.getElem?_eq_some_iff.1 f1).2]
    have hsx := hs l[i] (List.getElem_mem hil)
    generalize l[i] = x at hgx f3 f4 f5 hsx
    obtain ⟨op, a, b, name, shape, k, n, data⟩ := x
    obtain ⟨op2, a2, b2, name2, shape2, k2, n2, data2⟩ := y
    dsimp only at f3 f4 f5
    subst f3 f4 f5
    have hsame := c_r04_Same GL shape2 shape2 (Nat.lt_of_le_of_lt hsx.shape (by decide)) (Nat.lt_of_le_of_lt hsx.shape (by decide))
    rw [decide_eq_true rfl] at hsame
    generalize hM0 : mostZ (pl.take i) = M0 at f6 f7 f8 f9
    repeat' ((conv => whnf); first | ((with_reducible apply Xq); assumption) | (with_reducible first | apply Xa | (first | apply xi | apply xp | apply xP); omega | apply Xe | refine Xg (by assumption) ?_) | refine Xo (by assumption) ?_ | refine x_0 (by first | assumption | rfl) ?_ | refine x_1 (by first | assumption | rfl) ?_ | refine Or.inl ⟨rfl, ?_⟩ | (split <;> (first | (rename_i u h; clear u) | rename_i h) <;> (try rewrite [h]) <;> (first | replace h := dt h | replace h := df h | replace h := Nt h | replace h := Nf h | skip) <;> (try dsimp only at h) <;> (first | contradiction | (exfalso; omega) | skip)) | (refine Or.inl ⟨_, by assumption, ?_⟩; first | rintro _ rfl | skip))
    refine ⟨by decide +kernel, [0, 1, 3, 7, 7, 23, 63, 127, 255, 511, 511, 1535, 3583, 8191, 16383, 32767, 65535, 131071, 65535, 524287, 1048575, 2097151, 65535, 4259839, 65535, 29425663, 62980095, 130088959, 268435455, 536870911, 1073741823, 2147483647, 4294967295, 2147483647, 17179869183, 34359738367, 68719476735, 2147483647, 139586437119, 2147483647, 964220157951, 2063731785727, 4262755041279, 8796093022207, 17592186044415, 35184372088831, 70368744177663, 140737488355327, 70368744177663, 562949953421311, 1125899906842623, 2251799813685247, 70368744177663, 4573968371548159, 70368744177663, 31595566135771135, 67624363154735103, 139681957192663039, 288230376151711743, 576460752303423487, 1152921504606846975], by decide +kernel, ?_⟩
    repeat' ((conv => whnf); first | ((with_reducible apply Xq); assumption) | (with_reducible first | apply Xa | (first | apply xi | apply xp | apply xP); omega | apply Xe | refine Xg (by assumption) ?_) | refine Xo (by assumption) ?_ | refine x_0 (by first | assumption | rfl) ?_ | refine x_1 (by first | assumption | rfl) ?_ | refine Or.inl ⟨rfl, ?_⟩ | (split <;> (first | (rename_i u h; clear u) | rename_i h) <;> (try rewrite [h]) <;> (first | replace h := dt h | replace h := df h | replace h := Nt h | replace h := Nf h | skip) <;> (try dsimp only at h) <;> (first | contradiction | (exfalso; omega) | skip)) | (refine Or.inl ⟨_, by assumption, ?_⟩; first | rintro _ rfl | skip))
    all_goals exact ⟨[0, 1], l.length - (i + 1), rfl, by omega, i + 1, by omega, rfl, Eq.trans rfl (congrArg (fun z : Int => (⟨[(1, .bptr 0 0), (3, .bptr 1 0), (4, .ro 1 (rowZ pl)), (6, .int .i64 z), (38, .ro 1 (rowZ pl)), (39, .int .i64 ((rowZ pl).length : Nat)), (40, .int .i64 ((i + 1 : Nat) : Int))],
      [.box 24 [.ro 8 (rowN l), .int .i64 (q : Nat)], .box 24 [.ro 8 (rowN out), .int .i64 (atZ pl (q : Nat))]]⟩ : St)) (by omega : _ = mostZ (pl.take (i + 1))))⟩
  · have hi2 : i = l.length := by omega
    subst hi2
    have hpt : pl.take l.length = pl := by rw [← hln.1]; exact List.take_length
    rw [hpt]
    repeat' ((conv => whnf); first | ((with_reducible apply Xq); assumption) | (with_reducible first | apply Xa | (first | apply xi | apply xp | apply xP); omega | apply Xe | refine Xg (by assumption) ?_) | refine Xo (by assumption) ?_ | refine x_0 (by first | assumption | rfl) ?_ | refine x_1 (by first | assumption | rfl) ?_ | refine Or.inl ⟨rfl, ?_⟩ | (split <;> (first | (rename_i u h; clear u) | rename_i h) <;> (try rewrite [h]) <;> (first | replace h := dt h | replace h := df h | replace h := Nt h | replace h := Nf h | skip) <;> (try dsimp only at h) <;> (first | contradiction | (exfalso; omega) | skip)) | (refine Or.inl ⟨_, by assumption, ?_⟩; first | rintro _ rfl | skip))
    refine ⟨by decide +kernel, [0, 1, 0, 4, 12, 31, 63, 127, 255, 127, 639, 1663, 4095, 8191, 16383, 32767, 65535, 32767, 32767, 294911, 950271, 1998847, 4194303, 8388607, 16777215, 33554431, 67108863, 134217727], by decide +kernel, ?_⟩
    repeat' ((conv => whnf); first | ((with_reducible apply Xq); assumption) | (with_reducible first | apply Xa | (first | apply xi | apply xp | apply xP); omega | apply Xe | refine Xg (by assumption) ?_) | refine Xo (by assumption) ?_ | refine x_0 (by first | assumption | rfl) ?_ | refine x_1 (by first | assumption | rfl) ?_ | refine Or.inl ⟨rfl, ?_⟩ | (split <;> (first | (rename_i u h; clear u) | rename_i h) <;> (try rewrite [h]) <;> (first | replace h := dt h | replace h := df h | replace h := Nt h | replace h := Nf h | skip) <;> (try dsimp only at h) <;> (first | contradiction | (exfalso; omega) | skip)) | (refine Or.inl ⟨_, by assumption, ?_⟩; first | rintro _ rfl | skip))
    all_goals (conv => whnf)
    all_goals rfl
open Classical in
set_option maxHeartbeats 4000000 in
theorem c_CseNone (g : Gr) : VCall Go.Proofs.Tryz.prog GL 5 [.agg g.cells] (fun r => r = .bool true) := by
  have haw := c_awake15
  obtain ⟨l, p⟩ := g
  show VCall _ _ _ [.agg [.ro 8 (rowN l), .int .i64 p]] _
  have hsm := c_r10_Small GL ⟨l, p⟩
  have hlr := rowN_length l
  cases hS : smallG ⟨l, p⟩
  · rw [hS] at hsm
    refine vcall_of TOK_CseNone HM Go.Proofs.Tryz.func5 rfl (by decide +kernel) (by decide +kernel) rfl ?_
    repeat' ((conv => whnf); first | ((with_reducible apply Xq); assumption) | (with_reducible first | apply Xa | (first | apply xi | apply xp | apply xP); omega | apply Xe | refine Xg (by assumption) ?_) | refine Xo (by assumption) ?_ | refine x_0 (by first | assumption | rfl) ?_ | refine x_1 (by first | assumption | rfl) ?_ | refine Or.inl ⟨rfl, ?_⟩ | (split <;> (first | (rename_i u h; clear u) | rename_i h) <;> (try rewrite [h]) <;> (first | replace h := dt h | replace h := df h | replace h := Nt h | replace h := Nf h | skip) <;> (try dsimp only at h) <;> (first | contradiction | (exfalso; omega) | skip)) | (refine Or.inl ⟨_, by assumption, ?_⟩; first | rintro _ rfl | skip))
    all_goals (conv => whnf)
    all_goals rfl
  rw [hS] at hsm
  simp only [smallG, Bool.and_eq_true, decide_eq_true_eq, List.all_eq_true] at hS
  obtain ⟨hl, hs⟩ := hS
  have hs := fun x hx => smallN_sm (hs x hx)
  have hR := c_r10_Right GL ⟨l, p⟩ hs (by dsimp only; omega)
  have hM := c_cMerge ⟨l, p⟩ hs (by dsimp only; omega)
  cases hg : grOK ⟨l, p⟩
  · rw [hg] at hR hM
    rw [if_neg (by simp)] at hM
    refine vcall_of TOK_CseNone HM Go.Proofs.Tryz.func5 rfl (by decide +kernel) (by decide +kernel) rfl ?_
    repeat' ((conv => whnf); first | ((with_reducible apply Xq); assumption) | (with_reducible first | apply Xa | (first | apply xi | apply xp | apply xP); omega | apply Xe | refine Xg (by assumption) ?_) | refine Xo (by assumption) ?_ | refine x_0 (by first | assumption | rfl) ?_ | refine x_1 (by first | assumption | rfl) ?_ | refine Or.inl ⟨rfl, ?_⟩ | (split <;> (first | (rename_i u h; clear u) | rename_i h) <;> (try rewrite [h]) <;> (first | replace h := dt h | replace h := df h | replace h := Nt h | replace h := Nf h | skip) <;> (try dsimp only at h) <;> (first | contradiction | (exfalso; omega) | skip)) | (refine Or.inl ⟨_, by assumption, ?_⟩; first | rintro _ rfl | skip))
    all_goals (conv => whnf)
    all_goals rfl
  rw [hg] at hR hM
  rw [if_pos rfl] at hM
  have hsm2 := merge_sm hs l.length
  have hln := merge_len (l := l) l.length (Nat.le_refl _)
  obtain ⟨_, _, q, hq1, hq⟩ := ok_pre hg
  dsimp only at hq1 hq
  subst hq1
  have hown := merge_own hg l.length (Nat.le_refl _)
  have hless := fun {i k : Nat} => @merge_less ⟨l, q⟩ hg i k
  have hG : mergeG ⟨l, q⟩ = (⟨(mergeTo l l.length).2, atZ (mergeTo l l.length).1 q⟩, (mergeTo l l.length).1) := rfl
  rw [hG] at hM
  dsimp only at hown hless
  generalize mergeTo l l.length = R at hM hsm2 hln hown hless
  obtain ⟨pl, out⟩ := R
  dsimp only at hM hsm2 hln hown hless
  have hplr := rowZ_length pl
  have hor := rowN_length out
  have hsame := fun x (hx : x ∈ l) y (hy : y ∈ l) => c_r10_Same GL x y (hs x hx) (hs y hy)
  refine vcall_of TOK_CseNone HM Go.Proofs.Tryz.func5 rfl (by decide +kernel) (by decide +kernel) rfl ?_
  repeat' ((conv => whnf); first | ((with_reducible apply Xq); assumption) | (with_reducible first | apply Xa | (first | apply xi | apply xp | apply xP); omega | apply Xe | refine Xg (by assumption) ?_) | refine Xo (by assumption) ?_ | refine x_0 (by first | assumption | rfl) ?_ | refine x_1 (by first | assumption | rfl) ?_ | refine Or.inl ⟨rfl, ?_⟩ | (split <;> (first | (rename_i u h; clear u) | rename_i h) <;> (try rewrite [h]) <;> (first | replace h := dt h | replace h := df h | replace h := Nt h | replace h := Nf h | skip) <;> (try dsimp only at h) <;> (first | contradiction | (exfalso; omega) | skip)) | (refine Or.inl ⟨_, by assumption, ?_⟩; first | rintro _ rfl | skip))
  refine ⟨[1, 3, 4, 32, 33], [0, 1], fun m st => ∃ i : Nat, i ≤ l.length ∧ m = l.length - i ∧ distinctTo l i ∧
    st = ⟨[(1, .bptr 0 0), (3, .bptr 1 0), (4, .ro 1 (rowZ pl)), (32, .int .i64 ((rowN l).length : Nat)), (33, .int .i64 (i : Nat))],
      [.box 24 [.ro 8 (rowN l), .int .i64 (q : Nat)], .box 24 [.ro 8 (rowN out), .int .i64 (atZ pl (q : Nat))]]⟩, rfl, ⟨l.length, 0, by omega, rfl, fun a ha k hk h0 => absurd h0 (Nat.not_lt_zero _), rfl⟩, ?_⟩
  rintro m _ ⟨i, hi, hm, hd, rfl⟩
  rcases Nat.lt_or_ge i l.length with hil | hge
  · have hgx : (rowN l)[i]? = some (l[i]).cells := rowN_get hil
    repeat' ((conv => whnf); first | ((with_reducible apply Xq); assumption) | (with_reducible first | apply Xa | (first | apply xi | apply xp | apply xP); omega | apply Xe | refine Xg (by assumption) ?_) | refine Xo (by assumption) ?_ | refine x_0 (by first | assumption | rfl) ?_ | refine x_1 (by first | assumption | rfl) ?_ | refine Or.inl ⟨rfl, ?_⟩ | (split <;> (first | (rename_i u h; clear u) | rename_i h) <;> (try rewrite [h]) <;> (first | replace h := dt h | replace h := df h | replace h := Nt h | replace h := Nf h | skip) <;> (try dsimp only at h) <;> (first | contradiction | (exfalso; omega) | skip)) | (refine Or.inl ⟨_, by assumption, ?_⟩; first | rintro _ rfl | skip))
    refine ⟨[1, 3, 4, 6, 32, 33, 36, 37], [0, 1], fun m st => ∃ k : Nat, k ≤ i ∧ m = i - k ∧ (∀ j (hj : j < k) (hjl : j < l.length), l[i] ≠ l[j]) ∧
      st = ⟨[(1, .bptr 0 0), (3, .bptr 1 0), (4, .ro 1 (rowZ pl)), (6, .int .i64 (i : Nat)), (32, .int .i64 ((rowN l).length : Nat)), (33, .int .i64 (i : Nat)), (36, .int .i64 (i : Nat)), (37, .int .i64 (k : Nat))],
        [.box 24 [.ro 8 (rowN l), .int .i64 (q : Nat)], .box 24 [.ro 8 (rowN out), .int .i64 (atZ pl (q : Nat))]]⟩, rfl, ⟨i, 0, by omega, rfl, fun j hj _ => absurd hj (Nat.not_lt_zero _), rfl⟩, ?_⟩
    rintro m2 _ ⟨k, hk, hm2, hne, rfl⟩
    rcases Nat.lt_or_ge k i with hki | hkge
    · have hgy : (rowN l)[k]? = some (l[k]).cells := rowN_get (by omega)
      have hsm3 := hsame l[i] (List.getElem_mem hil) l[k] (List.getElem_mem (by omega))
      by_cases e : l[i] = l[k]
      · have hls := hless hil hki e
        simp only [e, decide_true] at hsm3
        rw [← e] at hsm3 hgy
        repeat' ((conv => whnf); first | ((with_reducible apply Xq); assumption) | (with_reducible first | apply Xa | (first | apply xi | apply xp | apply xP); omega | apply Xe | refine Xg (by assumption) ?_) | refine Xo (by assumption) ?_ | refine x_0 (by first | assumption | rfl) ?_ | refine x_1 (by first | assumption | rfl) ?_ | refine Or.inl ⟨rfl, ?_⟩ | (split <;> (first | (rename_i u h; clear u) | rename_i h) <;> (try rewrite [h]) <;> (first | replace h := dt h | replace h := df h | replace h := Nt h | replace h := Nf h | skip) <;> (try dsimp only at h) <;> (first | contradiction | (exfalso; omega) | skip)) | (refine Or.inl ⟨_, by assumption, ?_⟩; first | rintro _ rfl | skip))
        refine ⟨by decide +kernel, [0, 1, 0, 7, 15, 0, 32, 0, 224, 480, 1023], by decide +kernel, ?_⟩
        repeat' ((conv => whnf); first | ((with_reducible apply Xq); assumption) | (with_reducible first | apply Xa | (first | apply xi | apply xp | apply xP); omega | apply Xe | refine Xg (by assumption) ?_) | refine Xo (by assumption) ?_ | refine x_0 (by first | assumption | rfl) ?_ | refine x_1 (by first | assumption | rfl) ?_ | refine Or.inl ⟨rfl, ?_⟩ | (split <;> (first | (rename_i u h; clear u) | rename_i h) <;> (try rewrite [h]) <;> (first | replace h := dt h | replace h := df h | replace h := Nt h | replace h := Nf h | skip) <;> (try dsimp only at h) <;> (first | contradiction | (exfalso; omega) | skip)) | (refine Or.inl ⟨_, by assumption, ?_⟩; first | rintro _ rfl | skip))
        all_goals (conv => whnf)
        all_goals rfl
      · simp only [e, decide_false] at hsm3
        repeat' ((conv => whnf); first | ((with_reducible apply Xq); assumption) | (with_reducible first | apply Xa | (first | apply xi | apply xp | apply xP); omega | apply Xe | refine Xg (by assumption) ?_) | refine Xo (by assumption) ?_ | refine x_0 (by first | assumption | rfl) ?_ | refine x_1 (by first | assumption | rfl) ?_ | refine Or.inl ⟨rfl, ?_⟩ | (split <;> (first | (rename_i u h; clear u) | rename_i h) <;> (try rewrite [h]) <;> (first | replace h := dt h | replace h := df h | replace h := Nt h | replace h := Nf h | skip) <;> (try dsimp only at h) <;> (first | contradiction | (exfalso; omega) | skip)) | (refine Or.inl ⟨_, by assumption, ?_⟩; first | rintro _ rfl | skip))
        refine ⟨by decide +kernel, [0, 1, 0, 7, 15, 0, 32, 0, 224, 480, 1023], by decide +kernel, ?_⟩
        repeat' ((conv => whnf); first | ((with_reducible apply Xq); assumption) | (with_reducible first | apply Xa | (first | apply xi | apply xp | apply xP); omega | apply Xe | refine Xg (by assumption) ?_) | refine Xo (by assumption) ?_ | refine x_0 (by first | assumption | rfl) ?_ | refine x_1 (by first | assumption | rfl) ?_ | refine Or.inl ⟨rfl, ?_⟩ | (split <;> (first | (rename_i u h; clear u) | rename_i h) <;> (try rewrite [h]) <;> (first | replace h := dt h | replace h := df h | replace h := Nt h | replace h := Nf h | skip) <;> (try dsimp only at h) <;> (first | contradiction | (exfalso; omega) | skip)) | (refine Or.inl ⟨_, by assumption, ?_⟩; first | rintro _ rfl | skip))
        all_goals exact ⟨[0, 1], i - (k + 1), rfl, by omega, k + 1, by omega, rfl, fun j hj hjl => (Nat.lt_succ_iff_lt_or_eq.1 hj).elim (fun h => hne j h hjl) (fun h => by subst h; exact e), rfl⟩
    · repeat' ((conv => whnf); first | ((with_reducible apply Xq); assumption) | (with_reducible first | apply Xa | (first | apply xi | apply xp | apply xP); omega | apply Xe | refine Xg (by assumption) ?_) | refine Xo (by assumption) ?_ | refine x_0 (by first | assumption | rfl) ?_ | refine x_1 (by first | assumption | rfl) ?_ | refine Or.inl ⟨rfl, ?_⟩ | (split <;> (first | (rename_i u h; clear u) | rename_i h) <;> (try rewrite [h]) <;> (first | replace h := dt h | replace h := df h | replace h := Nt h | replace h := Nf h | skip) <;> (try dsimp only at h) <;> (first | contradiction | (exfalso; omega) | skip)) | (refine Or.inl ⟨_, by assumption, ?_⟩; first | rintro _ rfl | skip))
      all_goals exact ⟨[0, 1], l.length - (i + 1), rfl, by omega, i + 1, by omega, rfl, fun j hj k2 hk2 hjl => (Nat.lt_succ_iff_lt_or_eq.1 hjl).elim (fun h => hd j hj k2 hk2 h) (fun h => by subst h; exact hne k2 (by omega) (by omega)), rfl⟩
  · obtain rfl : i = l.length := by omega
    obtain ⟨rfl, hout⟩ : pl = upTo l.length ∧ l = out := by
      have := hown hd
      rw [List.take_length] at this
      exact ⟨congrArg Prod.fst this, (congrArg Prod.snd this).symm⟩
    subst hout
    clear hless hown
    have heq := c_r10_Equal GL ⟨l, q⟩ ⟨l, q⟩ hs hs (by dsimp only; omega)
    rw [decide_eq_true rfl] at heq
    have hq2 : atZ (upTo l.length) (q : Nat) = (q : Int) := by rw [atZ_nat (by omega)]; simp [upTo]
    have hul := hln.1
    rw [hq2]
    repeat' ((conv => whnf); first | ((with_reducible apply Xq); assumption) | (with_reducible first | apply Xa | (first | apply xi | apply xp | apply xP); omega | apply Xe | refine Xg (by assumption) ?_) | refine Xo (by assumption) ?_ | refine x_0 (by first | assumption | rfl) ?_ | refine x_1 (by first | assumption | rfl) ?_ | refine Or.inl ⟨rfl, ?_⟩ | (split <;> (first | (rename_i u h; clear u) | rename_i h) <;> (try rewrite [h]) <;> (first | replace h := dt h | replace h := df h | replace h := Nt h | replace h := Nf h | skip) <;> (try dsimp only at h) <;> (first | contradiction | (exfalso; omega) | skip)) | (refine Or.inl ⟨_, by assumption, ?_⟩; first | rintro _ rfl | skip))
    refine ⟨[1, 3, 8, 70, 71, 72], [0, 1], fun m st => ∃ i : Nat, i ≤ l.length ∧ m = l.length - i ∧
      st = ⟨[(1, .bptr 0 0), (3, .bptr 1 0), (8, .bool true), (70, .ro 1 (rowZ (upTo l.length))), (71, .int .i64 ((rowZ (upTo l.length)).length : Nat)), (72, .int .i64 (i : Nat))],
        [.box 24 [.ro 8 (rowN l), .int .i64 (q : Nat)], .box 24 [.ro 8 (rowN l), .int .i64 (q : Nat)]]⟩, rfl, ⟨l.length, 0, by omega, rfl, Eq.trans rfl (congrArg (fun b : Bool => (⟨[(1, .bptr 0 0), (3, .bptr 1 0), (8, .bool b), (70, .ro 1 (rowZ (upTo l.length))), (71, .int .i64 ((rowZ (upTo l.length)).length : Nat)), (72, .int .i64 ((0 : Nat) : Int))],
        [.box 24 [.ro 8 (rowN l), .int .i64 (q : Nat)], .box 24 [.ro 8 (rowN l), .int .i64 (q : Nat)]]⟩ : St)) (decide_eq_true (rfl : (((rowN l).length : Nat) : Int) = ((rowN l).length : Nat))))⟩, ?_⟩
    rintro m3 _ ⟨i, hi3, hm3, rfl⟩
    rcases Nat.lt_or_ge i l.length with hil | hge3
    · have hgu : (rowZ (upTo l.length))[i]? = some [.int .i64 (i : Nat)] := by rw [rowZ_get (by omega)]; simp [upTo]
      repeat' ((conv => whnf); first | ((with_reducible apply Xq); assumption) | (with_reducible first | apply Xa | (first | apply xi | apply xp | apply xP); omega | apply Xe | refine Xg (by assumption) ?_) | refine Xo (by assumption) ?_ | refine x_0 (by first | assumption | rfl) ?_ | refine x_1 (by first | assumption | rfl) ?_ | refine Or.inl ⟨rfl, ?_⟩ | (split <;> (first | (rename_i u h; clear u) | rename_i h) <;> (try rewrite [h]) <;> (first | replace h := dt h | replace h := df h | replace h := Nt h | replace h := Nf h | skip) <;> (try dsimp only at h) <;> (first | contradiction | (exfalso; omega) | skip)) | (refine Or.inl ⟨_, by assumption, ?_⟩; first | rintro _ rfl | skip))
      all_goals exact ⟨[0, 1], l.length - (i + 1), rfl, by omega, i + 1, by omega, rfl, Eq.trans rfl (congrArg (fun b : Bool => (⟨[(1, .bptr 0 0), (3, .bptr 1 0), (8, .bool b), (70, .ro 1 (rowZ (upTo l.length))), (71, .int .i64 ((rowZ (upTo l.length)).length : Nat)), (72, .int .i64 ((i + 1 : Nat) : Int))],
        [.box 24 [.ro 8 (rowN l), .int .i64 (q : Nat)], .box 24 [.ro 8 (rowN l), .int .i64 (q : Nat)]]⟩ : St)) (decide_eq_true (rfl : (i : Int) = (i : Int))))⟩
    · repeat' ((conv => whnf); first | ((with_reducible apply Xq); assumption) | (with_reducible first | apply Xa | (first | apply xi | apply xp | apply xP); omega | apply Xe | refine Xg (by assumption) ?_) | refine Xo (by assumption) ?_ | refine x_0 (by first | assumption | rfl) ?_ | refine x_1 (by first | assumption | rfl) ?_ | refine Or.inl ⟨rfl, ?_⟩ | (split <;> (first | (rename_i u h; clear u) | rename_i h) <;> (try rewrite [h]) <;> (first | replace h := dt h | replace h := df h | replace h := Nt h | replace h := Nf h | skip) <;> (try dsimp only at h) <;> (first | contradiction | (exfalso; omega) | skip)) | (refine Or.inl ⟨_, by assumption, ?_⟩; first | rintro _ rfl | skip))
      all_goals (conv => whnf)
      all_goals rfl
end Go.V
namespace Go.Proofs.YtfmmaiebblhhdaaGreatDoor
open Go Go.ChangeShapes Go.WideShapes Go.ChangeAt Go.RowKit Go.V
set_option maxRecDepth 100000
theorem args_of1 {H : Type} {enc : TypeId × Value → H} {W : World} {base : Nat} {v0 : Value} {d0 : DataW H} {p0 : List MemPlace} (h0 : DataW.Trod enc Go.Proofs.Tryz.prog W 0 (fun _ => true) true 24 v0 d0 p0)
    (k0 : Value.okWide Go.Proofs.Tryz.prog W .any base 24 v0) : ∃ g : Gr, RepL (SW W) H0 W [.agg g.cells] [v0] := by
  obtain ⟨cs, rfl, _⟩ := okWide_struct Tryz.underlying24 k0
  obtain ⟨f0, h0⟩ := h0
  obtain ⟨xs, ⟨g, rfl⟩, _, e2, e3⟩ := o_graph f0 _ _ h0
  refine ⟨g, ?_⟩
  have c0 : (Value.agg cs).cells.toList = cs.toList := rfl
  rw [c0] at e2 e3
  simp only [RepL]
  refine ⟨_, _, rfl, ?_, rfl⟩
  simp only [RepV]
  exact ⟨cs.toList, by simp, e2, e3⟩
theorem walk_CseMerges {W : World} (g : Gr) (v0 : Value) (hgl : GlOK (SW W) W GL) (ha : RepL (SW W) H0 W [.agg g.cells] [v0]) :
    Calls Go.Proofs.Tryz.prog 3 #[v0] W fun e w' => e = .returned (.bool true) ∧ Below W.heap.size W w' :=
  VCall.calls (c_CseMerges g) Tryz.func3 rfl (by decide +kernel) hgl ha fun S b w' v' h => by
    obtain ⟨S', F, hF, _⟩ := h
    simp only [RepF, RepV] at hF
    exact hF.2
theorem lifted_CseMerges (os : Os) (started : os.Started) (H : Type) (enc : TypeId × Value → H) :
    ReturnsInHanded {} Tryz.checked os 3 .any (fun w args => (Rows.cseMergesSpec.pre enc Go.Proofs.Tryz.prog Go.Proofs.Tryz.f3 [] false w args ∧ laidMetH Go.Proofs.Tryz.prog Rows.cseMergesRow.laid w) ∧ sizedMet enc Go.Proofs.Tryz.prog Go.Proofs.Tryz.f3 (OpenSpec.ofChange Rows.cseMergesSpec) false w args)
      (Rows.cseMergesSpec.post enc Go.Proofs.Tryz.prog Go.Proofs.Tryz.f3 false true false false) := by
  refine returnsInHanded_of_change_and (C := Tryz.checked) (X := fun w _ => laidMetH Go.Proofs.Tryz.prog Rows.cseMergesRow.laid w) (fun _ _ _ hh h => h.of_heap hh) own started (by kernel_rfl) Tryz.func3
    (ChangeSpec.witness_shaped (enc := enc) (C := Tryz.checked) (os := os) (X := fun w _ => laidMetH Go.Proofs.Tryz.prog Rows.cseMergesRow.laid w) false (World.laidAll Go.Proofs.Tryz.prog os Rows.cseMergesRow.laid) #[.agg #[.slice none 0 0, .int .i64 0]] 8 (World.laidAll_os _ _ _)
      (World.shaped_of_ZipB (by kernel_rfl) (by kernel_rfl)) (by kernel_rfl) (by kernel_rfl) (by kernel_rfl)
      (by rw [MakeChecks.laidMetH_plain _ _ _ (by kernel_rfl)]; exact laidMet_laidAll _ (by kernel_rfl) (by kernel_rfl))) ?_
  intro W base args ds gs before hval0 hW hc _ hL _
  have hval : ∀ (j : Nat) t v, Go.Proofs.Tryz.f3.params[j]? = some t → args[j]? = some v → Value.okWide Go.Proofs.Tryz.prog W .any base t v := hval0
  have hW' := hW
  obtain ⟨p, q, hA0, hV, rfl, _, _⟩ := hW
  have hA : DataW.TrodAll enc Go.Proofs.Tryz.prog W 0 (fun _ => true) true Go.Proofs.Tryz.f3.params.toList args.toList ds p := hA0
  rw [Tryz.params3] at hA hval
  obtain ⟨v0, vs0, d0, ds0, p0, q0, hargs, rfl, rfl, h0, r0⟩ := trodAll_cons hA
  obtain ⟨rfl, rfl, rfl⟩ := trodAll_nil r0
  obtain rfl : args = #[v0] := by cases args; simp_all
  obtain ⟨rfl, rfl⟩ := trodVars_none hV
  rw [MakeChecks.laidMetH_plain _ _ _ (by kernel_rfl)] at hL
  obtain ⟨g, hrep⟩ := args_of1 h0 (hval 0 _ v0 rfl rfl)
  refine (walk_CseMerges g v0 (gl_of hL (by first | exact ⟨0, _, rfl⟩ | exact ⟨1, _, rfl⟩ | exact ⟨2, _, rfl⟩ | exact ⟨3, _, rfl⟩ | exact ⟨4, _, rfl⟩ | exact ⟨5, _, rfl⟩ | exact ⟨6, _, rfl⟩ | exact ⟨7, _, rfl⟩ | exact ⟨8, _, rfl⟩ | exact ⟨9, _, rfl⟩ | exact ⟨10, _, rfl⟩ | exact ⟨11, _, rfl⟩ | exact ⟨12, _, rfl⟩ | exact ⟨13, _, rfl⟩) (by first | exact ⟨0, _, rfl⟩ | exact ⟨1, _, rfl⟩ | exact ⟨2, _, rfl⟩ | exact ⟨3, _, rfl⟩ | exact ⟨4, _, rfl⟩ | exact ⟨5, _, rfl⟩ | exact ⟨6, _, rfl⟩ | exact ⟨7, _, rfl⟩ | exact ⟨8, _, rfl⟩ | exact ⟨9, _, rfl⟩ | exact ⟨10, _, rfl⟩ | exact ⟨11, _, rfl⟩ | exact ⟨12, _, rfl⟩ | exact ⟨13, _, rfl⟩) (by first | exact ⟨0, _, rfl⟩ | exact ⟨1, _, rfl⟩ | exact ⟨2, _, rfl⟩ | exact ⟨3, _, rfl⟩ | exact ⟨4, _, rfl⟩ | exact ⟨5, _, rfl⟩ | exact ⟨6, _, rfl⟩ | exact ⟨7, _, rfl⟩ | exact ⟨8, _, rfl⟩ | exact ⟨9, _, rfl⟩ | exact ⟨10, _, rfl⟩ | exact ⟨11, _, rfl⟩ | exact ⟨12, _, rfl⟩ | exact ⟨13, _, rfl⟩)) hrep).mono fun e W' ⟨he, bel⟩ => ?_
  subst he
  have lt0 : ∀ x ∈ p0, x.block < W.heap.size := by obtain ⟨m, hm⟩ := h0; exact DataW.trod_lt m _ _ _ hm
  exact ⟨_, rfl, _, _, _, [], _, [], hW', trodAll_mk1 (shut_bool Tryz.underlying4 _), (trodAll_cons_mk (Below.trod laidOut (by kernel_rfl) (of_decide_eq_true (by kernel_rfl)) h0 bel lt0) trodAll_mk0), rfl, bel.frame _, fun h => by cases h⟩
theorem row_CseMerges : Rows.CseMergesSaid :=
  OpenClaim.holds_of_wide 3 Go.Proofs.Tryz.f3 rfl rfl rfl rfl rfl rfl rfl ⟨rfl, rfl, rfl, rfl, rfl⟩ rfl rfl rfl rfl rfl (by kernel_rfl) Tryz.func3 (by kernel_rfl)
    (of_decide_eq_true (by kernel_rfl)) (by unfold Func.isWrapper; first | (rw [if_pos (by decide +kernel)]; kernel_rfl) | (rw [if_neg (by decide +kernel)]; exact ⟨rfl, rfl⟩))
    (fun os started H enc _ => lifted_CseMerges os started H enc)
theorem cseMerges_holds : Rows.CseMergesCardSaid :=
  Claim7.holds_tied_plain_at .later [] [.data, .data, .data, .data, .sentinel, .sentinel, .pinned] true Rows.cseMergesCard.stood.harness false row_CseMerges (fun _ h => by cases h) (by kernel_rfl) (fun _ h => by cases h) cseMerges_row_tie rfl ⟨rfl, rfl⟩ (by kernel_rfl) rfl
    (fun f fn hf hfn => by
      obtain rfl : f = 3 := Option.some.inj ((show Go.Proofs.Tryz.prog.funcNamed "tapewright/tapewrightlaw15.CseMerges" = some 3 by kernel_rfl).symm.trans hf) |>.symm
      obtain rfl : fn = Go.Proofs.Tryz.f3 := (Option.some.inj (Tryz.func3.symm.trans hfn)).symm
      exact ⟨by kernel_rfl, fun j t ht => by
        rw [Tryz.params3] at ht
        have hm : t ∈ [24] := by simpa using Array.mem_of_getElem? ht
        have hall : ([24].all fun u => !Go.Proofs.Tryz.prog.wantsStandIn u) = true := by kernel_rfl
        exact (show Go.Proofs.Tryz.prog.wantsStandIn t = false by simpa using List.all_eq_true.1 hall t hm)⟩)
    (by kernel_rfl)
theorem walk_CsePlaces {W : World} (g : Gr) (v0 : Value) (hgl : GlOK (SW W) W GL) (ha : RepL (SW W) H0 W [.agg g.cells] [v0]) :
    Calls Go.Proofs.Tryz.prog 4 #[v0] W fun e w' => e = .returned (.bool true) ∧ Below W.heap.size W w' :=
  VCall.calls (c_CsePlaces g) Tryz.func4 rfl (by decide +kernel) hgl ha fun S b w' v' h => by
    obtain ⟨S', F, hF, _⟩ := h
    simp only [RepF, RepV] at hF
    exact hF.2
theorem lifted_CsePlaces (os : Os) (started : os.Started) (H : Type) (enc : TypeId × Value → H) :
    ReturnsInHanded {} Tryz.checked os 4 .any (fun w args => (Rows.csePlacesSpec.pre enc Go.Proofs.Tryz.prog Go.Proofs.Tryz.f4 [] false w args ∧ laidMetH Go.Proofs.Tryz.prog Rows.csePlacesRow.laid w) ∧ sizedMet enc Go.Proofs.Tryz.prog Go.Proofs.Tryz.f4 (OpenSpec.ofChange Rows.csePlacesSpec) false w args)
      (Rows.csePlacesSpec.post enc Go.Proofs.Tryz.prog Go.Proofs.Tryz.f4 false true false false) := by
  refine returnsInHanded_of_change_and (C := Tryz.checked) (X := fun w _ => laidMetH Go.Proofs.Tryz.prog Rows.csePlacesRow.laid w) (fun _ _ _ hh h => h.of_heap hh) own started (by kernel_rfl) Tryz.func4
    (ChangeSpec.witness_shaped (enc := enc) (C := Tryz.checked) (os := os) (X := fun w _ => laidMetH Go.Proofs.Tryz.prog Rows.csePlacesRow.laid w) false (World.laidAll Go.Proofs.Tryz.prog os Rows.csePlacesRow.laid) #[.agg #[.slice none 0 0, .int .i64 0]] 8 (World.laidAll_os _ _ _)
      (World.shaped_of_ZipB (by kernel_rfl) (by kernel_rfl)) (by kernel_rfl) (by kernel_rfl) (by kernel_rfl)
      (by rw [MakeChecks.laidMetH_plain _ _ _ (by kernel_rfl)]; exact laidMet_laidAll _ (by kernel_rfl) (by kernel_rfl))) ?_
  intro W base args ds gs before hval0 hW hc _ hL _
  have hval : ∀ (j : Nat) t v, Go.Proofs.Tryz.f4.params[j]? = some t → args[j]? = some v → Value.okWide Go.Proofs.Tryz.prog W .any base t v := hval0
  have hW' := hW
  obtain ⟨p, q, hA0, hV, rfl, _, _⟩ := hW
  have hA : DataW.TrodAll enc Go.Proofs.Tryz.prog W 0 (fun _ => true) true Go.Proofs.Tryz.f4.params.toList args.toList ds p := hA0
  rw [Tryz.params4] at hA hval
  obtain ⟨v0, vs0, d0, ds0, p0, q0, hargs, rfl, rfl, h0, r0⟩ := trodAll_cons hA
  obtain ⟨rfl, rfl, rfl⟩ := trodAll_nil r0
  obtain rfl : args = #[v0] := by cases args; simp_all
  obtain ⟨rfl, rfl⟩ := trodVars_none hV
  rw [MakeChecks.laidMetH_plain _ _ _ (by kernel_rfl)] at hL
  obtain ⟨g, hrep⟩ := args_of1 h0 (hval 0 _ v0 rfl rfl)
  refine (walk_CsePlaces g v0 (gl_of hL (by first | exact ⟨0, _, rfl⟩ | exact ⟨1, _, rfl⟩ | exact ⟨2, _, rfl⟩ | exact ⟨3, _, rfl⟩ | exact ⟨4, _, rfl⟩ | exact ⟨5, _, rfl⟩ | exact ⟨6, _, rfl⟩ | exact ⟨7, _, rfl⟩ | exact ⟨8, _, rfl⟩ | exact ⟨9, _, rfl⟩ | exact ⟨10, _, rfl⟩ | exact ⟨11, _, rfl⟩ | exact ⟨12, _, rfl⟩ | exact ⟨13, _, rfl⟩) (by first | exact ⟨0, _, rfl⟩ | exact ⟨1, _, rfl⟩ | exact ⟨2, _, rfl⟩ | exact ⟨3, _, rfl⟩ | exact ⟨4, _, rfl⟩ | exact ⟨5, _, rfl⟩ | exact ⟨6, _, rfl⟩ | exact ⟨7, _, rfl⟩ | exact ⟨8, _, rfl⟩ | exact ⟨9, _, rfl⟩ | exact ⟨10, _, rfl⟩ | exact ⟨11, _, rfl⟩ | exact ⟨12, _, rfl⟩ | exact ⟨13, _, rfl⟩) (by first | exact ⟨0, _, rfl⟩ | exact ⟨1, _, rfl⟩ | exact ⟨2, _, rfl⟩ | exact ⟨3, _, rfl⟩ | exact ⟨4, _, rfl⟩ | exact ⟨5, _, rfl⟩ | exact ⟨6, _, rfl⟩ | exact ⟨7, _, rfl⟩ | exact ⟨8, _, rfl⟩ | exact ⟨9, _, rfl⟩ | exact ⟨10, _, rfl⟩ | exact ⟨11, _, rfl⟩ | exact ⟨12, _, rfl⟩ | exact ⟨13, _, rfl⟩)) hrep).mono fun e W' ⟨he, bel⟩ => ?_
  subst he
  have lt0 : ∀ x ∈ p0, x.block < W.heap.size := by obtain ⟨m, hm⟩ := h0; exact DataW.trod_lt m _ _ _ hm
  exact ⟨_, rfl, _, _, _, [], _, [], hW', trodAll_mk1 (shut_bool Tryz.underlying4 _), (trodAll_cons_mk (Below.trod laidOut (by kernel_rfl) (of_decide_eq_true (by kernel_rfl)) h0 bel lt0) trodAll_mk0), rfl, bel.frame _, fun h => by cases h⟩
theorem row_CsePlaces : Rows.CsePlacesSaid :=
  OpenClaim.holds_of_wide 4 Go.Proofs.Tryz.f4 rfl rfl rfl rfl rfl rfl rfl ⟨rfl, rfl, rfl, rfl, rfl⟩ rfl rfl rfl rfl rfl (by kernel_rfl) Tryz.func4 (by kernel_rfl)
    (of_decide_eq_true (by kernel_rfl)) (by unfold Func.isWrapper; first | (rw [if_pos (by decide +kernel)]; kernel_rfl) | (rw [if_neg (by decide +kernel)]; exact ⟨rfl, rfl⟩))
    (fun os started H enc _ => lifted_CsePlaces os started H enc)
theorem csePlaces_holds : Rows.CsePlacesCardSaid :=
  Claim7.holds_tied_plain_at .later [] [.data, .data, .data, .data, .sentinel, .sentinel, .pinned] true Rows.csePlacesCard.stood.harness false row_CsePlaces (fun _ h => by cases h) (by kernel_rfl) (fun _ h => by cases h) csePlaces_row_tie rfl ⟨rfl, rfl⟩ (by kernel_rfl) rfl
    (fun f fn hf hfn => by
      obtain rfl : f = 4 := Option.some.inj ((show Go.Proofs.Tryz.prog.funcNamed "tapewright/tapewrightlaw15.CsePlaces" = some 4 by kernel_rfl).symm.trans hf) |>.symm
      obtain rfl : fn = Go.Proofs.Tryz.f4 := (Option.some.inj (Tryz.func4.symm.trans hfn)).symm
      exact ⟨by kernel_rfl, fun j t ht => by
        rw [Tryz.params4] at ht
        have hm : t ∈ [24] := by simpa using Array.mem_of_getElem? ht
        have hall : ([24].all fun u => !Go.Proofs.Tryz.prog.wantsStandIn u) = true := by kernel_rfl
        exact (show Go.Proofs.Tryz.prog.wantsStandIn t = false by simpa using List.all_eq_true.1 hall t hm)⟩)
    (by kernel_rfl)
theorem walk_CseNone {W : World} (g : Gr) (v0 : Value) (hgl : GlOK (SW W) W GL) (ha : RepL (SW W) H0 W [.agg g.cells] [v0]) :
    Calls Go.Proofs.Tryz.prog 5 #[v0] W fun e w' => e = .returned (.bool true) ∧ Below W.heap.size W w' :=
  VCall.calls (c_CseNone g) Tryz.func5 rfl (by decide +kernel) hgl ha fun S b w' v' h => by
    obtain ⟨S', F, hF, _⟩ := h
    simp only [RepF, RepV] at hF
    exact hF.2
theorem lifted_CseNone (os : Os) (started : os.Started) (H : Type) (enc : TypeId × Value → H) :
    ReturnsInHanded {} Tryz.checked os 5 .any (fun w args => (Rows.cseNoneSpec.pre enc Go.Proofs.Tryz.prog Go.Proofs.Tryz.f5 [] false w args ∧ laidMetH Go.Proofs.Tryz.prog Rows.cseNoneRow.laid w) ∧ sizedMet enc Go.Proofs.Tryz.prog Go.Proofs.Tryz.f5 (OpenSpec.ofChange Rows.cseNoneSpec) false w args)
      (Rows.cseNoneSpec.post enc Go.Proofs.Tryz.prog Go.Proofs.Tryz.f5 false true false false) := by
  refine returnsInHanded_of_change_and (C := Tryz.checked) (X := fun w _ => laidMetH Go.Proofs.Tryz.prog Rows.cseNoneRow.laid w) (fun _ _ _ hh h => h.of_heap hh) own started (by kernel_rfl) Tryz.func5
    (ChangeSpec.witness_shaped (enc := enc) (C := Tryz.checked) (os := os) (X := fun w _ => laidMetH Go.Proofs.Tryz.prog Rows.cseNoneRow.laid w) false (World.laidAll Go.Proofs.Tryz.prog os Rows.cseNoneRow.laid) #[.agg #[.slice none 0 0, .int .i64 0]] 8 (World.laidAll_os _ _ _)
      (World.shaped_of_ZipB (by kernel_rfl) (by kernel_rfl)) (by kernel_rfl) (by kernel_rfl) (by kernel_rfl)
      (by rw [MakeChecks.laidMetH_plain _ _ _ (by kernel_rfl)]; exact laidMet_laidAll _ (by kernel_rfl) (by kernel_rfl))) ?_
  intro W base args ds gs before hval0 hW hc _ hL _
  have hval : ∀ (j : Nat) t v, Go.Proofs.Tryz.f5.params[j]? = some t → args[j]? = some v → Value.okWide Go.Proofs.Tryz.prog W .any base t v := hval0
  have hW' := hW
  obtain ⟨p, q, hA0, hV, rfl, _, _⟩ := hW
  have hA : DataW.TrodAll enc Go.Proofs.Tryz.prog W 0 (fun _ => true) true Go.Proofs.Tryz.f5.params.toList args.toList ds p := hA0
  rw [Tryz.params5] at hA hval
  obtain ⟨v0, vs0, d0, ds0, p0, q0, hargs, rfl, rfl, h0, r0⟩ := trodAll_cons hA
  obtain ⟨rfl, rfl, rfl⟩ := trodAll_nil r0
  obtain rfl : args = #[v0] := by cases args; simp_all
  obtain ⟨rfl, rfl⟩ := trodVars_none hV
  rw [MakeChecks.laidMetH_plain _ _ _ (by kernel_rfl)] at hL
  obtain ⟨g, hrep⟩ := args_of1 h0 (hval 0 _ v0 rfl rfl)
  refine (walk_CseNone g v0 (gl_of hL (by first | exact ⟨0, _, rfl⟩ | exact ⟨1, _, rfl⟩ | exact ⟨2, _, rfl⟩ | exact ⟨3, _, rfl⟩ | exact ⟨4, _, rfl⟩ | exact ⟨5, _, rfl⟩ | exact ⟨6, _, rfl⟩ | exact ⟨7, _, rfl⟩ | exact ⟨8, _, rfl⟩ | exact ⟨9, _, rfl⟩ | exact ⟨10, _, rfl⟩ | exact ⟨11, _, rfl⟩ | exact ⟨12, _, rfl⟩ | exact ⟨13, _, rfl⟩) (by first | exact ⟨0, _, rfl⟩ | exact ⟨1, _, rfl⟩ | exact ⟨2, _, rfl⟩ | exact ⟨3, _, rfl⟩ | exact ⟨4, _, rfl⟩ | exact ⟨5, _, rfl⟩ | exact ⟨6, _, rfl⟩ | exact ⟨7, _, rfl⟩ | exact ⟨8, _, rfl⟩ | exact ⟨9, _, rfl⟩ | exact ⟨10, _, rfl⟩ | exact ⟨11, _, rfl⟩ | exact ⟨12, _, rfl⟩ | exact ⟨13, _, rfl⟩) (by first | exact ⟨0, _, rfl⟩ | exact ⟨1, _, rfl⟩ | exact ⟨2, _, rfl⟩ | exact ⟨3, _, rfl⟩ | exact ⟨4, _, rfl⟩ | exact ⟨5, _, rfl⟩ | exact ⟨6, _, rfl⟩ | exact ⟨7, _, rfl⟩ | exact ⟨8, _, rfl⟩ | exact ⟨9, _, rfl⟩ | exact ⟨10, _, rfl⟩ | exact ⟨11, _, rfl⟩ | exact ⟨12, _, rfl⟩ | exact ⟨13, _, rfl⟩)) hrep).mono fun e W' ⟨he, bel⟩ => ?_
  subst he
  have lt0 : ∀ x ∈ p0, x.block < W.heap.size := by obtain ⟨m, hm⟩ := h0; exact DataW.trod_lt m _ _ _ hm
  exact ⟨_, rfl, _, _, _, [], _, [], hW', trodAll_mk1 (shut_bool Tryz.underlying4 _), (trodAll_cons_mk (Below.trod laidOut (by kernel_rfl) (of_decide_eq_true (by kernel_rfl)) h0 bel lt0) trodAll_mk0), rfl, bel.frame _, fun h => by cases h⟩
theorem row_CseNone : Rows.CseNoneSaid :=
  OpenClaim.holds_of_wide 5 Go.Proofs.Tryz.f5 rfl rfl rfl rfl rfl rfl rfl ⟨rfl, rfl, rfl, rfl, rfl⟩ rfl rfl rfl rfl rfl (by kernel_rfl) Tryz.func5 (by kernel_rfl)
    (of_decide_eq_true (by kernel_rfl)) (by unfold Func.isWrapper; first | (rw [if_pos (by decide +kernel)]; kernel_rfl) | (rw [if_neg (by decide +kernel)]; exact ⟨rfl, rfl⟩))
    (fun os started H enc _ => lifted_CseNone os started H enc)
theorem cseNone_holds : Rows.CseNoneCardSaid :=
  Claim7.holds_tied_plain_at .later [] [.data, .data, .data, .data, .sentinel, .sentinel, .pinned] true Rows.cseNoneCard.stood.harness false row_CseNone (fun _ h => by cases h) (by kernel_rfl) (fun _ h => by cases h) cseNone_row_tie rfl ⟨rfl, rfl⟩ (by kernel_rfl) rfl
    (fun f fn hf hfn => by
      obtain rfl : f = 5 := Option.some.inj ((show Go.Proofs.Tryz.prog.funcNamed "tapewright/tapewrightlaw15.CseNone" = some 5 by kernel_rfl).symm.trans hf) |>.symm
      obtain rfl : fn = Go.Proofs.Tryz.f5 := (Option.some.inj (Tryz.func5.symm.trans hfn)).symm
      exact ⟨by kernel_rfl, fun j t ht => by
        rw [Tryz.params5] at ht
        have hm : t ∈ [24] := by simpa using Array.mem_of_getElem? ht
        have hall : ([24].all fun u => !Go.Proofs.Tryz.prog.wantsStandIn u) = true := by kernel_rfl
        exact (show Go.Proofs.Tryz.prog.wantsStandIn t = false by simpa using List.all_eq_true.1 hall t hm)⟩)
    (by kernel_rfl)
end Go.Proofs.YtfmmaiebblhhdaaGreatDoor
