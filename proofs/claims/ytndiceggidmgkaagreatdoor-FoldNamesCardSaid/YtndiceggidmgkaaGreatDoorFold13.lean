/-
  Lemmas (part 13) for: What fold.Fold makes of any graph is what the document says (FoldMakes, FoldAll, FoldNames, FoldLeaves hold for every graph); no condition.
-/
import Derived.Test.YtndiceggidmgkaaGreatDoorFold6
import Derived.Test.YtndiceggidmgkaaGreatDoorFold12
set_option linter.all false
namespace Go.Proofs.YtndiceggidmgkaaGreatDoor
open Go Go.ChangeShapes Go.WideShapes Go.ChangeAt Go.RowKit Go.V
set_option maxRecDepth 100000
theorem walk_FoldMakes {W : World} (g : Gr) (v0 : Value) (hgl : GlOK (SW W) W GL) (ha : RepL (SW W) H0 W [.agg g.cells] [v0]) :
    Calls Go.Proofs.Tryz.prog 3 #[v0] W fun e w' => e = .returned (.bool true) ∧ Below W.heap.size W w' :=
  VCall.calls (c_FoldMakes g) Tryz.func3 rfl (by decide +kernel) hgl ha fun S b w' v' h => by
    obtain ⟨S', F, hF, _⟩ := h
    simp only [RepF, RepV] at hF
    exact hF.2
theorem laidF_FoldMakes : (Rows.foldMakesRow.laid.filter fun x => x.2.handleName?.isNone) = laidP := by kernel_rfl
theorem lifted_FoldMakes (os : Os) (started : os.Started) (H : Type) (enc : TypeId × Value → H) :
    ReturnsInHanded {} Tryz.checked os 3 .any (fun w args => (Rows.foldMakesSpec.pre enc Go.Proofs.Tryz.prog Go.Proofs.Tryz.f3 [] false w args ∧ laidMetH Go.Proofs.Tryz.prog Rows.foldMakesRow.laid w) ∧ sizedMet enc Go.Proofs.Tryz.prog Go.Proofs.Tryz.f3 (OpenSpec.ofChange Rows.foldMakesSpec) false w args)
      (Rows.foldMakesSpec.post enc Go.Proofs.Tryz.prog Go.Proofs.Tryz.f3 false true false false) := by
  refine returnsInHanded_of_change_and (C := Tryz.checked) (X := fun w _ => laidMetH Go.Proofs.Tryz.prog Rows.foldMakesRow.laid w) (fun _ _ _ hh h => h.of_heap hh) own started (by kernel_rfl) Tryz.func3
    (ChangeSpec.witness_shaped (enc := enc) (C := Tryz.checked) (os := os) (X := fun w _ => laidMetH Go.Proofs.Tryz.prog Rows.foldMakesRow.laid w) false (HW os laidP) #[.agg #[.slice none 0 0, .int .i64 0]] 8 (HW_os _ _)
      (World.shaped_of_ZipB (by kernel_rfl) (by kernel_rfl)) (by kernel_rfl) (by kernel_rfl) (by kernel_rfl)
      (laidMetH_of_parts (by rw [laidF_FoldMakes]; exact HW_met _ (by kernel_rfl) (by kernel_rfl)) (by kernel_rfl))) ?_
  intro W base args ds gs before hval0 hW hc _ hL _
  have hval : ∀ (j : Nat) t v, Go.Proofs.Tryz.f3.params[j]? = some t → args[j]? = some v → Value.okWide Go.Proofs.Tryz.prog W .any base t v := hval0
  have hW' := hW
  obtain ⟨p, q, hA0, hV, rfl, _, _⟩ := hW
  have hA : DataW.TrodAll enc Go.Proofs.Tryz.prog W 0 (fun _ => true) true Go.Proofs.Tryz.f3.params.toList args.toList ds p := hA0
  rw [Tryz.params3] at hA hval
  obtain ⟨v0, vs0, d0, ds0, p0, q0, hargs, rfl, rfl, h0, r0⟩ := trodAll_cons hA
  obtain ⟨rfl, rfl, rfl⟩ := trodAll_nil r0
  obtain rfl : args = #[v0] := by cases args; simp_all
  obtain ⟨rfl, rfl⟩ := trodVars_none hV
  replace hL := (laidMetH_iff.1 hL).1
  rw [laidF_FoldMakes] at hL
  obtain ⟨g, hrep⟩ := args_of1 h0 (hval 0 _ v0 rfl rfl)
  refine (walk_FoldMakes g v0 (gl_of hL (by first | exact ⟨0, _, rfl⟩ | exact ⟨1, _, rfl⟩ | exact ⟨2, _, rfl⟩ | exact ⟨3, _, rfl⟩ | exact ⟨4, _, rfl⟩ | exact ⟨5, _, rfl⟩ | exact ⟨6, _, rfl⟩ | exact ⟨7, _, rfl⟩ | exact ⟨8, _, rfl⟩ | exact ⟨9, _, rfl⟩ | exact ⟨10, _, rfl⟩ | exact ⟨11, _, rfl⟩ | exact ⟨12, _, rfl⟩ | exact ⟨13, _, rfl⟩) (by first | exact ⟨0, _, rfl⟩ | exact ⟨1, _, rfl⟩ | exact ⟨2, _, rfl⟩ | exact ⟨3, _, rfl⟩ | exact ⟨4, _, rfl⟩ | exact ⟨5, _, rfl⟩ | exact ⟨6, _, rfl⟩ | exact ⟨7, _, rfl⟩ | exact ⟨8, _, rfl⟩ | exact ⟨9, _, rfl⟩ | exact ⟨10, _, rfl⟩ | exact ⟨11, _, rfl⟩ | exact ⟨12, _, rfl⟩ | exact ⟨13, _, rfl⟩)) hrep).mono fun e W' ⟨he, bel⟩ => ?_
  subst he
  have lt0 : ∀ x ∈ p0, x.block < W.heap.size := by obtain ⟨m, hm⟩ := h0; exact DataW.trod_lt m _ _ _ hm
  exact ⟨_, rfl, _, _, _, [], _, [], hW', trodAll_mk1 (shut_bool Tryz.underlying4 _), (trodAll_cons_mk (Below.trod laidOut (by kernel_rfl) (of_decide_eq_true (by kernel_rfl)) h0 bel lt0) trodAll_mk0), rfl, bel.frame _, fun h => by cases h⟩
theorem walk_FoldAll {W : World} (g : Gr) (v0 : Value) (hgl : GlOK (SW W) W GL) (ha : RepL (SW W) H0 W [.agg g.cells] [v0]) :
    Calls Go.Proofs.Tryz.prog 4 #[v0] W fun e w' => e = .returned (.bool true) ∧ Below W.heap.size W w' :=
  VCall.calls (c_FoldAll g) Tryz.func4 rfl (by decide +kernel) hgl ha fun S b w' v' h => by
    obtain ⟨S', F, hF, _⟩ := h
    simp only [RepF, RepV] at hF
    exact hF.2
theorem laidF_FoldAll : (Rows.foldAllRow.laid.filter fun x => x.2.handleName?.isNone) = laidP := by kernel_rfl
theorem lifted_FoldAll (os : Os) (started : os.Started) (H : Type) (enc : TypeId × Value → H) :
    ReturnsInHanded {} Tryz.checked os 4 .any (fun w args => (Rows.foldAllSpec.pre enc Go.Proofs.Tryz.prog Go.Proofs.Tryz.f4 [] false w args ∧ laidMetH Go.Proofs.Tryz.prog Rows.foldAllRow.laid w) ∧ sizedMet enc Go.Proofs.Tryz.prog Go.Proofs.Tryz.f4 (OpenSpec.ofChange Rows.foldAllSpec) false w args)
      (Rows.foldAllSpec.post enc Go.Proofs.Tryz.prog Go.Proofs.Tryz.f4 false true false false) := by
  refine returnsInHanded_of_change_and (C := Tryz.checked) (X := fun w _ => laidMetH Go.Proofs.Tryz.prog Rows.foldAllRow.laid w) (fun _ _ _ hh h => h.of_heap hh) own started (by kernel_rfl) Tryz.func4
    (ChangeSpec.witness_shaped (enc := enc) (C := Tryz.checked) (os := os) (X := fun w _ => laidMetH Go.Proofs.Tryz.prog Rows.foldAllRow.laid w) false (HW os laidP) #[.agg #[.slice none 0 0, .int .i64 0]] 8 (HW_os _ _)
      (World.shaped_of_ZipB (by kernel_rfl) (by kernel_rfl)) (by kernel_rfl) (by kernel_rfl) (by kernel_rfl)
      (laidMetH_of_parts (by rw [laidF_FoldAll]; exact HW_met _ (by kernel_rfl) (by kernel_rfl)) (by kernel_rfl))) ?_
  intro W base args ds gs before hval0 hW hc _ hL _
  have hval : ∀ (j : Nat) t v, Go.Proofs.Tryz.f4.params[j]? = some t → args[j]? = some v → Value.okWide Go.Proofs.Tryz.prog W .any base t v := hval0
  have hW' := hW
  obtain ⟨p, q, hA0, hV, rfl, _, _⟩ := hW
  have hA : DataW.TrodAll enc Go.Proofs.Tryz.prog W 0 (fun _ => true) true Go.Proofs.Tryz.f4.params.toList args.toList ds p := hA0
  rw [Tryz.params4] at hA hval
  obtain ⟨v0, vs0, d0, ds0, p0, q0, hargs, rfl, rfl, h0, r0⟩ := trodAll_cons hA
  obtain ⟨rfl, rfl, rfl⟩ := trodAll_nil r0
  obtain rfl : args = #[v0] := by cases args; simp_all
  obtain ⟨rfl, rfl⟩ := trodVars_none hV
  replace hL := (laidMetH_iff.1 hL).1
  rw [laidF_FoldAll] at hL
  obtain ⟨g, hrep⟩ := args_of1 h0 (hval 0 _ v0 rfl rfl)
  refine (walk_FoldAll g v0 (gl_of hL (by first | exact ⟨0, _, rfl⟩ | exact ⟨1, _, rfl⟩ | exact ⟨2, _, rfl⟩ | exact ⟨3, _, rfl⟩ | exact ⟨4, _, rfl⟩ | exact ⟨5, _, rfl⟩ | exact ⟨6, _, rfl⟩ | exact ⟨7, _, rfl⟩ | exact ⟨8, _, rfl⟩ | exact ⟨9, _, rfl⟩ | exact ⟨10, _, rfl⟩ | exact ⟨11, _, rfl⟩ | exact ⟨12, _, rfl⟩ | exact ⟨13, _, rfl⟩) (by first | exact ⟨0, _, rfl⟩ | exact ⟨1, _, rfl⟩ | exact ⟨2, _, rfl⟩ | exact ⟨3, _, rfl⟩ | exact ⟨4, _, rfl⟩ | exact ⟨5, _, rfl⟩ | exact ⟨6, _, rfl⟩ | exact ⟨7, _, rfl⟩ | exact ⟨8, _, rfl⟩ | exact ⟨9, _, rfl⟩ | exact ⟨10, _, rfl⟩ | exact ⟨11, _, rfl⟩ | exact ⟨12, _, rfl⟩ | exact ⟨13, _, rfl⟩)) hrep).mono fun e W' ⟨he, bel⟩ => ?_
  subst he
  have lt0 : ∀ x ∈ p0, x.block < W.heap.size := by obtain ⟨m, hm⟩ := h0; exact DataW.trod_lt m _ _ _ hm
  exact ⟨_, rfl, _, _, _, [], _, [], hW', trodAll_mk1 (shut_bool Tryz.underlying4 _), (trodAll_cons_mk (Below.trod laidOut (by kernel_rfl) (of_decide_eq_true (by kernel_rfl)) h0 bel lt0) trodAll_mk0), rfl, bel.frame _, fun h => by cases h⟩
theorem walk_FoldNames {W : World} (g : Gr) (v0 : Value) (hgl : GlOK (SW W) W GL) (ha : RepL (SW W) H0 W [.agg g.cells] [v0]) :
    Calls Go.Proofs.Tryz.prog 5 #[v0] W fun e w' => e = .returned (.bool true) ∧ Below W.heap.size W w' :=
  VCall.calls (c_FoldNames g) Tryz.func5 rfl (by decide +kernel) hgl ha fun S b w' v' h => by
    obtain ⟨S', F, hF, _⟩ := h
    simp only [RepF, RepV] at hF
    exact hF.2
theorem laidF_FoldNames : (Rows.foldNamesRow.laid.filter fun x => x.2.handleName?.isNone) = laidP := by kernel_rfl
theorem lifted_FoldNames (os : Os) (started : os.Started) (H : Type) (enc : TypeId × Value → H) :
    ReturnsInHanded {} Tryz.checked os 5 .any (fun w args => (Rows.foldNamesSpec.pre enc Go.Proofs.Tryz.prog Go.Proofs.Tryz.f5 [] false w args ∧ laidMetH Go.Proofs.Tryz.prog Rows.foldNamesRow.laid w) ∧ sizedMet enc Go.Proofs.Tryz.prog Go.Proofs.Tryz.f5 (OpenSpec.ofChange Rows.foldNamesSpec) false w args)
      (Rows.foldNamesSpec.post enc Go.Proofs.Tryz.prog Go.Proofs.Tryz.f5 false true false false) := by
  refine returnsInHanded_of_change_and (C := Tryz.checked) (X := fun w _ => laidMetH Go.Proofs.Tryz.prog Rows.foldNamesRow.laid w) (fun _ _ _ hh h => h.of_heap hh) own started (by kernel_rfl) Tryz.func5
    (ChangeSpec.witness_shaped (enc := enc) (C := Tryz.checked) (os := os) (X := fun w _ => laidMetH Go.Proofs.Tryz.prog Rows.foldNamesRow.laid w) false (HW os laidP) #[.agg #[.slice none 0 0, .int .i64 0]] 8 (HW_os _ _)
      (World.shaped_of_ZipB (by kernel_rfl) (by kernel_rfl)) (by kernel_rfl) (by kernel_rfl) (by kernel_rfl)
      (laidMetH_of_parts (by rw [laidF_FoldNames]; exact HW_met _ (by kernel_rfl) (by kernel_rfl)) (by kernel_rfl))) ?_
  intro W base args ds gs before hval0 hW hc _ hL _
  have hval : ∀ (j : Nat) t v, Go.Proofs.Tryz.f5.params[j]? = some t → args[j]? = some v → Value.okWide Go.Proofs.Tryz.prog W .any base t v := hval0
  have hW' := hW
  obtain ⟨p, q, hA0, hV, rfl, _, _⟩ := hW
  have hA : DataW.TrodAll enc Go.Proofs.Tryz.prog W 0 (fun _ => true) true Go.Proofs.Tryz.f5.params.toList args.toList ds p := hA0
  rw [Tryz.params5] at hA hval
  obtain ⟨v0, vs0, d0, ds0, p0, q0, hargs, rfl, rfl, h0, r0⟩ := trodAll_cons hA
  obtain ⟨rfl, rfl, rfl⟩ := trodAll_nil r0
  obtain rfl : args = #[v0] := by cases args; simp_all
  obtain ⟨rfl, rfl⟩ := trodVars_none hV
  replace hL := (laidMetH_iff.1 hL).1
  rw [laidF_FoldNames] at hL
  obtain ⟨g, hrep⟩ := args_of1 h0 (hval 0 _ v0 rfl rfl)
  refine (walk_FoldNames g v0 (gl_of hL (by first | exact ⟨0, _, rfl⟩ | exact ⟨1, _, rfl⟩ | exact ⟨2, _, rfl⟩ | exact ⟨3, _, rfl⟩ | exact ⟨4, _, rfl⟩ | exact ⟨5, _, rfl⟩ | exact ⟨6, _, rfl⟩ | exact ⟨7, _, rfl⟩ | exact ⟨8, _, rfl⟩ | exact ⟨9, _, rfl⟩ | exact ⟨10, _, rfl⟩ | exact ⟨11, _, rfl⟩ | exact ⟨12, _, rfl⟩ | exact ⟨13, _, rfl⟩) (by first | exact ⟨0, _, rfl⟩ | exact ⟨1, _, rfl⟩ | exact ⟨2, _, rfl⟩ | exact ⟨3, _, rfl⟩ | exact ⟨4, _, rfl⟩ | exact ⟨5, _, rfl⟩ | exact ⟨6, _, rfl⟩ | exact ⟨7, _, rfl⟩ | exact ⟨8, _, rfl⟩ | exact ⟨9, _, rfl⟩ | exact ⟨10, _, rfl⟩ | exact ⟨11, _, rfl⟩ | exact ⟨12, _, rfl⟩ | exact ⟨13, _, rfl⟩)) hrep).mono fun e W' ⟨he, bel⟩ => ?_
  subst he
  have lt0 : ∀ x ∈ p0, x.block < W.heap.size := by obtain ⟨m, hm⟩ := h0; exact DataW.trod_lt m _ _ _ hm
  exact ⟨_, rfl, _, _, _, [], _, [], hW', trodAll_mk1 (shut_bool Tryz.underlying4 _), (trodAll_cons_mk (Below.trod laidOut (by kernel_rfl) (of_decide_eq_true (by kernel_rfl)) h0 bel lt0) trodAll_mk0), rfl, bel.frame _, fun h => by cases h⟩
theorem walk_FoldLeaves {W : World} (g : Gr) (v0 : Value) (hgl : GlOK (SW W) W GL) (ha : RepL (SW W) H0 W [.agg g.cells] [v0]) :
    Calls Go.Proofs.Tryz.prog 7 #[v0] W fun e w' => e = .returned (.bool true) ∧ Below W.heap.size W w' :=
  VCall.calls (c_FoldLeaves g) Tryz.func7 rfl (by decide +kernel) hgl ha fun S b w' v' h => by
    obtain ⟨S', F, hF, _⟩ := h
    simp only [RepF, RepV] at hF
    exact hF.2
theorem laidF_FoldLeaves : (Rows.foldLeavesRow.laid.filter fun x => x.2.handleName?.isNone) = laidP := by kernel_rfl
theorem lifted_FoldLeaves (os : Os) (started : os.Started) (H : Type) (enc : TypeId × Value → H) :
    ReturnsInHanded {} Tryz.checked os 7 .any (fun w args => (Rows.foldLeavesSpec.pre enc Go.Proofs.Tryz.prog Go.Proofs.Tryz.f7 [] false w args ∧ laidMetH Go.Proofs.Tryz.prog Rows.foldLeavesRow.laid w) ∧ sizedMet enc Go.Proofs.Tryz.prog Go.Proofs.Tryz.f7 (OpenSpec.ofChange Rows.foldLeavesSpec) false w args)
      (Rows.foldLeavesSpec.post enc Go.Proofs.Tryz.prog Go.Proofs.Tryz.f7 false true false false) := by
  refine returnsInHanded_of_change_and (C := Tryz.checked) (X := fun w _ => laidMetH Go.Proofs.Tryz.prog Rows.foldLeavesRow.laid w) (fun _ _ _ hh h => h.of_heap hh) own started (by kernel_rfl) Tryz.func7
    (ChangeSpec.witness_shaped (enc := enc) (C := Tryz.checked) (os := os) (X := fun w _ => laidMetH Go.Proofs.Tryz.prog Rows.foldLeavesRow.laid w) false (HW os laidP) #[.agg #[.slice none 0 0, .int .i64 0]] 8 (HW_os _ _)
      (World.shaped_of_ZipB (by kernel_rfl) (by kernel_rfl)) (by kernel_rfl) (by kernel_rfl) (by kernel_rfl)
      (laidMetH_of_parts (by rw [laidF_FoldLeaves]; exact HW_met _ (by kernel_rfl) (by kernel_rfl)) (by kernel_rfl))) ?_
  intro W base args ds gs before hval0 hW hc _ hL _
  have hval : ∀ (j : Nat) t v, Go.Proofs.Tryz.f7.params[j]? = some t → args[j]? = some v → Value.okWide Go.Proofs.Tryz.prog W .any base t v := hval0
  have hW' := hW
  obtain ⟨p, q, hA0, hV, rfl, _, _⟩ := hW
  have hA : DataW.TrodAll enc Go.Proofs.Tryz.prog W 0 (fun _ => true) true Go.Proofs.Tryz.f7.params.toList args.toList ds p := hA0
  rw [Tryz.params7] at hA hval
  obtain ⟨v0, vs0, d0, ds0, p0, q0, hargs, rfl, rfl, h0, r0⟩ := trodAll_cons hA
  obtain ⟨rfl, rfl, rfl⟩ := trodAll_nil r0
  obtain rfl : args = #[v0] := by cases args; simp_all
  obtain ⟨rfl, rfl⟩ := trodVars_none hV
  replace hL := (laidMetH_iff.1 hL).1
  rw [laidF_FoldLeaves] at hL
  obtain ⟨g, hrep⟩ := args_of1 h0 (hval 0 _ v0 rfl rfl)
  refine (walk_FoldLeaves g v0 (gl_of hL (by first | exact ⟨0, _, rfl⟩ | exact ⟨1, _, rfl⟩ | exact ⟨2, _, rfl⟩ | exact ⟨3, _, rfl⟩ | exact ⟨4, _, rfl⟩ | exact ⟨5, _, rfl⟩ | exact ⟨6, _, rfl⟩ | exact ⟨7, _, rfl⟩ | exact ⟨8, _, rfl⟩ | exact ⟨9, _, rfl⟩ | exact ⟨10, _, rfl⟩ | exact ⟨11, _, rfl⟩ | exact ⟨12, _, rfl⟩ | exact ⟨13, _, rfl⟩) (by first | exact ⟨0, _, rfl⟩ | exact ⟨1, _, rfl⟩ | exact ⟨2, _, rfl⟩ | exact ⟨3, _, rfl⟩ | exact ⟨4, _, rfl⟩ | exact ⟨5, _, rfl⟩ | exact ⟨6, _, rfl⟩ | exact ⟨7, _, rfl⟩ | exact ⟨8, _, rfl⟩ | exact ⟨9, _, rfl⟩ | exact ⟨10, _, rfl⟩ | exact ⟨11, _, rfl⟩ | exact ⟨12, _, rfl⟩ | exact ⟨13, _, rfl⟩)) hrep).mono fun e W' ⟨he, bel⟩ => ?_
  subst he
  have lt0 : ∀ x ∈ p0, x.block < W.heap.size := by obtain ⟨m, hm⟩ := h0; exact DataW.trod_lt m _ _ _ hm
  exact ⟨_, rfl, _, _, _, [], _, [], hW', trodAll_mk1 (shut_bool Tryz.underlying4 _), (trodAll_cons_mk (Below.trod laidOut (by kernel_rfl) (of_decide_eq_true (by kernel_rfl)) h0 bel lt0) trodAll_mk0), rfl, bel.frame _, fun h => by cases h⟩
end Go.Proofs.YtndiceggidmgkaaGreatDoor
