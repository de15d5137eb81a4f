/-
  Lemmas (part 6) for: What fold.Fold makes of any graph is what the document says (FoldMakes, FoldAll, FoldNames, FoldLeaves hold for every graph); no condition.
-/
import Derived.Test.YtndiceggidmgkaaGreatDoorFold5
import Derived.LaidSub
import Derived.LaidHandle
set_option linter.all false
namespace Go.Proofs.YtndiceggidmgkaaGreatDoor
open Go Go.ChangeShapes Go.WideShapes Go.ChangeAt Go.RowKit Go.V
set_option maxRecDepth 100000
theorem args_of1 {H : Type} {enc : TypeId × Value → H} {W : World} {base : Nat} {v0 : Value} {d0 : DataW H} {p0 : List MemPlace} (h0 : DataW.Trod enc Go.Proofs.Tryz.prog W 0 (fun _ => true) true 24 v0 d0 p0)
    (k0 : Value.okWide Go.Proofs.Tryz.prog W .any base 24 v0) : ∃ g : Gr, RepL (SW W) H0 W [.agg g.cells] [v0] := by
  obtain ⟨cs, rfl, _⟩ := okWide_struct Tryz.underlying24 k0
  obtain ⟨f0, h0⟩ := h0
  obtain ⟨xs, ⟨g, rfl⟩, _, e2, e3⟩ := o_graph f0 _ _ h0
  refine ⟨g, ?_⟩
  have c0 : (Value.agg cs).cells.toList = cs.toList := rfl
  rw [c0] at e2 e3
  simp only [RepL]
  refine ⟨_, _, rfl, ?_, rfl⟩
  simp only [RepV]
  exact ⟨cs.toList, by simp, e2, e3⟩
def laidP : List (String × DataW Unit) := [("unicode/utf8.acceptRanges", Rows.laid_unicode_utf8_acceptRanges), ("tapewright/rat.errForm", Rows.laid_tapewright_rat_errForm), ("tapewright/rat.errZero", Rows.laid_tapewright_rat_errZero), ("unicode/utf8.first", Rows.laid_unicode_utf8_first)]
noncomputable def HW0 (os : Os) : World :=
  let w0 := World.holding Go.Proofs.Tryz.prog os ⟨#[], #[], []⟩
  { w0 with heap := w0.heap.modify 2 fun
      | .cells _ t fz => .cells #[.iface 225 (.agg #[.pointer (some ⟨Go.Proofs.Tryz.prog.globals.size, 85, none⟩)])] t fz
      | o => o }
noncomputable def HW (os : Os) (l : List (String × DataW Unit)) : World := (HW0 os).layVars Go.Proofs.Tryz.prog l
theorem HW_os (os : Os) (l : List (String × DataW Unit)) : (HW os l).os = os := (World.layVars_os _ _ _).trans rfl
theorem HW_met {os : Os} {l : List (String × DataW Unit)} (args : Array Value) (hf : (HW0 os).layFits Go.Proofs.Tryz.prog l [] = true) (hi : (HW0 os).layIfaces Go.Proofs.Tryz.prog l (HW os l) = true) :
    laidMet Go.Proofs.Tryz.prog l ((HW os l).forCall (fun _ _ => 0) ⟨#[], args, []⟩).memory := by
  have e1 : (l.filter fun x => (l.map (·.1)).contains x.1) = l := List.filter_eq_self.2 fun x hx => List.contains_iff_mem.2 (List.mem_map.2 ⟨x, hx, rfl⟩)
  have e2 : (l.filter fun x => !(l.map (·.1)).contains x.1) = [] := List.filter_eq_nil_iff.2 fun x hx => by rw [List.contains_iff_mem.2 (List.mem_map.2 ⟨x, hx, rfl⟩)]; simp
  have h : laidMet Go.Proofs.Tryz.prog l (HW os l) := laidMet_layVars (w0 := HW0 os) (l.map (·.1)) [] (by rw [e1]; rfl) (by rw [e1]; exact hf) (by rw [e1]; exact hi) (by rw [e2]; exact LaidIn.none)
  exact h.of_heap (by simp [World.memory, World.forCall, Input.heap])
end Go.Proofs.YtndiceggidmgkaaGreatDoor
