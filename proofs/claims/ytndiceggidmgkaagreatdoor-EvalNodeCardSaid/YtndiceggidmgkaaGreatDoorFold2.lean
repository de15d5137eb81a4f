/-
  Lemmas (part 2) for: What fold.Fold makes of any graph is what the document says (FoldMakes, FoldAll, FoldNames, FoldLeaves hold for every graph); no condition.
-/
import Derived.Test.YtndiceggidmgkaaGreatDoorFold1
import Derived.Still
import Derived.Laws.Strings
import Derived.Test.YtndiceggidmgkaaGreatDoorProg
set_option linter.all false
namespace Go.V
open Go.RowKit
variable {P : Program} {gl : Gl} {T : Tab} {G G' : Nat → Ob}
def Agree (G G' : Nat → Ob) (ps : List Nat) : Prop := ∀ p ∈ deep G ps, G p = G' p
theorem deep_mem {p : Nat} : ∀ {ps : List Nat}, p ∈ ps → p ∈ deep G ps
  | [], h => by simp at h
  | q :: ps, h => by
    simp only [List.mem_cons] at h
    unfold deep
    split
    · rcases h with rfl | h
      · simp
      · simp [deep_mem h]
    · rcases h with rfl | h
      · simp
      · simp [deep_mem h]
theorem deep_box {p q : Nat} {t : Nat} {cs : List AV} : ∀ {ps : List Nat}, p ∈ ps → G p = .box t cs → q ∈ refsL cs → q ∈ deep G ps
  | [], h, _, _ => by simp at h
  | r :: ps, h, hg, hq => by
    simp only [List.mem_cons] at h
    unfold deep
    rcases h with rfl | h
    · rw [hg]; simp [hq]
    · split <;> simp [deep_box h hg hq]
theorem Agree.mono {ps ps' : List Nat} (h : Agree G G' ps) (hs : ∀ p ∈ ps', p ∈ ps) : Agree G G' ps' := by
  intro p hp
  refine h p ?_
  induction ps' with
  | nil => simp [deep] at hp
  | cons q r ih =>
    unfold deep at hp
    split at hp
    · rename_i t cs hg
      simp only [List.mem_cons, List.mem_append] at hp
      rcases hp with rfl | hp | hp
      · exact deep_mem (hs _ (by simp))
      · exact deep_box (hs q (by simp)) hg hp
      · exact ih (fun p hp => hs p (by simp [hp])) hp
    · simp only [List.mem_cons] at hp
      rcases hp with rfl | hp
      · exact deep_mem (hs _ (by simp))
      · exact ih (fun p hp => hs p (by simp [hp])) hp
theorem deep_congr : ∀ {ps : List Nat}, Agree G G' ps → deep G' ps = deep G ps
  | [], _ => rfl
  | p :: ps, h => by
    have hp := h p (deep_mem (by simp))
    have hr := deep_congr (h.mono (ps' := ps) fun q hq => by simp [hq])
    unfold deep
    rw [← hp, hr]
theorem Agree.at {ps : List Nat} (h : Agree G G' ps) {p : Nat} (hp : p ∈ ps) : G p = G' p := h p (deep_mem hp)
theorem Agree.in {ps : List Nat} (h : Agree G G' ps) {p t : Nat} {cs : List AV} (hp : p ∈ ps) (hg : G p = .box t cs) {q : Nat} (hq : q ∈ refsL cs) : G q = G' q := h q (deep_box hp hg hq)
theorem norm0_congr : ∀ (x : AV), (∀ p ∈ refs x, G p = G' p) → norm0 G x = norm0 G' x
  | .own p off len, h => by simp only [norm0, h p (by simp [refs])]
  | .j, _ | .u, _ | .int _ _, _ | .bool _, _ | .str _, _ | .nils, _ | .nili, _ | .fr _ _ _, _ | .ptr _ _ _, _ | .bptr _ _, _ | .map _, _ | .rp _, _ | .ro _ _, _ | .fn _ [], _ | .fn _ (_ :: _), _ | .iface _ _, _ | .agg _, _ | .tup _, _ => rfl
theorem norm0L_congr : ∀ (xs : List AV), (∀ p ∈ refsL xs, G p = G' p) → xs.map (norm0 G) = xs.map (norm0 G')
  | [], _ => rfl
  | x :: xs, h => by
    simp only [List.map_cons]
    rw [norm0_congr x (fun p hp => h p (by simp [refsL, hp])), norm0L_congr xs (fun p hp => h p (by simp [refsL, hp]))]
theorem norm1_congr (n : Nat) : ∀ (x : AV), Agree G G' (refs x) → norm1 G n x = norm1 G' n x
  | .own p off len, h => by simp only [norm1, h.at (p := p) (by simp [refs])]
  | .bptr p c, h => by
    have hp := h.at (p := p) (by simp [refs])
    simp only [norm1, ← hp]
    split
    · rename_i t cs hg
      rw [List.map_drop, List.map_drop, norm0L_congr cs fun q hq => h.in (by simp [refs]) hg hq]
    · rfl
  | .j, _ | .u, _ | .int _ _, _ | .bool _, _ | .str _, _ | .nils, _ | .nili, _ | .fr _ _ _, _ | .ptr _ _ _, _ | .map _, _ | .rp _, _ | .ro _ _, _ | .fn _ _, _ | .iface _ _, _ | .agg _, _ | .tup _, _ => rfl
theorem normL_congr : ∀ (ns : List Nat) (xs : List AV), Agree G G' (refsL xs) → normL G ns xs = normL G' ns xs
  | _, [], _ => by simp [normL]
  | [], x :: xs, h => by
    simp only [normL]
    rw [norm1_congr 0 x (h.mono fun p hp => by simp [refsL, hp]), normL_congr [] xs (h.mono fun p hp => by simp [refsL, hp])]
  | n :: ns, x :: xs, h => by
    simp only [normL]
    rw [norm1_congr n x (h.mono fun p hp => by simp [refsL, hp]), normL_congr ns xs (h.mono fun p hp => by simp [refsL, hp])]
theorem norm_congr (ti : TI) (x : AV) (h : Agree G G' (refs x)) : norm G ti x = norm G' ti x := by
  cases x with
  | agg cs => simp only [norm]; rw [normL_congr _ cs (h.mono fun p hp => by simpa [refs] using hp)]
  | fn f cs => simp only [norm]; rw [normL_congr _ cs (h.mono fun p hp => by simpa [refs] using hp)]
  | tup cs => rfl
  | _ => exact norm1_congr (ti.csz.headD 0) _ h
theorem lent0_refs {q : Nat} : ∀ {x : AV}, q ∈ lent0 x → q ∈ refs x
  | .own p off len, h => by simpa [lent0, refs] using h
  | .j, h | .u, h | .int _ _, h | .bool _, h | .str _, h | .nils, h | .nili, h | .fr _ _ _, h | .ptr _ _ _, h | .bptr _ _, h | .map _, h | .rp _, h | .ro _ _, h | .fn _ _, h | .iface _ _, h | .agg _, h | .tup _, h => by simp [lent0] at h
theorem lent0L_refs {q : Nat} : ∀ {xs : List AV}, q ∈ lent0L xs → q ∈ refsL xs
  | [], h => by simp [lent0L] at h
  | x :: xs, h => by
    simp only [lent0L, refsL, List.mem_append] at h ⊢
    exact h.imp lent0_refs lent0L_refs
theorem cells_refs {q : Nat} {x : AV} (h : q ∈ refsL (cells x)) : q ∈ refs x := by
  cases x <;> simpa [cells, refsL, refs] using h
theorem lent1_congr : ∀ (x : AV), Agree G G' (refs x) → lent1 G x = lent1 G' x
  | .bptr p c, h => by
    have hp := h.at (p := p) (by simp [refs])
    simp only [lent1, ← hp]
  | .own _ _ _, h | .j, _ | .u, _ | .int _ _, _ | .bool _, _ | .str _, _ | .nils, _ | .nili, _ | .fr _ _ _, _ | .ptr _ _ _, _ | .map _, _ | .rp _, _ | .ro _ _, _ | .fn _ _, _ | .iface _ _, _ | .agg _, _ | .tup _, _ => rfl
theorem lent1L_congr : ∀ (xs : List AV), Agree G G' (refsL xs) → lent1L G xs = lent1L G' xs
  | [], _ => rfl
  | x :: xs, h => by
    simp only [lent1L]
    rw [lent1_congr x (h.mono fun p hp => by simp [refsL, hp]), lent1L_congr xs (h.mono fun p hp => by simp [refsL, hp])]
theorem lent_congr (x : AV) (h : Agree G G' (refs x)) : lent G x = lent G' x := by
  cases x with
  | agg cs => exact lent1L_congr cs (h.mono fun p hp => by simpa [refs] using hp)
  | fn f cs => exact lent1L_congr cs (h.mono fun p hp => by simpa [refs] using hp)
  | _ => exact lent1_congr _ h
theorem lentL_congr : ∀ (xs : List AV), Agree G G' (refsL xs) → lentL G xs = lentL G' xs
  | [], _ => rfl
  | x :: xs, h => by
    simp only [lentL]
    rw [lent_congr x (h.mono fun p hp => by simp [refsL, hp]), lentL_congr xs (h.mono fun p hp => by simp [refsL, hp])]
theorem lent1_deep {q : Nat} : ∀ {x : AV} {ps : List Nat}, (∀ p ∈ refs x, p ∈ ps) → q ∈ lent1 G x → q ∈ deep G ps
  | .bptr p c, ps, hs, h => by
    simp only [lent1] at h
    split at h
    · rename_i t cs hg
      simp only [List.mem_cons] at h
      rcases h with rfl | h
      · exact deep_mem (hs _ (by simp [refs]))
      · exact deep_box (hs p (by simp [refs])) hg (lent0L_refs h)
    · simp at h
  | .own p _ _, ps, hs, h => deep_mem (hs q (lent0_refs h))
  | .j, _, _, h | .u, _, _, h | .int _ _, _, _, h | .bool _, _, _, h | .str _, _, _, h | .nils, _, _, h | .nili, _, _, h | .fr _ _ _, _, _, h | .ptr _ _ _, _, _, h | .map _, _, _, h | .rp _, _, _, h | .ro _ _, _, _, h | .fn _ _, _, _, h | .iface _ _, _, _, h | .agg _, _, _, h | .tup _, _, _, h => by simp [lent1, lent0] at h
theorem lent1L_deep {q : Nat} : ∀ {xs : List AV} {ps : List Nat}, (∀ p ∈ refsL xs, p ∈ ps) → q ∈ lent1L G xs → q ∈ deep G ps
  | [], _, _, h => by simp [lent1L] at h
  | x :: xs, ps, hs, h => by
    simp only [lent1L, List.mem_append] at h
    rcases h with h | h
    · exact lent1_deep (fun p hp => hs p (by simp [refsL, hp])) h
    · exact lent1L_deep (fun p hp => hs p (by simp [refsL, hp])) h
theorem lent_deep {q : Nat} {x : AV} {ps : List Nat} (hs : ∀ p ∈ refs x, p ∈ ps) (h : q ∈ lent G x) : q ∈ deep G ps := by
  cases x with
  | agg cs => exact lent1L_deep (fun p hp => hs p (by simpa [refs] using hp)) h
  | fn f cs => exact lent1L_deep (fun p hp => hs p (by simpa [refs] using hp)) h
  | _ => exact lent1_deep hs h
theorem lentL_deep {q : Nat} : ∀ {xs : List AV} {ps : List Nat}, (∀ p ∈ refsL xs, p ∈ ps) → q ∈ lentL G xs → q ∈ deep G ps
  | [], _, _, h => by simp [lentL] at h
  | x :: xs, ps, hs, h => by
    simp only [lentL, List.mem_append] at h
    rcases h with h | h
    · exact lent_deep (fun p hp => hs p (by simp [refsL, hp])) h
    · exact lentL_deep (fun p hp => hs p (by simp [refsL, hp])) h
theorem frzP_congr : ∀ (ps : List Nat), (∀ p ∈ ps, G p = G' p) → frzP G ps = frzP G' ps
  | [], _ => rfl
  | p :: ps, h => by simp only [frzP, h p (by simp), frzP_congr ps fun q hq => h q (by simp [hq])]
theorem anyBox_congr : ∀ (ps : List Nat), (∀ p ∈ ps, G p = G' p) → anyBox G ps = anyBox G' ps
  | [], _ => rfl
  | p :: ps, h => by simp only [anyBox, h p (by simp), anyBox_congr ps fun q hq => h q (by simp [hq])]
theorem vload_congr (ti : TI) (x : AV) (K : AV → Prop) (h : ∀ p ∈ refs x, G p = G' p) : vload ti G x K = vload ti G' x K := by
  cases x <;> first | rfl | (simp only [vload]; rw [h _ (by simp [refs])])
theorem vlen_congr (ti : TI) (x : AV) (K : AV → Prop) (h : ∀ p ∈ refs x, G p = G' p) : vlen ti G x K = vlen ti G' x K := by
  unfold vlen
  split <;> first | rfl | (cases x <;> first | rfl | (simp only [liveB]; rw [h _ (by simp [refs])]))
theorem viaddr_congr (t : Nat) (x : AV) (i : Int) (K : AV → Prop) (h : ∀ p ∈ refs x, G p = G' p) : viaddr T t G x i K = viaddr T t G' x i K := by
  unfold viaddr
  cases x <;> first | rfl | (rename_i p _ _; have e := h p (by simp [refs]); simp only [e]) | (rename_i p _; have e := h p (by simp [refs]); simp only [liveB, e])
theorem vslice_congr (t : Nat) (x : AV) (lo hi : Option AV) (K : AV → Prop) (h : ∀ p ∈ refs x, G p = G' p) : vslice T t G x lo hi K = vslice T t G' x lo hi K := by
  unfold vslice
  cases x <;> first | rfl | (simp only []; rw [h _ (by simp [refs])])
theorem vstore_congr (ti : TI) (x y : AV) (K : List (Nat × Ob) → Prop) (h : ∀ p ∈ refs x, G p = G' p) (h' : ∀ p ∈ refs y, G p = G' p) : vstore ti G x y K = vstore ti G' x y K := by
  unfold vstore
  rw [frzP_congr (G := G) (G' := G') (lent0L (cells y)) fun p hp => h' p (cells_refs (lent0L_refs hp)), norm0L_congr (G := G) (G' := G') (cells y) fun p hp => h' p (cells_refs hp)]
  cases x <;> first | rfl | (simp only []; rw [h _ (by simp [refs])])
theorem vappend_congr (t n : Nat) (x y : AV) (K : AV → List (Nat × Ob) → Prop) (h : ∀ p ∈ refs x, G p = G' p) (h' : Agree G G' (refs y)) : vappend T t G n x y K = vappend T t G' n x y K := by
  unfold vappend
  have : ∀ m, norm1 G m y = norm1 G' m y := fun m => norm1_congr m y h'
  simp only [this]
  cases x with
  | own p off len =>
    cases off with
    | zero => simp only [h p (by simp [refs])]
    | succ k => rfl
  | _ => rfl
theorem vcopy_congr (t : Nat) (x y : AV) (K : AV → List (Nat × Ob) → Prop) (h : ∀ p ∈ refs x, G p = G' p) (h' : Agree G G' (refs y)) : vcopy T t G x y K = vcopy T t G' x y K := by
  unfold vcopy
  have : ∀ m, norm1 G m y = norm1 G' m y := fun m => norm1_congr m y h'
  simp only [this]
  cases x with
  | own p off len => simp only [h p (by simp [refs])]
  | _ => rfl
theorem vconv_congr (s d : Nat) (x : AV) (K : AV → Prop) (h : Agree G G' (refs x)) : vconv T s d G x K = vconv T s d G' x K := by
  unfold vconv
  rw [norm1_congr 1 x h]
theorem litElems_congr (ti : TI) : ∀ (i : Nat) (ps : List (Nat × AV)), (∀ p ∈ refsL (ps.map (·.2)), G p = G' p) → litElems G ti i ps = litElems G' ti i ps
  | _, [], _ => rfl
  | i, (k, x) :: ps, h => by
    simp only [litElems]
    rw [litElems_congr ti (i + 1) ps (fun p hp => h p (by simp [refsL, hp])), norm0L_congr (G := G) (G' := G') (cells x) fun p hp => h p (by simp [refsL, cells_refs hp])]
theorem lent0P_refs {q : Nat} : ∀ {ps : List (Nat × AV)}, q ∈ lent0P ps → q ∈ refsL (ps.map (·.2))
  | [], h => by simp [lent0P] at h
  | (k, x) :: ps, h => by
    simp only [lent0P, List.map_cons, refsL, List.mem_append] at h ⊢
    exact h.imp (fun h => cells_refs (lent0L_refs h)) lent0P_refs
theorem nargs_congr {E : Operand → AV} : ∀ (xs : List Operand) (ts : List Nat), Agree G G' (refsL (xs.map E)) → nargs T E G xs ts = nargs T E G' xs ts
  | [], _, _ => by simp [nargs]
  | x :: xs, [], h => by
    simp only [nargs]
    rw [norm_congr _ _ (h.mono fun p hp => by simp [refsL, hp]), nargs_congr xs [] (h.mono fun p hp => by simp [refsL, hp])]
  | x :: xs, t :: ts, h => by
    simp only [nargs]
    rw [norm_congr _ _ (h.mono fun p hp => by simp [refsL, hp]), nargs_congr xs ts (h.mono fun p hp => by simp [refsL, hp])]
theorem vfin_congr (ps : List Nat) (x : AV) (K : List (Nat × Ob) → Prop) (h : ∀ p ∈ ps, G p = G' p) : vfin ps G x K = vfin ps G' x K := by
  unfold vfin
  rw [frzP_congr ps h, anyBox_congr ps h]
theorem vres_congr (aS : List AV) (n : Nat) (K : AV → List (Nat × Ob) → Prop) (x : AV) (h : Agree G G' (refsL aS)) : vres aS G n K x = vres aS G' n K x := by
  unfold vres
  rw [← lentL_congr aS h]
  exact vfin_congr _ _ _ fun p hp => h p (lentL_deep (fun q hq => hq) hp)
theorem Agree.symm {ps : List Nat} (h : Agree G G' ps) : Agree G' G ps := fun p hp => by
  rw [deep_congr h] at hp
  exact (h p hp).symm
theorem vcallH_congr1 (dr : Bool) (f : FuncId) (aS : List AV) (n : Nat) (K : AV → List (Nat × Ob) → Prop) (h : Agree G G' (refsL aS)) (hk : vcallH P gl dr f aS G n K) : vcallH P gl dr f aS G' n K := by
  obtain ⟨ps, hc, hk⟩ := hk
  simp only [Bool.and_eq_true, handOK, List.all_eq_true] at hc
  have hg : ∀ p ∈ ps, G p = G' p := fun p hp => by
    obtain ⟨q, hq, e⟩ := List.any_eq_true.1 (hc.2 p hp).2.1
    rw [Nat.eq_of_beq_eq_true e]; exact h q hq
  have e1 : keepG G' ps = keepG G ps := by
    unfold keepG
    exact List.map_congr_left fun p hp => by rw [hg p hp]
  refine ⟨ps, ?_, by rw [e1]; exact hk⟩
  simp only [Bool.and_eq_true, handOK, List.all_eq_true]
  refine ⟨hc.1, fun p hp => ?_⟩
  rw [deep_congr h]
  have := hc.2 p hp
  unfold liveB at this ⊢
  rw [← hg p hp]; exact this
theorem vcall_congr (dr : Bool) (f : FuncId) (nas aS : List AV) (n : Nat) (K : AV → List (Nat × Ob) → Prop) (h : Agree G G' (refsL aS)) : vcall P gl dr f nas aS G n K = vcall P gl dr f nas aS G' n K := by
  unfold vcall
  rw [show vcallH P gl dr f aS G n K = vcallH P gl dr f aS G' n K from propext ⟨vcallH_congr1 dr f aS n K h, vcallH_congr1 dr f aS n K h.symm⟩]
  unfold vcallR
  have : vres aS G n K = vres aS G' n K := funext fun x => vres_congr aS n K x h
  rw [this]
end Go.V
namespace Go.V
open Go.RowKit
variable {P : Program} {gl : Gl} {T : Tab} {G G' : Nat → Ob} {E E' : Operand → AV} {n : Nat} {K : AV → List (Nat × Ob) → Prop} {dr : Bool}
theorem nargs_evE (G : Nat → Ob) : ∀ (xs : List Operand) (ts : List Nat), (∀ x ∈ xs, E x = E' x) → nargs T E G xs ts = nargs T E' G xs ts
  | [], _, _ => by simp [nargs]
  | x :: xs, [], h => by simp only [nargs]; rw [h x (by simp), nargs_evE G xs [] fun y hy => h y (by simp [hy])]
  | x :: xs, t :: ts, h => by simp only [nargs]; rw [h x (by simp), nargs_evE G xs ts fun y hy => h y (by simp [hy])]
theorem pairs_ev (ps : List (Nat × Operand)) (h : ∀ x ∈ ps.map (·.2), E x = E' x) : (ps.map fun p => (p.1, E p.2)) = ps.map fun p => (p.1, E' p.2) :=
  List.map_congr_left fun p hp => by rw [h p.2 (List.mem_map_of_mem hp)]
theorem vop_ev (o : Op) (h : ∀ x ∈ o.operands.toList, E x = E' x) : vop P gl T dr o E G n K = vop P gl T dr o E' G n K := by
  cases o with
  | build t ps => simp only [Op.operands, List.toList_toArray] at h; simp only [vop, pairs_ev _ h]
  | buildSlice t len ps => simp only [Op.operands, List.toList_toArray] at h; simp only [vop, pairs_ev _ h]
  | makeFunc f fi cap =>
    cases f with
    | func f =>
      simp only [Op.operands, Array.toList_append, List.mem_append] at h
      simp only [vop]
      rw [List.map_congr_left fun x hx => h x (.inr hx)]
    | _ => rfl
  | makeMap t r => cases r <;> rfl
  | slice t x lo hi mx =>
    cases mx with
    | some m => rfl
    | none => cases lo <;> cases hi <;> simp_all [Op.operands, vop]
  | call c =>
    obtain ⟨callee, args, ats⟩ := c
    have ha : ∀ x ∈ args.toList, E x = E' x := fun x hx => h x (by simp [Op.operands, Call.operands]; simp at hx; exact .inr hx)
    cases callee with
    | value f =>
      cases f with
      | func f => simp only [vop]; rw [nargs_evE G _ _ ha, List.map_congr_left ha]
      | tmp t =>
        have ht : E (.tmp t) = E' (.tmp t) := h _ (by simp [Op.operands, Call.operands])
        simp only [vop]
        rw [ht, nargs_evE G _ _ ha, List.map_congr_left ha]
      | _ => rfl
    | invoke r m => rfl
    | builtin b =>
      cases b with
      | len =>
        obtain ⟨l⟩ := args
        cases l with
        | nil => rfl
        | cons x r => cases r with
          | nil =>
            simp only [vop, ha x (by simp)]
            cases ats.toList with
            | nil => rfl
            | cons t ts => cases ts <;> first | rfl | simp only [ha x (by simp)]
          | cons y r => rfl
      | append =>
        obtain ⟨l⟩ := args
        cases l with
        | nil => rfl
        | cons x r => cases r with
          | nil => rfl
          | cons y r => cases r with
            | nil =>
              simp only [vop, ha x (by simp), ha y (by simp)]
              cases ats.toList with
              | nil => rfl
              | cons t ts => cases ts with
                | nil => rfl
                | cons u us => cases us <;> first | rfl | simp only [ha x (by simp), ha y (by simp)]
            | cons z r => rfl
      | copy =>
        obtain ⟨l⟩ := args
        cases l with
        | nil => rfl
        | cons x r => cases r with
          | nil => rfl
          | cons y r => cases r with
            | nil =>
              simp only [vop, ha x (by simp), ha y (by simp)]
              cases ats.toList with
              | nil => rfl
              | cons t ts => cases ts with
                | nil => rfl
                | cons u us => cases us <;> first | rfl | simp only [ha x (by simp), ha y (by simp)]
            | cons z r => rfl
      | min =>
        obtain ⟨l⟩ := args
        cases l with
        | nil => rfl
        | cons x r => cases r with
          | nil => rfl
          | cons y r => cases r with
            | nil => simp only [vop, ha x (by simp), ha y (by simp)]
            | cons z r => rfl
      | max =>
        obtain ⟨l⟩ := args
        cases l with
        | nil => rfl
        | cons x r => cases r with
          | nil => rfl
          | cons y r => cases r with
            | nil => simp only [vop, ha x (by simp), ha y (by simp)]
            | cons z r => rfl
      | _ => rfl
  | binOp op t x y ty => simp only [Op.operands] at h; simp only [vop, h x (by simp), h y (by simp)]
  | unOp op t x => simp only [Op.operands] at h; cases op <;> simp only [vop, h x (by simp)]
  | next x b => simp only [Op.operands] at h; cases b <;> simp_all [vop]
  | _ => simp only [Op.operands] at h <;> simp_all [vop]
theorem vop_ob (o : Op) (h : Agree G G' (refsL (o.operands.toList.map E))) : vop P gl T dr o E G n K = vop P gl T dr o E G' n K := by
  have ev : ∀ x ∈ o.operands.toList, Agree G G' (refs (E x)) := fun x hx => h.mono fun p hp => by
    have : ∀ l : List Operand, x ∈ l → p ∈ refsL (l.map E) := fun l => by
      induction l with
      | nil => simp
      | cons y r ih =>
        intro hm
        simp only [List.mem_cons] at hm
        simp only [List.map_cons, refsL, List.mem_append]
        rcases hm with rfl | hm
        · exact .inl hp
        · exact .inr (ih hm)
    exact this _ hx
  have ev1 : ∀ x ∈ o.operands.toList, ∀ p ∈ refs (E x), G p = G' p := fun x hx p hp => (ev x hx).at hp
  cases o with
  | load t x => simp only [vop]; exact vload_congr _ _ _ (ev1 x (by simp [Op.operands]))
  | store t x y => simp only [vop]; exact vstore_congr _ _ _ _ (ev1 x (by simp [Op.operands])) (ev1 y (by simp [Op.operands]))
  | nilCheck x =>
    have := ev1 x (by simp [Op.operands])
    simp only [vop]
    cases hx : E x with
    | bptr p c => rw [hx] at this; simp only [liveB, this p (by simp [refs])]
    | _ => rfl
  | convert s d x => simp only [vop]; exact vconv_congr _ _ _ _ (ev x (by simp [Op.operands]))
  | buildSlice t len ps =>
    simp only [Op.operands, List.toList_toArray] at h
    have hh : ∀ p ∈ refsL ((ps.toList.map fun p => (p.1, E p.2)).map (·.2)), G p = G' p := fun p hp => h.at (by simpa [Function.comp_def] using hp)
    simp only [vop]
    have e1 : ∀ ti, litElems G ti 0 (ps.toList.map fun p => (p.1, E p.2)) = litElems G' ti 0 (ps.toList.map fun p => (p.1, E p.2)) := fun ti => litElems_congr ti 0 _ hh
    have e2 := frzP_congr (G := G) (G' := G') (lent0P (ps.toList.map fun p => (p.1, E p.2))) fun p hp => hh p (lent0P_refs hp)
    simp only [e1, e2]
  | fieldAddr t x f =>
    have := ev1 x (by simp [Op.operands])
    simp only [vop]
    cases hx : E x with
    | bptr p c => rw [hx] at this; simp only [liveB, this p (by simp [refs])]
    | ptr p i c => rw [hx] at this; simp only [liveB, this p (by simp [refs])]
    | _ => rfl
  | slice t x lo hi mx =>
    cases mx with
    | some m => rfl
    | none => simp only [vop]; exact vslice_congr _ _ _ _ _ (ev1 x (by simp [Op.operands]))
  | indexAddr t x i =>
    have := ev1 x (by simp [Op.operands])
    simp only [vop]
    cases E i <;> first | rfl | exact viaddr_congr _ _ _ _ this
  | lookup t x i ok =>
    have := ev1 x (by simp [Op.operands])
    simp only [vop]
    cases hx : E x with
    | map p => rw [hx] at this; have := this p (by simp [refs]); cases E i <;> first | rfl | (simp only [this])
    | _ => rfl
  | next x b =>
    have := ev1 x (by simp [Op.operands])
    cases b with
    | false => rfl
    | true =>
      simp only [vop]
      cases hx : E x with
      | bptr p c => rw [hx] at this; have e1 := this p (by simp [refs]); clear this; cases c <;> first | rfl | (simp only [e1])
      | _ => rfl
  | mapUpdate t m k v =>
    have := ev1 m (by simp [Op.operands])
    simp only [vop]
    cases hx : E m with
    | map p => rw [hx] at this; have := this p (by simp [refs]); cases E k <;> first | rfl | (simp only [this])
    | _ => rfl
  | insert t m k v =>
    have := ev1 m (by simp [Op.operands])
    simp only [vop]
    cases hx : E m with
    | map p => rw [hx] at this; have := this p (by simp [refs]); cases E k <;> first | rfl | (simp only [this])
    | _ => rfl
  | makeMap t r => cases r <;> rfl
  | makeFunc f fi cap => cases f <;> rfl
  | unOp op t x => cases op <;> rfl
  | call c =>
    obtain ⟨callee, args, ats⟩ := c
    have hargs : Agree G G' (refsL (args.toList.map E)) := h.mono fun p hp => by
      simp only [Op.operands, Call.operands, Array.toList_append, List.map_append]
      have : ∀ xs ys : List AV, p ∈ refsL ys → p ∈ refsL (xs ++ ys) := fun xs ys hy => by
        induction xs with
        | nil => exact hy
        | cons z zs ih => simp only [List.cons_append, refsL, List.mem_append]; exact .inr ih
      exact this _ _ hp
    cases callee with
    | value f =>
      cases f with
      | func f => simp only [vop]; rw [nargs_congr _ _ hargs]; exact vcall_congr _ _ _ _ _ _ hargs
      | tmp t =>
        have ht := ev (.tmp t) (by simp [Op.operands, Call.operands])
        simp only [vop]
        cases hx : E (.tmp t) with
        | fn f cap =>
          rw [hx] at ht
          simp only [refs] at ht
          simp only []
          rw [nargs_congr _ _ hargs, normL_congr [] cap ht]
          refine vcall_congr _ _ _ _ _ _ (h.mono fun p hp => ?_)
          have app : ∀ xs ys : List AV, p ∈ refsL (xs ++ ys) ↔ p ∈ refsL xs ∨ p ∈ refsL ys := fun xs ys => by
            induction xs with
            | nil => simp [refsL]
            | cons z zs ih => simp only [List.cons_append, refsL, List.mem_append, ih, or_assoc]
          simp only [Op.operands, Call.operands, Array.toList_append, List.map_append, app]
          rcases (app _ _).1 hp with hp | hp
          · exact .inr hp
          · exact .inl (by simp [hx, refsL, refs, hp])
        | _ => rfl
      | _ => rfl
    | invoke r m => rfl
    | builtin b =>
      cases b with
      | len =>
        obtain ⟨l⟩ := args
        cases l with
        | nil => rfl
        | cons x r => cases r with
          | nil =>
            simp only [vop]
            cases ats.toList with
            | nil => rfl
            | cons t ts => cases ts with
              | nil => exact vlen_congr _ _ _ (ev1 x (by simp [Op.operands, Call.operands]))
              | cons u us => rfl
          | cons y r => rfl
      | append =>
        obtain ⟨l⟩ := args
        cases l with
        | nil => rfl
        | cons x r => cases r with
          | nil => rfl
          | cons y r => cases r with
            | nil =>
              simp only [vop]
              cases ats.toList with
              | nil => rfl
              | cons t ts => cases ts with
                | nil => rfl
                | cons u us => cases us with
                  | nil => simp only []; rw [vappend_congr _ _ _ _ _ (ev1 x (by simp [Op.operands, Call.operands])) (ev y (by simp [Op.operands, Call.operands]))]
                  | cons _ _ => rfl
            | cons z r => rfl
      | copy =>
        obtain ⟨l⟩ := args
        cases l with
        | nil => rfl
        | cons x r => cases r with
          | nil => rfl
          | cons y r => cases r with
            | nil =>
              simp only [vop]
              cases ats.toList with
              | nil => rfl
              | cons t ts => cases ts with
                | nil => rfl
                | cons u us => cases us with
                  | nil => simp only []; rw [vcopy_congr _ _ _ _ (ev1 x (by simp [Op.operands, Call.operands])) (ev y (by simp [Op.operands, Call.operands]))]
                  | cons _ _ => rfl
            | cons z r => rfl
      | _ => rfl
  | _ => rfl
theorem reads_congr (o : Op) (h : ∀ p ∈ reads E G o, G p = G' p) : reads E G' o = reads E G o ∧ vop P gl T dr o E G n K = vop P gl T dr o E G' n K := by
  have gen : reads E G o = deep G (refsL (o.operands.toList.map E)) → reads E G' o = deep G' (refsL (o.operands.toList.map E)) → reads E G' o = reads E G o ∧ vop P gl T dr o E G n K = vop P gl T dr o E G' n K := fun e1 e2 => by
    have hA : Agree G G' (refsL (o.operands.toList.map E)) := fun p hp => h p (by rw [e1]; exact hp)
    exact ⟨by rw [e1, e2]; exact deep_congr hA, vop_ob o hA⟩
  cases o <;> first | exact ⟨rfl, rfl⟩ | exact gen rfl rfl
theorem reads_ev (o : Op) (h : ∀ x ∈ o.operands.toList, E x = E' x) : reads E G o = reads E' G o := by
  have e : o.operands.toList.map E = o.operands.toList.map E' := List.map_congr_left h
  cases o <;> first | rfl | (simp only [reads]; rw [e])
end Go.V
namespace Go.V
open Go.RowKit
variable {P : Program} {gl : Gl} {T : Tab} {G : Nat → Ob} {E : Operand → AV} {n : Nat}
def Ang {α : Type} (X : (α → Prop) → Prop) : Prop := ∀ K, X K → ∃ v, K v ∧ ∀ K', K' v → X K'
theorem Ang.pt {α : Type} (v : α) : Ang fun K => K v := fun K h => ⟨v, h, fun K' h' => h'⟩
theorem Ang.no {α : Type} : Ang (α := α) fun _ => False := fun K h => h.elim
theorem Ang.and {α : Type} (p : Prop) {X : (α → Prop) → Prop} (h : Ang X) : Ang fun K => p ∧ X K := fun K hk => by
  obtain ⟨v, h1, h2⟩ := h K hk.2
  exact ⟨v, h1, fun K' h' => ⟨hk.1, h2 K' h'⟩⟩
theorem Ang.ex {α β : Type} {X : β → (α → Prop) → Prop} (h : ∀ b, Ang (X b)) : Ang fun K => ∃ b, X b K := fun K ⟨b, hk⟩ => by
  obtain ⟨v, h1, h2⟩ := h b K hk
  exact ⟨v, h1, fun K' h' => ⟨b, h2 K' h'⟩⟩
theorem Ang.chk {α : Type} (b : Bool) {X : (α → Prop) → Prop} (h : Ang X) : Ang fun K => chk b (X K) := fun K hk => by
  cases b with
  | false => exact hk.elim
  | true =>
    obtain ⟨v, h1, h2⟩ := h K hk
    exact ⟨v, h1, fun K' h' => h2 K' h'⟩
theorem Ang.bind {α β : Type} {X : (α → Prop) → Prop} (h : Ang X) {Y : α → (β → Prop) → Prop} (hy : ∀ a, Ang (Y a)) : Ang fun K => X fun a => Y a K := fun K hk => by
  obtain ⟨v, h1, h2⟩ := h _ hk
  obtain ⟨u, h3, h4⟩ := hy v K h1
  exact ⟨u, h3, fun K' h' => h2 _ (h4 K' h')⟩
theorem ldc_ang (ti : TI) (cs : List AV) : Ang (ldc ti cs) := by
  intro K h
  unfold ldc at h ⊢
  cases hk : ti.k <;> rw [hk] at h <;> simp only at h ⊢ <;> first
    | exact h.elim
    | (generalize ti.ag = g at h ⊢
       cases g with
       | true => exact Ang.chk _ (.pt _) K h
       | false => cases cs with
         | nil => exact h.elim
         | cons x r => exact ⟨_, h, fun K' h' => h'⟩)
theorem vload_ang (ti : TI) (x : AV) : Ang (vload ti G x) := by
  intro K h
  unfold vload at h ⊢
  cases x with
  | rp cs => exact ldc_ang ti cs K h
  | bptr p c => cases hg : G p <;> simp only [hg] at h ⊢ <;> first | exact h.elim | exact ldc_ang ti _ K h
  | ptr p i c => cases hg : G p <;> simp only [hg] at h ⊢ <;> first | exact h.elim | exact Ang.ex (fun cs => Ang.and _ (ldc_ang ti _)) K h
  | _ => exact h.elim
theorem veq_ang (neg cst : Bool) (ti : TI) (x y : AV) : Ang (veq true neg cst ti x y) := by
  intro K h
  unfold veq at h ⊢
  cases hk : ti.k <;> rw [hk] at h <;> simp only at h ⊢ <;> first
    | exact h.elim
    | (cases x <;> cases y <;> first | exact h.elim | exact Ang.ex (fun r => Ang.and _ (.pt _)) K h)
    | (cases cst <;> first | exact h.elim | (cases x <;> cases y <;> first | exact h.elim | exact ⟨_, h, fun K' h' => h'⟩))
    | (cases y <;> first | exact h.elim | (cases x <;> first | exact h.elim | exact ⟨_, h, fun K' h' => h'⟩ | (rename_i es; cases es <;> first | exact h.elim | exact ⟨_, h, fun K' h' => h'⟩)))
set_option maxHeartbeats 4000000 in
theorem vbin_ang (op : BinOp) (cst : Bool) (ti : TI) (x y : AV) : Ang (vbin true op cst ti x y) := by
  intro K h
  cases op <;> cases x <;> cases y <;> first
    | exact False.elim h
    | exact Ang.chk _ (.pt _) K h
    | exact Ang.chk _ (.ex fun r => .and _ (.pt _)) K h
    | exact Ang.and _ (.ex fun r => .and _ (.pt _)) K h
    | exact Ang.chk _ (.and _ (.ex fun r => .and _ (.pt _))) K h
    | exact Ang.chk _ (.and _ (.and _ (.and _ (.and _ (.ex fun r => .and _ (.pt _)))))) K h
    | exact Ang.and _ (.pt _) K h
    | exact ⟨_, h, fun K' h' => h'⟩
    | (simp only [vbin] at h ⊢; exact veq_ang _ _ _ _ _ K h)
theorem bnd_ang {α : Type} (x : Option AV) (d : Int) {X : Int → (α → Prop) → Prop} (h : ∀ n, Ang (X n)) : Ang fun K => bnd x d fun n => X n K := by
  intro K hk
  unfold bnd at hk ⊢
  cases x with
  | none => exact h _ K hk
  | some y => cases y <;> first | exact hk.elim | exact h _ K hk
theorem sl_ang {α : Type} (t : Nat) {X : Nat → TI → (α → Prop) → Prop} (h : ∀ e ti, Ang (X e ti)) : Ang fun K => T.sl t fun e ti => X e ti K := by
  intro K hk
  unfold Tab.sl at hk ⊢
  cases h1 : (T.ti t).k <;> rw [h1] at hk <;> simp only at hk ⊢ <;> first
    | exact hk.elim
    | (rename_i e
       cases h2 : (T.ti e).k <;> rw [h2] at hk <;> simp only at hk ⊢ <;> first
         | exact hk.elim
         | exact h _ _ K hk)
theorem vslice_ang (t : Nat) (x : AV) (lo hi : Option AV) : Ang (vslice T t G x lo hi) := by
  have hs : Ang fun K : AV → Prop => T.sl t fun _ ti => match x with
    | .ro sz es => chk (Nat.beq sz ti.size) <| bnd lo 0 fun l => bnd hi es.length fun u => 0 ≤ l ∧ l ≤ u ∧ u ≤ es.length ∧ ∃ r, r = (es.drop l.toNat).take (u.toNat - l.toNat) ∧ K (.ro sz r)
    | .nils => bnd lo 0 fun l => bnd hi 0 fun u => l = 0 ∧ u = 0 ∧ K .nils
    | .own p off len => match G p with
      | .row _ _ sz _ => chk (Nat.beq sz ti.size) <| bnd lo 0 fun l => bnd hi len fun u => 0 ≤ l ∧ l ≤ u ∧ u ≤ len ∧ (l = 0 ∨ l < u) ∧ ∃ o' n' : Nat, (o' : Int) = off + l ∧ (n' : Int) = u - l ∧ K (.own p o' n')
      | _ => False
    | _ => False := sl_ang t fun e ti => by
    cases x with
    | ro sz es => exact .chk _ (bnd_ang _ _ fun l => bnd_ang _ _ fun u => .and _ (.and _ (.and _ (.ex fun r => .and _ (.pt _)))))
    | nils => exact bnd_ang _ _ fun l => bnd_ang _ _ fun u => .and _ (.and _ (.pt _))
    | own p off len => dsimp only; generalize G p = g; cases g <;> first | exact .no | exact .chk _ (bnd_ang _ _ fun l => bnd_ang _ _ fun u => .and _ (.and _ (.and _ (.and _ (.ex fun o' => .ex fun n' => .and _ (.and _ (.pt _)))))))
    | _ => exact .no
  intro K h
  unfold vslice at h ⊢
  cases h1 : (T.ti t).k <;> rw [h1] at h <;> simp only at h ⊢ <;> first
    | exact hs K h
    | (cases x <;> first | exact h.elim | exact bnd_ang _ _ (fun l => bnd_ang _ _ fun u => .and _ (.and _ (.and _ (.ex fun r => .and _ (.pt _))))) K h)
theorem viaddr_ang (t : Nat) (x : AV) (i : Int) : Ang (viaddr T t G x i) := by
  have key : Ang fun K : AV → Prop => T.sl t fun _ ti => match x with
      | .ro sz es => chk (Nat.beq sz ti.size) <| ∃ (n : Nat) (cs : List AV), i = n ∧ es[n]? = some cs ∧ K (.rp cs)
      | .own p off len => match G p with
        | .row _ _ sz _ => chk (Nat.beq sz ti.size) <| ∃ n : Nat, i = n ∧ n < len ∧ K (.ptr p (off + n) 0)
        | _ => False
      | _ => False := by
    refine sl_ang t fun e ti => ?_
    cases x with
    | ro sz es => exact .chk _ (.ex fun n => .ex fun cs => .and _ (.and _ (.pt _)))
    | own p off len => dsimp only; generalize G p = g; cases g <;> first | exact .no | exact .chk _ (.ex fun n => .and _ (.and _ (.pt _)))
    | _ => exact .no
  intro K h
  unfold viaddr at h ⊢
  cases hk : (T.ti t).k with
  | arr m e =>
    rw [hk] at h
    simp only at h ⊢
    cases he : (T.ti e).k <;> rw [he] at h <;> simp only at h ⊢ <;> first
      | exact h.elim
      | (cases x with
        | rp cs => exact Ang.ex (fun j => .and _ (.and _ (.pt _))) K h
        | bptr p c => exact Ang.chk _ (.ex fun j => .and _ (.and _ (.pt _))) K h
        | _ => exact False.elim h)
  | _ => rw [hk] at h; exact key K h
theorem vstore_ang (ti : TI) (x y : AV) : Ang (vstore ti G x y) := by
  intro K h
  unfold vstore at h ⊢
  cases x with
  | bptr p c => cases hg : G p <;> simp only [hg] at h ⊢ <;> first | exact h.elim | exact Ang.chk _ (.pt _) K h
  | ptr p i c =>
    cases hg : G p with
    | row fz e sz es =>
      simp only [hg] at h ⊢
      cases fz with
      | true => exact h.elim
      | false => exact Ang.chk _ (.chk _ (.ex fun cs => .and _ (.pt _))) K h
    | _ => simp only [hg] at h
  | _ => exact h.elim
theorem vlen_ang (ti : TI) (x : AV) : Ang (vlen ti G x) := by
  intro K h
  unfold vlen at h ⊢
  cases h1 : ti.k <;> rw [h1] at h <;> simp only at h ⊢ <;> first
    | exact h.elim
    | (cases x <;> first | exact h.elim | exact ⟨_, h, fun K' h' => h'⟩ | exact Ang.chk _ (.pt _) K h)
theorem vconv_ang (s d : Nat) (x : AV) : Ang (vconv T s d G x) := by
  intro K h
  unfold vconv at h ⊢
  generalize (T.ti s).k = ks at h ⊢
  generalize (T.ti d).k = kd at h ⊢
  cases ks with
  | int k0 =>
    dsimp only at h ⊢
    cases kd with
    | int k => cases x <;> first | exact False.elim h | exact Ang.ex (fun r => .and _ (.pt _)) K h
    | _ => exact False.elim h
  | str =>
    dsimp only at h ⊢
    cases kd with
    | str => cases x <;> first | exact False.elim h | exact ⟨_, h, fun K' h' => h'⟩
    | _ => exact False.elim h
  | slice e =>
    dsimp only at h ⊢
    generalize (T.ti e).k = ke at h ⊢
    cases ke with
    | int k =>
      cases k with
      | u8 =>
        dsimp only at h ⊢
        cases kd with
        | str =>
          dsimp only at h ⊢
          generalize norm1 G 1 x = y at h ⊢
          cases y with
          | ro sz es =>
            match sz, h with
            | 1, h => exact Ang.ex (fun bs => .and _ (.pt _)) K h
          | _ => exact False.elim h
        | _ => exact False.elim h
      | _ => exact False.elim h
    | _ => exact False.elim h
  | _ => exact False.elim h
theorem vcopy_ang (t : Nat) (x y : AV) (K : AV → List (Nat × Ob) → Prop) (h : vcopy T t G x y K) : ∃ v d, K v d ∧ ∀ K' : AV → List (Nat × Ob) → Prop, K' v d → vcopy T t G x y K' := by
  have : Ang fun K : AV × List (Nat × Ob) → Prop => vcopy T t G x y fun v d => K (v, d) := by
    refine sl_ang t fun e ti => ?_
    dsimp only
    generalize norm1 G ti.size y = z
    cases z with
    | ro sz new =>
      refine .chk _ ?_
      cases x with
      | own p off len =>
        show Ang fun K : AV × List (Nat × Ob) → Prop => match G p with
          | .row false e' sz' es => chk (Nat.beq sz' 1) <| ∃ m : Nat, m = min new.length len ∧ off + m ≤ es.length ∧ ∃ r, r = es.take off ++ new.take m ++ es.drop (off + m) ∧ K (.int .i64 m, [(p, .row false e' 1 r)])
          | _ => False
        generalize G p = g
        cases g with
        | row fz e' sz' es =>
          cases fz with
          | false => exact .chk _ (.ex fun m => .and _ (.and _ (.ex fun r => .and _ (.pt _))))
          | true => exact .no
        | _ => exact .no
      | _ => exact .no
    | _ => exact .no
  obtain ⟨v, h1, h2⟩ := this (fun p => K p.1 p.2) h
  exact ⟨v.1, v.2, h1, fun K' h' => h2 (fun p => K' p.1 p.2) h'⟩
theorem vappend_ang (t : Nat) (x y : AV) (K : AV → List (Nat × Ob) → Prop) (h : vappend T t G n x y K) : ∃ v d, K v d ∧ ∀ K' : AV → List (Nat × Ob) → Prop, K' v d → vappend T t G n x y K' := by
  have : Ang fun K : AV × List (Nat × Ob) → Prop => vappend T t G n x y fun v d => K (v, d) := by
    refine sl_ang t fun e ti => ?_
    dsimp only
    generalize norm1 G ti.size y = z
    cases z with
    | ro sz new =>
      refine .chk _ ?_
      cases x with
      | nils => exact .and _ (.and _ (.pt _))
      | own p off len =>
        cases off with
        | zero =>
          show Ang fun K : AV × List (Nat × Ob) → Prop => match G p with
            | .row false e' sz' es => chk (Nat.beq e' e && Nat.beq sz' ti.size) <| len ≤ es.length ∧ (len + new.length) * ti.bytes ≤ 140737488355328 ∧
                ∃ r, r = es.take len ++ new ∧ K (.own n 0 r.length, [(p, .gone), (n, .row false e ti.size r)])
            | _ => False
          generalize G p = g
          cases g with
          | row fz e' sz' es =>
            cases fz with
            | false => exact .chk _ (.and _ (.and _ (.ex fun r => .and _ (.pt _))))
            | true => exact .no
          | _ => exact .no
        | succ k => exact .no
      | _ => exact .no
    | _ => exact .no
  obtain ⟨v, h1, h2⟩ := this (fun p => K p.1 p.2) h
  exact ⟨v.1, v.2, h1, fun K' h' => h2 (fun p => K' p.1 p.2) h'⟩
theorem vfin_ang (ps : List Nat) (x : AV) : Ang (vfin ps G x) := by
  intro K h
  unfold vfin at h ⊢
  cases ps with
  | nil => exact ⟨_, h, fun K' h' => h'⟩
  | cons p r =>
    dsimp only at h ⊢
    generalize roQ x = q at h ⊢
    cases q with
    | none =>
      refine Ang.ex (fun b => ?_) K h
      cases b with
      | true => exact .chk _ (.pt _)
      | false => exact .and _ (.pt _)
    | some b => cases b with
      | true => exact Ang.chk _ (.pt _) K h
      | false => exact ⟨_, h, fun K' h' => h'⟩
theorem vcall_ang (f : FuncId) (nas aS : List AV) (K : AV → List (Nat × Ob) → Prop) (h : vcall P gl true f nas aS G n K) : ∃ v d, K v d ∧ ∀ K' : AV → List (Nat × Ob) → Prop, K' v d → vcall P gl true f nas aS G n K' := by
  rcases h with h | ⟨ps, hc, r, h', h1, h2⟩
  · obtain ⟨r, h1, h2⟩ := h
    obtain ⟨d, h3, h4⟩ := vfin_ang _ _ _ h2
    exact ⟨_, _, h3, fun K' h' => .inl ⟨r, h1, h4 _ h'⟩⟩
  · exact ⟨_, _, h2, fun K' h2' => .inr ⟨ps, hc, r, h', h1, h2'⟩⟩
theorem ang_nil {X : (AV → Prop) → Prop} (hx : Ang X) {K : AV → List (Nat × Ob) → Prop} (h : X fun r => K r []) : ∃ v d, K v d ∧ ∀ K' : AV → List (Nat × Ob) → Prop, K' v d → X fun r => K' r [] := by
  obtain ⟨v, h1, h2⟩ := hx _ h
  exact ⟨v, [], h1, fun K' h' => h2 _ h'⟩
theorem ang_two {X : (AV → List (Nat × Ob) → Prop) → Prop} (hx : Ang fun K : AV × List (Nat × Ob) → Prop => X fun v d => K (v, d)) {K : AV → List (Nat × Ob) → Prop} (h : X K) : ∃ v d, K v d ∧ ∀ K' : AV → List (Nat × Ob) → Prop, K' v d → X K' := by
  obtain ⟨v, h1, h2⟩ := hx (fun p => K p.1 p.2) h
  exact ⟨v.1, v.2, h1, fun K' h' => h2 (fun p => K' p.1 p.2) h'⟩
theorem vop_ang (o : Op) {K : AV → List (Nat × Ob) → Prop} (h : vop P gl T true o E G n K) : ∃ v d, K v d ∧ ∀ K' : AV → List (Nat × Ob) → Prop, K' v d → vop P gl T true o E G n K' := by
  have pt : ∀ {v d} {X : (AV → List (Nat × Ob) → Prop) → Prop}, K v d → (∀ K' : AV → List (Nat × Ob) → Prop, K' v d → X K') → ∃ v d, K v d ∧ ∀ K' : AV → List (Nat × Ob) → Prop, K' v d → X K' := fun h1 h2 => ⟨_, _, h1, h2⟩
  cases o with
  | move x => exact ⟨_, _, h, fun K' h' => h'⟩
  | assign x => exact ⟨_, _, h, fun K' h' => h'⟩
  | pick c x y =>
    simp only [vop] at h ⊢
    generalize E c = z at h ⊢
    cases z with
    | bool b => cases b <;> exact ⟨_, _, h, fun K' h' => h'⟩
    | _ => exact False.elim h
  | alloc t =>
    simp only [vop] at h ⊢
    generalize (T.ti t).k = k at h ⊢
    cases k <;> first | exact False.elim h | exact ⟨_, _, h, fun K' h' => h'⟩
  | box t x =>
    simp only [vop] at h ⊢
    exact ang_two (.chk _ (.pt (_, _))) h
  | build t ps =>
    simp only [vop] at h ⊢
    generalize (T.ti t).k = k at h ⊢
    cases k <;> first | exact False.elim h | exact ang_two (.chk _ (.pt (_, _))) h
  | buildSlice t len ps =>
    simp only [vop] at h ⊢
    refine ang_two (sl_ang t fun e ti => ?_) h
    dsimp only
    generalize litElems G ti 0 (ps.toList.map fun p => (p.1, E p.2)) = z
    cases z with
    | none => exact .no
    | some es => exact .chk _ (.pt (_, _))
  | insert t m k v =>
    simp only [vop] at h ⊢
    generalize (T.ti t).k = kk at h ⊢
    cases kk with
    | map e =>
      dsimp only at h ⊢
      generalize E m = x at h ⊢
      generalize E k = y at h ⊢
      cases x <;> cases y <;> first | exact False.elim h | skip
      rename_i p s
      dsimp only at h ⊢
      generalize G p = g at h ⊢
      cases g <;> first | exact False.elim h | exact ang_two (.ex fun r => .and _ (.pt (_, _))) h
    | _ => exact False.elim h
  | mapUpdate t m k v =>
    simp only [vop] at h ⊢
    generalize (T.ti t).k = kk at h ⊢
    cases kk with
    | map e =>
      dsimp only at h ⊢
      generalize E m = x at h ⊢
      generalize E k = y at h ⊢
      cases x <;> cases y <;> first | exact False.elim h | skip
      rename_i p s
      dsimp only at h ⊢
      generalize G p = g at h ⊢
      cases g <;> first | exact False.elim h | exact ang_two (.ex fun r => .and _ (.pt (_, _))) h
    | _ => exact False.elim h
  | load t x => exact ang_nil (vload_ang _ _) h
  | store t x y =>
    obtain ⟨d, h1, h2⟩ := vstore_ang _ _ _ _ h
    exact ⟨_, d, h1, fun K' h' => h2 _ h'⟩
  | nilCheck x =>
    simp only [vop] at h ⊢
    generalize E x = z at h ⊢
    cases z <;> first | exact False.elim h | exact ⟨_, _, h, fun K' h' => h'⟩ | exact ang_two (.chk _ (.pt (_, _))) h
  | binOp op t x y ty => exact ang_nil (vbin_ang _ _ _ _ _) h
  | unOp op t x =>
    cases op with
    | not =>
      simp only [vop] at h ⊢
      generalize E x = z at h ⊢
      cases z <;> first | exact False.elim h | exact ⟨_, _, h, fun K' h' => h'⟩
    | neg =>
      simp only [vop] at h ⊢
      generalize E x = z at h ⊢
      cases z <;> first | exact False.elim h | exact ang_two (.ex fun r => .and _ (.pt (_, _))) h
    | _ => exact False.elim h
  | convert s d x => exact ang_nil (vconv_ang _ _ _) h
  | makeInterface t x =>
    simp only [vop] at h ⊢
    generalize (T.ti t).k = k at h ⊢
    cases k <;> first | exact False.elim h | exact ⟨_, _, h, fun K' h' => h'⟩
  | makeFunc f fi cap =>
    cases f with
    | func f =>
      simp only [vop] at h ⊢
      generalize fi.toList = l at h ⊢
      cases l with
      | nil => exact ⟨_, _, h, fun K' h' => h'⟩
      | cons _ _ => exact False.elim h
    | _ => exact False.elim h
  | makeMap t r =>
    cases r with
    | none => exact ⟨_, _, h, fun K' h' => h'⟩
    | some _ => exact False.elim h
  | makeSlice t l c =>
    simp only [vop] at h ⊢
    generalize E l = x at h ⊢
    generalize E c = y at h ⊢
    cases x with
    | int k a => cases k with
      | i64 => cases y with
        | int k b => cases k with
          | i64 => exact ang_two (sl_ang t fun e ti => .chk _ (.and _ (.and _ (.and _ (.and _ (.ex fun m => .and _ (.pt (_, _)))))))) h
          | _ => exact False.elim h
        | _ => exact False.elim h
      | _ => exact False.elim h
    | _ => exact False.elim h
  | slice t x lo hi mx =>
    cases mx with
    | some _ => exact False.elim h
    | none => exact ang_nil (vslice_ang _ _ _ _) h
  | fieldAddr t x f =>
    simp only [vop] at h ⊢
    generalize (T.ti t).k = k at h ⊢
    cases k with
    | strc fs =>
      dsimp only at h ⊢
      generalize fs[f]? = z at h ⊢
      cases z with
      | none => exact False.elim h
      | some q =>
        obtain ⟨off, kk, ag⟩ := q
        dsimp only at h ⊢
        generalize E x = z at h ⊢
        cases z <;> first
          | exact ang_two (.chk _ (.chk _ (.pt (_, _)))) h
          | exact ang_two (.chk _ .no) h
    | _ => exact False.elim h
  | field t x f =>
    simp only [vop] at h ⊢
    generalize (T.ti t).k = k at h ⊢
    cases k with
    | strc fs =>
      dsimp only at h ⊢
      generalize fs[f]? = z at h ⊢
      cases z with
      | none => exact False.elim h
      | some q =>
        obtain ⟨off, kk, ag⟩ := q
        dsimp only at h ⊢
        generalize E x = z at h ⊢
        cases z with
        | agg cs =>
          cases ag with
          | true => exact ang_two (.chk _ (.pt (_, _))) h
          | false =>
            dsimp only at h ⊢
            generalize cs.drop off = l at h ⊢
            cases l with
            | nil => exact ang_two (.chk _ .no) h
            | cons c r => exact ang_two (.chk _ (.pt (_, _))) h
        | _ => exact False.elim h
    | _ => exact False.elim h
  | indexAddr t x i =>
    simp only [vop] at h ⊢
    generalize E i = z at h ⊢
    cases z <;> first | exact False.elim h | exact ang_nil (viaddr_ang _ _ _) h
  | index t x i =>
    simp only [vop] at h ⊢
    generalize E i = z at h ⊢
    cases z with
    | int k m =>
      dsimp only at h ⊢
      generalize (T.ti t).k = kk at h ⊢
      generalize E x = y at h ⊢
      cases kk with
      | str => cases y with
        | str s => exact ang_two (.ex fun k => .ex fun c => .and _ (.and _ (.pt (_, _)))) h
        | _ => exact False.elim h
      | _ => exact False.elim h
    | _ => exact False.elim h
  | lookup t x i ok =>
    simp only [vop] at h ⊢
    generalize (T.ti t).k = kk at h ⊢
    cases kk with
    | map e =>
      dsimp only at h ⊢
      generalize (T.ti e).k = ke at h ⊢
      generalize E x = y at h ⊢
      generalize E i = z at h ⊢
      cases y with
      | map p => cases z with
        | str s =>
          have key : ∀ K : AV → List (Nat × Ob) → Prop, (match (generalizing := false) G p with
              | .kv l => match (generalizing := false) ok with
                | false => ∃ r, r = (findK l s).getD (cav (T.ti e).zv) ∧ K r []
                | true => ∃ r b, r = (findK l s).getD (cav (T.ti e).zv) ∧ b = (findK l s).isSome ∧ K (.tup [r, .bool b]) []
              | _ => False) → ∃ v d, K v d ∧ ∀ K' : AV → List (Nat × Ob) → Prop, K' v d → (match (generalizing := false) G p with
              | .kv l => match (generalizing := false) ok with
                | false => ∃ r, r = (findK l s).getD (cav (T.ti e).zv) ∧ K' r []
                | true => ∃ r b, r = (findK l s).getD (cav (T.ti e).zv) ∧ b = (findK l s).isSome ∧ K' (.tup [r, .bool b]) []
              | _ => False) := fun K h => by
            generalize G p = g at h ⊢
            cases g with
            | kv l =>
              cases ok with
              | false => obtain ⟨r, h1, h2⟩ := h; exact ⟨_, _, h2, fun K' h' => ⟨r, h1, h'⟩⟩
              | true => obtain ⟨r, b, h1, h2, h3⟩ := h; exact ⟨_, _, h3, fun K' h' => ⟨r, b, h1, h2, h'⟩⟩
            | _ => exact False.elim h
          cases ke <;> first | exact False.elim h | exact key _ h
        | _ => cases ke <;> exact False.elim h
      | _ => cases ke <;> exact False.elim h
    | _ => exact False.elim h
  | range t x =>
    simp only [vop] at h ⊢
    generalize (T.ti t).k = kk at h ⊢
    generalize E x = z at h ⊢
    cases kk <;> first | exact False.elim h | (cases z <;> first | exact False.elim h | exact ang_two (.pt (_, _)) h)
  | next x b =>
    cases b with
    | false => exact False.elim h
    | true =>
      simp only [vop] at h ⊢
      generalize E x = z at h ⊢
      cases z with
      | bptr p c =>
        cases c with
        | succ c => exact False.elim h
        | zero =>
          have key : ∀ K : AV → List (Nat × Ob) → Prop, (match (generalizing := false) G p with
              | .iter s k => match Nat.blt k s.size with
                | true => ∃ c m, (c, m) = Utf8.decode s k ∧ K (.tup [.bool true, .int .i64 k, .int .i32 c]) [(p, .iter s (k + m))]
                | false => K (.tup [.bool false]) []
              | _ => False) → ∃ v d, K v d ∧ ∀ K' : AV → List (Nat × Ob) → Prop, K' v d → (match (generalizing := false) G p with
              | .iter s k => match Nat.blt k s.size with
                | true => ∃ c m, (c, m) = Utf8.decode s k ∧ K' (.tup [.bool true, .int .i64 k, .int .i32 c]) [(p, .iter s (k + m))]
                | false => K' (.tup [.bool false]) []
              | _ => False) := fun K h => by
            generalize G p = g at h ⊢
            cases g with
            | iter s k =>
              simp only at h ⊢
              generalize Nat.blt k s.size = bb at h ⊢
              cases bb with
              | true => obtain ⟨c, m, h1, h2⟩ := h; exact ⟨_, _, h2, fun K' h' => ⟨c, m, h1, h'⟩⟩
              | false => exact ⟨_, _, h, fun K' h' => h'⟩
            | _ => exact False.elim h
          exact key _ h
      | _ => exact False.elim h
  | extract x i =>
    simp only [vop] at h ⊢
    generalize E x = z at h ⊢
    cases z with
    | tup cs =>
      dsimp only at h ⊢
      generalize cs[i]? = l at h ⊢
      cases l with
      | none => exact False.elim h
      | some c => exact ⟨_, _, h, fun K' h' => h'⟩
    | _ => exact False.elim h
  | call c =>
    obtain ⟨callee, args, ats⟩ := c
    cases callee with
    | value f =>
      cases f with
      | func f => exact vcall_ang _ _ _ _ h
      | tmp t =>
        simp only [vop] at h ⊢
        generalize E (.tmp t) = z at h ⊢
        cases z with
        | fn f cap => exact vcall_ang _ _ _ _ h
        | _ => exact False.elim h
      | _ => exact False.elim h
    | invoke r m => exact False.elim h
    | builtin b =>
      cases b with
      | len =>
        simp only [vop] at h ⊢
        generalize args.toList = l at h ⊢
        generalize ats.toList = ts at h ⊢
        match l, ts, h with
        | [x], [t], h => exact ang_nil (vlen_ang _ _) h
      | append =>
        simp only [vop] at h ⊢
        generalize args.toList = l at h ⊢
        generalize ats.toList = ts at h ⊢
        match l, ts, h with
        | [x, y], [t, t'], h =>
          obtain ⟨v, d, h1, h2⟩ := vappend_ang _ _ _ _ h.2
          exact ⟨v, d, h1, fun K' h' => ⟨h.1, h2 K' h'⟩⟩
      | copy =>
        simp only [vop] at h ⊢
        generalize args.toList = l at h ⊢
        generalize ats.toList = ts at h ⊢
        match l, ts, h with
        | [x, y], [t, t'], h => exact vcopy_ang _ _ _ _ h
      | min =>
        simp only [vop] at h ⊢
        generalize args.toList = l at h ⊢
        match l, h with
        | [x, y], h =>
          dsimp only at h ⊢
          generalize E x = u at h ⊢
          generalize E y = z at h ⊢
          cases u <;> cases z <;> first | exact False.elim h | exact ang_two (.and _ (.ex fun r => .and _ (.pt (_, _)))) h
      | max =>
        simp only [vop] at h ⊢
        generalize args.toList = l at h ⊢
        match l, h with
        | [x, y], h =>
          dsimp only at h ⊢
          generalize E x = u at h ⊢
          generalize E y = z at h ⊢
          cases u <;> cases z <;> first | exact False.elim h | exact ang_two (.and _ (.ex fun r => .and _ (.pt (_, _)))) h
      | _ => exact False.elim h
  | _ => exact False.elim h
end Go.V
namespace Go.V
open Go.RowKit
variable {P : Program} {gl : Gl} {T : Tab} {B : Base}
structure Rc where
  ran : Bool
  v : AV
  d : List (Nat × Ob)
  rd : List Nat
  n : Nat
  deriving Inhabited
def Rc.note (r : Rc) : Note := ⟨r.rd, r.d.map (·.1)⟩
def ap (o : Oper) (r : Rc) (st : St) : St := st.upd o.dst r.v r.d
def Good (P : Program) (gl : Gl) (T : Tab) (ops : Array Oper) (o : Oper) (r : Rc) (st : St) : Prop :=
  vguard ops o st = some r.ran ∧ match r.ran with
  | true => reads (st.ev gl) (getOb st.h) o.op = r.rd ∧ vop P gl T true o.op (st.ev gl) (getOb st.h) r.n (fun v d => v = r.v ∧ d = r.d) ∧ ∀ q ob, (q, ob) ∈ r.d → r.n ≤ q → getOb st.h q = .dead
  | false => r.v = .u ∧ r.d = [] ∧ r.rd = []
theorem get_put (st : St) (d : Option Tmp) (v : AV) (t : Nat) : (st.put d v).get t = if d = some t then v else st.get t := by
  cases d with
  | none => simp [St.put]
  | some d =>
    show lk .j ((d, v) :: st.t) t = _
    unfold lk
    cases hb : Nat.beq d t with
    | true => simp [Nat.eq_of_beq_eq_true hb]
    | false => simp [Nat.ne_of_beq_eq_false hb, St.get]
theorem get_ap (o : Oper) (r : Rc) (st : St) (t : Nat) : (ap o r st).get t = if o.dst = some t then r.v else st.get t := by
  unfold ap St.upd
  rw [get_put]; rfl
theorem ap_h (o : Oper) (r : Rc) (st : St) : (ap o r st).h = setAll st.h r.d := by
  unfold ap St.upd; cases o.dst <;> rfl
theorem getOb_setAll {p : Nat} : ∀ (d : List (Nat × Ob)) (h : List Ob), p ∉ d.map (·.1) → getOb (setAll h d) p = getOb h p
  | [], h, _ => rfl
  | (q, o) :: d, h, hp => by
    simp only [List.map_cons, List.mem_cons, not_or] at hp
    simp only [setAll]
    rw [getOb_setAll d _ hp.2, getOb_set, if_neg hp.1]
theorem setOb_comm : ∀ (h : List Ob) (p q : Nat) (x y : Ob), p ≠ q → setOb (setOb h p x) q y = setOb (setOb h q y) p x
  | [], 0, 0, x, y, hn => absurd rfl hn
  | [], 0, q + 1, x, y, hn => rfl
  | [], p + 1, 0, x, y, hn => rfl
  | [], p + 1, q + 1, x, y, hn => by simp only [setOb]; rw [setOb_comm [] p q x y (by omega)]
  | o :: h, 0, 0, x, y, hn => absurd rfl hn
  | o :: h, 0, q + 1, x, y, hn => rfl
  | o :: h, p + 1, 0, x, y, hn => rfl
  | o :: h, p + 1, q + 1, x, y, hn => by simp only [setOb]; rw [setOb_comm h p q x y (by omega)]
theorem setAll_setOb : ∀ (d : List (Nat × Ob)) (h : List Ob) (p : Nat) (x : Ob), p ∉ d.map (·.1) → setAll (setOb h p x) d = setOb (setAll h d) p x
  | [], h, p, x, _ => rfl
  | (q, o) :: d, h, p, x, hp => by
    simp only [List.map_cons, List.mem_cons, not_or] at hp
    simp only [setAll]
    rw [setOb_comm h p q x o hp.1, setAll_setOb d _ p x hp.2]
theorem setAll_comm : ∀ (d d' : List (Nat × Ob)) (h : List Ob), (∀ p ∈ d.map (·.1), p ∉ d'.map (·.1)) → setAll (setAll h d) d' = setAll (setAll h d') d
  | [], d', h, _ => rfl
  | (p, o) :: d, d', h, hp => by
    simp only [setAll]
    rw [setAll_comm d d' _ (fun q hq => hp q (by simp at hq ⊢; exact .inr hq)), setAll_setOb d' h p o (hp p (by simp))]
theorem mem_looks {ops : Array Oper} {o : Oper} {t : Tmp} (h : Operand.tmp t ∈ o.op.operands.toList) : t ∈ o.looksAt ops :=
  List.mem_append_left _ (List.mem_filterMap.2 ⟨.tmp t, h, rfl⟩)
theorem good_congr {ops : Array Oper} {o : Oper} {r : Rc} {st st' : St} (h1 : ∀ t ∈ o.looksAt ops, st.get t = st'.get t) (h2 : ∀ p ∈ r.rd, getOb st.h p = getOb st'.h p)
    (h3 : ∀ q ∈ r.d.map (·.1), getOb st.h q = getOb st'.h q) (h : Good P gl T ops o r st) : Good P gl T ops o r st' := by
  obtain ⟨hg, h⟩ := h
  have hg' : vguard ops o st' = some r.ran := by
    rw [← hg]
    unfold vguard
    cases hgd : o.guard with
    | none => rfl
    | some gw =>
      obtain ⟨i, b⟩ := gw
      simp only
      cases hd : (ops[i]?).bind (·.dst) with
      | none => rfl
      | some d => dsimp only; rw [h1 d (List.mem_append_right _ (by simp [hgd, hd]))]
  refine ⟨hg', ?_⟩
  have hE : ∀ x ∈ o.op.operands.toList, st.ev gl x = st'.ev gl x := fun x hx => by
    cases x with
    | tmp t => exact h1 t (mem_looks hx)
    | _ => rfl
  cases hr : r.ran with
  | false => rw [hr] at h; exact h
  | true =>
    rw [hr] at h
    simp only at h ⊢
    obtain ⟨k1, k2, k3⟩ := h
    have hA : ∀ p ∈ reads (st.ev gl) (getOb st.h) o.op, getOb st.h p = getOb st'.h p := fun p hp => h2 p (by rw [← k1]; exact hp)
    refine ⟨?_, ?_, fun q ob hq hn => by rw [← h3 q (List.mem_map_of_mem hq)]; exact k3 q ob hq hn⟩
    · rw [← reads_ev o.op hE, (reads_congr (P := P) (gl := gl) (T := T) (n := 0) (K := fun _ _ => True) (dr := true) o.op hA).1, k1]
    · rw [← vop_ev o.op hE, ← (reads_congr o.op hA).2]; exact k2
def Same (st st' : St) : Prop := st.h = st'.h ∧ ∀ t, st.get t = st'.get t
theorem Same.symm {st st' : St} (h : Same st st') : Same st' st := ⟨h.1.symm, fun t => (h.2 t).symm⟩
theorem Same.trans {st st' st'' : St} (h : Same st st') (h' : Same st' st'') : Same st st'' := ⟨h.1.trans h'.1, fun t => (h.2 t).trans (h'.2 t)⟩
theorem Same.ap {st st' : St} (h : Same st st') (o : Oper) (r : Rc) : Same (ap o r st) (ap o r st') :=
  ⟨by rw [ap_h, ap_h, h.1], fun t => by rw [get_ap, get_ap, h.2]⟩
theorem Same.good {ops : Array Oper} {o : Oper} {r : Rc} {st st' : St} (h : Same st st') (hg : Good P gl T ops o r st) : Good P gl T ops o r st' :=
  good_congr (fun t _ => h.2 t) (fun p _ => by rw [h.1]) (fun q _ => by rw [h.1]) hg
def Disj (r r' : Rc) : Prop := (∀ p ∈ r.d.map (·.1), p ∉ r'.rd ∧ p ∉ r'.d.map (·.1)) ∧ ∀ p ∈ r.rd, p ∉ r'.d.map (·.1)
section
variable {ops : Array Oper} {o o' : Oper} {r r' : Rc} {st : St}
theorem good_ap (ha : o.apart ops o' = true) (hd : Disj r r') : Good P gl T ops o' r' (ap o r st) ↔ Good P gl T ops o' r' st := by
  obtain ⟨a1, a2, a3⟩ := Oper.apart_spec ha
  have e1 : ∀ t ∈ o'.looksAt ops, (ap o r st).get t = st.get t := fun t ht => by
    rw [get_ap, if_neg]; intro e; exact a1 t e ht
  have e2 : ∀ p ∈ r'.rd, getOb (ap o r st).h p = getOb st.h p := fun p hp => by
    rw [ap_h, getOb_setAll]; intro hm; exact (hd.1 p hm).1 hp
  have e3 : ∀ p ∈ r'.d.map (·.1), getOb (ap o r st).h p = getOb st.h p := fun p hp => by
    rw [ap_h, getOb_setAll]; intro hm; exact (hd.1 p hm).2 hp
  exact ⟨good_congr e1 e2 e3, good_congr (fun t ht => (e1 t ht).symm) (fun t ht => (e2 t ht).symm) (fun t ht => (e3 t ht).symm)⟩
theorem good_ap' (ha : o.apart ops o' = true) (hd : Disj r r') (h : Good P gl T ops o r st) : Good P gl T ops o r (ap o' r' st) := by
  obtain ⟨a1, a2, a3⟩ := Oper.apart_spec ha
  refine good_congr (fun t ht => ?_) (fun p hp => ?_) (fun p hp => ?_) h
  · rw [get_ap, if_neg]; intro e; exact a3 t e ht
  · rw [ap_h, getOb_setAll]; exact hd.2 p hp
  · rw [ap_h, getOb_setAll]; exact (hd.1 p hp).2
theorem ap_comm (ha : o.apart ops o' = true) (hd : Disj r r') : Same (ap o' r' (ap o r st)) (ap o r (ap o' r' st)) := by
  obtain ⟨a1, a2, a3⟩ := Oper.apart_spec ha
  refine ⟨by simp only [ap_h]; exact setAll_comm _ _ _ fun p hp => (hd.1 p hp).2, fun t => ?_⟩
  simp only [get_ap]
  by_cases e1 : o.dst = some t
  · have : o'.dst ≠ some t := a2 t e1
    simp [e1, this]
  · simp [e1]
end
def anyA (P : Program) (gl : Gl) (T : Tab) (ops : Array Oper) (R : Nat → Rc) (stF : St) : Nat → Array Bool → St → Prop
  | 0, listed, st => Region.ready .any ops listed = [] ∧ Same st stF
  | fuel + 1, listed, st => (Region.ready .any ops listed = [] → Same st stF) ∧
      ∀ i ∈ Region.ready .any ops listed, ∀ o, ops[i]? = some o → Good P gl T ops o (R i) st ∧ anyA P gl T ops R stF fuel (listed.setIfInBounds i true) (ap o (R i) st)
section
variable {ops : Array Oper} {R : Nat → Rc} {stF : St}
theorem anyA_same : ∀ (fuel : Nat) (listed : Array Bool) (st st' : St), Same st st' → anyA P gl T ops R stF fuel listed st → anyA P gl T ops R stF fuel listed st'
  | 0, listed, st, st', h, H => ⟨H.1, h.symm.trans H.2⟩
  | fuel + 1, listed, st, st', h, H => ⟨fun e => h.symm.trans (H.1 e), fun i hi o ho => ⟨h.good (H.2 i hi o ho).1, anyA_same fuel _ _ _ (h.ap o (R i)) (H.2 i hi o ho).2⟩⟩
def WOK (ops : Array Oper) (W : Nat → Nat → Bool) : Prop := ∀ j o, ops[j]? = some o → ∀ k, W j k = true → ∃ e ∈ o.after, Region.binds .any e = true ∧ (e.on = k ∨ W e.on k = true)
def Closed (W : Nat → Nat → Bool) (listed : Array Bool) : Prop := ∀ k, listed.getD k false = true → ∀ i, W k i = true → listed.getD i false = true
theorem closed_set {W : Nat → Nat → Bool} (hW : WOK ops W) {listed : Array Bool} (hc : Closed W listed) {j : Nat} (hj : j ∈ Region.ready .any ops listed) : Closed W (listed.setIfInBounds j true) := by
  obtain ⟨_, o, ho, hall⟩ := mem_ready.1 hj
  intro k hk i hi
  by_cases hkj : k = j
  · subst hkj
    obtain ⟨e, he, hb, hh⟩ := hW k o ho i hi
    have h1 := hall e he hb
    rcases hh with rfl | hh
    · exact getD_set_true h1
    · exact getD_set_true (hc _ h1 _ hh)
  · rw [getD_set_ne false (Ne.symm hkj)] at hk
    exact getD_set_true (hc k hk i hi)
theorem not_waits {W : Nat → Nat → Bool} (hW : WOK ops W) {listed : Array Bool} (hc : Closed W listed) {i j : Nat} (hi : i ∈ Region.ready .any ops listed) (hj : j ∈ Region.ready .any ops listed) : W j i = false := by
  cases hw : W j i with
  | false => rfl
  | true =>
    obtain ⟨_, o, ho, hall⟩ := mem_ready.1 hj
    obtain ⟨e, he, hb, hh⟩ := hW j o ho i hw
    have h1 := hall e he hb
    have h2 : listed.getD i false = true := by
      rcases hh with rfl | hh
      · exact h1
      · exact hc _ h1 _ hh
    have h0 := (mem_ready.1 hi).1
    rcases Nat.lt_or_ge i listed.size with h' | h'
    · simp [h'] at h0 h2; rw [h0] at h2; cases h2
    · simp [Array.getElem?_eq_none h'] at h2
theorem anyA_first {W : Nat → Nat → Bool} (hW : WOK ops W) {i : Nat} {oi : Oper} (hi : ops[i]? = some oi) :
    ∀ (fuel : Nat) (listed : Array Bool) (st : St), Closed W listed →
      (∀ j oj, ops[j]? = some oj → j ≠ i → listed.getD j true = false → (∀ e ∈ oj.after, Region.binds .any e = true → e.on ≠ i) → oi.apart ops oj = true) →
      (∀ j oj, ops[j]? = some oj → j ≠ i → listed.getD j true = false → W j i = false → Disj (R i) (R j)) →
      i ∈ Region.ready .any ops listed → Good P gl T ops oi (R i) st →
      anyA P gl T ops R stF fuel (listed.setIfInBounds i true) (ap oi (R i) st) → anyA P gl T ops R stF (fuel + 1) listed st := by
  intro fuel
  induction fuel with
  | zero =>
    intro listed st hc hap hdj hr hg H
    refine ⟨fun h => (by rw [h] at hr; cases hr), fun j hj oj hoj => ?_⟩
    by_cases hji : j = i
    · subst hji
      rw [hi] at hoj; cases hoj
      exact ⟨hg, H⟩
    · have := ready_mono hj hji
      rw [H.1] at this
      cases this
  | succ fuel ih =>
    intro listed st hc hap hdj hr hg H
    refine ⟨fun h => (by rw [h] at hr; cases hr), fun j hj oj hoj => ?_⟩
    by_cases hji : j = i
    · subst hji
      rw [hi] at hoj; cases hoj
      exact ⟨hg, H⟩
    · have hjun := (mem_ready.1 hj).1
      have h1 := H.2 j (ready_mono hj hji) oj hoj
      have hnot : ∀ e ∈ oj.after, Region.binds .any e = true → e.on ≠ i := fun e he hb heq => by
        obtain ⟨_, o, ho, hall⟩ := mem_ready.1 hj
        rw [hoj] at ho; cases ho
        have h1 := hall e he hb
        have h0 := (mem_ready.1 hr).1
        rw [heq] at h1
        rcases Nat.lt_or_ge i listed.size with h' | h'
        · simp [h'] at h0 h1; rw [h0] at h1; cases h1
        · simp [Array.getElem?_eq_none h'] at h1
      have ha := hap j oj hoj hji hjun hnot
      have hd := hdj j oj hoj hji hjun (not_waits hW hc hr hj)
      have unl : ∀ k, (listed.setIfInBounds j true).getD k true = false → listed.getD k true = false := fun k hk => by
        by_cases hjk : j = k
        · subst hjk; exact hjun
        · rw [getD_set_ne true hjk] at hk; exact hk
      refine ⟨(good_ap ha hd).1 h1.1, ih (listed.setIfInBounds j true) _ (closed_set hW hc hj) (fun k ok hk hki hun hno => hap k ok hk hki (unl k hun) hno) (fun k ok hk hki hun hw => hdj k ok hk hki (unl k hun) hw)
        (ready_mono hr (Ne.symm hji)) (good_ap' ha hd hg) ?_⟩
      rw [Array.setIfInBounds_comm _ _ hji]
      exact anyA_same _ _ _ _ (ap_comm ha hd) h1.2
def RunX (P : Program) (gl : Gl) (T : Tab) (ops : Array Oper) (bs : List Nat) (stF : St) : List Oper → List Rc → St → List Rc → Prop
  | [], _, st, _ => st = stF
  | _ :: _, _, _, [] => False
  | o :: l, rs0, st, r :: rs => Good P gl T ops o r st ∧ clear (bs.getD rs0.length 0) r.note 0 (rs0.map Rc.note) = true ∧ RunX P gl T ops bs stF l (rs0 ++ [r]) (ap o r st) rs
theorem clear_nil (b : Nat) : ∀ (i : Nat) (ns : List Note), clear b ⟨[], []⟩ i ns = true
  | _, [] => rfl
  | i, x :: ns => by
    have hd : ∀ l : List Nat, disj l [] = true := fun l => by
      induction l with
      | nil => rfl
      | cons p r ih => simp [disj, ih]
    simp [clear, hd, clear_nil b (i + 1) ns]
theorem vdraw_run (ops : Array Oper) (bs : List Nat) (K : St → Prop) : ∀ (l : List Oper) (rs0 : List Rc) (st : St), vdraw P gl T ops bs K l (rs0.map Rc.note) st →
    ∃ rs stF, rs.length = l.length ∧ K stF ∧ RunX P gl T ops bs stF l rs0 st rs
  | [], rs0, st, h => ⟨[], st, rfl, h, rfl⟩
  | o :: l, rs0, st, h => by
    simp only [vdraw] at h
    rcases vgd_cases h with ⟨hg, h⟩ | ⟨hg, h⟩
    · obtain ⟨v, d, h1, h2⟩ := vop_ang _ h
      simp only [chk_iff, List.length_map] at h1
      obtain ⟨hc, h1⟩ := h1
      have hn : rs0.map Rc.note ++ [⟨reads (st.ev gl) (getOb st.h) o.op, d.map (·.1)⟩] = (rs0 ++ [(⟨true, v, d, reads (st.ev gl) (getOb st.h) o.op, st.h.length⟩ : Rc)]).map Rc.note := by simp [Rc.note]
      rw [hn] at h1
      obtain ⟨rs, stF, k1, k2, k3⟩ := vdraw_run ops bs K l _ _ h1
      exact ⟨⟨true, v, d, reads (st.ev gl) (getOb st.h) o.op, st.h.length⟩ :: rs, stF, by simp [k1], k2, ⟨⟨hg, rfl, h2 _ ⟨rfl, rfl⟩, fun q ob _ hq => getOb_ge _ _ hq⟩, hc, k3⟩⟩
    · have hn : rs0.map Rc.note ++ [⟨[], []⟩] = (rs0 ++ [(⟨false, .u, [], [], 0⟩ : Rc)]).map Rc.note := by simp [Rc.note]
      rw [hn] at h
      obtain ⟨rs, stF, k1, k2, k3⟩ := vdraw_run ops bs K l _ _ h
      exact ⟨⟨false, .u, [], [], 0⟩ :: rs, stF, by simp [k1], k2, ⟨⟨hg, rfl, rfl, rfl⟩, clear_nil _ _ _, k3⟩⟩
theorem disj_ok : ∀ {a b : List Nat}, disj a b = true → ∀ p ∈ a, p ∉ b
  | [], _, _, p, hp => by simp at hp
  | q :: a, b, h, p, hp => by
    simp only [disj, Bool.and_eq_true, Bool.not_eq_true'] at h
    simp only [List.mem_cons] at hp
    rcases hp with rfl | hp
    · intro hm
      rw [List.any_eq_false] at h
      exact h.1 p hm (by simp)
    · exact disj_ok h.2 p hp
theorem clear_get {b : Nat} {m : Note} : ∀ {i : Nat} {ns : List Note}, clear b m i ns = true → ∀ {t : Nat} {x : Note}, ns[t]? = some x → b.testBit (i + t) = false → disj x.wr m.rd = true ∧ disj x.wr m.wr = true ∧ disj x.rd m.wr = true
  | i, [], _, t, x, hx, _ => by simp at hx
  | i, y :: ns, h, t, x, hx, hb => by
    simp only [clear, Bool.and_eq_true, Bool.or_eq_true] at h
    cases t with
    | zero =>
      simp at hx; subst hx
      rcases h.1 with h | h
      · rw [Nat.add_zero] at hb; rw [hb] at h; cases h
      · exact ⟨h.1.1, h.1.2, h.2⟩
    | succ t => exact clear_get h.2 (by simpa using hx) (by rw [← hb]; congr 1; omega)
theorem runX_disj {bs : List Nat} : ∀ (l : List Oper) (rs0 : List Rc) (st : St) (rs : List Rc), RunX P gl T ops bs stF l rs0 st rs → rs.length = l.length → ∀ j r, rs[j]? = some r → ∀ i x, (rs0 ++ rs)[i]? = some x → i < rs0.length + j →
    (bs.getD (rs0.length + j) 0).testBit i = false → Disj x r
  | [], rs0, st, rs, _, hl, j, r, hj, _, _, _, _, _ => by
    have : rs = [] := List.eq_nil_of_length_eq_zero hl
    subst this; simp at hj
  | o :: l, rs0, st, [], h, _, _, _, hj, _, _, _, _, _ => by simp at hj
  | o :: l, rs0, st, r0 :: rs, h, hl, j, r, hj, i, x, hx, hi, hb => by
    obtain ⟨_, hc, h⟩ := h
    cases j with
    | zero =>
      simp at hj; subst hj
      have hx' : (rs0.map Rc.note)[i]? = some x.note := by
        rw [List.getElem?_append_left (by omega)] at hx
        rw [List.getElem?_map, hx]; rfl
      obtain ⟨d1, d2, d3⟩ := clear_get hc hx' (by simpa using hb)
      exact ⟨fun p hp => ⟨disj_ok d1 p hp, disj_ok d2 p hp⟩, fun p hp => disj_ok d3 p hp⟩
    | succ j =>
      refine runX_disj l (rs0 ++ [r0]) _ rs h (by simpa using hl) j r (by simpa using hj) i x (by simpa using hx) (by simp; omega) ?_
      rw [← hb]; congr 2; simp; omega
theorem fold_bit (bs : List Nat) (k : Nat) : ∀ (l : List Edge) (s : Nat), (l.foldl (fun s e => match Region.binds .any e with | true => s ||| 2 ^ e.on ||| bs.getD e.on 0 | false => s) s).testBit k = true →
    s.testBit k = true ∨ ∃ e ∈ l, Region.binds .any e = true ∧ (e.on = k ∨ (bs.getD e.on 0).testBit k = true)
  | [], s, h => .inl h
  | e :: l, s, h => by
    simp only [List.foldl_cons] at h
    rcases fold_bit bs k l _ h with h | ⟨e', he, h⟩
    · cases hb : Region.binds .any e with
      | false => rw [hb] at h; exact .inl h
      | true =>
        rw [hb] at h
        simp only [Nat.testBit_or, Bool.or_eq_true, Nat.testBit_two_pow, decide_eq_true_eq] at h
        rcases h with (h | h) | h
        · exact .inl h
        · exact .inr ⟨e, by simp, hb, .inl h⟩
        · exact .inr ⟨e, by simp, hb, .inr h⟩
    · exact .inr ⟨e', by simp [he], h⟩
theorem bef_ok {bs : List Nat} (h : befOK ops bs = true) : WOK ops fun j k => (bs.getD j 0).testBit k := by
  intro j o ho k hk
  unfold befOK at h
  rw [List.all_eq_true] at h
  have hj := h j (List.mem_range.2 (Array.getElem?_eq_some_iff.1 ho).1)
  rw [ho] at hj
  simp only at hj
  have := Nat.eq_of_beq_eq_true hj
  dsimp only at hk
  rw [this] at hk
  rcases fold_bit bs k _ 0 hk with h | ⟨e, he, hb, h⟩
  · simp at h
  · exact ⟨e, by simpa using he, hb, h⟩
theorem anyA_lex {bs : List Nat} (hW : WOK ops fun j k => (bs.getD j 0).testBit k) (tot : List Rc) (htot : tot.length = ops.size) (hdis : ∀ j r, tot[j]? = some r → ∀ i x, tot[i]? = some x → i < j → (bs.getD j 0).testBit i = false → Disj x r) :
    ∀ (l : List Oper) (rs0 rs : List Rc) (listed : Array Bool) (st : St), (∀ j, l[j]? = ops[rs0.length + j]?) → Region.lexFrom .any ops l.length rs0.length listed = true → tot = rs0 ++ rs →
      RunX P gl T ops bs stF l rs0 st rs → rs.length = l.length → Closed (fun j k => (bs.getD j 0).testBit k) listed → (∀ j, j < rs0.length → listed.getD j true = true) →
      anyA P gl T ops (fun i => tot.getD i default) stF l.length listed st
  | [], rs0, rs, listed, st, hl, hB, ht, hR, hlen, hc, hlt => ⟨by simpa [Region.lexFrom] using hB, by rw [hR]; exact ⟨rfl, fun _ => rfl⟩⟩
  | o :: l, rs0, [], listed, st, hl, hB, ht, hR, hlen, hc, hlt => by simp at hlen
  | o :: l, rs0, r :: rs, listed, st, hl, hB, ht, hR, hlen, hc, hlt => by
    have h0 : ops[rs0.length]? = some o := by simpa using (hl 0).symm
    simp only [List.length_cons, Region.lexFrom, Bool.and_eq_true] at hB
    obtain ⟨⟨hr, hf⟩, hB'⟩ := hB
    have hr : rs0.length ∈ Region.ready .any ops listed := by simpa using hr
    obtain ⟨hg, hcl, hR'⟩ := hR
    have hRk : tot.getD rs0.length default = r := by rw [ht]; simp
    have htk : tot[rs0.length]? = some r := by rw [ht]; simp
    refine anyA_first hW h0 l.length listed st hc (Region.free_spec h0 hf) (fun j oj hoj hne hun hw => ?_) hr (by rw [hRk]; exact hg) ?_
    · have hj : rs0.length < j := by
        rcases Nat.lt_or_ge rs0.length j with h | h
        · exact h
        · rcases Nat.lt_or_ge j rs0.length with h' | h'
          · rw [hlt j h'] at hun; cases hun
          · omega
      have hjs : j < tot.length := by rw [htot]; exact (Array.getElem?_eq_some_iff.1 hoj).1
      have htj : tot[j]? = some (tot.getD j default) := by rw [List.getD_eq_getElem?_getD, List.getElem?_eq_getElem hjs]; rfl
      rw [hRk]
      exact hdis j _ htj rs0.length r htk hj hw
    · rw [hRk]
      refine anyA_lex hW tot htot hdis l (rs0 ++ [r]) rs _ _ (fun j => by have := hl (j + 1); simp only [List.length_append, List.length_singleton]; rw [← show rs0.length + (j + 1) = rs0.length + 1 + j by omega]; simpa using this) (by simpa using hB') (by simp [ht]) hR' (by simpa using hlen) (closed_set hW hc hr) (fun j hj => ?_)
      simp only [List.length_append, List.length_singleton] at hj
      by_cases hjk : rs0.length = j
      · subst hjk
        have : rs0.length < listed.size := by
          have := (mem_ready.1 hr).1
          rcases Nat.lt_or_ge rs0.length listed.size with h' | h'
          · exact h'
          · simp [Array.getElem?_eq_none h'] at this
        simp [this]
      · rw [getD_set_ne true hjk]; exact hlt j (by omega)
theorem Rel.same {S : Nat → Prop} {H : Hp} {st st' : St} {a : Act} {w : World} (h : Same st st') (hr : Rel gl B S H st a w) : Rel gl B S H st' a w :=
  ⟨hr.hh.trans h.1, hr.wd, fun t => by rw [← h.2 t]; exact hr.tm t, hr.pin⟩
theorem any_ok (hT : TOK P T) {N : Nat} {ds : List Deferred} {Q : Exit → Act → World → Prop} (hD : ∀ (i : Nat) (o : Oper), ops[i]? = some o → dstB N o = true)
    (hQ : ∀ S H a w, Rel gl B S H stF a w → a.tmps.size = N → a.defers = ds → Q .normal a w) :
    ∀ (fuel : Nat) (listed : Array Bool) (st : St) (S : Nat → Prop) (H : Hp) (a : Act) (w : World), Rel gl B S H st a w → a.tmps.size = N → a.defers = ds → anyA P gl T ops R stF fuel listed st → wpAny P .any ops Q fuel listed a w
  | 0, listed, st, S, H, a, w, hr, hN, hds, h => ⟨h.1, hQ S H a w (hr.same h.2) hN hds⟩
  | fuel + 1, listed, st, S, H, a, w, hr, hN, hds, h => by
    refine ⟨fun e => hQ S H a w (hr.same (h.1 e)) hN hds, fun i hi => ?_⟩
    obtain ⟨_, o, ho, _⟩ := mem_ready.1 hi
    obtain ⟨⟨hg, hgood⟩, hrest⟩ := h.2 i hi o ho
    have hd : ∀ d, o.dst = some d → d < a.tmps.size := by rw [hN]; exact dstB_ok (hD i o ho)
    unfold wpOp
    rw [ho]
    simp only
    rw [vguard_ok hr hg]
    cases hran : (R i).ran with
    | true =>
      rw [hran] at hgood
      simp only [if_true] at hgood ⊢
      obtain ⟨k1, k2, k3⟩ := hgood
      left
      rw [← hr.hh] at k2 k3
      refine ok_op hT hr.opn (n := (R i).n) (K := fun v d => v = (R i).v ∧ d = (R i).d) (fun x d hk q ob hq hn => k3 q ob (by rw [← hk.2]; exact hq) hn) k2 _ _ fun x d u S' H' w' hk he hx => ?_
      obtain ⟨rfl, rfl⟩ := hk
      exact any_ok hT hD hQ fuel _ _ S' H' _ w' (hr.upd he hd hx) (by rw [put_size]; exact hN) (by rw [put_defers]; exact hds) hrest
    | false =>
      rw [hran] at hgood
      simp only [Bool.false_eq_true, if_false] at hgood ⊢
      obtain ⟨k1, k2, k3⟩ := hgood
      have e : ap o (R i) st = st.put o.dst .u := by unfold ap St.upd; rw [k1, k2]; rfl
      rw [e] at hrest
      exact any_ok hT hD hQ fuel _ _ S H _ w (rel_skip hr hd) (by rw [put_size]; exact hN) (by rw [put_defers]; exact hds) hrest
end
theorem draw_ok (hT : TOK P T) (hm : P.follows .mixedOrders = true) {ops : Array Oper} {bs : List Nat} {id : Nat} {N : Nat} {ds : List Deferred} {Q : Ex → St → Prop} {st : St} {S : Nat → Prop} {H : Hp} {a : Act} {w : World}
    (hr : Rel gl B S H st a w) (hN : a.tmps.size = N) (hds : a.defers = ds) (hD : ∀ o ∈ ops.toList, dstB N o = true) (hB : Region.lexB .any ops = true) (hbs : befOK ops bs = true)
    (h : vdraw P gl T ops bs (Q .nrm) ops.toList [] st) : (Code.region id ops true).wp P (Post gl B N ds Q) a w := by
  simp only [Region.lexB, Bool.and_eq_true] at hB
  obtain ⟨rs, stF, k1, k2, k3⟩ := vdraw_run ops bs (Q .nrm) ops.toList [] st h
  have hW := bef_ok hbs
  have hd := runX_disj ops.toList [] st rs k3 k1
  have hA := anyA_lex (P := P) (gl := gl) (T := T) (stF := stF) hW rs (by simpa using k1) (fun j r hj i x hx hij hb => hd j r hj i x (by simpa using hx) (by simpa using hij) (by simpa using hb)) ops.toList [] rs (Array.replicate ops.size false) st (by simp) (by simpa using hB.2) rfl k3 k1
    (fun k hk => by
      rcases Nat.lt_or_ge k ops.size with h | h
      · simp [h] at hk
      · simp [Array.getElem?_eq_none (by simpa using h : (Array.replicate ops.size false).size ≤ k)] at hk) (by simp)
  refine wp_region_any hm ?_
  have hE := eff_world hr.wd (w' := { w with drawn := w.drawn + 1 }) rfl rfl rfl (Nat.le_refl _) (fun _ _ => rfl)
  have hr' : Rel gl B S H st a { w with drawn := w.drawn + 1 } := ⟨hr.hh, hE.wd, fun t => RepV.later hE.later _ _ (hr.tm t), hr.pin⟩
  have := any_ok (R := fun i => rs.getD i default) hT (N := N) (ds := ds) (Q := Post gl B N ds Q) (fun i o ho => hD o (by
    have := Array.mem_of_getElem? ho; simpa using this)) (fun S H a w hr h1 h2 => ⟨h1, h2, S, H, stF, hr, k2⟩) ops.toList.length (Array.replicate ops.size false) st S H a _ hr' hN hds hA
  simpa using this
end Go.V
namespace Go.V
open Go.RowKit
variable {P : Program} {gl : Gl} {T : Tab} {B : Base} {S : Nat → Prop} {H : Hp} {a : Act} {w : World}
theorem get_keep (st : St) (ps : List Nat) (h : List Ob) (t : Nat) : ∀ live : List Nat, lk .j (keepT st ps live) t = ren ps (st.get t) ∨ lk .j (keepT st ps live) t = .j
  | [] => .inr rfl
  | k :: r => by
    unfold keepT lk
    cases hb : Nat.beq k t with
    | true => left; simp only; rw [Nat.eq_of_beq_eq_true hb]
    | false => exact get_keep st ps h t r
theorem pinOK_get : ∀ {k : Nat} {ps : List Nat} {i : Nat}, pinOK k ps i = true → ∀ {j : Nat}, j < k → ps[j]? = some (i + j)
  | 0, _, _, _, j, hj => by omega
  | k + 1, [], _, h, _, _ => by simp [pinOK] at h
  | k + 1, p :: ps, i, h, j, hj => by
    simp only [pinOK, Bool.and_eq_true] at h
    cases j with
    | zero => simp [Nat.eq_of_beq_eq_true h.1]
    | succ j =>
      have := pinOK_get h.2 (j := j) (by omega)
      rw [List.getElem?_cons_succ, this]; congr 1; omega
theorem rel_keep {st : St} (hr : Rel gl B S H st a w) (live : List Nat) {ps : List Nat} (hpp : (nodup ps && pinOK B.pins.length ps 0) = true) : Rel gl B S (H.keep ps) (st.keep live ps) a w := by
  obtain ⟨hp, hpin⟩ := Bool.and_eq_true_iff.1 hpp
  refine ⟨by simp [Hp.keep, St.keep, hr.hh], ⟨ok_keep hr.wd.ok hp, hr.wd.kept, hr.wd.gl, hr.wd.bs, hr.wd.sup⟩, ?_, ?_⟩
  · intro t
    show RepV S (H.keep ps) w (lk .j (keepT st ps live) t) _
    rcases get_keep st ps [] t live with e | e <;> rw [e]
    · exact ren_rep ps _ _ (hr.tm t)
    · simp [RepV]
  · intro i q hi
    have hlt : i < B.pins.length := (List.getElem?_eq_some_iff.1 hi).1
    have := pinOK_get hpin hlt
    rw [Nat.zero_add] at this
    obtain ⟨k1, k2, k3⟩ := keep_at (H := H) this
    rw [k1, k2, k3]
    exact hr.pin i q hi
def dstC (N : Nat) : Code → Bool
  | .region _ ops _ => ops.toList.all (dstB N)
  | .seq a b => dstC N a && dstC N b
  | .cond _ a b => dstC N a && dstC N b
  | .block _ c => dstC N c
  | .loop c => dstC N c
  | _ => true
theorem least (p : Nat → Prop) (h : ∃ n, p n) : ∃ n, p n ∧ ∀ m, p m → n ≤ m := by
  obtain ⟨n, hn⟩ := h
  induction n using Nat.strongRecOn with
  | _ n ih =>
    by_cases hm : ∃ m, m < n ∧ p m
    · obtain ⟨m, hlt, hp⟩ := hm
      exact ih m hlt hp
    · exact ⟨n, hn, fun m hp => by
        rcases Nat.lt_or_ge m n with h | h
        · exact absurd ⟨m, h, hp⟩ hm
        · exact h⟩
open Classical in
theorem wp_loop_rel {c : Code} {Q : Exit → Act → World → Prop} (I : Nat → Act → World → Prop) (h0 : ∃ m, I m a w)
    (round : ∀ m a w, I m a w → c.wp P (Exit.then (fun a' w' => ∃ m', m' < m ∧ I m' a' w') Q) a w) : (Code.loop c).wp P Q a w := by
  refine wp_loop (I := fun a w => ∃ m, I m a w) (μ := fun a w => if h : ∃ m, I m a w then (least _ h).choose else 0) h0 fun a w h => ?_
  have hs := (least _ h).choose_spec
  refine wp_mono (round _ a w hs.1) fun e a' w' he => ?_
  cases e <;> first | exact he | skip
  obtain ⟨m', hlt, hI⟩ := he
  refine ⟨⟨m', hI⟩, ?_⟩
  have hex : ∃ m, I m a' w' := ⟨m', hI⟩
  simp only [dif_pos h, dif_pos hex]
  exact Nat.lt_of_le_of_lt ((least _ hex).choose_spec.2 m' hI) hlt
theorem vgd_mono {ops : Array Oper} {o : Oper} {st : St} {X Y X' Y' : Prop} (h : vgd ops o st X Y) (hx : X → X') (hy : Y → Y') : vgd ops o st X' Y' := by
  unfold vgd at h ⊢
  generalize o.guard = g at h ⊢
  cases g with
  | none => exact hx h
  | some q =>
    obtain ⟨i, b⟩ := q
    dsimp only at h ⊢
    generalize (ops[i]?).bind (·.dst) = d at h ⊢
    cases d with
    | none => exact h
    | some d =>
      dsimp only at h ⊢
      generalize st.get d = x at h ⊢
      cases x with
      | bool c => cases b <;> cases c <;> first | exact hx h | exact hy h
      | u => exact hy h
      | _ => exact h
theorem vdraw_of (ops : Array Oper) (bs : List Nat) (K : St → Prop) : ∀ (l : List Oper) (i : Nat) (ns : List Note) (st : St), i = ns.length → vdraw2 P gl T ops bs K l i ns st → vdraw P gl T ops bs K l ns st
  | [], i, ns, st, _, h => h
  | o :: r, i, ns, st, hi, h => by
    subst hi
    simp only [vdraw2, vtwo, fN_eq, fV_eq, fD_eq, fNs_eq, fL_eq] at h
    simp only [vdraw]
    refine vgd_mono h (fun h => ?_) fun h => vdraw_of ops bs K r _ _ _ (by simp) h
    obtain ⟨v, d, h1, h2⟩ := vop_ang _ h
    refine h2 _ ?_
    rw [chk_iff] at h1 ⊢
    exact ⟨h1.1, vdraw_of ops bs K r _ _ _ (by simp) h1.2⟩
theorem vwp_ok (hT : TOK P T) (hm : P.follows .mixedOrders = true) {N : Nat} {ds : List Deferred} {np : Nat} (hnp : B.pins.length = np) : ∀ (c : Code) (Q : Ex → St → Prop) (st : St) (S : Nat → Prop) (H : Hp) (a : Act) (w : World),
    Rel gl B S H st a w → a.tmps.size = N → a.defers = ds → dstC N c = true → vwp P gl T np c Q st → c.wp P (Post gl B N ds Q) a w
  | .skip, Q, st, S, H, a, w, hr, hN, hds, hD, h => wp_skip ⟨hN, hds, S, H, st, hr, h⟩
  | .region id ops false, Q, st, S, H, a, w, hr, hN, hds, hD, h =>
    wp_region_list (region_ok hT ops ops.toList st S H a w hr hN hds (fun o ho => List.all_eq_true.1 hD o ho) h)
  | .region id ops true, Q, st, S, H, a, w, hr, hN, hds, hD, h => by
    obtain ⟨hB, bs, hbs, h⟩ := h
    have h := vdraw_of ops bs (Q .nrm) ops.toList 0 [] st rfl h
    exact draw_ok hT hm hr hN hds (fun o ho => List.all_eq_true.1 hD o ho) hB hbs h
  | .seq x y, Q, st, S, H, a, w, hr, hN, hds, hD, h => by
    simp only [dstC, Bool.and_eq_true] at hD
    refine wp_seq (wp_mono (vwp_ok hT hm hnp x _ st S H a w hr hN hds hD.1 h) fun e a' w' he => ?_)
    obtain ⟨h1, h2, S', H', st', hr', he⟩ := he
    cases e with
    | normal => exact vwp_ok hT hm hnp y Q st' S' H' a' w' hr' h1 h2 hD.2 he
    | exit id => exact ⟨h1, h2, S', H', st', hr', he⟩
    | ret => exact ⟨h1, h2, S', H', st', hr', he⟩
    | _ => exact he.elim
  | .cond c x y, Q, st, S, H, a, w, hr, hN, hds, hD, h => by
    simp only [dstC, Bool.and_eq_true] at hD
    simp only [vwp] at h
    have hc := hr.opn.ev c
    split at h
    · rename_i t e; rw [e] at hc; simp only [RepV] at hc
      cases t with
      | true => exact wp_cond_true hc (vwp_ok hT hm hnp x Q st S H a w hr hN hds hD.1 h)
      | false => exact wp_cond_false hc (vwp_ok hT hm hnp y Q st S H a w hr hN hds hD.2 h)
    · exact h.elim
  | .block id c, Q, st, S, H, a, w, hr, hN, hds, hD, h => by
    refine wp_block (wp_mono (vwp_ok hT hm hnp c _ st S H a w hr hN hds hD h) fun e a' w' he => ?_)
    obtain ⟨h1, h2, S', H', st', hr', he⟩ := he
    cases e with
    | normal => exact ⟨h1, h2, S', H', st', hr', he⟩
    | exit k =>
      simp only [exBlock] at he
      unfold Exit.inBlock
      simp only
      split at he
      · rename_i hb
        rw [if_pos (Nat.eq_of_beq_eq_true hb)]
        exact ⟨h1, h2, S', H', st', hr', he⟩
      · rename_i hb
        rw [if_neg (Nat.ne_of_beq_eq_false hb)]
        exact ⟨h1, h2, S', H', st', hr', he⟩
    | ret => exact ⟨h1, h2, S', H', st', hr', he⟩
    | _ => exact he.elim
  | .loop c, Q, st, S, H, a, w, hr, hN, hds, hD, h => by
    obtain ⟨live, ps, I, hp, ⟨m, hI⟩, hround⟩ := h
    refine wp_loop_rel (fun m a w => a.tmps.size = N ∧ a.defers = ds ∧ ∃ S H st, Rel gl B S H st a w ∧ I m st) ⟨m, hN, hds, S, _, _, rel_keep hr live (hnp ▸ hp), hI⟩ fun m a w hJ => ?_
    obtain ⟨hN, hds, S, H, st, hr, hI⟩ := hJ
    refine wp_mono (vwp_ok hT hm hnp c _ st S H a w hr hN hds hD (hround m st hI)) fun e a' w' he => ?_
    obtain ⟨h1, h2, S', H', st', hr', he⟩ := he
    cases e with
    | normal =>
      obtain ⟨ps', m', hp', hlt, hI'⟩ := he
      exact ⟨m', hlt, h1, h2, S', _, _, rel_keep hr' live (hnp ▸ hp'), hI'⟩
    | exit id => exact ⟨h1, h2, S', H', st', hr', he⟩
    | ret => exact ⟨h1, h2, S', H', st', hr', he⟩
    | _ => exact he.elim
  | .exit id, Q, st, S, H, a, w, hr, hN, hds, hD, h => wp_exit ⟨hN, hds, S, H, st, hr, h⟩
  | .ret, Q, st, S, H, a, w, hr, hN, hds, hD, h => wp_ret ⟨hN, hds, S, H, st, hr, h⟩
  | .label _, Q, st, S, H, a, w, hr, hN, hds, hD, h => h.elim
  | .goto _, Q, st, S, H, a, w, hr, hN, hds, hD, h => h.elim
  | .rangeFunc _ _ _ _, Q, st, S, H, a, w, hr, hN, hds, hD, h => h.elim
  | .scope _, Q, st, S, H, a, w, hr, hN, hds, hD, h => h.elim
  | .refuse _, Q, st, S, H, a, w, hr, hN, hds, hD, h => h.elim
end Go.V
namespace Go.V
open Go.RowKit
variable {P : Program} {gl : Gl} {T : Tab} {B : Base} {S : Nat → Prop} {H : Hp} {a : Act} {w : World}
def vrets (T : Tab) (st : St) : List ResultVar → (List AV → Prop) → Prop
  | [], K => K []
  | .tmp t :: r, K => vrets T st r fun xs => K (st.get t :: xs)
  | .cell a t :: r, K => vload (T.ti t) (getOb st.h) (st.get a) fun x => vrets T st r fun xs => K (x :: xs)
mutual
def vexp (G : Nat → Ob) : AV → (AV → List Nat → List Nat → Prop) → Prop
  | .own p off len, K => match G p with
    | .row true _ sz es => K (.ro sz ((es.drop off).take len)) [] []
    | .row false e sz es => match off with
      | 0 => (len = es.length ∧ K (.fr e sz es) [p] []) ∨ K (.fr e sz (es.take len)) [p] [] ∨ K (.ro sz (es.take len)) [] [p]
      | off + 1 => K (.ro sz ((es.drop (off + 1)).take len)) [] [p]
    | _ => K .j [] []
  | .agg cs, K => vexpL G cs fun ys ps qs => K (.agg ys) ps qs
  | .tup _, _ => False
  | .fr _ _ _, _ => False
  | .bptr _ _, K => K .j [] []
  | .ptr _ _ _, K => K .j [] []
  | .map _, K => K .j [] []
  | .fn _ _, K => K .j [] []
  | .iface t _, K => K (.iface t .j) [] []
  | .ro sz es, K => K (.ro sz es) [] []
  | .rp cs, K => K (.rp cs) [] []
  | .j, K => K .j [] []
  | .u, K => K .u [] []
  | .int k n, K => K (.int k n) [] []
  | .bool b, K => K (.bool b) [] []
  | .str s, K => K (.str s) [] []
  | .nils, K => K .nils [] []
  | .nili, K => K .nili [] []
def vexpL (G : Nat → Ob) : List AV → (List AV → List Nat → List Nat → Prop) → Prop
  | [], K => K [] [] []
  | x :: xs, K => vexp G x fun y ps qs => vexpL G xs fun ys ps' qs' => K (y :: ys) (ps ++ ps') (qs ++ qs')
end
def one : List AV → AV
  | [y] => y
  | ys => .tup ys
def vout (T : Tab) (rs : List ResultVar) (R : AV → Prop) (st : St) : Prop :=
  vrets T st rs fun xs => vexpL (getOb st.h) xs fun ys ps qs => chk (nodup ps && disj ps qs) (R (one ys))
def vend (T : Tab) (rs : List ResultVar) (R : AV → Prop) : Ex → St → Prop
  | .ex _, _ => False
  | _, st => vout T rs R st
def entry : Nat → List AV → List (Nat × AV)
  | _, [] => []
  | i, x :: xs => (i, x) :: entry (i + 1) xs
def resOf (tmps : Array Value) : ResultVar → Sem Value
  | .tmp t => pure (tmps.getD t undef)
  | .cell x t => do loadVar t (← asAddr (tmps.getD x undef))
theorem vrets_ok (hT : TOK P T) {st : St} (hr : Rel gl B S H st a w) : ∀ (rs : List ResultVar) (K : List AV → Prop), vrets T st rs K →
    ∃ xs vs, K xs ∧ RepL S H w xs vs ∧ (rs.mapM (resOf a.tmps)).run P w = .ok vs w
  | [], K, h => ⟨[], [], h, by simp [RepL], by simp⟩
  | .tmp t :: r, K, h => by
    obtain ⟨xs, vs, h1, h2, h3⟩ := vrets_ok hT hr r _ h
    refine ⟨_, a.tmps.getD t undef :: vs, h1, by simp only [RepL]; exact ⟨_, _, rfl, hr.tm t, h2⟩, ?_⟩
    rw [List.mapM_cons, Sem.run_bind]
    simp only [resOf, Sem.run_pure, Result.andThen_ok, Sem.run_bind, h3]
  | .cell x t :: r, K, h => by
    simp only [vrets] at h
    rw [← hr.hh] at h
    obtain ⟨y, u, h1, h2, h3⟩ := vload_ok hT hr.wd.ok t h (hr.tm x)
    obtain ⟨xs, vs, k1, k2, k3⟩ := vrets_ok hT hr r _ h3
    refine ⟨_, u :: vs, k1, by simp only [RepL]; exact ⟨_, _, rfl, h2, k2⟩, ?_⟩
    have hl : (resOf a.tmps (.cell x t)).run P w = .ok u w := by
      simp only [Instr.loadAt] at h1
      simp only [resOf]
      generalize a.tmps.getD x undef = v at h1 ⊢
      cases v with
      | pointer p =>
        cases p with
        | none => simp [Instr.sureAddr] at h1
        | some ad => simpa [Instr.sureAddr, asAddr] using h1
      | _ => simp [Instr.sureAddr] at h1
    rw [List.mapM_cons, Sem.run_bind]
    simp only [hl, Result.andThen_ok, Sem.run_bind, k3, Sem.run_pure]
structure Exp (S : Nat → Prop) (H : Hp) (b0 : Nat) (w : World) (ps qs : List Nat) (Rep : (Nat → Prop) → List (Nat × Nat) → Prop) : Prop where
  fr : ∀ p ∈ ps, ∃ e sz es, getOb H.h p = .row false e sz es
  ro : ∀ q ∈ qs, ∃ e sz es, getOb H.h q = .row false e sz es
  rep : ∀ S' : Nat → Prop, (∀ b, S b → S' b) → (∀ q ∈ qs, S' (H.β q)) → Rep S' (ps.map fun p => (H.β p, H.κ p))
theorem exp_plain {b0 : Nat} {x : AV} {v : Value} (hx : ∀ (S' : Nat → Prop) b F, RepF S' b w x v F ↔ F = [] ∧ RepV S' H0 w x v) (h : ∀ S', (∀ b, S b → S' b) → RepV S' H0 w x v) : Exp S H b0 w [] [] fun S' F => RepF S' b0 w x v F :=
  ⟨by simp, by simp, fun S' h1 _ => (hx _ _ _).2 ⟨rfl, h S' h1⟩⟩
theorem later_sub {S' : Nat → Prop} (h : ∀ b, S b → S' b) : Later S H0 w S' H0 w := ⟨fun b hb _ => ⟨h b hb, rfl⟩, Nat.le_refl _, fun p hp => absurd (at_H0 p) hp⟩
theorem exp_own {b0 : Nat} (hok : HeapOK S B H w) (hb0 : ∀ p s, H.at p = some (some s) → ¬ S (H.β p) → b0 ≤ H.β p) {p off len : Nat} {v : Value} (h : RepV S H w (.own p off len) v) {K : AV → List Nat → List Nat → Prop} (hk : vexp (getOb H.h) (.own p off len) K) :
    ∃ y ps qs, K y ps qs ∧ Exp S H b0 w ps qs fun S' F => RepF S' b0 w y v F := by
  simp only [vexp] at hk
  split at hk
  · rename_i e sz es ho
    have hS : S (H.β p) := (hok.row p _ _ _ _ ho).2.2 rfl
    exact ⟨_, _, _, hk, exp_plain (fun S' b F => by simp only [RepF]) fun S' h1 => own_rep hok ⟨h1, fun q hq fz e sz es _ => by simp at hq; subst hq; exact h1 _ hS⟩ ho h⟩
  · rename_i e sz es ho
    have ro : ∀ off', off' = off → Exp S H b0 w [] [p] fun S' F => RepF S' b0 w (.ro sz ((es.drop off').take len)) v F := fun off' ho' => by
      subst ho'
      refine ⟨by simp, fun q hq => ?_, fun S' h1 h2 => ?_⟩
      · simp at hq; subst hq; exact ⟨_, _, _, ho⟩
      · simp only [RepF]
        exact ⟨rfl, own_rep hok ⟨h1, fun q hq fz e sz es _ => by simp at hq; subst hq; exact h2 _ (by simp)⟩ ho h⟩
    split at hk
    · rcases hk with ⟨hl, hk⟩ | hk | hk
      · refine ⟨_, _, _, hk, fun q hq => ?_, by simp, fun S' h1 _ => ?_⟩
        · simp at hq; subst hq; exact ⟨_, _, _, ho⟩
        · have hat := at_row ho
          simp only [RepV] at h
          obtain ⟨hv, hle⟩ := h.2.2 _ hat
          simp only [RepF]
          refine ⟨H.β p, H.κ p, rfl, ?_, hb0 p _ hat (fun hs => by have := (hok.row p _ _ _ _ ho).2.1 hs; simp at this), (hok.row p _ _ _ _ ho).1.later (later_sub h1) rfl⟩
          rw [hv]; simp [hl]
      · refine ⟨_, _, _, hk, fun q hq => ?_, by simp, fun S' h1 _ => ?_⟩
        · simp at hq; subst hq; exact ⟨_, _, _, ho⟩
        · have hat := at_row ho
          simp only [RepV] at h
          obtain ⟨hv, hle⟩ := h.2.2 _ hat
          simp only [RepF]
          refine ⟨H.β p, H.κ p, rfl, ?_, hb0 p _ hat (fun hs => by have := (hok.row p _ _ _ _ ho).2.1 hs; simp at this), ((hok.row p _ _ _ _ ho).1.take len).later (later_sub h1) rfl⟩
          simp only [Nat.zero_add] at hle
          rw [hv]; simp; omega
      · exact ⟨_, _, _, hk, by simpa using ro 0 rfl⟩
    · exact ⟨_, _, _, hk, ro _ rfl⟩
  · exact ⟨_, _, _, hk, exp_plain (fun S' b F => by simp only [RepF]) fun S' h1 => by simp [RepV]⟩
mutual
theorem vexp_ok {S : Nat → Prop} {H : Hp} {w : World} {b0 : Nat} (hok : HeapOK S B H w) (hb0 : ∀ p s, H.at p = some (some s) → ¬ S (H.β p) → b0 ≤ H.β p) : ∀ (x : AV) (v : Value) (K : AV → List Nat → List Nat → Prop), RepV S H w x v → vexp (getOb H.h) x K →
    ∃ y ps qs, K y ps qs ∧ Exp S H b0 w ps qs fun S' F => RepF S' b0 w y v F
  | .own p off len, v, K, h, hk => exp_own hok hb0 h hk
  | .agg cs, v, K, h, hk => by
    simp only [RepV, vexp] at h hk
    obtain ⟨vs, rfl, h1, hl⟩ := h
    obtain ⟨ys, ps, qs, k1, k2⟩ := vexpL_ok hok hb0 cs vs _ hl hk
    exact ⟨_, ps, qs, k1, k2.fr, k2.ro, fun S' h2 h3 => by simp only [RepF]; exact ⟨vs, rfl, h1, k2.rep S' h2 h3⟩⟩
  | .tup _, v, K, h, hk => hk.elim
  | .fr _ _ _, v, K, h, hk => hk.elim
  | .bptr _ _, v, K, h, hk | .ptr _ _ _, v, K, h, hk | .map _, v, K, h, hk | .fn _ _, v, K, h, hk => ⟨_, _, _, hk, exp_plain (fun S' b F => by simp only [RepF]) fun S' h1 => by simp [RepV]⟩
  | .iface t x, v, K, h, hk => ⟨_, _, _, hk, exp_plain (fun S' b F => by simp only [RepF]) fun S' h1 => by
      simp only [RepV] at h ⊢; obtain ⟨u, e, _⟩ := h; exact ⟨u, e, trivial⟩⟩
  | .ro sz es, v, K, h, hk => ⟨_, _, _, hk, exp_plain (fun S' b F => by simp only [RepF]) fun S' h1 => RepV.later (later_sub h1) (.ro sz es) v (by simpa [RepV] using h)⟩
  | .rp cs, v, K, h, hk => ⟨_, _, _, hk, exp_plain (fun S' b F => by simp only [RepF]) fun S' h1 => RepV.later (later_sub h1) (.rp cs) v (by simpa [RepV] using h)⟩
  | .j, v, K, h, hk | .u, v, K, h, hk | .int _ _, v, K, h, hk | .bool _, v, K, h, hk | .str _, v, K, h, hk | .nils, v, K, h, hk | .nili, v, K, h, hk => ⟨_, _, _, hk, exp_plain (fun S' b F => by simp only [RepF]) fun S' h1 => by simpa [RepV] using h⟩
theorem vexpL_ok {S : Nat → Prop} {H : Hp} {w : World} {b0 : Nat} (hok : HeapOK S B H w) (hb0 : ∀ p s, H.at p = some (some s) → ¬ S (H.β p) → b0 ≤ H.β p) : ∀ (xs : List AV) (vs : List Value) (K : List AV → List Nat → List Nat → Prop), RepL S H w xs vs → vexpL (getOb H.h) xs K →
    ∃ ys ps qs, K ys ps qs ∧ Exp S H b0 w ps qs fun S' F => RepFL S' b0 w ys vs F
  | [], vs, K, h, hk => by
    simp only [RepL] at h
    exact ⟨_, _, _, hk, by simp, by simp, fun S' _ _ => by simp [RepFL, h]⟩
  | x :: xs, vs, K, h, hk => by
    simp only [RepL, vexpL] at h hk
    obtain ⟨v, r, rfl, h1, h2⟩ := h
    obtain ⟨y, ps, qs, hk, k2⟩ := vexp_ok hok hb0 x v _ h1 hk
    obtain ⟨ys, ps', qs', hk, l2⟩ := vexpL_ok hok hb0 xs r _ h2 hk
    refine ⟨_, _, _, hk, fun p hp => (List.mem_append.1 hp).elim (k2.fr p) (l2.fr p), fun p hp => (List.mem_append.1 hp).elim (k2.ro p) (l2.ro p), fun S' h3 h4 => ?_⟩
    simp only [RepFL, List.map_append]
    exact ⟨v, r, _, _, rfl, rfl, k2.rep S' h3 fun q hq => h4 q (List.mem_append_left _ hq), l2.rep S' h3 fun q hq => h4 q (List.mem_append_right _ hq)⟩
end
theorem entry_get : ∀ (args : List AV) (vs : List Value) (i t : Nat) (arr : List Value), RepL S H w args vs → (∀ j v, vs[j]? = some v → arr[i + j]? = some v) → RepV S H w (lk .j (entry i args) t) ((arr.toArray).getD t undef)
  | [], vs, i, t, arr, _, _ => by simp [entry, lk, RepV]
  | x :: xs, vs, i, t, arr, h, ha => by
    simp only [RepL] at h
    obtain ⟨v, r, rfl, h1, h2⟩ := h
    unfold entry lk
    cases hb : Nat.beq i t with
    | true =>
      have e := Nat.eq_of_beq_eq_true hb
      subst e
      have := ha 0 v rfl
      simp only [Nat.add_zero] at this
      simp only [Array.getD_eq_getD_getElem?, List.getElem?_toArray, this]
      exact h1
    | false =>
      refine entry_get xs r (i + 1) t arr h2 fun j v hj => ?_
      have := ha (j + 1) v (by simpa using hj)
      rw [show i + 1 + j = i + (j + 1) by omega]; exact this
theorem vout_ok (hT : TOK P T) {fn : Func} {st : St} (hr : Rel gl B S H st a w) (hM : ∀ b, ¬ B.M b) (hS0 : ∀ b, B.S0 b → b < B.w0.heap.size) {R : AV → Prop} (h : vout T fn.results.toList R st) :
    ∃ x v, (results fn a.tmps).run P w = .ok v w ∧ R x ∧ ResOK B.S0 B.w0.heap.size w x v := by
  unfold vout at h
  obtain ⟨xs, vs, h1, h2, h3⟩ := vrets_ok hT hr _ _ h
  rw [← hr.hh] at h1
  have mine : ∀ p s, H.at p = some (some s) → ¬ S (H.β p) → B.w0.heap.size ≤ H.β p := fun p s hp hns => (hr.wd.ok.mine p s hp hns).elim id fun h => absurd h (hM _)
  obtain ⟨ys, ps, qs, hk, hE⟩ := vexpL_ok hr.wd.ok mine xs vs _ h2 h1
  simp only [chk_iff, Bool.and_eq_true] at hk
  obtain ⟨⟨hnd, hdj⟩, hR⟩ := hk
  have hS : ∀ b, (S b ∨ ∃ q ∈ qs, b = H.β q) → b < w.heap.size ∧ (B.S0 b ∨ B.w0.heap.size ≤ b) := by
    rintro b (hb | ⟨q, hq, rfl⟩)
    · refine ⟨hr.wd.ok.sb b hb, ?_⟩
      rcases hr.wd.bs b hb with h | h | h
      · exact .inl h
      · exact .inr h
      · exact absurd h (hM b)
    · obtain ⟨e, sz, es, ho⟩ := hE.ro q hq
      exact ⟨live_lt hr.wd.ok (at_row ho), .inr (mine q _ (at_row ho) (fun hs => by have := (hr.wd.ok.row q _ _ _ _ ho).2.1 hs; simp at this))⟩
  have hrep := hE.rep (fun b => S b ∨ ∃ q ∈ qs, b = H.β q) (fun b hb => .inl hb) (fun q hq => .inr ⟨q, hq, rfl⟩)
  have hnodup : ((ps.map fun p => (H.β p, H.κ p)).map (·.1)).Nodup := by
    rw [List.map_map]
    have : ∀ l : List Nat, nodup l = true → (∀ p ∈ l, (∃ s, H.at p = some (some s)) ∧ ¬ S (H.β p)) → (l.map (Prod.fst ∘ fun p => (H.β p, H.κ p))).Nodup := fun l => by
      induction l with
      | nil => simp
      | cons p l ih =>
        intro hn hl
        simp only [nodup, Bool.and_eq_true, Bool.not_eq_true'] at hn
        simp only [List.map_cons, List.nodup_cons, List.mem_map]
        refine ⟨?_, ih hn.2 fun q hq => hl q (by simp [hq])⟩
        rintro ⟨q, hq, e⟩
        obtain ⟨⟨s, hs⟩, _⟩ := hl p (by simp)
        obtain ⟨⟨s', hs'⟩, hnS⟩ := hl q (by simp [hq])
        have := hr.wd.ok.inj q p _ _ hs' hs e hnS
        subst this
        have := List.any_eq_false.1 hn.1 q hq
        simp at this
    exact this ps hnd fun p hp => by obtain ⟨e, sz, es, ho⟩ := hE.fr p hp; exact ⟨⟨_, at_row ho⟩, fun hs => by have := (hr.wd.ok.row p _ _ _ _ ho).2.1 hs; simp at this⟩
  have hres : ∀ x v, RepF (fun b => S b ∨ ∃ q ∈ qs, b = H.β q) B.w0.heap.size w x v (ps.map fun p => (H.β p, H.κ p)) → ResOK B.S0 B.w0.heap.size w x v := fun x v hx =>
    ⟨_, _, hx, hnodup, fun q hq => by
      obtain ⟨p, hp, rfl⟩ := List.mem_map.1 hq
      obtain ⟨e, sz, es, ho⟩ := hE.fr p hp
      rintro (hs | ⟨q, hq, e'⟩)
      · have := (hr.wd.ok.row p _ _ _ _ ho).2.1 hs; simp at this
      · obtain ⟨e2, sz2, es2, ho2⟩ := hE.ro q hq
        have := hr.wd.ok.inj p q _ _ (at_row ho) (at_row ho2) e' fun hs => by have := (hr.wd.ok.row p _ _ _ _ ho).2.1 hs; simp at this
        subst this
        exact disj_ok hdj p hp hq, hS⟩
  have hrun : (results fn a.tmps).run P w = .ok (if h : vs.length = 1 then vs[0] else .tuple vs.toArray) w := by
    have hm : (fn.results.mapM (resOf a.tmps)).run P w = .ok vs.toArray w := by
      rw [← Array.toArray_toList (xs := fn.results), List.mapM_toArray]
      simp [h3]
    have he : results fn a.tmps = (do let vs ← fn.results.mapM (resOf a.tmps); pure (if h : vs.size = 1 then vs[0] else .tuple vs)) := by
      unfold results
      congr 1
    rw [he, Sem.run_bind, hm]
    simp
  have hly := RepL.length h2
  refine ⟨one ys, _, hrun, hR, ?_⟩
  by_cases hl : vs.length = 1
  · rw [dif_pos hl]
    obtain ⟨v, rfl⟩ := List.length_eq_one_iff.1 hl
    cases ys with
    | nil => simp [RepFL] at hrep
    | cons y ys =>
      simp only [RepFL] at hrep
      obtain ⟨v', r, F1, F2, e1, e2, h5, h6⟩ := hrep
      simp only [List.cons.injEq] at e1
      obtain ⟨rfl, rfl⟩ := e1
      cases ys with
      | nil =>
        simp only [RepFL] at h6
        rw [h6.2, List.append_nil] at e2
        exact hres y v (by rw [e2]; exact h5)
      | cons z zs => simp [RepFL] at h6
  · rw [dif_neg hl]
    refine hres _ _ ?_
    have : one ys = .tup ys := by
      cases ys with
      | nil => rfl
      | cons y ys => cases ys with
        | nil =>
          simp only [RepFL] at hrep
          obtain ⟨v', r, F1, F2, rfl, e2, h5, rfl, _⟩ := hrep
          simp at hl
        | cons z zs => rfl
    rw [this]
    simp only [RepF]
    exact ⟨vs, rfl, hrep⟩
theorem vcall_of {f : FuncId} {fn : Func} {c : Code} {args : List AV} {R : AV → Prop} (hT : TOK P T) (hm : P.follows .mixedOrders = true) (hf : P.funcs[f]? = some fn) (hb : fn.body = some c)
    (hname : (fn.name == "runtime.NumGoroutine") = false) (hd : dstC fn.ntmps c = true) (hn : Nat.ble args.length fn.ntmps = true)
    (h : vwp P gl T 0 c (vend T fn.results.toList R) ⟨entry 0 args, []⟩) : VCall P gl f args R := by
  intro S w vs hS hgl hargs
  have hlen := RepL.length hargs
  have hn := Nat.le_of_ble_eq_true hn
  refine .inl ⟨?_, ?_⟩
  · have hne : fn.name ≠ "runtime.NumGoroutine" := by simpa using hname
    simp [callFunc, hf, hne, hb]
  · refine calls_of_wp hf hb ?_
    let B : Base := ⟨w, fun _ => False, S, []⟩
    have hwd : Wd gl B S H0 w := ⟨⟨hS, fun p fz e sz es ho => by simp [H0, getOb] at ho, fun p t cs ho => by simp [H0, getOb] at ho, fun p l ho => by simp [H0, getOb] at ho, fun p q s s' hp => (by rw [at_H0] at hp; cases hp), fun p x k ho => by simp [H0, getOb] at ho, fun p s hp => (by rw [at_H0] at hp; cases hp)⟩,
      ⟨rfl, rfl, rfl, Nat.le_refl _, fun _ _ _ => rfl⟩, hgl, fun b hb => .inl hb, fun b hb => hb⟩
    have hrel : Rel gl B S H0 ⟨entry 0 args, []⟩ { tmps := vs.toArray ++ Array.replicate (fn.ntmps - vs.toArray.size) undef, defers := [] } w := by
      refine ⟨rfl, hwd, fun t => ?_, fun i q hi => by simp [B] at hi⟩
      have e : vs.toArray ++ Array.replicate (fn.ntmps - vs.toArray.size) undef = (vs ++ List.replicate (fn.ntmps - vs.length) undef).toArray := by
        simp
      show RepV S H0 w (lk .j (entry 0 args) t) _
      rw [e]
      exact entry_get args vs 0 t _ hargs fun j v hj => by
        rw [Nat.zero_add, List.getElem?_append_left (List.getElem?_eq_some_iff.1 hj).1]; exact hj
    have hw := vwp_ok hT hm (N := fn.ntmps) (ds := []) (B := B) (np := 0) rfl c _ _ S H0 _ w hrel (by simp; omega) rfl hd h
    refine wp_mono hw fun e a' w' he => ?_
    obtain ⟨h1, h2, S', H', st', hr', he⟩ := he
    have fin : vout T fn.results.toList R st' → a'.defers = [] ∧ ∃ v, (results fn a'.tmps).run P w' = .ok v w' ∧ ∃ v', Ending.returned v = .returned v' ∧ ∃ x, R x ∧ ResOK S w.heap.size w' x v' ∧ Below w.heap.size w w' := fun ho => by
      obtain ⟨x, v, k1, k2, k3⟩ := vout_ok hT hr' (fun _ h => h) hS ho
      exact ⟨h2, v, k1, v, rfl, x, k2, k3, hr'.wd.kept.os, hr'.wd.kept.tape, hr'.wd.kept.output, hr'.wd.kept.size, fun k hk => hr'.wd.kept.block k hk fun h => h⟩
    cases e with
    | normal => exact fin he
    | ret => exact fin he
    | exit id => exact he.elim
    | _ => exact he.elim
theorem results_run {fn : Func} {vs : List Value} (h3 : (fn.results.toList.mapM (resOf a.tmps)).run P w = .ok vs w) : (results fn a.tmps).run P w = .ok (if h : vs.length = 1 then vs[0] else .tuple vs.toArray) w := by
  have hm : (fn.results.mapM (resOf a.tmps)).run P w = .ok vs.toArray w := by
    rw [← Array.toArray_toList (xs := fn.results), List.mapM_toArray]
    simp [h3]
  have he : results fn a.tmps = (do let vs ← fn.results.mapM (resOf a.tmps); pure (if h : vs.size = 1 then vs[0] else .tuple vs)) := by
    unfold results
    congr 1
  rw [he, Sem.run_bind, hm]
  simp
theorem one_rep {xs : List AV} {vs : List Value} (h : RepL S H w xs vs) : RepV S H w (one xs) (if h : vs.length = 1 then vs[0] else .tuple vs.toArray) := by
  have hl := RepL.length h
  cases xs with
  | nil =>
    simp only [RepL] at h; subst h
    simp [one, RepV, RepL]
  | cons x xs =>
    cases xs with
    | nil =>
      simp only [RepL] at h
      obtain ⟨v, r, rfl, hv, rfl⟩ := h
      simpa [one] using hv
    | cons y ys =>
      rw [dif_neg (by rw [hl]; simp)]
      simp only [one, RepV]
      exact ⟨vs, rfl, h⟩
def voutH (T : Tab) (rs : List ResultVar) (np : Nat) (R : AV → List Ob → Prop) (st : St) : Prop :=
  vrets T st rs fun xs => ∃ ps, (nodup ps && pinOK np ps 0) = true ∧ R (ren ps (one xs)) (keepH st.h ps ps)
def vendH (T : Tab) (rs : List ResultVar) (np : Nat) (R : AV → List Ob → Prop) : Ex → St → Prop
  | .ex _, _ => False
  | _, st => voutH T rs np R st
theorem vcallH_of {f : FuncId} {fn : Func} {c : Code} {args : List AV} {obs : List Ob} {R : AV → List Ob → Prop} (hT : TOK P T) (hm : P.follows .mixedOrders = true) (hf : P.funcs[f]? = some fn) (hb : fn.body = some c)
    (hname : (fn.name == "runtime.NumGoroutine") = false) (hd : dstC fn.ntmps c = true) (hn : Nat.ble args.length fn.ntmps = true)
    (h : vwp P gl T obs.length c (vendH T fn.results.toList obs.length R) ⟨entry 0 args, obs⟩) : VCallH P gl f args obs R := by
  intro S H w vs hh hlive hok hgl hargs
  have hlen := RepL.length hargs
  have hn := Nat.le_of_ble_eq_true hn
  refine .inl ⟨?_, ?_⟩
  · have hne : fn.name ≠ "runtime.NumGoroutine" := by simpa using hname
    simp [callFunc, hf, hne, hb]
  · refine calls_of_wp hf hb ?_
    have hpl : (baseH S H w).pins.length = obs.length := by simp [baseH, hh]
    have hwd : Wd gl (baseH S H w) S H w := ⟨hok, ⟨rfl, rfl, rfl, Nat.le_refl _, fun _ _ _ => rfl⟩, hgl, fun b hb => .inl hb, fun b hb => hb⟩
    have hrel : Rel gl (baseH S H w) S H ⟨entry 0 args, obs⟩ { tmps := vs.toArray ++ Array.replicate (fn.ntmps - vs.toArray.size) undef, defers := [] } w := by
      refine ⟨hh, hwd, fun t => ?_, fun i q hi => ?_⟩
      · have e : vs.toArray ++ Array.replicate (fn.ntmps - vs.toArray.size) undef = (vs ++ List.replicate (fn.ntmps - vs.length) undef).toArray := by
          simp
        show RepV S H w (lk .j (entry 0 args) t) _
        rw [e]
        exact entry_get args vs 0 t _ hargs fun j v hj => by
          rw [Nat.zero_add, List.getElem?_append_left (List.getElem?_eq_some_iff.1 hj).1]; exact hj
      · have hlt : i < obs.length := by
          have := (List.getElem?_eq_some_iff.1 hi).1
          rw [hpl] at this; exact this
        have e : q = (H.β i, H.κ i, H.at i) := by
          simp only [baseH, List.getElem?_map] at hi
          rw [List.getElem?_range (by rw [hh]; exact hlt)] at hi
          simpa using hi.symm
        subst e
        exact ⟨hlive i hlt, fun s hs => ⟨rfl, rfl, hs⟩⟩
    have hw := vwp_ok hT hm (N := fn.ntmps) (ds := []) (B := baseH S H w) hpl c _ _ S H _ w hrel (by simp; omega) rfl hd h
    refine wp_mono hw fun e a' w' he => ?_
    obtain ⟨h1, h2, S', H', st', hr', he⟩ := he
    have fin : voutH T fn.results.toList obs.length R st' → a'.defers = [] ∧ ∃ v, (results fn a'.tmps).run P w' = .ok v w' ∧ ∃ v', Ending.returned v = .returned v' ∧ ∃ x S' H', R x H'.h ∧ HeapOK S' (baseH S H w) H' w' ∧ Kept (baseH S H w) w' ∧ (∀ b, S b → S' b) ∧ (∀ b, S' b → S b ∨ w.heap.size ≤ b ∨ blocksOf S H b) ∧
        Pin (baseH S H w) H' ∧ RepV S' H' w' x v' := fun ho => by
      obtain ⟨xs, vs', k1, k2, k3⟩ := vrets_ok hT hr' _ _ ho
      obtain ⟨ps, hp, hR⟩ := k1
      have hk := rel_keep hr' [] (by rw [hpl]; exact hp)
      refine ⟨h2, _, results_run k3, _, rfl, _, S', H'.keep ps, ?_, hk.wd.ok, hk.wd.kept, ?_, fun b hb => hk.wd.bs b hb, hk.pin, ren_rep ps _ _ (one_rep k2)⟩
      · rw [← hr'.hh] at hR; exact hR
      · exact fun b hb => hk.wd.sup b hb
    cases e with
    | normal => exact fin he
    | ret => exact fin he
    | exit id => exact he.elim
    | _ => exact he.elim
end Go.V
namespace Go.N
def isDig (c : UInt8) : Bool := decide (48 ≤ c.toNat) && decide (c.toNat ≤ 57)
def dval (l : List UInt8) : Nat := l.foldl (fun r c => 10 * r + (c.toNat - 48)) 0
def dg (n : Nat) : UInt8 := UInt8.ofNat (48 + n)
def dec (n : Nat) : List UInt8 := if n < 10 then [dg n] else dec (n / 10) ++ [dg (n % 10)]
def isNat (l : List UInt8) : Bool := l.all isDig && (decide (l.length = 1) || (decide (1 < l.length) && !decide (l[0]? = some 48)))
def decB (n : Nat) : ByteArray := ⟨(dec n).toArray⟩
theorem toList_mk (l : List UInt8) : (⟨l.toArray⟩ : ByteArray).toList = l := by rw [ByteArray.toList_eq]
theorem mk_toList (s : ByteArray) : (⟨s.toList.toArray⟩ : ByteArray) = s := by
  rw [ByteArray.toList_eq]
theorem len_toList (s : ByteArray) : s.toList.length = s.size := by rw [ByteArray.toList_eq]; rfl
theorem toList_inj {s t : ByteArray} (h : s.toList = t.toList) : s = t := by rw [← mk_toList s, ← mk_toList t, h]
theorem decB_toList (n : Nat) : (decB n).toList = dec n := toList_mk _
theorem dg_toNat {n : Nat} (h : n < 10) : (dg n).toNat = 48 + n := by unfold dg; simp; omega
theorem dg_dig {n : Nat} (h : n < 10) : isDig (dg n) = true := by simp [isDig, dg_toNat h]; omega
theorem dg_of {c : UInt8} (h : isDig c = true) : dg (c.toNat - 48) = c := by
  simp only [isDig, Bool.and_eq_true, decide_eq_true_eq] at h
  unfold dg
  rw [show 48 + (c.toNat - 48) = c.toNat by omega]; simp
theorem dval_append (l : List UInt8) (c : UInt8) : dval (l ++ [c]) = 10 * dval l + (c.toNat - 48) := by simp [dval]
theorem foldl_dval (l : List UInt8) (r : Nat) : l.foldl (fun r c => 10 * r + (c.toNat - 48)) r = r * 10 ^ l.length + dval l := by
  induction l generalizing r with
  | nil => simp [dval]
  | cons c l ih =>
    simp only [List.foldl_cons, dval, List.length_cons]
    rw [ih, ih (10 * 0 + _)]
    rw [Nat.pow_succ, Nat.add_mul]
    have : 10 * r * 10 ^ l.length = r * (10 ^ l.length * 10) := by rw [Nat.mul_comm 10 r, Nat.mul_assoc, Nat.mul_comm 10]
    simp only [Nat.mul_zero, Nat.zero_add, this]
    omega
theorem dval_app (a b : List UInt8) : dval (a ++ b) = dval a * 10 ^ b.length + dval b := by
  unfold dval; rw [List.foldl_append]; exact foldl_dval b _
theorem dval_cons (c : UInt8) (l : List UInt8) : dval (c :: l) = (c.toNat - 48) * 10 ^ l.length + dval l := by
  have := dval_app [c] l
  simpa [dval] using this
theorem dval_lt : ∀ {l : List UInt8}, l.all isDig = true → dval l < 10 ^ l.length
  | [], _ => by simp [dval]
  | c :: l, h => by
    simp only [List.all_cons, Bool.and_eq_true] at h
    have h1 := dval_lt h.2
    have h2 := h.1
    simp only [isDig, Bool.and_eq_true, decide_eq_true_eq] at h2
    rw [dval_cons, List.length_cons, Nat.pow_succ]
    have : (c.toNat - 48) * 10 ^ l.length ≤ 9 * 10 ^ l.length := Nat.mul_le_mul_right _ (by omega)
    omega
theorem dec_lt {n : Nat} (h : n < 10) : dec n = [dg n] := by rw [dec, if_pos h]
theorem dec_ge {n : Nat} (h : ¬ n < 10) : dec n = dec (n / 10) ++ [dg (n % 10)] := by rw [dec, if_neg h]
theorem dval_dec (n : Nat) : dval (dec n) = n := by
  induction n using Nat.strongRecOn with
  | _ n ih =>
    by_cases h : n < 10
    · rw [dec_lt h]; simp [dval, dg_toNat h]
    · rw [dec_ge h, dval_append, ih _ (by omega), dg_toNat (by omega)]; omega
theorem dec_dig (n : Nat) : (dec n).all isDig = true := by
  induction n using Nat.strongRecOn with
  | _ n ih =>
    by_cases h : n < 10
    · rw [dec_lt h]; simp [dg_dig h]
    · rw [dec_ge h, List.all_append, ih _ (by omega)]; simp [dg_dig (show n % 10 < 10 by omega)]
theorem dec_ne (n : Nat) : dec n ≠ [] := by
  by_cases h : n < 10
  · rw [dec_lt h]; simp
  · rw [dec_ge h]; simp
theorem dec_head (n : Nat) (h : n ≠ 0) : (dec n)[0]? ≠ some 48 := by
  induction n using Nat.strongRecOn with
  | _ n ih =>
    by_cases hn : n < 10
    · rw [dec_lt hn]
      simp only [List.getElem?_cons_zero, ne_eq, Option.some.injEq]
      intro e
      have := dg_toNat hn
      rw [e] at this
      simp at this; omega
    · rw [dec_ge hn]
      have := ih (n / 10) (by omega) (by omega)
      have hl := dec_ne (n / 10)
      rw [List.getElem?_append_left (List.length_pos_iff.2 hl)]; exact this
theorem isNat_dec (n : Nat) : isNat (dec n) = true := by
  simp only [isNat, dec_dig, Bool.true_and, Bool.or_eq_true, decide_eq_true_eq, Bool.and_eq_true, Bool.not_eq_true', decide_eq_false_iff_not]
  by_cases h : n < 10
  · left; rw [dec_lt h]; rfl
  · right
    refine ⟨?_, dec_head n (by omega)⟩
    rw [dec_ge h]
    have := List.length_pos_iff.2 (dec_ne (n / 10))
    simp; omega
theorem dec_dval : ∀ (n : Nat) (l : List UInt8), l.length = n → isNat l = true → dec (dval l) = l := by
  intro n
  induction n using Nat.strongRecOn with
  | _ n ih =>
    intro l hl h
    simp only [isNat, Bool.and_eq_true, Bool.or_eq_true, decide_eq_true_eq, Bool.not_eq_true', decide_eq_false_iff_not] at h
    obtain ⟨hd, h⟩ := h
    rcases List.eq_nil_or_concat l with rfl | ⟨r, c, rfl⟩
    · simp at h
    · rw [List.concat_eq_append] at *
      rw [List.all_append] at hd
      simp only [Bool.and_eq_true, List.all_cons, List.all_nil, Bool.and_true] at hd
      have hc := hd.2
      have hc' := hc
      simp only [isDig, Bool.and_eq_true, decide_eq_true_eq] at hc'
      rw [dval_append]
      cases r with
      | nil =>
        rw [dec_lt (by simp [dval]; omega)]
        simp [dval, dg_of hc]
      | cons d r =>
        have hd0 : d ≠ 48 := by
          rcases h with h | h
          · simp at h
          · intro e; exact h.2 (by simp [e])
        have hdd := hd.1
        simp only [List.all_cons, Bool.and_eq_true] at hdd
        have hd1 := hdd.1
        simp only [isDig, Bool.and_eq_true, decide_eq_true_eq] at hd1
        have hdn : d.toNat ≠ 48 := fun e => hd0 (UInt8.toNat_inj.1 (by simpa using e))
        have hpos : 1 ≤ dval (d :: r) := by
          rw [dval_cons]
          have : 0 < 10 ^ r.length := Nat.pow_pos (by omega)
          have : 1 ≤ (d.toNat - 48) * 10 ^ r.length := Nat.mul_pos (by omega) this
          omega
        rw [dec_ge (by omega)]
        rw [show (10 * dval (d :: r) + (c.toNat - 48)) / 10 = dval (d :: r) by omega, show (10 * dval (d :: r) + (c.toNat - 48)) % 10 = c.toNat - 48 by omega, dg_of hc]
        rw [ih (d :: r).length (by simp at hl ⊢; omega) (d :: r) rfl]
        simp only [isNat, hd.1, Bool.true_and, Bool.or_eq_true, decide_eq_true_eq, Bool.and_eq_true, Bool.not_eq_true', decide_eq_false_iff_not]
        cases r with
        | nil => left; rfl
        | cons e r => right; exact ⟨by simp, by simpa using hd0⟩
theorem dec_inj {a b : Nat} (h : dec a = dec b) : a = b := by rw [← dval_dec a, h, dval_dec]
theorem decB_inj {a b : Nat} : decB a = decB b ↔ a = b := ⟨fun h => dec_inj (by rw [← decB_toList, h, decB_toList]), fun h => h ▸ rfl⟩
theorem isNat_decB {s : ByteArray} (h : isNat s.toList = true) : s = decB (dval s.toList) := toList_inj (by rw [decB_toList]; exact (dec_dval _ _ rfl h).symm)
theorem dec_length_lt (n k : Nat) (hk : 0 < k) : (dec n).length ≤ k ↔ n < 10 ^ k := by
  induction n using Nat.strongRecOn generalizing k with
  | _ n ih =>
    by_cases h : n < 10
    · rw [dec_lt h]
      have : 10 ^ 1 ≤ 10 ^ k := Nat.pow_le_pow_right (by omega) hk
      simp; constructor
      · intro _; omega
      · intro _; omega
    · rw [dec_ge h]
      obtain ⟨j, rfl⟩ : ∃ j, k = j + 1 := ⟨k - 1, by omega⟩
      cases j with
      | zero =>
        have := List.length_pos_iff.2 (dec_ne (n / 10))
        simp only [List.length_append, List.length_cons, List.length_nil]; omega
      | succ j =>
        have := ih (n / 10) (by omega) (j + 1) (by omega)
        simp only [List.length_append, List.length_cons, List.length_nil]
        rw [show (dec (n / 10)).length + (0 + 1) ≤ j + 1 + 1 ↔ (dec (n / 10)).length ≤ j + 1 by omega, this, Nat.div_lt_iff_lt_mul (by omega), ← Nat.pow_succ]
def BB : Nat := 4294967296
def lval : List Nat → Nat
  | [] => 0
  | x :: l => x + BB * lval l
def lim (n : Nat) : List Nat := if n = 0 then [] else n % BB :: lim (n / BB)
decreasing_by exact Nat.div_lt_self (by omega) (by simp [BB])
def small (l : List Nat) : Prop := ∀ x ∈ l, x < BB
theorem lim_zero : lim 0 = [] := by rw [lim]; simp
theorem lim_pos {n : Nat} (h : n ≠ 0) : lim n = n % BB :: lim (n / BB) := by rw [lim, if_neg h]
theorem lval_lim (n : Nat) : lval (lim n) = n := by
  induction n using Nat.strongRecOn with
  | _ n ih =>
    by_cases h : n = 0
    · subst h; simp [lim_zero, lval]
    · rw [lim_pos h, lval, ih _ (Nat.div_lt_self (by omega) (by simp [BB]))]; exact Nat.mod_add_div n BB
theorem lim_small (n : Nat) : small (lim n) := by
  induction n using Nat.strongRecOn with
  | _ n ih =>
    by_cases h : n = 0
    · subst h; simp [lim_zero, small]
    · rw [lim_pos h]
      intro x hx
      simp only [List.mem_cons] at hx
      rcases hx with rfl | hx
      · exact Nat.mod_lt _ (by simp [BB])
      · exact ih _ (Nat.div_lt_self (by omega) (by simp [BB])) x hx
theorem lval_append : ∀ (a b : List Nat), lval (a ++ b) = lval a + BB ^ a.length * lval b
  | [], b => by simp [lval]
  | x :: a, b => by
    simp only [List.cons_append, lval, lval_append a b, List.length_cons, Nat.pow_succ]
    rw [Nat.mul_add, Nat.mul_comm (BB ^ a.length) BB, Nat.mul_assoc]; omega
theorem lval_lt : ∀ {l : List Nat}, small l → lval l < BB ^ l.length
  | [], _ => by simp [lval]
  | x :: l, h => by
    have h1 := lval_lt (l := l) fun y hy => h y (List.mem_cons_of_mem _ hy)
    have h2 := h x List.mem_cons_self
    simp only [lval, List.length_cons, Nat.pow_succ]
    rw [Nat.mul_comm (BB ^ l.length)]
    have : BB * (lval l + 1) ≤ BB * BB ^ l.length := Nat.mul_le_mul_left _ h1
    rw [Nat.mul_add] at this
    omega
theorem lim_lval : ∀ {l : List Nat}, small l → (∀ x, l.getLast? = some x → x ≠ 0) → lim (lval l) = l
  | [], _, _ => by simp [lval, lim_zero]
  | x :: l, h, hl => by
    have hs : small l := fun y hy => h y (List.mem_cons_of_mem _ hy)
    have hx := h x List.mem_cons_self
    have hne : lval (x :: l) ≠ 0 := by
      cases l with
      | nil => simp only [lval]; have := hl x (by simp); omega
      | cons y r =>
        have ih := lim_lval (l := y :: r) hs fun z hz => hl z (by simpa using hz)
        intro e
        have : lval (y :: r) = 0 := by
          simp only [lval] at e ⊢
          have : BB * (y + BB * lval r) = 0 := by omega
          rcases Nat.mul_eq_zero.1 this with h | h
          · simp [BB] at h
          · exact h
        rw [this, lim_zero] at ih
        cases ih
    rw [lim_pos hne]
    have e1 : lval (x :: l) % BB = x := by simp only [lval, Nat.add_mul_mod_self_left]; exact Nat.mod_eq_of_lt hx
    have e2 : lval (x :: l) / BB = lval l := by simp only [lval]; rw [Nat.add_mul_div_left _ _ (by simp [BB])]; rw [Nat.div_eq_of_lt hx]; omega
    rw [e1, e2, lim_lval hs]
    intro z hz
    cases l with
    | nil => simp at hz
    | cons y r => exact hl z (by simpa using hz)
theorem lim_last (n : Nat) : ∀ x, (lim n).getLast? = some x → x ≠ 0 := by
  induction n using Nat.strongRecOn with
  | _ n ih =>
    intro x hx
    by_cases h : n = 0
    · subst h; simp [lim_zero] at hx
    · rw [lim_pos h] at hx
      by_cases h2 : n / BB = 0
      · rw [h2, lim_zero] at hx
        simp at hx
        have := Nat.mod_add_div n BB
        rw [h2] at this
        omega
      · have hne : lim (n / BB) ≠ [] := by rw [lim_pos h2]; simp
        rw [List.getLast?_cons_of_ne_nil hne] at hx
        exact ih _ (Nat.div_lt_self (by omega) (by simp [BB])) x hx
theorem lval_zeros (k : Nat) : lval (List.replicate k 0) = 0 := by
  induction k with
  | zero => rfl
  | succ k ih => simp [List.replicate_succ, lval, ih]
theorem lim_inj {a b : Nat} (h : lim a = lim b) : a = b := by rw [← lval_lim a, h, lval_lim]
theorem lim_len_lt (n k : Nat) : (lim n).length ≤ k ↔ n < BB ^ k := by
  induction n using Nat.strongRecOn generalizing k with
  | _ n ih =>
    by_cases h : n = 0
    · subst h; simp [lim_zero]; exact Nat.pow_pos (by simp [BB])
    · rw [lim_pos h]
      cases k with
      | zero => simp; omega
      | succ k =>
        simp only [List.length_cons, Nat.add_le_add_iff_right]
        rw [ih _ (Nat.div_lt_self (by omega) (by simp [BB])), Nat.div_lt_iff_lt_mul (by simp [BB]), ← Nat.pow_succ]
theorem small_take {l : List Nat} (h : small l) (k : Nat) : small (l.take k) := fun x hx => h x (List.mem_of_mem_take hx)
theorem lval_snoc (l : List Nat) (x : Nat) : lval (l ++ [x]) = lval l + BB ^ l.length * x := by rw [lval_append]; simp [lval]
theorem lval_take0 {l : List Nat} {k : Nat} (hk : k < l.length) (h : l[k] = 0) : lval (l.take (k + 1)) = lval (l.take k) := by
  rw [List.take_succ_eq_append_getElem hk, lval_snoc, h]; simp
theorem lim_take {l : List Nat} (hs : small l) {k : Nat} (hk : k < l.length) (h : l[k] ≠ 0) : lim (lval (l.take (k + 1))) = l.take (k + 1) :=
  lim_lval (small_take hs _) fun x hx => by
    rw [List.take_succ_eq_append_getElem hk, List.getLast?_concat, Option.some.injEq] at hx
    rw [← hx]; exact h
theorem small_append {a b : List Nat} (ha : small a) (hb : small b) : small (a ++ b) := fun x hx => (List.mem_append.1 hx).elim (ha x) (hb x)
theorem lval_take_succ {l : List Nat} {k : Nat} (hk : k < l.length) : lval (l.take (k + 1)) = lval (l.take k) + BB ^ k * l[k] := by
  rw [List.take_succ_eq_append_getElem hk, lval_snoc, List.length_take, Nat.min_eq_left (by omega)]
theorem lval_drop {l : List Nat} {k : Nat} (hk : k < l.length) : lval (l.drop k) = l[k] + BB * lval (l.drop (k + 1)) := by
  rw [List.drop_eq_getElem_cons hk]; rfl
theorem lval_split (l : List Nat) (k : Nat) (hk : k ≤ l.length) : lval l = lval (l.take k) + BB ^ k * lval (l.drop k) := by
  conv => lhs; rw [← List.take_append_drop k l, lval_append]
  rw [List.length_take, Nat.min_eq_left hk]
theorem lim_len_lt_of {m n : Nat} (h : (lim m).length < (lim n).length) : m < n := by
  have h1 := (lim_len_lt m ((lim n).length - 1)).1 (by omega)
  have h2 : ¬ n < BB ^ ((lim n).length - 1) := fun hh => by
    have := (lim_len_lt n ((lim n).length - 1)).2 hh
    omega
  omega
theorem lim_mono {a b : Nat} (h : a ≤ b) : (lim a).length ≤ (lim b).length := by
  by_cases hh : (lim b).length < (lim a).length
  · have := lim_len_lt_of hh; omega
  · omega
theorem lval_lt_of {a b : List Nat} (ha : small a) (hb : small b) {k : Nat} (ka : k < a.length) (kb : k < b.length) (hlen : a.length = b.length) (h : a[k] < b[k]) (hd : a.drop (k + 1) = b.drop (k + 1)) : lval a < lval b := by
  rw [lval_split a (k + 1) (by omega), lval_split b (k + 1) (by omega), hd, lval_take_succ ka, lval_take_succ kb]
  have h1 := lval_lt (small_take ha k)
  rw [List.length_take, Nat.min_eq_left (by omega)] at h1
  have h2 : BB ^ k * (a[k] + 1) ≤ BB ^ k * b[k] := Nat.mul_le_mul_left _ h
  rw [Nat.mul_add] at h2
  omega
end Go.N
namespace Go.N
def dig (n i : Nat) : Nat := n / 10 ^ i % 10
theorem dig_lt (n i : Nat) : dig n i < 10 := Nat.mod_lt _ (by omega)
theorem mod_succ (n i : Nat) : n % 10 ^ (i + 1) = n % 10 ^ i + 10 ^ i * dig n i := Nat.mod_pow_succ
theorem dec_getR (n : Nat) : ∀ i, i < (dec n).length → (dec n)[(dec n).length - 1 - i]? = some (dg (dig n i)) := by
  induction n using Nat.strongRecOn with
  | _ n ih =>
    intro i hi
    by_cases h : n < 10
    · rw [dec_lt h] at hi ⊢
      simp only [List.length_cons, List.length_nil] at hi
      obtain rfl : i = 0 := by omega
      simp [dig, Nat.mod_eq_of_lt h]
    · rw [dec_ge h] at hi ⊢
      simp only [List.length_append, List.length_cons, List.length_nil] at hi ⊢
      cases i with
      | zero =>
        rw [List.getElem?_append_right (by omega)]
        simp [dig]
      | succ i =>
        rw [List.getElem?_append_left (by omega)]
        have := ih (n / 10) (by omega) i (by omega)
        rw [show (dec (n / 10)).length + (0 + 1) - 1 - (i + 1) = (dec (n / 10)).length - 1 - i by omega, this]
        simp only [dig, Nat.div_div_eq_div_mul]
        rw [Nat.pow_succ, Nat.mul_comm 10]
theorem lt_pow_len (n : Nat) : n < 10 ^ (dec n).length := (dec_length_lt n _ (List.length_pos_iff.2 (dec_ne n))).1 (Nat.le_refl _)
theorem dig_ge {n i : Nat} (h : (dec n).length ≤ i) : dig n i = 0 := by
  unfold dig
  rw [Nat.div_eq_of_lt (Nat.lt_of_lt_of_le (lt_pow_len n) (Nat.pow_le_pow_right (by omega) h))]
def lsum : List Nat → Nat
  | [] => 0
  | x :: l => x + 10 * lsum l
theorem lsum_append : ∀ (l : List Nat) (x : Nat), lsum (l ++ [x]) = lsum l + 10 ^ l.length * x
  | [], x => by simp [lsum]
  | y :: l, x => by
    simp only [List.cons_append, lsum, lsum_append l x, List.length_cons, Nat.pow_succ]
    rw [Nat.mul_add, Nat.mul_comm (10 ^ l.length) 10, Nat.mul_assoc]; omega
theorem dval_rev : ∀ (l : List Nat), (∀ x ∈ l, x < 10) → dval (l.reverse.map dg) = lsum l
  | [], _ => rfl
  | x :: l, h => by
    rw [List.reverse_cons, List.map_append, List.map_cons, List.map_nil, dval_append, dval_rev l fun y hy => h y (List.mem_cons_of_mem _ hy), dg_toNat (h x List.mem_cons_self)]
    simp only [lsum]; omega
theorem lsum_lt : ∀ {l : List Nat}, (∀ x ∈ l, x < 10) → lsum l < 10 ^ l.length
  | [], _ => by simp [lsum]
  | x :: l, h => by
    have h1 := lsum_lt (l := l) fun y hy => h y (List.mem_cons_of_mem _ hy)
    have h2 := h x List.mem_cons_self
    simp only [lsum, List.length_cons, Nat.pow_succ]; omega
theorem rev_dig {l : List Nat} (h : ∀ x ∈ l, x < 10) : (l.reverse.map dg).all isDig = true := by
  simp only [List.all_eq_true, List.mem_map, List.mem_reverse]
  rintro c ⟨x, hx, rfl⟩
  exact dg_dig (h x hx)
theorem isNat_of {l : List UInt8} (h : l.all isDig = true) (h1 : l ≠ []) (h2 : l.length = 1 ∨ l[0]? ≠ some 48) : isNat l = true := by
  have := List.length_pos_iff.2 h1
  simp only [isNat, h, Bool.true_and, Bool.or_eq_true, decide_eq_true_eq, Bool.and_eq_true, Bool.not_eq_true', decide_eq_false_iff_not]
  by_cases h3 : l.length = 1
  · exact .inl h3
  · exact .inr ⟨by omega, h2.resolve_left h3⟩
theorem bytesLess_dval : ∀ (a b : List UInt8), a.all isDig = true → b.all isDig = true → a.length = b.length → (Op.bytesLess a b = true ↔ dval a < dval b)
  | [], [], _, _, _ => by simp [Op.bytesLess, dval]
  | [], _ :: _, _, _, h => by simp at h
  | _ :: _, [], _, _, h => by simp at h
  | x :: a, y :: b, ha, hb, hl => by
    simp only [List.all_cons, Bool.and_eq_true] at ha hb
    have ih := bytesLess_dval a b ha.2 hb.2 (by simpa using hl)
    have la := dval_lt ha.2
    have lb := dval_lt hb.2
    have hl' : a.length = b.length := by simpa using hl
    rw [hl'] at la
    have hx := ha.1
    have hy := hb.1
    simp only [isDig, Bool.and_eq_true, decide_eq_true_eq] at hx hy
    rw [dval_cons, dval_cons, hl']
    have hxy : (x < y) ↔ x.toNat < y.toNat := Iff.rfl
    have hxe : (x = y) ↔ x.toNat = y.toNat := ⟨fun e => e ▸ rfl, UInt8.toNat_inj.1⟩
    simp only [Op.bytesLess, Bool.or_eq_true, decide_eq_true_eq, Bool.and_eq_true, beq_iff_eq, ih, hxy, hxe]
    rcases Nat.lt_trichotomy x.toNat y.toNat with h1 | h1 | h1
    · have : (x.toNat - 48 + 1) * 10 ^ b.length ≤ (y.toNat - 48) * 10 ^ b.length := Nat.mul_le_mul_right _ (by omega)
      rw [Nat.add_mul] at this
      omega
    · rw [h1]; omega
    · have : (y.toNat - 48 + 1) * 10 ^ b.length ≤ (x.toNat - 48) * 10 ^ b.length := Nat.mul_le_mul_right _ (by omega)
      rw [Nat.add_mul] at this
      omega
theorem dec_len_lt_of {m n : Nat} (h : (dec m).length < (dec n).length) : m < n := by
  have h1 := (dec_length_lt m ((dec n).length - 1) (by have := List.length_pos_iff.2 (dec_ne m); omega)).1 (by omega)
  have h2 : ¬ n < 10 ^ ((dec n).length - 1) := fun hh => by
    have := (dec_length_lt n ((dec n).length - 1) (by have := List.length_pos_iff.2 (dec_ne m); omega)).2 hh
    omega
  omega
theorem isNat_bad {l : List UInt8} {c : UInt8} (hc : c ∈ l) (h : isDig c = false) : isNat l = false := by
  have : l.all isDig = false := by rw [List.all_eq_false]; exact ⟨c, hc, by simp [h]⟩
  simp [isNat, this]
theorem ext_toList (s : ByteArray) (a b : Nat) : (s.extract a b).toList = (s.toList.drop a).take (b - a) := by
  rw [ByteArray.toList_eq, ByteArray.toList_eq, ByteArray.data_extract, Array.toList_extract, List.extract_eq_take_drop]
theorem app_toList (s t : ByteArray) : (s ++ t).toList = s.toList ++ t.toList := by
  rw [ByteArray.toList_eq, ByteArray.toList_eq, ByteArray.toList_eq, ByteArray.data_append, Array.toList_append]
theorem dec_mono {a b : Nat} (h : a ≤ b) : (dec a).length ≤ (dec b).length := by
  by_cases hh : (dec b).length < (dec a).length
  · have := dec_len_lt_of hh; omega
  · omega
theorem dec_ten {a b : Nat} (h : a < 10 * b) (hb : 0 < b) : (dec a).length ≤ (dec b).length + 1 := by
  rw [dec_length_lt _ _ (by omega), Nat.pow_succ]
  have := lt_pow_len b
  omega
theorem dval_take (l : List UInt8) (i : Nat) (h : i < l.length) : dval (l.take (i + 1)) = 10 * dval (l.take i) + (l[i].toNat - 48) := by
  rw [List.take_succ_eq_append_getElem h, dval_append]
theorem lim_len_zero (n : Nat) : (lim n).length = 0 ↔ n = 0 := by
  by_cases h : n = 0
  · subst h; simp [lim_zero]
  · rw [lim_pos h]; simp [h]
theorem lim_le_dec (n : Nat) : (lim n).length ≤ (dec n).length :=
  (lim_len_lt n _).2 (Nat.lt_of_lt_of_le (lt_pow_len n) (Nat.pow_le_pow_left (by simp [BB]) _))
theorem lsum_last {l : List Nat} {x : Nat} (hx : x ≠ 0) : 10 ^ l.length ≤ lsum (l ++ [x]) := by
  rw [lsum_append]
  have : 10 ^ l.length * 1 ≤ 10 ^ l.length * x := Nat.mul_le_mul_left _ (by omega)
  omega
theorem dec_of_digits {ds : List Nat} (h : ∀ x ∈ ds, x < 10) (hne : ∃ l x, ds = l ++ [x] ∧ x ≠ 0) : ds.reverse.map dg = dec (lsum ds) := by
  obtain ⟨l, x, rfl, hx⟩ := hne
  have hx10 := h x (by simp)
  have hn : isNat ((l ++ [x]).reverse.map dg) = true := isNat_of (rev_dig h) (by simp) (.inr (by
    simp only [List.reverse_append, List.reverse_cons, List.reverse_nil, List.nil_append, List.map_append, List.map_cons, List.map_nil, List.singleton_append, List.getElem?_cons_zero, ne_eq, Option.some.injEq]
    intro e
    have := dg_toNat hx10
    rw [e] at this
    simp at this; omega))
  rw [← dval_rev _ h, dec_dval _ _ rfl hn]
end Go.N
namespace Go.V
open Go.N
theorem wi64 {n : Int} (h : -9223372036854775808 ≤ n) (h2 : n ≤ 9223372036854775807) : n = IntKind.wrap .i64 n := by
  simp only [IntKind.wrap, IntKind.bits, IntKind.signed]; simp; omega
theorem wi32 {n : Int} (h : -2147483648 ≤ n) (h2 : n ≤ 2147483647) : n = IntKind.wrap .i32 n := by
  simp only [IntKind.wrap, IntKind.bits, IntKind.signed]; simp; omega
theorem wu64 {n : Int} (h : 0 ≤ n) (h2 : n < 18446744073709551616) : n = IntKind.wrap .u64 n := by
  simp only [IntKind.wrap, IntKind.bits, IntKind.signed]; simp; omega
theorem wu32 {n : Int} (h : 0 ≤ n) (h2 : n < 4294967296) : n = IntKind.wrap .u32 n := by
  simp only [IntKind.wrap, IntKind.bits, IntKind.signed]; simp; omega
theorem wu8 {n : Int} (h : 0 ≤ n) (h2 : n < 256) : n = IntKind.wrap .u8 n := by
  simp only [IntKind.wrap, IntKind.bits, IntKind.signed]; simp; omega
theorem wu32m {n : Int} : n % 4294967296 = IntKind.wrap .u32 n := by
  simp only [IntKind.wrap, IntKind.bits, IntKind.signed]; simp
theorem sN_toList (l : List Int) : (sN l).toList = l.map fun n => UInt8.ofNat n.toNat := by
  have : ∀ (l : List Int) (r : ByteArray), (l.foldl (fun r n => r.push (UInt8.ofNat n.toNat)) r).toList = r.toList ++ l.map fun n => UInt8.ofNat n.toNat := fun l => by
    induction l with
    | nil => intro r; simp
    | cons x l ih =>
      intro r
      rw [List.foldl_cons, ih]
      have : (r.push (UInt8.ofNat x.toNat)).toList = r.toList ++ [UInt8.ofNat x.toNat] := by
        rw [ByteArray.toList_eq, ByteArray.toList_eq]; simp
      rw [this]; simp
  have h := this l ByteArray.empty
  have e : ByteArray.empty.toList = [] := by rw [ByteArray.toList_eq]; rfl
  rw [e] at h
  simpa [sN] using h
theorem Nt {p : Prop} [Decidable p] (h : (!decide p) = true) : ¬ p := by simpa using h
theorem Nf {p : Prop} [Decidable p] (h : (!decide p) = false) : p := by simpa using h
def cmpN (m n : Nat) : Int := if m < n then -1 else if n < m then 1 else 0
theorem cmpN_lt {m n : Nat} (h : m < n) : cmpN m n = -1 := by simp [cmpN, h]
theorem cmpN_gt {m n : Nat} (h : n < m) : cmpN m n = 1 := by simp [cmpN, h]; omega
theorem cmpN_eq {m n : Nat} (h : n = m) : cmpN m n = 0 := by simp [cmpN, h]
theorem cmpN_ge {m n : Nat} : 0 ≤ cmpN m n ↔ n ≤ m := by unfold cmpN; split <;> (try split) <;> omega
theorem decB_size (n : Nat) : (decB n).size = (dec n).length := by rw [← decB_toList, Go.N.len_toList]
theorem decB_dig (n : Nat) : (decB n).toList.all isDig = true := by rw [decB_toList]; exact dec_dig n
theorem dval_decB (n : Nat) : dval (decB n).toList = n := by rw [decB_toList, dval_dec]
theorem size_empty {t : ByteArray} (h : t = ⟨#[]⟩) : t.toList = [] := by subst h; rw [ByteArray.toList_eq]
theorem zero_decB : (⟨#[48]⟩ : ByteArray) = decB 0 := by decide +kernel
theorem of_isNat {t : ByteArray} (h : isNat t.toList = true) : t = decB (dval t.toList) := isNat_decB h
def ints (l : List Nat) : List (List AV) := l.map fun (x : Nat) => [.int .i64 (x : Int)]
def byts (l : List Nat) : List (List AV) := l.map fun (x : Nat) => [.int .u8 (x : Int)]
def limbs (l : List Nat) : List (List AV) := l.map fun (x : Nat) => [.int .u32 (x : Int)]
@[simp] theorem ints_length (l : List Nat) : (ints l).length = l.length := by simp [ints]
@[simp] theorem byts_length (l : List Nat) : (byts l).length = l.length := by simp [byts]
@[simp] theorem limbs_length (l : List Nat) : (limbs l).length = l.length := by simp [limbs]
theorem ints_get {l : List Nat} {k : Nat} (h : k < l.length) : (ints l)[k]? = some [.int .i64 ((l[k] : Nat) : Int)] := by simp [ints, h]
theorem byts_get {l : List Nat} {k : Nat} (h : k < l.length) : (byts l)[k]? = some [.int .u8 ((l[k] : Nat) : Int)] := by simp [byts, h]
theorem limbs_get {l : List Nat} {k : Nat} (h : k < l.length) : (limbs l)[k]? = some [.int .u32 ((l[k] : Nat) : Int)] := by simp [limbs, h]
theorem ints_app (l : List Nat) (x : Nat) : ints l ++ [[.int .i64 (x : Int)]] = ints (l ++ [x]) := by simp [ints]
theorem byts_app (l : List Nat) (x : Nat) : byts l ++ [[.int .u8 (x : Int)]] = byts (l ++ [x]) := by simp [byts]
theorem limbs_app (l : List Nat) (x : Nat) : limbs l ++ [[.int .u32 (x : Int)]] = limbs (l ++ [x]) := by simp [limbs]
theorem byts_str (l : List Nat) : byts l = (l.map fun (x : Nat) => (x : Int)).map (fun b => [.int .u8 b]) := by simp [byts]
theorem byts_str2 (l : List Nat) : List.take (byts l).length (List.drop 0 (byts l)) = (l.map fun (x : Nat) => (x : Int)).map (fun b => [.int .u8 b]) := by rw [List.drop_zero, List.take_length, byts_str]
theorem sN_digits (l : List Nat) (_ : ∀ x ∈ l, x < 10) : (sN ((l.map (48 + ·)).map fun (x : Nat) => (x : Int))).toList = l.map dg := by
  rw [sN_toList, List.map_map, List.map_map]
  refine List.map_congr_left fun a _ => ?_
  show UInt8.ofNat ((48 + a : Nat) : Int).toNat = _
  rw [Int.toNat_natCast]; rfl
theorem ints_snoc (l : List Nat) (x : Nat) : ints (l ++ [x]) = (ints l).take (ints l).length ++ [[.int .i64 (x : Int)]] := by rw [List.take_length, ints_app]
theorem byts_snoc (l : List Nat) (x : Nat) : byts (l ++ [x]) = (byts l).take (byts l).length ++ [[.int .u8 (x : Int)]] := by rw [List.take_length, byts_app]
theorem limbs_snoc (l : List Nat) (x : Nat) : limbs (l ++ [x]) = (limbs l).take (limbs l).length ++ [[.int .u32 (x : Int)]] := by rw [List.take_length, limbs_app]
theorem ints_snoc' (l : List Nat) (x : Nat) {e : Int} (h : e = x) : ints (l ++ [x]) = (ints l).take (ints l).length ++ [[.int .i64 e]] := by rw [h, ints_snoc]
theorem byts_snoc' (l : List Nat) (x : Nat) {e : Int} (h : e = x) : byts (l ++ [x]) = (byts l).take (byts l).length ++ [[.int .u8 e]] := by rw [h, byts_snoc]
theorem limbs_snoc' (l : List Nat) (x : Nat) {e : Int} (h : e = x) : limbs (l ++ [x]) = (limbs l).take (limbs l).length ++ [[.int .u32 e]] := by rw [h, limbs_snoc]
theorem ints_one (x : Nat) {e : Int} (h : e = x) : ints [x] = [[.int .i64 e]] := by rw [h]; rfl
theorem limbs_take (l : List Nat) (k : Nat) : (limbs l).take k = limbs (l.take k) := by simp [limbs]
theorem limbs_set (l : List Nat) (j v : Nat) {e : Int} (h : e = v) : (limbs l).set j [.int .u32 e] = limbs (l.set j v) := by rw [h]; simp [limbs, List.map_set]
theorem or_add (x y : Nat) (h : y < 4294967296) : (x * 4294967296) ||| y = x * 4294967296 + y := by
  have := Nat.two_pow_add_eq_or_of_lt (i := 32) (b := y) (by simpa using h) x
  rw [show (2 : Nat) ^ 32 = 4294967296 from rfl] at this
  rw [Nat.mul_comm x, ← this]
theorem shl32 (a : Nat) (h : a < 4294967296) : ((a * 4294967296 : Nat) : Int) = IntKind.wrap .u64 ((a : Int) * 2 ^ (min (Int.toNat 32) (IntKind.bits .u64))) := by
  have e : (2 : Int) ^ (min (Int.toNat 32) (IntKind.bits .u64)) = 4294967296 := by decide
  rw [e, ← wu64 (by omega) (by omega)]; omega
theorem or32 (a b : Nat) (ha : a < 4294967296) (hb : b < 4294967296) : ((a * 4294967296 + b : Nat) : Int) = IntKind.wrap .u64 (((((a * 4294967296 : Nat) : Int).toNat ||| ((b : Nat) : Int).toNat : Nat)) : Int) := by
  rw [Int.toNat_natCast, Int.toNat_natCast, or_add a b hb, ← wu64 (by omega) (by omega)]
theorem quo64 (a b : Nat) (ha : a < 18446744073709551616) : ((a / b : Nat) : Int) = IntKind.wrap .u64 (Int.tdiv (a : Int) (b : Int)) := by
  have h : a / b ≤ a := Nat.div_le_self a b
  rw [← Int.ofNat_tdiv]
  generalize a / b = q at h
  exact wu64 (by omega) (by omega)
theorem rem64 (a b : Nat) : ((a % b : Nat) : Int) = Int.tmod (a : Int) (b : Int) := Int.ofNat_tmod a b
theorem Xe {α : Type} {a : α} {K : α → Prop} (k : K a) : ∃ r, r = a ∧ K r := ⟨a, rfl, k⟩
theorem ex_i64 {n : Int} {K : Int → Prop} (h : -9223372036854775808 ≤ n) (h2 : n ≤ 9223372036854775807) (k : K n) : ∃ r, r = IntKind.wrap .i64 n ∧ K r := ⟨n, wi64 h h2, k⟩
theorem ex_i32 {n : Int} {K : Int → Prop} (h : -2147483648 ≤ n) (h2 : n ≤ 2147483647) (k : K n) : ∃ r, r = IntKind.wrap .i32 n ∧ K r := ⟨n, wi32 h h2, k⟩
theorem ex_u64 {n : Int} {K : Int → Prop} (h : 0 ≤ n) (h2 : n < 18446744073709551616) (k : K n) : ∃ r, r = IntKind.wrap .u64 n ∧ K r := ⟨n, wu64 h h2, k⟩
theorem ex_u8 {n : Int} {K : Int → Prop} (h : 0 ≤ n) (h2 : n < 256) (k : K n) : ∃ r, r = IntKind.wrap .u8 n ∧ K r := ⟨n, wu8 h h2, k⟩
theorem Xm {n : Int} {K : Int → Prop} (k : K (n % 4294967296)) : ∃ r, r = IntKind.wrap .u32 n ∧ K r := ⟨_, wu32m, k⟩
theorem ex_ptr {n len : Nat} {K : Nat → Prop} (h : n < len) (k : K n) : ∃ m : Nat, (n : Int) = (m : Int) ∧ m < len ∧ K m := ⟨n, rfl, h, k⟩
theorem ex_ptr0 {len : Nat} {K : Nat → Prop} (h : 0 < len) (k : K 0) : ∃ m : Nat, (0 : Int) = (m : Int) ∧ m < len ∧ K m := ⟨0, rfl, h, k⟩
theorem ex_str {l : List UInt8} {n : Nat} {K : UInt8 → Prop} (h : n < l.length) (k : K l[n]) : ∃ (m : Nat) (c : UInt8), (n : Int) = (m : Int) ∧ l[m]? = some c ∧ K c := ⟨n, l[n], rfl, List.getElem?_eq_getElem h, k⟩
theorem ex_str0 {l : List UInt8} {K : UInt8 → Prop} (h : 0 < l.length) (k : K l[0]) : ∃ (m : Nat) (c : UInt8), (0 : Int) = (m : Int) ∧ l[m]? = some c ∧ K c := ⟨0, l[0], rfl, List.getElem?_eq_getElem h, k⟩
theorem ex_strZ {l : List UInt8} {i : Int} {K : UInt8 → Prop} (h0 : 0 ≤ i) (h : i.toNat < l.length) (k : K l[i.toNat]) : ∃ (m : Nat) (c : UInt8), i = (m : Int) ∧ l[m]? = some c ∧ K c := ⟨i.toNat, l[i.toNat], (Int.toNat_of_nonneg h0).symm, List.getElem?_eq_getElem h, k⟩
theorem ex_ints {l : List Nat} {n : Nat} {K : List AV → Prop} (h : n < l.length) (k : K [.int .i64 ((l[n] : Nat) : Int)]) : ∃ (m : Nat) (c : List AV), (n : Int) = (m : Int) ∧ (ints l)[m]? = some c ∧ K c := ⟨n, _, rfl, ints_get h, k⟩
theorem ex_limbs {l : List Nat} {n : Nat} {K : List AV → Prop} (h : n < l.length) (k : K [.int .u32 ((l[n] : Nat) : Int)]) : ∃ (m : Nat) (c : List AV), (n : Int) = (m : Int) ∧ (limbs l)[m]? = some c ∧ K c := ⟨n, _, rfl, limbs_get h, k⟩
theorem ex_byts {l : List Nat} {n : Nat} {K : List AV → Prop} (h : n < l.length) (k : K [.int .u8 ((l[n] : Nat) : Int)]) : ∃ (m : Nat) (c : List AV), (n : Int) = (m : Int) ∧ (byts l)[m]? = some c ∧ K c := ⟨n, _, rfl, byts_get h, k⟩
theorem ex_ints0 {l : List Nat} {K : List AV → Prop} (h : 0 < l.length) (k : K [.int .i64 ((l[0] : Nat) : Int)]) : ∃ (m : Nat) (c : List AV), (0 : Int) = (m : Int) ∧ (ints l)[m]? = some c ∧ K c := ⟨0, _, rfl, ints_get h, k⟩
theorem ex_limbs0 {l : List Nat} {K : List AV → Prop} (h : 0 < l.length) (k : K [.int .u32 ((l[0] : Nat) : Int)]) : ∃ (m : Nat) (c : List AV), (0 : Int) = (m : Int) ∧ (limbs l)[m]? = some c ∧ K c := ⟨0, _, rfl, limbs_get h, k⟩
theorem ex_ext {s : ByteArray} {a b : Int} {K : ByteArray → Prop} (h1 : 0 ≤ a) (h2 : a ≤ b) (h3 : b ≤ (s.size : Int)) (k : K (s.extract a.toNat b.toNat)) : 0 ≤ a ∧ a ≤ b ∧ b ≤ (s.size : Int) ∧ ∃ r, r = s.extract a.toNat b.toNat ∧ K r := ⟨h1, h2, h3, _, rfl, k⟩
theorem Xo {es : List (List AV)} {n : Nat} {c : List AV} {K : List AV → Prop} (h : es[n]? = some c) (k : K c) : ∃ x, es[n]? = some x ∧ K x := ⟨c, h, k⟩
theorem Xa {α : Type} {a : α} {K : Prop} (k : K) : a = a ∧ K := ⟨rfl, k⟩
theorem flat_limbs {e sz : Nat} (l : List Nat) : Flat (.fr e sz (limbs l)) := by
  simp only [Flat, limbs, List.mem_map]
  rintro cs ⟨x, _, rfl⟩
  simp [FlatL, Flat]
theorem all_dig_get {l : List UInt8} (h : l.all isDig = true) {i : Nat} (hi : i < l.length) : 48 ≤ l[i].toNat ∧ l[i].toNat ≤ 57 := by
  have := List.all_eq_true.1 h _ (List.getElem_mem hi)
  simpa [isDig] using this
theorem byts_set (l : List Nat) (j v : Nat) {e : Int} (h : e = v) : (byts l).set j [.int .u8 e] = byts (l.set j v) := by rw [h]; simp [byts, List.map_set]
theorem flat_tup2 {x y : AV} (hx : Flat x) (hy : Flat y) : Flat (.tup [x, y]) := by simp only [Flat, FlatL]; exact ⟨hx, hy, trivial⟩
theorem flat_int {k : IntKind} {n : Int} : Flat (.int k n) := by simp [Flat]
theorem ex_min {a : Nat} {c : Int} {K : Int → Prop} (hc : 0 ≤ c) (k : K ((min a c.toNat : Nat) : Int)) : ∃ r, r = (if c < ((a : Nat) : Int) then c else ((a : Nat) : Int)) ∧ K r := by
  refine ⟨_, rfl, ?_⟩
  have e : (if c < ((a : Nat) : Int) then c else ((a : Nat) : Int)) = ((min a c.toNat : Nat) : Int) := by split <;> omega
  rw [e]; exact k
theorem dt {p : Prop} [Decidable p] (h : decide p = true) : p := of_decide_eq_true h
theorem df {p : Prop} [Decidable p] (h : decide p = false) : ¬ p := of_decide_eq_false h
theorem xi {n : Int} {K : Int → Prop} (h : -9223372036854775808 ≤ n ∧ n ≤ 9223372036854775807) (k : K n) : ∃ r, r = IntKind.wrap .i64 n ∧ K r := ex_i64 h.1 h.2 k
theorem x3 {n : Int} {K : Int → Prop} (h : -2147483648 ≤ n ∧ n ≤ 2147483647) (k : K n) : ∃ r, r = IntKind.wrap .i32 n ∧ K r := ex_i32 h.1 h.2 k
theorem xu {n : Int} {K : Int → Prop} (h : 0 ≤ n ∧ n < 18446744073709551616) (k : K n) : ∃ r, r = IntKind.wrap .u64 n ∧ K r := ex_u64 h.1 h.2 k
theorem x8 {n : Int} {K : Int → Prop} (h : 0 ≤ n ∧ n < 256) (k : K n) : ∃ r, r = IntKind.wrap .u8 n ∧ K r := ex_u8 h.1 h.2 k
theorem xn {a : Nat} {c : Int} {K : Int → Prop} (hc : 0 ≤ c) (k : K ((min a c.toNat : Nat) : Int)) : ∃ r, r = (if c < ((a : Nat) : Int) then c else ((a : Nat) : Int)) ∧ K r := ex_min hc k
theorem xp {n len : Nat} {K : Nat → Prop} (h : n < len) (k : K n) : ∃ m : Nat, (n : Int) = (m : Int) ∧ m < len ∧ K m := ex_ptr h k
theorem xP {len : Nat} {K : Nat → Prop} (h : 0 < len) (k : K 0) : ∃ m : Nat, (0 : Int) = (m : Int) ∧ m < len ∧ K m := ex_ptr0 h k
theorem xs {l : List UInt8} {n : Nat} {K : UInt8 → Prop} (h : n < l.length) (k : K l[n]) : ∃ (m : Nat) (c : UInt8), (n : Int) = (m : Int) ∧ l[m]? = some c ∧ K c := ex_str h k
theorem xS {l : List UInt8} {K : UInt8 → Prop} (h : 0 < l.length) (k : K l[0]) : ∃ (m : Nat) (c : UInt8), (0 : Int) = (m : Int) ∧ l[m]? = some c ∧ K c := ex_str0 h k
theorem xZ {l : List UInt8} {i : Int} {K : UInt8 → Prop} (h : 0 ≤ i ∧ i.toNat < l.length) (k : K (l[i.toNat]'h.2)) : ∃ (m : Nat) (c : UInt8), i = (m : Int) ∧ l[m]? = some c ∧ K c := ex_strZ h.1 h.2 k
theorem xd {l : List Nat} {n : Nat} {K : List AV → Prop} (h : n < l.length) (k : K [.int .i64 ((l[n] : Nat) : Int)]) : ∃ (m : Nat) (c : List AV), (n : Int) = (m : Int) ∧ (ints l)[m]? = some c ∧ K c := ex_ints h k
theorem xl {l : List Nat} {n : Nat} {K : List AV → Prop} (h : n < l.length) (k : K [.int .u32 ((l[n] : Nat) : Int)]) : ∃ (m : Nat) (c : List AV), (n : Int) = (m : Int) ∧ (limbs l)[m]? = some c ∧ K c := ex_limbs h k
theorem xy {l : List Nat} {n : Nat} {K : List AV → Prop} (h : n < l.length) (k : K [.int .u8 ((l[n] : Nat) : Int)]) : ∃ (m : Nat) (c : List AV), (n : Int) = (m : Int) ∧ (byts l)[m]? = some c ∧ K c := ex_byts h k
theorem xD {l : List Nat} {K : List AV → Prop} (h : 0 < l.length) (k : K [.int .i64 ((l[0] : Nat) : Int)]) : ∃ (m : Nat) (c : List AV), (0 : Int) = (m : Int) ∧ (ints l)[m]? = some c ∧ K c := ex_ints0 h k
theorem xL {l : List Nat} {K : List AV → Prop} (h : 0 < l.length) (k : K [.int .u32 ((l[0] : Nat) : Int)]) : ∃ (m : Nat) (c : List AV), (0 : Int) = (m : Int) ∧ (limbs l)[m]? = some c ∧ K c := ex_limbs0 h k
theorem xx {s : ByteArray} {a b : Int} {K : ByteArray → Prop} (h : 0 ≤ a ∧ a ≤ b ∧ b ≤ (s.size : Int)) (k : K (s.extract a.toNat b.toNat)) : 0 ≤ a ∧ a ≤ b ∧ b ≤ (s.size : Int) ∧ ∃ r, r = s.extract a.toNat b.toNat ∧ K r := ex_ext h.1 h.2.1 h.2.2 k
theorem Xg {es : List (List AV)} {n : Nat} {c : List AV} {K : List AV → Prop} (h : es[n]? = some c) (k : K c) : ∃ (m : Nat) (x : List AV), (n : Int) = (m : Int) ∧ es[m]? = some x ∧ K x := ⟨n, c, rfl, h, k⟩
structure Bx (q : Prop) : Prop where
  out : q
theorem sW {p q : Prop} (k : Bx q) (h : Bx q → p := by
  intro k
  ((conv => whnf); first | (with_reducible first | apply Xa | (first | apply xi | apply xu | apply x8 | apply x3 | apply xn | apply xp | apply xP | refine xs ?_ ?_ | refine xS ?_ ?_ | refine xZ ?_ ?_ | refine xl ?_ ?_ | refine xd ?_ ?_ | refine xy ?_ ?_ | refine xL ?_ ?_ | refine xD ?_ ?_ | apply xx); omega | apply Xm | apply Xe) | refine Xo (by assumption) ?_ | refine Or.inl ⟨rfl, ?_⟩)
  repeat' ((conv => whnf); first | (with_reducible first | apply Xa | (first | apply xi | apply xu | apply x8 | apply x3 | apply xn | apply xp | apply xP | refine xs ?_ ?_ | refine xS ?_ ?_ | refine xZ ?_ ?_ | refine xl ?_ ?_ | refine xd ?_ ?_ | refine xy ?_ ?_ | refine xL ?_ ?_ | refine xD ?_ ?_ | apply xx); omega | apply Xm | apply Xe) | refine Xo (by assumption) ?_ | refine Or.inl ⟨rfl, ?_⟩)
  exact k.out) : p := h k
theorem sX {p q : Prop} (k : Bx q) (h : Bx q → p := by
  intro k
  ((conv => whnf); first | (with_reducible first | apply Xa | (first | apply xi | apply xu | apply x8 | apply x3 | apply xn | apply xp | apply xP | refine xs ?_ ?_ | refine xS ?_ ?_ | refine xZ ?_ ?_ | refine xl ?_ ?_ | refine xd ?_ ?_ | refine xy ?_ ?_ | refine xL ?_ ?_ | refine xD ?_ ?_ | apply xx); omega | apply Xm | apply Xe | refine Xg (by assumption) ?_) | refine Xo (by assumption) ?_ | refine Or.inl ⟨rfl, ?_⟩)
  repeat' ((conv => whnf); first | (with_reducible first | apply Xa | (first | apply xi | apply xu | apply x8 | apply x3 | apply xn | apply xp | apply xP | refine xs ?_ ?_ | refine xS ?_ ?_ | refine xZ ?_ ?_ | refine xl ?_ ?_ | refine xd ?_ ?_ | refine xy ?_ ?_ | refine xL ?_ ?_ | refine xD ?_ ?_ | apply xx); omega | apply Xm | apply Xe | refine Xg (by assumption) ?_) | refine Xo (by assumption) ?_ | refine Or.inl ⟨rfl, ?_⟩)
  exact k.out) : p := h k
theorem sp {p c d q r : Prop} (k : c → Bx q) (l : d → Bx r) (h : (c → Bx q) → (d → Bx r) → p := by
  intro k l
  conv => whnf
  split <;> (first | (rename_i u h; clear u) | rename_i h) <;> (try rewrite [h]) <;> (first | replace h := dt h | replace h := df h | replace h := Nt h | replace h := Nf h | skip)
  · exact (k h).out
  · exact (l h).out) : p := h k l
end Go.V
namespace Go.V
theorem info_of {P : Program} {t : TypeId} {i : TypeInfo} {z : Value} {s b : Nat} (h : P.types[t]? = some i) (e : (i.zero, i.size, i.bytes) = (some z, s, b)) : (P.info? t).map (fun i => (i.zero, i.size, i.bytes)) = some (some z, s, b) := by
  have hlt : t < P.types.size := (Array.getElem?_eq_some_iff.1 h).1
  have : P.info? t = some i := by
    show (if t < P.types.size then P.types[t]? else _) = _
    rw [if_pos hlt]; exact h
  rw [this]; simpa using e
set_option maxRecDepth 16384
def i3 : TI := ⟨.int .i64, 1, 8, (.int .i64 0), [0]⟩
theorem K3 : TFact Go.Proofs.Tryz.prog 3 i3 := ⟨info_of Go.Proofs.Tryz.type3 rfl, by decide +kernel, by decide +kernel⟩
def i4 : TI := ⟨.bool, 1, 1, (.bool false), [0]⟩
theorem K4 : TFact Go.Proofs.Tryz.prog 4 i4 := ⟨info_of Go.Proofs.Tryz.type4 rfl, by decide +kernel, by decide +kernel⟩
def i5 : TI := ⟨.int .u8, 1, 1, (.int .u8 0), [0]⟩
theorem K5 : TFact Go.Proofs.Tryz.prog 5 i5 := ⟨info_of Go.Proofs.Tryz.type5 rfl, by decide +kernel, by decide +kernel⟩
def i9 : TI := ⟨.str, 1, 16, (.string .empty), [0]⟩
theorem K9 : TFact Go.Proofs.Tryz.prog 9 i9 := ⟨info_of Go.Proofs.Tryz.type9 rfl, by decide +kernel, by decide +kernel⟩
def i21 : TI := ⟨.int .i32, 1, 4, (.int .i32 0), [0]⟩
theorem K21 : TFact Go.Proofs.Tryz.prog 21 i21 := ⟨info_of Go.Proofs.Tryz.type21 rfl, by decide +kernel, by decide +kernel⟩
def i22 : TI := ⟨.slice 36, 1, 24, (.slice none 0 0), [8]⟩
theorem K22 : TFact Go.Proofs.Tryz.prog 22 i22 := ⟨info_of Go.Proofs.Tryz.type22 rfl, by decide +kernel, by decide +kernel⟩
def i24 : TI := ⟨.strc [(0, 1, false), (1, 1, false)], 2, 32, (.agg #[(.slice none 0 0), (.int .i64 0)]), [8, 0]⟩
theorem K24 : TFact Go.Proofs.Tryz.prog 24 i24 := ⟨info_of Go.Proofs.Tryz.type24 rfl, by decide +kernel, by decide +kernel⟩
def i28 : TI := ⟨.int .i64, 1, 8, (.int .i64 0), [0]⟩
theorem K28 : TFact Go.Proofs.Tryz.prog 28 i28 := ⟨info_of Go.Proofs.Tryz.type28 rfl, by decide +kernel, by decide +kernel⟩
def i33 : TI := ⟨.slice 3, 1, 24, (.slice none 0 0), [1]⟩
theorem K33 : TFact Go.Proofs.Tryz.prog 33 i33 := ⟨info_of Go.Proofs.Tryz.type33 rfl, by decide +kernel, by decide +kernel⟩
def i34 : TI := ⟨.slice 9, 1, 24, (.slice none 0 0), [1]⟩
theorem K34 : TFact Go.Proofs.Tryz.prog 34 i34 := ⟨info_of Go.Proofs.Tryz.type34 rfl, by decide +kernel, by decide +kernel⟩
def i36 : TI := ⟨.strc [(0, 1, false), (1, 1, false), (2, 1, false), (3, 1, false), (4, 1, false), (5, 1, false), (6, 1, false), (7, 1, false)], 8, 120, (.agg #[(.string .empty), (.int .i64 0), (.int .i64 0), (.string .empty), (.slice none 0 0), (.string .empty), (.int .i64 0), (.slice none 0 0)]), [0, 0, 0, 0, 1, 0, 0, 1]⟩
theorem K36 : TFact Go.Proofs.Tryz.prog 36 i36 := ⟨info_of Go.Proofs.Tryz.type36 rfl, by decide +kernel, by decide +kernel⟩
def i40 : TI := ⟨.strc [(0, 1, false), (1, 1, false)], 2, 48, (.agg #[(.slice none 0 0), (.slice none 0 0)]), [1, 1]⟩
theorem K40 : TFact Go.Proofs.Tryz.prog 40 i40 := ⟨info_of Go.Proofs.Tryz.type40 rfl, by decide +kernel, by decide +kernel⟩
def i49 : TI := ⟨.slice 65, 1, 24, (.slice none 0 0), [3]⟩
theorem K49 : TFact Go.Proofs.Tryz.prog 49 i49 := ⟨info_of Go.Proofs.Tryz.type49 rfl, by decide +kernel, by decide +kernel⟩
def i56 : TI := ⟨.fn, 1, 8, .nilFunc, [0]⟩
theorem K56 : TFact Go.Proofs.Tryz.prog 56 i56 := ⟨info_of Go.Proofs.Tryz.type56 rfl, by decide +kernel, by decide +kernel⟩
def i59 : TI := ⟨.fn, 1, 8, .nilFunc, [0]⟩
theorem K59 : TFact Go.Proofs.Tryz.prog 59 i59 := ⟨info_of Go.Proofs.Tryz.type59 rfl, by decide +kernel, by decide +kernel⟩
def i65 : TI := ⟨.strc [(0, 1, false), (1, 2, true)], 3, 64, (.agg #[(.string .empty), (.slice none 0 0), (.slice none 0 0)]), [0, 1, 1]⟩
theorem K65 : TFact Go.Proofs.Tryz.prog 65 i65 := ⟨info_of Go.Proofs.Tryz.type65 rfl, by decide +kernel, by decide +kernel⟩
def i83 : TI := ⟨.strc [(0, 1, false), (1, 1, false)], 2, 32, (.agg #[(.string .empty), (.string .empty)]), [0, 0]⟩
theorem K83 : TFact Go.Proofs.Tryz.prog 83 i83 := ⟨info_of Go.Proofs.Tryz.type83 rfl, by decide +kernel, by decide +kernel⟩
def i85 : TI := ⟨.iface, 1, 16, .nilIface, [0]⟩
theorem K85 : TFact Go.Proofs.Tryz.prog 85 i85 := ⟨info_of Go.Proofs.Tryz.type85 rfl, by decide +kernel, by decide +kernel⟩
def i91 : TI := ⟨.fn, 1, 8, .nilFunc, [0]⟩
theorem K91 : TFact Go.Proofs.Tryz.prog 91 i91 := ⟨info_of Go.Proofs.Tryz.type91 rfl, by decide +kernel, by decide +kernel⟩
def i97 : TI := ⟨.map 3, 1, 8, (.map none), [0]⟩
theorem K97 : TFact Go.Proofs.Tryz.prog 97 i97 := ⟨info_of Go.Proofs.Tryz.type97 rfl, by decide +kernel, by decide +kernel⟩
def i100 : TI := ⟨.strc [(0, 1, false), (1, 1, false)], 2, 32, (.agg #[(.string .empty), (.string .empty)]), [0, 0]⟩
theorem K100 : TFact Go.Proofs.Tryz.prog 100 i100 := ⟨info_of Go.Proofs.Tryz.type100 rfl, by decide +kernel, by decide +kernel⟩
def i107 : TI := ⟨.slice 100, 1, 24, (.slice none 0 0), [2]⟩
theorem K107 : TFact Go.Proofs.Tryz.prog 107 i107 := ⟨info_of Go.Proofs.Tryz.type107 rfl, by decide +kernel, by decide +kernel⟩
def i123 : TI := ⟨.ptr 125, 1, 8, (.pointer none), [0]⟩
theorem K123 : TFact Go.Proofs.Tryz.prog 123 i123 := ⟨info_of Go.Proofs.Tryz.type123 rfl, by decide +kernel, by decide +kernel⟩
def i125 : TI := ⟨.strc [(0, 1, false), (1, 1, false)], 2, 32, (.agg #[(.string .empty), .nilIface]), [0, 0]⟩
theorem K125 : TFact Go.Proofs.Tryz.prog 125 i125 := ⟨info_of Go.Proofs.Tryz.type125 rfl, by decide +kernel, by decide +kernel⟩
def i132 : TI := ⟨.ptr 134, 1, 8, (.pointer none), [0]⟩
theorem K132 : TFact Go.Proofs.Tryz.prog 132 i132 := ⟨info_of Go.Proofs.Tryz.type132 rfl, by decide +kernel, by decide +kernel⟩
def i134 : TI := ⟨.strc [(0, 1, false)], 1, 8, (.agg #[(.int .i64 0)]), [0]⟩
theorem K134 : TFact Go.Proofs.Tryz.prog 134 i134 := ⟨info_of Go.Proofs.Tryz.type134 rfl, by decide +kernel, by decide +kernel⟩
def i138 : TI := ⟨.strc [(0, 1, false), (1, 1, false)], 2, 24, (.agg #[(.bool false), (.string .empty)]), [0, 0]⟩
theorem K138 : TFact Go.Proofs.Tryz.prog 138 i138 := ⟨info_of Go.Proofs.Tryz.type138 rfl, by decide +kernel, by decide +kernel⟩
def i144 : TI := ⟨.map 59, 1, 8, (.map none), [0]⟩
theorem K144 : TFact Go.Proofs.Tryz.prog 144 i144 := ⟨info_of Go.Proofs.Tryz.type144 rfl, by decide +kernel, by decide +kernel⟩
def i146 : TI := ⟨.fn, 1, 8, .nilFunc, [0]⟩
theorem K146 : TFact Go.Proofs.Tryz.prog 146 i146 := ⟨info_of Go.Proofs.Tryz.type146 rfl, by decide +kernel, by decide +kernel⟩
def i158 : TI := ⟨.fn, 1, 8, .nilFunc, [0]⟩
theorem K158 : TFact Go.Proofs.Tryz.prog 158 i158 := ⟨info_of Go.Proofs.Tryz.type158 rfl, by decide +kernel, by decide +kernel⟩
def i160 : TI := ⟨.int .i64, 1, 8, (.int .i64 0), [0]⟩
theorem K160 : TFact Go.Proofs.Tryz.prog 160 i160 := ⟨info_of Go.Proofs.Tryz.type160 rfl, by decide +kernel, by decide +kernel⟩
def i166 : TI := ⟨.fn, 1, 8, .nilFunc, [0]⟩
theorem K166 : TFact Go.Proofs.Tryz.prog 166 i166 := ⟨info_of Go.Proofs.Tryz.type166 rfl, by decide +kernel, by decide +kernel⟩
def i171 : TI := ⟨.slice 210, 1, 24, (.slice none 0 0), [1]⟩
theorem K171 : TFact Go.Proofs.Tryz.prog 171 i171 := ⟨info_of Go.Proofs.Tryz.type171 rfl, by decide +kernel, by decide +kernel⟩
def i207 : TI := ⟨.int .u64, 1, 8, (.int .u64 0), [0]⟩
theorem K207 : TFact Go.Proofs.Tryz.prog 207 i207 := ⟨info_of Go.Proofs.Tryz.type207 rfl, by decide +kernel, by decide +kernel⟩
def i210 : TI := ⟨.int .u32, 1, 4, (.int .u32 0), [0]⟩
theorem K210 : TFact Go.Proofs.Tryz.prog 210 i210 := ⟨info_of Go.Proofs.Tryz.type210 rfl, by decide +kernel, by decide +kernel⟩
def i211 : TI := ⟨.int .u64, 1, 8, (.int .u64 0), [0]⟩
theorem K211 : TFact Go.Proofs.Tryz.prog 211 i211 := ⟨info_of Go.Proofs.Tryz.type211 rfl, by decide +kernel, by decide +kernel⟩
def i214 : TI := ⟨.slice 5, 1, 24, (.slice none 0 0), [1]⟩
theorem K214 : TFact Go.Proofs.Tryz.prog 214 i214 := ⟨info_of Go.Proofs.Tryz.type214 rfl, by decide +kernel, by decide +kernel⟩
def i243 : TI := ⟨.arr 256 4, 256, 256, (.agg (Array.replicate 256 (.bool false))), (List.replicate 256 0)⟩
theorem K243 : TFact Go.Proofs.Tryz.prog 243 i243 := ⟨info_of Go.Proofs.Tryz.type243 rfl, by decide +kernel, by decide +kernel⟩
def i247 : TI := ⟨.ptr 243, 1, 8, (.pointer none), [0]⟩
theorem K247 : TFact Go.Proofs.Tryz.prog 247 i247 := ⟨info_of Go.Proofs.Tryz.type247 rfl, by decide +kernel, by decide +kernel⟩
theorem HM : Go.Proofs.Tryz.prog.follows .mixedOrders = true := by decide +kernel
end Go.V
namespace Go.V
open Go.N
variable (gl : Gl)
def T_trim : Tab := [(171, i171), (210, i210), (3, i3)]
theorem TOK_trim : TOK Go.Proofs.Tryz.prog T_trim := ⟨K171, ⟨K210, ⟨K3, trivial⟩⟩⟩
def T_step : Tab := [(171, i171), (210, i210), (3, i3), (207, i207)]
theorem TOK_step : TOK Go.Proofs.Tryz.prog T_step := ⟨K171, ⟨K210, ⟨K3, ⟨K207, trivial⟩⟩⟩⟩
def T_compare : Tab := [(171, i171), (210, i210), (3, i3)]
theorem TOK_compare : TOK Go.Proofs.Tryz.prog T_compare := ⟨K171, ⟨K210, ⟨K3, trivial⟩⟩⟩
def T_Clone : Tab := [(171, i171), (210, i210)]
theorem TOK_Clone : TOK Go.Proofs.Tryz.prog T_Clone := ⟨K171, ⟨K210, trivial⟩⟩
set_option maxHeartbeats 2000000 in
theorem c_trim (l : List Nat) (hs : small l) (hl : l.length < 9000000000) : VCall Go.Proofs.Tryz.prog gl 185 [.ro 1 (limbs l)] (fun x => x = .ro 1 (limbs (lim (lval l)))) := by
  refine vcall_of TOK_trim HM Go.Proofs.Tryz.func185 rfl (by decide +kernel) (by decide +kernel) rfl ?_
  repeat' first|refine sW ⟨?_⟩|(refine sp ?_ ?_<;>refine fun h=>⟨?_⟩)|fail
  refine ⟨[0], [], fun m st => ∃ k : Nat, k ≤ l.length ∧ m = k ∧ lim (lval (l.take k)) = lim (lval l) ∧ st = ⟨[(0, .ro 1 (limbs (l.take k)))], []⟩, rfl, ⟨l.length, l.length, Nat.le_refl _, rfl, by simp, by rw [List.take_length]; rfl⟩, ?_⟩
  rintro m _ ⟨k, hk, hm, hv, rfl⟩
  have hlt : (limbs (l.take k)).length = k := by simp; omega
  rcases k with _ | k
  · repeat' first|refine sW ⟨?_⟩|(refine sp ?_ ?_<;>refine fun h=>⟨?_⟩)|fail
    conv => whnf
    rw [← hv]
    simp [lval, lim_zero, limbs, one]
  · have hk1 : k < l.length := by omega
    have hget : (limbs (l.take (k + 1)))[k]? = some [.int .u32 ((l[k] : Nat) : Int)] := by simp [limbs, hk1]
    have hb := hs l[k] (List.getElem_mem hk1)
    repeat' first|refine sW ⟨?_⟩|(refine sp ?_ ?_<;>refine fun h=>⟨?_⟩)|fail
    · refine ⟨k, _, by omega, hget, ?_⟩
      repeat' first|refine sW ⟨?_⟩|(refine sp ?_ ?_<;>refine fun h=>⟨?_⟩)|fail
      · have h0 : l[k] = 0 := by omega
        have he : List.take ((((limbs (l.take (k + 1))).length : Int) - 1).toNat - (0 : Int).toNat) (List.drop (0 : Int).toNat (limbs (l.take (k + 1)))) = limbs (l.take k) := by
          rw [show ((0 : Int).toNat) = 0 from rfl, List.drop_zero, show ((((limbs (l.take (k + 1))).length : Int) - 1).toNat - 0) = k by omega]
          simp [limbs, ← List.map_take, List.take_take]
        conv => whnf
        refine ⟨by omega, by omega, by omega, limbs (l.take k), he.symm, ?_⟩
        repeat' first|refine sW ⟨?_⟩|(refine sp ?_ ?_<;>refine fun h=>⟨?_⟩)|fail
        refine ⟨[], k, rfl, by omega, k, by omega, rfl, ?_, rfl⟩
        rw [← hv, lval_take0 hk1 h0]
      · conv => whnf
        have h0 : l[k] ≠ 0 := by omega
        rw [← hv, lim_take hs hk1 h0]
        rfl
    · exact absurd h (by rw [hlt]; omega)
set_option maxHeartbeats 2000000 in
theorem c_trimH (l : List Nat) (hs : small l) (hl : l.length < 9000000000) : VCallH Go.Proofs.Tryz.prog gl 185 [.own 0 0 (limbs l).length] [.row false 210 1 (limbs l)] (fun x h => x = .own 0 0 (lim (lval l)).length ∧ lim (lval l) = l.take (lim (lval l)).length ∧ h = [.row false 210 1 (limbs l)]) := by
  refine vcallH_of TOK_trim HM Go.Proofs.Tryz.func185 rfl (by decide +kernel) (by decide +kernel) rfl ?_
  repeat' first|refine sW ⟨?_⟩|(refine sp ?_ ?_<;>refine fun h=>⟨?_⟩)|fail
  refine ⟨[0], [0], fun m st => ∃ k : Nat, k ≤ l.length ∧ m = k ∧ lim (lval (l.take k)) = lim (lval l) ∧ st = ⟨[(0, .own 0 0 k)], [.row false 210 1 (limbs l)]⟩, rfl, ⟨l.length, l.length, Nat.le_refl _, rfl, by simp, by rw [limbs_length]; rfl⟩, ?_⟩
  rintro m _ ⟨k, hk, hm, hv, rfl⟩
  rcases k with _ | k
  · repeat' first|refine sW ⟨?_⟩|(refine sp ?_ ?_<;>refine fun h=>⟨?_⟩)|fail
    conv => whnf
    have e : lim (lval l) = [] := by rw [← hv]; simp [lval, lim_zero]
    refine ⟨[0], rfl, ?_, ?_, rfl⟩
    · rw [e]; rfl
    · rw [e]; rfl
  · have hk1 : k < l.length := by omega
    have hget : (limbs l)[0 + k]? = some [.int .u32 ((l[k] : Nat) : Int)] := by simp [limbs, hk1]
    have hb := hs l[k] (List.getElem_mem hk1)
    repeat' first|refine sW ⟨?_⟩|(refine sp ?_ ?_<;>refine fun h=>⟨?_⟩)|fail
    rotate_left
    · exact absurd h (by omega)
    refine ⟨k, by omega, by omega, ?_⟩
    repeat' first|refine sW ⟨?_⟩|(refine sp ?_ ?_<;>refine fun h=>⟨?_⟩)|fail
    · have h0 : l[k] = 0 := by omega
      conv => whnf
      refine ⟨by omega, by omega, by omega, by omega, 0, k, rfl, by omega, ?_⟩
      repeat' first|refine sW ⟨?_⟩|(refine sp ?_ ?_<;>refine fun h=>⟨?_⟩)|fail
      refine ⟨[0], k, rfl, by omega, k, by omega, rfl, ?_, rfl⟩
      rw [← hv, lval_take0 hk1 h0]
    · conv => whnf
      have h0 : l[k] ≠ 0 := by omega
      have e : lim (lval l) = l.take (k + 1) := by rw [← hv, lim_take hs hk1 h0]
      have e2 : (lim (lval l)).length = k + 1 := by rw [e]; simp; omega
      refine ⟨[0], rfl, ?_, ?_, rfl⟩
      · rw [e2]; rfl
      · rw [e2]; exact e
set_option maxHeartbeats 2000000 in
theorem c_compare (m n : Nat) (hm : (lim m).length < 9000000000) (hn : (lim n).length < 9000000000) : VCall Go.Proofs.Tryz.prog gl 187 [.ro 1 (limbs (lim m)), .ro 1 (limbs (lim n))] (fun x => x = .int .i64 (cmpN m n)) := by
  refine vcall_of TOK_compare HM Go.Proofs.Tryz.func187 rfl (by decide +kernel) (by decide +kernel) rfl ?_
  have hlm : (limbs (lim m)).length = (lim m).length := limbs_length _
  have hln : (limbs (lim n)).length = (lim n).length := limbs_length _
  repeat' first|refine sW ⟨?_⟩|(refine sp ?_ ?_<;>refine fun h=>⟨?_⟩)|fail
  · conv => whnf
    refine congrArg (AV.int .i64) (Eq.symm (cmpN_lt (lim_len_lt_of (by omega))))
  · conv => whnf
    refine congrArg (AV.int .i64) (Eq.symm (cmpN_gt (lim_len_lt_of (by omega))))
  · have hlen : (lim m).length = (lim n).length := by omega
    repeat' first|refine sW ⟨?_⟩|(refine sp ?_ ?_<;>refine fun h=>⟨?_⟩)|fail
    refine ⟨[0, 1, 5], [], fun k st => ∃ j : Nat, j ≤ (lim m).length ∧ k = j ∧ (lim m).drop j = (lim n).drop j ∧ st = ⟨[(0, .ro 1 (limbs (lim m))), (1, .ro 1 (limbs (lim n))), (5, .int .i64 ((j : Int) - 1))], []⟩, rfl,
      ⟨(lim m).length, (lim m).length, Nat.le_refl _, rfl, by rw [List.drop_length, hlen, List.drop_length], by rw [← hlm]; rfl⟩, ?_⟩
    rintro k _ ⟨j, hj, hk, hd, rfl⟩
    rcases j with _ | j
    · repeat' first|refine sW ⟨?_⟩|(refine sp ?_ ?_<;>refine fun h=>⟨?_⟩)|fail
      conv => whnf
      simp only [List.drop_zero] at hd
      exact congrArg (AV.int .i64) (Eq.symm (cmpN_eq (lim_inj hd).symm))
    · have hjm : j < (lim m).length := by omega
      have hjn : j < (lim n).length := by omega
      have gm := limbs_get hjm
      have gn := limbs_get hjn
      repeat' first|refine sW ⟨?_⟩|(refine sp ?_ ?_<;>refine fun h=>⟨?_⟩)|fail
      rotate_left
      · exact absurd h (by omega)
      refine ⟨by decide +kernel, [0, 0, 3, 7, 0, 0, 48, 112, 255], by decide +kernel, ?_⟩
      repeat' first|refine sW ⟨?_⟩|(refine sp ?_ ?_<;>refine fun h=>⟨?_⟩)|fail
      refine ⟨j, _, by omega, gm, ?_⟩
      repeat' first|refine sW ⟨?_⟩|(refine sp ?_ ?_<;>refine fun h=>⟨?_⟩)|fail
      refine ⟨j, _, by omega, gn, ?_⟩
      repeat' first|refine sW ⟨?_⟩|(refine sp ?_ ?_<;>refine fun h=>⟨?_⟩)|fail
      · refine ⟨by decide +kernel, [0, 0, 3, 7, 0, 0, 48, 112, 255], by decide +kernel, ?_⟩
        repeat' first|refine sW ⟨?_⟩|(refine sp ?_ ?_<;>refine fun h=>⟨?_⟩)|fail
        refine ⟨j, _, by omega, gm, ?_⟩
        repeat' first|refine sW ⟨?_⟩|(refine sp ?_ ?_<;>refine fun h=>⟨?_⟩)|fail
        refine ⟨j, _, by omega, gn, ?_⟩
        repeat' first|refine sW ⟨?_⟩|(refine sp ?_ ?_<;>refine fun h=>⟨?_⟩)|fail
        · conv => whnf
          have := lval_lt_of (lim_small m) (lim_small n) hjm hjn hlen (by omega) hd
          rw [lval_lim, lval_lim] at this
          exact congrArg (AV.int .i64) (Eq.symm (cmpN_lt this))
        · conv => whnf
          have := lval_lt_of (lim_small n) (lim_small m) hjn hjm hlen.symm (by omega) hd.symm
          rw [lval_lim, lval_lim] at this
          exact congrArg (AV.int .i64) (Eq.symm (cmpN_gt this))
      · refine ⟨[], j, rfl, by omega, j, by omega, rfl, ?_, ?_⟩
        · rw [List.drop_eq_getElem_cons hjm, List.drop_eq_getElem_cons hjn, hd]
          congr 1; omega
        · have e : ((j + 1 : Nat) : Int) - 1 - 1 = (j : Int) - 1 := by omega
          exact Eq.trans rfl (congrArg (fun r => (⟨[(0, .ro 1 (limbs (lim m))), (1, .ro 1 (limbs (lim n))), (5, .int .i64 r)], []⟩ : St)) e)
theorem c_Clone (l : List Nat) (hl : l.length < 1000000) : VCall Go.Proofs.Tryz.prog gl 191 [.ro 1 (limbs l)] (fun x => x = .fr 210 1 (limbs l) ∨ (l = [] ∧ x = .nils)) := by
  refine vcall_of TOK_Clone HM Go.Proofs.Tryz.func191 rfl (by decide +kernel) (by decide +kernel) rfl ?_
  have hlen : (limbs l).length = l.length := limbs_length l
  rcases l with _ | ⟨x, l⟩
  · repeat' first|refine sW ⟨?_⟩|(refine sp ?_ ?_<;>refine fun h=>⟨?_⟩)|fail
    conv => whnf
    refine ⟨?_, ?_⟩
    · repeat' first|refine sW ⟨?_⟩|(refine sp ?_ ?_<;>refine fun h=>⟨?_⟩)|fail
      conv => whnf
      exact .inr ⟨rfl, rfl⟩
    · repeat' first|refine sW ⟨?_⟩|(refine sp ?_ ?_<;>refine fun h=>⟨?_⟩)|fail
      conv => whnf
      refine ⟨Nat.le_refl _, Nat.le_of_ble_eq_true rfl, limbs [], rfl, ?_⟩
      repeat' first|refine sW ⟨?_⟩|(refine sp ?_ ?_<;>refine fun h=>⟨?_⟩)|fail
      conv => whnf
      exact .inl rfl
  · repeat' first|refine sW ⟨?_⟩|(refine sp ?_ ?_<;>refine fun h=>⟨?_⟩)|fail
    conv => whnf
    refine ⟨Nat.le_refl _, (show (0 + (limbs (x :: l)).length) * 4 ≤ _ by omega), limbs (x :: l), rfl, ?_⟩
    repeat' first|refine sW ⟨?_⟩|(refine sp ?_ ?_<;>refine fun h=>⟨?_⟩)|fail
    conv => whnf
    exact .inl rfl
theorem shr32 (n : Nat) : ((n / 4294967296 : Nat) : Int) = Int.fdiv (n : Int) (2 ^ (min (Int.toNat 32) (IntKind.bits .u64))) := by
  have e : (2 : Int) ^ (min (Int.toNat 32) (IntKind.bits .u64)) = ((4294967296 : Nat) : Int) := by decide
  rw [e, Int.fdiv_eq_ediv_of_nonneg _ (by omega)]; omega
set_option maxHeartbeats 2000000 in
theorem c_step (l : List Nat) (b m : Nat) (hs : small l) (hl : l.length < 1000000) (hb : b < 4294967296) (hm : m < 4294967296) : VCall Go.Proofs.Tryz.prog gl 210 [.ro 1 (limbs l), .int .u64 b, .int .u64 m] (fun x => x = .fr 210 1 (limbs (lim (lval l * b + m)))) := by
  refine vcall_of TOK_step HM Go.Proofs.Tryz.func210 rfl (by decide +kernel) (by decide +kernel) rfl ?_
  have hlen : (limbs l).length = l.length := limbs_length l
  repeat' first|refine sW ⟨?_⟩|(refine sp ?_ ?_<;>refine fun h=>⟨?_⟩)|fail
  conv => whnf
  refine ⟨by omega, by omega, by omega, (show (((limbs l).length : Int) + 1) * 4 ≤ _ by omega), 0, rfl, ?_⟩
  repeat' first|refine sW ⟨?_⟩|(refine sp ?_ ?_<;>refine fun h=>⟨?_⟩)|fail
  refine ⟨[1, 2, 7, 14, 15, 16], [0], fun k st => ∃ (i : Nat) (o : List Nat) (c : Nat), i ≤ l.length ∧ k = l.length - i ∧ o.length = i ∧ small o ∧ c < 4294967296 ∧ lval o + BB ^ i * c = lval (l.take i) * b + m ∧
    st = ⟨[(1, .int .u64 b), (2, .int .u64 c), (7, .own 0 0 (limbs o).length), (14, .ro 1 (limbs l)), (15, .int .i64 ((limbs l).length : Nat)), (16, .int .i64 (i : Nat))], [.row false 210 1 (limbs o)]⟩, rfl,
    ⟨l.length, 0, [], m, by omega, rfl, rfl, by simp [small], hm, by simp [lval], rfl⟩, ?_⟩
  rintro k _ ⟨i, o, c, hi, hk, ho, hso, hc, hv, rfl⟩
  rcases Nat.lt_or_ge i l.length with hil | hge
  · have hx := hs l[i] (List.getElem_mem hil)
    have hx' : l[i] < 4294967296 := hx
    have hm1 : l[i] * b ≤ 4294967295 * 4294967295 := Nat.mul_le_mul (by omega) (by omega)
    have hm2 : (l[i] : Int) * (b : Int) = ((l[i] * b : Nat) : Int) := by simp
    have hm3 : (0 : Int) ≤ (l[i] : Int) * (b : Int) := by omega
    have hm4 : (l[i] : Int) * (b : Int) ≤ 18446744065119617025 := by omega
    have hol : (limbs o).length = i := by rw [limbs_length]; exact ho
    repeat' first|refine sW ⟨?_⟩|(refine sp ?_ ?_<;>refine fun h=>⟨?_⟩)|fail
    rotate_left
    · exact absurd h (by omega)
    conv => whnf
    have he : ((c : Int) + (l[i] : Int) * (b : Int)) % 4294967296 = (((c + l[i] * b) % 4294967296 : Nat) : Int) := by omega
    refine ⟨Nat.le_refl _, (show ((limbs o).length + 1) * 4 ≤ _ by omega), _, limbs_snoc' o _ he, ?_⟩
    repeat' first|refine sW ⟨?_⟩|(refine sp ?_ ?_<;>refine fun h=>⟨?_⟩)|fail
    refine ⟨by decide, _, shr32 (c + l[i] * b), ?_⟩
    repeat' first|refine sW ⟨?_⟩|(refine sp ?_ ?_<;>refine fun h=>⟨?_⟩)|fail
    refine ⟨[2], l.length - (i + 1), rfl, by omega, i + 1, o ++ [(c + l[i] * b) % 4294967296], (c + l[i] * b) / 4294967296, by omega, rfl, by simp [ho], small_append hso (by simp [small, BB]; omega), by omega, ?_, rfl⟩
    have e1 : BB ^ i * ((c + l[i] * b) % 4294967296) + BB ^ i * (BB * ((c + l[i] * b) / 4294967296)) = BB ^ i * c + BB ^ i * (l[i] * b) := by
      rw [← Nat.mul_add, ← Nat.mul_add]; congr 1; exact Nat.mod_add_div _ _
    rw [lval_snoc, lval_take_succ hil, ho, Nat.pow_succ, Nat.mul_assoc (BB ^ i) BB, Nat.add_mul, Nat.mul_assoc (BB ^ i)]
    omega
  · have hol : (limbs o).length = i := by rw [limbs_length]; exact ho
    repeat' first|refine sW ⟨?_⟩|(refine sp ?_ ?_<;>refine fun h=>⟨?_⟩)|fail
    · exact absurd h (by omega)
    conv => whnf
    have he : (c : Int) % 4294967296 = (c : Nat) := by omega
    refine ⟨Nat.le_refl _, (show ((limbs o).length + 1) * 4 ≤ _ by omega), _, limbs_snoc' o _ he, ?_⟩
    repeat' first|refine sW ⟨?_⟩|(refine sp ?_ ?_<;>refine fun h=>⟨?_⟩)|fail
    conv => whnf
    have hso2 : small (o ++ [c]) := small_append hso (by simp [small, BB]; omega)
    refine .inr ⟨[2], rfl, _, c_trimH gl (o ++ [c]) hso2 (by simp; omega), ?_⟩
    rintro _ _ ⟨rfl, hpre, rfl⟩
    repeat' first|refine sW ⟨?_⟩|(refine sp ?_ ?_<;>refine fun h=>⟨?_⟩)|fail
    conv => whnf
    refine .inr (.inl ?_)
    have e1 : i = l.length := by omega
    have e2 : lval (o ++ [c]) = lval l * b + m := by
      rw [lval_snoc, ho, hv, e1, List.take_length]
    show AV.fr _ _ ((limbs (o ++ [c])).take (lim (lval (o ++ [c]))).length) = _
    rw [limbs_take, ← hpre, e2]
end Go.V
namespace Go.V
open Go.N
variable (gl : Gl)
def T_small : Tab := [(171, i171), (210, i210), (3, i3), (207, i207)]
theorem TOK_small : TOK Go.Proofs.Tryz.prog T_small := ⟨K171, ⟨K210, ⟨K3, ⟨K207, trivial⟩⟩⟩⟩
set_option maxHeartbeats 2000000 in
theorem c_small (l : List Nat) (b : Nat) (hs : small l) (hl : l.length < 1000000) (hb0 : 0 < b) (hb : b < 4294967296) : VCall Go.Proofs.Tryz.prog gl 188 [.ro 1 (limbs l), .int .u64 b]
    (fun x => ∃ q, x = .tup [q, .int .u64 ((lval l % b : Nat) : Int)] ∧ (q = .fr 210 1 (limbs (lim (lval l / b))) ∨ (l = [] ∧ q = .ro 1 (limbs [])))) := by
  refine vcall_of TOK_small HM Go.Proofs.Tryz.func188 rfl (by decide +kernel) (by decide +kernel) rfl ?_
  have hlen : (limbs l).length = l.length := limbs_length l
  repeat' first|refine sW ⟨?_⟩|(refine sp ?_ ?_<;>refine fun h=>⟨?_⟩)|fail
  conv => whnf
  refine .inl ⟨_, c_Clone gl l hl, ?_⟩
  rintro _ (rfl | ⟨rfl, rfl⟩)
  · repeat' first|refine sW ⟨?_⟩|(refine sp ?_ ?_<;>refine fun h=>⟨?_⟩)|fail
    conv => whnf
    refine ⟨[1, 6, 7, 8], [0], fun k st => ∃ (j : Nat) (qs : List Nat) (r : Nat), j ≤ l.length ∧ k = j ∧ qs.length = l.length - j ∧ small qs ∧ r < b ∧ lval (l.drop j) = lval qs * b + r ∧
      st = ⟨[(1, .int .u64 b), (6, .own 0 0 (limbs l).length), (7, .int .u64 (r : Nat)), (8, .int .i64 ((j : Int) - 1))], [.row false 210 1 (limbs (l.take j ++ qs))]⟩, rfl,
      ⟨l.length, l.length, [], 0, Nat.le_refl _, rfl, by simp, by simp [small], hb0, by simp [lval], ?_⟩, ?_⟩
    · have he : l.take l.length ++ [] = l := by simp
      rw [he, ← hlen]; rfl
    rintro k _ ⟨j, qs, r, hj, hk, hq, hsq, hr, hv, rfl⟩
    rcases j with _ | j
    · simp only [List.drop_zero] at hv
      have hd : lval l / b = lval qs := by rw [hv, Nat.add_comm, Nat.add_mul_div_right _ _ hb0, Nat.div_eq_of_lt hr]; omega
      have hm : lval l % b = r := by rw [hv, Nat.add_comm, Nat.add_mul_mod_self_right, Nat.mod_eq_of_lt hr]
      have e0 : (limbs l).length = (limbs (l.take 0 ++ qs)).length := by simp; omega
      rw [e0]
      repeat' first|refine sW ⟨?_⟩|(refine sp ?_ ?_<;>refine fun h=>⟨?_⟩)|fail
      conv => whnf
      refine .inr ⟨[0], rfl, _, c_trimH gl (l.take 0 ++ qs) (by simpa using hsq) (by simp; omega), ?_⟩
      rintro _ _ ⟨rfl, hpre, rfl⟩
      repeat' first|refine sW ⟨?_⟩|(refine sp ?_ ?_<;>refine fun h=>⟨?_⟩)|fail
      conv => whnf
      refine .inr (.inl ?_)
      rw [hm, hd]
      refine ⟨_, rfl, .inl ?_⟩
      show AV.fr _ _ ((limbs (l.take 0 ++ qs)).take (lim (lval (l.take 0 ++ qs))).length) = _
      rw [limbs_take, ← hpre]
      rfl
    · have hjl : j < l.length := by omega
      have hx := hs l[j] (List.getElem_mem hjl)
      have hx' : l[j] < 4294967296 := hx
      have hget : (limbs (l.take (j + 1) ++ qs))[0 + j]? = some [.int .u32 ((l[j] : Nat) : Int)] := by
        rw [Nat.zero_add, limbs_get (by simp; omega)]
        congr 4
        rw [List.getElem_append_left (by simp; omega), List.getElem_take]
      have hol : (limbs l).length = l.length := hlen
      rw [show ((j + 1 : Nat) : Int) - 1 = j by omega]
      repeat' first|refine sW ⟨?_⟩|(refine sp ?_ ?_<;>refine fun h=>⟨?_⟩)|fail
      refine ⟨by decide, _, shl32 r (by omega), ?_⟩
      repeat' first|refine sW ⟨?_⟩|(refine sp ?_ ?_<;>refine fun h=>⟨?_⟩)|fail
      refine ⟨by omega, (show ((r * 4294967296 : Nat) : Int) < 18446744073709551616 by omega), by omega, (show ((l[j] : Nat) : Int) < 18446744073709551616 by omega), _, or32 r l[j] (by omega) hx', ?_⟩
      repeat' first|refine sW ⟨?_⟩|(refine sp ?_ ?_<;>refine fun h=>⟨?_⟩)|fail
      have hn0 : r * 4294967296 + l[j] < b * 4294967296 := by
        have : (r + 1) * 4294967296 ≤ b * 4294967296 := Nat.mul_le_mul_right _ hr
        omega
      have hqb : (r * 4294967296 + l[j]) / b < 4294967296 := (Nat.div_lt_iff_lt_mul hb0).2 (by omega)
      have hdm := Nat.div_add_mod (r * 4294967296 + l[j]) b
      have hmb := Nat.mod_lt (r * 4294967296 + l[j]) hb0
      refine ⟨by omega, _, quo64 (r * 4294967296 + l[j]) b (by omega), ?_⟩
      generalize hQ : (r * 4294967296 + l[j]) / b = Q at hqb hdm
      repeat' first|refine sW ⟨?_⟩|(refine sp ?_ ?_<;>refine fun h=>⟨?_⟩)|fail
      conv => whnf
      refine ⟨by omega, _, rem64 (r * 4294967296 + l[j]) b, ?_⟩
      generalize hR : (r * 4294967296 + l[j]) % b = R at hdm hmb
      repeat' first|refine sW ⟨?_⟩|(refine sp ?_ ?_<;>refine fun h=>⟨?_⟩)|fail
      have hlen2 : (l.take (j + 1) ++ qs).set j Q = l.take j ++ Q :: qs := by
        rw [List.take_succ_eq_append_getElem hjl, List.append_assoc, List.set_append_right _ _ (by simp; omega)]
        simp [Nat.min_eq_left (show j ≤ l.length by omega)]
      have he : (limbs (l.take (j + 1) ++ qs)).set (0 + j) [.int .u32 ((Q : Int) % 4294967296)] = limbs (l.take j ++ Q :: qs) := by
        rw [Nat.zero_add, limbs_set _ _ Q (by omega), hlen2]
      refine ⟨[0], j, rfl, by omega, j, Q :: qs, R, by omega, rfl, by simp; omega, ?_, hmb, ?_, ?_⟩
      · intro y hy
        simp only [List.mem_cons] at hy
        rcases hy with rfl | hy
        · exact hqb
        · exact hsq y hy
      · rw [lval_drop hjl, hv]
        simp only [lval]
        rw [Nat.add_mul, Nat.mul_add, ← Nat.mul_assoc]
        have e1 : BB * r + l[j] = b * Q + R := by rw [hdm, Nat.mul_comm]; rfl
        rw [Nat.mul_comm Q b]; omega
      · exact Eq.trans rfl (congrArg (fun z => (⟨[(1, .int .u64 b), (6, .own 0 0 (limbs l).length), (7, .int .u64 (R : Nat)), (8, .int .i64 ((j : Int) - 1))], [.row false 210 1 z]⟩ : St)) he)
  · repeat' first|refine sW ⟨?_⟩|(refine sp ?_ ?_<;>refine fun h=>⟨?_⟩)|fail
    conv => whnf
    refine ⟨[1, 6, 7, 8], [], fun k st => st = ⟨[(1, .int .u64 b), (6, .nils), (7, .int .u64 0), (8, .int .i64 (-1))], []⟩, rfl, ⟨0, rfl⟩, ?_⟩
    rintro k _ rfl
    repeat' first|refine sW ⟨?_⟩|(refine sp ?_ ?_<;>refine fun h=>⟨?_⟩)|fail
    conv => whnf
    refine .inl ⟨_, c_trim gl [] (by simp [small]) (by simp), ?_⟩
    rintro _ rfl
    repeat' first|refine sW ⟨?_⟩|(refine sp ?_ ?_<;>refine fun h=>⟨?_⟩)|fail
    conv => whnf
    refine ⟨_, ?_, .inr ⟨rfl, rfl⟩⟩
    simp [lval, lim_zero]; rfl
end Go.V
namespace Go.V
open Go.N
variable (gl : Gl)
def T_sub : Tab := [(171, i171), (210, i210), (3, i3), (207, i207)]
theorem TOK_sub : TOK Go.Proofs.Tryz.prog T_sub := ⟨K171, ⟨K210, ⟨K3, ⟨K207, trivial⟩⟩⟩⟩
def T_shift : Tab := [(207, i207), (171, i171), (210, i210)]
theorem TOK_shift : TOK Go.Proofs.Tryz.prog T_shift := ⟨K207, ⟨K171, ⟨K210, trivial⟩⟩⟩
set_option maxHeartbeats 2000000 in
theorem c_sub (l l2 : List Nat) (hs : small l) (hs2 : small l2) (hl : l.length < 1000000) (hll : l2.length ≤ l.length) (hle : lval l2 ≤ lval l) : VCall Go.Proofs.Tryz.prog gl 195 [.ro 1 (limbs l), .ro 1 (limbs l2)]
    (fun x => x = .fr 210 1 (limbs (lim (lval l - lval l2))) ∨ (l = [] ∧ x = .ro 1 (limbs []))) := by
  refine vcall_of TOK_sub HM Go.Proofs.Tryz.func195 rfl (by decide +kernel) (by decide +kernel) rfl ?_
  have hlen : (limbs l).length = l.length := limbs_length l
  have hlen2 : (limbs l2).length = l2.length := limbs_length l2
  repeat' first|refine sW ⟨?_⟩|(refine sp ?_ ?_<;>refine fun h=>⟨?_⟩)|fail
  conv => whnf
  refine .inl ⟨_, c_Clone gl l hl, ?_⟩
  rintro _ (rfl | ⟨rfl, rfl⟩)
  · repeat' first|refine sW ⟨?_⟩|(refine sp ?_ ?_<;>refine fun h=>⟨?_⟩)|fail
    refine ⟨[1, 5, 6, 12, 13], [0], fun k st => ∃ (i : Nat) (o : List Nat) (c : Nat), i ≤ l.length ∧ k = l.length - i ∧ o.length = i ∧ small o ∧ c ≤ 1 ∧ lval o + lval (l2.take i) = lval (l.take i) + BB ^ i * c ∧
      st = ⟨[(1, .ro 1 (limbs l2)), (5, .own 0 0 (limbs l).length), (6, .int .u64 (c : Nat)), (12, .int .i64 ((limbs l).length : Nat)), (13, .int .i64 (i : Nat))], [.row false 210 1 (limbs (o ++ l.drop i))]⟩, rfl,
      ⟨l.length, 0, [], 0, by omega, rfl, rfl, by simp [small], by omega, by simp [lval], by rfl⟩, ?_⟩
    rintro k _ ⟨i, o, c, hi, hk, ho, hso, hc, hv, rfl⟩
    rcases Nat.lt_or_ge i l.length with hil | hge
    · have hx := hs l[i] (List.getElem_mem hil)
      have hx' : l[i] < 4294967296 := hx
      have hget : (limbs (o ++ l.drop i))[0 + i]? = some [.int .u32 ((l[i] : Nat) : Int)] := by
        rw [Nat.zero_add, limbs_get (by simp; omega)]
        congr 4
        rw [List.getElem_append_right (by omega)]
        simp [ho]
      have hset : ∀ v, (o ++ l.drop i).set i v = (o ++ [v]) ++ l.drop (i + 1) := fun v => by
        rw [List.drop_eq_getElem_cons hil, List.set_append_right _ _ (by omega), ho, Nat.sub_self, List.append_assoc]; rfl
      rcases Nat.lt_or_ge i l2.length with hi2 | hg2
      · have hy := hs2 l2[i] (List.getElem_mem hi2)
        have hy' : l2[i] < 4294967296 := hy
        have ht2 := lval_take_succ hi2
        repeat' first|refine sW ⟨?_⟩|(refine sp ?_ ?_<;>refine fun h=>⟨?_⟩)|fail
        all_goals try omega
        · refine ⟨by decide, _, shl32 1 (by decide), ?_⟩
          repeat' first|refine sW ⟨?_⟩|(refine sp ?_ ?_<;>refine fun h=>⟨?_⟩)|fail
          refine ⟨[0], l.length - (i + 1), rfl, by omega, i + 1, o ++ [l[i] + 1 * 4294967296 - (c + l2[i])], 1, by omega, rfl, by simp [ho], small_append hso (by simp [small, BB]; omega), by omega, ?_, ?_⟩
          · rw [lval_snoc, lval_take_succ hil, ho, Nat.pow_succ, Nat.mul_assoc (BB ^ i) BB]
            have e1 : BB ^ i * (l[i] + 1 * 4294967296 - (c + l2[i])) + BB ^ i * (c + l2[i]) = BB ^ i * l[i] + BB ^ i * (BB * 1) := by
              rw [← Nat.mul_add, ← Nat.mul_add]; congr 1; simp only [BB]; omega
            rw [Nat.mul_add (BB ^ i) c] at e1; rw [ht2]; omega
          · have he : (limbs (o ++ l.drop i)).set (0 + i) [AV.int .u32 ((((l[i] : Nat) : Int) + ((1 * 4294967296 : Nat) : Int) - ((c : Int) + ((l2[i] : Nat) : Int))) % 4294967296)] = limbs ((o ++ [l[i] + 1 * 4294967296 - (c + l2[i])]) ++ l.drop (i + 1)) := by
              rw [Nat.zero_add, limbs_set _ _ (l[i] + 1 * 4294967296 - (c + l2[i])) (by omega), hset]
            exact Eq.trans rfl (congrArg (fun z => (⟨[(1, .ro 1 (limbs l2)), (5, .own 0 0 (limbs l).length), (6, .int .u64 ((1 : Nat) : Int)), (12, .int .i64 ((limbs l).length : Nat)), (13, .int .i64 ((i + 1 : Nat) : Int))], [.row false 210 1 z]⟩ : St)) he)
        · refine ⟨by decide, _, shl32 0 (by decide), ?_⟩
          repeat' first|refine sW ⟨?_⟩|(refine sp ?_ ?_<;>refine fun h=>⟨?_⟩)|fail
          refine ⟨[0], l.length - (i + 1), rfl, by omega, i + 1, o ++ [l[i] + 0 * 4294967296 - (c + l2[i])], 0, by omega, rfl, by simp [ho], small_append hso (by simp [small, BB]; omega), by omega, ?_, ?_⟩
          · rw [lval_snoc, lval_take_succ hil, ho, Nat.pow_succ, Nat.mul_assoc (BB ^ i) BB]
            have e1 : BB ^ i * (l[i] + 0 * 4294967296 - (c + l2[i])) + BB ^ i * (c + l2[i]) = BB ^ i * l[i] + BB ^ i * (BB * 0) := by
              rw [← Nat.mul_add, ← Nat.mul_add]; congr 1; simp only [BB]; omega
            rw [Nat.mul_add (BB ^ i) c] at e1; rw [ht2]; omega
          · have he : (limbs (o ++ l.drop i)).set (0 + i) [AV.int .u32 ((((l[i] : Nat) : Int) + ((0 * 4294967296 : Nat) : Int) - ((c : Int) + ((l2[i] : Nat) : Int))) % 4294967296)] = limbs ((o ++ [l[i] + 0 * 4294967296 - (c + l2[i])]) ++ l.drop (i + 1)) := by
              rw [Nat.zero_add, limbs_set _ _ (l[i] + 0 * 4294967296 - (c + l2[i])) (by omega), hset]
            exact Eq.trans rfl (congrArg (fun z => (⟨[(1, .ro 1 (limbs l2)), (5, .own 0 0 (limbs l).length), (6, .int .u64 ((0 : Nat) : Int)), (12, .int .i64 ((limbs l).length : Nat)), (13, .int .i64 ((i + 1 : Nat) : Int))], [.row false 210 1 z]⟩ : St)) he)
      · have ht2 : l2.take (i + 1) = l2.take i := by rw [List.take_of_length_le (by omega), List.take_of_length_le (by omega)]
        repeat' first|refine sW ⟨?_⟩|(refine sp ?_ ?_<;>refine fun h=>⟨?_⟩)|fail
        all_goals try omega
        · refine ⟨by decide, _, shl32 1 (by decide), ?_⟩
          repeat' first|refine sW ⟨?_⟩|(refine sp ?_ ?_<;>refine fun h=>⟨?_⟩)|fail
          refine ⟨[0], l.length - (i + 1), rfl, by omega, i + 1, o ++ [l[i] + 1 * 4294967296 - (c)], 1, by omega, rfl, by simp [ho], small_append hso (by simp [small, BB]; omega), by omega, ?_, ?_⟩
          · rw [lval_snoc, lval_take_succ hil, ho, Nat.pow_succ, Nat.mul_assoc (BB ^ i) BB]
            have e1 : BB ^ i * (l[i] + 1 * 4294967296 - (c)) + BB ^ i * (c) = BB ^ i * l[i] + BB ^ i * (BB * 1) := by
              rw [← Nat.mul_add, ← Nat.mul_add]; congr 1; simp only [BB]; omega
            rw [ht2]; omega
          · have he : (limbs (o ++ l.drop i)).set (0 + i) [AV.int .u32 ((((l[i] : Nat) : Int) + ((1 * 4294967296 : Nat) : Int) - (c : Int)) % 4294967296)] = limbs ((o ++ [l[i] + 1 * 4294967296 - (c)]) ++ l.drop (i + 1)) := by
              rw [Nat.zero_add, limbs_set _ _ (l[i] + 1 * 4294967296 - (c)) (by omega), hset]
            exact Eq.trans rfl (congrArg (fun z => (⟨[(1, .ro 1 (limbs l2)), (5, .own 0 0 (limbs l).length), (6, .int .u64 ((1 : Nat) : Int)), (12, .int .i64 ((limbs l).length : Nat)), (13, .int .i64 ((i + 1 : Nat) : Int))], [.row false 210 1 z]⟩ : St)) he)
        · refine ⟨by decide, _, shl32 0 (by decide), ?_⟩
          repeat' first|refine sW ⟨?_⟩|(refine sp ?_ ?_<;>refine fun h=>⟨?_⟩)|fail
          refine ⟨[0], l.length - (i + 1), rfl, by omega, i + 1, o ++ [l[i] + 0 * 4294967296 - (c)], 0, by omega, rfl, by simp [ho], small_append hso (by simp [small, BB]; omega), by omega, ?_, ?_⟩
          · rw [lval_snoc, lval_take_succ hil, ho, Nat.pow_succ, Nat.mul_assoc (BB ^ i) BB]
            have e1 : BB ^ i * (l[i] + 0 * 4294967296 - (c)) + BB ^ i * (c) = BB ^ i * l[i] + BB ^ i * (BB * 0) := by
              rw [← Nat.mul_add, ← Nat.mul_add]; congr 1; simp only [BB]; omega
            rw [ht2]; omega
          · have he : (limbs (o ++ l.drop i)).set (0 + i) [AV.int .u32 ((((l[i] : Nat) : Int) + ((0 * 4294967296 : Nat) : Int) - (c : Int)) % 4294967296)] = limbs ((o ++ [l[i] + 0 * 4294967296 - (c)]) ++ l.drop (i + 1)) := by
              rw [Nat.zero_add, limbs_set _ _ (l[i] + 0 * 4294967296 - (c)) (by omega), hset]
            exact Eq.trans rfl (congrArg (fun z => (⟨[(1, .ro 1 (limbs l2)), (5, .own 0 0 (limbs l).length), (6, .int .u64 ((0 : Nat) : Int)), (12, .int .i64 ((limbs l).length : Nat)), (13, .int .i64 ((i + 1 : Nat) : Int))], [.row false 210 1 z]⟩ : St)) he)
    · repeat' first|refine sW ⟨?_⟩|(refine sp ?_ ?_<;>refine fun h=>⟨?_⟩)|fail
      all_goals try omega
      conv => whnf
      have e1 : i = l.length := by omega
      have hlt := lval_lt hso
      rw [e1, List.take_length, List.take_of_length_le (by omega)] at hv
      have hb : lval l < BB ^ l.length := lval_lt hs
      rw [ho, e1] at hlt
      have hc0 : c = 0 := by
        rcases Nat.lt_or_ge c 1 with h | h
        · omega
        · obtain rfl : c = 1 := by omega
          omega
      have e2 : lval (o ++ l.drop i) = lval l - lval l2 := by
        rw [List.drop_of_length_le (by omega), List.append_nil]
        rw [hc0] at hv; omega
      have e3 : (limbs l).length = (limbs (o ++ l.drop i)).length := by simp; omega
      have hcall := c_trimH gl (o ++ l.drop i) (small_append hso fun x hx => hs x (List.mem_of_mem_drop hx)) (by simp; omega)
      rw [← e3] at hcall
      refine .inr ⟨[0], rfl, _, hcall, ?_⟩
      rintro _ _ ⟨rfl, hpre, rfl⟩
      repeat' first|refine sW ⟨?_⟩|(refine sp ?_ ?_<;>refine fun h=>⟨?_⟩)|fail
      conv => whnf
      refine .inr (.inl (.inl ?_))
      show AV.fr _ _ ((limbs (o ++ l.drop i)).take (lim (lval (o ++ l.drop i))).length) = _
      rw [limbs_take, ← hpre, e2]
  · repeat' first|refine sW ⟨?_⟩|(refine sp ?_ ?_<;>refine fun h=>⟨?_⟩)|fail
    refine ⟨[1, 5, 6, 12, 13], [], fun k st => st = ⟨[(1, .ro 1 (limbs l2)), (5, .nils), (6, .int .u64 0), (12, .int .i64 0), (13, .int .i64 0)], []⟩, rfl, ⟨0, rfl⟩, ?_⟩
    rintro k _ rfl
    repeat' first|refine sW ⟨?_⟩|(refine sp ?_ ?_<;>refine fun h=>⟨?_⟩)|fail
    conv => whnf
    refine .inl ⟨_, c_trim gl [] (by simp [small]) (by simp), ?_⟩
    rintro _ rfl
    repeat' first|refine sW ⟨?_⟩|(refine sp ?_ ?_<;>refine fun h=>⟨?_⟩)|fail
    conv => whnf
    refine .inr ⟨rfl, ?_⟩
    simp [lval, lim_zero]; rfl
theorem shl_one (n : Nat) (h : n < 32) : ((2 ^ n : Nat) : Int) = IntKind.wrap .u64 (1 * 2 ^ (min ((n : Nat) : Int).toNat (IntKind.bits .u64))) := by
  have e : min ((n : Nat) : Int).toNat (IntKind.bits .u64) = n := by simp [IntKind.bits]; omega
  have h1 : 2 ^ n ≤ 2 ^ 32 := Nat.pow_le_pow_right (by omega) (by omega)
  rw [e]
  have e2 : ((2 ^ n : Nat) : Int) = 1 * 2 ^ n := by simp
  rw [← e2]
  generalize 2 ^ n = q at h1
  exact wu64 (by omega) (by omega)
theorem c_shift (l : List Nat) (n : Nat) (hs : small l) (hl : l.length < 1000000) (hn : n < 32) : VCall Go.Proofs.Tryz.prog gl 189 [.ro 1 (limbs l), .int .u64 (n : Nat)] (fun x => x = .fr 210 1 (limbs (lim (lval l * 2 ^ n)))) := by
  refine vcall_of TOK_shift HM Go.Proofs.Tryz.func189 rfl (by decide +kernel) (by decide +kernel) rfl ?_
  have h1 : 2 ^ n ≤ 2 ^ 31 := Nat.pow_le_pow_right (by omega) (by omega)
  repeat' first|refine sW ⟨?_⟩|(refine sp ?_ ?_<;>refine fun h=>⟨?_⟩)|fail
  refine ⟨by omega, _, shl_one n hn, ?_⟩
  repeat' first|refine sW ⟨?_⟩|(refine sp ?_ ?_<;>refine fun h=>⟨?_⟩)|fail
  conv => whnf
  have hc := c_step gl l (2 ^ n) 0 hs hl (by omega) (by omega)
  rw [Nat.add_zero] at hc
  refine .inl ⟨_, hc, ?_⟩
  rintro _ rfl
  repeat' first|refine sW ⟨?_⟩|(refine sp ?_ ?_<;>refine fun h=>⟨?_⟩)|fail
  conv => whnf
  rfl
end Go.V
namespace Go.V
open Go.N
variable (gl : Gl)
def T_read : Tab := [(9, i9), (3, i3), (207, i207), (5, i5), (171, i171), (210, i210)]
theorem TOK_read : TOK Go.Proofs.Tryz.prog T_read := ⟨K9, ⟨K3, ⟨K207, ⟨K5, ⟨K171, ⟨K210, trivial⟩⟩⟩⟩⟩⟩
theorem tmod_pred (a b : Nat) (h : 0 < a) : (((a - 1) % b : Nat) : Int) = Int.tmod ((a : Int) - 1) ((b : Nat) : Int) := by
  rw [show (a : Int) - 1 = ((a - 1 : Nat) : Int) by omega, ← Int.ofNat_tmod]
set_option maxHeartbeats 2000000 in
theorem c_read (s : ByteArray) (hd : s.toList.all isDig = true) (hs : s.size < 1000000) : VCall Go.Proofs.Tryz.prog gl 186 [.str s] (fun x => x = .fr 210 1 (limbs (lim (dval s.toList))) ∨ (s.size = 0 ∧ x = .nils)) := by
  refine vcall_of TOK_read HM Go.Proofs.Tryz.func186 rfl (by decide +kernel) (by decide +kernel) rfl ?_
  repeat' first|refine sW ⟨?_⟩|(refine sp ?_ ?_<;>refine fun h=>⟨?_⟩)|fail
  refine ⟨[0, 3], [], fun k st => ∃ (t : ByteArray) (N : Nat), k = t.size ∧ t.size ≤ s.size ∧ t.toList.all isDig = true ∧ dval s.toList = N * 10 ^ t.size + dval t.toList ∧ N < 10 ^ (s.size - t.size) ∧
    ((N = 0 ∧ t.size = s.size ∧ st = ⟨[(0, .str t), (3, .nils)], []⟩) ∨ (t.size % 9 = 0 ∧ st = ⟨[(0, .str t), (3, .own 0 0 (limbs (lim N)).length)], [.row false 210 1 (limbs (lim N))]⟩)), rfl, ⟨s.size, s, 0, rfl, Nat.le_refl _, hd, by simp, by simp, .inl ⟨rfl, rfl, rfl⟩⟩, ?_⟩
  rintro k _ ⟨t, N, hk, hts, htd, hv, hN, ⟨hN0, hts2, rfl⟩ | ⟨h9, rfl⟩⟩
  · rcases Nat.eq_zero_or_pos t.size with h0 | hpos
    · repeat' first|refine sW ⟨?_⟩|(refine sp ?_ ?_<;>refine fun h=>⟨?_⟩)|fail
      all_goals try omega
      conv => whnf
      exact .inr ⟨by omega, rfl⟩
    · have hl := Go.N.len_toList t
      repeat' first|refine sW ⟨?_⟩|(refine sp ?_ ?_<;>refine fun h=>⟨?_⟩)|fail
      rotate_left
      · omega
      refine ⟨by decide, _, tmod_pred t.size 9 hpos, ?_⟩
      generalize hr0 : (t.size - 1) % 9 = r0
      have hr9 : r0 < 9 := by omega
      repeat' first|refine sW ⟨?_⟩|(refine sp ?_ ?_<;>refine fun h=>⟨?_⟩)|fail
      conv => whnf
      refine ⟨[0, 3, 4, 5, 15, 16], [], fun k st => ∃ (i v : Nat), i ≤ r0 + 1 ∧ k = r0 + 1 - i ∧ v = dval (t.toList.take i) ∧
        st = ⟨[(0, .str t), (3, .nils), (4, .int .i64 ((r0 + 1 : Nat) : Int)), (5, .int .u64 (v : Nat)), (15, .int .i64 ((r0 + 1 : Nat) : Int)), (16, .int .i64 (i : Nat))], []⟩, rfl, ⟨r0 + 1, 0, 0, by omega, rfl, by simp [dval], rfl⟩, ?_⟩
      rintro k2 _ ⟨i, v, hi, hk2, hvi, rfl⟩
      have hvb : v < 10 ^ i := by
        rw [hvi]
        have := dval_lt (l := t.toList.take i) (by rw [List.all_eq_true] at htd ⊢; exact fun x hx => htd x (List.mem_of_mem_take hx))
        rwa [List.length_take, Nat.min_eq_left (by omega)] at this
      have hvb2 : v < 1000000000 := Nat.lt_of_lt_of_le hvb (Nat.le_trans (Nat.pow_le_pow_right (by omega) (show i ≤ 9 by omega)) (by decide))
      rcases Nat.lt_or_ge i (r0 + 1) with hir | hge
      · obtain ⟨hd1, hd2⟩ := all_dig_get htd (show i < t.toList.length by omega)
        have hvi2 := dval_take t.toList i (by omega)
        repeat' first|refine sW ⟨?_⟩|(refine sp ?_ ?_<;>refine fun h=>⟨?_⟩)|fail
        all_goals try omega
        refine ⟨[], r0 + 1 - (i + 1), rfl, by omega, i + 1, 10 * v + ((t.toList[i]'(by omega)).toNat - 48), by omega, rfl, ?_, ?_⟩
        · rw [hvi2, hvi]
        · have he : (10 : Int) * (v : Nat) + (((t.toList[i]'(by omega)).toNat : Int) - 48) = ((10 * v + ((t.toList[i]'(by omega)).toNat - 48) : Nat) : Int) := by omega
          exact Eq.trans rfl (congrArg (fun z => (⟨[(0, .str t), (3, .nils), (4, .int .i64 ((r0 + 1 : Nat) : Int)), (5, .int .u64 z), (15, .int .i64 ((r0 + 1 : Nat) : Int)), (16, .int .i64 ((i + 1 : Nat) : Int))], []⟩ : St)) he)
      · have e1 : i = r0 + 1 := by omega
        repeat' first|refine sW ⟨?_⟩|(refine sp ?_ ?_<;>refine fun h=>⟨?_⟩)|fail
        all_goals try omega
        have hlt : t.size = (t.size - (r0 + 1)) + (r0 + 1) := by omega
        have hsz : (t.extract ((r0 : Int) + 1).toNat ((t.size : Nat) : Int).toNat).size = t.size - (r0 + 1) := by
          rw [show ((r0 : Int) + 1).toNat = r0 + 1 by omega, Int.toNat_natCast]; simp
        have htl : (t.extract ((r0 : Int) + 1).toNat ((t.size : Nat) : Int).toNat).toList = t.toList.drop (r0 + 1) := by
          rw [ext_toList, show ((r0 : Int) + 1).toNat = r0 + 1 by omega, Int.toNat_natCast, List.take_of_length_le (by simp; omega)]
        have hsp : dval t.toList = v * 10 ^ (t.size - (r0 + 1)) + dval (t.toList.drop (r0 + 1)) := by
          conv => lhs; rw [← List.take_append_drop (r0 + 1) t.toList, dval_app]
          rw [hvi, e1, List.length_drop, hl]
        have hall : (t.toList.drop (r0 + 1)).all isDig = true := by rw [List.all_eq_true] at htd ⊢; exact fun x hx => htd x (List.mem_of_mem_drop hx)
        conv => whnf
        refine .inl ⟨_, c_step gl [] 1000000000 v (by simp [small]) (by simp) (by omega) (by omega), ?_⟩
        rintro _ rfl
        repeat' first|refine sW ⟨?_⟩|(refine sp ?_ ?_<;>refine fun h=>⟨?_⟩)|fail
        refine ⟨[0], _, rfl, ?_, t.extract ((r0 : Int) + 1).toNat ((t.size : Nat) : Int).toNat, lval [] * 1000000000 + v, rfl, by omega, by rw [htl]; exact hall, ?_, ?_, .inr ⟨by omega, rfl⟩⟩
        · rw [hsz]; omega
        · rw [htl, hsz, hv, hsp, hN0]; simp only [lval]; rw [Nat.zero_mul, Nat.zero_add, Nat.zero_mul, Nat.zero_add]
        · rw [hsz, show s.size - (t.size - (r0 + 1)) = r0 + 1 by omega]; simp only [lval]; rw [← e1]; omega
  · rcases Nat.eq_zero_or_pos t.size with h0 | hpos
    · repeat' first|refine sW ⟨?_⟩|(refine sp ?_ ?_<;>refine fun h=>⟨?_⟩)|fail
      all_goals try omega
      conv => whnf
      have ht0 : t.toList = [] := List.eq_nil_of_length_eq_zero (by rw [Go.N.len_toList]; exact h0)
      have e : dval s.toList = N := by rw [hv, ht0, h0]; simp [dval]
      rw [e]
      exact .inl rfl
    · have hl := Go.N.len_toList t
      repeat' first|refine sW ⟨?_⟩|(refine sp ?_ ?_<;>refine fun h=>⟨?_⟩)|fail
      rotate_left
      · omega
      refine ⟨by decide, _, tmod_pred t.size 9 hpos, ?_⟩
      generalize hr0 : (t.size - 1) % 9 = r0
      have hr9 : r0 < 9 := by omega
      repeat' first|refine sW ⟨?_⟩|(refine sp ?_ ?_<;>refine fun h=>⟨?_⟩)|fail
      conv => whnf
      refine ⟨[0, 3, 4, 5, 15, 16], [0], fun k st => ∃ (i v : Nat), i ≤ r0 + 1 ∧ k = r0 + 1 - i ∧ v = dval (t.toList.take i) ∧
        st = ⟨[(0, .str t), (3, .own 0 0 (limbs (lim N)).length), (4, .int .i64 ((r0 + 1 : Nat) : Int)), (5, .int .u64 (v : Nat)), (15, .int .i64 ((r0 + 1 : Nat) : Int)), (16, .int .i64 (i : Nat))], [.row false 210 1 (limbs (lim N))]⟩, rfl, ⟨r0 + 1, 0, 0, by omega, rfl, by simp [dval], rfl⟩, ?_⟩
      rintro k2 _ ⟨i, v, hi, hk2, hvi, rfl⟩
      have hvb : v < 10 ^ i := by
        rw [hvi]
        have := dval_lt (l := t.toList.take i) (by rw [List.all_eq_true] at htd ⊢; exact fun x hx => htd x (List.mem_of_mem_take hx))
        rwa [List.length_take, Nat.min_eq_left (by omega)] at this
      have hvb2 : v < 1000000000 := Nat.lt_of_lt_of_le hvb (Nat.le_trans (Nat.pow_le_pow_right (by omega) (show i ≤ 9 by omega)) (by decide))
      rcases Nat.lt_or_ge i (r0 + 1) with hir | hge
      · obtain ⟨hd1, hd2⟩ := all_dig_get htd (show i < t.toList.length by omega)
        have hvi2 := dval_take t.toList i (by omega)
        repeat' first|refine sW ⟨?_⟩|(refine sp ?_ ?_<;>refine fun h=>⟨?_⟩)|fail
        all_goals try omega
        refine ⟨[0], r0 + 1 - (i + 1), rfl, by omega, i + 1, 10 * v + ((t.toList[i]'(by omega)).toNat - 48), by omega, rfl, ?_, ?_⟩
        · rw [hvi2, hvi]
        · have he : (10 : Int) * (v : Nat) + (((t.toList[i]'(by omega)).toNat : Int) - 48) = ((10 * v + ((t.toList[i]'(by omega)).toNat - 48) : Nat) : Int) := by omega
          exact Eq.trans rfl (congrArg (fun z => (⟨[(0, .str t), (3, .own 0 0 (limbs (lim N)).length), (4, .int .i64 ((r0 + 1 : Nat) : Int)), (5, .int .u64 z), (15, .int .i64 ((r0 + 1 : Nat) : Int)), (16, .int .i64 ((i + 1 : Nat) : Int))], [.row false 210 1 (limbs (lim N))]⟩ : St)) he)
      · have e1 : i = r0 + 1 := by omega
        repeat' first|refine sW ⟨?_⟩|(refine sp ?_ ?_<;>refine fun h=>⟨?_⟩)|fail
        all_goals try omega
        have hlt : t.size = (t.size - (r0 + 1)) + (r0 + 1) := by omega
        have hsz : (t.extract ((r0 : Int) + 1).toNat ((t.size : Nat) : Int).toNat).size = t.size - (r0 + 1) := by
          rw [show ((r0 : Int) + 1).toNat = r0 + 1 by omega, Int.toNat_natCast]; simp
        have htl : (t.extract ((r0 : Int) + 1).toNat ((t.size : Nat) : Int).toNat).toList = t.toList.drop (r0 + 1) := by
          rw [ext_toList, show ((r0 : Int) + 1).toNat = r0 + 1 by omega, Int.toNat_natCast, List.take_of_length_le (by simp; omega)]
        have hsp : dval t.toList = v * 10 ^ (t.size - (r0 + 1)) + dval (t.toList.drop (r0 + 1)) := by
          conv => lhs; rw [← List.take_append_drop (r0 + 1) t.toList, dval_app]
          rw [hvi, e1, List.length_drop, hl]
        have hall : (t.toList.drop (r0 + 1)).all isDig = true := by rw [List.all_eq_true] at htd ⊢; exact fun x hx => htd x (List.mem_of_mem_drop hx)
        conv => whnf
        have hll : (lim N).length ≤ s.size := (lim_len_lt N _).2 (Nat.lt_of_lt_of_le hN (Nat.le_trans (Nat.pow_le_pow_right (by omega) (show s.size - t.size ≤ s.size by omega)) (Nat.pow_le_pow_left (by simp [BB]) _)))
        have hcall := c_step gl (lim N) 1000000000 v (lim_small N) (by omega) (by omega) (by omega)
        rw [← List.take_length (l := limbs (lim N)), ← List.drop_zero (l := limbs (lim N))] at hcall
        refine .inl ⟨_, hcall, ?_⟩
        rintro _ rfl
        conv => whnf
        refine ⟨false, flat_limbs _, ?_⟩
        repeat' first|refine sW ⟨?_⟩|(refine sp ?_ ?_<;>refine fun h=>⟨?_⟩)|fail
        refine ⟨[1], _, rfl, ?_, t.extract ((r0 : Int) + 1).toNat ((t.size : Nat) : Int).toNat, lval (lim N) * 1000000000 + v, rfl, by omega, by rw [htl]; exact hall, ?_, ?_, .inr ⟨by omega, rfl⟩⟩
        · rw [hsz]; omega
        · have h8 : r0 + 1 = 9 := by omega
          rw [htl, hsz, hv, hsp, lval_lim]
          have : N * 10 ^ t.size = N * 1000000000 * 10 ^ (t.size - (r0 + 1)) := by
            conv => lhs; rw [hlt, Nat.pow_add, h8]
            rw [Nat.mul_comm (10 ^ _) (10 ^ 9), ← Nat.mul_assoc]; rw [h8]
          rw [this, Nat.add_mul]; omega
        · have h8 : r0 + 1 = 9 := by omega
          rw [hsz, show s.size - (t.size - (r0 + 1)) = (s.size - t.size) + 9 by omega, lval_lim, Nat.pow_add]
          have : (N + 1) * 1000000000 ≤ 10 ^ (s.size - t.size) * 10 ^ 9 := Nat.mul_le_mul_right _ hN
          omega
end Go.V
namespace Go.V
open Go.N
variable (gl : Gl)
def T_Reverse : Tab := [(214, i214), (5, i5), (3, i3)]
theorem TOK_Reverse : TOK Go.Proofs.Tryz.prog T_Reverse := ⟨K214, ⟨K5, ⟨K3, trivial⟩⟩⟩
set_option maxHeartbeats 2000000 in
theorem c_Reverse (l : List Nat) (hl : l.length < 1000000000) : VCallH Go.Proofs.Tryz.prog gl 192 [.own 0 0 (byts l).length] [.row false 5 1 (byts l)] (fun x h => x = .tup [] ∧ h = [.row false 5 1 (byts l.reverse)]) := by
  refine vcallH_of TOK_Reverse HM Go.Proofs.Tryz.func192 rfl (by decide +kernel) (by decide +kernel) rfl ?_
  have hlen : (byts l).length = l.length := byts_length l
  repeat' first|refine sW ⟨?_⟩|(refine sp ?_ ?_<;>refine fun h=>⟨?_⟩)|fail
  refine ⟨[0, 2, 3], [0], fun k st => ∃ (i : Nat) (c : List Nat), 2 * i ≤ l.length + 1 ∧ k = l.length + 1 - 2 * i ∧ c.length = l.length ∧ (∀ q, (hq : q < l.length) → (hq2 : q < c.length) → c[q] = if q < i ∨ l.length ≤ q + i then l[l.length - 1 - q] else l[q]) ∧
    st = ⟨[(0, .own 0 0 (byts l).length), (2, .int .i64 (i : Nat)), (3, .int .i64 ((l.length : Int) - 1 - (i : Nat)))], [.row false 5 1 (byts c)]⟩, rfl, ⟨l.length + 1, 0, l, by omega, by omega, rfl, ?_, ?_⟩, ?_⟩
  · intro q h1 h2
    rw [if_neg (by omega)]
  · have e : (((byts l).length : Nat) : Int) - 1 = (l.length : Int) - 1 - ((0 : Nat) : Int) := by omega
    exact Eq.trans rfl (congrArg (fun z => (⟨[(0, .own 0 0 (byts l).length), (2, .int .i64 0), (3, .int .i64 z)], [.row false 5 1 (byts l)]⟩ : St)) e)
  rintro k _ ⟨i, c, hi, hk, hc, hq, rfl⟩
  rcases Nat.lt_or_ge (2 * i + 1) l.length with hlt | hge
  · have hci : i < c.length := by omega
    have hcj : l.length - 1 - i < c.length := by omega
    have ej : (l.length : Int) - 1 - (i : Nat) = ((l.length - 1 - i : Nat) : Int) := by omega
    rw [ej]
    generalize hJ : l.length - 1 - i = J at hcj
    have hlb : (byts l).length = c.length := by omega
    have g1 : (byts c)[0 + i]? = some [.int .u8 ((c[i] : Nat) : Int)] := by rw [Nat.zero_add]; exact byts_get hci
    have g2 : (byts c)[0 + J]? = some [.int .u8 ((c[J] : Nat) : Int)] := by rw [Nat.zero_add]; exact byts_get hcj
    have g3 : ((byts c).set (0 + i) [.int .u8 ((c[J] : Nat) : Int)])[0 + J]? = some [.int .u8 ((c[J] : Nat) : Int)] := by
      rw [List.getElem?_set_ne (by omega), g2]
    repeat' first|refine sW ⟨?_⟩|(refine sp ?_ ?_<;>refine fun h=>⟨?_⟩)|fail
    all_goals try omega
    refine ⟨by decide +kernel, [0, 0, 0, 0, 0, 0, 48, 112, 0, 0, 768, 1792, 4083, 8179, 16383, 32767], by decide +kernel, ?_⟩
    repeat' first|refine sW ⟨?_⟩|(refine sp ?_ ?_<;>refine fun h=>⟨?_⟩)|fail
    all_goals try omega
    have he : ((byts c).set (0 + i) [.int .u8 ((c[J] : Nat) : Int)]).set (0 + J) [.int .u8 ((c[i] : Nat) : Int)] = byts ((c.set i c[J]).set J c[i]) := by
      rw [Nat.zero_add, Nat.zero_add, byts_set _ _ c[J] rfl, byts_set _ _ c[i] rfl]
    refine ⟨[0], l.length + 1 - 2 * (i + 1), rfl, by omega, i + 1, (c.set i c[J]).set J c[i], by omega, by omega, by simp [hc], ?_, ?_⟩
    · intro q h1 h2
      have hqi := hq i (by omega) hci
      have hqJ := hq J (by omega) hcj
      rw [if_neg (by omega)] at hqi hqJ
      rw [List.getElem_set]
      split
      · subst_vars
        rw [if_pos (by omega), hqi]
        (try (congr 1 <;> omega))
      · rw [List.getElem_set]
        split
        · subst_vars
          rw [if_pos (by omega), hqJ]
          (try congr 1)
        · rw [hq q h1 (by omega)]
          by_cases hh : q < i ∨ l.length ≤ q + i
          · rw [if_pos hh, if_pos (by omega)]
          · rw [if_neg hh, if_neg (by omega)]
    · have e3 : (J : Int) - 1 = (l.length : Int) - 1 - ((i + 1 : Nat) : Int) := by omega
      exact Eq.trans rfl (Eq.trans (congrArg (fun z => (⟨[(0, .own 0 0 (byts l).length), (2, .int .i64 ((i + 1 : Nat) : Int)), (3, .int .i64 ((J : Int) - 1))], [.row false 5 1 z]⟩ : St)) he)
        (congrArg (fun z => (⟨[(0, .own 0 0 (byts l).length), (2, .int .i64 ((i + 1 : Nat) : Int)), (3, .int .i64 z)], [.row false 5 1 (byts ((c.set i c[J]).set J c[i]))]⟩ : St)) e3))
  · repeat' first|refine sW ⟨?_⟩|(refine sp ?_ ?_<;>refine fun h=>⟨?_⟩)|fail
    all_goals try omega
    conv => whnf
    have e : c = l.reverse := by
      refine List.ext_getElem (by simp [hc]) fun q h1 h2 => ?_
      rw [hq q (by omega) h1, List.getElem_reverse]
      by_cases hh : q < i ∨ l.length ≤ q + i
      · rw [if_pos hh]
      · rw [if_neg hh]; congr 1 <;> omega
    refine ⟨[0], rfl, rfl, ?_⟩
    rw [← e]
    rfl
end Go.V
namespace Go.V
open Go.N
variable (gl : Gl)
def Top (V : Nat) (ds : List Nat) : Prop := V = 0 → ∃ l x, ds = l ++ [x] ∧ x ≠ 0
def T_text : Tab := [(171, i171), (210, i210), (3, i3), (207, i207), (5, i5), (214, i214), (9, i9)]
theorem TOK_text : TOK Go.Proofs.Tryz.prog T_text := ⟨K171, ⟨K210, ⟨K3, ⟨K207, ⟨K5, ⟨K214, ⟨K9, trivial⟩⟩⟩⟩⟩⟩⟩
set_option maxHeartbeats 2000000 in
theorem c_text (n : Nat) (hn : (dec n).length < 1000000) : VCall Go.Proofs.Tryz.prog gl 153 [.ro 1 (limbs (lim n))] (fun x => x = .str (decB n)) := by
  refine vcall_of TOK_text HM Go.Proofs.Tryz.func153 rfl (by decide +kernel) (by decide +kernel) rfl ?_
  have hlen : (limbs (lim n)).length = (lim n).length := limbs_length _
  have hn0 := lim_len_zero n
  repeat' first|refine sW ⟨?_⟩|(refine sp ?_ ?_<;>refine fun h=>⟨?_⟩)|fail
  · conv => whnf
    have e : n = 0 := by omega
    subst e
    rw [← zero_decB]; rfl
  · conv => whnf
    have hn1 : n ≠ 0 := fun e => h (by omega)
    refine ⟨[0, 3], [], fun k st => ∃ (A : Nat) (ds : List Nat), k = A ∧ (∀ x ∈ ds, x < 10) ∧ n = lsum ds + 10 ^ ds.length * A ∧ Top A ds ∧
      ((ds = [] ∧ A = n ∧ st = ⟨[(0, .ro 1 (limbs (lim A))), (3, .nils)], []⟩) ∨
       st = ⟨[(0, .own 0 0 (limbs (lim A)).length), (3, .own 1 0 (byts (ds.map (48 + ·))).length)], [.row false 210 1 (limbs (lim A)), .row false 5 1 (byts (ds.map (48 + ·)))]⟩), rfl,
      ⟨n, n, [], rfl, by simp, by simp [lsum], fun h => absurd h hn1, .inl ⟨rfl, rfl, rfl⟩⟩, ?_⟩
    rintro k _ ⟨A, ds, hk, hds, hnA, hlast, ⟨hd0, hAn, rfl⟩ | rfl⟩
    · have hlA : (limbs (lim A)).length = (lim A).length := limbs_length _
      have hA0 := lim_len_zero A
      have hA1 : A ≠ 0 := by omega
      have hll := lim_le_dec n
      repeat' first|refine sW ⟨?_⟩|(refine sp ?_ ?_<;>refine fun h=>⟨?_⟩)|fail
      all_goals try omega
      conv => whnf
      refine .inl ⟨_, c_small gl (lim A) 1000000000 (lim_small A) (by rw [hAn]; omega) (by omega) (by omega), ?_⟩
      rintro _ ⟨q, rfl, rfl | ⟨hnil, _⟩⟩
      rotate_left
      · exact absurd (hA0.1 (by rw [hnil]; rfl)) hA1
      rw [lval_lim]
      obtain ⟨Q, hQ⟩ : ∃ Q, Q = A / 1000000000 := ⟨_, rfl⟩
      rw [← hQ]
      have hAQ : A = 1000000000 * Q + A % 1000000000 := by omega
      repeat' first|refine sW ⟨?_⟩|(refine sp ?_ ?_<;>refine fun h=>⟨?_⟩)|fail
      conv => whnf
      refine ⟨[3, 4, 5, 6], [0], fun kk st => ∃ (k L : Nat) (ds : List Nat), k ≤ 9 ∧ kk = 9 - k ∧ L < 10 ^ (9 - k) ∧ (∀ x ∈ ds, x < 10) ∧ n = lsum ds + 10 ^ ds.length * (10 ^ (9 - k) * Q + L) ∧ Top (10 ^ (9 - k) * Q + L) ds ∧
        ((ds = [] ∧ k = 0 ∧ st = ⟨[(3, .nils), (4, .own 0 0 (limbs (lim Q)).length), (5, .int .u64 (L : Nat)), (6, .int .i64 (k : Nat))], [.row false 210 1 (limbs (lim Q))]⟩) ∨
         st = ⟨[(3, .own 1 0 (byts (ds.map (48 + ·))).length), (4, .own 0 0 (limbs (lim Q)).length), (5, .int .u64 (L : Nat)), (6, .int .i64 (k : Nat))], [.row false 210 1 (limbs (lim Q)), .row false 5 1 (byts (ds.map (48 + ·)))]⟩), rfl, ⟨9, 0, A % 1000000000, ds, by omega, rfl, by simp; omega, hds, (show n = lsum ds + 10 ^ ds.length * (1000000000 * Q + A % 1000000000) by rw [← hAQ]; exact hnA), fun h => absurd h (show ¬ 1000000000 * Q + A % 1000000000 = 0 by omega), .inl ⟨hd0, rfl, rfl⟩⟩, ?_⟩
      rintro kk _ ⟨k, L, ds', hk, hkk, hL, hds', hn', hz, ⟨hd0, hk0, rfl⟩ | rfl⟩
      · subst hd0
        have hlq : (limbs (lim Q)).length = (lim Q).length := limbs_length _
        have hq0 := lim_len_zero Q
        have hLb : L < 1000000000 := Nat.lt_of_lt_of_le hL (Nat.le_trans (Nat.pow_le_pow_right (by omega) (show 9 - k ≤ 9 by omega)) (by decide))
        rcases Nat.lt_or_ge k 9 with hk9 | hk9
        · have hp : 10 ^ (9 - k) = 10 * 10 ^ (9 - (k + 1)) := by rw [show 9 - k = (9 - (k + 1)) + 1 by omega, Nat.pow_succ, Nat.mul_comm]
          have hpp : 0 < 10 ^ (9 - (k + 1)) := Nat.pow_pos (by omega)
          have hsn : byts ((([] : List Nat) ++ [L % 10]).map (48 + ·)) = (byts ((([] : List Nat)).map (48 + ·))).take (byts ((([] : List Nat)).map (48 + ·))).length ++ [[.int .u8 (48 + ((L % 10 : Nat) : Int))]] := by
            rw [List.map_append, List.map_cons, List.map_nil]; exact byts_snoc' _ _ rfl
          have e : 10 ^ (9 - k) * Q + L = L % 10 + 10 * (10 ^ (9 - (k + 1)) * Q + L / 10) := by rw [hp, Nat.mul_assoc]; omega
          have hL10 : L / 10 < 10 ^ (9 - (k + 1)) := by omega
          have hn2 : n = lsum (([] : List Nat) ++ [L % 10]) + 10 ^ (([] : List Nat) ++ [L % 10]).length * (10 ^ (9 - (k + 1)) * Q + L / 10) := by
            rw [hn', e, Nat.mul_add, lsum_append, List.length_append]
            simp only [List.length_cons, List.length_nil, Nat.zero_add, Nat.pow_succ]
            rw [← Nat.mul_assoc]; omega
          have hds2 : ∀ x ∈ ([] : List Nat) ++ [L % 10], x < 10 := fun x hx => by
            rcases List.mem_append.1 hx with hx | hx
            · exact hds' x hx
            · simp at hx; omega
          have hlen10 : (([] : List Nat)).length ≤ (dec n).length ∨ (Q = 0 ∧ L = 0) := by
            rcases Nat.eq_zero_or_pos (10 ^ (9 - k) * Q + L) with h0 | h0
            · right
              have h1 : 10 ^ (9 - k) * Q = 0 := by omega
              rcases Nat.mul_eq_zero.1 h1 with h2 | h2
              · have := Nat.pow_pos (n := 9 - k) (show 0 < 10 by omega); omega
              · exact ⟨h2, by omega⟩
            · left
              have h1 : 10 ^ (([] : List Nat)).length * 1 ≤ 10 ^ (([] : List Nat)).length * (10 ^ (9 - k) * Q + L) := Nat.mul_le_mul_left _ h0
              have h2 : ¬ n < 10 ^ (([] : List Nat)).length := by omega
              rcases Nat.eq_zero_or_pos (([] : List Nat)).length with h3 | h3
              · omega
              · have := mt (dec_length_lt n (([] : List Nat)).length h3).1 h2
                omega
          have nz : 0 < Q ∨ 0 < L → Top (10 ^ (9 - (k + 1)) * Q + L / 10) (([] : List Nat) ++ [L % 10]) := fun hc h0 => by
            refine ⟨([] : List Nat), L % 10, rfl, ?_⟩
            rcases hc with hc | hc
            · have := Nat.mul_pos hpp hc; omega
            · omega
          rcases Nat.eq_zero_or_pos Q with hQ0 | hQ0
          · rcases Nat.eq_zero_or_pos L with hL0 | hL0
            · repeat' first|refine sW ⟨?_⟩|(refine sp ?_ ?_<;>refine fun h=>⟨?_⟩)|fail
              all_goals try omega
              have hnQ : n = lsum (([] : List Nat)) + 10 ^ (([] : List Nat)).length * Q := by rw [hn', hQ0, hL0]; simp
              have hzQ : Top Q (([] : List Nat)) := fun _ => hz (by rw [hQ0, hL0]; simp)
              exfalso; simp [lsum] at hnQ; omega
            · repeat' first|refine sW ⟨?_⟩|(refine sp ?_ ?_<;>refine fun h=>⟨?_⟩)|fail
              all_goals try omega
              refine ⟨by decide, _, rem64 L 10, ?_⟩
              repeat' first|refine sW ⟨?_⟩|(refine sp ?_ ?_<;>refine fun h=>⟨?_⟩)|fail
              conv => whnf
              refine ⟨(show 1 * 1 ≤ 140737488355328 by decide), List.cons_ne_nil _ _, ?_⟩
              repeat' first|refine sW ⟨?_⟩|(refine sp ?_ ?_<;>refine fun h=>⟨?_⟩)|fail
              refine ⟨by decide, _, quo64 L 10 (by omega), ?_⟩
              repeat' first|refine sW ⟨?_⟩|(refine sp ?_ ?_<;>refine fun h=>⟨?_⟩)|fail
              exact ⟨[0, 2], 9 - (k + 1), rfl, by omega, k + 1, L / 10, ([] : List Nat) ++ [L % 10], by omega, rfl, hL10, hds2, hn2, nz (.inr hL0), .inr rfl⟩
          · repeat' first|refine sW ⟨?_⟩|(refine sp ?_ ?_<;>refine fun h=>⟨?_⟩)|fail
            all_goals try omega
            refine ⟨by decide, _, rem64 L 10, ?_⟩
            repeat' first|refine sW ⟨?_⟩|(refine sp ?_ ?_<;>refine fun h=>⟨?_⟩)|fail
            conv => whnf
            refine ⟨(show 1 * 1 ≤ 140737488355328 by decide), List.cons_ne_nil _ _, ?_⟩
            repeat' first|refine sW ⟨?_⟩|(refine sp ?_ ?_<;>refine fun h=>⟨?_⟩)|fail
            refine ⟨by decide, _, quo64 L 10 (by omega), ?_⟩
            repeat' first|refine sW ⟨?_⟩|(refine sp ?_ ?_<;>refine fun h=>⟨?_⟩)|fail
            exact ⟨[0, 2], 9 - (k + 1), rfl, by omega, k + 1, L / 10, ([] : List Nat) ++ [L % 10], by omega, rfl, hL10, hds2, hn2, nz (.inl hQ0), .inr rfl⟩
        · have hk9' : k = 9 := by omega
          have hL0 : L = 0 := by rw [hk9'] at hL; simp at hL; omega
          repeat' first|refine sW ⟨?_⟩|(refine sp ?_ ?_<;>refine fun h=>⟨?_⟩)|fail
          all_goals try omega
          all_goals
            have hnQ : n = lsum (([] : List Nat)) + 10 ^ (([] : List Nat)).length * Q := by rw [hn', hk9', hL0]; simp
            have hzQ : Top Q (([] : List Nat)) := fun hh => hz (by rw [hh, hL0]; simp)
            exfalso; simp [lsum] at hnQ; omega
      · have hlq : (limbs (lim Q)).length = (lim Q).length := limbs_length _
        have hq0 := lim_len_zero Q
        have hLb : L < 1000000000 := Nat.lt_of_lt_of_le hL (Nat.le_trans (Nat.pow_le_pow_right (by omega) (show 9 - k ≤ 9 by omega)) (by decide))
        rcases Nat.lt_or_ge k 9 with hk9 | hk9
        · have hp : 10 ^ (9 - k) = 10 * 10 ^ (9 - (k + 1)) := by rw [show 9 - k = (9 - (k + 1)) + 1 by omega, Nat.pow_succ, Nat.mul_comm]
          have hpp : 0 < 10 ^ (9 - (k + 1)) := Nat.pow_pos (by omega)
          have hsn : byts ((ds' ++ [L % 10]).map (48 + ·)) = (byts ((ds').map (48 + ·))).take (byts ((ds').map (48 + ·))).length ++ [[.int .u8 (48 + ((L % 10 : Nat) : Int))]] := by
            rw [List.map_append, List.map_cons, List.map_nil]; exact byts_snoc' _ _ rfl
          have e : 10 ^ (9 - k) * Q + L = L % 10 + 10 * (10 ^ (9 - (k + 1)) * Q + L / 10) := by rw [hp, Nat.mul_assoc]; omega
          have hL10 : L / 10 < 10 ^ (9 - (k + 1)) := by omega
          have hn2 : n = lsum (ds' ++ [L % 10]) + 10 ^ (ds' ++ [L % 10]).length * (10 ^ (9 - (k + 1)) * Q + L / 10) := by
            rw [hn', e, Nat.mul_add, lsum_append, List.length_append]
            simp only [List.length_cons, List.length_nil, Nat.zero_add, Nat.pow_succ]
            rw [← Nat.mul_assoc]; omega
          have hds2 : ∀ x ∈ ds' ++ [L % 10], x < 10 := fun x hx => by
            rcases List.mem_append.1 hx with hx | hx
            · exact hds' x hx
            · simp at hx; omega
          have hlen10 : (ds').length ≤ (dec n).length ∨ (Q = 0 ∧ L = 0) := by
            rcases Nat.eq_zero_or_pos (10 ^ (9 - k) * Q + L) with h0 | h0
            · right
              have h1 : 10 ^ (9 - k) * Q = 0 := by omega
              rcases Nat.mul_eq_zero.1 h1 with h2 | h2
              · have := Nat.pow_pos (n := 9 - k) (show 0 < 10 by omega); omega
              · exact ⟨h2, by omega⟩
            · left
              have h1 : 10 ^ (ds').length * 1 ≤ 10 ^ (ds').length * (10 ^ (9 - k) * Q + L) := Nat.mul_le_mul_left _ h0
              have h2 : ¬ n < 10 ^ (ds').length := by omega
              rcases Nat.eq_zero_or_pos (ds').length with h3 | h3
              · omega
              · have := mt (dec_length_lt n (ds').length h3).1 h2
                omega
          have nz : 0 < Q ∨ 0 < L → Top (10 ^ (9 - (k + 1)) * Q + L / 10) (ds' ++ [L % 10]) := fun hc h0 => by
            refine ⟨ds', L % 10, rfl, ?_⟩
            rcases hc with hc | hc
            · have := Nat.mul_pos hpp hc; omega
            · omega
          rcases Nat.eq_zero_or_pos Q with hQ0 | hQ0
          · rcases Nat.eq_zero_or_pos L with hL0 | hL0
            · repeat' first|refine sW ⟨?_⟩|(refine sp ?_ ?_<;>refine fun h=>⟨?_⟩)|fail
              all_goals try omega
              have hnQ : n = lsum (ds') + 10 ^ (ds').length * Q := by rw [hn', hQ0, hL0]; simp
              have hzQ : Top Q (ds') := fun _ => hz (by rw [hQ0, hL0]; simp)
              exact ⟨[0, 1], Q, rfl, by omega, Q, ds', rfl, hds', hnQ, hzQ, .inr rfl⟩
            · repeat' first|refine sW ⟨?_⟩|(refine sp ?_ ?_<;>refine fun h=>⟨?_⟩)|fail
              all_goals try omega
              refine ⟨by decide, _, rem64 L 10, ?_⟩
              repeat' first|refine sW ⟨?_⟩|(refine sp ?_ ?_<;>refine fun h=>⟨?_⟩)|fail
              conv => whnf
              refine ⟨Nat.le_refl _, (show ((byts (ds'.map (48 + ·))).length + 1) * 1 ≤ _ by simp; omega), _, hsn, ?_⟩
              repeat' first|refine sW ⟨?_⟩|(refine sp ?_ ?_<;>refine fun h=>⟨?_⟩)|fail
              refine ⟨by decide, _, quo64 L 10 (by omega), ?_⟩
              repeat' first|refine sW ⟨?_⟩|(refine sp ?_ ?_<;>refine fun h=>⟨?_⟩)|fail
              exact ⟨[0, 3], 9 - (k + 1), rfl, by omega, k + 1, L / 10, ds' ++ [L % 10], by omega, rfl, hL10, hds2, hn2, nz (.inr hL0), .inr rfl⟩
          · repeat' first|refine sW ⟨?_⟩|(refine sp ?_ ?_<;>refine fun h=>⟨?_⟩)|fail
            all_goals try omega
            refine ⟨by decide, _, rem64 L 10, ?_⟩
            repeat' first|refine sW ⟨?_⟩|(refine sp ?_ ?_<;>refine fun h=>⟨?_⟩)|fail
            conv => whnf
            refine ⟨Nat.le_refl _, (show ((byts (ds'.map (48 + ·))).length + 1) * 1 ≤ _ by simp; omega), _, hsn, ?_⟩
            repeat' first|refine sW ⟨?_⟩|(refine sp ?_ ?_<;>refine fun h=>⟨?_⟩)|fail
            refine ⟨by decide, _, quo64 L 10 (by omega), ?_⟩
            repeat' first|refine sW ⟨?_⟩|(refine sp ?_ ?_<;>refine fun h=>⟨?_⟩)|fail
            exact ⟨[0, 3], 9 - (k + 1), rfl, by omega, k + 1, L / 10, ds' ++ [L % 10], by omega, rfl, hL10, hds2, hn2, nz (.inl hQ0), .inr rfl⟩
        · have hk9' : k = 9 := by omega
          have hL0 : L = 0 := by rw [hk9'] at hL; simp at hL; omega
          repeat' first|refine sW ⟨?_⟩|(refine sp ?_ ?_<;>refine fun h=>⟨?_⟩)|fail
          all_goals try omega
          all_goals
            have hnQ : n = lsum (ds') + 10 ^ (ds').length * Q := by rw [hn', hk9', hL0]; simp
            have hzQ : Top Q (ds') := fun hh => hz (by rw [hh, hL0]; simp)
            exact ⟨[0, 1], Q, rfl, by omega, Q, ds', rfl, hds', hnQ, hzQ, .inr rfl⟩
    · have hlA : (limbs (lim A)).length = (lim A).length := limbs_length _
      have hA0 := lim_len_zero A
      rcases Nat.eq_zero_or_pos A with hz0 | hpos
      · have hdl : ds.length ≤ (dec n).length := by
          obtain ⟨l, x, hlx, hx0⟩ := hlast hz0
          have h1 := lsum_last (l := l) hx0
          rw [← hlx] at h1
          have h2 : ¬ n < 10 ^ l.length := by omega
          rw [hlx, List.length_append]
          rcases Nat.eq_zero_or_pos l.length with h3 | h3
          · have := List.length_pos_iff.2 (dec_ne n); simp; omega
          · have := mt (dec_length_lt n l.length h3).1 h2
            simp; omega
        repeat' first|refine sW ⟨?_⟩|(refine sp ?_ ?_<;>refine fun h=>⟨?_⟩)|fail
        all_goals try omega
        conv => whnf
        refine .inr ⟨[1], rfl, _, c_Reverse gl (ds.map (48 + ·)) (by simpa using Nat.lt_of_le_of_lt hdl (by omega)), ?_⟩
        rintro _ _ ⟨rfl, rfl⟩
        repeat' first|refine sW ⟨?_⟩|(refine sp ?_ ?_<;>refine fun h=>⟨?_⟩)|fail
        conv => whnf
        have hes : List.take (byts (ds.map (48 + ·))).length (List.drop 0 (byts (ds.map (48 + ·)).reverse)) = (((ds.reverse).map (48 + ·)).map fun (x : Nat) => (x : Int)).map (fun b => [AV.int .u8 b]) := by
          rw [List.drop_zero, List.take_of_length_le (by simp), ← List.map_reverse, byts_str]
        refine ⟨_, hes, ?_⟩
        repeat' first|refine sW ⟨?_⟩|(refine sp ?_ ?_<;>refine fun h=>⟨?_⟩)|fail
        conv => whnf
        refine congrArg AV.str (toList_inj ?_)
        rw [sN_digits _ (by simpa using hds), decB_toList, dec_of_digits hds (hlast hz0)]
        congr 1
        rw [hnA, hz0]; simp
      · have hA1 : A ≠ 0 := by omega
        have hAn : A ≤ n := by
          rw [hnA]
          have : 1 * A ≤ 10 ^ ds.length * A := Nat.mul_le_mul_right _ (Nat.pow_pos (by omega))
          omega
        have hll : (lim A).length ≤ (dec n).length := Nat.le_trans (lim_le_dec A) (dec_mono hAn)
        repeat' first|refine sW ⟨?_⟩|(refine sp ?_ ?_<;>refine fun h=>⟨?_⟩)|fail
        all_goals try omega
        conv => whnf
        have hcall := c_small gl (lim A) 1000000000 (lim_small A) (by omega) (by omega) (by omega)
        rw [← List.take_length (l := limbs (lim A)), ← List.drop_zero (l := limbs (lim A))] at hcall
        refine .inl ⟨_, hcall, ?_⟩
        rintro _ ⟨q, rfl, rfl | ⟨hnil, _⟩⟩
        rotate_left
        · exact absurd (hA0.1 (by rw [hnil]; rfl)) hA1
        rw [lval_lim]
        obtain ⟨Q, hQ⟩ : ∃ Q, Q = A / 1000000000 := ⟨_, rfl⟩
        rw [← hQ]
        have hAQ : A = 1000000000 * Q + A % 1000000000 := by omega
        conv => whnf
        refine ⟨false, flat_tup2 (flat_limbs _) flat_int, ?_⟩
        repeat' first|refine sW ⟨?_⟩|(refine sp ?_ ?_<;>refine fun h=>⟨?_⟩)|fail
        conv => whnf
        refine ⟨[3, 4, 5, 6], [2, 1], fun kk st => ∃ (k L : Nat) (ds : List Nat), k ≤ 9 ∧ kk = 9 - k ∧ L < 10 ^ (9 - k) ∧ (∀ x ∈ ds, x < 10) ∧ n = lsum ds + 10 ^ ds.length * (10 ^ (9 - k) * Q + L) ∧ Top (10 ^ (9 - k) * Q + L) ds ∧
          ((ds = [] ∧ k = 0 ∧ st = ⟨[(3, .nils), (4, .own 0 0 (limbs (lim Q)).length), (5, .int .u64 (L : Nat)), (6, .int .i64 (k : Nat))], [.row false 210 1 (limbs (lim Q))]⟩) ∨
           st = ⟨[(3, .own 1 0 (byts (ds.map (48 + ·))).length), (4, .own 0 0 (limbs (lim Q)).length), (5, .int .u64 (L : Nat)), (6, .int .i64 (k : Nat))], [.row false 210 1 (limbs (lim Q)), .row false 5 1 (byts (ds.map (48 + ·)))]⟩), rfl, ⟨9, 0, A % 1000000000, ds, by omega, rfl, by simp; omega, hds, (show n = lsum ds + 10 ^ ds.length * (1000000000 * Q + A % 1000000000) by rw [← hAQ]; exact hnA), fun h => absurd h (show ¬ 1000000000 * Q + A % 1000000000 = 0 by omega), .inr rfl⟩, ?_⟩
        rintro kk _ ⟨k, L, ds', hk, hkk, hL, hds', hn', hz, ⟨hd0, hk0, rfl⟩ | rfl⟩
        · subst hd0
          have hlq : (limbs (lim Q)).length = (lim Q).length := limbs_length _
          have hq0 := lim_len_zero Q
          have hLb : L < 1000000000 := Nat.lt_of_lt_of_le hL (Nat.le_trans (Nat.pow_le_pow_right (by omega) (show 9 - k ≤ 9 by omega)) (by decide))
          rcases Nat.lt_or_ge k 9 with hk9 | hk9
          · have hp : 10 ^ (9 - k) = 10 * 10 ^ (9 - (k + 1)) := by rw [show 9 - k = (9 - (k + 1)) + 1 by omega, Nat.pow_succ, Nat.mul_comm]
            have hpp : 0 < 10 ^ (9 - (k + 1)) := Nat.pow_pos (by omega)
            have hsn : byts ((([] : List Nat) ++ [L % 10]).map (48 + ·)) = (byts ((([] : List Nat)).map (48 + ·))).take (byts ((([] : List Nat)).map (48 + ·))).length ++ [[.int .u8 (48 + ((L % 10 : Nat) : Int))]] := by
              rw [List.map_append, List.map_cons, List.map_nil]; exact byts_snoc' _ _ rfl
            have e : 10 ^ (9 - k) * Q + L = L % 10 + 10 * (10 ^ (9 - (k + 1)) * Q + L / 10) := by rw [hp, Nat.mul_assoc]; omega
            have hL10 : L / 10 < 10 ^ (9 - (k + 1)) := by omega
            have hn2 : n = lsum (([] : List Nat) ++ [L % 10]) + 10 ^ (([] : List Nat) ++ [L % 10]).length * (10 ^ (9 - (k + 1)) * Q + L / 10) := by
              rw [hn', e, Nat.mul_add, lsum_append, List.length_append]
              simp only [List.length_cons, List.length_nil, Nat.zero_add, Nat.pow_succ]
              rw [← Nat.mul_assoc]; omega
            have hds2 : ∀ x ∈ ([] : List Nat) ++ [L % 10], x < 10 := fun x hx => by
              rcases List.mem_append.1 hx with hx | hx
              · exact hds' x hx
              · simp at hx; omega
            have hlen10 : (([] : List Nat)).length ≤ (dec n).length ∨ (Q = 0 ∧ L = 0) := by
              rcases Nat.eq_zero_or_pos (10 ^ (9 - k) * Q + L) with h0 | h0
              · right
                have h1 : 10 ^ (9 - k) * Q = 0 := by omega
                rcases Nat.mul_eq_zero.1 h1 with h2 | h2
                · have := Nat.pow_pos (n := 9 - k) (show 0 < 10 by omega); omega
                · exact ⟨h2, by omega⟩
              · left
                have h1 : 10 ^ (([] : List Nat)).length * 1 ≤ 10 ^ (([] : List Nat)).length * (10 ^ (9 - k) * Q + L) := Nat.mul_le_mul_left _ h0
                have h2 : ¬ n < 10 ^ (([] : List Nat)).length := by omega
                rcases Nat.eq_zero_or_pos (([] : List Nat)).length with h3 | h3
                · omega
                · have := mt (dec_length_lt n (([] : List Nat)).length h3).1 h2
                  omega
            have nz : 0 < Q ∨ 0 < L → Top (10 ^ (9 - (k + 1)) * Q + L / 10) (([] : List Nat) ++ [L % 10]) := fun hc h0 => by
              refine ⟨([] : List Nat), L % 10, rfl, ?_⟩
              rcases hc with hc | hc
              · have := Nat.mul_pos hpp hc; omega
              · omega
            rcases Nat.eq_zero_or_pos Q with hQ0 | hQ0
            · rcases Nat.eq_zero_or_pos L with hL0 | hL0
              · repeat' first|refine sW ⟨?_⟩|(refine sp ?_ ?_<;>refine fun h=>⟨?_⟩)|fail
                all_goals try omega
                have hnQ : n = lsum (([] : List Nat)) + 10 ^ (([] : List Nat)).length * Q := by rw [hn', hQ0, hL0]; simp
                have hzQ : Top Q (([] : List Nat)) := fun _ => hz (by rw [hQ0, hL0]; simp)
                exfalso; simp [lsum] at hnQ; omega
              · repeat' first|refine sW ⟨?_⟩|(refine sp ?_ ?_<;>refine fun h=>⟨?_⟩)|fail
                all_goals try omega
                refine ⟨by decide, _, rem64 L 10, ?_⟩
                repeat' first|refine sW ⟨?_⟩|(refine sp ?_ ?_<;>refine fun h=>⟨?_⟩)|fail
                conv => whnf
                refine ⟨(show 1 * 1 ≤ 140737488355328 by decide), List.cons_ne_nil _ _, ?_⟩
                repeat' first|refine sW ⟨?_⟩|(refine sp ?_ ?_<;>refine fun h=>⟨?_⟩)|fail
                refine ⟨by decide, _, quo64 L 10 (by omega), ?_⟩
                repeat' first|refine sW ⟨?_⟩|(refine sp ?_ ?_<;>refine fun h=>⟨?_⟩)|fail
                exact ⟨[0, 2], 9 - (k + 1), rfl, by omega, k + 1, L / 10, ([] : List Nat) ++ [L % 10], by omega, rfl, hL10, hds2, hn2, nz (.inr hL0), .inr rfl⟩
            · repeat' first|refine sW ⟨?_⟩|(refine sp ?_ ?_<;>refine fun h=>⟨?_⟩)|fail
              all_goals try omega
              refine ⟨by decide, _, rem64 L 10, ?_⟩
              repeat' first|refine sW ⟨?_⟩|(refine sp ?_ ?_<;>refine fun h=>⟨?_⟩)|fail
              conv => whnf
              refine ⟨(show 1 * 1 ≤ 140737488355328 by decide), List.cons_ne_nil _ _, ?_⟩
              repeat' first|refine sW ⟨?_⟩|(refine sp ?_ ?_<;>refine fun h=>⟨?_⟩)|fail
              refine ⟨by decide, _, quo64 L 10 (by omega), ?_⟩
              repeat' first|refine sW ⟨?_⟩|(refine sp ?_ ?_<;>refine fun h=>⟨?_⟩)|fail
              exact ⟨[0, 2], 9 - (k + 1), rfl, by omega, k + 1, L / 10, ([] : List Nat) ++ [L % 10], by omega, rfl, hL10, hds2, hn2, nz (.inl hQ0), .inr rfl⟩
          · have hk9' : k = 9 := by omega
            have hL0 : L = 0 := by rw [hk9'] at hL; simp at hL; omega
            repeat' first|refine sW ⟨?_⟩|(refine sp ?_ ?_<;>refine fun h=>⟨?_⟩)|fail
            all_goals try omega
            all_goals
              have hnQ : n = lsum (([] : List Nat)) + 10 ^ (([] : List Nat)).length * Q := by rw [hn', hk9', hL0]; simp
              have hzQ : Top Q (([] : List Nat)) := fun hh => hz (by rw [hh, hL0]; simp)
              exfalso; simp [lsum] at hnQ; omega
        · have hlq : (limbs (lim Q)).length = (lim Q).length := limbs_length _
          have hq0 := lim_len_zero Q
          have hLb : L < 1000000000 := Nat.lt_of_lt_of_le hL (Nat.le_trans (Nat.pow_le_pow_right (by omega) (show 9 - k ≤ 9 by omega)) (by decide))
          rcases Nat.lt_or_ge k 9 with hk9 | hk9
          · have hp : 10 ^ (9 - k) = 10 * 10 ^ (9 - (k + 1)) := by rw [show 9 - k = (9 - (k + 1)) + 1 by omega, Nat.pow_succ, Nat.mul_comm]
            have hpp : 0 < 10 ^ (9 - (k + 1)) := Nat.pow_pos (by omega)
            have hsn : byts ((ds' ++ [L % 10]).map (48 + ·)) = (byts ((ds').map (48 + ·))).take (byts ((ds').map (48 + ·))).length ++ [[.int .u8 (48 + ((L % 10 : Nat) : Int))]] := by
              rw [List.map_append, List.map_cons, List.map_nil]; exact byts_snoc' _ _ rfl
            have e : 10 ^ (9 - k) * Q + L = L % 10 + 10 * (10 ^ (9 - (k + 1)) * Q + L / 10) := by rw [hp, Nat.mul_assoc]; omega
            have hL10 : L / 10 < 10 ^ (9 - (k + 1)) := by omega
            have hn2 : n = lsum (ds' ++ [L % 10]) + 10 ^ (ds' ++ [L % 10]).length * (10 ^ (9 - (k + 1)) * Q + L / 10) := by
              rw [hn', e, Nat.mul_add, lsum_append, List.length_append]
              simp only [List.length_cons, List.length_nil, Nat.zero_add, Nat.pow_succ]
              rw [← Nat.mul_assoc]; omega
            have hds2 : ∀ x ∈ ds' ++ [L % 10], x < 10 := fun x hx => by
              rcases List.mem_append.1 hx with hx | hx
              · exact hds' x hx
              · simp at hx; omega
            have hlen10 : (ds').length ≤ (dec n).length ∨ (Q = 0 ∧ L = 0) := by
              rcases Nat.eq_zero_or_pos (10 ^ (9 - k) * Q + L) with h0 | h0
              · right
                have h1 : 10 ^ (9 - k) * Q = 0 := by omega
                rcases Nat.mul_eq_zero.1 h1 with h2 | h2
                · have := Nat.pow_pos (n := 9 - k) (show 0 < 10 by omega); omega
                · exact ⟨h2, by omega⟩
              · left
                have h1 : 10 ^ (ds').length * 1 ≤ 10 ^ (ds').length * (10 ^ (9 - k) * Q + L) := Nat.mul_le_mul_left _ h0
                have h2 : ¬ n < 10 ^ (ds').length := by omega
                rcases Nat.eq_zero_or_pos (ds').length with h3 | h3
                · omega
                · have := mt (dec_length_lt n (ds').length h3).1 h2
                  omega
            have nz : 0 < Q ∨ 0 < L → Top (10 ^ (9 - (k + 1)) * Q + L / 10) (ds' ++ [L % 10]) := fun hc h0 => by
              refine ⟨ds', L % 10, rfl, ?_⟩
              rcases hc with hc | hc
              · have := Nat.mul_pos hpp hc; omega
              · omega
            rcases Nat.eq_zero_or_pos Q with hQ0 | hQ0
            · rcases Nat.eq_zero_or_pos L with hL0 | hL0
              · repeat' first|refine sW ⟨?_⟩|(refine sp ?_ ?_<;>refine fun h=>⟨?_⟩)|fail
                all_goals try omega
                have hnQ : n = lsum (ds') + 10 ^ (ds').length * Q := by rw [hn', hQ0, hL0]; simp
                have hzQ : Top Q (ds') := fun _ => hz (by rw [hQ0, hL0]; simp)
                exact ⟨[0, 1], Q, rfl, by omega, Q, ds', rfl, hds', hnQ, hzQ, .inr rfl⟩
              · repeat' first|refine sW ⟨?_⟩|(refine sp ?_ ?_<;>refine fun h=>⟨?_⟩)|fail
                all_goals try omega
                refine ⟨by decide, _, rem64 L 10, ?_⟩
                repeat' first|refine sW ⟨?_⟩|(refine sp ?_ ?_<;>refine fun h=>⟨?_⟩)|fail
                conv => whnf
                refine ⟨Nat.le_refl _, (show ((byts (ds'.map (48 + ·))).length + 1) * 1 ≤ _ by simp; omega), _, hsn, ?_⟩
                repeat' first|refine sW ⟨?_⟩|(refine sp ?_ ?_<;>refine fun h=>⟨?_⟩)|fail
                refine ⟨by decide, _, quo64 L 10 (by omega), ?_⟩
                repeat' first|refine sW ⟨?_⟩|(refine sp ?_ ?_<;>refine fun h=>⟨?_⟩)|fail
                exact ⟨[0, 3], 9 - (k + 1), rfl, by omega, k + 1, L / 10, ds' ++ [L % 10], by omega, rfl, hL10, hds2, hn2, nz (.inr hL0), .inr rfl⟩
            · repeat' first|refine sW ⟨?_⟩|(refine sp ?_ ?_<;>refine fun h=>⟨?_⟩)|fail
              all_goals try omega
              refine ⟨by decide, _, rem64 L 10, ?_⟩
              repeat' first|refine sW ⟨?_⟩|(refine sp ?_ ?_<;>refine fun h=>⟨?_⟩)|fail
              conv => whnf
              refine ⟨Nat.le_refl _, (show ((byts (ds'.map (48 + ·))).length + 1) * 1 ≤ _ by simp; omega), _, hsn, ?_⟩
              repeat' first|refine sW ⟨?_⟩|(refine sp ?_ ?_<;>refine fun h=>⟨?_⟩)|fail
              refine ⟨by decide, _, quo64 L 10 (by omega), ?_⟩
              repeat' first|refine sW ⟨?_⟩|(refine sp ?_ ?_<;>refine fun h=>⟨?_⟩)|fail
              exact ⟨[0, 3], 9 - (k + 1), rfl, by omega, k + 1, L / 10, ds' ++ [L % 10], by omega, rfl, hL10, hds2, hn2, nz (.inl hQ0), .inr rfl⟩
          · have hk9' : k = 9 := by omega
            have hL0 : L = 0 := by rw [hk9'] at hL; simp at hL; omega
            repeat' first|refine sW ⟨?_⟩|(refine sp ?_ ?_<;>refine fun h=>⟨?_⟩)|fail
            all_goals try omega
            all_goals
              have hnQ : n = lsum (ds') + 10 ^ (ds').length * Q := by rw [hn', hk9', hL0]; simp
              have hzQ : Top Q (ds') := fun hh => hz (by rw [hh, hL0]; simp)
              exact ⟨[0, 1], Q, rfl, by omega, Q, ds', rfl, hds', hnQ, hzQ, .inr rfl⟩
end Go.V
namespace Go.V
open Go.N
variable (gl : Gl)
def T_guess : Tab := [(171, i171), (210, i210), (3, i3), (207, i207)]
theorem TOK_guess : TOK Go.Proofs.Tryz.prog T_guess := ⟨K171, ⟨K210, ⟨K3, ⟨K207, trivial⟩⟩⟩⟩
theorem limbs_drop (l : List Nat) (k : Nat) : (limbs l).drop k = limbs (l.drop k) := by simp [limbs]
theorem guess_ge {P D head top n : Nat} (hn : 0 < n) (hP : P < (head + 1) * BB ^ (n - 1)) (hD : top * BB ^ (n - 1) ≤ D) (ht : 0 < top) : P / D ≤ head / top := by
  rw [Nat.le_div_iff_mul_le ht]
  have hp : 0 < BB ^ (n - 1) := Nat.pow_pos (by simp [BB])
  have h1 : P / D * (top * BB ^ (n - 1)) ≤ P / D * D := Nat.mul_le_mul_left _ hD
  have h2 : P / D * D ≤ P := Nat.div_mul_le_self P D
  have h3 : (P / D * top) * BB ^ (n - 1) < (head + 1) * BB ^ (n - 1) := by rw [Nat.mul_assoc]; omega
  have := Nat.lt_of_mul_lt_mul_right h3
  omega
set_option maxHeartbeats 4000000 in
theorem c_guess (u : List Nat) (D j n : Nat) (hu : small u) (hul : u.length < 1000000) (hn : n = (lim D).length) (hn0 : 0 < n) (hj : j + n < u.length) (top : Nat) (htop : (lim D)[n - 1]? = some top)
    (hP : lval ((u.drop j).take (n + 1)) < D * BB) :
    VCallH Go.Proofs.Tryz.prog gl 190 [.own 0 0 (limbs u).length, .ro 1 (limbs (lim D)), .int .i64 (j : Nat), .int .u64 (top : Nat)] [.row false 210 1 (limbs u)]
    (fun x h => x = .int .u32 ((lval ((u.drop j).take (n + 1)) / D : Nat) : Int) ∧ ∃ u' : List Nat, h = [.row false 210 1 (limbs u')] ∧ u'.length = u.length ∧ small u' ∧ u'.take j = u.take j ∧
      lval ((u'.drop j).take (n + 1)) = lval ((u.drop j).take (n + 1)) % D ∧ u'.drop (j + n + 1) = u.drop (j + n + 1)) := by
  refine vcallH_of TOK_guess HM Go.Proofs.Tryz.func190 rfl (by decide +kernel) (by decide +kernel) rfl ?_
  have hlu : (limbs u).length = u.length := limbs_length u
  have hlD : (limbs (lim D)).length = n := by rw [limbs_length, hn]
  have g1 : (limbs u)[0 + (j + n)]? = some [.int .u32 ((u[j + n] : Nat) : Int)] := by rw [Nat.zero_add]; exact limbs_get hj
  have g2 : (limbs u)[0 + (j + n - 1)]? = some [.int .u32 ((u[j + n - 1] : Nat) : Int)] := by rw [Nat.zero_add]; exact limbs_get (by omega)
  have s1 : u[j + n] < 4294967296 := hu _ (List.getElem_mem _)
  have s2 : u[j + n - 1] < 4294967296 := hu _ (List.getElem_mem _)
  have hD0 : D ≠ 0 := fun e => by rw [e, lim_zero] at hn; simp at hn; omega
  repeat' first|refine sW ⟨?_⟩|(refine sp ?_ ?_<;>refine fun h=>⟨?_⟩)|fail
  refine ⟨by decide +kernel, [0, 0, 0, 6, 15, 31, 63, 127, 0, 0, 0, 1536, 3584, 7936, 16128, 32512, 65535, 131071], by decide +kernel, ?_⟩
  repeat' first|refine sW ⟨?_⟩|(refine sp ?_ ?_<;>refine fun h=>⟨?_⟩)|fail
  refine ⟨j + n, by omega, by omega, ?_⟩
  repeat' first|refine sW ⟨?_⟩|(refine sp ?_ ?_<;>refine fun h=>⟨?_⟩)|fail
  refine ⟨by decide, _, shl32 u[j + n] s1, ?_⟩
  repeat' first|refine sW ⟨?_⟩|(refine sp ?_ ?_<;>refine fun h=>⟨?_⟩)|fail
  refine ⟨j + n - 1, by omega, by omega, ?_⟩
  repeat' first|refine sW ⟨?_⟩|(refine sp ?_ ?_<;>refine fun h=>⟨?_⟩)|fail
  have htop0 : 0 < top := by
    have hne := lim_last D top (by rw [List.getLast?_eq_getElem?, ← hn]; exact htop)
    omega
  have htopb : top < 4294967296 := lim_small D top (List.mem_of_getElem? htop)
  obtain ⟨H, hH⟩ : ∃ H, H = u[j + n] * 4294967296 + u[j + n - 1] := ⟨_, rfl⟩
  have hHb : H < 18446744073709551616 := by omega
  have hqH : H / top ≤ H := Nat.div_le_self _ _
  obtain ⟨Q, hQ⟩ : ∃ Q, Q = H / top := ⟨_, rfl⟩
  rw [← hQ] at hqH
  refine ⟨by omega, (show ((u[j + n] * 4294967296 : Nat) : Int) < 18446744073709551616 by omega), by omega, (show ((u[j + n - 1] : Nat) : Int) < 18446744073709551616 by omega), ((H : Nat) : Int), (by rw [hH]; exact or32 _ _ s1 s2), ?_⟩
  repeat' first|refine sW ⟨?_⟩|(refine sp ?_ ?_<;>refine fun h=>⟨?_⟩)|fail
  refine ⟨by omega, ((Q : Nat) : Int), (by rw [hQ]; exact quo64 H top hHb), ?_⟩
  have hdb : min Q (4294967295 : Int).toNat < 4294967296 := by omega
  repeat' first|refine sW ⟨?_⟩|(refine sp ?_ ?_<;>refine fun h=>⟨?_⟩)|fail
  refine ⟨by omega, by omega, by omega, by omega, j, n + 1, by omega, by omega, ?_⟩
  repeat' first|refine sW ⟨?_⟩|(refine sp ?_ ?_<;>refine fun h=>⟨?_⟩)|fail
  conv => whnf
  have hw : List.take (n + 1) (List.drop j (limbs u)) = limbs ((u.drop j).take (n + 1)) := by rw [limbs_drop, limbs_take]
  obtain ⟨w, hwd⟩ : ∃ w, w = (u.drop j).take (n + 1) := ⟨_, rfl⟩
  have hwl : w.length = n + 1 := by rw [hwd]; simp; omega
  have hws : small w := by rw [hwd]; exact fun x hx => hu x (List.mem_of_mem_drop (List.mem_of_mem_take hx))
  have hcl := c_Clone gl w (by omega)
  have hwe : limbs w = List.take (n + 1) (List.drop j (limbs u)) := by rw [hw, hwd]
  refine .inl ⟨_, (hwe ▸ hcl : VCall Go.Proofs.Tryz.prog gl 191 [.ro 1 (List.take (n + 1) (List.drop j (limbs u)))] (fun x => x = .fr 210 1 (limbs w) ∨ (w = [] ∧ x = .nils))), ?_⟩
  rintro _ (rfl | ⟨hnil, _⟩)
  rotate_left
  · rw [hnil] at hwl; simp at hwl
  conv => whnf
  refine ⟨false, flat_limbs _, ?_⟩
  repeat' first|refine sW ⟨?_⟩|(refine sp ?_ ?_<;>refine fun h=>⟨?_⟩)|fail
  conv => whnf
  have hst := c_step gl (lim D) (min Q (4294967295 : Int).toNat) 0 (lim_small D) (by omega) hdb (by omega)
  rw [Nat.add_zero, lval_lim] at hst
  refine .inl ⟨_, hst, ?_⟩
  rintro _ rfl
  repeat' first|refine sW ⟨?_⟩|(refine sp ?_ ?_<;>refine fun h=>⟨?_⟩)|fail
  conv => whnf
  have hPw : lval w < D * BB := by rw [hwd]; exact hP
  have hDn : D < BB ^ n := (lim_len_lt D n).1 (by omega)
  have hq1 : lval w / D < BB := (Nat.div_lt_iff_lt_mul (by omega)).2 (by rw [Nat.mul_comm]; exact hPw)
  have hge : lval w / D ≤ min Q (4294967295 : Int).toNat := by
    have hwj : w[n]? = some u[j + n] := by
      have : ((u.drop j).take (n + 1))[n]? = some u[j + n] := by rw [List.getElem?_take_of_lt (by omega), List.getElem?_drop, List.getElem?_eq_getElem hj]
      rw [← hwd] at this; exact this
    have hwj1 : w[n - 1]? = some u[j + n - 1] := by
      have : ((u.drop j).take (n + 1))[n - 1]? = some u[j + n - 1] := by
        rw [List.getElem?_take_of_lt (by omega), List.getElem?_drop]
        rw [show j + (n - 1) = j + n - 1 by omega]
        exact List.getElem?_eq_getElem (by omega)
      rw [← hwd] at this; exact this
    have hw1 : lval w < (H + 1) * BB ^ (n - 1) := by
      have e1 := lval_take_succ (l := w) (k := n) (by omega)
      have e2 := lval_take_succ (l := w) (k := n - 1) (by omega)
      rw [show n - 1 + 1 = n by omega] at e2
      rw [List.take_of_length_le (by omega)] at e1
      have hlt := lval_lt (small_take hws (n - 1))
      rw [List.length_take, Nat.min_eq_left (by omega)] at hlt
      have hg1 : w[n] = u[j + n] := by rw [List.getElem?_eq_getElem (by omega)] at hwj; simpa using hwj
      have hg2 : w[n - 1] = u[j + n - 1] := by rw [List.getElem?_eq_getElem (by omega)] at hwj1; simpa using hwj1
      have hpw : BB ^ n = BB * BB ^ (n - 1) := by
        conv => lhs; rw [show n = (n - 1) + 1 by omega, Nat.pow_succ, Nat.mul_comm]
      rw [e1, e2, hg1, hg2, hH, hpw, Nat.add_mul, Nat.add_mul]
      have e3 : BB * BB ^ (n - 1) * u[j + n] = u[j + n] * 4294967296 * BB ^ (n - 1) := by
        rw [Nat.mul_comm (u[j + n]) 4294967296, Nat.mul_assoc, Nat.mul_assoc, Nat.mul_comm (BB ^ (n - 1))]; rfl
      have e4 : BB ^ (n - 1) * u[j + n - 1] = u[j + n - 1] * BB ^ (n - 1) := Nat.mul_comm _ _
      omega
    have hDt : top * BB ^ (n - 1) ≤ D := by
      have e2 := lval_take_succ (l := lim D) (k := n - 1) (by omega)
      have hg : (lim D)[n - 1]'(by omega) = top := by
        rw [List.getElem?_eq_getElem (by omega)] at htop; simpa using htop
      rw [show n - 1 + 1 = n by omega, List.take_of_length_le (by omega), lval_lim, hg, Nat.mul_comm] at e2
      omega
    have h1 := guess_ge hn0 hw1 hDt htop0
    rw [← hQ] at h1
    have : BB = 4294967296 := rfl
    omega
  obtain ⟨q0, hq0⟩ : ∃ q0, q0 = lval w / D := ⟨_, rfl⟩
  rw [← hq0] at hge hq1
  refine ⟨[0, 1, 2, 11, 12, 13], [0, 1, 2], fun kk st => ∃ d : Nat, q0 ≤ d ∧ d < 4294967296 ∧ kk = d ∧
    st = ⟨[(0, .own 0 0 (limbs u).length), (1, .ro 1 (limbs (lim D))), (2, .int .i64 (j : Nat)), (11, .int .u64 (d : Nat)), (12, .own 1 0 (limbs w).length), (13, .own 2 0 (limbs (lim (D * d))).length)],
      [.row false 210 1 (limbs u), .row false 210 1 (limbs w), .row false 210 1 (limbs (lim (D * d)))]⟩, rfl, ⟨_, _, hge, hdb, rfl, rfl⟩, ?_⟩
  rintro kk _ ⟨d, hd1, hd2, hkk, rfl⟩
  have hDd : D * d < BB ^ (n + 1) := by
    have h1 : D * d ≤ BB ^ n * d := Nat.mul_le_mul_right _ (Nat.le_of_lt hDn)
    have h2 : BB ^ n * d < BB ^ n * BB := Nat.mul_lt_mul_of_pos_left hd2 (Nat.pow_pos (by simp [BB]))
    rw [Nat.pow_succ]; omega
  have hDdl : (lim (D * d)).length ≤ n + 1 := (lim_len_lt _ _).2 hDd
  have hwf : List.take (limbs w).length (List.drop 0 (limbs w)) = limbs w := by rw [List.drop_zero, List.take_length]
  have hcl3 : VCall Go.Proofs.Tryz.prog gl 191 [.ro 1 (List.take (limbs w).length (List.drop 0 (limbs w)))] (fun x => x = .fr 210 1 (limbs w) ∨ (w = [] ∧ x = .nils)) := by
    rw [hwf]; exact c_Clone gl w (by omega)
  repeat' first|refine sW ⟨?_⟩|(refine sp ?_ ?_<;>refine fun h=>⟨?_⟩)|fail
  conv => whnf
  refine .inl ⟨_, hcl3, ?_⟩
  rintro _ (rfl | ⟨hnil, _⟩)
  rotate_left
  · rw [hnil] at hwl; simp at hwl
  conv => whnf
  refine ⟨false, flat_limbs _, ?_⟩
  repeat' first|refine sW ⟨?_⟩|(refine sp ?_ ?_<;>refine fun h=>⟨?_⟩)|fail
  conv => whnf
  refine .inr ⟨[3], rfl, _, c_trimH gl w hws (by omega), ?_⟩
  rintro _ _ ⟨rfl, hpre, rfl⟩
  have hwt : List.take (lim (lval w)).length (List.drop 0 (limbs w)) = limbs (lim (lval w)) := by rw [List.drop_zero, limbs_take, ← hpre]
  have hdt : List.take (limbs (lim (D * d))).length (List.drop 0 (limbs (lim (D * d)))) = limbs (lim (D * d)) := by rw [List.drop_zero, List.take_length]
  have hwl2 : (lim (lval w)).length ≤ n + 1 := by
    have := congrArg List.length hpre
    rw [List.length_take] at this; omega
  have hcmp := c_compare gl (D * d) (lval w) (by omega) (by omega)
  have hcmp2 : VCall Go.Proofs.Tryz.prog gl 187 [.ro 1 (List.take (limbs (lim (D * d))).length (List.drop 0 (limbs (lim (D * d))))), .ro 1 (List.take (lim (lval w)).length (List.drop 0 (limbs w)))] (fun x => x = .int .i64 (cmpN (D * d) (lval w))) := by
    rw [hwt, hdt]; exact hcmp
  repeat' first|refine sW ⟨?_⟩|(refine sp ?_ ?_<;>refine fun h=>⟨?_⟩)|fail
  conv => whnf
  refine .inl ⟨_, hcmp2, ?_⟩
  rintro _ rfl
  rcases Nat.lt_or_ge (lval w) (D * d) with hlt | hle
  · have hc1 : cmpN (D * d) (lval w) = 1 := cmpN_gt hlt
    have hdq : q0 < d := by rw [hq0]; exact (Nat.div_lt_iff_lt_mul (by omega)).2 (by rw [Nat.mul_comm]; exact hlt)
    repeat' first|refine sW ⟨?_⟩|(refine sp ?_ ?_<;>refine fun h=>⟨?_⟩)|fail
    all_goals try omega
    conv => whnf
    have hDd1 : D * (d - 1) = D * d - D := by rw [Nat.mul_sub, Nat.mul_one]
    have hDle : D ≤ D * d := Nat.le_mul_of_pos_right D (by omega)
    have hsub := c_sub gl (lim (D * d)) (lim D) (lim_small _) (lim_small _) (by omega) (lim_mono hDle) (by rw [lval_lim, lval_lim]; exact hDle)
    rw [lval_lim, lval_lim, ← hDd1] at hsub
    have hsub2 : VCall Go.Proofs.Tryz.prog gl 195 [.ro 1 (List.take (limbs (lim (D * d))).length (List.drop 0 (limbs (lim (D * d))))), .ro 1 (limbs (lim D))] (fun x => x = .fr 210 1 (limbs (lim (D * (d - 1)))) ∨ (lim (D * d) = [] ∧ x = .ro 1 (limbs []))) := by
      rw [hdt]; exact hsub
    refine .inl ⟨_, hsub2, ?_⟩
    rintro _ (rfl | ⟨hnil, _⟩)
    rotate_left
    · have := (lim_len_zero (D * d)).1 (by rw [hnil]; rfl)
      omega
    conv => whnf
    refine ⟨false, flat_limbs _, ?_⟩
    repeat' first|refine sW ⟨?_⟩|(refine sp ?_ ?_<;>refine fun h=>⟨?_⟩)|fail
    refine ⟨[0, 1, 4], d - 1, rfl, by omega, d - 1, by omega, by omega, rfl, ?_⟩
    have ed : (d : Int) - 1 = ((d - 1 : Nat) : Int) := by omega
    exact Eq.trans rfl (congrArg (fun z => (⟨[(0, .own 0 0 (limbs u).length), (1, .ro 1 (limbs (lim D))), (2, .int .i64 (j : Nat)), (11, .int .u64 z), (12, .own 1 0 (limbs w).length), (13, .own 2 0 (limbs (lim (D * (d - 1)))).length)],
      [.row false 210 1 (limbs u), .row false 210 1 (limbs w), .row false 210 1 (limbs (lim (D * (d - 1))))]⟩ : St)) ed)
  · have hc1 : cmpN (D * d) (lval w) ≤ 0 := by unfold cmpN; split <;> (try split) <;> omega
    have hdq : d = q0 := Nat.le_antisymm (by rw [hq0]; exact (Nat.le_div_iff_mul_le (by omega)).2 (by rw [Nat.mul_comm]; exact hle)) hd1
    repeat' first|refine sW ⟨?_⟩|(refine sp ?_ ?_<;>refine fun h=>⟨?_⟩)|fail
    all_goals try omega
    conv => whnf
    obtain ⟨R, hR⟩ : ∃ R, R = lval w % D := ⟨_, rfl⟩
    have hdm := Nat.div_add_mod (lval w) D
    rw [← hq0, ← hdq, ← hR] at hdm
    have hRD : R < D := by rw [hR]; exact Nat.mod_lt _ (by omega)
    have hRl : (lim R).length ≤ n := by
      have := lim_mono (Nat.le_of_lt hRD)
      omega
    have hsub := c_sub gl w (lim (D * d)) hws (lim_small _) (by omega) (by omega) (by rw [lval_lim]; exact hle)
    rw [lval_lim, show lval w - D * d = R by omega] at hsub
    have hsub2 : VCall Go.Proofs.Tryz.prog gl 195 [.ro 1 (List.take (limbs w).length (List.drop 0 (limbs w))), .ro 1 (List.take (limbs (lim (D * d))).length (List.drop 0 (limbs (lim (D * d)))))] (fun x => x = .fr 210 1 (limbs (lim R)) ∨ (w = [] ∧ x = .ro 1 (limbs []))) := by
      rw [hdt, hwf]; exact hsub
    refine .inl ⟨_, hsub2, ?_⟩
    rintro _ (rfl | ⟨hnil, _⟩)
    rotate_left
    · rw [hnil] at hwl; simp at hwl
    conv => whnf
    refine ⟨false, flat_limbs _, ?_⟩
    repeat' first|refine sW ⟨?_⟩|(refine sp ?_ ?_<;>refine fun h=>⟨?_⟩)|fail
    conv => whnf
    obtain ⟨pd, hpd⟩ : ∃ pd, pd = lim R ++ List.replicate (n + 1 - (lim R).length) 0 := ⟨_, rfl⟩
    have hpdl : pd.length = n + 1 := by rw [hpd]; simp; omega
    have hpdv : lval pd = R := by rw [hpd, lval_append, lval_zeros, lval_lim]; simp
    have hpds : small pd := by
      rw [hpd]
      refine small_append (lim_small R) fun x hx => ?_
      rw [List.mem_replicate] at hx
      rw [hx.2]; simp [BB]
    have hlR : (limbs (lim R)).length = (lim R).length := limbs_length _
    have hwll : (limbs w).length = n + 1 := by rw [limbs_length, hwl]
    refine ⟨[0, 2, 11, 14, 65, 66], [0, 4], fun kk st => ∃ (i : Nat) (c : List Nat), i ≤ n + 1 ∧ kk = n + 1 - i ∧ c = u.take j ++ pd.take i ++ u.drop (j + i) ∧
      st = ⟨[(0, .own 0 0 (limbs u).length), (2, .int .i64 (j : Nat)), (11, .int .u64 (d : Nat)), (14, .own 1 0 (limbs (lim R)).length), (65, .int .i64 ((limbs w).length : Nat)), (66, .int .i64 (i : Nat))],
        [.row false 210 1 (limbs c), .row false 210 1 (limbs (lim R))]⟩, rfl, ⟨n + 1, 0, u, by omega, rfl, by simp, rfl⟩, ?_⟩
    rintro kk _ ⟨i, c, hi, hkk, hc, rfl⟩
    have hcl' : c.length = u.length := by rw [hc]; simp; omega
    rcases Nat.lt_or_ge i (n + 1) with hin | hge2
    · have hgc : (limbs c)[0 + (j + i)]? = some [.int .u32 ((c[j + i]'(by omega) : Nat) : Int)] := by rw [Nat.zero_add]; exact limbs_get (by omega)
      have hg3 : ((limbs c).set (0 + (j + i)) [.int .u32 0])[0 + (j + i)]? = some [.int .u32 0] := by
        rw [List.getElem?_set_self (by simp; omega)]
      have hset : ∀ v, pd[i]'(by omega) = v → c.set (j + i) v = u.take j ++ pd.take (i + 1) ++ u.drop (j + (i + 1)) := fun v hv => by
        have h1 : (u.take j ++ pd.take i).length = j + i := by simp; omega
        rw [hc, List.set_append_right _ _ (by omega), h1, Nat.sub_self, List.drop_eq_getElem_cons (show j + i < u.length by omega), List.take_succ_eq_append_getElem (show i < pd.length by omega), hv]
        simp [List.append_assoc, Nat.add_assoc]
      rcases Nat.lt_or_ge i (lim R).length with hiR | hiR
      · have hpi : pd[i]'(by omega) = (lim R)[i] := by
          have : pd[i]? = some (lim R)[i] := by rw [hpd, List.getElem?_append_left hiR, List.getElem?_eq_getElem hiR]
          rw [List.getElem?_eq_getElem (by omega)] at this; simpa using this
        have hgR : (limbs (lim R))[0 + i]? = some [.int .u32 (((lim R)[i] : Nat) : Int)] := by rw [Nat.zero_add]; exact limbs_get hiR
        repeat' first|refine sW ⟨?_⟩|(refine sp ?_ ?_<;>refine fun h=>⟨?_⟩)|fail
        all_goals try omega
        refine ⟨j + i, by omega, by omega, ?_⟩
        repeat' first|refine sW ⟨?_⟩|(refine sp ?_ ?_<;>refine fun h=>⟨?_⟩)|fail
        all_goals try omega
        refine ⟨j + i, by omega, by omega, ?_⟩
        repeat' first|refine sW ⟨?_⟩|(refine sp ?_ ?_<;>refine fun h=>⟨?_⟩)|fail
        have he : ((limbs c).set (0 + (j + i)) [.int .u32 0]).set (0 + (j + i)) [.int .u32 (((lim R)[i] : Nat) : Int)] = limbs (u.take j ++ pd.take (i + 1) ++ u.drop (j + (i + 1))) := by
          rw [List.set_set, Nat.zero_add, limbs_set c (j + i) (lim R)[i] rfl, hset _ hpi]
        exact ⟨[0, 1], n + 1 - (i + 1), rfl, by omega, i + 1, u.take j ++ pd.take (i + 1) ++ u.drop (j + (i + 1)), by omega, rfl, rfl,
          Eq.trans rfl (congrArg (fun z => (⟨[(0, .own 0 0 (limbs u).length), (2, .int .i64 (j : Nat)), (11, .int .u64 (d : Nat)), (14, .own 1 0 (limbs (lim R)).length), (65, .int .i64 ((limbs w).length : Nat)), (66, .int .i64 ((i + 1 : Nat) : Int))],
            [.row false 210 1 z, .row false 210 1 (limbs (lim R))]⟩ : St)) he)⟩
      · have hpi : pd[i]'(by omega) = 0 := by
          have : pd[i]? = some 0 := by rw [hpd, List.getElem?_append_right hiR, List.getElem?_replicate, if_pos (by omega)]
          rw [List.getElem?_eq_getElem (by omega)] at this; simpa using this
        repeat' first|refine sW ⟨?_⟩|(refine sp ?_ ?_<;>refine fun h=>⟨?_⟩)|fail
        all_goals try omega
        refine ⟨j + i, by omega, by omega, ?_⟩
        repeat' first|refine sW ⟨?_⟩|(refine sp ?_ ?_<;>refine fun h=>⟨?_⟩)|fail
        all_goals try omega
        have he : (limbs c).set (0 + (j + i)) [.int .u32 0] = limbs (u.take j ++ pd.take (i + 1) ++ u.drop (j + (i + 1))) := by
          rw [Nat.zero_add, limbs_set c (j + i) 0 (e := 0) rfl, hset _ hpi]
        exact ⟨[0, 1], n + 1 - (i + 1), rfl, by omega, i + 1, u.take j ++ pd.take (i + 1) ++ u.drop (j + (i + 1)), by omega, rfl, rfl,
          Eq.trans rfl (congrArg (fun z => (⟨[(0, .own 0 0 (limbs u).length), (2, .int .i64 (j : Nat)), (11, .int .u64 (d : Nat)), (14, .own 1 0 (limbs (lim R)).length), (65, .int .i64 ((limbs w).length : Nat)), (66, .int .i64 ((i + 1 : Nat) : Int))],
            [.row false 210 1 z, .row false 210 1 (limbs (lim R))]⟩ : St)) he)⟩
    · repeat' first|refine sW ⟨?_⟩|(refine sp ?_ ?_<;>refine fun h=>⟨?_⟩)|fail
      all_goals try omega
      conv => whnf
      have ei : i = n + 1 := by omega
      have hpt : pd.take (n + 1) = pd := List.take_of_length_le (by omega)
      have hc2 : c = u.take j ++ pd ++ u.drop (j + n + 1) := by rw [hc, ei, hpt, show j + (n + 1) = j + n + 1 by omega]
      have htj : (u.take j).length = j := by simp; omega
      have hdj : c.drop j = pd ++ u.drop (j + n + 1) := by
        rw [hc2, List.append_assoc]; exact List.drop_left' htj
      refine ⟨[0], rfl, ?_, c, rfl, hcl', ?_, ?_, ?_, ?_⟩
      · rw [← hwd, ← hq0, ← hdq]
        exact congrArg (AV.int .u32) (by omega)
      · rw [hc2]
        exact small_append (small_append (small_take hu _) hpds) fun x hx => hu x (List.mem_of_mem_drop hx)
      · rw [hc2, List.append_assoc]; exact List.take_left' htj
      · rw [hdj, List.take_left' hpdl, hpdv, ← hwd, hR]
      · have e1 : c.drop (j + n + 1) = (c.drop j).drop (n + 1) := by rw [List.drop_drop]; rfl
        rw [e1, hdj]; exact List.drop_left' hpdl
end Go.V
