/-
  Lemmas (part 8) for: the statement.
-/
import Derived.Test.YtphnnbfgiomaoaaGreatDoorFive7
import Derived.LaidSub
import Derived.LaidHandle
set_option linter.all false
namespace Go.Proofs.YtphnnbfgiomaoaaGreatDoor
open Go Go.ChangeShapes Go.WideShapes Go.ChangeAt Go.RowKit Go.V
set_option maxRecDepth 100000
def bIp:List (String×DataW Unit):=[("math/bits.deBruijn32tab",Rows.laid_math_bits_deBruijn32tab),("math/bits.deBruijn64tab",Rows.laid_math_bits_deBruijn64tab),("internal/strconv.uint64pow10",Rows.laid_internal_strconv_uint64pow10),("unicode/utf8.acceptRanges",Rows.laid_unicode_utf8_acceptRanges),("tapewright/rat.errForm",Rows.laid_tapewright_rat_errForm),("tapewright/rat.errZero",Rows.laid_tapewright_rat_errZero),("unicode/utf8.first",Rows.laid_unicode_utf8_first)]
noncomputable def HW0 (os:Os):World:=
 let w0:=World.holding Go.Proofs.Tryz.prog os ⟨#[],#[],[]⟩
 { w0 with heap:=w0.heap.modify 2 fun
  | .cells _ t fz=>.cells #[.iface 294 (.agg #[.pointer (some ⟨Go.Proofs.Tryz.prog.globals.size,148,none⟩)])] t fz
  |o=>o}
noncomputable def HW (os:Os) (l:List (String×DataW Unit)):World:=(HW0 os).layVars Go.Proofs.Tryz.prog l
theorem bUj (os:Os) (l:List (String×DataW Unit)):(HW os l).os=os:=(World.layVars_os _ _ _).trans rfl
theorem bJp {os:Os}{l:List (String×DataW Unit)}(args:Array Value) (hf:(HW0 os).layFits Go.Proofs.Tryz.prog l []=true) (hi:(HW0 os).layIfaces Go.Proofs.Tryz.prog l (HW os l)=true):
 laidMet Go.Proofs.Tryz.prog l ((HW os l).forCall (λ_ _=>0) ⟨#[],args,[]⟩).memory:=by
 have e1:(l.filter λx=>(l.map (·.1)).contains x.1)=l:=List.filter_eq_self.2 λx hx=>List.contains_iff_mem.2 (List.mem_map.2 ⟨x,hx,rfl⟩)
 have e2:(l.filter λx=> !(l.map (·.1)).contains x.1)=[]:=List.filter_eq_nil_iff.2 λx hx=>by rw [List.contains_iff_mem.2 (List.mem_map.2 ⟨x,hx,rfl⟩)];simp
 have h:laidMet Go.Proofs.Tryz.prog l (HW os l):=laidMet_layVars (w0:=HW0 os) (l.map (·.1)) [] (by rw [e1];rfl) (by rw [e1];exact hf) (by rw [e1];exact hi) (by rw [e2];exact LaidIn.none)
 exact h.of_heap (by simp [World.memory,World.forCall,Input.heap])
end Go.Proofs.YtphnnbfgiomaoaaGreatDoor
