/-
  Lemmas (part 23) for: the statement.
-/
import Derived.Test.YtphnnbfgiomaoaaGreatDoorFive15
import Derived.Test.YtphnnbfgiomaoaaGreatDoorFive22
set_option linter.all false
namespace Go.Proofs.YtphnnbfgiomaoaaGreatDoor
open Go Go.ChangeShapes Go.WideShapes Go.ChangeAt Go.RowKit Go.V
set_option maxRecDepth 100000
theorem cTt {W:World}(g:Gr) (bs:List Bd) (v0 v1:Value) (hb:bs.length*64<=140737488351232) (hgl:bJk (SW W) W GL) (ha:aAt (SW W) H0 W [.agg g.cells,.ro 3 (aA5 bs)] [v0,v1]):
 Calls Go.Proofs.Tryz.prog 9 #[v0,v1] W λe w'=>e= .returned (.bool true)/\Below W.heap.size W w':=
 aAc.calls (cVi g bs hb) Tryz.func9 rfl (by decide +kernel) hgl ha λS b w' v' h=>by
  obtain ⟨S',F,hF,_⟩:=h
  simp only [aDw,aAi] at hF
  exact hF.2
theorem cOm:(Rows.cseKeepsRow.laid.filter λx=>x.2.handleName?.isNone)=bIp:=by kernel_rfl
theorem cRo (os:Os) (started:os.Started) (H:Type) (enc:TypeId×Value->H):
 ReturnsInHanded {} Tryz.checked os 9 .any (λw args=>(Rows.cseKeepsSpec.pre enc Go.Proofs.Tryz.prog Go.Proofs.Tryz.f9 [] false w args/\laidMetH Go.Proofs.Tryz.prog Rows.cseKeepsRow.laid w)/\sizedMet enc Go.Proofs.Tryz.prog Go.Proofs.Tryz.f9 (OpenSpec.ofChange Rows.cseKeepsSpec) false w args)
  (Rows.cseKeepsSpec.post enc Go.Proofs.Tryz.prog Go.Proofs.Tryz.f9 false true false false):=by
 refine returnsInHanded_of_change_and (C:=Tryz.checked) (X:=λw _=>laidMetH Go.Proofs.Tryz.prog Rows.cseKeepsRow.laid w) (λ_ _ _ hh h=>h.of_heap hh) own started (by kernel_rfl) Tryz.func9
  (ChangeSpec.witness_shaped (enc:=enc) (C:=Tryz.checked) (os:=os) (X:=λw _=>laidMetH Go.Proofs.Tryz.prog Rows.cseKeepsRow.laid w) false (HW os bIp) #[.agg #[.slice none 0 0,.int .i64 0],.slice none 0 0] 8 (bUj _ _)
    (World.shaped_of_ZipB (by kernel_rfl) (by kernel_rfl)) (by kernel_rfl) (by kernel_rfl) (by kernel_rfl)
    (laidMetH_of_parts (by rw [cOm];exact bJp _ (by kernel_rfl) (by kernel_rfl)) (by kernel_rfl))) ?_
 intro W base args ds gs before hval0 hW hc hz hL _
 have hval:∀(j:Nat) t v,Go.Proofs.Tryz.f9.params[j]? =some t->args[j]? =some v->Value.okWide Go.Proofs.Tryz.prog W .any base t v:=hval0
 have hW':=hW
 obtain ⟨p,q,hA0,hV,rfl,_,_⟩:=hW
 have hA:DataW.TrodAll enc Go.Proofs.Tryz.prog W 0 (λ_=>true) true Go.Proofs.Tryz.f9.params.toList args.toList ds p:=hA0
 have hz1:(DataW.weightsEach Go.Proofs.Tryz.prog (Go.Proofs.Tryz.f9.params.toList++Rows.cseKeepsSpec.plain.varTypes Go.Proofs.Tryz.prog) (ds++gs)).all (· <=reachBytes)=true:=hz
 rw [Tryz.params9] at hA hval hz1
 obtain ⟨v0,vs0,d0,ds0,p0,q0,hargs,rfl,rfl,h0,r0⟩:=trodAll_cons hA
 obtain ⟨v1,vs1,d1,ds1,p1,q1,rfl,rfl,rfl,h1,r1⟩:=trodAll_cons r0
 obtain ⟨rfl,rfl,rfl⟩:=trodAll_nil r1
 obtain rfl:args= #[v0,v1]:=by cases args;simp_all
 obtain ⟨rfl,rfl⟩:=trodVars_none hV
 replace hL:=(laidMetH_iff.1 hL).1
 rw [cOm] at hL
 obtain ⟨g,bs,hb,hrep⟩:=bEr h0 h1 (hval 0 _ v0 rfl rfl) (hval 1 _ v1 rfl rfl) (sized_slice hz1 (j:=1) rfl)
 refine (cTt g bs v0 v1 hb (bWs hL (by first|exact ⟨0,_,rfl⟩|exact ⟨1,_,rfl⟩|exact ⟨2,_,rfl⟩|exact ⟨3,_,rfl⟩|exact ⟨4,_,rfl⟩|exact ⟨5,_,rfl⟩|exact ⟨6,_,rfl⟩|exact ⟨7,_,rfl⟩|exact ⟨8,_,rfl⟩|exact ⟨9,_,rfl⟩|exact ⟨10,_,rfl⟩|exact ⟨11,_,rfl⟩|exact ⟨12,_,rfl⟩|exact ⟨13,_,rfl⟩) (by first|exact ⟨0,_,rfl⟩|exact ⟨1,_,rfl⟩|exact ⟨2,_,rfl⟩|exact ⟨3,_,rfl⟩|exact ⟨4,_,rfl⟩|exact ⟨5,_,rfl⟩|exact ⟨6,_,rfl⟩|exact ⟨7,_,rfl⟩|exact ⟨8,_,rfl⟩|exact ⟨9,_,rfl⟩|exact ⟨10,_,rfl⟩|exact ⟨11,_,rfl⟩|exact ⟨12,_,rfl⟩|exact ⟨13,_,rfl⟩) (by first|exact ⟨0,_,rfl⟩|exact ⟨1,_,rfl⟩|exact ⟨2,_,rfl⟩|exact ⟨3,_,rfl⟩|exact ⟨4,_,rfl⟩|exact ⟨5,_,rfl⟩|exact ⟨6,_,rfl⟩|exact ⟨7,_,rfl⟩|exact ⟨8,_,rfl⟩|exact ⟨9,_,rfl⟩|exact ⟨10,_,rfl⟩|exact ⟨11,_,rfl⟩|exact ⟨12,_,rfl⟩|exact ⟨13,_,rfl⟩)) hrep).mono λe W' ⟨he,bel⟩=>?_
 subst he
 have lt0:∀x∈p0,x.block<W.heap.size:=by obtain ⟨m,hm⟩:=h0;exact DataW.trod_lt m _ _ _ hm
 have lt1:∀x∈p1,x.block<W.heap.size:=by obtain ⟨m,hm⟩:=h1;exact DataW.trod_lt m _ _ _ hm
 exact ⟨_,rfl,_,_,_,[],_,[],hW',trodAll_mk1 (shut_bool Tryz.underlying4 _),(trodAll_cons_mk (Below.trod aLa (by kernel_rfl) (of_decide_eq_true (by kernel_rfl)) h0 bel lt0) (trodAll_cons_mk (Below.trod aLa (by kernel_rfl) (of_decide_eq_true (by kernel_rfl)) h1 bel lt1) trodAll_mk0)),rfl,bel.frame _,λh=>by cases h⟩
end Go.Proofs.YtphnnbfgiomaoaaGreatDoor
