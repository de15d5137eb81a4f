/-
  Lemmas (part 36) for: the statement.
-/
import Derived.Test.YtphnnbfgiomaoaaGreatDoorFive15
import Derived.Test.YtphnnbfgiomaoaaGreatDoorFive30
set_option linter.all false
namespace Go.Proofs.YtphnnbfgiomaoaaGreatDoor
open Go Go.ChangeShapes Go.WideShapes Go.ChangeAt Go.RowKit Go.V
set_option maxRecDepth 100000
section
variable {H:Type}{enc:TypeId×Value->H}{W:World}
theorem cU4 {base:Nat}{v0 v1:Value}{d0 d1:DataW H}{p0 p1:List MemPlace}(h0:DataW.Trod enc Go.Proofs.Tryz.prog W 0 (λ_=>true) true 24 v0 d0 p0) (h1:DataW.Trod enc Go.Proofs.Tryz.prog W 0 (λ_=>true) true 27 v1 d1 p1)
 (k0:Value.okWide Go.Proofs.Tryz.prog W .any base 24 v0) (k1:Value.okWide Go.Proofs.Tryz.prog W .any base 27 v1):
 ∃(g:Gr) (keep:List Int),aAt (SW W) H0 W [.agg g.cells,.ro 1 (aAh keep)] [v0,v1]:=by
 obtain ⟨cs,rfl,_⟩:=okWide_struct Tryz.underlying24 k0
 obtain ⟨a1,len1,cap1,rfl⟩:=okWide_slice Tryz.underlying27 k1
 obtain ⟨f0,h0⟩:=h0
 obtain ⟨f1,h1⟩:=h1
 have c0:(Value.agg cs).cells.toList=cs.toList:=rfl
 have c1:(Value.slice a1 len1 cap1).cells.toList=[.slice a1 len1 cap1]:=rfl
 rw [c0] at h0
 rw [c1] at h1
 obtain ⟨xs,⟨g,rfl⟩,_,e2,e3⟩:=bN3 f0 _ _ h0
 obtain ⟨zs,⟨_,rfl,es1,rfl,hk1⟩,_,_,e5⟩:=bUa f1 _ _ h1
 obtain ⟨keep,rfl⟩:=aJn (f:=λn=>[AV.int .i64 n]) hk1
 simp only [aAt] at e5
 obtain ⟨u1,r1,e71,e81,e91⟩:=e5
 injection e71 with e101 e111
 subst e101
 refine ⟨g,keep,?_⟩
 simp only [aAt]
 refine ⟨_,_,rfl,?_,_,_,rfl,e81,rfl⟩
 simp only [aAi]
 exact ⟨cs.toList,by simp,e2,e3⟩
end
theorem cS4 {W:World}(g:Gr) (keep:List Int) (v0 v1:Value) (hgl:bJk (SW W) W GL) (ha:aAt (SW W) H0 W [.agg g.cells,.ro 1 (aAh keep)] [v0,v1]):
 Calls Go.Proofs.Tryz.prog 12 #[v0,v1] W λe w'=>e= .returned (.bool true)/\Below W.heap.size W w':=
 aAc.calls (cUq g keep) Tryz.func12 rfl (by decide +kernel) hgl ha λS b w' v' h=>by
  obtain ⟨S',F,hF,_⟩:=h
  simp only [aDw,aAi] at hF
  exact hF.2
theorem cOg:(Rows.execSmallRow.laid.filter λx=>x.2.handleName?.isNone)=bIp:=by kernel_rfl
theorem cPw (os:Os) (started:os.Started) (H:Type) (enc:TypeId×Value->H):
 ReturnsInHanded {} Tryz.checked os 12 .any (λw args=>(Rows.execSmallSpec.pre enc Go.Proofs.Tryz.prog Go.Proofs.Tryz.f12 [] false w args/\laidMetH Go.Proofs.Tryz.prog Rows.execSmallRow.laid w)/\sizedMet enc Go.Proofs.Tryz.prog Go.Proofs.Tryz.f12 (OpenSpec.ofChange Rows.execSmallSpec) false w args)
  (Rows.execSmallSpec.post enc Go.Proofs.Tryz.prog Go.Proofs.Tryz.f12 false true false false):=by
 refine returnsInHanded_of_change_and (C:=Tryz.checked) (X:=λw _=>laidMetH Go.Proofs.Tryz.prog Rows.execSmallRow.laid w) (λ_ _ _ hh h=>h.of_heap hh) own started (by kernel_rfl) Tryz.func12
  (ChangeSpec.witness_shaped (enc:=enc) (C:=Tryz.checked) (os:=os) (X:=λw _=>laidMetH Go.Proofs.Tryz.prog Rows.execSmallRow.laid w) false (HW os bIp) #[.agg #[.slice none 0 0,.int .i64 0],.slice none 0 0] 8 (bUj _ _)
    (World.shaped_of_ZipB (by kernel_rfl) (by kernel_rfl)) (by kernel_rfl) (by kernel_rfl) (by kernel_rfl)
    (laidMetH_of_parts (by rw [cOg];exact bJp _ (by kernel_rfl) (by kernel_rfl)) (by kernel_rfl))) ?_
 intro W base args ds gs before hval0 hW hc hz hL _
 have hval:∀(j:Nat) t v,Go.Proofs.Tryz.f12.params[j]? =some t->args[j]? =some v->Value.okWide Go.Proofs.Tryz.prog W .any base t v:=hval0
 have hW':=hW
 obtain ⟨p,q,hA0,hV,rfl,_,_⟩:=hW
 have hA:DataW.TrodAll enc Go.Proofs.Tryz.prog W 0 (λ_=>true) true Go.Proofs.Tryz.f12.params.toList args.toList ds p:=hA0
 have hz1:(DataW.weightsEach Go.Proofs.Tryz.prog (Go.Proofs.Tryz.f12.params.toList++Rows.execSmallSpec.plain.varTypes Go.Proofs.Tryz.prog) (ds++gs)).all (· <=reachBytes)=true:=hz
 rw [Tryz.params12] at hA hval hz1
 obtain ⟨v0,vs0,d0,ds0,p0,q0,hargs,rfl,rfl,h0,r0⟩:=trodAll_cons hA
 obtain ⟨v1,vs1,d1,ds1,p1,q1,rfl,rfl,rfl,h1,r1⟩:=trodAll_cons r0
 obtain ⟨rfl,rfl,rfl⟩:=trodAll_nil r1
 obtain rfl:args= #[v0,v1]:=by cases args;simp_all
 obtain ⟨rfl,rfl⟩:=trodVars_none hV
 replace hL:=(laidMetH_iff.1 hL).1
 rw [cOg] at hL
 obtain ⟨g,keep,hrep⟩:=cU4 h0 h1 (hval 0 _ v0 rfl rfl) (hval 1 _ v1 rfl rfl)
 refine (cS4 g keep v0 v1 (bWs hL (by first|exact ⟨0,_,rfl⟩|exact ⟨1,_,rfl⟩|exact ⟨2,_,rfl⟩|exact ⟨3,_,rfl⟩|exact ⟨4,_,rfl⟩|exact ⟨5,_,rfl⟩|exact ⟨6,_,rfl⟩|exact ⟨7,_,rfl⟩|exact ⟨8,_,rfl⟩|exact ⟨9,_,rfl⟩|exact ⟨10,_,rfl⟩|exact ⟨11,_,rfl⟩|exact ⟨12,_,rfl⟩|exact ⟨13,_,rfl⟩) (by first|exact ⟨0,_,rfl⟩|exact ⟨1,_,rfl⟩|exact ⟨2,_,rfl⟩|exact ⟨3,_,rfl⟩|exact ⟨4,_,rfl⟩|exact ⟨5,_,rfl⟩|exact ⟨6,_,rfl⟩|exact ⟨7,_,rfl⟩|exact ⟨8,_,rfl⟩|exact ⟨9,_,rfl⟩|exact ⟨10,_,rfl⟩|exact ⟨11,_,rfl⟩|exact ⟨12,_,rfl⟩|exact ⟨13,_,rfl⟩) (by first|exact ⟨0,_,rfl⟩|exact ⟨1,_,rfl⟩|exact ⟨2,_,rfl⟩|exact ⟨3,_,rfl⟩|exact ⟨4,_,rfl⟩|exact ⟨5,_,rfl⟩|exact ⟨6,_,rfl⟩|exact ⟨7,_,rfl⟩|exact ⟨8,_,rfl⟩|exact ⟨9,_,rfl⟩|exact ⟨10,_,rfl⟩|exact ⟨11,_,rfl⟩|exact ⟨12,_,rfl⟩|exact ⟨13,_,rfl⟩)) hrep).mono λe W' ⟨he,bel⟩=>?_
 subst he
 have lt0:∀x∈p0,x.block<W.heap.size:=by obtain ⟨m,hm⟩:=h0;exact DataW.trod_lt m _ _ _ hm
 have lt1:∀x∈p1,x.block<W.heap.size:=by obtain ⟨m,hm⟩:=h1;exact DataW.trod_lt m _ _ _ hm
 exact ⟨_,rfl,_,_,_,[],_,[],hW',trodAll_mk1 (shut_bool Tryz.underlying4 _),(trodAll_cons_mk (Below.trod aLa (by kernel_rfl) (of_decide_eq_true (by kernel_rfl)) h0 bel lt0) (trodAll_cons_mk (Below.trod aLa (by kernel_rfl) (of_decide_eq_true (by kernel_rfl)) h1 bel lt1) trodAll_mk0)),rfl,bel.frame _,λh=>by cases h⟩
end Go.Proofs.YtphnnbfgiomaoaaGreatDoor
