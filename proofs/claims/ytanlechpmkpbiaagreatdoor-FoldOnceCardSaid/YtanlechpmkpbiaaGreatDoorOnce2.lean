/-
  Lemmas (part 2) for: FoldOnce holds for all arguments; no condition.
-/
import Derived.Test.YtanlechpmkpbiaaGreatDoorOnce1
import Derived.Test.YtanlechpmkpbiaaGreatDoorKeep14
set_option linter.all false
namespace Go.Proofs.YtanlechpmkpbiaaGreatDoor
open Go Go.ChangeShapes Go.WideShapes Go.ChangeAt Go.RowKit Go.V
set_option maxRecDepth 100000
section
variable {H:Type}{enc:TypeId×Value->H}{W:World}
theorem cEg {base:Nat}{v0 v1:Value}{d0 d1:DataW H}{p0 p1:List MemPlace}(h0:DataW.Trod enc Go.Proofs.Tryz.prog W 0 (λ_=>true) true 25 v0 d0 p0) (h1:DataW.Trod enc Go.Proofs.Tryz.prog W 0 (λ_=>true) true 27 v1 d1 p1)
 (k0:Value.okWide Go.Proofs.Tryz.prog W .any base 25 v0) (k1:Value.okWide Go.Proofs.Tryz.prog W .any base 27 v1):
 ∃(x:Nd) (s:List Int) (d:List ByteArray),aAt (SW W) H0 W [.agg x.cells,.agg [.ro 1 (aAh s),.ro 1 (aCm d)]] [v0,v1]:=by
 obtain ⟨cs,rfl,_⟩:=okWide_struct Tryz.underlying25 k0
 obtain ⟨cs2,rfl,_⟩:=okWide_struct Tryz.underlying27 k1
 obtain ⟨f0,h0⟩:=h0
 obtain ⟨f1,h1⟩:=h1
 have c0:(Value.agg cs).cells.toList=cs.toList:=rfl
 have c2:(Value.agg cs2).cells.toList=cs2.toList:=rfl
 rw [c0] at h0
 rw [c2] at h1
 obtain ⟨xs,⟨x,rfl⟩,_,e2,e3⟩:=cAm f0 _ _ h0
 obtain ⟨zs,⟨s,d,rfl⟩,_,e5,e6⟩:=bSn f1 _ _ h1
 refine ⟨x,s,d,?_⟩
 simp only [aAt]
 refine ⟨_,_,rfl,?_,_,_,rfl,?_,rfl⟩
 · simp only [aAi]
   exact ⟨cs.toList,by simp,e2,e3⟩
 · have e6':aAi (SW W) H0 W (.agg [.ro 1 (aAh s),.ro 1 (aCm d)]) (.agg cs2):=by
    simp only [aAi]
    exact ⟨cs2.toList,by simp,e5,e6⟩
   exact e6'
end
theorem cD3 {W:World}(x:Nd) (s:List Int) (d:List ByteArray) (v0 v1:Value) (hgl:bJk (SW W) W GL) (ha:aAt (SW W) H0 W [.agg x.cells,.agg [.ro 1 (aAh s),.ro 1 (aCm d)]] [v0,v1]):
 Calls Go.Proofs.Tryz.prog 3 #[v0,v1] W λe w'=>e= .returned (.bool true)/\Below W.heap.size W w':=
 aAc.calls (cEb x s d) Tryz.func3 rfl (by decide +kernel) hgl ha λS b w' v' h=>by
  obtain ⟨S',F,hF,_⟩:=h
  simp only [aDw,aAi] at hF
  exact hF.2
theorem cAd:(Rows.foldOnceRow.laid.filter λx=>x.2.handleName?.isNone)=bIp:=by kernel_rfl
theorem cDe (os:Os) (started:os.Started) (H:Type) (enc:TypeId×Value->H):
 ReturnsInHanded {} Tryz.checked os 3 .any (λw args=>(Rows.foldOnceSpec.pre enc Go.Proofs.Tryz.prog Go.Proofs.Tryz.f3 [] false w args/\laidMetH Go.Proofs.Tryz.prog Rows.foldOnceRow.laid w)/\sizedMet enc Go.Proofs.Tryz.prog Go.Proofs.Tryz.f3 (OpenSpec.ofChange Rows.foldOnceSpec) false w args)
  (Rows.foldOnceSpec.post enc Go.Proofs.Tryz.prog Go.Proofs.Tryz.f3 false true false false):=by
 refine returnsInHanded_of_change_and (C:=Tryz.checked) (X:=λw _=>laidMetH Go.Proofs.Tryz.prog Rows.foldOnceRow.laid w) (λ_ _ _ hh h=>h.of_heap hh) own started (by kernel_rfl) Tryz.func3
  (ChangeSpec.witness_shaped (enc:=enc) (C:=Tryz.checked) (os:=os) (X:=λw _=>laidMetH Go.Proofs.Tryz.prog Rows.foldOnceRow.laid w) false (HW os bIp) #[.agg #[.string .empty,.int .i64 0,.int .i64 0,.string .empty,.slice none 0 0,.string .empty,.int .i64 0,.slice none 0 0],.agg #[.slice none 0 0,.slice none 0 0]] 8 (bUj _ _)
    (World.shaped_of_ZipB (by kernel_rfl) (by kernel_rfl)) (by kernel_rfl) (by kernel_rfl) (by kernel_rfl)
    (laidMetH_of_parts (by rw [cAd];exact bJp _ (by kernel_rfl) (by kernel_rfl)) (by kernel_rfl))) ?_
 intro W base args ds gs before hval0 hW hc _ hL _
 have hval:∀(j:Nat) t v,Go.Proofs.Tryz.f3.params[j]? =some t->args[j]? =some v->Value.okWide Go.Proofs.Tryz.prog W .any base t v:=hval0
 have hW':=hW
 obtain ⟨p,q,hA0,hV,rfl,_,_⟩:=hW
 have hA:DataW.TrodAll enc Go.Proofs.Tryz.prog W 0 (λ_=>true) true Go.Proofs.Tryz.f3.params.toList args.toList ds p:=hA0
 rw [Tryz.params3] at hA hval
 obtain ⟨v0,vs0,d0,ds0,p0,q0,hargs,rfl,rfl,h0,r0⟩:=trodAll_cons hA
 obtain ⟨v1,vs1,d1,ds1,p1,q1,rfl,rfl,rfl,h1,r1⟩:=trodAll_cons r0
 obtain ⟨rfl,rfl,rfl⟩:=trodAll_nil r1
 obtain rfl:args= #[v0,v1]:=by cases args;simp_all
 obtain ⟨rfl,rfl⟩:=trodVars_none hV
 replace hL:=(laidMetH_iff.1 hL).1
 rw [cAd] at hL
 obtain ⟨x,s,d,hrep⟩:=cEg h0 h1 (hval 0 _ v0 rfl rfl) (hval 1 _ v1 rfl rfl)
 refine (cD3 x s d v0 v1 (bWs hL (by first|exact ⟨0,_,rfl⟩|exact ⟨1,_,rfl⟩|exact ⟨2,_,rfl⟩|exact ⟨3,_,rfl⟩|exact ⟨4,_,rfl⟩|exact ⟨5,_,rfl⟩|exact ⟨6,_,rfl⟩|exact ⟨7,_,rfl⟩|exact ⟨8,_,rfl⟩|exact ⟨9,_,rfl⟩|exact ⟨10,_,rfl⟩|exact ⟨11,_,rfl⟩|exact ⟨12,_,rfl⟩|exact ⟨13,_,rfl⟩) (by first|exact ⟨0,_,rfl⟩|exact ⟨1,_,rfl⟩|exact ⟨2,_,rfl⟩|exact ⟨3,_,rfl⟩|exact ⟨4,_,rfl⟩|exact ⟨5,_,rfl⟩|exact ⟨6,_,rfl⟩|exact ⟨7,_,rfl⟩|exact ⟨8,_,rfl⟩|exact ⟨9,_,rfl⟩|exact ⟨10,_,rfl⟩|exact ⟨11,_,rfl⟩|exact ⟨12,_,rfl⟩|exact ⟨13,_,rfl⟩)) hrep).mono λe W' ⟨he,bel⟩=>?_
 subst he
 have lt0:∀x∈p0,x.block<W.heap.size:=by obtain ⟨m,hm⟩:=h0;exact DataW.trod_lt m _ _ _ hm
 have lt1:∀x∈p1,x.block<W.heap.size:=by obtain ⟨m,hm⟩:=h1;exact DataW.trod_lt m _ _ _ hm
 exact ⟨_,rfl,_,_,_,[],_,[],hW',trodAll_mk1 (shut_bool Tryz.underlying4 _),(trodAll_cons_mk (Below.trod aLa (by kernel_rfl) (of_decide_eq_true (by kernel_rfl)) h0 bel lt0) (trodAll_cons_mk (Below.trod aLa (by kernel_rfl) (of_decide_eq_true (by kernel_rfl)) h1 bel lt1) trodAll_mk0)),rfl,bel.frame _,λh=>by cases h⟩
end Go.Proofs.YtanlechpmkpbiaaGreatDoor
