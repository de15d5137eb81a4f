/-
  Lemmas (part 31) for: the statement.
-/
import Derived.Test.YtphnnbfgiomaoaaGreatDoorFive15
import Derived.Test.YtphnnbfgiomaoaaGreatDoorFive30
set_option linter.all false
namespace Go.Proofs.YtphnnbfgiomaoaaGreatDoor
open Go Go.ChangeShapes Go.WideShapes Go.ChangeAt Go.RowKit Go.V
set_option maxRecDepth 100000
section
variable {H:Type}{enc:TypeId×Value->H}{W:World}
theorem cHf {base:Nat}{v0 v1 v2:Value}{d0 d1 d2:DataW H}{p0 p1 p2:List MemPlace}(h0:DataW.Trod enc Go.Proofs.Tryz.prog W 0 (λ_=>true) true 24 v0 d0 p0) (h1:DataW.Trod enc Go.Proofs.Tryz.prog W 0 (λ_=>true) true 27 v1 d1 p1) (h2:DataW.Trod enc Go.Proofs.Tryz.prog W 0 (λ_=>true) true 37 v2 d2 p2)
 (k0:Value.okWide Go.Proofs.Tryz.prog W .any base 24 v0) (k1:Value.okWide Go.Proofs.Tryz.prog W .any base 27 v1) (k2:Value.okWide Go.Proofs.Tryz.prog W .any base 37 v2)
 (hz1:∀n∈d2.weights Go.Proofs.Tryz.prog 37,n<=reachBytes):
 ∃(g:Gr) (keep:List Int) (bs:List Bd),bs.length*64<=140737488351232/\aAt (SW W) H0 W [.agg g.cells,.ro 1 (aAh keep),.ro 3 (aA5 bs)] [v0,v1,v2]:=by
 obtain ⟨cs,rfl,_⟩:=okWide_struct Tryz.underlying24 k0
 obtain ⟨a1,len1,cap1,rfl⟩:=okWide_slice Tryz.underlying27 k1
 obtain ⟨a,len,cap,rfl⟩:=okWide_slice Tryz.underlying37 k2
 obtain ⟨f0,h0⟩:=h0
 obtain ⟨f1,h1⟩:=h1
 obtain ⟨f2,h2⟩:=h2
 have c0:(Value.agg cs).cells.toList=cs.toList:=rfl
 have c1:(Value.slice a1 len1 cap1).cells.toList=[.slice a1 len1 cap1]:=rfl
 have c2:(Value.slice a len cap).cells.toList=[.slice a len cap]:=rfl
 rw [c0] at h0
 rw [c1] at h1
 rw [c2] at h2
 obtain ⟨xs,⟨g,rfl⟩,_,e2,e3⟩:=bN3 f0 _ _ h0
 obtain ⟨zs,⟨_,rfl,es1,rfl,hk1⟩,_,_,e5⟩:=bUa f1 _ _ h1
 obtain ⟨ys,⟨es,rfl,hk⟩,_,_,e4⟩:=bN2 f2 _ _ h2
 obtain ⟨bs,rfl⟩:=aJn (f:=Bd.cells) hk
 obtain ⟨keep,rfl⟩:=aJn (f:=λn=>[AV.int .i64 n]) hk1
 simp only [aAt] at e4 e5
 obtain ⟨u,r,e7,e8,e9⟩:=e4
 obtain ⟨u1,r1,e71,e81,e91⟩:=e5
 injection e7 with e10 e11
 injection e71 with e101 e111
 subst e10 e101
 have hlen:bs.length=len:=by
  simp only [aAi] at e8
  obtain ⟨A,c,e,_⟩:=e8
  injection e with _ e _
  rw [List.length_map] at e;omega
 have hz2':=cAi Tryz.underlying37 h2 hz1
 rw [show Go.Proofs.Tryz.prog.bytesOf 42=64 by kernel_rfl,show reachBytes=140737488351232 from rfl] at hz2'
 refine ⟨g,keep,bs,by rw [hlen];exact hz2',?_⟩
 simp only [aAt]
 refine ⟨_,_,rfl,?_,_,_,rfl,e81,_,_,rfl,e8,rfl⟩
 simp only [aAi]
 exact ⟨cs.toList,by simp,e2,e3⟩
end
theorem cS3 {W:World}(g:Gr) (keep:List Int) (bs:List Bd) (v0 v1 v2:Value) (hb:bs.length*64<=140737488351232) (hgl:bJk (SW W) W GL) (ha:aAt (SW W) H0 W [.agg g.cells,.ro 1 (aAh keep),.ro 3 (aA5 bs)] [v0,v1,v2]):
 Calls Go.Proofs.Tryz.prog 13 #[v0,v1,v2] W λe w'=>e= .returned (.bool true)/\Below W.heap.size W w':=
 aAc.calls (cUp g keep bs hb) Tryz.func13 rfl (by decide +kernel) hgl ha λS b w' v' h=>by
  obtain ⟨S',F,hF,_⟩:=h
  simp only [aDw,aAi] at hF
  exact hF.2
theorem cOf:(Rows.execKeepsRow.laid.filter λx=>x.2.handleName?.isNone)=bIp:=by kernel_rfl
theorem cPv (os:Os) (started:os.Started) (H:Type) (enc:TypeId×Value->H):
 ReturnsInHanded {} Tryz.checked os 13 .any (λw args=>(Rows.execKeepsSpec.pre enc Go.Proofs.Tryz.prog Go.Proofs.Tryz.f13 [] false w args/\laidMetH Go.Proofs.Tryz.prog Rows.execKeepsRow.laid w)/\sizedMet enc Go.Proofs.Tryz.prog Go.Proofs.Tryz.f13 (OpenSpec.ofChange Rows.execKeepsSpec) false w args)
  (Rows.execKeepsSpec.post enc Go.Proofs.Tryz.prog Go.Proofs.Tryz.f13 false true false false):=by
 refine returnsInHanded_of_change_and (C:=Tryz.checked) (X:=λw _=>laidMetH Go.Proofs.Tryz.prog Rows.execKeepsRow.laid w) (λ_ _ _ hh h=>h.of_heap hh) own started (by kernel_rfl) Tryz.func13
  (ChangeSpec.witness_shaped (enc:=enc) (C:=Tryz.checked) (os:=os) (X:=λw _=>laidMetH Go.Proofs.Tryz.prog Rows.execKeepsRow.laid w) false (HW os bIp) #[.agg #[.slice none 0 0,.int .i64 0],.slice none 0 0,.slice none 0 0] 8 (bUj _ _)
    (World.shaped_of_ZipB (by kernel_rfl) (by kernel_rfl)) (by kernel_rfl) (by kernel_rfl) (by kernel_rfl)
    (laidMetH_of_parts (by rw [cOf];exact bJp _ (by kernel_rfl) (by kernel_rfl)) (by kernel_rfl))) ?_
 intro W base args ds gs before hval0 hW hc hz hL _
 have hval:∀(j:Nat) t v,Go.Proofs.Tryz.f13.params[j]? =some t->args[j]? =some v->Value.okWide Go.Proofs.Tryz.prog W .any base t v:=hval0
 have hW':=hW
 obtain ⟨p,q,hA0,hV,rfl,_,_⟩:=hW
 have hA:DataW.TrodAll enc Go.Proofs.Tryz.prog W 0 (λ_=>true) true Go.Proofs.Tryz.f13.params.toList args.toList ds p:=hA0
 have hz1:(DataW.weightsEach Go.Proofs.Tryz.prog (Go.Proofs.Tryz.f13.params.toList++Rows.execKeepsSpec.plain.varTypes Go.Proofs.Tryz.prog) (ds++gs)).all (· <=reachBytes)=true:=hz
 rw [Tryz.params13] at hA hval hz1
 obtain ⟨v0,vs0,d0,ds0,p0,q0,hargs,rfl,rfl,h0,r0⟩:=trodAll_cons hA
 obtain ⟨v1,vs1,d1,ds1,p1,q1,rfl,rfl,rfl,h1,r1⟩:=trodAll_cons r0
 obtain ⟨v2,vs2,d2,ds2,p2,q2,rfl,rfl,rfl,h2,r2⟩:=trodAll_cons r1
 obtain ⟨rfl,rfl,rfl⟩:=trodAll_nil r2
 obtain rfl:args= #[v0,v1,v2]:=by cases args;simp_all
 obtain ⟨rfl,rfl⟩:=trodVars_none hV
 replace hL:=(laidMetH_iff.1 hL).1
 rw [cOf] at hL
 have hz2:=List.all_eq_true.1 hz1
 obtain ⟨g,keep,bs,hb,hrep⟩:=cHf h0 h1 h2 (hval 0 _ v0 rfl rfl) (hval 1 _ v1 rfl rfl) (hval 2 _ v2 rfl rfl) (λn hn=>by simpa using hz2 n (DataW.weights_mem_each (j:=2) rfl rfl n hn))
 refine (cS3 g keep bs v0 v1 v2 hb (bWs hL (by first|exact ⟨0,_,rfl⟩|exact ⟨1,_,rfl⟩|exact ⟨2,_,rfl⟩|exact ⟨3,_,rfl⟩|exact ⟨4,_,rfl⟩|exact ⟨5,_,rfl⟩|exact ⟨6,_,rfl⟩|exact ⟨7,_,rfl⟩|exact ⟨8,_,rfl⟩|exact ⟨9,_,rfl⟩|exact ⟨10,_,rfl⟩|exact ⟨11,_,rfl⟩|exact ⟨12,_,rfl⟩|exact ⟨13,_,rfl⟩) (by first|exact ⟨0,_,rfl⟩|exact ⟨1,_,rfl⟩|exact ⟨2,_,rfl⟩|exact ⟨3,_,rfl⟩|exact ⟨4,_,rfl⟩|exact ⟨5,_,rfl⟩|exact ⟨6,_,rfl⟩|exact ⟨7,_,rfl⟩|exact ⟨8,_,rfl⟩|exact ⟨9,_,rfl⟩|exact ⟨10,_,rfl⟩|exact ⟨11,_,rfl⟩|exact ⟨12,_,rfl⟩|exact ⟨13,_,rfl⟩) (by first|exact ⟨0,_,rfl⟩|exact ⟨1,_,rfl⟩|exact ⟨2,_,rfl⟩|exact ⟨3,_,rfl⟩|exact ⟨4,_,rfl⟩|exact ⟨5,_,rfl⟩|exact ⟨6,_,rfl⟩|exact ⟨7,_,rfl⟩|exact ⟨8,_,rfl⟩|exact ⟨9,_,rfl⟩|exact ⟨10,_,rfl⟩|exact ⟨11,_,rfl⟩|exact ⟨12,_,rfl⟩|exact ⟨13,_,rfl⟩)) hrep).mono λe W' ⟨he,bel⟩=>?_
 subst he
 have lt0:∀x∈p0,x.block<W.heap.size:=by obtain ⟨m,hm⟩:=h0;exact DataW.trod_lt m _ _ _ hm
 have lt1:∀x∈p1,x.block<W.heap.size:=by obtain ⟨m,hm⟩:=h1;exact DataW.trod_lt m _ _ _ hm
 have lt2:∀x∈p2,x.block<W.heap.size:=by obtain ⟨m,hm⟩:=h2;exact DataW.trod_lt m _ _ _ hm
 exact ⟨_,rfl,_,_,_,[],_,[],hW',trodAll_mk1 (shut_bool Tryz.underlying4 _),(trodAll_cons_mk (Below.trod aLa (by kernel_rfl) (of_decide_eq_true (by kernel_rfl)) h0 bel lt0) (trodAll_cons_mk (Below.trod aLa (by kernel_rfl) (of_decide_eq_true (by kernel_rfl)) h1 bel lt1) (trodAll_cons_mk (Below.trod aLa (by kernel_rfl) (of_decide_eq_true (by kernel_rfl)) h2 bel lt2) trodAll_mk0))),rfl,bel.frame _,λh=>by cases h⟩
theorem cS5 {W:World}(g:Gr) (keep:List Int) (bs:List Bd) (v0 v1 v2:Value) (hb:bs.length*64<=140737488351232) (hgl:bJk (SW W) W GL) (ha:aAt (SW W) H0 W [.agg g.cells,.ro 1 (aAh keep),.ro 3 (aA5 bs)] [v0,v1,v2]):
 Calls Go.Proofs.Tryz.prog 11 #[v0,v1,v2] W λe w'=>e= .returned (.bool true)/\Below W.heap.size W w':=
 aAc.calls (cUr g keep bs hb) Tryz.func11 rfl (by decide +kernel) hgl ha λS b w' v' h=>by
  obtain ⟨S',F,hF,_⟩:=h
  simp only [aDw,aAi] at hF
  exact hF.2
theorem cOh:(Rows.execTwiceRow.laid.filter λx=>x.2.handleName?.isNone)=bIp:=by kernel_rfl
theorem cPx (os:Os) (started:os.Started) (H:Type) (enc:TypeId×Value->H):
 ReturnsInHanded {} Tryz.checked os 11 .any (λw args=>(Rows.execTwiceSpec.pre enc Go.Proofs.Tryz.prog Go.Proofs.Tryz.f11 [] false w args/\laidMetH Go.Proofs.Tryz.prog Rows.execTwiceRow.laid w)/\sizedMet enc Go.Proofs.Tryz.prog Go.Proofs.Tryz.f11 (OpenSpec.ofChange Rows.execTwiceSpec) false w args)
  (Rows.execTwiceSpec.post enc Go.Proofs.Tryz.prog Go.Proofs.Tryz.f11 false true false false):=by
 refine returnsInHanded_of_change_and (C:=Tryz.checked) (X:=λw _=>laidMetH Go.Proofs.Tryz.prog Rows.execTwiceRow.laid w) (λ_ _ _ hh h=>h.of_heap hh) own started (by kernel_rfl) Tryz.func11
  (ChangeSpec.witness_shaped (enc:=enc) (C:=Tryz.checked) (os:=os) (X:=λw _=>laidMetH Go.Proofs.Tryz.prog Rows.execTwiceRow.laid w) false (HW os bIp) #[.agg #[.slice none 0 0,.int .i64 0],.slice none 0 0,.slice none 0 0] 8 (bUj _ _)
    (World.shaped_of_ZipB (by kernel_rfl) (by kernel_rfl)) (by kernel_rfl) (by kernel_rfl) (by kernel_rfl)
    (laidMetH_of_parts (by rw [cOh];exact bJp _ (by kernel_rfl) (by kernel_rfl)) (by kernel_rfl))) ?_
 intro W base args ds gs before hval0 hW hc hz hL _
 have hval:∀(j:Nat) t v,Go.Proofs.Tryz.f11.params[j]? =some t->args[j]? =some v->Value.okWide Go.Proofs.Tryz.prog W .any base t v:=hval0
 have hW':=hW
 obtain ⟨p,q,hA0,hV,rfl,_,_⟩:=hW
 have hA:DataW.TrodAll enc Go.Proofs.Tryz.prog W 0 (λ_=>true) true Go.Proofs.Tryz.f11.params.toList args.toList ds p:=hA0
 have hz1:(DataW.weightsEach Go.Proofs.Tryz.prog (Go.Proofs.Tryz.f11.params.toList++Rows.execTwiceSpec.plain.varTypes Go.Proofs.Tryz.prog) (ds++gs)).all (· <=reachBytes)=true:=hz
 rw [Tryz.params11] at hA hval hz1
 obtain ⟨v0,vs0,d0,ds0,p0,q0,hargs,rfl,rfl,h0,r0⟩:=trodAll_cons hA
 obtain ⟨v1,vs1,d1,ds1,p1,q1,rfl,rfl,rfl,h1,r1⟩:=trodAll_cons r0
 obtain ⟨v2,vs2,d2,ds2,p2,q2,rfl,rfl,rfl,h2,r2⟩:=trodAll_cons r1
 obtain ⟨rfl,rfl,rfl⟩:=trodAll_nil r2
 obtain rfl:args= #[v0,v1,v2]:=by cases args;simp_all
 obtain ⟨rfl,rfl⟩:=trodVars_none hV
 replace hL:=(laidMetH_iff.1 hL).1
 rw [cOh] at hL
 have hz2:=List.all_eq_true.1 hz1
 obtain ⟨g,keep,bs,hb,hrep⟩:=cHf h0 h1 h2 (hval 0 _ v0 rfl rfl) (hval 1 _ v1 rfl rfl) (hval 2 _ v2 rfl rfl) (λn hn=>by simpa using hz2 n (DataW.weights_mem_each (j:=2) rfl rfl n hn))
 refine (cS5 g keep bs v0 v1 v2 hb (bWs hL (by first|exact ⟨0,_,rfl⟩|exact ⟨1,_,rfl⟩|exact ⟨2,_,rfl⟩|exact ⟨3,_,rfl⟩|exact ⟨4,_,rfl⟩|exact ⟨5,_,rfl⟩|exact ⟨6,_,rfl⟩|exact ⟨7,_,rfl⟩|exact ⟨8,_,rfl⟩|exact ⟨9,_,rfl⟩|exact ⟨10,_,rfl⟩|exact ⟨11,_,rfl⟩|exact ⟨12,_,rfl⟩|exact ⟨13,_,rfl⟩) (by first|exact ⟨0,_,rfl⟩|exact ⟨1,_,rfl⟩|exact ⟨2,_,rfl⟩|exact ⟨3,_,rfl⟩|exact ⟨4,_,rfl⟩|exact ⟨5,_,rfl⟩|exact ⟨6,_,rfl⟩|exact ⟨7,_,rfl⟩|exact ⟨8,_,rfl⟩|exact ⟨9,_,rfl⟩|exact ⟨10,_,rfl⟩|exact ⟨11,_,rfl⟩|exact ⟨12,_,rfl⟩|exact ⟨13,_,rfl⟩) (by first|exact ⟨0,_,rfl⟩|exact ⟨1,_,rfl⟩|exact ⟨2,_,rfl⟩|exact ⟨3,_,rfl⟩|exact ⟨4,_,rfl⟩|exact ⟨5,_,rfl⟩|exact ⟨6,_,rfl⟩|exact ⟨7,_,rfl⟩|exact ⟨8,_,rfl⟩|exact ⟨9,_,rfl⟩|exact ⟨10,_,rfl⟩|exact ⟨11,_,rfl⟩|exact ⟨12,_,rfl⟩|exact ⟨13,_,rfl⟩)) hrep).mono λe W' ⟨he,bel⟩=>?_
 subst he
 have lt0:∀x∈p0,x.block<W.heap.size:=by obtain ⟨m,hm⟩:=h0;exact DataW.trod_lt m _ _ _ hm
 have lt1:∀x∈p1,x.block<W.heap.size:=by obtain ⟨m,hm⟩:=h1;exact DataW.trod_lt m _ _ _ hm
 have lt2:∀x∈p2,x.block<W.heap.size:=by obtain ⟨m,hm⟩:=h2;exact DataW.trod_lt m _ _ _ hm
 exact ⟨_,rfl,_,_,_,[],_,[],hW',trodAll_mk1 (shut_bool Tryz.underlying4 _),(trodAll_cons_mk (Below.trod aLa (by kernel_rfl) (of_decide_eq_true (by kernel_rfl)) h0 bel lt0) (trodAll_cons_mk (Below.trod aLa (by kernel_rfl) (of_decide_eq_true (by kernel_rfl)) h1 bel lt1) (trodAll_cons_mk (Below.trod aLa (by kernel_rfl) (of_decide_eq_true (by kernel_rfl)) h2 bel lt2) trodAll_mk0))),rfl,bel.frame _,λh=>by cases h⟩
end Go.Proofs.YtphnnbfgiomaoaaGreatDoor
