/-
  Lemmas (part 16) for: the statement.
-/
import Derived.Test.YtphnnbfgiomaoaaGreatDoorFive7
import Derived.Lib.ItoaNum
import Derived.Lib.Join
set_option linter.all false
namespace Go.V
open Go.N Go.Proofs
set_option maxRecDepth 20000
theorem cOv (n:Nat):Lib.decDigits n=dec n:=by
 induction n using Nat.strongRecOn with
 |_ n ih=>
  rw [Lib.decDigits,dec]
  by_cases h:n<10
  · rw [dif_pos h,if_pos h];rfl
  · rw [dif_neg h,if_neg h,ih (n / 10) (by omega)];rfl
def cN9 (n:Int):List UInt8:=if n<0 then 45::dec n.natAbs else dec n.toNat
theorem cVl (n:Int):Lib.itoa n=cN9 n:=by unfold Lib.itoa cN9;rw [cOv,cOv]
theorem cO6 {n:Nat}{c:UInt8}(h:c∈dec n):48<=c.toNat/\c.toNat<=57:=by
 have:=List.all_eq_true.1 (aH8 n) c h
 simpa [aCe] using this
theorem cOw (n:Nat):(dec n)[0]? ≠some 45:=λh=>by
 have:=cO6 (List.mem_of_getElem? h)
 simp at this
theorem cOx {a b:Int}(h:cN9 a=cN9 b):a=b:=by
 unfold cN9 at h
 split at h<;>split at h
 · have:=bMt (List.cons.inj h).2;omega
 · exact absurd (by rw [<- h];rfl) (cOw b.toNat)
 · exact absurd (by rw [h];rfl) (cOw a.toNat)
 · have:=bMt h;omega
def NoSp (l:List UInt8):Prop:=(32:UInt8) ∉ l
theorem cOk (n:Int):NoSp (cN9 n):=λh=>by
 unfold cN9 at h
 split at h
 · rcases List.mem_cons.1 h with h|h
   · exact absurd h (by decide)
   · have:=cO6 h;simp at this
 · have:=cO6 h;simp at this
def cWk:List UInt8:=[115,104,97,112,101]
def cWj:List UInt8:=[100,97,116,97]
theorem cOy (n:Int):cN9 n≠cWj:=λh=>by
 have h1:(100:UInt8)∈cN9 n:=by rw [h];decide
 unfold cN9 at h1
 split at h1
 · rcases List.mem_cons.1 h1 with h|h
   · exact absurd h (by decide)
   · have:=cO6 h;simp at this
 · have:=cO6 h1;simp at this
theorem cW0:∀{a b u v:List UInt8},NoSp a->NoSp b->a++32::u=b++32::v->a=b/\u=v
 |[],[],u,v,_,_,h=>⟨rfl,(List.cons.inj h).2⟩
 |[],y::b,u,v,_,hb,h=>by
  have:=(List.cons.inj h).1
  exact absurd List.mem_cons_self (this ▸ hb)
 |x::a,[],u,v,ha,_,h=>by
  have:=(List.cons.inj h).1
  exact absurd List.mem_cons_self (this ▸ ha)
 |x::a,y::b,u,v,ha,hb,h=>by
  have h1:=List.cons.inj h
  obtain ⟨h2,h3⟩:=cW0 (λe=>ha (List.mem_cons_of_mem _ e)) (λe=>hb (List.mem_cons_of_mem _ e)) h1.2
  exact ⟨by rw [h1.1,h2],h3⟩
theorem cWz:∀{a b v:List UInt8},NoSp a->a≠b++32::v:=λha h=>ha (by rw [h];simp)
theorem cP0 (x y:List UInt8) (r:List (List UInt8)):Lib.join (x::y::r) [32]=x++32::Lib.join (y::r) [32]:=by
 rw [Lib.join_cons,Lib.join_cons];simp [Lib.joinTail]
theorem cU9:∀{xs ys:List (List UInt8)},xs≠[]->ys≠[]->(∀ x∈xs,NoSp x)->(∀ y∈ys,NoSp y)->Lib.join xs [32]=Lib.join ys [32]->xs=ys
 |[],_,h,_,_,_,_=>absurd rfl h
 |_,[],_,h,_,_,_=>absurd rfl h
 |[x],[y],_,_,_,_,h=>by rw [Lib.join_one,Lib.join_one] at h;rw [h]
 |[x],y::z::r,_,_,hx,_,h=>by
  rw [Lib.join_one,cP0] at h
  exact absurd h (cWz (hx x List.mem_cons_self))
 |x::z::r,[y],_,_,_,hy,h=>by
  rw [Lib.join_one,cP0] at h
  exact absurd h.symm (cWz (hy y List.mem_cons_self))
 |x::z::r,y::w::s,_,_,hx,hy,h=>by
  rw [cP0,cP0] at h
  obtain ⟨h1,h2⟩:=cW0 (hx x List.mem_cons_self) (hy y List.mem_cons_self) h
  rw [h1,cU9 (by simp) (by simp) (λa ha=>hx a (List.mem_cons_of_mem _ ha)) (λa ha=>hy a (List.mem_cons_of_mem _ ha)) h2]
def cUg (x:Nd):List (List UInt8):=[x.op.toList,cN9 x.a,cN9 x.b,x.name.toList,x.k.toList,cN9 x.n,cWk]++x.shape.map cN9++(cWj::x.data.map λs=>s.toList)
def cVw (x:Nd):ByteArray:=⟨(Lib.join (cUg x) [32]).toArray⟩
structure Nd.NoSp (x:Nd):Prop where
 op:Go.V.NoSp x.op.toList
 name:Go.V.NoSp x.name.toList
 k:Go.V.NoSp x.k.toList
 data:∀s∈x.data,Go.V.NoSp s.toList
theorem cT6 {x:Nd}(h:x.NoSp):∀t∈cUg x,Go.V.NoSp t:=λt ht=>by
 simp only [cUg,List.mem_append,List.mem_cons,List.mem_map,List.not_mem_nil,or_false] at ht
 rcases ht with ((rfl|rfl|rfl|rfl|rfl|rfl|rfl)|⟨d,_,rfl⟩)|(rfl|⟨s,hs,rfl⟩)
 · exact h.op
 · exact cOk _
 · exact cOk _
 · exact h.name
 · exact h.k
 · exact cOk _
 · unfold Go.V.NoSp;decide
 · exact cOk _
 · unfold Go.V.NoSp;decide
 · exact h.data s hs
theorem cT1:∀{s1 s2:List Int}{d1 d2:List (List UInt8)},s1.map cN9++cWj::d1=s2.map cN9++cWj::d2->s1=s2/\d1=d2
 |[],[],_,_,h=>⟨rfl,(List.cons.inj h).2⟩
 |[],b::s2,_,_,h=>absurd (List.cons.inj h).1.symm (cOy b)
 |a::s1,[],_,_,h=>absurd (List.cons.inj h).1 (cOy a)
 |a::s1,b::s2,_,_,h=>by
  have h1:=List.cons.inj h
  obtain ⟨h2,h3⟩:=cT1 h1.2
  exact ⟨by rw [cOx h1.1,h2],h3⟩
theorem cOn:∀{a b:List ByteArray},(a.map λs=>s.toList)=(b.map λs=>s.toList)->a=b
 |[],[],_=>rfl
 |[],_::_,h=>by simp at h
 |_::_,[],h=>by simp at h
 |x::a,y::b,h=>by
  have h1:=List.cons.inj h
  rw [aBl h1.1,cOn h1.2]
theorem cW9 {x y:Nd}(hx:x.NoSp) (hy:y.NoSp) (h:cVw x=cVw y):x=y:=by
 have h1:Lib.join (cUg x) [32]=Lib.join (cUg y) [32]:=by
  have:=congrArg ByteArray.toList h
  simpa [cVw,aDg] using this
 have h2:=cU9 (by simp [cUg]) (by simp [cUg]) (cT6 hx) (cT6 hy) h1
 simp only [cUg,List.cons_append,List.nil_append,List.cons.injEq,true_and] at h2
 obtain ⟨e1,e2,e3,e4,e5,e6,e7⟩:=h2
 obtain ⟨e8,e9⟩:=cT1 e7
 obtain ⟨op,a,b,name,shape,k,n,data⟩:=x
 obtain ⟨op2,a2,b2,name2,shape2,k2,n2,data2⟩:=y
 dsimp only at*
 rw [aBl e1,cOx e2,cOx e3,aBl e4,aBl e5,cOx e6,e8,cOn e9]
open Classical in
noncomputable def cNt (out:List Nd) (y:Nd):Nat:=match out.findIdx? (λz=>decide (z=y)) with|some k=>k|none=>out.length
open Classical in
noncomputable def cNs (l:List Nd):Nat->List Int×List Nd
 |0=>([],[])
 |i+1=>match l[i]? with
  |none=>cNs l i
  |some x=>((cNs l i).1++[((cNt (cNs l i).2 (reN (cNs l i).1 x):Nat):Int)],
    if cNt (cNs l i).2 (reN (cNs l i).1 x)=(cNs l i).2.length then (cNs l i).2++[reN (cNs l i).1 x] else (cNs l i).2)
theorem cN8 {out:List Nd}{y:Nd}{k:Nat}(hk:k<out.length) (h:out[k]=y) (hmin:∀j (hj:j<k),out[j]'(by omega)≠y):cNt out y=k:=by
 have:out.findIdx? (λz=>@decide (z=y) (Classical.propDecidable _))=some k:=by
  rw [List.findIdx?_eq_some_iff_getElem]
  exact ⟨hk,by simp [h],λj hj=>by simpa using hmin j hj⟩
 unfold cNt
 rw [this]
theorem cNw {out:List Nd}{y:Nd}(h:∀j (hj:j<out.length),out[j]≠y):cNt out y=out.length:=by
 have:out.findIdx? (λz=>@decide (z=y) (Classical.propDecidable _))=none:=by
  rw [List.findIdx?_eq_none_iff]
  intro z hz
  obtain ⟨j,hj,rfl⟩:=List.getElem_of_mem hz
  simpa using h j hj
 unfold cNt
 rw [this]
theorem cN3 (out:List Nd) (y:Nd):(∃ h:cNt out y<out.length,out[cNt out y]=y/\∀j (hj:j<cNt out y),out[j]'(by omega)≠y)\/(cNt out y=out.length/\∀j (hj:j<out.length),out[j]≠y):=by
 by_cases h:∀j (hj:j<out.length),out[j]≠y
 · exact .inr ⟨cNw h,h⟩
 · left
   have:∃j,∃hj:j<out.length,out[j]=y:=by
    apply Classical.byContradiction
    intro hn
    exact h λj hj e=>hn ⟨j,hj,e⟩
   have key:∀n,(∃ j,j<=n/\∃hj:j<out.length,out[j]=y)->∃k,∃hk:k<out.length,out[k]=y/\∀j (hj:j<k),out[j]'(by omega)≠y:=by
    intro n
    induction n with
    |zero=>
     rintro ⟨j,hj0,hj,e⟩
     exact ⟨j,hj,e,λi hi=>by omega⟩
    |succ n ih=>
     rintro ⟨j,hjn,hj,e⟩
     by_cases hs:∃i,i<=n/\∃hi:i<out.length,out[i]=y
     · exact ih hs
     · exact ⟨j,hj,e,λi hi e2=>hs ⟨i,by omega,by omega,e2⟩⟩
   obtain ⟨j,hj,e⟩:=this
   obtain ⟨k,hk,e2,hmin⟩:=key j ⟨j,Nat.le_refl _,hj,e⟩
   have hf:=cN8 hk e2 hmin
   refine ⟨by omega,?_,?_⟩
   · simp only [hf];exact e2
   · intro i hi;exact hmin i (by omega)
theorem cNx {l:List Nd}{i:Nat}{pl:List Int}{out:List Nd}{x:Nd}(h:cNs l i=(pl,out)) (hx:l[i]? =some x):
 cNs l (i+1)=(pl++[((cNt out (reN pl x):Nat):Int)],if cNt out (reN pl x)=out.length then out++[reN pl x] else out):=by
 simp only [cNs,hx,h]
noncomputable def cNv (g:Gr):Gr×List Int:=(⟨(cNs g.nodes g.nodes.length).2,atZ (cNs g.nodes g.nodes.length).1 g.loss⟩,(cNs g.nodes g.nodes.length).1)
end Go.V
