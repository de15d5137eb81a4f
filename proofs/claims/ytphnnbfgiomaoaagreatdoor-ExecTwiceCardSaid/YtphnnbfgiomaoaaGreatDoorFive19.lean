/-
  Lemmas (part 19) for: the statement.
-/
import Derived.Test.YtphnnbfgiomaoaaGreatDoorFive14
set_option linter.all false
namespace Go.V
open Go.N Go.Proofs
set_option maxRecDepth 20000
theorem bIm {l l':List Nd}{x:Nd}(hl:l'.length=l.length) (hs:∀r:Nat,r<l.length->aBv l' (r:Nat)=aBv l (r:Nat)) (h:aCu l x=some x.shape):aCu l' x=some x.shape:=by
 obtain ⟨o,ho⟩:=bF4 h
 obtain ⟨F,hz⟩:=aOm ho h
 have hr:∀i:Int,inR i l=true->inR i l'=true/\aBv l' i=aBv l i:=λi hi=>by
  obtain ⟨k,rfl,hk⟩:=aBc hi
  exact ⟨by simp [inR,hl,hk],hs k hk⟩
 have hf:aN8 l' x o.many=true:=(aI7 _ _ _).2 ⟨F.a0,F.b0,F.nm,F.nn,F.k,F.n,F.d,λh=>(hr _ (F.ia h)).1,λh=>(hr _ (F.ib h)).1⟩
 have ea:(if o.many=0 then [] else aBv l' x.a)=if o.many=0 then [] else aBv l x.a:=by
  rcases Nat.eq_zero_or_pos o.many with h0|h0
  · rw [if_pos h0,if_pos h0]
  · rw [if_neg (by omega),if_neg (by omega),(hr _ (F.ia h0)).2]
 have eb:(if o.many<2 then [] else aBv l' x.b)=if o.many<2 then [] else aBv l x.b:=by
  rcases Nat.lt_or_ge o.many 2 with h0|h0
  · rw [if_pos h0,if_pos h0]
  · rw [if_neg (by omega),if_neg (by omega),(hr _ (F.ib h0)).2]
 rw [aEo (by rw [ho,aFw]) hf,ea,eb]
 exact hz
theorem cAj (v:List Rat):(v.map aAw).map aN1=v:=by
 rw [List.map_map]
 exact (List.map_congr_left λx _=>aJk x).trans (List.map_id v)
theorem bDu {l:List Nd}{s:List Int}{v:List Rat}(h:VT s v):aCu l (aKr s (v.map aAw))=some s:=by
 have hf:aN8 l (aKr s (v.map aAw)) 0=true:=(aI7 _ _ _).2 ⟨λ_=>rfl,λ_=>rfl,λh=>absurd h (show ¬aA7 aA0=true by decide),λ_=>rfl,λ_=>rfl,λ_=>rfl,λh=>absurd rfl h,λh=>absurd h (by decide),λh=>absurd h (by decide)⟩
 rw [aEo (show aBh (aKr s (v.map aAw)).op=some 0 from rfl) hf]
 have e:ofZ (aKr s (v.map aAw)) (if 0=0 then [] else aBv l (aKr s (v.map aAw)).a) (if 0<2 then [] else aBv l (aKr s (v.map aAw)).b)=(s,decide (((v.map aAw).length:Int)=aDj s) && !((v.map aAw).any λd=> !aBa d)):=rfl
 have e1:((v.map aAw).any λd=> !aBa d)=false:=by
  rw [List.any_eq_false]
  intro d hd
  obtain ⟨x,_,rfl⟩:=List.mem_map.1 hd
  simp [(aE2 x).1]
 rw [e,e1,List.length_map,aIj h.ok,decide_eq_true h.len,okZ]
 dsimp only
 rw [h.ok];rfl
section
variable {bd:Nd->List Rat}{g:Gr}
theorem aGa {l:List Nd}{p:Nat}(hp:p<l.length):aBv (aAm bd l l.length) (p:Nat)=aBv l (p:Nat):=by
 rw [aBv,Int.toNat_natCast,aCo (List.getElem?_eq_getElem hp) hp (Nat.le_refl _),aAp hp]
 exact aK8 _ _ _
theorem aOk (hg:aC1 g=true):∀j,j<g.nodes.length->aAk bd (aAm bd g.nodes g.nodes.length) j=aAk bd g.nodes j:=λj=>by
 induction j using Nat.strongRecOn with
 |_ j ih=>
  intro hj
  have hx:g.nodes[j]? =some g.nodes[j]:=List.getElem?_eq_getElem hj
  have hF:=aCo (bd:=bd) hx hj (Nat.le_refl _)
  have hFl:=aBs (bd:=bd) (l:=g.nodes) g.nodes.length (Nat.le_refl _)
  rw [aFy hF]
  cases hgo:aN9 (aAm bd g.nodes j) g.nodes[j]
  · rw [aGx hgo,aFy hx]
    obtain ⟨o,ho,F⟩:=aIo hg hx
    unfold bAx
    split
    · rfl
    · rw [ho,aFg]
      refine aXn (λh=>?_) (λh=>?_)
      · obtain ⟨r,hr,h1,h2⟩:=aDq (F.ia h)
        rw [hr,aGa h2,aHh h1 (by omega),aHh h1 (by omega),ih r h1 h2]
        exact ⟨rfl,rfl⟩
      · obtain ⟨r,hr,h1,h2⟩:=aDq (F.ib h)
        rw [hr,aGa h2,aHh h1 (by omega),aHh h1 (by omega),ih r h1 h2]
        exact ⟨rfl,rfl⟩
  · rw [aHo hgo,bAx,if_neg (show ¬aA7 (aKr g.nodes[j].shape ((aAk bd g.nodes j).map aAw)).op=true from (by decide:¬aA7 aA0=true))]
    exact cAj _
theorem bIe (hg:aC1 g=true) (G:aG8 bd g.nodes) (hvt:∀j x,g.nodes[j]? =some x->VT x.shape (aAk bd g.nodes j)):aG8 bd (aAm bd g.nodes g.nodes.length):=λj y o hy ho hn sa a sb b ha hb=>by
 have hj:j<g.nodes.length:=by
  have:=(List.getElem?_eq_some_iff.1 hy).1
  rwa [aBs _ (Nat.le_refl _)] at this
 have hx:g.nodes[j]? =some g.nodes[j]:=List.getElem?_eq_getElem hj
 rw [aCo hx hj (Nat.le_refl _)] at hy
 rw [aOk hg j hj]
 cases hgo:aN9 (aAm bd g.nodes j) g.nodes[j]
 · rw [aGx hgo] at hy
   obtain rfl:=Option.some.inj hy
   obtain ⟨o',ho',F⟩:=aIo hg hx
   obtain rfl:=aRt (ho.symm.trans ho')
   refine G j _ o hx ho hn sa a sb b (λh=>?_) (λh=>?_)
   · obtain ⟨r,hr,h1,h2⟩:=aDq (F.ia h)
     have e:=ha h
     rw [hr,Int.toNat_natCast,aGa h2,aOk hg r h2] at e
     rw [hr,Int.toNat_natCast];exact e
   · obtain ⟨r,hr,h1,h2⟩:=aDq (F.ib h)
     have e:=hb h
     rw [hr,Int.toNat_natCast,aGa h2,aOk hg r h2] at e
     rw [hr,Int.toNat_natCast];exact e
 · rw [aHo hgo] at hy
   obtain rfl:=Option.some.inj hy
   obtain rfl:=aRt (o:=.const) (o':=o) ho
   have h:=FitV.const (k:=⟨#[]⟩) (n:=0) (sa:=sa) (a:=a) (sb:=sb) (b:=b) (hvt j _ hx)
   exact h
theorem bWp (hg:aC1 g=true) (hvt:∀j x,g.nodes[j]? =some x->VT x.shape (aAk bd g.nodes j)):aC1 (bDr bd g)=true:=by
 have hFl:=aBs (bd:=bd) (l:=g.nodes) g.nodes.length (Nat.le_refl _)
 obtain ⟨h1,h2,q,hq,hql⟩:=aMd hg
 have hs:aBv g.nodes g.loss=[]:=by
  have hg':=hg
  simp only [aC1,bBc,Bool.and_eq_true,decide_eq_true_eq] at hg'
  exact hg'.1.2
 have hpre:bBc (bDr bd g)=true:=by
  simp only [bBc,Bool.and_eq_true]
  refine ⟨⟨⟨decide_eq_true ?_,decide_eq_true ?_⟩,?_⟩,decide_eq_true ?_⟩
  · show 1<=(aAm bd g.nodes g.nodes.length).length
    omega
  · show (aAm bd g.nodes g.nodes.length).length<=200
    omega
  · show inR g.loss (aAm bd g.nodes g.nodes.length)=true
    simp [inR,hq,hFl,hql]
  show aBv (aAm bd g.nodes g.nodes.length) g.loss=[]
  rw [hq,aGa hql,<-hq];exact hs
 rw [aC1,hpre,Bool.true_and]
 show aHd (aAm bd g.nodes g.nodes.length) (aAm bd g.nodes g.nodes.length).length=true
 refine List.all_eq_true.2 λj hj=>?_
 have hj:=List.mem_range.1 hj
 rw [hFl] at hj
 have hx:g.nodes[j]? =some g.nodes[j]:=List.getElem?_eq_getElem hj
 have hF:=aCo (bd:=bd) hx hj (Nat.le_refl _)
 have hnd:=bOa hg hx
 simp only [bAf,Bool.and_eq_true,decide_eq_true_eq] at hnd
 rw [bD1,hF]
 show bAf (List.take j (aAm bd g.nodes g.nodes.length)) (aFu (aAm bd g.nodes j) g.nodes[j] (aAk bd g.nodes j))=true
 simp only [bAf,Bool.and_eq_true,decide_eq_true_eq]
 refine ⟨?_,?_⟩
 · cases hgo:aN9 (aAm bd g.nodes j) g.nodes[j]
   · rw [aGx hgo]
     refine bIm (by rw [List.length_take,List.length_take,hFl]) (λr hr=>?_) hnd.1
     rw [List.length_take] at hr
     rw [aMm (by omega),aMm (by omega),aGa (by omega)]
   · rw [aHo hgo]
     exact bDu (hvt j _ hx)
 · refine List.all_eq_true.2 λz hz=>?_
   obtain ⟨k,hk,rfl⟩:=List.getElem_of_mem hz
   rw [List.length_take] at hk
   have hkj:k<j:=by omega
   have hk2:k<g.nodes.length:=by omega
   have hxk:g.nodes[k]? =some g.nodes[k]:=List.getElem?_eq_getElem hk2
   have hz1:(aAm bd g.nodes g.nodes.length)[k]'(by omega)=aFu (aAm bd g.nodes k) g.nodes[k] (aAk bd g.nodes k):=by
    have:=aCo (bd:=bd) hxk hk2 (Nat.le_refl _)
    exact (List.getElem?_eq_some_iff.1 this).2
   have h0:=List.all_eq_true.1 hnd.2 g.nodes[k] (List.mem_of_getElem? (i:=k) (by rw [List.getElem?_take_of_lt hkj];exact hxk))
   rw [List.getElem_take,hz1,aC9,aL1 hg hx,aL1 hg hxk]
   exact h0
theorem bDs (hg:aC1 g=true) (bs:List Bd):aCt bs (aAm bd g.nodes g.nodes.length)=aCt bs g.nodes:=by
 have hFl:=aBs (bd:=bd) (l:=g.nodes) g.nodes.length (Nat.le_refl _)
 have key:∀j (h:j<g.nodes.length),(decide (((aAm bd g.nodes g.nodes.length)[j]'(by omega)).name=⟨#[]⟩) || aDx bs ((aAm bd g.nodes g.nodes.length)[j]'(by omega)))=(decide (g.nodes[j].name=⟨#[]⟩) || aDx bs g.nodes[j]):=λj h=>by
  have hx:g.nodes[j]? =some g.nodes[j]:=List.getElem?_eq_getElem h
  have hz:=(List.getElem?_eq_some_iff.1 (aCo (bd:=bd) hx h (Nat.le_refl _))).2
  rw [hz,aL1 hg hx,aDx,aDx,aL1 hg hx,aK8]
 rw [Bool.eq_iff_iff,aCt,aCt,List.all_eq_true,List.all_eq_true]
 constructor
 · intro h x hx
   obtain ⟨j,hj,rfl⟩:=List.getElem_of_mem hx
   rw [<- key j hj];exact h _ (List.getElem_mem _)
 · intro h x hx
   obtain ⟨j,hj,rfl⟩:=List.getElem_of_mem hx
   rw [key j (by omega)];exact h _ (List.getElem_mem _)
end
end Go.V
