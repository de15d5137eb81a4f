/-
  Lemmas (part 20) for: the statement.
-/
import Derived.Test.YtphnnbfgiomaoaaGreatDoorFive17
import Derived.Test.YtphnnbfgiomaoaaGreatDoorFive19
set_option linter.all false
namespace Go.V
open Go.N Go.Proofs
set_option maxRecDepth 20000
theorem cEq (pl:List Int) (x:Nd):(reN pl x).op=x.op/\(reN pl x).name=x.name/\(reN pl x).shape=x.shape/\(reN pl x).k=x.k/\(reN pl x).n=x.n/\(reN pl x).data=x.data:=by
 unfold reN;split<;>exact ⟨rfl,rfl,rfl,rfl,rfl,rfl⟩
theorem cH0 (pl:List Int) (x:Nd) (a b:List Int):ofZ (reN pl x) a b=ofZ x a b:=by
 unfold reN;split<;>rfl
theorem cH2 {pl:List Int}{x:Nd}{o:Opc}(ho:x.op=o.str):(0<o.many->(reN pl x).a=atZ pl x.a/\x.a∈cEp x)/\(1<o.many->(reN pl x).b=atZ pl x.b/\x.b∈cEp x)/\(o.many=0->(reN pl x).a=x.a)/\(o.many<2->(reN pl x).b=x.b):=by
 have hp:aBh x.op=some o.many:=by rw [ho,aFw]
 have hm:=aNi hp
 have h3:o.many=0\/o.many=1\/o.many=2:=by omega
 rcases h3 with h|h|h
 · rw [h] at hp
   rw [re0 hp,h]
   exact ⟨λh=>absurd h (by decide),λh=>absurd h (by decide),λ_=>rfl,λ_=>rfl⟩
 · rw [h] at hp
   rw [re1 hp,dP1 hp,h]
   exact ⟨λ_=>⟨rfl,by simp⟩,λh=>absurd h (by decide),λh=>absurd h (by decide),λ_=>rfl⟩
 · rw [h] at hp
   rw [re2 hp,dP2 hp,h]
   exact ⟨λ_=>⟨rfl,by simp⟩,λ_=>⟨rfl,by simp⟩,λh=>absurd h (by decide),λh=>absurd h (by decide)⟩
structure Emb (l out:List Nd) (pl:List Int) (N:Nat->Bool):Prop where
 at_:∀j x,l[j]? =some x->N j=true->∃m:Nat,atZ pl (j:Nat)=(m:Nat)/\out[m]? =some (reN pl x)
 lt:∀j x,l[j]? =some x->N j=true->∀k:Nat,(k:Int)∈cEp x->N k=true/\∀m mk:Nat,atZ pl (j:Nat)=(m:Nat)->atZ pl (k:Nat)=(mk:Nat)->mk<m
 onto:∀m,m<out.length->∃j,j<l.length/\N j=true/\atZ pl (j:Nat)=(m:Nat)
theorem cE0 {g:Gr}{out:List Nd}{pl:List Int}{N:Nat->Bool}(E:Emb g.nodes out pl N){j m:Nat}{x:Nd}(hx:g.nodes[j]? =some x) (hN:N j=true) (hm:atZ pl (j:Nat)=(m:Nat)){p:Int}(hp:p∈cEp x)
 (hr:inR p (g.nodes.take j)=true):∃k mk:Nat,p=(k:Nat)/\k<j/\k<g.nodes.length/\N k=true/\atZ pl p=(mk:Nat)/\mk<m/\mk<out.length/\aBv out (atZ pl p)=aBv g.nodes p:=by
 obtain ⟨k,rfl,hk1,hk2⟩:=aDq hr
 obtain ⟨hNk,hlt⟩:=E.lt j x hx hN k hp
 obtain ⟨mk,e1,e2⟩:=E.at_ k _ (List.getElem?_eq_getElem hk2) hNk
 have hl:=(List.getElem?_eq_some_iff.1 e2).1
 refine ⟨k,mk,rfl,hk1,hk2,hNk,e1,hlt m mk hm e1,hl,?_⟩
 rw [e1,aAp hl,aAp hk2,(List.getElem?_eq_some_iff.1 e2).2,(cEq _ _).2.2.1]
theorem cGh {bd:Nd->List Rat}{g:Gr}{out:List Nd}{pl:List Int}{N:Nat->Bool}(E:Emb g.nodes out pl N) (hg:aC1 g=true) (hbd:∀x y:Nd,x.name=y.name->x.shape=y.shape->bd x=bd y):
 ∀j,j<g.nodes.length->N j=true->∀m:Nat,atZ pl (j:Nat)=(m:Nat)->aAk bd out m=aAk bd g.nodes j:=λj=>by
 induction j using Nat.strongRecOn with
 |_ j ih=>
  intro hj hN m hm
  have hx:g.nodes[j]? =some g.nodes[j]:=List.getElem?_eq_getElem hj
  obtain ⟨m',e1,e2⟩:=E.at_ j _ hx hN
  obtain rfl:m'=m:=by omega
  have hml:=(List.getElem?_eq_some_iff.1 e2).1
  obtain ⟨o,ho,F⟩:=aIo hg hx
  obtain ⟨f1,f2,f3,f4,f5,f6⟩:=cEq pl g.nodes[j]
  obtain ⟨ra,rb,_,_⟩:=cH2 (pl:=pl) ho
  rw [aFy e2,aFy hx]
  unfold bAx
  rw [f1,f3,f4,f5,f6]
  split
  · exact hbd _ _ f2 f3
  · rw [ho,aFg]
    refine aXn (λh=>?_) (λh=>?_)
    · obtain ⟨r1,r2⟩:=ra h
      obtain ⟨k,mk,h1,h2,h3,h4,h5,h6,h7,h8⟩:=cE0 E hx hN hm r2 (F.ia h)
      rw [r1,h8,h5,h1,aHh h6 (by omega),aHh h2 (by omega)]
      exact ⟨rfl,ih k h2 h3 h4 mk (by rw [<- h1];exact h5)⟩
    · obtain ⟨r1,r2⟩:=rb h
      obtain ⟨k,mk,h1,h2,h3,h4,h5,h6,h7,h8⟩:=cE0 E hx hN hm r2 (F.ib h)
      rw [r1,h8,h5,h1,aHh h6 (by omega),aHh h2 (by omega)]
      exact ⟨rfl,ih k h2 h3 h4 mk (by rw [<- h1];exact h5)⟩
theorem cGv {g:Gr}{out:List Nd}{pl:List Int}{N:Nat->Bool}(E:Emb g.nodes out pl N){m:Nat}{y:Nd}(hy:out[m]? =some y):
 ∃j x,g.nodes[j]? =some x/\j<g.nodes.length/\N j=true/\atZ pl (j:Nat)=(m:Nat)/\y=reN pl x:=by
 obtain ⟨j,h1,h2,h3⟩:=E.onto m (List.getElem?_eq_some_iff.1 hy).1
 obtain ⟨m',e1,e2⟩:=E.at_ j _ (List.getElem?_eq_getElem h1) h2
 obtain rfl:m'=m:=by omega
 rw [hy] at e2
 exact ⟨j,_,List.getElem?_eq_getElem h1,h1,h2,h3,Option.some.inj e2⟩
theorem cHj {bd:Nd->List Rat}{g:Gr}{out:List Nd}{pl:List Int}{N:Nat->Bool}(E:Emb g.nodes out pl N) (hg:aC1 g=true) (hbd:∀x y:Nd,x.name=y.name->x.shape=y.shape->bd x=bd y) (G:aG8 bd g.nodes):
 aG8 bd out:=λm y o hy ho hn sa a sb b ha hb=>by
 obtain ⟨j,x,hx,hj,hN,hm,rfl⟩:=cGv E hy
 obtain ⟨f1,f2,f3,f4,f5,f6⟩:=cEq pl x
 obtain ⟨o',ho',F⟩:=aIo hg hx
 rw [f1] at ho hn
 obtain rfl:=aRt (ho.symm.trans ho')
 obtain ⟨ra,rb,_,_⟩:=cH2 (pl:=pl) ho
 rw [f3,f4,f5,f6,cGh E hg hbd j hj hN m hm]
 refine G j x o hx ho hn sa a sb b (λh=>?_) (λh=>?_)
 · obtain ⟨r1,r2⟩:=ra h
   obtain ⟨k,mk,h1,h2,h3,h4,h5,h6,h7,h8⟩:=cE0 E hx hN hm r2 (F.ia h)
   have e:=ha h
   rw [r1,h8,h5,Int.toNat_natCast,cGh E hg hbd k h3 h4 mk (by rw [<- h1];exact h5)] at e
   rw [h1,Int.toNat_natCast]
   exact ⟨by rw [<- h1];exact e.1,e.2⟩
 · obtain ⟨r1,r2⟩:=rb h
   obtain ⟨k,mk,h1,h2,h3,h4,h5,h6,h7,h8⟩:=cE0 E hx hN hm r2 (F.ib h)
   have e:=hb h
   rw [r1,h8,h5,Int.toNat_natCast,cGh E hg hbd k h3 h4 mk (by rw [<- h1];exact h5)] at e
   rw [h1,Int.toNat_natCast]
   exact ⟨by rw [<- h1];exact e.1,e.2⟩
theorem cHm {g:Gr}(hg:aC1 g=true){i j:Nat}{x y:Nd}(hx:g.nodes[i]? =some x) (hy:g.nodes[j]? =some y) (h:x.name=y.name) (hn:x.name≠⟨#[]⟩):i=j:=by
 have key:∀{i j:Nat} {x y:Nd},g.nodes[i]? =some x->g.nodes[j]? =some y->x.name=y.name->x.name≠⟨#[]⟩->¬i<j:=λ{i j x y} hx hy h hn hij=>by
  have hnd:=bOa hg hy
  simp only [bAf,Bool.and_eq_true,decide_eq_true_eq] at hnd
  have h0:=List.all_eq_true.1 hnd.2 x (List.mem_of_getElem? (i:=i) (by rw [List.getElem?_take_of_lt hij];exact hx))
  simp only [aC9,Bool.or_eq_true,decide_eq_true_eq,Bool.not_eq_true',decide_eq_false_iff_not] at h0
  rcases h0 with h0|h0
  · exact hn (h.trans h0)
  · exact h0 h
 have h1:=key hx hy h hn
 have h2:=key hy hx h.symm (by rw [<- h];exact hn)
 omega
theorem cHz {g:Gr}{out:List Nd}{pl:List Int}{N:Nat->Bool}(E:Emb g.nodes out pl N) (hg:aC1 g=true) (hlo:out.length<=g.nodes.length) (hloss:∀q:Nat,g.loss=(q:Nat)->N q=true):aC1 ⟨out,atZ pl g.loss⟩=true:=by
 obtain ⟨h1,h2,q,hq,hql⟩:=aMd hg
 have hs:aBv g.nodes g.loss=[]:=by
  have hg':=hg
  simp only [aC1,bBc,Bool.and_eq_true,decide_eq_true_eq] at hg'
  exact hg'.1.2
 obtain ⟨mq,e1,e2⟩:=E.at_ q _ (List.getElem?_eq_getElem hql) (hloss q hq)
 have hmq:=(List.getElem?_eq_some_iff.1 e2).1
 have hpre:bBc ⟨out,atZ pl g.loss⟩=true:=by
  simp only [bBc,Bool.and_eq_true]
  refine ⟨⟨⟨decide_eq_true ?_,decide_eq_true ?_⟩,?_⟩,decide_eq_true ?_⟩
  · show 1<=out.length
    omega
  · show out.length<=200
    omega
  · show inR (atZ pl g.loss) out=true
    rw [hq,e1];simp [inR,hmq]
  show aBv out (atZ pl g.loss)=[]
  rw [hq,e1,aAp hmq,(List.getElem?_eq_some_iff.1 e2).2,(cEq _ _).2.2.1,<-aAp hql,<-hq];exact hs
 rw [aC1,hpre,Bool.true_and]
 show aHd out out.length=true
 refine List.all_eq_true.2 λm hm=>?_
 have hm:=List.mem_range.1 hm
 have hy:out[m]? =some out[m]:=List.getElem?_eq_getElem hm
 rw [bD1,hy]
 show bAf (List.take m out) out[m]=true
 obtain ⟨j,x,hx,hj,hN,hmj,hyx⟩:=cGv E hy
 rw [hyx]
 obtain ⟨f1,f2,f3,f4,f5,f6⟩:=cEq pl x
 obtain ⟨o,ho,F⟩:=aIo hg hx
 obtain ⟨ra,rb,r0,r1⟩:=cH2 (pl:=pl) ho
 have hnd:=bOa hg hx
 simp only [bAf,Bool.and_eq_true,decide_eq_true_eq] at hnd ⊢
 refine ⟨?_,List.all_eq_true.2 λz hz=>?_⟩
 · obtain ⟨F,hz⟩:=aOm ho hnd.1
   have pa:0<o.many->inR (atZ pl x.a) (out.take m)=true/\aBv (out.take m) (atZ pl x.a)=aBv (g.nodes.take j) x.a:=λh=>by
    obtain ⟨k,mk,h1,h2,h3,h4,h5,h6,h7,h8⟩:=cE0 E hx hN hmj (ra h).2 (F.ia h)
    rw [h5] at h8 ⊢
    refine ⟨by simp [inR];omega,?_⟩
    rw [aMm h6,h8,h1,aMm h2]
   have pb:1<o.many->inR (atZ pl x.b) (out.take m)=true/\aBv (out.take m) (atZ pl x.b)=aBv (g.nodes.take j) x.b:=λh=>by
    obtain ⟨k,mk,h1,h2,h3,h4,h5,h6,h7,h8⟩:=cE0 E hx hN hmj (rb h).2 (F.ib h)
    rw [h5] at h8 ⊢
    refine ⟨by simp [inR];omega,?_⟩
    rw [aMm h6,h8,h1,aMm h2]
   have hf:aN8 (out.take m) (reN pl x) o.many=true:=(aI7 _ _ _).2 ⟨λh=>by rw [r0 h];exact F.a0 h,λh=>by rw [r1 h];exact F.b0 h,by rw [f1,f2];exact F.nm,by rw [f1,f2];exact F.nn,by rw [f1,f4];exact F.k,by rw [f1,f5];exact F.n,by rw [f1,f6];exact F.d,
    λh=>by rw [(ra h).1];exact (pa h).1,λh=>by rw [(rb h).1];exact (pb h).1⟩
   have ea:(if o.many=0 then [] else aBv (out.take m) (reN pl x).a)=if o.many=0 then [] else aBv (g.nodes.take j) x.a:=by
    rcases Nat.eq_zero_or_pos o.many with h0|h0
    · rw [if_pos h0,if_pos h0]
    · rw [if_neg (by omega),if_neg (by omega),(ra h0).1,(pa h0).2]
   have eb:(if o.many<2 then [] else aBv (out.take m) (reN pl x).b)=if o.many<2 then [] else aBv (g.nodes.take j) x.b:=by
    rcases Nat.lt_or_ge o.many 2 with h0|h0
    · rw [if_pos h0,if_pos h0]
    · rw [if_neg (by omega),if_neg (by omega),(rb h0).1,(pb h0).2]
   rw [aEo (by rw [f1,ho,aFw]) hf,ea,eb,cH0,f3]
   exact hz
 · obtain ⟨k,hk,rfl⟩:=List.getElem_of_mem hz
   rw [List.length_take] at hk
   rw [List.getElem_take]
   obtain ⟨j2,x2,hx2,hj2,hN2,hm2,hyx2⟩:=cGv E (List.getElem?_eq_getElem (show k<out.length by omega))
   rw [hyx2]
   simp only [aC9,Bool.or_eq_true,decide_eq_true_eq,Bool.not_eq_true',decide_eq_false_iff_not]
   by_cases hn:(reN pl x).name=⟨#[]⟩
   · exact .inl hn
   · refine .inr λe=>?_
     rw [f2] at hn e
     rw [(cEq pl x2).2.1] at e
     have hjj:=cHm hg hx hx2 e.symm hn
     subst hjj
     omega
theorem cG1 {g:Gr}{out:List Nd}{pl:List Int}{N:Nat->Bool}(E:Emb g.nodes out pl N) (hname:∀j x,g.nodes[j]? =some x->x.name≠⟨#[]⟩->N j=true) (bs:List Bd):aCt bs out=aCt bs g.nodes:=by
 have hb:∀x:Nd,(decide ((reN pl x).name=⟨#[]⟩) || aDx bs (reN pl x))=(decide (x.name=⟨#[]⟩) || aDx bs x):=λx=>by
  obtain ⟨f1,f2,f3,f4,f5,f6⟩:=cEq pl x
  rw [aDx,aDx,f2,f3]
 rw [Bool.eq_iff_iff,aCt,aCt,List.all_eq_true,List.all_eq_true]
 constructor
 · intro h x hx
   obtain ⟨j,hj⟩:=List.mem_iff_getElem?.1 hx
   by_cases hn:x.name=⟨#[]⟩
   · simp [hn]
   · obtain ⟨m,e1,e2⟩:=E.at_ j x hj (hname j x hj hn)
     rw [<- hb x];exact h _ (List.mem_of_getElem? e2)
 · intro h y hy
   obtain ⟨m,hm⟩:=List.mem_iff_getElem?.1 hy
   obtain ⟨j,x,hx,_,_,_,rfl⟩:=cGv E hm
   rw [hb x];exact h _ (List.mem_of_getElem? hx)
theorem cHs {bd:Nd->List Rat}{g:Gr}{out:List Nd}{pl:List Int}{N:Nat->Bool}(E:Emb g.nodes out pl N) (hg:aC1 g=true) (hbd:∀x y:Nd,x.name=y.name->x.shape=y.shape->bd x=bd y){j m:Nat}(hj:j<g.nodes.length) (hN:N j=true) (hm:atZ pl (j:Nat)=(m:Nat)):
 m<out.length/\tcE bd out m=tcE bd g.nodes j:=by
 have hx:g.nodes[j]? =some g.nodes[j]:=List.getElem?_eq_getElem hj
 obtain ⟨m',e1,e2⟩:=E.at_ j _ hx hN
 obtain rfl:m'=m:=by omega
 have hml:=(List.getElem?_eq_some_iff.1 e2).1
 refine ⟨hml,?_⟩
 rw [tcE,tcE,cGh E hg hbd j hj hN _ hm,aAp hml,aAp hj,(List.getElem?_eq_some_iff.1 e2).2,(cEq _ _).2.2.1]
theorem cHh (bs:List Bd) (x y:Nd) (h1:x.name=y.name) (h2:x.shape=y.shape):bdB bs x=bdB bs y:=by
 rw [bdB,bdB,h1,h2]
end Go.V
namespace Go.V
open Go.N Go.Proofs
set_option maxRecDepth 20000
section
variable {l:List Nd}{N:Nat->Bool}
theorem cE6 {i:Nat}:cEo N (i+1)=cEo N i+(if N i=true then 1 else 0):=rfl
theorem cGy:∀{i j:Nat},i<=j->cEo N i<=cEo N j:=λ{i j} h=>by
 induction j with
 |zero=>obtain rfl:i=0:=by omega
        exact Nat.le_refl _
 |succ j ih=>
  rcases Nat.lt_or_ge i (j+1) with h1|h1
  · have:=ih (by omega)
    rw [cE6];omega
  · obtain rfl:i=j+1:=by omega
    exact Nat.le_refl _
theorem cHi {i j:Nat}(h:i<j) (hN:N i=true):cEo N i<cEo N j:=by
 have:=cGy (N:=N) (show i+1<=j from h)
 rw [cE6,if_pos hN] at this;omega
theorem cGz:∀{n m:Nat},m<cEo N n->∃j,j<n/\N j=true/\cEo N j=m:=λ{n m} h=>by
 induction n with
 |zero=>exact absurd h (Nat.not_lt_zero _)
 |succ n ih=>
  rw [cE6] at h
  by_cases hN:N n=true
  · rw [if_pos hN] at h
    rcases Nat.lt_or_ge m (cEo N n) with h1|h1
    · obtain ⟨j,h2,h3⟩:=ih h1;exact ⟨j,by omega,h3⟩
    · exact ⟨n,by omega,hN,by omega⟩
  · rw [if_neg hN] at h
    obtain ⟨j,h2,h3⟩:=ih (by omega);exact ⟨j,by omega,h3⟩
theorem cGp:∀{i j:Nat},j<=i->i<=l.length->(cEm l N j).1=(cEm l N i).1.take j:=λ{i j} h hi=>by
 induction i with
 |zero=>obtain rfl:j=0:=by omega
        rfl
 |succ i ih=>
  have hx:l[i]? =some l[i]:=List.getElem?_eq_getElem (by omega)
  have hl:=(cEt (l:=l) (N:=N) (i:=i) (by omega)).1
  rcases Nat.lt_or_ge j (i+1) with h1|h1
  · rw [ih (by omega) (by omega)]
    cases hN:N i with
    |true=>rw [cEn (Prod.eta _).symm hx hN,List.take_append_of_le_length (by omega)]
    |false=>rw [cEw (Prod.eta _).symm hx hN,List.take_append_of_le_length (by omega)]
  · obtain rfl:j=i+1:=by omega
    rw [List.take_of_length_le (by have:=(cEt (l:=l) (N:=N) (i:=i+1) hi).1;omega)]
theorem cFc {j:Nat}{x:Nd}(hx:l[j]? =some x) (hN:N j=true):atZ (cEm l N l.length).1 (j:Nat)=(cEo N j:Nat):=by
 have hj:=(List.getElem?_eq_some_iff.1 hx).1
 have hp:=cGp (l:=l) (N:=N) (show j+1<=l.length from hj) (Nat.le_refl _)
 have hl:=(cEt (l:=l) (N:=N) (i:=j) (by omega)).1
 have hc:=cE2 (l:=l) (N:=N) j (by omega)
 rw [cEn (Prod.eta _).symm hx hN] at hp
 have h1:((cEm l N l.length).1.take (j+1))[j]? =some ((cEo N j:Nat):Int):=by
  rw [<- hp,List.getElem?_append_right (by omega),hl,Nat.sub_self,hc];rfl
 rw [List.getElem?_take_of_lt (by omega)] at h1
 rw [atZ,Int.toNat_natCast,List.getD_eq_getElem?_getD,h1];rfl
theorem cHa:∀{i j:Nat}{x:Nd},i<=l.length->j<i->l[j]? =some x->N j=true->(cEm l N i).2[cEo N j]? =some (reN (cEm l N j).1 x):=λ{i j x} hi hj hx hN=>by
 induction i with
 |zero=>exact absurd hj (Nat.not_lt_zero _)
 |succ i ih=>
  have hxi:l[i]? =some l[i]:=List.getElem?_eq_getElem (by omega)
  have hc:=cE2 (l:=l) (N:=N) i (by omega)
  rcases Nat.lt_or_ge j i with h1|h1
  · have h2:=ih (by omega) h1
    have h3:=(List.getElem?_eq_some_iff.1 h2).1
    cases hNi:N i with
    |true=>rw [cEn (Prod.eta _).symm hxi hNi,List.getElem?_append_left h3];exact h2
    |false=>rw [cEw (Prod.eta _).symm hxi hNi];exact h2
  · obtain rfl:j=i:=by omega
    rw [cEn (Prod.eta _).symm hx hN]
    dsimp only
    rw [List.getElem?_append_right (by omega),hc,Nat.sub_self];rfl
theorem cHg {pl:List Int}{k j:Nat}(h:k<j):atZ (pl.take j) (k:Nat)=atZ pl (k:Nat):=by
 rw [atZ,atZ,Int.toNat_natCast,List.getD_eq_getElem?_getD,List.getD_eq_getElem?_getD,List.getElem?_take_of_lt h]
end
theorem cXy {g:Gr}(hg:aC1 g=true){i:Nat}{x:Nd}(hx:g.nodes[i]? =some x){pl pl':List Int}(h:∀k:Nat,k<i->atZ pl (k:Nat)=atZ pl' (k:Nat)):reN pl x=reN pl' x:=by
 obtain ⟨m,hop,F⟩:=cGn hg hx
 have hm:=aNi hop
 have hp:=cE1 hg hx
 have h3:m=0\/m=1\/m=2:=by omega
 rcases h3 with rfl|rfl|rfl
 · rw [re0 hop,re0 hop]
 · rw [dP1 hop] at hp
   obtain ⟨k,hk,hki⟩:=hp x.a (by simp)
   rw [re1 hop,re1 hop,hk,h k hki]
 · rw [dP2 hop] at hp
   obtain ⟨k,hk,hki⟩:=hp x.a (by simp)
   obtain ⟨k2,hk2,hki2⟩:=hp x.b (by simp)
   rw [re2 hop,re2 hop,hk,h k hki,hk2,h k2 hki2]
theorem cG9 {g:Gr}(hg:aC1 g=true) (keep:List Int):Emb g.nodes (cEm g.nodes (NB g keep) g.nodes.length).2 (cEm g.nodes (NB g keep) g.nodes.length).1 (NB g keep) where
 at_:=λj x hx hN=>by
  have hj:=(List.getElem?_eq_some_iff.1 hx).1
  refine ⟨_,cFc hx hN,?_⟩
  rw [cHa (Nat.le_refl _) hj hx hN]
  refine congrArg some (cXy hg hx λk hk=>?_)
  rw [cGp (Nat.le_of_lt hj) (Nat.le_refl _),cHg hk]
 lt:=λj x hx hN k hk=>by
  obtain ⟨k',e,hkj⟩:=cE1 hg hx _ hk
  obtain rfl:k'=k:=by omega
  have hj:=(List.getElem?_eq_some_iff.1 hx).1
  have hNk:NB g keep k'=true:=cEv.2 (.use hkj hx ((cGs hg hx k').2 hk) (cEv.1 hN))
  refine ⟨hNk,λm mk h1 h2=>?_⟩
  rw [cFc hx hN] at h1
  rw [cFc (List.getElem?_eq_getElem (show k'<g.nodes.length by omega)) hNk] at h2
  have:=cHi hkj hNk
  omega
 onto:=λm hm=>by
  rw [cE2 g.nodes.length (Nat.le_refl _)] at hm
  obtain ⟨j,h1,h2,h3⟩:=cGz hm
  exact ⟨j,h1,h2,by rw [cFc (List.getElem?_eq_getElem h1) h2,h3]⟩
theorem cHl {g:Gr}{keep:List Int}{out:List Nd}{pl:List Int}{p:Int}(hk:cEx g keep=true) (E:Emb g.nodes out pl (NB g keep)):cEx ⟨out,p⟩ (keep.map (atZ pl))=true:=by
 rw [cEx,Bool.not_eq_true',List.any_eq_false]
 intro x hx
 obtain ⟨y,hy,rfl⟩:=List.mem_map.1 hx
 obtain ⟨k,rfl,hkl⟩:=cE7 hk hy
 obtain ⟨m,e1,e2⟩:=E.at_ k _ (List.getElem?_eq_getElem hkl) (cEv.2 (.keep hy))
 have:=(List.getElem?_eq_some_iff.1 e2).1
 rw [e1]
 simp only [Bool.or_eq_true,decide_eq_true_eq]
 omega
end Go.V
