/-
  Lemmas (part 2) for: DeadKeeps holds for all arguments; no condition.
-/
import Derived.Test.YtanlechpmkpbiaaGreatDoorDkeep1
import Derived.Test.YtanlechpmkpbiaaGreatDoorKeep11
import Derived.Test.YtanlechpmkpbiaaGreatDoorKeep15
set_option linter.all false
namespace Go.V
open Go.N Go.Proofs
set_option maxRecDepth 20000
theorem cEq (pl:List Int) (x:Nd):(reN pl x).op=x.op/\(reN pl x).name=x.name/\(reN pl x).shape=x.shape/\(reN pl x).k=x.k/\(reN pl x).n=x.n/\(reN pl x).data=x.data:=by
 unfold reN;split<;>exact ⟨rfl,rfl,rfl,rfl,rfl,rfl⟩
theorem cH0 (pl:List Int) (x:Nd) (a b:List Int):ofZ (reN pl x) a b=ofZ x a b:=by
 unfold reN;split<;>rfl
theorem cH2 {pl:List Int}{x:Nd}{o:Opc}(ho:x.op=o.str):(0<o.many->(reN pl x).a=atZ pl x.a/\x.a∈cEp x)/\(1<o.many->(reN pl x).b=atZ pl x.b/\x.b∈cEp x)/\(o.many=0->(reN pl x).a=x.a)/\(o.many<2->(reN pl x).b=x.b):=by
 have hp:aBh x.op=some o.many:=by rw [ho,aFw]
 have hm:=aNi hp
 have h3:o.many=0\/o.many=1\/o.many=2:=by omega
 rcases h3 with h|h|h
 · rw [h] at hp
   rw [re0 hp,h]
   exact ⟨λh=>absurd h (by decide),λh=>absurd h (by decide),λ_=>rfl,λ_=>rfl⟩
 · rw [h] at hp
   rw [re1 hp,dP1 hp,h]
   exact ⟨λ_=>⟨rfl,by simp⟩,λh=>absurd h (by decide),λh=>absurd h (by decide),λ_=>rfl⟩
 · rw [h] at hp
   rw [re2 hp,dP2 hp,h]
   exact ⟨λ_=>⟨rfl,by simp⟩,λ_=>⟨rfl,by simp⟩,λh=>absurd h (by decide),λh=>absurd h (by decide)⟩
structure Emb (l out:List Nd) (pl:List Int) (N:Nat->Bool):Prop where
 at_:∀j x,l[j]? =some x->N j=true->∃m:Nat,atZ pl (j:Nat)=(m:Nat)/\out[m]? =some (reN pl x)
 lt:∀j x,l[j]? =some x->N j=true->∀k:Nat,(k:Int)∈cEp x->N k=true/\∀m mk:Nat,atZ pl (j:Nat)=(m:Nat)->atZ pl (k:Nat)=(mk:Nat)->mk<m
 onto:∀m,m<out.length->∃j,j<l.length/\N j=true/\atZ pl (j:Nat)=(m:Nat)
theorem cE0 {g:Gr}{out:List Nd}{pl:List Int}{N:Nat->Bool}(E:Emb g.nodes out pl N){j m:Nat}{x:Nd}(hx:g.nodes[j]? =some x) (hN:N j=true) (hm:atZ pl (j:Nat)=(m:Nat)){p:Int}(hp:p∈cEp x)
 (hr:inR p (g.nodes.take j)=true):∃k mk:Nat,p=(k:Nat)/\k<j/\k<g.nodes.length/\N k=true/\atZ pl p=(mk:Nat)/\mk<m/\mk<out.length/\aBv out (atZ pl p)=aBv g.nodes p:=by
 obtain ⟨k,rfl,hk1,hk2⟩:=aDq hr
 obtain ⟨hNk,hlt⟩:=E.lt j x hx hN k hp
 obtain ⟨mk,e1,e2⟩:=E.at_ k _ (List.getElem?_eq_getElem hk2) hNk
 have hl:=(List.getElem?_eq_some_iff.1 e2).1
 refine ⟨k,mk,rfl,hk1,hk2,hNk,e1,hlt m mk hm e1,hl,?_⟩
 rw [e1,aAp hl,aAp hk2,(List.getElem?_eq_some_iff.1 e2).2,(cEq _ _).2.2.1]
theorem cGh {bd:Nd->List Rat}{g:Gr}{out:List Nd}{pl:List Int}{N:Nat->Bool}(E:Emb g.nodes out pl N) (hg:aC1 g=true) (hbd:∀x y:Nd,x.name=y.name->x.shape=y.shape->bd x=bd y):
 ∀j,j<g.nodes.length->N j=true->∀m:Nat,atZ pl (j:Nat)=(m:Nat)->aAk bd out m=aAk bd g.nodes j:=λj=>by
 induction j using Nat.strongRecOn with
 |_ j ih=>
  intro hj hN m hm
  have hx:g.nodes[j]? =some g.nodes[j]:=List.getElem?_eq_getElem hj
  obtain ⟨m',e1,e2⟩:=E.at_ j _ hx hN
  obtain rfl:m'=m:=by omega
  have hml:=(List.getElem?_eq_some_iff.1 e2).1
  obtain ⟨o,ho,F⟩:=aIo hg hx
  obtain ⟨f1,f2,f3,f4,f5,f6⟩:=cEq pl g.nodes[j]
  obtain ⟨ra,rb,_,_⟩:=cH2 (pl:=pl) ho
  rw [aFy e2,aFy hx]
  unfold bAx
  rw [f1,f3,f4,f5,f6]
  split
  · exact hbd _ _ f2 f3
  · rw [ho,aFg]
    refine aXn (λh=>?_) (λh=>?_)
    · obtain ⟨r1,r2⟩:=ra h
      obtain ⟨k,mk,h1,h2,h3,h4,h5,h6,h7,h8⟩:=cE0 E hx hN hm r2 (F.ia h)
      rw [r1,h8,h5,h1,aHh h6 (by omega),aHh h2 (by omega)]
      exact ⟨rfl,ih k h2 h3 h4 mk (by rw [<- h1];exact h5)⟩
    · obtain ⟨r1,r2⟩:=rb h
      obtain ⟨k,mk,h1,h2,h3,h4,h5,h6,h7,h8⟩:=cE0 E hx hN hm r2 (F.ib h)
      rw [r1,h8,h5,h1,aHh h6 (by omega),aHh h2 (by omega)]
      exact ⟨rfl,ih k h2 h3 h4 mk (by rw [<- h1];exact h5)⟩
theorem cGv {g:Gr}{out:List Nd}{pl:List Int}{N:Nat->Bool}(E:Emb g.nodes out pl N){m:Nat}{y:Nd}(hy:out[m]? =some y):
 ∃j x,g.nodes[j]? =some x/\j<g.nodes.length/\N j=true/\atZ pl (j:Nat)=(m:Nat)/\y=reN pl x:=by
 obtain ⟨j,h1,h2,h3⟩:=E.onto m (List.getElem?_eq_some_iff.1 hy).1
 obtain ⟨m',e1,e2⟩:=E.at_ j _ (List.getElem?_eq_getElem h1) h2
 obtain rfl:m'=m:=by omega
 rw [hy] at e2
 exact ⟨j,_,List.getElem?_eq_getElem h1,h1,h2,h3,Option.some.inj e2⟩
theorem cHj {bd:Nd->List Rat}{g:Gr}{out:List Nd}{pl:List Int}{N:Nat->Bool}(E:Emb g.nodes out pl N) (hg:aC1 g=true) (hbd:∀x y:Nd,x.name=y.name->x.shape=y.shape->bd x=bd y) (G:aG8 bd g.nodes):
 aG8 bd out:=λm y o hy ho hn sa a sb b ha hb=>by
 obtain ⟨j,x,hx,hj,hN,hm,rfl⟩:=cGv E hy
 obtain ⟨f1,f2,f3,f4,f5,f6⟩:=cEq pl x
 obtain ⟨o',ho',F⟩:=aIo hg hx
 rw [f1] at ho hn
 obtain rfl:=aRt (ho.symm.trans ho')
 obtain ⟨ra,rb,_,_⟩:=cH2 (pl:=pl) ho
 rw [f3,f4,f5,f6,cGh E hg hbd j hj hN m hm]
 refine G j x o hx ho hn sa a sb b (λh=>?_) (λh=>?_)
 · obtain ⟨r1,r2⟩:=ra h
   obtain ⟨k,mk,h1,h2,h3,h4,h5,h6,h7,h8⟩:=cE0 E hx hN hm r2 (F.ia h)
   have e:=ha h
   rw [r1,h8,h5,Int.toNat_natCast,cGh E hg hbd k h3 h4 mk (by rw [<- h1];exact h5)] at e
   rw [h1,Int.toNat_natCast]
   exact ⟨by rw [<- h1];exact e.1,e.2⟩
 · obtain ⟨r1,r2⟩:=rb h
   obtain ⟨k,mk,h1,h2,h3,h4,h5,h6,h7,h8⟩:=cE0 E hx hN hm r2 (F.ib h)
   have e:=hb h
   rw [r1,h8,h5,Int.toNat_natCast,cGh E hg hbd k h3 h4 mk (by rw [<- h1];exact h5)] at e
   rw [h1,Int.toNat_natCast]
   exact ⟨by rw [<- h1];exact e.1,e.2⟩
theorem cHm {g:Gr}(hg:aC1 g=true){i j:Nat}{x y:Nd}(hx:g.nodes[i]? =some x) (hy:g.nodes[j]? =some y) (h:x.name=y.name) (hn:x.name≠⟨#[]⟩):i=j:=by
 have key:∀{i j:Nat} {x y:Nd},g.nodes[i]? =some x->g.nodes[j]? =some y->x.name=y.name->x.name≠⟨#[]⟩->¬i<j:=λ{i j x y} hx hy h hn hij=>by
  have hnd:=bOa hg hy
  simp only [bAf,Bool.and_eq_true,decide_eq_true_eq] at hnd
  have h0:=List.all_eq_true.1 hnd.2 x (List.mem_of_getElem? (i:=i) (by rw [List.getElem?_take_of_lt hij];exact hx))
  simp only [aC9,Bool.or_eq_true,decide_eq_true_eq,Bool.not_eq_true',decide_eq_false_iff_not] at h0
  rcases h0 with h0|h0
  · exact hn (h.trans h0)
  · exact h0 h
 have h1:=key hx hy h hn
 have h2:=key hy hx h.symm (by rw [<- h];exact hn)
 omega
theorem cHz {g:Gr}{out:List Nd}{pl:List Int}{N:Nat->Bool}(E:Emb g.nodes out pl N) (hg:aC1 g=true) (hlo:out.length<=g.nodes.length) (hloss:∀q:Nat,g.loss=(q:Nat)->N q=true):aC1 ⟨out,atZ pl g.loss⟩=true:=by
 obtain ⟨h1,h2,q,hq,hql⟩:=aMd hg
 have hs:aBv g.nodes g.loss=[]:=by
  have hg':=hg
  simp only [aC1,bBc,Bool.and_eq_true,decide_eq_true_eq] at hg'
  exact hg'.1.2
 obtain ⟨mq,e1,e2⟩:=E.at_ q _ (List.getElem?_eq_getElem hql) (hloss q hq)
 have hmq:=(List.getElem?_eq_some_iff.1 e2).1
 have hpre:bBc ⟨out,atZ pl g.loss⟩=true:=by
  simp only [bBc,Bool.and_eq_true]
  refine ⟨⟨⟨decide_eq_true ?_,decide_eq_true ?_⟩,?_⟩,decide_eq_true ?_⟩
  · show 1<=out.length
    omega
  · show out.length<=200
    omega
  · show inR (atZ pl g.loss) out=true
    rw [hq,e1];simp [inR,hmq]
  show aBv out (atZ pl g.loss)=[]
  rw [hq,e1,aAp hmq,(List.getElem?_eq_some_iff.1 e2).2,(cEq _ _).2.2.1,<-aAp hql,<-hq];exact hs
 rw [aC1,hpre,Bool.true_and]
 show aHd out out.length=true
 refine List.all_eq_true.2 λm hm=>?_
 have hm:=List.mem_range.1 hm
 have hy:out[m]? =some out[m]:=List.getElem?_eq_getElem hm
 rw [bD1,hy]
 show bAf (List.take m out) out[m]=true
 obtain ⟨j,x,hx,hj,hN,hmj,hyx⟩:=cGv E hy
 rw [hyx]
 obtain ⟨f1,f2,f3,f4,f5,f6⟩:=cEq pl x
 obtain ⟨o,ho,F⟩:=aIo hg hx
 obtain ⟨ra,rb,r0,r1⟩:=cH2 (pl:=pl) ho
 have hnd:=bOa hg hx
 simp only [bAf,Bool.and_eq_true,decide_eq_true_eq] at hnd ⊢
 refine ⟨?_,List.all_eq_true.2 λz hz=>?_⟩
 · obtain ⟨F,hz⟩:=aOm ho hnd.1
   have pa:0<o.many->inR (atZ pl x.a) (out.take m)=true/\aBv (out.take m) (atZ pl x.a)=aBv (g.nodes.take j) x.a:=λh=>by
    obtain ⟨k,mk,h1,h2,h3,h4,h5,h6,h7,h8⟩:=cE0 E hx hN hmj (ra h).2 (F.ia h)
    rw [h5] at h8 ⊢
    refine ⟨by simp [inR];omega,?_⟩
    rw [aMm h6,h8,h1,aMm h2]
   have pb:1<o.many->inR (atZ pl x.b) (out.take m)=true/\aBv (out.take m) (atZ pl x.b)=aBv (g.nodes.take j) x.b:=λh=>by
    obtain ⟨k,mk,h1,h2,h3,h4,h5,h6,h7,h8⟩:=cE0 E hx hN hmj (rb h).2 (F.ib h)
    rw [h5] at h8 ⊢
    refine ⟨by simp [inR];omega,?_⟩
    rw [aMm h6,h8,h1,aMm h2]
   have hf:aN8 (out.take m) (reN pl x) o.many=true:=(aI7 _ _ _).2 ⟨λh=>by rw [r0 h];exact F.a0 h,λh=>by rw [r1 h];exact F.b0 h,by rw [f1,f2];exact F.nm,by rw [f1,f2];exact F.nn,by rw [f1,f4];exact F.k,by rw [f1,f5];exact F.n,by rw [f1,f6];exact F.d,
    λh=>by rw [(ra h).1];exact (pa h).1,λh=>by rw [(rb h).1];exact (pb h).1⟩
   have ea:(if o.many=0 then [] else aBv (out.take m) (reN pl x).a)=if o.many=0 then [] else aBv (g.nodes.take j) x.a:=by
    rcases Nat.eq_zero_or_pos o.many with h0|h0
    · rw [if_pos h0,if_pos h0]
    · rw [if_neg (by omega),if_neg (by omega),(ra h0).1,(pa h0).2]
   have eb:(if o.many<2 then [] else aBv (out.take m) (reN pl x).b)=if o.many<2 then [] else aBv (g.nodes.take j) x.b:=by
    rcases Nat.lt_or_ge o.many 2 with h0|h0
    · rw [if_pos h0,if_pos h0]
    · rw [if_neg (by omega),if_neg (by omega),(rb h0).1,(pb h0).2]
   rw [aEo (by rw [f1,ho,aFw]) hf,ea,eb,cH0,f3]
   exact hz
 · obtain ⟨k,hk,rfl⟩:=List.getElem_of_mem hz
   rw [List.length_take] at hk
   rw [List.getElem_take]
   obtain ⟨j2,x2,hx2,hj2,hN2,hm2,hyx2⟩:=cGv E (List.getElem?_eq_getElem (show k<out.length by omega))
   rw [hyx2]
   simp only [aC9,Bool.or_eq_true,decide_eq_true_eq,Bool.not_eq_true',decide_eq_false_iff_not]
   by_cases hn:(reN pl x).name=⟨#[]⟩
   · exact .inl hn
   · refine .inr λe=>?_
     rw [f2] at hn e
     rw [(cEq pl x2).2.1] at e
     have hjj:=cHm hg hx hx2 e.symm hn
     subst hjj
     omega
theorem cG1 {g:Gr}{out:List Nd}{pl:List Int}{N:Nat->Bool}(E:Emb g.nodes out pl N) (hname:∀j x,g.nodes[j]? =some x->x.name≠⟨#[]⟩->N j=true) (bs:List Bd):aCt bs out=aCt bs g.nodes:=by
 have hb:∀x:Nd,(decide ((reN pl x).name=⟨#[]⟩) || aDx bs (reN pl x))=(decide (x.name=⟨#[]⟩) || aDx bs x):=λx=>by
  obtain ⟨f1,f2,f3,f4,f5,f6⟩:=cEq pl x
  rw [aDx,aDx,f2,f3]
 rw [Bool.eq_iff_iff,aCt,aCt,List.all_eq_true,List.all_eq_true]
 constructor
 · intro h x hx
   obtain ⟨j,hj⟩:=List.mem_iff_getElem?.1 hx
   by_cases hn:x.name=⟨#[]⟩
   · simp [hn]
   · obtain ⟨m,e1,e2⟩:=E.at_ j x hj (hname j x hj hn)
     rw [<- hb x];exact h _ (List.mem_of_getElem? e2)
 · intro h y hy
   obtain ⟨m,hm⟩:=List.mem_iff_getElem?.1 hy
   obtain ⟨j,x,hx,_,_,_,rfl⟩:=cGv E hm
   rw [hb x];exact h _ (List.mem_of_getElem? hx)
theorem cHs {bd:Nd->List Rat}{g:Gr}{out:List Nd}{pl:List Int}{N:Nat->Bool}(E:Emb g.nodes out pl N) (hg:aC1 g=true) (hbd:∀x y:Nd,x.name=y.name->x.shape=y.shape->bd x=bd y){j m:Nat}(hj:j<g.nodes.length) (hN:N j=true) (hm:atZ pl (j:Nat)=(m:Nat)):
 m<out.length/\tcE bd out m=tcE bd g.nodes j:=by
 have hx:g.nodes[j]? =some g.nodes[j]:=List.getElem?_eq_getElem hj
 obtain ⟨m',e1,e2⟩:=E.at_ j _ hx hN
 obtain rfl:m'=m:=by omega
 have hml:=(List.getElem?_eq_some_iff.1 e2).1
 refine ⟨hml,?_⟩
 rw [tcE,tcE,cGh E hg hbd j hj hN _ hm,aAp hml,aAp hj,(List.getElem?_eq_some_iff.1 e2).2,(cEq _ _).2.2.1]
theorem cHh (bs:List Bd) (x y:Nd) (h1:x.name=y.name) (h2:x.shape=y.shape):bdB bs x=bdB bs y:=by
 rw [bdB,bdB,h1,h2]
end Go.V
namespace Go.V
open Go.N Go.Proofs
set_option maxRecDepth 20000
section
variable {l:List Nd}{N:Nat->Bool}
theorem cE6 {i:Nat}:cEo N (i+1)=cEo N i+(if N i=true then 1 else 0):=rfl
theorem cGy:∀{i j:Nat},i<=j->cEo N i<=cEo N j:=λ{i j} h=>by
 induction j with
 |zero=>obtain rfl:i=0:=by omega
        exact Nat.le_refl _
 |succ j ih=>
  rcases Nat.lt_or_ge i (j+1) with h1|h1
  · have:=ih (by omega)
    rw [cE6];omega
  · obtain rfl:i=j+1:=by omega
    exact Nat.le_refl _
theorem cHi {i j:Nat}(h:i<j) (hN:N i=true):cEo N i<cEo N j:=by
 have:=cGy (N:=N) (show i+1<=j from h)
 rw [cE6,if_pos hN] at this;omega
theorem cGz:∀{n m:Nat},m<cEo N n->∃j,j<n/\N j=true/\cEo N j=m:=λ{n m} h=>by
 induction n with
 |zero=>exact absurd h (Nat.not_lt_zero _)
 |succ n ih=>
  rw [cE6] at h
  by_cases hN:N n=true
  · rw [if_pos hN] at h
    rcases Nat.lt_or_ge m (cEo N n) with h1|h1
    · obtain ⟨j,h2,h3⟩:=ih h1;exact ⟨j,by omega,h3⟩
    · exact ⟨n,by omega,hN,by omega⟩
  · rw [if_neg hN] at h
    obtain ⟨j,h2,h3⟩:=ih (by omega);exact ⟨j,by omega,h3⟩
theorem cGp:∀{i j:Nat},j<=i->i<=l.length->(cEm l N j).1=(cEm l N i).1.take j:=λ{i j} h hi=>by
 induction i with
 |zero=>obtain rfl:j=0:=by omega
        rfl
 |succ i ih=>
  have hx:l[i]? =some l[i]:=List.getElem?_eq_getElem (by omega)
  have hl:=(cEt (l:=l) (N:=N) (i:=i) (by omega)).1
  rcases Nat.lt_or_ge j (i+1) with h1|h1
  · rw [ih (by omega) (by omega)]
    cases hN:N i with
    |true=>rw [cEn (Prod.eta _).symm hx hN,List.take_append_of_le_length (by omega)]
    |false=>rw [cEw (Prod.eta _).symm hx hN,List.take_append_of_le_length (by omega)]
  · obtain rfl:j=i+1:=by omega
    rw [List.take_of_length_le (by have:=(cEt (l:=l) (N:=N) (i:=i+1) hi).1;omega)]
theorem cFc {j:Nat}{x:Nd}(hx:l[j]? =some x) (hN:N j=true):atZ (cEm l N l.length).1 (j:Nat)=(cEo N j:Nat):=by
 have hj:=(List.getElem?_eq_some_iff.1 hx).1
 have hp:=cGp (l:=l) (N:=N) (show j+1<=l.length from hj) (Nat.le_refl _)
 have hl:=(cEt (l:=l) (N:=N) (i:=j) (by omega)).1
 have hc:=cE2 (l:=l) (N:=N) j (by omega)
 rw [cEn (Prod.eta _).symm hx hN] at hp
 have h1:((cEm l N l.length).1.take (j+1))[j]? =some ((cEo N j:Nat):Int):=by
  rw [<- hp,List.getElem?_append_right (by omega),hl,Nat.sub_self,hc];rfl
 rw [List.getElem?_take_of_lt (by omega)] at h1
 rw [atZ,Int.toNat_natCast,List.getD_eq_getElem?_getD,h1];rfl
theorem cHa:∀{i j:Nat}{x:Nd},i<=l.length->j<i->l[j]? =some x->N j=true->(cEm l N i).2[cEo N j]? =some (reN (cEm l N j).1 x):=λ{i j x} hi hj hx hN=>by
 induction i with
 |zero=>exact absurd hj (Nat.not_lt_zero _)
 |succ i ih=>
  have hxi:l[i]? =some l[i]:=List.getElem?_eq_getElem (by omega)
  have hc:=cE2 (l:=l) (N:=N) i (by omega)
  rcases Nat.lt_or_ge j i with h1|h1
  · have h2:=ih (by omega) h1
    have h3:=(List.getElem?_eq_some_iff.1 h2).1
    cases hNi:N i with
    |true=>rw [cEn (Prod.eta _).symm hxi hNi,List.getElem?_append_left h3];exact h2
    |false=>rw [cEw (Prod.eta _).symm hxi hNi];exact h2
  · obtain rfl:j=i:=by omega
    rw [cEn (Prod.eta _).symm hx hN]
    dsimp only
    rw [List.getElem?_append_right (by omega),hc,Nat.sub_self];rfl
theorem cHg {pl:List Int}{k j:Nat}(h:k<j):atZ (pl.take j) (k:Nat)=atZ pl (k:Nat):=by
 rw [atZ,atZ,Int.toNat_natCast,List.getD_eq_getElem?_getD,List.getD_eq_getElem?_getD,List.getElem?_take_of_lt h]
end
theorem cHv {g:Gr}(hg:aC1 g=true){i:Nat}{x:Nd}(hx:g.nodes[i]? =some x){pl pl':List Int}(h:∀k:Nat,k<i->atZ pl (k:Nat)=atZ pl' (k:Nat)):reN pl x=reN pl' x:=by
 obtain ⟨m,hop,F⟩:=cGn hg hx
 have hm:=aNi hop
 have hp:=cE1 hg hx
 have h3:m=0\/m=1\/m=2:=by omega
 rcases h3 with rfl|rfl|rfl
 · rw [re0 hop,re0 hop]
 · rw [dP1 hop] at hp
   obtain ⟨k,hk,hki⟩:=hp x.a (by simp)
   rw [re1 hop,re1 hop,hk,h k hki]
 · rw [dP2 hop] at hp
   obtain ⟨k,hk,hki⟩:=hp x.a (by simp)
   obtain ⟨k2,hk2,hki2⟩:=hp x.b (by simp)
   rw [re2 hop,re2 hop,hk,h k hki,hk2,h k2 hki2]
theorem cG9 {g:Gr}(hg:aC1 g=true) (keep:List Int):Emb g.nodes (cEm g.nodes (NB g keep) g.nodes.length).2 (cEm g.nodes (NB g keep) g.nodes.length).1 (NB g keep) where
 at_:=λj x hx hN=>by
  have hj:=(List.getElem?_eq_some_iff.1 hx).1
  refine ⟨_,cFc hx hN,?_⟩
  rw [cHa (Nat.le_refl _) hj hx hN]
  refine congrArg some (cHv hg hx λk hk=>?_)
  rw [cGp (Nat.le_of_lt hj) (Nat.le_refl _),cHg hk]
 lt:=λj x hx hN k hk=>by
  obtain ⟨k',e,hkj⟩:=cE1 hg hx _ hk
  obtain rfl:k'=k:=by omega
  have hj:=(List.getElem?_eq_some_iff.1 hx).1
  have hNk:NB g keep k'=true:=cEv.2 (.use hkj hx ((cGs hg hx k').2 hk) (cEv.1 hN))
  refine ⟨hNk,λm mk h1 h2=>?_⟩
  rw [cFc hx hN] at h1
  rw [cFc (List.getElem?_eq_getElem (show k'<g.nodes.length by omega)) hNk] at h2
  have:=cHi hkj hNk
  omega
 onto:=λm hm=>by
  rw [cE2 g.nodes.length (Nat.le_refl _)] at hm
  obtain ⟨j,h1,h2,h3⟩:=cGz hm
  exact ⟨j,h1,h2,by rw [cFc (List.getElem?_eq_getElem h1) h2,h3]⟩
theorem cHn {g:Gr}{keep:List Int}{out:List Nd}{pl:List Int}(hg:aC1 g=true) (hk:cEx g keep=true) (E:Emb g.nodes out pl (NB g keep)):
 ∀j,NeedP g keep j->∀m:Nat,atZ pl (j:Nat)=(m:Nat)->NeedP ⟨out,atZ pl g.loss⟩ (keep.map (atZ pl)) m:=λj h=>by
 induction h with
 | @loss i h=>intro m hm;exact .loss (by rw [<- hm,h])
 | @keep i h=>intro m hm;exact .keep (List.mem_map.2 ⟨_,h,hm⟩)
 | @name i x h1 h2=>
   intro m hm
   obtain ⟨m',e1,e2⟩:=E.at_ i x h1 (cEv.2 (.name h1 h2))
   obtain rfl:m'=m:=by omega
   exact .name e2 (by rw [(cEq pl x).2.1];exact h2)
 | @use i j x hij hx hu hN ih=>
   intro m hm
   have hNj:=cEv.2 hN
   have hd:=(cGs hg hx i).1 hu
   obtain ⟨mj,e1,e2⟩:=E.at_ j x hx hNj
   have hmm:=(E.lt j x hx hNj i hd).2 mj m e1 hm
   refine .use hmm e2 ?_ (ih mj e1)
   obtain ⟨o,ho,F⟩:=aIo hg hx
   obtain ⟨ra,rb,_,_⟩:=cH2 (pl:=pl) ho
   have hp:aIp x.op=((o.many:Nat):Int):=by rw [aIp,ho,aFw]
   rw [cCj,(cEq pl x).1,hp]
   rw [cCj,hp,Bool.or_eq_true,Bool.and_eq_true,Bool.and_eq_true,decide_eq_true_eq,decide_eq_true_eq,decide_eq_true_eq,decide_eq_true_eq] at hu
   rw [Bool.or_eq_true,Bool.and_eq_true,Bool.and_eq_true,decide_eq_true_eq,decide_eq_true_eq,decide_eq_true_eq,decide_eq_true_eq]
   rcases hu with ⟨h1,h2⟩|⟨h1,h2⟩
   · exact .inl ⟨h1,by rw [(ra (by omega)).1,h2];exact hm⟩
   · exact .inr ⟨h1,by rw [(rb (by omega)).1,h2];exact hm⟩
theorem cHl {g:Gr}{keep:List Int}{out:List Nd}{pl:List Int}{p:Int}(hk:cEx g keep=true) (E:Emb g.nodes out pl (NB g keep)):cEx ⟨out,p⟩ (keep.map (atZ pl))=true:=by
 rw [cEx,Bool.not_eq_true',List.any_eq_false]
 intro x hx
 obtain ⟨y,hy,rfl⟩:=List.mem_map.1 hx
 obtain ⟨k,rfl,hkl⟩:=cE7 hk hy
 obtain ⟨m,e1,e2⟩:=E.at_ k _ (List.getElem?_eq_getElem hkl) (cEv.2 (.keep hy))
 have:=(List.getElem?_eq_some_iff.1 e2).1
 rw [e1]
 simp only [Bool.or_eq_true,decide_eq_true_eq]
 omega
theorem cGt {g:Gr}{keep:List Int}{out:List Nd}{pl:List Int}(hg:aC1 g=true) (hk:cEx g keep=true) (E:Emb g.nodes out pl (NB g keep)) (hok:aC1 ⟨out,atZ pl g.loss⟩=true):
 cEu ⟨out,atZ pl g.loss⟩ (keep.map (atZ pl))=true/\cEz ⟨out,atZ pl g.loss⟩ (NB ⟨out,atZ pl g.loss⟩ (keep.map (atZ pl)))=(⟨out,atZ pl g.loss⟩,cG3 out.length):=by
 refine ⟨by rw [cEu,hok,cHl hk E];rfl,cG2 hok λm hm=>?_⟩
 obtain ⟨j,h1,h2,h3⟩:=E.onto m hm
 exact cEv.2 (cHn hg hk E j (cEv.1 h2) m h3)
end Go.V
namespace Go.V
open Go.N Go.Proofs
set_option maxRecDepth 20000
def cGq:Tab:=[(31,i31),(41,i41),(52,i52),(3,i3),(42,i42),(53,i53),(4,i4),(22,i22),(34,i34),(29,i29),(25,i25),(54,i54),(27,i27)]
theorem cGf:TOK Tryz.prog cGq:=⟨K31,⟨K41,⟨K52,⟨K3,⟨K42,⟨K53,⟨K4,⟨K22,⟨K34,⟨K29,⟨K25,⟨K54,⟨K27,trivial⟩⟩⟩⟩⟩⟩⟩⟩⟩⟩⟩⟩⟩
open Classical in
theorem cGd {l:List Nd}{p:Int}{keep:List Int}{bs:List Bd}(hl:l.length<=40) (hs:∀x∈l,x.Sm) (hkl:keep.length<=40) (hbl:bs.length<=12) (hbs:∀b∈bs,b.Sm) (hC:aP4 l bs<=400):
 aAc Tryz.prog GL 32 [.agg [.ro 8 (aAv l),.int .i64 p],.ro 1 (aAh keep)] (λy=>y= .tup [.agg [.ro 8 [],.int .i64 0],.ro 1 [],.int .i64 1])\/
 ∃(pl:List Int) (c d:List AV) (cs ds A B:List (List AV)) (q e:Int),
  aAc Tryz.prog GL 32 [.agg [.ro 8 (aAv l),.int .i64 p],.ro 1 (aAh keep)] (λy=>y= .tup [.agg [.ro 8 (c::cs),.int .i64 q],.ro 1 (aAh pl),.int .i64 0])/\
  aAc Tryz.prog GL 33 [.agg [.ro 8 (c::cs),.int .i64 q]] (λy=>y= .bool true)/\
  aAc Tryz.prog GL 32 [.agg [.ro 8 (c::cs),.int .i64 q],.ro 1 (aAh (keep.map (atZ pl)))] (λy=>y= .tup [.agg [.ro 8 (c::cs),.int .i64 q],.ro 1 (d::ds),.int .i64 0])/\
  aAc Tryz.prog GL 25 [.agg [.ro 8 (aAv l),.int .i64 p],.ro 3 (aA5 bs)] (λy=>y= .tup [.ro 2 A,.int .i64 e])/\
  aAc Tryz.prog GL 25 [.agg [.ro 8 (c::cs),.int .i64 q],.ro 3 (aA5 bs)] (λy=>y= .tup [.ro 2 B,.int .i64 e])/\
  aAc Tryz.prog GL 26 [.agg [.ro 8 (c::cs),.int .i64 q],.agg [.ro 8 (c::cs),.int .i64 q]] (λy=>y= .bool true)/\
  pl.length=l.length/\(∀ n∈keep,∃k:Nat,n=(k:Nat)/\k<pl.length)/\((e=10/\A.length=0/\B.length=0)\/(e=0/\B.length=(c::cs).length/\A.length=pl.length))/\A.length<=40/\
  ∀i,i<A.length->∃v:Int,(aAh pl)[i]? =some [.int .i64 v]/\v<B.length/\(v<0\/∃(m:Nat) (s:List Int) (r:List Rat),v=(m:Nat)/\VT s r/\A[i]? =some [.ro 1 (aAh s),.ro 1 (aAj r)]/\B[m]? =some [.ro 1 (aAh s),.ro 1 (aAj r)]):=by
 have hGi:=λh=>aFz (g:=⟨l,p⟩) h hs bs hbs hC
 dsimp only at hGi
 have hpr:=cGg ⟨l,p⟩ keep hs (by dsimp only;omega) (by omega)
 have he:=aZd bs ⟨l,p⟩ hs (by dsimp only;omega) (by omega) hbs (λh=>aFm (hGi h))
 cases hok:cEu ⟨l,p⟩ keep
 · rw [hok,if_neg (by simp)] at hpr
   exact .inl hpr
 right
 rw [hok,if_pos rfl] at hpr
 have hg:aC1 ⟨l,p⟩=true:=by simp only [cEu,Bool.and_eq_true] at hok;exact hok.1
 have hk:cEx ⟨l,p⟩ keep=true:=by simp only [cEu,Bool.and_eq_true] at hok;exact hok.2
 have G:=hGi hg
 have hvt:∀j x,l[j]? =some x->VT x.shape (aAk (bdB bs) l j):=λj x hx=>(aL2 G hx).1
 rw [hg,if_pos rfl] at he
 have E:=cG9 hg keep
 have hln:=cEt (l:=l) (N:=NB ⟨l,p⟩ keep) (Nat.le_refl _)
 have hsm2:=cGx (N:=NB ⟨l,p⟩ keep) hs l.length
 have hsg:=cGe (l:=l) (N:=NB ⟨l,p⟩ keep) l.length (Nat.le_refl _)
 have hG:cEz ⟨l,p⟩ (NB ⟨l,p⟩ keep)=(⟨(cEm l (NB ⟨l,p⟩ keep) l.length).2,atZ (cEm l (NB ⟨l,p⟩ keep) l.length).1 p⟩,(cEm l (NB ⟨l,p⟩ keep) l.length).1):=rfl
 rw [hG] at hpr
 dsimp only at E
 generalize (cEm l (NB ⟨l,p⟩ keep) l.length).1=pl at hpr E hln hsg
 generalize (cEm l (NB ⟨l,p⟩ keep) l.length).2=out at hpr E hln hsm2
 have hbd:=cHh bs
 have hFok:aC1 ⟨out,atZ pl p⟩=true:=cHz (g:=⟨l,p⟩) E hg hln.2 (λq hq=>cEv.2 (.loss hq.symm))
 have hFg:aG8 (bdB bs) out:=cHj (g:=⟨l,p⟩) E hg hbd (aFm G)
 have hal:aCt bs out=aCt bs l:=cG1 (g:=⟨l,p⟩) E (λj x hx hn=>cEv.2 (.name hx hn)) bs
 obtain ⟨hok2,hag⟩:=cGt (g:=⟨l,p⟩) hg hk E hFok
 have hR:=bE1 ⟨out,atZ pl p⟩ hsm2 (by dsimp only;omega)
 have hp2:=cGg ⟨out,atZ pl p⟩ (keep.map (atZ pl)) hsm2 (by dsimp only;omega) (by rw [List.length_map];omega)
 have he2:=aZd bs ⟨out,atZ pl p⟩ hsm2 (by dsimp only;omega) (by omega) hbs (λ_=>hFg)
 have heq:=bDm GL ⟨out,atZ pl p⟩ ⟨out,atZ pl p⟩ hsm2 hsm2 (by dsimp only;omega)
 rw [decide_eq_true rfl] at heq
 dsimp only at hok2 hag he he2
 rw [hok2,if_pos rfl,hag] at hp2
 rw [hFok,if_pos rfl,hal] at he2
 rw [hFok] at hR
 have h1:=(aMd hFok).1
 dsimp only at h1
 have hol:=rowN_length out
 obtain ⟨c,cs,hc⟩:∃c cs,aAv out=c::cs:=List.exists_cons_of_length_pos (by omega)
 obtain ⟨d,ds,hd⟩:∃d ds,aAh (cG3 out.length)=d::ds:=List.exists_cons_of_length_pos (by rw [rowZ_length,cFz];omega)
 have ecl:(⟨out,atZ pl p⟩:Gr).cells=[.ro 8 (c::cs),.int .i64 (atZ pl p)]:=by rw [<- hc];rfl
 dsimp only at hp2
 rw [ecl,hd] at hp2
 rw [ecl] at hR he2 heq
 dsimp only at hpr
 rw [ecl] at hpr
 have hcl:(c::cs).length=out.length:=by rw [<- hc];exact hol
 have hkeep:∀n∈keep,∃k:Nat,n=(k:Nat)/\k<pl.length:=λn hn=>by
  obtain ⟨k,h1,h2⟩:=cE7 hk hn
  exact ⟨k,h1,by rw [hln.1];exact h2⟩
 cases hA:aCt bs l
 · rw [hA,if_neg (by simp)] at he he2
   exact ⟨pl,c,d,cs,ds,[],[],_,10,hpr,hR,hp2,he,he2,heq,hln.1,hkeep,.inl ⟨rfl,rfl,rfl⟩,Nat.zero_le _,λi h=>absurd h (Nat.not_lt_zero _)⟩
 · rw [hA,if_pos rfl] at he he2
   refine ⟨pl,c,d,cs,ds,_,_,_,0,hpr,hR,hp2,he,he2,heq,hln.1,hkeep,.inr ⟨rfl,by rw [aC0,hcl],by rw [aC0,hln.1]⟩,by rw [aC0];omega,λi h=>?_⟩
   rw [aC0] at h
   have hx:l[i]? =some l[i]:=List.getElem?_eq_getElem h
   have hpi:pl[i]? =some (pl[i]'(by omega)):=List.getElem?_eq_getElem (by omega)
   have hsi:=hsg i _ hpi
   have hatz:atZ pl (i:Nat)=pl[i]'(by omega):=cEs (by omega)
   refine ⟨_,aE6 (by omega),?_,?_⟩
   · rw [aC0]
     cases hN:NB ⟨l,p⟩ keep i
     · rw [hN] at hsi
       have:¬0<=pl[i]'(by omega):=by simpa using hsi
       omega
     · obtain ⟨m,e1,e2⟩:=E.at_ i _ hx hN
       have:=(List.getElem?_eq_some_iff.1 e2).1
       omega
   · cases hN:NB ⟨l,p⟩ keep i
     · rw [hN] at hsi
       have:¬0<=pl[i]'(by omega):=by simpa using hsi
       exact .inl (by omega)
     · obtain ⟨m,e1,e2⟩:=E.at_ i _ hx hN
       obtain ⟨e3,e4⟩:=cHs (g:=⟨l,p⟩) (bd:=bdB bs) E hg hbd h hN e1
       exact .inr ⟨m,_,_,by rw [<- hatz];exact e1,hvt i _ hx,by rw [aD1 h,tcE,aAp h],by rw [aD1 e3,e4,tcE,aAp h]⟩
theorem cG6 {keep pl:List Int}{i k:Nat}(h:i<keep.length) (hk:keep[i]=(k:Nat)):aAh ((keep.take (i+1)).map (atZ pl))=List.take (aAh ((keep.take i).map (atZ pl))).length (aAh ((keep.take i).map (atZ pl)))++[[.int .i64 (atZ pl (k:Nat))]]:=by
 rw [List.take_length,List.take_succ_eq_append_getElem h,List.map_append]
 show aAh (_++[atZ pl keep[i]])=_
 rw [hk]
 simp [aAh]
set_option maxHeartbeats 8000000 in
open Classical in
theorem cGr (g:Gr) (keep:List Int) (bs:List Bd) (hbb:bs.length*64<=140737488351232):aAc Tryz.prog GL 7 [.agg g.cells,.ro 1 (aAh keep),.ro 3 (aA5 bs)] (λr=>r= .bool true):=by
 have haw:=cHr
 obtain ⟨l,p⟩:=g
 show aAc _ _ _ [.agg [.ro 8 (aAv l),.int .i64 p],.ro 1 (aAh keep),.ro 3 (aA5 bs)] _
 have hsm:=aK5 GL ⟨l,p⟩
 have hsb:=aK6 bs
 have hlr:=rowN_length l
 have hbr:=aBk bs
 have hkr:=rowZ_length keep
 replace hsm:aAc Tryz.prog GL 11 [.agg [.ro 8 (aAv l),.int .i64 p]] (λy=>y= .bool (aFh ⟨l,p⟩)):=hsm
 refine aAa cGf HM Tryz.func7 rfl (by decide +kernel) (by decide +kernel) rfl ?_
 repeat' first|refine sY ⟨?_⟩|(refine sq ?_ ?_<;>refine λh=>⟨?_⟩<;>(first|contradiction|(exfalso;omega)|skip))|fail
 refine ⟨[1,2,3,7,24,25,26],[0],λm st=>∃i:Nat,i<=bs.length/\m=bs.length - i/\
  ((i=0/\st=⟨[(1,.ro 1 (aAh keep)),(2,.ro 3 (aA5 bs)),(3,.bptr 0 0),(7,.nils),(24,.ro 3 (aA5 bs)),(25,.int .i64 ((aA5 bs).length:Nat)),(26,.int .i64 (i:Nat))],[.box 31 [.ro 8 (aAv l),.int .i64 p]]⟩)\/
  (0<i/\st=⟨[(1,.ro 1 (aAh keep)),(2,.ro 3 (aA5 bs)),(3,.bptr 0 0),(7,.own 1 0 (aA5 (bs.take i)).length),(24,.ro 3 (aA5 bs)),(25,.int .i64 ((aA5 bs).length:Nat)),(26,.int .i64 (i:Nat))],[.box 31 [.ro 8 (aAv l),.int .i64 p],.row false 53 3 (aA5 (bs.take i))]⟩)),rfl,⟨bs.length,0,by omega,rfl,.inl ⟨rfl,rfl⟩⟩,?_⟩
 rintro m _ ⟨i,hi,hm,hst⟩
 have htl:(aA5 (bs.take i)).length=i:=by rw [aBk,List.length_take];omega
 rcases Nat.lt_or_ge i bs.length with hil|hge
 · have g:=aDs hil
   have hsn:=aKj hil
   have hone:i=0->aA5 (bs.take (i+1))=[bs[i].cells]:=λh=>by subst h;rw [aKj hil];simp [aA5]
   generalize bs[i]=b at g hsn hone
   obtain ⟨bn,bsh,bda⟩:=b
   rcases hst with ⟨rfl,rfl⟩|⟨h0,rfl⟩
   · have hone:=hone rfl
     repeat' first|refine sY ⟨?_⟩|(refine sq ?_ ?_<;>refine λh=>⟨?_⟩<;>(first|contradiction|(exfalso;omega)|skip))|fail
     conv=>whnf
     refine ⟨Nat.le_of_ble_eq_true rfl,λh=>Nat.succ_ne_zero _ (congrArg List.length h),?_⟩
     repeat' first|refine sY ⟨?_⟩|(refine sq ?_ ?_<;>refine λh=>⟨?_⟩<;>(first|contradiction|(exfalso;omega)|skip))|fail
     all_goals exact ⟨[0,3],bs.length - (0+1),rfl,by omega,0+1,by omega,rfl,.inr ⟨by omega,Eq.trans rfl (congrArg (λz:List (List AV)=>(⟨[(1,.ro 1 (aAh keep)),(2,.ro 3 (aA5 bs)),(3,.bptr 0 0),(7,.own 1 0 z.length),(24,.ro 3 (aA5 bs)),(25,.int .i64 ((aA5 bs).length:Nat)),(26,.int .i64 ((0+1:Nat):Int))],[.box 31 [.ro 8 (aAv l),.int .i64 p],.row false 53 3 z]⟩:St)) hone.symm)⟩⟩
   · repeat' first|refine sY ⟨?_⟩|(refine sq ?_ ?_<;>refine λh=>⟨?_⟩<;>(first|contradiction|(exfalso;omega)|skip))|fail
     refine ⟨Nat.le_refl _,(show ((aA5 (bs.take i)).length+1)*64<=140737488355328 by omega),_,hsn,?_⟩
     repeat' first|refine sY ⟨?_⟩|(refine sq ?_ ?_<;>refine λh=>⟨?_⟩<;>(first|contradiction|(exfalso;omega)|skip))|fail
     all_goals exact ⟨[0,4],bs.length - (i+1),rfl,by omega,i+1,by omega,rfl,.inr ⟨by omega,rfl⟩⟩
 · have e:bs.take i=bs:=List.take_of_length_le (by omega)
   rcases hst with ⟨h0,rfl⟩|⟨h0,rfl⟩
   · have hb0:aA5 bs=[]:=List.length_eq_zero_iff.1 (by omega)
     rw [hb0] at hsb
     cases hS:aFh ⟨l,p⟩
     · rw [hS] at hsm
       repeat' first|refine sY ⟨?_⟩|(refine sq ?_ ?_<;>refine λh=>⟨?_⟩<;>(first|contradiction|(exfalso;omega)|skip))|fail
       all_goals (conv=>whnf)
       all_goals rfl
     rw [hS] at hsm
     simp only [aFh,Bool.and_eq_true,decide_eq_true_eq,List.all_eq_true] at hS
     obtain ⟨hl,hs⟩:=hS
     have hs:=λx hx=>aMn (hs x hx)
     by_cases hkl:keep.length<=40
     case neg=>
      repeat' first|refine sY ⟨?_⟩|(refine sq ?_ ?_<;>refine λh=>⟨?_⟩<;>(first|contradiction|(exfalso;omega)|skip))|fail
      all_goals (conv=>whnf)
      all_goals rfl
     cases hB:aGk bs
     · rw [hB] at hsb
       repeat' first|refine sY ⟨?_⟩|(refine sq ?_ ?_<;>refine λh=>⟨?_⟩<;>(first|contradiction|(exfalso;omega)|skip))|fail
       all_goals (conv=>whnf)
       all_goals rfl
     rw [hB] at hsb
     obtain ⟨hbl,hbs⟩:=aKl hB
     have hcm:=bEv l p bs (by omega) hs (by omega) hbs
     have hK:=@cGd l p keep bs (by omega) hs hkl (by omega) hbs
     rw [hb0] at hcm
     by_cases hC:aP4 l bs<=400
     case neg=>
      rw [decide_eq_false hC] at hcm
      repeat' first|refine sY ⟨?_⟩|(refine sq ?_ ?_<;>refine λh=>⟨?_⟩<;>(first|contradiction|(exfalso;omega)|skip))|fail
      all_goals (conv=>whnf)
      all_goals rfl
     rw [decide_eq_true hC] at hcm
     rcases hK hC with hp1|⟨pl,c,d,cs,ds,A,B,q,e,hp1,hR,hp2,he,he2,heq,hpl,hkeep,hcase,hA40,hgt⟩
     · repeat' first|refine sY ⟨?_⟩|(refine sq ?_ ?_<;>refine λh=>⟨?_⟩<;>(first|contradiction|(exfalso;omega)|skip))|fail
       all_goals (conv=>whnf)
       all_goals rfl
     have hplr:=rowZ_length pl
     repeat' first|refine sY ⟨?_⟩|(refine sq ?_ ?_<;>refine λh=>⟨?_⟩<;>(first|contradiction|(exfalso;omega)|skip))|fail
     refine ⟨[2,3,10,11,13,82,83,84],[0,1],λm st=>∃i:Nat,i<=keep.length/\m=keep.length - i/\
      ((i=0/\st=⟨[(2,.ro 3 (aA5 bs)),(3,.bptr 0 0),(10,.bptr 1 0),(11,.ro 1 (aAh pl)),(13,.nils),(82,.ro 1 (aAh keep)),(83,.int .i64 ((aAh keep).length:Nat)),(84,.int .i64 (i:Nat))],
         [.box 31 [.ro 8 (aAv l),.int .i64 p],.box 31 [.ro 8 (c::cs),.int .i64 q]]⟩)\/
       (0<i/\st=⟨[(2,.ro 3 (aA5 bs)),(3,.bptr 0 0),(10,.bptr 1 0),(11,.ro 1 (aAh pl)),(13,.own 2 0 (aAh ((keep.take i).map (atZ pl))).length),(82,.ro 1 (aAh keep)),(83,.int .i64 ((aAh keep).length:Nat)),(84,.int .i64 (i:Nat))],
         [.box 31 [.ro 8 (aAv l),.int .i64 p],.box 31 [.ro 8 (c::cs),.int .i64 q],.row false 3 1 (aAh ((keep.take i).map (atZ pl)))]⟩)),rfl,⟨keep.length,0,by omega,rfl,.inl ⟨rfl,rfl⟩⟩,?_⟩
     rintro m _ ⟨i,hi,hm,hst⟩
     have htl2:(aAh ((keep.take i).map (atZ pl))).length=i:=by rw [rowZ_length,List.length_map,List.length_take];omega
     rcases Nat.lt_or_ge i keep.length with hil|hge
     · obtain ⟨k,hk,hkp⟩:=hkeep keep[i] (List.getElem_mem hil)
       have gk:(aAh keep)[i]? =some [.int .i64 (k:Nat)]:=by rw [aE6 hil,hk]
       have gp:(aAh pl)[k]? =some [.int .i64 (atZ pl (k:Nat))]:=by rw [aE6 hkp,cEs hkp]
       have hsn:=cG6 (pl:=pl) hil hk
       have hone:i=0->aAh ((keep.take (i+1)).map (atZ pl))=[[.int .i64 (atZ pl (k:Nat))]]:=λh=>by subst h;rw [hsn];rfl
       generalize atZ pl (k:Nat)=v at gp hsn hone
       rcases hst with ⟨rfl,rfl⟩|⟨h0,rfl⟩
       · have hone:=hone rfl
         repeat' first|refine sY ⟨?_⟩|(refine sq ?_ ?_<;>refine λh=>⟨?_⟩<;>(first|contradiction|(exfalso;omega)|skip))|fail
         conv=>whnf
         refine ⟨Nat.le_of_ble_eq_true rfl,λh=>Nat.succ_ne_zero _ (congrArg List.length h),?_⟩
         repeat' first|refine sY ⟨?_⟩|(refine sq ?_ ?_<;>refine λh=>⟨?_⟩<;>(first|contradiction|(exfalso;omega)|skip))|fail
         all_goals exact ⟨[0,1,3],keep.length - (0+1),rfl,by omega,0+1,by omega,rfl,.inr ⟨by omega,Eq.trans rfl (congrArg (λz:List (List AV)=>(⟨[(2,.ro 3 (aA5 bs)),(3,.bptr 0 0),(10,.bptr 1 0),(11,.ro 1 (aAh pl)),(13,.own 2 0 z.length),(82,.ro 1 (aAh keep)),(83,.int .i64 ((aAh keep).length:Nat)),(84,.int .i64 ((0+1:Nat):Int))],
          [.box 31 [.ro 8 (aAv l),.int .i64 p],.box 31 [.ro 8 (c::cs),.int .i64 q],.row false 3 1 z]⟩:St)) hone.symm)⟩⟩
       · repeat' first|refine sY ⟨?_⟩|(refine sq ?_ ?_<;>refine λh=>⟨?_⟩<;>(first|contradiction|(exfalso;omega)|skip))|fail
         refine ⟨Nat.le_refl _,(show ((aAh ((keep.take i).map (atZ pl))).length+1)*8<=140737488355328 by omega),_,hsn,?_⟩
         repeat' first|refine sY ⟨?_⟩|(refine sq ?_ ?_<;>refine λh=>⟨?_⟩<;>(first|contradiction|(exfalso;omega)|skip))|fail
         all_goals exact ⟨[0,1,4],keep.length - (i+1),rfl,by omega,i+1,by omega,rfl,.inr ⟨by omega,rfl⟩⟩
     · have e1:keep.take i=keep:=List.take_of_length_le (by omega)
       clear hsm hsb hcm hp1 hR hkeep hs hbs
       rcases hst with ⟨h0,rfl⟩|⟨h0,rfl⟩
       · have hk0:aAh (keep.map (atZ pl))=[]:=by rw [List.length_eq_zero_iff.1 (show keep.length=0 by omega)];rfl
         rw [hk0] at hp2
         rcases hcase with ⟨rfl,hA0,hB0⟩|⟨rfl,hB1,hA1⟩
         · repeat' first|refine sY ⟨?_⟩|(refine sq ?_ ?_<;>refine λh=>⟨?_⟩<;>(first|contradiction|(exfalso;omega)|skip))|fail
           refine ⟨[11,19,21,156,157],[],λm st=>∃i:Nat,i<=A.length/\m=A.length - i/\
            st=⟨[(11,.ro 1 (aAh pl)),(19,.ro 2 A),(21,.ro 2 B),(156,.int .i64 (A.length:Nat)),(157,.int .i64 (i:Nat))],[]⟩,rfl,⟨A.length,0,by omega,rfl,rfl⟩,?_⟩
           rintro m _ ⟨i,hi,hm,rfl⟩
           repeat' first|refine sY ⟨?_⟩|(refine sq ?_ ?_<;>refine λh=>⟨?_⟩<;>(first|contradiction|(exfalso;omega)|skip))|fail
           all_goals (conv=>whnf)
           all_goals rfl
         · repeat' first|refine sY ⟨?_⟩|(refine sq ?_ ?_<;>refine λh=>⟨?_⟩<;>(first|contradiction|(exfalso;omega)|skip))|fail
           refine ⟨[11,19,21,156,157],[],λm st=>∃i:Nat,i<=A.length/\m=A.length - i/\
            st=⟨[(11,.ro 1 (aAh pl)),(19,.ro 2 A),(21,.ro 2 B),(156,.int .i64 (A.length:Nat)),(157,.int .i64 (i:Nat))],[]⟩,rfl,⟨A.length,0,by omega,rfl,rfl⟩,?_⟩
           rintro m _ ⟨i,hi,hm,rfl⟩
           rcases Nat.lt_or_ge i A.length with hil|hge
           · obtain ⟨v,gp,hvB,hv⟩:=hgt i hil
             rcases hv with hv|⟨mm,sh,r,rfl,hvt,gA,gB⟩
             · repeat' first|refine sY ⟨?_⟩|(refine sq ?_ ?_<;>refine λh=>⟨?_⟩<;>(first|contradiction|(exfalso;omega)|skip))|fail
               refine ⟨by decide +kernel,[0,0,3,7,0,16,63,127,255,255,1023,2047,4095,8191,16383,16383,65535,131071,16383,16383,16383,1589247,3686399,8142847,16531455,33554431,67108863,134217727,268435455],by decide +kernel,?_⟩
               repeat' first|refine sY ⟨?_⟩|(refine sq ?_ ?_<;>refine λh=>⟨?_⟩<;>(first|contradiction|(exfalso;omega)|skip))|fail
               all_goals exact ⟨[],A.length - (i+1),rfl,by omega,i+1,by omega,rfl,rfl⟩
             · have hE:=aK3 sh sh (r.map aAw) (r.map aAw) (by have:=hvt.sl;omega) (by have:=hvt.sl;omega) (by rw [List.length_map];have:=hvt.vl;omega)
               rw [decide_eq_true rfl,decide_eq_true rfl,Bool.and_true] at hE
               unfold aEv at hE
               unfold aAj at gA gB
               repeat' first|refine sY ⟨?_⟩|(refine sq ?_ ?_<;>refine λh=>⟨?_⟩<;>(first|contradiction|(exfalso;omega)|skip))|fail
               refine ⟨by decide +kernel,[0,0,3,7,0,16,63,127,255,255,1023,2047,4095,8191,16383,16383,65535,131071,16383,16383,16383,1589247,3686399,8142847,16531455,33554431,67108863,134217727,268435455],by decide +kernel,?_⟩
               repeat' first|refine sY ⟨?_⟩|(refine sq ?_ ?_<;>refine λh=>⟨?_⟩<;>(first|contradiction|(exfalso;omega)|skip))|fail
               all_goals exact ⟨[],A.length - (i+1),rfl,by omega,i+1,by omega,rfl,rfl⟩
           · repeat' first|refine sY ⟨?_⟩|(refine sq ?_ ?_<;>refine λh=>⟨?_⟩<;>(first|contradiction|(exfalso;omega)|skip))|fail
             all_goals (conv=>whnf)
             all_goals rfl
       · rw [e1]
         rw [aW2 (aAh (keep.map (atZ pl))) rfl] at hp2
         rcases hcase with ⟨rfl,hA0,hB0⟩|⟨rfl,hB1,hA1⟩
         · repeat' first|refine sY ⟨?_⟩|(refine sq ?_ ?_<;>refine λh=>⟨?_⟩<;>(first|contradiction|(exfalso;omega)|skip))|fail
           refine ⟨[11,19,21,156,157],[],λm st=>∃i:Nat,i<=A.length/\m=A.length - i/\
            st=⟨[(11,.ro 1 (aAh pl)),(19,.ro 2 A),(21,.ro 2 B),(156,.int .i64 (A.length:Nat)),(157,.int .i64 (i:Nat))],[]⟩,rfl,⟨A.length,0,by omega,rfl,rfl⟩,?_⟩
           rintro m _ ⟨i,hi,hm,rfl⟩
           repeat' first|refine sY ⟨?_⟩|(refine sq ?_ ?_<;>refine λh=>⟨?_⟩<;>(first|contradiction|(exfalso;omega)|skip))|fail
           all_goals (conv=>whnf)
           all_goals rfl
         · repeat' first|refine sY ⟨?_⟩|(refine sq ?_ ?_<;>refine λh=>⟨?_⟩<;>(first|contradiction|(exfalso;omega)|skip))|fail
           refine ⟨[11,19,21,156,157],[],λm st=>∃i:Nat,i<=A.length/\m=A.length - i/\
            st=⟨[(11,.ro 1 (aAh pl)),(19,.ro 2 A),(21,.ro 2 B),(156,.int .i64 (A.length:Nat)),(157,.int .i64 (i:Nat))],[]⟩,rfl,⟨A.length,0,by omega,rfl,rfl⟩,?_⟩
           rintro m _ ⟨i,hi,hm,rfl⟩
           rcases Nat.lt_or_ge i A.length with hil|hge
           · obtain ⟨v,gp,hvB,hv⟩:=hgt i hil
             rcases hv with hv|⟨mm,sh,r,rfl,hvt,gA,gB⟩
             · repeat' first|refine sY ⟨?_⟩|(refine sq ?_ ?_<;>refine λh=>⟨?_⟩<;>(first|contradiction|(exfalso;omega)|skip))|fail
               refine ⟨by decide +kernel,[0,0,3,7,0,16,63,127,255,255,1023,2047,4095,8191,16383,16383,65535,131071,16383,16383,16383,1589247,3686399,8142847,16531455,33554431,67108863,134217727,268435455],by decide +kernel,?_⟩
               repeat' first|refine sY ⟨?_⟩|(refine sq ?_ ?_<;>refine λh=>⟨?_⟩<;>(first|contradiction|(exfalso;omega)|skip))|fail
               all_goals exact ⟨[],A.length - (i+1),rfl,by omega,i+1,by omega,rfl,rfl⟩
             · have hE:=aK3 sh sh (r.map aAw) (r.map aAw) (by have:=hvt.sl;omega) (by have:=hvt.sl;omega) (by rw [List.length_map];have:=hvt.vl;omega)
               rw [decide_eq_true rfl,decide_eq_true rfl,Bool.and_true] at hE
               unfold aEv at hE
               unfold aAj at gA gB
               repeat' first|refine sY ⟨?_⟩|(refine sq ?_ ?_<;>refine λh=>⟨?_⟩<;>(first|contradiction|(exfalso;omega)|skip))|fail
               refine ⟨by decide +kernel,[0,0,3,7,0,16,63,127,255,255,1023,2047,4095,8191,16383,16383,65535,131071,16383,16383,16383,1589247,3686399,8142847,16531455,33554431,67108863,134217727,268435455],by decide +kernel,?_⟩
               repeat' first|refine sY ⟨?_⟩|(refine sq ?_ ?_<;>refine λh=>⟨?_⟩<;>(first|contradiction|(exfalso;omega)|skip))|fail
               all_goals exact ⟨[],A.length - (i+1),rfl,by omega,i+1,by omega,rfl,rfl⟩
           · repeat' first|refine sY ⟨?_⟩|(refine sq ?_ ?_<;>refine λh=>⟨?_⟩<;>(first|contradiction|(exfalso;omega)|skip))|fail
             all_goals (conv=>whnf)
             all_goals rfl
   · rw [e]
     rw [aW2 (aA5 bs) rfl] at hsb
     cases hS:aFh ⟨l,p⟩
     · rw [hS] at hsm
       repeat' first|refine sY ⟨?_⟩|(refine sq ?_ ?_<;>refine λh=>⟨?_⟩<;>(first|contradiction|(exfalso;omega)|skip))|fail
       all_goals (conv=>whnf)
       all_goals rfl
     rw [hS] at hsm
     simp only [aFh,Bool.and_eq_true,decide_eq_true_eq,List.all_eq_true] at hS
     obtain ⟨hl,hs⟩:=hS
     have hs:=λx hx=>aMn (hs x hx)
     by_cases hkl:keep.length<=40
     case neg=>
      repeat' first|refine sY ⟨?_⟩|(refine sq ?_ ?_<;>refine λh=>⟨?_⟩<;>(first|contradiction|(exfalso;omega)|skip))|fail
      all_goals (conv=>whnf)
      all_goals rfl
     cases hB:aGk bs
     · rw [hB] at hsb
       repeat' first|refine sY ⟨?_⟩|(refine sq ?_ ?_<;>refine λh=>⟨?_⟩<;>(first|contradiction|(exfalso;omega)|skip))|fail
       all_goals (conv=>whnf)
       all_goals rfl
     rw [hB] at hsb
     obtain ⟨hbl,hbs⟩:=aKl hB
     have hcm:=bEv l p bs (by omega) hs (by omega) hbs
     have hK:=@cGd l p keep bs (by omega) hs hkl (by omega) hbs
     rw [aW2 (aA5 bs) rfl] at hcm
     by_cases hC:aP4 l bs<=400
     case neg=>
      rw [decide_eq_false hC] at hcm
      repeat' first|refine sY ⟨?_⟩|(refine sq ?_ ?_<;>refine λh=>⟨?_⟩<;>(first|contradiction|(exfalso;omega)|skip))|fail
      all_goals (conv=>whnf)
      all_goals rfl
     rw [decide_eq_true hC] at hcm
     rcases hK hC with hp1|⟨pl,c,d,cs,ds,A,B,q,e,hp1,hR,hp2,he,he2,heq,hpl,hkeep,hcase,hA40,hgt⟩
     · repeat' first|refine sY ⟨?_⟩|(refine sq ?_ ?_<;>refine λh=>⟨?_⟩<;>(first|contradiction|(exfalso;omega)|skip))|fail
       all_goals (conv=>whnf)
       all_goals rfl
     have hplr:=rowZ_length pl
     repeat' first|refine sY ⟨?_⟩|(refine sq ?_ ?_<;>refine λh=>⟨?_⟩<;>(first|contradiction|(exfalso;omega)|skip))|fail
     refine ⟨[2,3,10,11,13,82,83,84],[0,2],λm st=>∃i:Nat,i<=keep.length/\m=keep.length - i/\
      ((i=0/\st=⟨[(2,.ro 3 (aA5 bs)),(3,.bptr 0 0),(10,.bptr 1 0),(11,.ro 1 (aAh pl)),(13,.nils),(82,.ro 1 (aAh keep)),(83,.int .i64 ((aAh keep).length:Nat)),(84,.int .i64 (i:Nat))],
         [.box 31 [.ro 8 (aAv l),.int .i64 p],.box 31 [.ro 8 (c::cs),.int .i64 q]]⟩)\/
       (0<i/\st=⟨[(2,.ro 3 (aA5 bs)),(3,.bptr 0 0),(10,.bptr 1 0),(11,.ro 1 (aAh pl)),(13,.own 2 0 (aAh ((keep.take i).map (atZ pl))).length),(82,.ro 1 (aAh keep)),(83,.int .i64 ((aAh keep).length:Nat)),(84,.int .i64 (i:Nat))],
         [.box 31 [.ro 8 (aAv l),.int .i64 p],.box 31 [.ro 8 (c::cs),.int .i64 q],.row false 3 1 (aAh ((keep.take i).map (atZ pl)))]⟩)),rfl,⟨keep.length,0,by omega,rfl,.inl ⟨rfl,rfl⟩⟩,?_⟩
     rintro m _ ⟨i,hi,hm,hst⟩
     have htl2:(aAh ((keep.take i).map (atZ pl))).length=i:=by rw [rowZ_length,List.length_map,List.length_take];omega
     rcases Nat.lt_or_ge i keep.length with hil|hge
     · obtain ⟨k,hk,hkp⟩:=hkeep keep[i] (List.getElem_mem hil)
       have gk:(aAh keep)[i]? =some [.int .i64 (k:Nat)]:=by rw [aE6 hil,hk]
       have gp:(aAh pl)[k]? =some [.int .i64 (atZ pl (k:Nat))]:=by rw [aE6 hkp,cEs hkp]
       have hsn:=cG6 (pl:=pl) hil hk
       have hone:i=0->aAh ((keep.take (i+1)).map (atZ pl))=[[.int .i64 (atZ pl (k:Nat))]]:=λh=>by subst h;rw [hsn];rfl
       generalize atZ pl (k:Nat)=v at gp hsn hone
       rcases hst with ⟨rfl,rfl⟩|⟨h0,rfl⟩
       · have hone:=hone rfl
         repeat' first|refine sY ⟨?_⟩|(refine sq ?_ ?_<;>refine λh=>⟨?_⟩<;>(first|contradiction|(exfalso;omega)|skip))|fail
         conv=>whnf
         refine ⟨Nat.le_of_ble_eq_true rfl,λh=>Nat.succ_ne_zero _ (congrArg List.length h),?_⟩
         repeat' first|refine sY ⟨?_⟩|(refine sq ?_ ?_<;>refine λh=>⟨?_⟩<;>(first|contradiction|(exfalso;omega)|skip))|fail
         all_goals exact ⟨[0,1,3],keep.length - (0+1),rfl,by omega,0+1,by omega,rfl,.inr ⟨by omega,Eq.trans rfl (congrArg (λz:List (List AV)=>(⟨[(2,.ro 3 (aA5 bs)),(3,.bptr 0 0),(10,.bptr 1 0),(11,.ro 1 (aAh pl)),(13,.own 2 0 z.length),(82,.ro 1 (aAh keep)),(83,.int .i64 ((aAh keep).length:Nat)),(84,.int .i64 ((0+1:Nat):Int))],
          [.box 31 [.ro 8 (aAv l),.int .i64 p],.box 31 [.ro 8 (c::cs),.int .i64 q],.row false 3 1 z]⟩:St)) hone.symm)⟩⟩
       · repeat' first|refine sY ⟨?_⟩|(refine sq ?_ ?_<;>refine λh=>⟨?_⟩<;>(first|contradiction|(exfalso;omega)|skip))|fail
         refine ⟨Nat.le_refl _,(show ((aAh ((keep.take i).map (atZ pl))).length+1)*8<=140737488355328 by omega),_,hsn,?_⟩
         repeat' first|refine sY ⟨?_⟩|(refine sq ?_ ?_<;>refine λh=>⟨?_⟩<;>(first|contradiction|(exfalso;omega)|skip))|fail
         all_goals exact ⟨[0,1,4],keep.length - (i+1),rfl,by omega,i+1,by omega,rfl,.inr ⟨by omega,rfl⟩⟩
     · have e1:keep.take i=keep:=List.take_of_length_le (by omega)
       clear hsm hsb hcm hp1 hR hkeep hs hbs
       rcases hst with ⟨h0,rfl⟩|⟨h0,rfl⟩
       · have hk0:aAh (keep.map (atZ pl))=[]:=by rw [List.length_eq_zero_iff.1 (show keep.length=0 by omega)];rfl
         rw [hk0] at hp2
         rcases hcase with ⟨rfl,hA0,hB0⟩|⟨rfl,hB1,hA1⟩
         · repeat' first|refine sY ⟨?_⟩|(refine sq ?_ ?_<;>refine λh=>⟨?_⟩<;>(first|contradiction|(exfalso;omega)|skip))|fail
           refine ⟨[11,19,21,156,157],[],λm st=>∃i:Nat,i<=A.length/\m=A.length - i/\
            st=⟨[(11,.ro 1 (aAh pl)),(19,.ro 2 A),(21,.ro 2 B),(156,.int .i64 (A.length:Nat)),(157,.int .i64 (i:Nat))],[]⟩,rfl,⟨A.length,0,by omega,rfl,rfl⟩,?_⟩
           rintro m _ ⟨i,hi,hm,rfl⟩
           repeat' first|refine sY ⟨?_⟩|(refine sq ?_ ?_<;>refine λh=>⟨?_⟩<;>(first|contradiction|(exfalso;omega)|skip))|fail
           all_goals (conv=>whnf)
           all_goals rfl
         · repeat' first|refine sY ⟨?_⟩|(refine sq ?_ ?_<;>refine λh=>⟨?_⟩<;>(first|contradiction|(exfalso;omega)|skip))|fail
           refine ⟨[11,19,21,156,157],[],λm st=>∃i:Nat,i<=A.length/\m=A.length - i/\
            st=⟨[(11,.ro 1 (aAh pl)),(19,.ro 2 A),(21,.ro 2 B),(156,.int .i64 (A.length:Nat)),(157,.int .i64 (i:Nat))],[]⟩,rfl,⟨A.length,0,by omega,rfl,rfl⟩,?_⟩
           rintro m _ ⟨i,hi,hm,rfl⟩
           rcases Nat.lt_or_ge i A.length with hil|hge
           · obtain ⟨v,gp,hvB,hv⟩:=hgt i hil
             rcases hv with hv|⟨mm,sh,r,rfl,hvt,gA,gB⟩
             · repeat' first|refine sY ⟨?_⟩|(refine sq ?_ ?_<;>refine λh=>⟨?_⟩<;>(first|contradiction|(exfalso;omega)|skip))|fail
               refine ⟨by decide +kernel,[0,0,3,7,0,16,63,127,255,255,1023,2047,4095,8191,16383,16383,65535,131071,16383,16383,16383,1589247,3686399,8142847,16531455,33554431,67108863,134217727,268435455],by decide +kernel,?_⟩
               repeat' first|refine sY ⟨?_⟩|(refine sq ?_ ?_<;>refine λh=>⟨?_⟩<;>(first|contradiction|(exfalso;omega)|skip))|fail
               all_goals exact ⟨[],A.length - (i+1),rfl,by omega,i+1,by omega,rfl,rfl⟩
             · have hE:=aK3 sh sh (r.map aAw) (r.map aAw) (by have:=hvt.sl;omega) (by have:=hvt.sl;omega) (by rw [List.length_map];have:=hvt.vl;omega)
               rw [decide_eq_true rfl,decide_eq_true rfl,Bool.and_true] at hE
               unfold aEv at hE
               unfold aAj at gA gB
               repeat' first|refine sY ⟨?_⟩|(refine sq ?_ ?_<;>refine λh=>⟨?_⟩<;>(first|contradiction|(exfalso;omega)|skip))|fail
               refine ⟨by decide +kernel,[0,0,3,7,0,16,63,127,255,255,1023,2047,4095,8191,16383,16383,65535,131071,16383,16383,16383,1589247,3686399,8142847,16531455,33554431,67108863,134217727,268435455],by decide +kernel,?_⟩
               repeat' first|refine sY ⟨?_⟩|(refine sq ?_ ?_<;>refine λh=>⟨?_⟩<;>(first|contradiction|(exfalso;omega)|skip))|fail
               all_goals exact ⟨[],A.length - (i+1),rfl,by omega,i+1,by omega,rfl,rfl⟩
           · repeat' first|refine sY ⟨?_⟩|(refine sq ?_ ?_<;>refine λh=>⟨?_⟩<;>(first|contradiction|(exfalso;omega)|skip))|fail
             all_goals (conv=>whnf)
             all_goals rfl
       · rw [e1]
         rw [aW2 (aAh (keep.map (atZ pl))) rfl] at hp2
         rcases hcase with ⟨rfl,hA0,hB0⟩|⟨rfl,hB1,hA1⟩
         · repeat' first|refine sY ⟨?_⟩|(refine sq ?_ ?_<;>refine λh=>⟨?_⟩<;>(first|contradiction|(exfalso;omega)|skip))|fail
           refine ⟨[11,19,21,156,157],[],λm st=>∃i:Nat,i<=A.length/\m=A.length - i/\
            st=⟨[(11,.ro 1 (aAh pl)),(19,.ro 2 A),(21,.ro 2 B),(156,.int .i64 (A.length:Nat)),(157,.int .i64 (i:Nat))],[]⟩,rfl,⟨A.length,0,by omega,rfl,rfl⟩,?_⟩
           rintro m _ ⟨i,hi,hm,rfl⟩
           repeat' first|refine sY ⟨?_⟩|(refine sq ?_ ?_<;>refine λh=>⟨?_⟩<;>(first|contradiction|(exfalso;omega)|skip))|fail
           all_goals (conv=>whnf)
           all_goals rfl
         · repeat' first|refine sY ⟨?_⟩|(refine sq ?_ ?_<;>refine λh=>⟨?_⟩<;>(first|contradiction|(exfalso;omega)|skip))|fail
           refine ⟨[11,19,21,156,157],[],λm st=>∃i:Nat,i<=A.length/\m=A.length - i/\
            st=⟨[(11,.ro 1 (aAh pl)),(19,.ro 2 A),(21,.ro 2 B),(156,.int .i64 (A.length:Nat)),(157,.int .i64 (i:Nat))],[]⟩,rfl,⟨A.length,0,by omega,rfl,rfl⟩,?_⟩
           rintro m _ ⟨i,hi,hm,rfl⟩
           rcases Nat.lt_or_ge i A.length with hil|hge
           · obtain ⟨v,gp,hvB,hv⟩:=hgt i hil
             rcases hv with hv|⟨mm,sh,r,rfl,hvt,gA,gB⟩
             · repeat' first|refine sY ⟨?_⟩|(refine sq ?_ ?_<;>refine λh=>⟨?_⟩<;>(first|contradiction|(exfalso;omega)|skip))|fail
               refine ⟨by decide +kernel,[0,0,3,7,0,16,63,127,255,255,1023,2047,4095,8191,16383,16383,65535,131071,16383,16383,16383,1589247,3686399,8142847,16531455,33554431,67108863,134217727,268435455],by decide +kernel,?_⟩
               repeat' first|refine sY ⟨?_⟩|(refine sq ?_ ?_<;>refine λh=>⟨?_⟩<;>(first|contradiction|(exfalso;omega)|skip))|fail
               all_goals exact ⟨[],A.length - (i+1),rfl,by omega,i+1,by omega,rfl,rfl⟩
             · have hE:=aK3 sh sh (r.map aAw) (r.map aAw) (by have:=hvt.sl;omega) (by have:=hvt.sl;omega) (by rw [List.length_map];have:=hvt.vl;omega)
               rw [decide_eq_true rfl,decide_eq_true rfl,Bool.and_true] at hE
               unfold aEv at hE
               unfold aAj at gA gB
               repeat' first|refine sY ⟨?_⟩|(refine sq ?_ ?_<;>refine λh=>⟨?_⟩<;>(first|contradiction|(exfalso;omega)|skip))|fail
               refine ⟨by decide +kernel,[0,0,3,7,0,16,63,127,255,255,1023,2047,4095,8191,16383,16383,65535,131071,16383,16383,16383,1589247,3686399,8142847,16531455,33554431,67108863,134217727,268435455],by decide +kernel,?_⟩
               repeat' first|refine sY ⟨?_⟩|(refine sq ?_ ?_<;>refine λh=>⟨?_⟩<;>(first|contradiction|(exfalso;omega)|skip))|fail
               all_goals exact ⟨[],A.length - (i+1),rfl,by omega,i+1,by omega,rfl,rfl⟩
           · repeat' first|refine sY ⟨?_⟩|(refine sq ?_ ?_<;>refine λh=>⟨?_⟩<;>(first|contradiction|(exfalso;omega)|skip))|fail
             all_goals (conv=>whnf)
             all_goals rfl
end Go.V
