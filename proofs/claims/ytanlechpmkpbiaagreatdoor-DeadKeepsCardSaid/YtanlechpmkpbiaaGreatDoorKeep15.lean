/-
  Lemmas (part 15) for: Fold and Eval: FoldKeeps, EvalAll, EvalScale hold for all arguments; no condition.
-/
import Derived.Test.YtanlechpmkpbiaaGreatDoorKeep13
set_option linter.all false
namespace Go.V
open Go.N Go.Proofs
set_option maxRecDepth 20000
theorem bIm {l l':List Nd}{x:Nd}(hl:l'.length=l.length) (hs:∀r:Nat,r<l.length->aBv l' (r:Nat)=aBv l (r:Nat)) (h:aCu l x=some x.shape):aCu l' x=some x.shape:=by
 obtain ⟨o,ho⟩:=bF4 h
 obtain ⟨F,hz⟩:=aOm ho h
 have hr:∀i:Int,inR i l=true->inR i l'=true/\aBv l' i=aBv l i:=λi hi=>by
  obtain ⟨k,rfl,hk⟩:=aBc hi
  exact ⟨by simp [inR,hl,hk],hs k hk⟩
 have hf:aN8 l' x o.many=true:=(aI7 _ _ _).2 ⟨F.a0,F.b0,F.nm,F.nn,F.k,F.n,F.d,λh=>(hr _ (F.ia h)).1,λh=>(hr _ (F.ib h)).1⟩
 have ea:(if o.many=0 then [] else aBv l' x.a)=if o.many=0 then [] else aBv l x.a:=by
  rcases Nat.eq_zero_or_pos o.many with h0|h0
  · rw [if_pos h0,if_pos h0]
  · rw [if_neg (by omega),if_neg (by omega),(hr _ (F.ia h0)).2]
 have eb:(if o.many<2 then [] else aBv l' x.b)=if o.many<2 then [] else aBv l x.b:=by
  rcases Nat.lt_or_ge o.many 2 with h0|h0
  · rw [if_pos h0,if_pos h0]
  · rw [if_neg (by omega),if_neg (by omega),(hr _ (F.ib h0)).2]
 rw [aEo (by rw [ho,aFw]) hf,ea,eb]
 exact hz
theorem bAk {l:List Nd}{p i:Nat}(h:p<i):bF1 (l.take i) (p:Nat)=bF1 l (p:Nat):=by rw [bF1,bF1,Int.toNat_natCast,List.getElem?_take_of_lt h]
theorem cAj (v:List Rat):(v.map aAw).map aN1=v:=by
 rw [List.map_map]
 exact (List.map_congr_left λx _=>aJk x).trans (List.map_id v)
theorem bDu {l:List Nd}{s:List Int}{v:List Rat}(h:VT s v):aCu l (aKr s (v.map aAw))=some s:=by
 have hf:aN8 l (aKr s (v.map aAw)) 0=true:=(aI7 _ _ _).2 ⟨λ_=>rfl,λ_=>rfl,λh=>absurd h (show ¬aA7 aA0=true by decide),λ_=>rfl,λ_=>rfl,λ_=>rfl,λh=>absurd rfl h,λh=>absurd h (by decide),λh=>absurd h (by decide)⟩
 rw [aEo (show aBh (aKr s (v.map aAw)).op=some 0 from rfl) hf]
 have e:ofZ (aKr s (v.map aAw)) (if 0=0 then [] else aBv l (aKr s (v.map aAw)).a) (if 0<2 then [] else aBv l (aKr s (v.map aAw)).b)=(s,decide (((v.map aAw).length:Int)=aDj s) && !((v.map aAw).any λd=> !aBa d)):=rfl
 have e1:((v.map aAw).any λd=> !aBa d)=false:=by
  rw [List.any_eq_false]
  intro d hd
  obtain ⟨x,_,rfl⟩:=List.mem_map.1 hd
  simp [(aE2 x).1]
 rw [e,e1,List.length_map,aIj h.ok,decide_eq_true h.len,okZ]
 dsimp only
 rw [h.ok];rfl
section
variable {bd:Nd->List Rat}{g:Gr}
theorem aGa {l:List Nd}{p:Nat}(hp:p<l.length):aBv (aAm bd l l.length) (p:Nat)=aBv l (p:Nat):=by
 rw [aBv,Int.toNat_natCast,aCo (List.getElem?_eq_getElem hp) hp (Nat.le_refl _),aAp hp]
 exact aK8 _ _ _
theorem aOk (hg:aC1 g=true):∀j,j<g.nodes.length->aAk bd (aAm bd g.nodes g.nodes.length) j=aAk bd g.nodes j:=λj=>by
 induction j using Nat.strongRecOn with
 |_ j ih=>
  intro hj
  have hx:g.nodes[j]? =some g.nodes[j]:=List.getElem?_eq_getElem hj
  have hF:=aCo (bd:=bd) hx hj (Nat.le_refl _)
  have hFl:=aBs (bd:=bd) (l:=g.nodes) g.nodes.length (Nat.le_refl _)
  rw [aFy hF]
  cases hgo:aN9 (aAm bd g.nodes j) g.nodes[j]
  · rw [aGx hgo,aFy hx]
    obtain ⟨o,ho,F⟩:=aIo hg hx
    unfold bAx
    split
    · rfl
    · rw [ho,aFg]
      refine aXn (λh=>?_) (λh=>?_)
      · obtain ⟨r,hr,h1,h2⟩:=aDq (F.ia h)
        rw [hr,aGa h2,aHh h1 (by omega),aHh h1 (by omega),ih r h1 h2]
        exact ⟨rfl,rfl⟩
      · obtain ⟨r,hr,h1,h2⟩:=aDq (F.ib h)
        rw [hr,aGa h2,aHh h1 (by omega),aHh h1 (by omega),ih r h1 h2]
        exact ⟨rfl,rfl⟩
  · rw [aHo hgo,bAx,if_neg (show ¬aA7 (aKr g.nodes[j].shape ((aAk bd g.nodes j).map aAw)).op=true from (by decide:¬aA7 aA0=true))]
    exact cAj _
theorem bIe (hg:aC1 g=true) (G:aG8 bd g.nodes) (hvt:∀j x,g.nodes[j]? =some x->VT x.shape (aAk bd g.nodes j)):aG8 bd (aAm bd g.nodes g.nodes.length):=λj y o hy ho hn sa a sb b ha hb=>by
 have hj:j<g.nodes.length:=by
  have:=(List.getElem?_eq_some_iff.1 hy).1
  rwa [aBs _ (Nat.le_refl _)] at this
 have hx:g.nodes[j]? =some g.nodes[j]:=List.getElem?_eq_getElem hj
 rw [aCo hx hj (Nat.le_refl _)] at hy
 rw [aOk hg j hj]
 cases hgo:aN9 (aAm bd g.nodes j) g.nodes[j]
 · rw [aGx hgo] at hy
   obtain rfl:=Option.some.inj hy
   obtain ⟨o',ho',F⟩:=aIo hg hx
   obtain rfl:=aRt (ho.symm.trans ho')
   refine G j _ o hx ho hn sa a sb b (λh=>?_) (λh=>?_)
   · obtain ⟨r,hr,h1,h2⟩:=aDq (F.ia h)
     have e:=ha h
     rw [hr,Int.toNat_natCast,aGa h2,aOk hg r h2] at e
     rw [hr,Int.toNat_natCast];exact e
   · obtain ⟨r,hr,h1,h2⟩:=aDq (F.ib h)
     have e:=hb h
     rw [hr,Int.toNat_natCast,aGa h2,aOk hg r h2] at e
     rw [hr,Int.toNat_natCast];exact e
 · rw [aHo hgo] at hy
   obtain rfl:=Option.some.inj hy
   obtain rfl:=aRt (o:=.const) (o':=o) ho
   have h:=FitV.const (k:=⟨#[]⟩) (n:=0) (sa:=sa) (a:=a) (sb:=sb) (b:=b) (hvt j _ hx)
   exact h
theorem aT5 (hg:aC1 g=true):∀i,i<=g.nodes.length->aAm bd (aAm bd g.nodes g.nodes.length) i=(aAm bd g.nodes g.nodes.length).take i
 |0,_=>rfl
 |i+1,h=>by
  have hi:i<g.nodes.length:=by omega
  have hFl:=aBs (bd:=bd) (l:=g.nodes) g.nodes.length (Nat.le_refl _)
  have hx:g.nodes[i]? =some g.nodes[i]:=List.getElem?_eq_getElem hi
  have hy:(aAm bd g.nodes g.nodes.length)[i]? =some ((aAm bd g.nodes g.nodes.length)[i]'(by omega)):=List.getElem?_eq_getElem (by omega)
  rw [aD7 hy,aT5 hg i (by omega),List.take_succ_eq_append_getElem (by omega),aGx]
  rcases Nat.eq_zero_or_pos (aEe ((aAm bd g.nodes g.nodes.length)[i]'(by omega)).op) with h0|h0
  · exact aV8 h0
  · obtain ⟨e1,e2⟩:=bM7 hg hy h0
    obtain ⟨p,hp1,hp2,hp3⟩:=cAw hg e2 h0
    rw [<- e1,aN9,aN9,hp1,bAk hp2]
    rcases Nat.lt_or_ge (aEe ((aAm bd g.nodes g.nodes.length)[i]'(by omega)).op) 2 with h2|h2
    · rw [decide_eq_true h2];rfl
    · obtain ⟨q,hq1,hq2,hq3⟩:=cAx hg e2 h2
      rw [hq1,bAk hq2]
theorem bWp (hg:aC1 g=true) (hvt:∀j x,g.nodes[j]? =some x->VT x.shape (aAk bd g.nodes j)):aC1 (bDr bd g)=true:=by
 have hFl:=aBs (bd:=bd) (l:=g.nodes) g.nodes.length (Nat.le_refl _)
 obtain ⟨h1,h2,q,hq,hql⟩:=aMd hg
 have hs:aBv g.nodes g.loss=[]:=by
  have hg':=hg
  simp only [aC1,bBc,Bool.and_eq_true,decide_eq_true_eq] at hg'
  exact hg'.1.2
 have hpre:bBc (bDr bd g)=true:=by
  simp only [bBc,Bool.and_eq_true]
  refine ⟨⟨⟨decide_eq_true ?_,decide_eq_true ?_⟩,?_⟩,decide_eq_true ?_⟩
  · show 1<=(aAm bd g.nodes g.nodes.length).length
    omega
  · show (aAm bd g.nodes g.nodes.length).length<=200
    omega
  · show inR g.loss (aAm bd g.nodes g.nodes.length)=true
    simp [inR,hq,hFl,hql]
  show aBv (aAm bd g.nodes g.nodes.length) g.loss=[]
  rw [hq,aGa hql,<-hq];exact hs
 rw [aC1,hpre,Bool.true_and]
 show aHd (aAm bd g.nodes g.nodes.length) (aAm bd g.nodes g.nodes.length).length=true
 refine List.all_eq_true.2 λj hj=>?_
 have hj:=List.mem_range.1 hj
 rw [hFl] at hj
 have hx:g.nodes[j]? =some g.nodes[j]:=List.getElem?_eq_getElem hj
 have hF:=aCo (bd:=bd) hx hj (Nat.le_refl _)
 have hnd:=bOa hg hx
 simp only [bAf,Bool.and_eq_true,decide_eq_true_eq] at hnd
 rw [bD1,hF]
 show bAf (List.take j (aAm bd g.nodes g.nodes.length)) (aFu (aAm bd g.nodes j) g.nodes[j] (aAk bd g.nodes j))=true
 simp only [bAf,Bool.and_eq_true,decide_eq_true_eq]
 refine ⟨?_,?_⟩
 · cases hgo:aN9 (aAm bd g.nodes j) g.nodes[j]
   · rw [aGx hgo]
     refine bIm (by rw [List.length_take,List.length_take,hFl]) (λr hr=>?_) hnd.1
     rw [List.length_take] at hr
     rw [aMm (by omega),aMm (by omega),aGa (by omega)]
   · rw [aHo hgo]
     exact bDu (hvt j _ hx)
 · refine List.all_eq_true.2 λz hz=>?_
   obtain ⟨k,hk,rfl⟩:=List.getElem_of_mem hz
   rw [List.length_take] at hk
   have hkj:k<j:=by omega
   have hk2:k<g.nodes.length:=by omega
   have hxk:g.nodes[k]? =some g.nodes[k]:=List.getElem?_eq_getElem hk2
   have hz1:(aAm bd g.nodes g.nodes.length)[k]'(by omega)=aFu (aAm bd g.nodes k) g.nodes[k] (aAk bd g.nodes k):=by
    have:=aCo (bd:=bd) hxk hk2 (Nat.le_refl _)
    exact (List.getElem?_eq_some_iff.1 this).2
   have h0:=List.all_eq_true.1 hnd.2 g.nodes[k] (List.mem_of_getElem? (i:=k) (by rw [List.getElem?_take_of_lt hkj];exact hxk))
   rw [List.getElem_take,hz1,aC9,aL1 hg hx,aL1 hg hxk]
   exact h0
theorem bIh (hg:aC1 g=true):aCj bd (aAm bd g.nodes g.nodes.length) g.nodes.length=aCj bd g.nodes g.nodes.length:=by
 unfold aCj
 refine List.map_congr_left λj hj=>?_
 have hj:=List.mem_range.1 hj
 rw [tcE,tcE,aGa hj,aOk hg j hj]
theorem bDs (hg:aC1 g=true) (bs:List Bd):aCt bs (aAm bd g.nodes g.nodes.length)=aCt bs g.nodes:=by
 have hFl:=aBs (bd:=bd) (l:=g.nodes) g.nodes.length (Nat.le_refl _)
 have key:∀j (h:j<g.nodes.length),(decide (((aAm bd g.nodes g.nodes.length)[j]'(by omega)).name=⟨#[]⟩) || aDx bs ((aAm bd g.nodes g.nodes.length)[j]'(by omega)))=(decide (g.nodes[j].name=⟨#[]⟩) || aDx bs g.nodes[j]):=λj h=>by
  have hx:g.nodes[j]? =some g.nodes[j]:=List.getElem?_eq_getElem h
  have hz:=(List.getElem?_eq_some_iff.1 (aCo (bd:=bd) hx h (Nat.le_refl _))).2
  rw [hz,aL1 hg hx,aDx,aDx,aL1 hg hx,aK8]
 rw [Bool.eq_iff_iff,aCt,aCt,List.all_eq_true,List.all_eq_true]
 constructor
 · intro h x hx
   obtain ⟨j,hj,rfl⟩:=List.getElem_of_mem hx
   rw [<- key j hj];exact h _ (List.getElem_mem _)
 · intro h x hx
   obtain ⟨j,hj,rfl⟩:=List.getElem_of_mem hx
   rw [key j (by omega)];exact h _ (List.getElem_mem _)
end
end Go.V
namespace Go.V
open Go.N Go.Proofs
set_option maxRecDepth 20000
def bCa:Tab:=[(31,i31),(41,i41),(52,i52),(3,i3),(42,i42),(53,i53),(4,i4),(34,i34),(29,i29),(25,i25),(54,i54),(27,i27)]
theorem aUy:TOK Tryz.prog bCa:=⟨K31,⟨K41,⟨K52,⟨K3,⟨K42,⟨K53,⟨K4,⟨K34,⟨K29,⟨K25,⟨K54,⟨K27,trivial⟩⟩⟩⟩⟩⟩⟩⟩⟩⟩⟩⟩
open Classical in
theorem bFn {l:List Nd}{p:Int}{bs:List Bd}(hl:l.length<=40) (hs:∀x∈l,x.Sm) (hbl:bs.length<=12) (hbs:∀b∈bs,b.Sm) (hC:aP4 l bs<=400):
 aAc Tryz.prog GL 14 [.agg [.ro 8 (aAv l),.int .i64 p]] (λy=>y= .tup [.agg [.ro 8 [],.int .i64 0],.int .i64 1])\/
 ∃(F:List Nd) (R:List (List AV)) (e:Int),aAc Tryz.prog GL 14 [.agg [.ro 8 (aAv l),.int .i64 p]] (λy=>y= .tup [.agg [.ro 8 (aAv F),.int .i64 p],.int .i64 0])/\
  aAc Tryz.prog GL 14 [.agg [.ro 8 (aAv F),.int .i64 p]] (λy=>y= .tup [.agg [.ro 8 (aAv F),.int .i64 p],.int .i64 0])/\
  aAc Tryz.prog GL 25 [.agg [.ro 8 (aAv l),.int .i64 p],.ro 3 (aA5 bs)] (λy=>y= .tup [.ro 2 R,.int .i64 e])/\
  aAc Tryz.prog GL 25 [.agg [.ro 8 (aAv F),.int .i64 p],.ro 3 (aA5 bs)] (λy=>y= .tup [.ro 2 R,.int .i64 e])/\
  aAc Tryz.prog GL 26 [.agg [.ro 8 (aAv F),.int .i64 p],.agg [.ro 8 (aAv F),.int .i64 p]] (λy=>y= .bool true)/\
  R.length<=1000/\∀j,j<R.length->∃s v,VT s v/\R[j]? =some [.ro 1 (aAh s),.ro 1 (aAj v)]:=by
 have hGi:=λh=>aFz (g:=⟨l,p⟩) h hs bs hbs hC
 dsimp only at hGi
 have hf:=bDd (bdB bs) ⟨l,p⟩ hs (by dsimp only;omega) (λh=>aFm (hGi h))
 have he:=aZd bs ⟨l,p⟩ hs (by dsimp only;omega) (by omega) hbs (λh=>aFm (hGi h))
 cases hg:aC1 ⟨l,p⟩
 · rw [hg,if_neg (by simp)] at hf
   exact .inl hf
 right
 have G:=hGi hg
 have hvt:∀j x,l[j]? =some x->VT x.shape (aAk (bdB bs) l j):=λj x hx=>(aL2 G hx).1
 rw [hg,if_pos rfl] at hf he
 have hFl:=aBs (bd:=bdB bs) (l:=l) l.length (Nat.le_refl _)
 have hFs:=bWq G hs
 have hFok:aC1 ⟨aAm (bdB bs) l l.length,p⟩=true:=bWp (bd:=bdB bs) hg hvt
 have hFg:aG8 (bdB bs) (aAm (bdB bs) l l.length):=bIe (g:=⟨l,p⟩) hg (aFm G) hvt
 have hf2:=bDd (bdB bs) ⟨aAm (bdB bs) l l.length,p⟩ hFs (by dsimp only;omega) (λ_=>hFg)
 have he2:=aZd bs ⟨aAm (bdB bs) l l.length,p⟩ hFs (by dsimp only;omega) (by omega) hbs (λ_=>hFg)
 have hag:aAm (bdB bs) (aAm (bdB bs) l l.length) (aAm (bdB bs) l l.length).length=aAm (bdB bs) l l.length:=by
  rw [hFl,aT5 (g:=⟨l,p⟩) hg l.length (Nat.le_refl _)]
  exact List.take_of_length_le (by rw [hFl];exact Nat.le_refl _)
 have heq:=bDm GL ⟨aAm (bdB bs) l l.length,p⟩ ⟨aAm (bdB bs) l l.length,p⟩ hFs hFs (by dsimp only;omega)
 rw [decide_eq_true rfl] at heq
 rw [hFok,if_pos rfl] at hf2 he2
 have hrt:=bIh (bd:=bdB bs) (g:=⟨l,p⟩) hg
 have hal:=bDs (bd:=bdB bs) (g:=⟨l,p⟩) hg bs
 dsimp only at hrt hal
 have e2:bDr (bdB bs) ⟨aAm (bdB bs) l l.length,p⟩=⟨aAm (bdB bs) l l.length,p⟩:=by
  show (⟨aAm (bdB bs) (aAm (bdB bs) l l.length) (aAm (bdB bs) l l.length).length,p⟩:Gr)=_
  rw [hag]
 rw [e2] at hf2
 dsimp only at he he2
 rw [hal,hFl,hrt] at he2
 cases hA:aCt bs l
 · rw [hA,if_neg (by simp)] at he he2
   exact ⟨_,[],10,hf,hf2,he,he2,heq,Nat.zero_le _,λj h=>absurd h (Nat.not_lt_zero _)⟩
 · rw [hA,if_pos rfl] at he he2
   refine ⟨_,_,0,hf,hf2,he,he2,heq,by rw [aC0];omega,λj h=>?_⟩
   rw [aC0] at h
   have hx:l[j]? =some l[j]:=List.getElem?_eq_getElem h
   exact ⟨_,_,hvt j _ hx,by rw [aD1 h,tcE,aAp h]⟩
set_option maxHeartbeats 8000000 in
open Classical in
theorem bC0 (g:Gr) (bs:List Bd) (hbb:bs.length*64<=140737488351232):aAc Tryz.prog GL 5 [.agg g.cells,.ro 3 (aA5 bs)] (λr=>r= .bool true):=by
 have haw:=bLz
 obtain ⟨l,p⟩:=g
 show aAc _ _ _ [.agg [.ro 8 (aAv l),.int .i64 p],.ro 3 (aA5 bs)] _
 have hsm:=aK5 GL ⟨l,p⟩
 have hsb:=aK6 bs
 have hlr:=rowN_length l
 have hbr:=aBk bs
 replace hsm:aAc Tryz.prog GL 11 [.agg [.ro 8 (aAv l),.int .i64 p]] (λy=>y= .bool (aFh ⟨l,p⟩)):=hsm
 refine aAa aUy HM Tryz.func5 rfl (by decide +kernel) (by decide +kernel) rfl ?_
 repeat' first|refine sY ⟨?_⟩|(refine sq ?_ ?_<;>refine λh=>⟨?_⟩<;>(first|contradiction|(exfalso;omega)|skip))|fail
 refine ⟨[1,2,5,17,18,19],[0],λm st=>∃i:Nat,i<=bs.length/\m=bs.length - i/\
  ((i=0/\st=⟨[(1,.ro 3 (aA5 bs)),(2,.bptr 0 0),(5,.nils),(17,.ro 3 (aA5 bs)),(18,.int .i64 ((aA5 bs).length:Nat)),(19,.int .i64 (i:Nat))],[.box 31 [.ro 8 (aAv l),.int .i64 p]]⟩)\/
  (0<i/\st=⟨[(1,.ro 3 (aA5 bs)),(2,.bptr 0 0),(5,.own 1 0 (aA5 (bs.take i)).length),(17,.ro 3 (aA5 bs)),(18,.int .i64 ((aA5 bs).length:Nat)),(19,.int .i64 (i:Nat))],[.box 31 [.ro 8 (aAv l),.int .i64 p],.row false 53 3 (aA5 (bs.take i))]⟩)),rfl,⟨bs.length,0,by omega,rfl,.inl ⟨rfl,rfl⟩⟩,?_⟩
 rintro m _ ⟨i,hi,hm,hst⟩
 have htl:(aA5 (bs.take i)).length=i:=by rw [aBk,List.length_take];omega
 rcases Nat.lt_or_ge i bs.length with hil|hge
 · have g:=aDs hil
   have hsn:=aKj hil
   have hone:i=0->aA5 (bs.take (i+1))=[bs[i].cells]:=λh=>by subst h;rw [aKj hil];simp [aA5]
   generalize bs[i]=b at g hsn hone
   obtain ⟨bn,bsh,bda⟩:=b
   rcases hst with ⟨rfl,rfl⟩|⟨h0,rfl⟩
   · have hone:=hone rfl
     repeat' first|refine sY ⟨?_⟩|(refine sq ?_ ?_<;>refine λh=>⟨?_⟩<;>(first|contradiction|(exfalso;omega)|skip))|fail
     conv=>whnf
     refine ⟨Nat.le_of_ble_eq_true rfl,λh=>Nat.succ_ne_zero _ (congrArg List.length h),?_⟩
     repeat' first|refine sY ⟨?_⟩|(refine sq ?_ ?_<;>refine λh=>⟨?_⟩<;>(first|contradiction|(exfalso;omega)|skip))|fail
     all_goals exact ⟨[0,3],bs.length - (0+1),rfl,by omega,0+1,by omega,rfl,.inr ⟨by omega,Eq.trans rfl (congrArg (λz:List (List AV)=>(⟨[(1,.ro 3 (aA5 bs)),(2,.bptr 0 0),(5,.own 1 0 z.length),(17,.ro 3 (aA5 bs)),(18,.int .i64 ((aA5 bs).length:Nat)),(19,.int .i64 ((0+1:Nat):Int))],[.box 31 [.ro 8 (aAv l),.int .i64 p],.row false 53 3 z]⟩:St)) hone.symm)⟩⟩
   · repeat' first|refine sY ⟨?_⟩|(refine sq ?_ ?_<;>refine λh=>⟨?_⟩<;>(first|contradiction|(exfalso;omega)|skip))|fail
     refine ⟨Nat.le_refl _,(show ((aA5 (bs.take i)).length+1)*64<=140737488355328 by omega),_,hsn,?_⟩
     repeat' first|refine sY ⟨?_⟩|(refine sq ?_ ?_<;>refine λh=>⟨?_⟩<;>(first|contradiction|(exfalso;omega)|skip))|fail
     all_goals exact ⟨[0,4],bs.length - (i+1),rfl,by omega,i+1,by omega,rfl,.inr ⟨by omega,rfl⟩⟩
 · have e:bs.take i=bs:=List.take_of_length_le (by omega)
   rcases hst with ⟨h0,rfl⟩|⟨h0,rfl⟩
   · have hb0:aA5 bs=[]:=List.length_eq_zero_iff.1 (by omega)
     rw [hb0] at hsb
     cases hS:aFh ⟨l,p⟩
     · rw [hS] at hsm
       repeat' first|refine sY ⟨?_⟩|(refine sq ?_ ?_<;>refine λh=>⟨?_⟩<;>(first|contradiction|(exfalso;omega)|skip))|fail
       all_goals (conv=>whnf)
       all_goals rfl
     rw [hS] at hsm
     simp only [aFh,Bool.and_eq_true,decide_eq_true_eq,List.all_eq_true] at hS
     obtain ⟨hl,hs⟩:=hS
     have hs:=λx hx=>aMn (hs x hx)
     cases hB:aGk bs
     · rw [hB] at hsb
       repeat' first|refine sY ⟨?_⟩|(refine sq ?_ ?_<;>refine λh=>⟨?_⟩<;>(first|contradiction|(exfalso;omega)|skip))|fail
       all_goals (conv=>whnf)
       all_goals rfl
     rw [hB] at hsb
     obtain ⟨hbl,hbs⟩:=aKl hB
     have hcm:=bEv l p bs (by omega) hs (by omega) hbs
     have hK:=@bFn l p bs (by omega) hs (by omega) hbs
     rw [hb0] at hcm
     by_cases hC:aP4 l bs<=400
     case neg=>
      rw [decide_eq_false hC] at hcm
      repeat' first|refine sY ⟨?_⟩|(refine sq ?_ ?_<;>refine λh=>⟨?_⟩<;>(first|contradiction|(exfalso;omega)|skip))|fail
      all_goals (conv=>whnf)
      all_goals rfl
     rw [decide_eq_true hC] at hcm
     rcases hK hC with hf|⟨F,R,e,hf,hf2,he,he2,heq,hRl,hgt⟩
     · repeat' first|refine sY ⟨?_⟩|(refine sq ?_ ?_<;>refine λh=>⟨?_⟩<;>(first|contradiction|(exfalso;omega)|skip))|fail
       all_goals (conv=>whnf)
       all_goals rfl
     have hFr:=rowN_length F
     repeat' first|refine sY ⟨?_⟩|(refine sq ?_ ?_<;>refine λh=>⟨?_⟩<;>(first|contradiction|(exfalso;omega)|skip))|fail
     refine ⟨[12,14,95,96],[],λm st=>∃i:Nat,i<=R.length/\m=R.length - i/\
      st=⟨[(12,.ro 2 R),(14,.ro 2 R),(95,.int .i64 (R.length:Nat)),(96,.int .i64 (i:Nat))],[]⟩,rfl,⟨R.length,0,by omega,rfl,rfl⟩,?_⟩
     rintro m _ ⟨i,hi,hm,rfl⟩
     rcases Nat.lt_or_ge i R.length with hil|hge
     · obtain ⟨sh,v,hv,gi⟩:=hgt i hil
       have hE:=aK3 sh sh (v.map aAw) (v.map aAw) (by have:=hv.sl;omega) (by have:=hv.sl;omega) (by rw [List.length_map];have:=hv.vl;omega)
       rw [decide_eq_true rfl,decide_eq_true rfl,Bool.and_true] at hE
       unfold aEv at hE
       unfold aAj at gi
       repeat' first|refine sY ⟨?_⟩|(refine sq ?_ ?_<;>refine λh=>⟨?_⟩<;>(first|contradiction|(exfalso;omega)|skip))|fail
       refine ⟨by decide +kernel,[0,0,3,7,0,0,48,112,255,511],by decide +kernel,?_⟩
       repeat' first|refine sY ⟨?_⟩|(refine sq ?_ ?_<;>refine λh=>⟨?_⟩<;>(first|contradiction|(exfalso;omega)|skip))|fail
       all_goals exact ⟨[],R.length - (i+1),rfl,by omega,i+1,by omega,rfl,rfl⟩
     · repeat' first|refine sY ⟨?_⟩|(refine sq ?_ ?_<;>refine λh=>⟨?_⟩<;>(first|contradiction|(exfalso;omega)|skip))|fail
       all_goals (conv=>whnf)
       all_goals rfl
   · rw [e]
     rw [aW2 (aA5 bs) rfl] at hsb
     cases hS:aFh ⟨l,p⟩
     · rw [hS] at hsm
       repeat' first|refine sY ⟨?_⟩|(refine sq ?_ ?_<;>refine λh=>⟨?_⟩<;>(first|contradiction|(exfalso;omega)|skip))|fail
       all_goals (conv=>whnf)
       all_goals rfl
     rw [hS] at hsm
     simp only [aFh,Bool.and_eq_true,decide_eq_true_eq,List.all_eq_true] at hS
     obtain ⟨hl,hs⟩:=hS
     have hs:=λx hx=>aMn (hs x hx)
     cases hB:aGk bs
     · rw [hB] at hsb
       repeat' first|refine sY ⟨?_⟩|(refine sq ?_ ?_<;>refine λh=>⟨?_⟩<;>(first|contradiction|(exfalso;omega)|skip))|fail
       all_goals (conv=>whnf)
       all_goals rfl
     rw [hB] at hsb
     obtain ⟨hbl,hbs⟩:=aKl hB
     have hcm:=bEv l p bs (by omega) hs (by omega) hbs
     have hK:=@bFn l p bs (by omega) hs (by omega) hbs
     rw [aW2 (aA5 bs) rfl] at hcm
     by_cases hC:aP4 l bs<=400
     case neg=>
      rw [decide_eq_false hC] at hcm
      repeat' first|refine sY ⟨?_⟩|(refine sq ?_ ?_<;>refine λh=>⟨?_⟩<;>(first|contradiction|(exfalso;omega)|skip))|fail
      all_goals (conv=>whnf)
      all_goals rfl
     rw [decide_eq_true hC] at hcm
     rcases hK hC with hf|⟨F,R,e,hf,hf2,he,he2,heq,hRl,hgt⟩
     · repeat' first|refine sY ⟨?_⟩|(refine sq ?_ ?_<;>refine λh=>⟨?_⟩<;>(first|contradiction|(exfalso;omega)|skip))|fail
       all_goals (conv=>whnf)
       all_goals rfl
     have hFr:=rowN_length F
     repeat' first|refine sY ⟨?_⟩|(refine sq ?_ ?_<;>refine λh=>⟨?_⟩<;>(first|contradiction|(exfalso;omega)|skip))|fail
     refine ⟨[12,14,95,96],[],λm st=>∃i:Nat,i<=R.length/\m=R.length - i/\
      st=⟨[(12,.ro 2 R),(14,.ro 2 R),(95,.int .i64 (R.length:Nat)),(96,.int .i64 (i:Nat))],[]⟩,rfl,⟨R.length,0,by omega,rfl,rfl⟩,?_⟩
     rintro m _ ⟨i,hi,hm,rfl⟩
     rcases Nat.lt_or_ge i R.length with hil|hge
     · obtain ⟨sh,v,hv,gi⟩:=hgt i hil
       have hE:=aK3 sh sh (v.map aAw) (v.map aAw) (by have:=hv.sl;omega) (by have:=hv.sl;omega) (by rw [List.length_map];have:=hv.vl;omega)
       rw [decide_eq_true rfl,decide_eq_true rfl,Bool.and_true] at hE
       unfold aEv at hE
       unfold aAj at gi
       repeat' first|refine sY ⟨?_⟩|(refine sq ?_ ?_<;>refine λh=>⟨?_⟩<;>(first|contradiction|(exfalso;omega)|skip))|fail
       refine ⟨by decide +kernel,[0,0,3,7,0,0,48,112,255,511],by decide +kernel,?_⟩
       repeat' first|refine sY ⟨?_⟩|(refine sq ?_ ?_<;>refine λh=>⟨?_⟩<;>(first|contradiction|(exfalso;omega)|skip))|fail
       all_goals exact ⟨[],R.length - (i+1),rfl,by omega,i+1,by omega,rfl,rfl⟩
     · repeat' first|refine sY ⟨?_⟩|(refine sq ?_ ?_<;>refine λh=>⟨?_⟩<;>(first|contradiction|(exfalso;omega)|skip))|fail
       all_goals (conv=>whnf)
       all_goals rfl
end Go.V
