/-
  Lemmas (part 13) for: the statement.
-/
import Derived.Test.YtphnnbfgiomaoaaGreatDoorFive7
import Derived.Test.YtphnnbfgiomaoaaGreatDoorFive10
import Derived.Test.YtphnnbfgiomaoaaGreatDoorFive11
import Derived.Test.YtphnnbfgiomaoaaGreatDoorFive12
set_option linter.all false
namespace Go.V
open Go.N Go.Proofs
set_option maxRecDepth 20000
def bZb:List Opc:=[.param,.input,.const,.relu,.abs,.step,.sign,.scale,.power,.transpose,.sum,.reshape,.spread,.add,.sub,.mul,.max,.above,.matmul]
def bSy (s:ByteArray):Opc:=(bZb.find? λo=>decide (s=o.str)).getD .param
theorem aFg (o:Opc):bSy o.str=o:=by cases o<;>rfl
theorem aRt {o o':Opc}(h:o.str=o'.str):o=o':=by
 have:=congrArg bSy h
 rwa [aFg,aFg] at this
theorem aNp {l:List Nd}{i:Nat}:∀{j:Nat},i<=j->j<=l.length->aBo l i=(aBo l j).take i
 |0,h,_=>by obtain rfl:i=0:=by omega
            rfl
 |j+1,h,hj=>by
  rcases Nat.lt_or_ge j i with h1|h1
  · obtain rfl:i=j+1:=by omega
    rw [List.take_of_length_le (by rw [aH1 _ hj];exact Nat.le_refl _)]
  · rw [aH2 (by omega),List.take_append_of_le_length (by rw [aH1 _ (by omega)];exact h1)]
    exact aNp h1 (by omega)
def wAt (l:List Nd) (j:Nat):Int:=(aBo l l.length)[j]?.getD 1
theorem bA5 (l:List Nd) (j:Nat):1<=wAt l j/\wAt l j<=100000:=by
 unfold wAt
 cases h:(aBo l l.length)[j]? with
 |none=>exact ⟨by decide,by decide⟩
 |some w=>exact aO1 l.length (Nat.le_refl _) w (List.mem_of_getElem? h)
theorem bX3 (l:List Nd) (j:Nat):wAt l j<=aUg (aBo l l.length):=by
 have h1:∀(w:List Int) (b:Int),b<=w.foldl (λm x=>if m<x then x else m) b/\∀x∈w,x<=w.foldl (λm x=>if m<x then x else m) b:=λw=>by
  induction w with
  |nil=>intro b;exact ⟨Int.le_refl _,λx hx=>by simp at hx⟩
  |cons y w ih=>
   intro b
   rw [List.foldl_cons]
   have h2:=ih (if b<y then y else b)
   have h3:b<=(if b<y then y else b)/\y<=(if b<y then y else b):=by split<;>omega
   refine ⟨by omega,λx hx=>?_⟩
   rcases List.mem_cons.1 hx with rfl|hx
   · omega
   · exact h2.2 x hx
 unfold wAt
 cases h:(aBo l l.length)[j]? with
 |none=>exact (h1 _ 1).1
 |some w=>exact (h1 _ 1).2 w (List.mem_of_getElem? h)
theorem cBb {l:List Nd}{j:Nat}{x:Nd}(hx:l[j]? =some x):wAt l j=aFq (bBf x.op (aDi (aBo l j) x.a) (aDi (aBo l j) x.b) (aSf l j x) x.n) 100000:=by
 obtain ⟨h,rfl⟩:=List.getElem?_eq_some_iff.1 hx
 have h1:=aNp (l:=l) (i:=j+1) (j:=l.length) (by omega) (Nat.le_refl _)
 have h2:(aBo l (j+1))[j]? =some (bJj l (aBo l j) j l[j]):=by
  have:=aH1 (l:=l) j (by omega)
  rw [aH2 h,List.getElem?_append_right (by omega),this,Nat.sub_self];rfl
 rw [h1,List.getElem?_take_of_lt (by omega)] at h2
 rw [wAt,h2];rfl
theorem bAl {l:List Nd}{p j:Nat}(hp:p<j) (hj:j<=l.length):aDi (aBo l j) (p:Nat)=wAt l p:=by
 have hl:=aH1 (l:=l) j hj
 rw [aDi,if_pos ⟨by omega,by rw [Int.toNat_natCast,hl];exact hp⟩,Int.toNat_natCast,wAt,aNp hj (Nat.le_refl _),List.getElem?_take_of_lt hp]
theorem aVl {n m:Int}(h1:1<=n) (h2:n<=m):aFq n m=n:=by rw [aFq,if_neg (by omega),if_neg (by omega)]
theorem bSj {s:List Int}(h:aAl s=true):aFf s=aA8 s:=by
 have hd:=aCs h
 have h4:=aBg h
 have:∀i,i<=s.length->aFf (s.take i)=aA8 (s.take i):=λi=>by
  induction i with
  |zero=>intro _;rfl
  |succ i ih=>
   intro hi
   have h1:=aD8 h (i+1)
   have h2:=hd s[i] (List.getElem_mem (by omega))
   rw [aHu (by omega)] at h1 ⊢
   rw [aUf (by omega) (by omega),ih (by omega),aVl h2.1 h2.2,aVl h1.1 h1.2]
 have:=this s.length (Nat.le_refl _)
 rwa [List.take_length] at this
noncomputable def bAx (bd:Nd->List Rat) (l:List Nd) (vs:List (List Rat)) (x:Nd):List Rat:=
 if aA7 x.op=true then bd x else bPd (bSy x.op) x.shape x.k x.n x.data (aBv l x.a) (vs[x.a.toNat]?.getD []) (aBv l x.b) (vs[x.b.toNat]?.getD [])
noncomputable def aKx (bd:Nd->List Rat) (l:List Nd):Nat->List (List Rat)
 |0=>[]
 |i+1=>match l[i]? with
  |none=>aKx bd l i
  |some x=>aKx bd l i++[bAx bd l (aKx bd l i) x]
theorem aJt {bd:Nd->List Rat}{l:List Nd}{i:Nat}{x:Nd}(h:l[i]? =some x):aKx bd l (i+1)=aKx bd l i++[bAx bd l (aKx bd l i) x]:=by simp only [aKx,h]
theorem aOz {bd:Nd->List Rat}{l:List Nd}:∀i,i<=l.length->(aKx bd l i).length=i
 |0,_=>rfl
 |i+1,h=>by rw [aJt (List.getElem?_eq_getElem (by omega)),List.length_append,aOz i (by omega)];rfl
theorem aMp {bd:Nd->List Rat}{l:List Nd}{i:Nat}:∀{j:Nat},i<=j->j<=l.length->aKx bd l i=(aKx bd l j).take i
 |0,h,_=>by obtain rfl:i=0:=by omega
            rfl
 |j+1,h,hj=>by
  rcases Nat.lt_or_ge j i with h1|h1
  · obtain rfl:i=j+1:=by omega
    rw [List.take_of_length_le (by rw [aOz _ hj];exact Nat.le_refl _)]
  · rw [aJt (List.getElem?_eq_getElem (by omega)),List.take_append_of_le_length (by rw [aOz _ (by omega)];exact h1)]
    exact aMp h1 (by omega)
noncomputable def aAk (bd:Nd->List Rat) (l:List Nd) (j:Nat):List Rat:=(aKx bd l l.length)[j]?.getD []
theorem aFy {bd:Nd->List Rat}{l:List Nd}{j:Nat}{x:Nd}(hx:l[j]? =some x):aAk bd l j=bAx bd l (aKx bd l j) x:=by
 have h:=(List.getElem?_eq_some_iff.1 hx).1
 have h1:=aMp (bd:=bd) (l:=l) (i:=j+1) (j:=l.length) (by omega) (Nat.le_refl _)
 have h2:(aKx bd l (j+1))[j]? =some (bAx bd l (aKx bd l j) x):=by
  have:=aOz (bd:=bd) (l:=l) j (by omega)
  rw [aJt hx,List.getElem?_append_right (by omega),this,Nat.sub_self];rfl
 rw [h1,List.getElem?_take_of_lt (by omega)] at h2
 rw [aAk,h2];rfl
theorem aHh {bd:Nd->List Rat}{l:List Nd}{p j:Nat}(hp:p<j) (hj:j<=l.length):(aKx bd l j)[(p:Int).toNat]?.getD []=aAk bd l p:=by
 rw [Int.toNat_natCast,aAk,aMp hj (Nat.le_refl _),List.getElem?_take_of_lt hp]
theorem aMm {l:List Nd}{p j:Nat}(hp:p<j):aBv (l.take j) (p:Nat)=aBv l (p:Nat):=by
 rw [aBv,aBv,Int.toNat_natCast,List.getElem?_take_of_lt hp]
theorem FitV.any {o:Opc}{s:List Int}{k:ByteArray}{n:Int}{d:List ByteArray}{sa sa':List Int}{a a':List Rat}{sb sb':List Int}{b b' r:List Rat}(h:FitV o s k n d sa a sb b r)
 (ha:0<o.many->sa'=sa/\a'=a) (hb:1<o.many->sb'=sb/\b'=b):FitV o s k n d sa' a' sb' b' r:=by
 cases h<;>(first|(have e:=ha (by decide);obtain ⟨rfl,rfl⟩:=e)|skip)<;>(first|(have e:=hb (by decide);obtain ⟨rfl,rfl⟩:=e)|skip)<;>constructor<;>assumption
def aG8 (bd:Nd->List Rat) (l:List Nd):Prop:=∀(j:Nat) (x:Nd) (o:Opc),l[j]? =some x->x.op=o.str->aA7 x.op=false->∀(sa:List Int) (a:List Rat) (sb:List Int) (b:List Rat),
 (0<o.many->sa=aBv l x.a/\a=aAk bd l x.a.toNat)->(1<o.many->sb=aBv l x.b/\b=aAk bd l x.b.toNat)->FitV o x.shape x.k x.n x.data sa a sb b (aAk bd l j)
structure Hi (bd:Nd->List Rat) (l:List Nd) (c:Nat) (j:Nat) (x:Nd):Prop where
 ok:aAl x.shape=true
 len:(((aAk bd l j).length:Nat):Int)=aA8 x.shape
 mm:∀y∈aAk bd l j,MM y<=10 ^ (c*(wAt l j).toNat)
structure Given (bd:Nd->List Rat) (l:List Nd) (c:Nat):Prop where
 two:2<=c
 right:∀i x,l[i]? =some x->aCu (l.take i) x=some x.shape
 data:∀x∈l,∀d∈x.data,aBa d=true->MM (aN1 d)<=10 ^ c
 k:∀x∈l,aBa x.k=true->MM (aN1 x.k)<=10 ^ c
 ks:∀x∈l,x.k.size<=1000
 bdl:∀x∈l,aA7 x.op=true->(((bd x).length:Nat):Int)=aA8 x.shape
 bdm:∀x∈l,aA7 x.op=true->∀y∈bd x,MM y<=10 ^ c
 w:∀j,j<l.length->(c:Int)*wAt l j<=400
theorem aOm {l:List Nd}{x:Nd}{o:Opc}(ho:x.op=o.str) (h:aCu l x=some x.shape):Fit l x o.many/\okZ (ofZ x (if o.many=0 then [] else aBv l x.a) (if o.many<2 then [] else aBv l x.b))=some x.shape:=by
 have hp:aBh x.op=some o.many:=by rw [ho,aFw]
 cases hf:aN8 l x o.many with
 |false=>rw [aEd hp hf] at h;cases h
 |true=>rw [aEo hp hf] at h;exact ⟨(aI7 _ _ _).1 hf,h⟩
theorem cBz {c:Nat}{w v:Int}(h:w<=v) (hv:(c:Int)*v<=400):(c:Int)*w<=400:=Int.le_trans (Int.mul_le_mul_of_nonneg_left h (by omega)) hv
theorem cB2 {o:Opc}{n:Int}{sa:List Int}{m c wa wb:Nat}{A B:Int}{name:ByteArray}{s:List Int}{k:ByteArray}{d:List ByteArray}{sb:List Int}
 (hz:okZ (ofZ ⟨o.str,A,B,name,s,k,n,d⟩ sa sb)=some s) (hok:0<o.many->aAl sa=true) (hm:0<o.many->(m:Int)=aA8 sa) (h1:1<=wa) (h2:1<=c):
 cBh o n sa m (c*wa) (c*wb) c c<=c*(bA6 o (wa:Nat) (wb:Nat) sa n).toNat:=by
 have hx:∀{p q:Nat},p=q->c*p<=c*q:=λh=>Nat.mul_le_mul_left c (Nat.le_of_eq h)
 cases o
 case sum=>
  show m*(c*wa)<=c*(aFf sa*(wa:Nat)).toNat
  rw [bSj (hok (by decide)),<-hm (by decide),Nat.mul_left_comm]
  exact hx (by rw [<- Int.natCast_mul,Int.toNat_natCast])
 case matmul=>
  obtain ⟨hz,_⟩:=aKg hz
  have h2:sa.length=2:=by
   by_cases h:sa.length=2/\sb.length=2/\sa[1]? =sb[0]?
   · exact h.1
   · rw [show ofZ ⟨Opc.str .matmul,A,B,name,s,k,n,d⟩ sa sb=_ from aKd h] at hz
     cases hz
  obtain ⟨p,q,rfl⟩:=aKw h2
  have hq:=aCs (hok (by decide)) q (by simp)
  obtain ⟨q,rfl⟩:∃m:Nat,q=m:=⟨q.toNat,by omega⟩
  show (q:Int).toNat*(c*wa+c*wb)<=c*(aFq (q:Nat) 64*((wa:Nat)+(wb:Nat):Int)).toNat
  rw [aVl hq.1 hq.2,<-Nat.mul_add,Int.toNat_natCast,Nat.mul_left_comm]
  exact hx (by rw [<- Int.natCast_add,<-Int.natCast_mul,Int.toNat_natCast])
 case power=>
  obtain ⟨hz,_⟩:=aKg hz
  rw [show ofZ ⟨Opc.str .power,A,B,name,s,k,n,d⟩ sa sb=(sa,decide (0<=n) && decide (n<=6)) from rfl] at hz
  have hn:=congrArg Prod.snd hz
  simp only [Bool.and_eq_true,decide_eq_true_eq] at hn
  obtain ⟨n,rfl⟩:∃m:Nat,n=m:=⟨n.toNat,by omega⟩
  have e:aFq (n:Nat) 6=((max 1 n:Nat):Int):=by
   unfold aFq
   split
   · omega
   · rw [if_neg (by omega)];omega
  show c*wa*max 1 ((n:Int).toNat)<=c*((wa:Nat)*aFq (n:Nat) 6:Int).toNat
  rw [e,Nat.mul_assoc,Int.toNat_natCast]
  exact hx (by rw [<- Int.natCast_mul,Int.toNat_natCast])
 all_goals dsimp only [cBh,bA6]
 all_goals first
  |(rw [<- Nat.mul_add];exact hx (by omega))
  |exact hx (by omega)
  |(rw [show c*wa+c=c*(wa+1) from rfl];exact hx (by omega))
  |(show 1<=c*1;omega)
  |(exact Nat.le_of_eq (Nat.mul_one c).symm)
theorem aDq {l:List Nd}{j:Nat}{p:Int}(h:inR p (l.take j)=true):∃q:Nat,p=q/\q<j/\q<l.length:=by
 obtain ⟨q,hq,hl⟩:=aBc h
 rw [List.length_take] at hl
 exact ⟨q,hq,by omega,by omega⟩
theorem bO8 {o:Opc}{xa xa' xb xb':Int}{s s':List Int}{n:Int}(ha:0<o.many->xa=xa'/\s=s') (hb:1<o.many->xb=xb'):bA6 o xa xb s n=bA6 o xa' xb' s' n:=by
 cases o<;>(first|(have e:=ha (by decide);obtain ⟨rfl,rfl⟩:=e)|skip)<;>(first|(have e:=hb (by decide);obtain rfl:=e)|skip)<;>rfl
theorem aXn {o:Opc}{s:List Int}{k:ByteArray}{n:Int}{d:List ByteArray}{sa sa':List Int}{a a':List Rat}{sb sb':List Int}{b b':List Rat}
 (ha:0<o.many->sa=sa'/\a=a') (hb:1<o.many->sb=sb'/\b=b'):bPd o s k n d sa a sb b=bPd o s k n d sa' a' sb' b':=by
 cases o<;>(first|(have e:=ha (by decide);obtain ⟨rfl,rfl⟩:=e)|skip)<;>(first|(have e:=hb (by decide);obtain ⟨rfl,rfl⟩:=e)|skip)<;>rfl
theorem bVr {n:Int}(h:aFq n 100000<=400):n<=aFq n 100000:=by
 unfold aFq at h ⊢
 split at h
 · rw [if_pos (by assumption)];omega
 · split at h
   · omega
   · rw [if_neg (by assumption),if_neg (by assumption)];exact Int.le_refl _
theorem bNb {bd:Nd->List Rat}{l:List Nd}{c:Nat}(G:Given bd l c){j:Nat}{x:Nd}{o:Opc}(ho:x.op=o.str) (hx:l[j]? =some x) (ih:∀p y,p<j->l[p]? =some y->Hi bd l c p y):
 Hi bd l c j x/\(aA7 x.op=false->FitV o x.shape x.k x.n x.data (if o.many=0 then [] else aBv l x.a) (if o.many=0 then [] else aAk bd l x.a.toNat) (if o.many<2 then [] else aBv l x.b) (if o.many<2 then [] else aAk bd l x.b.toNat) (aAk bd l j)):=by
 have hj:=(List.getElem?_eq_some_iff.1 hx).1
 have hmem:x∈l:=List.mem_of_getElem? hx
 have hin:=G.right j x hx
 obtain ⟨F,hz⟩:=aOm ho hin
 have hwj:=bA5 l j
 have hcw:=G.w j hj
 have h2:=G.two
 have e0:=aFy (bd:=bd) hx
 cases hnm:aA7 x.op with
 |true=>
  have hok:aAl x.shape=true:=(aKg hz).2
  have e1:aAk bd l j=bd x:=by rw [e0,bAx,hnm,if_pos rfl]
  refine ⟨⟨hok,by rw [e1];exact G.bdl x hmem hnm,λy hy=>?_⟩,λh=>absurd h (by simp)⟩
  rw [e1] at hy
  exact Nat.le_trans (G.bdm x hmem hnm y hy) (aG6 (Nat.le_mul_of_pos_right _ (by omega)))
 |false=>
  have hpa:0<o.many->∃q:Nat,x.a=q/\q<j/\q<l.length:=λh=>aDq (F.ia h)
  have hpb:1<o.many->∃q:Nat,x.b=q/\q<j/\q<l.length:=λh=>aDq (F.ib h)
  have ea:(if o.many=0 then [] else aBv (l.take j) x.a)=if o.many=0 then [] else aBv l x.a:=by
   rcases Nat.eq_zero_or_pos o.many with h|h
   · rw [if_pos h,if_pos h]
   · obtain ⟨q,hq,h3,_⟩:=hpa h
     rw [if_neg (by omega),if_neg (by omega),hq,aMm h3]
  have eb:(if o.many<2 then [] else aBv (l.take j) x.b)=if o.many<2 then [] else aBv l x.b:=by
   rcases Nat.lt_or_ge o.many 2 with h|h
   · rw [if_pos h,if_pos h]
   · obtain ⟨q,hq,h3,_⟩:=hpb h
     rw [if_neg (by omega),if_neg (by omega),hq,aMm h3]
  rw [ea,eb] at hz
  clear ea eb
  have hsw:0<o.many->aSf l j x=aBv l x.a:=λh=>by
   obtain ⟨q,hq,h3,_⟩:=hpa h
   rw [aSf,hq,if_pos ⟨by omega,by omega⟩]
  have hc1:c*1<=400:=by
   have:=cBz hwj.1 hcw
   omega
  obtain ⟨wa,hwa1,hwa2,hwa3,hwa4⟩:∃wa:Nat,1<=wa/\c*wa<=400/\(0<o.many->(wa:Int)=wAt l x.a.toNat)/\(0<o.many->aDi (aBo l j) x.a=(wa:Int)):=by
   by_cases hm:0<o.many
   · obtain ⟨q,hq,h3,h4⟩:=hpa hm
     have h:=bA5 l q
     have hw:=G.w q h4
     refine ⟨(wAt l q).toNat,by omega,?_,λ_=>?_,λ_=>?_⟩
     · have e:((wAt l q).toNat:Int)=wAt l q:=Int.toNat_of_nonneg (by omega)
       rw [<- e,<-Int.natCast_mul] at hw;omega
     · rw [hq,Int.toNat_natCast];exact Int.toNat_of_nonneg (by omega)
     · rw [hq,bAl h3 (by omega)];exact (Int.toNat_of_nonneg (by omega)).symm
   · exact ⟨1,Nat.le_refl _,hc1,λh=>absurd h hm,λh=>absurd h hm⟩
  obtain ⟨wb,hwb1,hwb2,hwb3,hwb4⟩:∃wb:Nat,1<=wb/\c*wb<=400/\(1<o.many->(wb:Int)=wAt l x.b.toNat)/\(1<o.many->aDi (aBo l j) x.b=(wb:Int)):=by
   by_cases hm:1<o.many
   · obtain ⟨q,hq,h3,h4⟩:=hpb hm
     have h:=bA5 l q
     have hw:=G.w q h4
     refine ⟨(wAt l q).toNat,by omega,?_,λ_=>?_,λ_=>?_⟩
     · have e:((wAt l q).toNat:Int)=wAt l q:=Int.toNat_of_nonneg (by omega)
       rw [<- e,<-Int.natCast_mul] at hw;omega
     · rw [hq,Int.toNat_natCast];exact Int.toNat_of_nonneg (by omega)
     · rw [hq,bAl h3 (by omega)];exact (Int.toNat_of_nonneg (by omega)).symm
   · exact ⟨1,Nat.le_refl _,hc1,λh=>absurd h hm,λh=>absurd h hm⟩
  have hw0:=cBb hx
  rw [ho,bTi,bO8 (xa':=(wa:Int)) (xb':=(wb:Int)) (s':=if o.many=0 then [] else aBv l x.a) (λh=>⟨hwa4 h,by rw [if_neg (by omega),hsw h]⟩) hwb4] at hw0
  have A1:0<o.many->VT (aBv l x.a) (aAk bd l x.a.toNat)/\∀y∈aAk bd l x.a.toNat,MM y<=10 ^ (c*wa):=λh=>by
   obtain ⟨q,hq,h3,h4⟩:=hpa h
   have H:=ih q l[q] h3 (List.getElem?_eq_getElem h4)
   have hww:=hwa3 h
   rw [hq] at hww ⊢
   rw [Int.toNat_natCast] at hww ⊢
   rw [aAp h4]
   have e:(wAt l q).toNat=wa:=by omega
   have hm:=H.mm
   rw [e] at hm
   exact ⟨⟨H.ok,H.len,λy hy=>aG9 (hm y hy) (by omega)⟩,hm⟩
  have B1:1<o.many->VT (aBv l x.b) (aAk bd l x.b.toNat)/\∀y∈aAk bd l x.b.toNat,MM y<=10 ^ (c*wb):=λh=>by
   obtain ⟨q,hq,h3,h4⟩:=hpb h
   have H:=ih q l[q] h3 (List.getElem?_eq_getElem h4)
   have hww:=hwb3 h
   rw [hq] at hww ⊢
   rw [Int.toNat_natCast] at hww ⊢
   rw [aAp h4]
   have e:(wAt l q).toNat=wb:=by omega
   have hm:=H.mm
   rw [e] at hm
   exact ⟨⟨H.ok,H.len,λy hy=>aG9 (hm y hy) (by omega)⟩,hm⟩
  have hval:aAk bd l j=bPd o x.shape x.k x.n x.data (if o.many=0 then [] else aBv l x.a) (if o.many=0 then [] else aAk bd l x.a.toNat) (if o.many<2 then [] else aBv l x.b) (if o.many<2 then [] else aAk bd l x.b.toNat):=by
   rw [e0,bAx,hnm,if_neg (by simp),ho,aFg]
   refine aXn (λh=>?_) (λh=>?_)
   · obtain ⟨q,hq,h3,h4⟩:=hpa h
     rw [if_neg (by omega),if_neg (by omega),hq,aHh h3 (by omega),Int.toNat_natCast]
     exact ⟨rfl,rfl⟩
   · obtain ⟨q,hq,h3,h4⟩:=hpb h
     rw [if_neg (by omega),if_neg (by omega),hq,aHh h3 (by omega),Int.toNat_natCast]
     exact ⟨rfl,rfl⟩
  clear e0 hpa hpb hsw ih
  have A2:0<o.many->VT (if o.many=0 then [] else aBv l x.a) (if o.many=0 then [] else aAk bd l x.a.toNat):=λh=>by rw [if_neg (by omega),if_neg (by omega)];exact (A1 h).1
  have A3:∀y∈(if o.many=0 then [] else aAk bd l x.a.toNat),MM y<=10 ^ (c*wa):=λy hy=>by
   rcases Nat.eq_zero_or_pos o.many with h|h
   · rw [if_pos h] at hy;simp at hy
   · rw [if_neg (by omega)] at hy;exact (A1 h).2 y hy
  have B2:1<o.many->VT (if o.many<2 then [] else aBv l x.b) (if o.many<2 then [] else aAk bd l x.b.toNat):=λh=>by rw [if_neg (by omega),if_neg (by omega)];exact (B1 h).1
  have B3:∀y∈(if o.many<2 then [] else aAk bd l x.b.toNat),MM y<=10 ^ (c*wb):=λy hy=>by
   rcases Nat.lt_or_ge o.many 2 with h|h
   · rw [if_pos h] at hy;simp at hy
   · rw [if_neg (by omega)] at hy;exact (B1 (by omega)).2 y hy
  have A4:(if o.many=0 then [] else aAk bd l x.a.toNat).length<=64:=by
   rcases Nat.eq_zero_or_pos o.many with h|h
   · rw [if_pos h];decide
   · exact (A2 h).vl.2
  generalize (if o.many=0 then [] else aBv l x.a)=sa at*
  generalize (if o.many=0 then [] else aAk bd l x.a.toNat)=a at*
  generalize (if o.many<2 then [] else aBv l x.b)=sb at*
  generalize (if o.many<2 then [] else aAk bd l x.b.toNat)=b at*
  have hdat:=G.data x hmem
  have hk:=G.k x hmem
  have hks:=G.ks x hmem
  obtain ⟨op,A,B,name,s,k,n,d⟩:=x
  dsimp only at*
  subst ho
  have hexp:=cB2 (m:=a.length) (c:=c) (wa:=wa) (wb:=wb) hz (λh=>(A2 h).ok) (λh=>(A2 h).len) hwa1 (by omega)
  have hle:(bA6 o (wa:Nat) (wb:Nat) sa n).toNat<=(wAt l j).toNat:=by
   have h3:wAt l j<=400:=by
    have:=Int.mul_le_mul_of_nonneg_right (show (1:Int)<=c by omega) (show 0<=wAt l j by omega)
    omega
   have:=bVr (n:=bA6 o (wa:Nat) (wb:Nat) sa n) (by rw [<- hw0];exact h3)
   rw [<- hw0] at this
   omega
  have hle2:c*(wAt l j).toNat<=400:=by
   have e:((wAt l j).toNat:Int)=wAt l j:=Int.toNat_of_nonneg (by omega)
   rw [<- e,<-Int.natCast_mul] at hcw;omega
  have hexp2:=Nat.le_trans hexp (Nat.mul_le_mul_left c hle)
  have R:=bZ9 (o:=o) (A:=A) (B:=B) (name:=name) (s:=s) (k:=k) (n:=n) (d:=d) hnm hz A2 B2 ⟨A3,by have:=Nat.mul_le_mul h2 hwa1;omega⟩ ⟨B3,by have:=Nat.mul_le_mul h2 hwb1;omega⟩
   (by omega) (by omega) hk hks hdat (bOv 25600 A3 (Nat.le_trans (Nat.mul_le_mul A4 hwa2) (by decide)) (by decide) (by decide)) (by omega) (by omega) (by omega)
  rw [<- hval] at R
  refine ⟨⟨(aKg hz).2,R.2.2,λy hy=>Nat.le_trans (R.2.1 y hy) (aG6 hexp2)⟩,λ_=>R.1⟩
theorem bF4 {l:List Nd}{x:Nd}{s:List Int}(h:aCu l x=some s):∃o:Opc,x.op=o.str:=by
 rcases aMe x.op with h1|h1
 · exact h1
 · rw [aK9 h1] at h;cases h
theorem bFg {bd:Nd->List Rat}{l:List Nd}{c:Nat}(G:Given bd l c):∀(j:Nat) (x:Nd),l[j]? =some x->Hi bd l c j x:=λj=>by
 induction j using Nat.strongRecOn with
 |_ j ih=>
  intro x hx
  obtain ⟨o,ho⟩:=bF4 (G.right j x hx)
  exact (bNb G ho hx λp y hp hy=>ih p hp y hy).1
theorem aFm {bd:Nd->List Rat}{l:List Nd}{c:Nat}(G:Given bd l c):aG8 bd l:=λj x o hx ho hn sa a sb b ha hb=>by
 refine ((bNb G ho hx λp y _ hy=>bFg G p y hy).2 hn).any (λh=>?_) (λh=>?_)
 · rw [if_neg (by omega),if_neg (by omega)];exact ha h
 · rw [if_neg (by omega),if_neg (by omega)];exact hb h
end Go.V
namespace Go.V
open Go.N Go.Proofs
set_option maxRecDepth 20000
def aKr (s:List Int) (d:List ByteArray):Nd:=⟨aA0,0,0,⟨#[]⟩,s,⟨#[]⟩,0,d⟩
def bF1 (l:List Nd) (i:Int):ByteArray:=match l[i.toNat]? with|some x=>x.op|none=>⟨#[]⟩
theorem bF2 {l:List Nd}{k:Nat}{x:Nd}(h:l[k]? =some x):bF1 l k=x.op:=by rw [bF1,Int.toNat_natCast,h]
def aN9 (l:List Nd) (x:Nd):Bool:=decide (0<aEe x.op) && (decide (bF1 l x.a=aA0) && (decide (aEe x.op<2) || decide (bF1 l x.b=aA0)))
noncomputable def aFu (out:List Nd) (x:Nd) (v:List Rat):Nd:=if aN9 out x=true then aKr x.shape (v.map aAw) else x
noncomputable def aAm (bd:Nd->List Rat) (l:List Nd):Nat->List Nd
 |0=>[]
 |i+1=>match l[i]? with
  |none=>aAm bd l i
  |some x=>aAm bd l i++[aFu (aAm bd l i) x (aAk bd l i)]
noncomputable def bDr (bd:Nd->List Rat) (g:Gr):Gr:=⟨aAm bd g.nodes g.nodes.length,g.loss⟩
section
variable {bd:Nd->List Rat}{l:List Nd}
theorem aD7 {i:Nat}{x:Nd}(h:l[i]? =some x):aAm bd l (i+1)=aAm bd l i++[aFu (aAm bd l i) x (aAk bd l i)]:=by simp only [aAm,h]
theorem aBs:∀i,i<=l.length->(aAm bd l i).length=i
 |0,_=>rfl
 |i+1,h=>by rw [aD7 (List.getElem?_eq_getElem (by omega)),List.length_append,aBs i (by omega)];rfl
theorem aCo {j:Nat}{x:Nd}(hx:l[j]? =some x):∀{i:Nat},j<i->i<=l.length->(aAm bd l i)[j]? =some (aFu (aAm bd l j) x (aAk bd l j))
 |0,h,_=>absurd h (Nat.not_lt_zero _)
 |i+1,h,hi=>by
  have hl:=aBs (bd:=bd) (l:=l) i (by omega)
  rcases Nat.lt_or_ge j i with h1|h1
  · rw [aD7 (List.getElem?_eq_getElem (by omega)),List.getElem?_append_left (by omega)]
    exact aCo hx h1 (by omega)
  · obtain rfl:j=i:=by omega
    rw [aD7 hx,List.getElem?_append_right (by omega),hl,Nat.sub_self];rfl
theorem aIa {j i k:Nat}(h1:j<i) (h2:i<=l.length) (h3:j<k) (h4:k<=l.length):(aAm bd l i)[j]? =(aAm bd l k)[j]? :=by
 have hx:l[j]? =some l[j]:=List.getElem?_eq_getElem (by omega)
 rw [aCo hx h1 h2,aCo hx h3 h4]
theorem aK8 (out:List Nd) (x:Nd) (v:List Rat):(aFu out x v).shape=x.shape:=by unfold aFu;split<;>rfl
theorem aV8 {out:List Nd}{x:Nd}(h:aEe x.op=0):aN9 out x=false:=by rw [aN9,h];rfl
theorem aGx {out:List Nd}{x:Nd}{v:List Rat}(h:aN9 out x=false):aFu out x v=x:=by rw [aFu,h];rfl
theorem aHo {out:List Nd}{x:Nd}{v:List Rat}(h:aN9 out x=true):aFu out x v=aKr x.shape (v.map aAw):=by rw [aFu,if_pos h]
theorem bIb {s:List Int}{k:ByteArray}{n:Int}{d:List ByteArray}{sa:List Int}{a:List Rat}{sb:List Int}{b v:List Rat}(h:FitV .const s k n d sa a sb b v):d=v.map aAw/\VT s v:=by
 cases h with
 |const h=>exact ⟨rfl,h⟩
theorem bId (G:aG8 bd l){j:Nat}{x:Nd}(hx:l[j]? =some x){out:List Nd}(h:(aFu out x (aAk bd l j)).op=aA0):(aFu out x (aAk bd l j)).data=(aAk bd l j).map aAw:=by
 unfold aFu at h ⊢
 split
 · rfl
 · rename_i hg
   rw [if_neg hg] at h
   exact (bIb (G j x .const hx h (by rw [h];decide) [] [] [] [] (λh=>absurd h (by decide)) (λh=>absurd h (by decide)))).1
theorem bAj {p i:Nat}(h1:p<i) (h2:i<=l.length):bF1 (aAm bd l i) (p:Nat)=bF1 (aAm bd l l.length) (p:Nat):=by
 rw [bF1,bF1,Int.toNat_natCast,aIa h1 h2 (by omega) (Nat.le_refl _)]
end
theorem aHt (o:Opc):aEe o.str=o.many:=by rw [aEe,aFw];rfl
theorem aN0 {s:ByteArray}(h:aA7 s=true):aEe s=0/\s≠aA0:=by
 simp only [aA7,Bool.or_eq_true,decide_eq_true_eq] at h
 rcases h with rfl|rfl<;>exact ⟨by decide,by decide⟩
theorem aIo {g:Gr}(h:aC1 g=true){i:Nat}{x:Nd}(hx:g.nodes[i]? =some x):∃o:Opc,x.op=o.str/\Fit (g.nodes.take i) x o.many:=by
 have h1:=aOt h hx
 obtain ⟨o,ho⟩:=bF4 h1
 exact ⟨o,ho,(aOm ho h1).1⟩
theorem cAw {g:Gr}(h:aC1 g=true){i:Nat}{x:Nd}(hx:g.nodes[i]? =some x) (hp:0<aEe x.op):∃q:Nat,x.a=q/\q<i/\q<g.nodes.length:=by
 obtain ⟨o,ho,F⟩:=aIo h hx
 rw [ho,aHt] at hp
 exact aDq (F.ia hp)
theorem cAx {g:Gr}(h:aC1 g=true){i:Nat}{x:Nd}(hx:g.nodes[i]? =some x) (hp:1<aEe x.op):∃q:Nat,x.b=q/\q<i/\q<g.nodes.length:=by
 obtain ⟨o,ho,F⟩:=aIo h hx
 rw [ho,aHt] at hp
 exact aDq (F.ib hp)
theorem aW1 {g:Gr}(h:aC1 g=true){i:Nat}{x:Nd}(hx:g.nodes[i]? =some x):x.name=⟨#[]⟩↔aA7 x.op=false:=by
 obtain ⟨o,ho,F⟩:=aIo h hx
 constructor
 · intro e
   cases hn:aA7 x.op
   · rfl
   · have:=F.nm hn
     rw [e,aGz] at this;cases this
 · exact F.nn
theorem bXg {g:Gr}(h:aC1 g=true){i:Nat}{x:Nd}(hx:g.nodes[i]? =some x) (hn:aA7 x.op=false) (hp:aEe x.op=0):x.op=aA0:=by
 obtain ⟨o,ho,F⟩:=aIo h hx
 rw [ho] at hn hp ⊢
 rw [aHt] at hp
 cases o<;>first|rfl|(exact absurd hp (by decide))|(exact absurd hn (by decide))
section
variable {bd:Nd->List Rat}{g:Gr}
theorem bIf (hg:aC1 g=true){j:Nat}{x:Nd}(hx:g.nodes[j]? =some x) (hn:x.name≠⟨#[]⟩) (out:List Nd) (v:List Rat):aFu out x v=x/\x.op≠aA0:=by
 have h:aA7 x.op=true:=by
  cases h:aA7 x.op
  · exact absurd ((aW1 hg hx).2 h) hn
  · rfl
 exact ⟨aGx (aV8 (aN0 h).1),(aN0 h).2⟩
theorem aL1 (hg:aC1 g=true){j:Nat}{x:Nd}(hx:g.nodes[j]? =some x) (out:List Nd) (v:List Rat):(aFu out x v).name=x.name:=by
 by_cases hn:x.name=⟨#[]⟩
 · unfold aFu;split
   · exact hn.symm
   · rfl
 · rw [(bIf hg hx hn out v).1]
theorem bM7 (hg:aC1 g=true){j:Nat}{y:Nd}(hy:(aAm bd g.nodes g.nodes.length)[j]? =some y) (hp:0<aEe y.op):aN9 (aAm bd g.nodes g.nodes.length) y=false/\g.nodes[j]? =some y:=by
 have hj:j<g.nodes.length:=by
  have:=(List.getElem?_eq_some_iff.1 hy).1
  rwa [aBs _ (Nat.le_refl _)] at this
 have hx:g.nodes[j]? =some g.nodes[j]:=List.getElem?_eq_getElem hj
 rw [aCo hx hj (Nat.le_refl _)] at hy
 cases hg1:aN9 (aAm bd g.nodes j) g.nodes[j] with
 |true=>
  rw [aHo hg1] at hy
  cases hy
  exact absurd hp (show ¬0<aEe aA0 by decide)
 |false=>
  rw [aGx hg1] at hy
  cases hy
  refine ⟨?_,hx⟩
  obtain ⟨p,hp1,hp2,hp3⟩:=cAw hg hx hp
  rw [<- hg1,aN9,aN9,hp1,bAj hp2 (Nat.le_of_lt hj)]
  rcases Nat.lt_or_ge (aEe g.nodes[j].op) 2 with h2|h2
  · rw [decide_eq_true h2];rfl
  · obtain ⟨q,hq1,hq2,hq3⟩:=cAx hg hx h2
    rw [hq1,bAj hq2 (Nat.le_of_lt hj)]
end
end Go.V
namespace Go.V
open Go.N Go.Proofs
set_option maxRecDepth 20000
structure Bd where
 name:ByteArray
 shape:List Int
 data:List ByteArray
def Bd.cells (b:Bd):List AV:=[.str b.name,.ro 1 (aAh b.shape),.ro 1 (aCm b.data)]
def aA5 (l:List Bd):List (List AV):=l.map Bd.cells
theorem aBk (l:List Bd):(aA5 l).length=l.length:=by simp [aA5]
theorem aDs {l:List Bd}{k:Nat}(h:k<l.length):(aA5 l)[k]? =some l[k].cells:=by simp [aA5,h]
structure Bd.Sm (b:Bd):Prop where
 name:b.name.size<=1000
 shape:b.shape.length<=1000
 data:b.data.length<=1000
 each:∀d∈b.data,d.size<=1000
theorem aNf {α:Type}(f:α->Nat):∀(l:List α) (b:Nat),b<=l.foldl (λn x=>max n (f x)) b/\∀x∈l,f x<=l.foldl (λn x=>max n (f x)) b
 |[],b=>⟨Nat.le_refl _,λx hx=>by simp at hx⟩
 |y::l,b=>by
  rw [List.foldl_cons]
  have h:=aNf f l (max b (f y))
  refine ⟨by omega,λx hx=>?_⟩
  rcases List.mem_cons.1 hx with rfl|hx
  · omega
  · exact h.2 x hx
theorem aV7 {α:Type}(f:α->Nat){m:Nat}:∀(l:List α) (b:Nat),b<=m->(∀ x∈l,f x<=m)->l.foldl (λn x=>max n (f x)) b<=m
 |[],b,h,_=>h
 |y::l,b,h,hx=>by
  rw [List.foldl_cons]
  have:=hx y List.mem_cons_self
  exact aV7 f l _ (by omega) λx h=>hx x (List.mem_cons_of_mem _ h)
theorem bAc (l:List ByteArray):aOd l=l.foldl (λn x=>max n x.size) 1:=by
 unfold aOd
 congr 1
 funext n x
 split<;>omega
theorem bNl {l:List ByteArray}{x:ByteArray}(h:x∈l):x.size<=aOd l:=by rw [bAc];exact (aNf ByteArray.size l 1).2 x h
theorem aWw {l:List ByteArray}{m:Nat}(h1:1<=m) (h:∀x∈l,x.size<=m):aOd l<=m:=by rw [bAc];exact aV7 ByteArray.size l 1 h1 h
def aI2 (l:List Nd):Nat:=l.foldl (λn x=>max n (max (aOd x.data) x.k.size)) 1
def aM8 (n:Nat) (bs:List Bd):Nat:=bs.foldl (λn b=>max n (aOd b.data)) n
theorem bH9 {l:List Nd}{i:Nat}(h:i<l.length):aI2 (l.take (i+1))=max (aI2 (l.take i)) (max (aOd l[i].data) l[i].k.size):=by
 rw [aI2,List.take_succ_eq_append_getElem h,List.foldl_append];rfl
theorem bH8 (n:Nat){l:List Bd}{i:Nat}(h:i<l.length):aM8 n (l.take (i+1))=max (aM8 n (l.take i)) (aOd l[i].data):=by
 rw [aM8,List.take_succ_eq_append_getElem h,List.foldl_append];rfl
theorem aVy {l:List Nd}(h:∀x∈l,x.Sm):1<=aI2 l/\aI2 l<=1000:=by
 refine ⟨(aNf (λx:Nd=>max (aOd x.data) x.k.size) l 1).1,aV7 (λx:Nd=>max (aOd x.data) x.k.size) l 1 (by decide) λx hx=>?_⟩
 have h1:=(h x hx).k
 have h2:=aWw (m:=1000) (by decide) (h x hx).each
 omega
theorem bE5 {n:Nat}{l:List Bd}(h:∀x∈l,x.Sm) (hn:n<=1000):n<=aM8 n l/\aM8 n l<=1000:=by
 refine ⟨(aNf (λx:Bd=>aOd x.data) l n).1,aV7 (λx:Bd=>aOd x.data) l n hn λx hx=>aWw (m:=1000) (by decide) (h x hx).each⟩
def aP4 (l:List Nd) (bs:List Bd):Int:=(aM8 (aI2 l) bs:Nat)*(2*aUg (aBo l l.length))
def aUu (s:List Int):List Rat:=List.replicate (aA8 s).toNat 0
noncomputable def bdB (bs:List Bd) (x:Nd):List Rat:=match bs.find? λb=>decide (b.name=x.name) with
 |some b=>if okT b.shape b.data=true/\b.shape=x.shape then b.data.map aN1 else aUu x.shape
 |none=>aUu x.shape
theorem bBg {d:ByteArray}{n:Nat}(h:d.size<=n) (hr:aBa d=true):MM (aN1 d)<=10 ^ (2*n):=bUm (by rw [aHv hr];exact h)
theorem bN4 {s:List Int}{l:List ByteArray}:okT s l=true↔aAl s=true/\(l.length:Int)=aDj s/\∀d∈l,aBa d=true:=by
 simp only [okT,Bool.and_eq_true,decide_eq_true_eq,Bool.not_eq_true',List.any_eq_false]
 constructor
 · rintro ⟨h1,h2,h3⟩;exact ⟨h1,h2,λd hd=>by have:=h3 d hd;simpa using this⟩
 · rintro ⟨h1,h2,h3⟩;exact ⟨h1,h2,λd hd=>by simp [h3 d hd]⟩
theorem aFz {g:Gr}(hg:aC1 g=true) (hsm:∀x∈g.nodes,x.Sm) (bs:List Bd) (hbs:∀b∈bs,b.Sm) (hc:aP4 g.nodes bs<=400):Given (bdB bs) g.nodes (2*aM8 (aI2 g.nodes) bs):=by
 have hS:=aVy hsm
 have hB:=bE5 (l:=bs) hbs hS.2
 have hnode:∀x∈g.nodes,max (aOd x.data) x.k.size<=aI2 g.nodes:=(aNf (λx:Nd=>max (aOd x.data) x.k.size) g.nodes 1).2
 have hbind:∀b∈bs,aOd b.data<=aM8 (aI2 g.nodes) bs:=(aNf (λx:Bd=>aOd x.data) bs (aI2 g.nodes)).2
 unfold aP4 at hc
 generalize aM8 (aI2 g.nodes) bs=n at*
 have hoks:∀x∈g.nodes,aAl x.shape=true:=λx hx=>by
  obtain ⟨i,hi⟩:=List.mem_iff_getElem?.1 hx
  obtain ⟨o,ho⟩:=bF4 (aOt hg hi)
  exact (aKg (aOm ho (aOt hg hi)).2).2
 have hz:∀x∈g.nodes,((((aUu x.shape).length:Nat):Int)=aA8 x.shape)/\∀y∈aUu x.shape,MM y<=10 ^ (2*n):=λx hx=>by
  have:=aW6 (hoks x hx)
  refine ⟨by rw [aUu,List.length_replicate];omega,λy hy=>?_⟩
  rw [List.eq_of_mem_replicate hy,aO4]
  exact aNo (by omega)
 have hb:∀x∈g.nodes,((((bdB bs x).length:Nat):Int)=aA8 x.shape)/\∀y∈bdB bs x,MM y<=10 ^ (2*n):=λx hx=>by
  unfold bdB
  split
  · rename_i b hf
    split
    · rename_i h
      obtain ⟨h1,h2,h3⟩:=bN4.1 h.1
      have hmem:=List.mem_of_find?_eq_some hf
      refine ⟨by rw [List.length_map,h2,aIj h1,h.2],λy hy=>?_⟩
      obtain ⟨d,hd,rfl⟩:=List.mem_map.1 hy
      exact bBg (Nat.le_trans (bNl hd) (hbind b hmem)) (h3 d hd)
    · exact hz x hx
  · exact hz x hx
 refine ⟨by omega,λi x hx=>aOt hg hx,λx hx d hd hr=>?_,λx hx hr=>?_,λx hx=>(hsm x hx).k,λx hx _=>(hb x hx).1,λx hx _=>(hb x hx).2,λj hj=>?_⟩
 · have h1:=hnode x hx
   have h2:=bNl hd
   exact bBg (by omega) hr
 · have h1:=hnode x hx
   exact bBg (by omega) hr
 · have h1:=bX3 g.nodes j
   have h2:((n:Nat):Int)*(2*wAt g.nodes j)<=400:=Int.le_trans (Int.mul_le_mul_of_nonneg_left (by omega) (by omega)) hc
   rw [Int.natCast_mul,Int.mul_comm (2:Nat) (n:Int),Int.mul_assoc]
   exact h2
theorem aP5 {g:Gr}(hg:aC1 g=true) (hsm:∀x∈g.nodes,x.Sm) (bs:List Bd) (hbs:∀b∈bs,b.Sm) (hc:aP4 g.nodes bs<=400):aG8 (bdB bs) g.nodes:=aFm (aFz hg hsm bs hbs hc)
end Go.V
namespace Go.V
open Go.N Go.Proofs
set_option maxRecDepth 20000
def bHx:Tab:=[(24,i24),(22,i22),(34,i34),(3,i3),(32,i32),(9,i9),(38,i38),(43,i43),(40,i40)]
theorem aYg:TOK Tryz.prog bHx:=⟨K24,⟨K22,⟨K34,⟨K3,⟨K32,⟨K9,⟨K38,⟨K43,⟨K40,trivial⟩⟩⟩⟩⟩⟩⟩⟩⟩
def bCr:Tab:=[(38,i38),(43,i43),(3,i3),(40,i40),(4,i4),(9,i9)]
theorem aLl:TOK Tryz.prog bCr:=⟨K38,⟨K43,⟨K3,⟨K40,⟨K4,⟨K9,trivial⟩⟩⟩⟩⟩⟩
theorem bMo {l:List Nd}(h:∀x∈l,x.Sm) (i:Nat):1<=aI2 (l.take i)/\aI2 (l.take i)<=1000:=aVy λx hx=>h x (List.mem_of_mem_take hx)
set_option maxHeartbeats 4000000 in
theorem bEv (l:List Nd) (p:Int) (bs:List Bd) (hl:l.length<=1000) (hsm:∀x∈l,x.Sm) (hbl:bs.length<=1000) (hbs:∀b∈bs,b.Sm):
 aAc Tryz.prog GL 23 [.agg [.ro 8 (aAv l),.int .i64 p],.ro 3 (aA5 bs),.int .i64 1] (λy=>y= .bool (decide (aP4 l bs<=400))):=by
 have hlr:=rowN_length l
 have hbr:=aBk bs
 have hD:=bRg l p hl hsm
 have hDi:=bNr (aO1 (l:=l) l.length (Nat.le_refl _))
 have hZ:aP4 l bs=(aM8 (aI2 l) bs:Nat)*(2*aUg (aBo l l.length)):=rfl
 generalize aP4 l bs=Z at hZ ⊢
 generalize aUg (aBo l l.length)=D at hD hDi hZ
 refine vgo aYg Tryz.func23 ?_
 repeat' first|refine sV ⟨?_⟩|refine sq (λh=>⟨?_⟩) λh=>⟨?_⟩|fail
 refine ⟨[1,2,3,7,8],[0],λm st=>∃i:Nat,i<=l.length/\m=l.length - i/\st=⟨[(1,.ro 3 (aA5 bs)),(2,.int .i64 1),(3,.bptr 0 0),(7,.int .i64 ((aI2 (l.take i):Nat):Int)),(8,.int .i64 (i:Nat))],[.box 24 [.ro 8 (aAv l),.int .i64 p]]⟩,rfl,⟨l.length,0,by omega,rfl,rfl⟩,?_⟩
 rintro m _ ⟨i,hi,hm,rfl⟩
 rcases Nat.lt_or_ge i l.length with hil|hge
 · have g:(aAv l)[i]? =some (l[i]).cells:=aB1 hil
   have hst:=bH9 hil
   have hn:=bMo hsm i
   have hx:=hsm l[i] (List.getElem_mem hil)
   have hlg:=aZe l[i].data hx.data (λd hd=>Nat.le_trans (hx.each d hd) (by decide))
   have hLb:=aWw (m:=1000) (by decide) hx.each
   have hkb:=hx.k
   clear hx
   generalize l[i]=x at g hst hlg hLb hkb
   obtain ⟨op,a,b,name,shape,k,n,data⟩:=x
   dsimp only at hst hlg hLb hkb
   generalize aOd data=L at hst hlg hLb
   generalize aI2 (l.take i)=c at hst hn
   have hb:=aDb (c:Nat) 100000
   rw [aVl (by omega) (by omega)] at hb
   repeat' first|refine sV ⟨?_⟩|refine sq (λh=>⟨?_⟩) λh=>⟨?_⟩|fail
   all_goals exact ⟨[0],l.length - (i+1),rfl,by omega,i+1,by omega,rfl,Eq.trans rfl (congrArg (λz:Int=>(⟨[(1,.ro 3 (aA5 bs)),(2,.int .i64 1),(3,.bptr 0 0),(7,.int .i64 z),(8,.int .i64 ((i+1:Nat):Int))],[.box 24 [.ro 8 (aAv l),.int .i64 p]]⟩:St)) (by (try dsimp only);rw [hst];omega))⟩
 · have e:l.take i=l:=List.take_of_length_le (by omega)
   rw [e]
   have hS:=aVy hsm
   generalize aI2 l=c at hS hZ
   repeat' first|refine sV ⟨?_⟩|refine sq (λh=>⟨?_⟩) λh=>⟨?_⟩|fail
   refine ⟨[1,2,3,7,10],[0],λm st=>∃i:Nat,i<=bs.length/\m=bs.length - i/\st=⟨[(1,.ro 3 (aA5 bs)),(2,.int .i64 1),(3,.bptr 0 0),(7,.int .i64 ((aM8 c (bs.take i):Nat):Int)),(10,.int .i64 (i:Nat))],[.box 24 [.ro 8 (aAv l),.int .i64 p]]⟩,rfl,⟨bs.length,0,by omega,rfl,rfl⟩,?_⟩
   rintro m _ ⟨i,hi,hm,rfl⟩
   have hn:=bE5 (n:=c) (l:=bs.take i) (λb hb=>hbs b (List.mem_of_mem_take hb)) hS.2
   rcases Nat.lt_or_ge i bs.length with hil|hge
   · have g:(aA5 bs)[i]? =some (bs[i]).cells:=aDs hil
     have hst:=bH8 c hil
     have hx:=hbs bs[i] (List.getElem_mem hil)
     have hlg:=aZe bs[i].data hx.data (λd hd=>Nat.le_trans (hx.each d hd) (by decide))
     have hLb:=aWw (m:=1000) (by decide) hx.each
     clear hx
     generalize bs[i]=x at g hst hlg hLb
     obtain ⟨name,shape,data⟩:=x
     dsimp only at hst hlg hLb
     generalize aOd data=L at hst hlg hLb
     generalize aM8 c (bs.take i)=e at hst hn
     repeat' first|refine sV ⟨?_⟩|refine sq (λh=>⟨?_⟩) λh=>⟨?_⟩|fail
     all_goals exact ⟨[0],bs.length - (i+1),rfl,by omega,i+1,by omega,rfl,Eq.trans rfl (congrArg (λz:Int=>(⟨[(1,.ro 3 (aA5 bs)),(2,.int .i64 1),(3,.bptr 0 0),(7,.int .i64 z),(10,.int .i64 ((i+1:Nat):Int))],[.box 24 [.ro 8 (aAv l),.int .i64 p]]⟩:St)) (by (try dsimp only);rw [hst];omega))⟩
   · have e:bs.take i=bs:=List.take_of_length_le (by omega)
     rw [e] at hn ⊢
     generalize aM8 c bs=n at hn hZ
     have hp:0<=((n:Nat):Int)*(2*D)/\((n:Nat):Int)*(2*D)<=200000000:=
      ⟨Int.mul_nonneg (by omega) (by omega),Int.le_trans (Int.mul_le_mul (show ((n:Nat):Int)<=1000 by omega) (show 2*D<=200000 by omega) (by omega) (by omega)) (by decide)⟩
     repeat' first|refine sV ⟨?_⟩|refine sq (λh=>⟨?_⟩) λh=>⟨?_⟩|fail
     refine ⟨[2,7,12,13],[],λm st=>(m=1/\st=⟨[(2,.int .i64 1),(7,.int .i64 (n:Nat)),(12,.int .i64 (2*D)),(13,.int .i64 0)],[]⟩)\/(m=0/\((n:Nat):Int)*(2*D)<=400/\st=⟨[(2,.int .i64 1),(7,.int .i64 ((n:Nat)*(2*D))),(12,.int .i64 (2*D)),(13,.int .i64 1)],[]⟩),rfl,⟨1,.inl ⟨rfl,rfl⟩⟩,?_⟩
     rintro m _ (⟨hm,rfl⟩|⟨hm,h4,rfl⟩)
     · by_cases h4:((n:Nat):Int)*(2*D)<=400
       · repeat' first|refine sV ⟨?_⟩|refine sq (λh=>⟨?_⟩) λh=>⟨?_⟩|fail
         all_goals exact ⟨[],0,rfl,by omega,.inr ⟨rfl,h4,rfl⟩⟩
       · rw [show decide (Z<=400)=false from decide_eq_false (by rw [hZ];exact h4)]
         repeat' first|refine sV ⟨?_⟩|refine sq (λh=>⟨?_⟩) λh=>⟨?_⟩|fail
         all_goals (conv=>whnf)
         all_goals rfl
     · rw [show decide (Z<=400)=true from decide_eq_true (by rw [hZ];exact h4)]
       repeat' first|refine sV ⟨?_⟩|refine sq (λh=>⟨?_⟩) λh=>⟨?_⟩|fail
       all_goals (conv=>whnf)
       all_goals rfl
def aIk (b:Bd):Bool:=aJr b.shape b.data && decide (b.name.size<=30)
def aGk (l:List Bd):Bool:=decide (l.length<=12) && l.all aIk
theorem bI7 {b:Bd}(h:aIk b=true):b.Sm:=by
 simp only [aIk,aJr,Bool.and_eq_true,decide_eq_true_eq,List.all_eq_true] at h
 exact ⟨by omega,by omega,by omega,λd hd=>by have:=h.1.2.2 d hd;omega⟩
theorem aKl {l:List Bd}(h:aGk l=true):l.length<=12/\∀b∈l,b.Sm:=by
 simp only [aGk,Bool.and_eq_true,decide_eq_true_eq,List.all_eq_true] at h
 exact ⟨h.1,λb hb=>bI7 (h.2 b hb)⟩
set_option maxHeartbeats 1000000 in
theorem aK6 (l:List Bd):aAc Tryz.prog GL 22 [.ro 3 (aA5 l)] (λy=>y= .bool (aGk l)):=by
 have hll:=aBk l
 by_cases h1:l.length<=12
 case neg=>
  rw [show aGk l=false by rw [aGk,decide_eq_false h1];rfl]
  refine vgo aLl Tryz.func22 ?_
  repeat' first|refine sV ⟨?_⟩|refine sq (λh=>⟨?_⟩) λh=>⟨?_⟩|fail
  all_goals (conv=>whnf)
  all_goals rfl
 rw [show aGk l=l.all aIk by rw [aGk,decide_eq_true h1];rfl]
 refine vgo aLl Tryz.func22 ?_
 repeat' first|refine sV ⟨?_⟩|refine sq (λh=>⟨?_⟩) λh=>⟨?_⟩|fail
 refine ⟨[0,3],[],λm st=>∃i:Nat,i<=l.length/\m=l.length - i/\(l.take i).all aIk=true/\st=⟨[(0,.ro 3 (aA5 l)),(3,.int .i64 (i:Nat))],[]⟩,rfl,⟨l.length,0,by omega,rfl,rfl,rfl⟩,?_⟩
 rintro m _ ⟨i,hi,hm,hall,rfl⟩
 rcases Nat.lt_or_ge i l.length with hil|hge
 · have g:=aDs hil
   have hst:=λh=>aOf (p:=aIk) hil hall h
   have hbad:=λh=>bCu (p:=aIk) hil h
   generalize l.all aIk=T at hbad ⊢
   generalize l[i]=x at g hst hbad
   obtain ⟨name,shape,data⟩:=x
   have hs:=bDk shape data
   unfold aEv at hs
   have hv:aIk ⟨name,shape,data⟩=(aJr shape data && decide (name.size<=30)):=rfl
   rw [hv] at hst hbad
   clear hv
   generalize aJr shape data=S at hs hst hbad
   by_cases hn:name.size<=30
   · cases S
     · obtain rfl:T=false:=hbad rfl
       repeat' first|refine sV ⟨?_⟩|refine sq (λh=>⟨?_⟩) λh=>⟨?_⟩|fail
       all_goals (conv=>whnf)
       all_goals rfl
     · have hU:=hst (by rw [decide_eq_true hn];rfl)
       repeat' first|refine sV ⟨?_⟩|refine sq (λh=>⟨?_⟩) λh=>⟨?_⟩|fail
       all_goals exact ⟨[],l.length - (i+1),rfl,by omega,i+1,by omega,rfl,hU,rfl⟩
   · obtain rfl:T=false:=hbad (by rw [decide_eq_false hn,Bool.and_false])
     cases S
     · repeat' first|refine sV ⟨?_⟩|refine sq (λh=>⟨?_⟩) λh=>⟨?_⟩|fail
       all_goals (conv=>whnf)
       all_goals rfl
     · repeat' first|refine sV ⟨?_⟩|refine sq (λh=>⟨?_⟩) λh=>⟨?_⟩|fail
       all_goals (conv=>whnf)
       all_goals rfl
 · rw [List.take_of_length_le (by omega)] at hall
   rw [hall]
   repeat' first|refine sV ⟨?_⟩|refine sq (λh=>⟨?_⟩) λh=>⟨?_⟩|fail
   all_goals (conv=>whnf)
   all_goals rfl
end Go.V
namespace Go.V
open Go.N Go.Proofs
set_option maxRecDepth 20000
def bQc:Tab:=[(22,i22),(34,i34)]
theorem bGw:TOK Tryz.prog bQc:=⟨K22,⟨K34,trivial⟩⟩
def bQs:Tab:=[(34,i34),(40,i40),(3,i3),(22,i22),(9,i9),(27,i27),(32,i32)]
theorem aJx:TOK Tryz.prog bQs:=⟨K34,⟨K40,⟨K3,⟨K22,⟨K9,⟨K27,⟨K32,trivial⟩⟩⟩⟩⟩⟩⟩
def bU8:Tab:=[(24,i24),(4,i4),(22,i22),(34,i34),(3,i3),(40,i40),(28,i28),(27,i27),(32,i32)]
theorem aX4:TOK Tryz.prog bU8:=⟨K24,⟨K4,⟨K22,⟨K34,⟨K3,⟨K40,⟨K28,⟨K27,⟨K32,trivial⟩⟩⟩⟩⟩⟩⟩⟩⟩
theorem bRe (x:Nd) (l:List Nd) (hll:l.length<1000):aAc Tryz.prog GL 39 [.ro 8 (aAv (x::l))] (λy=>y= .fr 34 8 (aAv (x::l))):=by
 have hlen:(aAv (x::l)).length=l.length+1:=rowN_length (x::l)
 refine vgo bGw Tryz.func39 ?_
 repeat' first|refine sX ⟨?_⟩|(refine sp ?_ ?_<;>refine λh=>⟨?_⟩)|fail
 conv=>whnf
 refine ⟨Nat.le_refl _,(show (0+(aAv (x::l)).length)*120<=_ by omega),aAv (x::l),rfl,?_⟩
 repeat' first|refine sX ⟨?_⟩|(refine sp ?_ ?_<;>refine λh=>⟨?_⟩)|fail
 conv=>whnf
 rfl
def aSg:AV:=.agg [.nils,.nils]
set_option maxHeartbeats 4000000 in
theorem bL1 (L:List Nd) (x:Nd) (o:Opc) (ho:x.op=o.str) (hm:o.many=0) (hL:0<L.length) (hxa:x.a=0):aFp Tryz.prog GL 122 [.own 0 0 (aAv L).length,.agg x.cells] [.row false 34 8 (aAv L)]
 (λy h=>y= .tup [aSg,aSg,.bool false]/\h=[.row false 34 8 (aAv L)]):=by
 have hlr:=rowN_length L
 have ga:(aAv L)[0+0]? =some (L[0]).cells:=aB1 hL
 obtain ⟨op,A,B,name,s,k,n,d⟩:=x
 dsimp only at ho hxa
 subst ho hxa
 generalize L[0]=y at ga
 obtain ⟨oa,aa,ba,na,sa,ka,nna,da⟩:=y
 unfold aSg
 cases o
 all_goals first|(exact absurd hm (by decide))|skip
 all_goals
  refine vgH aJx Tryz.func122 ?_
  repeat' first|refine sV ⟨?_⟩|refine sq (λh=>⟨?_⟩) λh=>⟨?_⟩|fail
  all_goals (conv=>whnf)
  all_goals exact ⟨[0],rfl,rfl,rfl⟩
set_option maxHeartbeats 4000000 in
theorem bL2 (L:List Nd) (x:Nd) (o:Opc) (ho:x.op=o.str) (hm:o.many=1) (j:Nat) (hj:j<L.length) (hxa:x.a=(j:Nat)):aFp Tryz.prog GL 122 [.own 0 0 (aAv L).length,.agg x.cells] [.row false 34 8 (aAv L)]
 (λy h=>y= .tup [aEv L[j].shape L[j].data,aEv L[j].shape L[j].data,.bool (decide (L[j].op=aA0))]/\h=[.row false 34 8 (aAv L)]):=by
 have hlr:=rowN_length L
 have ga:(aAv L)[0+j]? =some (L[j]).cells:=by rw [Nat.zero_add];exact aB1 hj
 have h1:∀p:Opc,p.many≠1->¬x.op=p.str:=λp hp e=>by
  rw [ho] at e
  have:=congrArg bSy e
  rw [aFg,aFg] at this
  subst this;exact hp hm
 have k1:¬x.op=aGh:=h1 .param (by decide)
 have k2:¬x.op=aKv:=h1 .input (by decide)
 have k3:¬x.op=aA0:=h1 .const (by decide)
 have k4:¬x.op=bBe:=h1 .add (by decide)
 have k5:¬x.op=bI2:=h1 .sub (by decide)
 have k6:¬x.op=bI1:=h1 .mul (by decide)
 have k7:¬x.op=aXv:=h1 .max (by decide)
 have k8:¬x.op=aHy:=h1 .above (by decide)
 have k9:¬x.op=aJo:=h1 .matmul (by decide)
 clear h1 ho
 obtain ⟨op,A,B,name,s,k,n,d⟩:=x
 dsimp only at hxa k1 k2 k3 k4 k5 k6 k7 k8 k9
 subst hxa
 generalize L[j]=y at ga ⊢
 obtain ⟨oa,aa,ba,na,sa,ka,nna,da⟩:=y
 dsimp only
 unfold aEv
 by_cases hc:oa=aA0
 · subst hc
   rw [show decide (aA0=aA0)=true from rfl]
   refine vgH aJx Tryz.func122 ?_
   repeat' first|refine sV ⟨?_⟩|refine sq (λh=>⟨?_⟩) λh=>⟨?_⟩|fail
   refine ⟨by decide +kernel,[0,1,0,4,15,0,32,0,128,480,0,1024,3072,7168,15360,31744,64512,130048,15391,278527,1048575],by decide +kernel,?_⟩
   repeat' first|refine sV ⟨?_⟩|refine sq (λh=>⟨?_⟩) λh=>⟨?_⟩|fail
   all_goals (conv=>whnf)
   all_goals exact ⟨[0],rfl,rfl,rfl⟩
 · rw [decide_eq_false hc]
   refine vgH aJx Tryz.func122 ?_
   repeat' first|refine sV ⟨?_⟩|refine sq (λh=>⟨?_⟩) λh=>⟨?_⟩|fail
   refine ⟨by decide +kernel,[0,1,0,4,15,0,32,0,128,480,0,1024,3072,7168,15360,31744,64512,130048,15391,278527,1048575],by decide +kernel,?_⟩
   repeat' first|refine sV ⟨?_⟩|refine sq (λh=>⟨?_⟩) λh=>⟨?_⟩|fail
   all_goals (conv=>whnf)
   all_goals exact ⟨[0],rfl,rfl,rfl⟩
set_option maxHeartbeats 16000000 in
theorem bL3 (L:List Nd) (x:Nd) (o:Opc) (ho:x.op=o.str) (hm:o.many=2) (j:Nat) (hj:j<L.length) (hxa:x.a=(j:Nat)) (i:Nat) (hi:i<L.length) (hxb:x.b=(i:Nat)):aFp Tryz.prog GL 122 [.own 0 0 (aAv L).length,.agg x.cells] [.row false 34 8 (aAv L)]
 (λy h=>y= .tup [aEv L[j].shape L[j].data,aEv L[i].shape L[i].data,.bool (decide (L[j].op=aA0) && decide (L[i].op=aA0))]/\h=[.row false 34 8 (aAv L)]):=by
 have hlr:=rowN_length L
 have ga:(aAv L)[0+j]? =some (L[j]).cells:=by rw [Nat.zero_add];exact aB1 hj
 have gb:(aAv L)[0+i]? =some (L[i]).cells:=by rw [Nat.zero_add];exact aB1 hi
 obtain ⟨op,A,B,name,s,k,n,d⟩:=x
 dsimp only at ho hxa hxb
 subst ho hxa hxb
 generalize L[j]=y at ga ⊢
 generalize L[i]=z at gb ⊢
 obtain ⟨oa,aa,ba,na,sa,ka,nna,da⟩:=y
 obtain ⟨ob,ab,bb,nb,sb,kb,nnb,db⟩:=z
 dsimp only
 unfold aEv
 cases o
 all_goals first|(exact absurd hm (by decide))|skip
 all_goals
  refine vgH aJx Tryz.func122 ?_
  repeat' first|refine sV ⟨?_⟩|refine sq (λh=>⟨?_⟩) λh=>⟨?_⟩|fail
  refine ⟨by decide +kernel,[0,1,0,4,15,0,32,0,128,480,0,1024,3072,7168,15360,31744,64512,130048,15391,278527,1048575],by decide +kernel,?_⟩
  repeat' first|refine sV ⟨?_⟩|refine sq (λh=>⟨?_⟩) λh=>⟨?_⟩|fail
  all_goals (conv=>whnf)
  all_goals exact ⟨[0],rfl,congrArg (λb:Bool=>AV.tup [.agg [.ro 1 (aAh sa),.ro 1 (aCm da)],.agg [.ro 1 (aAh sb),.ro 1 (aCm db)],.bool b]) (by simp [*]),rfl⟩
end Go.V
namespace Go.V
open Go.N Go.Proofs
set_option maxRecDepth 20000
section
variable {bd:Nd->List Rat}{l:List Nd}
noncomputable def aKs (bd:Nd->List Rat) (l:List Nd) (i:Nat):List Nd:=aAm bd l i++l.drop i
theorem bFo {i:Nat}(h:i<=l.length):(aKs bd l i).length=l.length:=by rw [aKs,List.length_append,aBs i h,List.length_drop];omega
theorem bNh:aKs bd l 0=l:=by simp [aKs,aAm]
theorem bSi:aKs bd l l.length=aAm bd l l.length:=by simp [aKs]
theorem bNg {i:Nat}{x:Nd}(hx:l[i]? =some x):(aKs bd l i)[i]? =some x:=by
 have hi:=(List.getElem?_eq_some_iff.1 hx).1
 rw [aKs,List.getElem?_append_right (by rw [aBs i (by omega)];exact Nat.le_refl _),aBs i (by omega),Nat.sub_self,List.getElem?_drop];exact hx
theorem aWu {i p:Nat}(hp:p<i) (hi:i<=l.length):(aKs bd l i)[p]? =(aAm bd l l.length)[p]? :=by
 rw [aKs,List.getElem?_append_left (by rw [aBs i hi];exact hp)];exact aIa hp hi (by omega) (Nat.le_refl _)
theorem bFp {i:Nat}{x:Nd}(hx:l[i]? =some x):aKs bd l (i+1)=(aKs bd l i).set i (aFu (aAm bd l i) x (aAk bd l i)):=by
 have hi:=(List.getElem?_eq_some_iff.1 hx).1
 have e:l.drop i=x::l.drop (i+1):=by rw [List.drop_eq_getElem_cons hi,(List.getElem?_eq_some_iff.1 hx).2]
 rw [aKs,aKs,aD7 hx,List.set_append_right _ _ (by rw [aBs i (by omega)];exact Nat.le_refl _),aBs i (by omega),Nat.sub_self,List.append_assoc,e]
 rfl
theorem bW5 {i:Nat}{x:Nd}(hx:l[i]? =some x) (h:aN9 (aAm bd l i) x=false):aKs bd l (i+1)=aKs bd l i:=by
 have h1:=bNg (bd:=bd) hx
 obtain ⟨h2,h3⟩:=List.getElem?_eq_some_iff.1 h1
 rw [bFp hx,aGx h]
 conv=>lhs;rw [<- h3]
 exact List.set_getElem_self h2
theorem bM6 {g:Gr}(hg:aC1 g=true) (G:aG8 bd g.nodes){p:Nat}(hp:p<g.nodes.length):∃y,(aAm bd g.nodes g.nodes.length)[p]? =some y/\y.shape=aBv g.nodes (p:Nat)/\(y.op=aA0->y.data=(aAk bd g.nodes p).map aAw)/\∃v:List Rat,y.data=v.map aAw:=by
 have hx:g.nodes[p]? =some g.nodes[p]:=List.getElem?_eq_getElem hp
 have hc:∀h:(aFu (aAm bd g.nodes p) g.nodes[p] (aAk bd g.nodes p)).op=aA0,(aFu (aAm bd g.nodes p) g.nodes[p] (aAk bd g.nodes p)).data=(aAk bd g.nodes p).map aAw:=λh=>bId G hx h
 refine ⟨_,aCo hx hp (Nat.le_refl _),by rw [aK8,aAp hp],hc,?_⟩
 by_cases h:(aFu (aAm bd g.nodes p) g.nodes[p] (aAk bd g.nodes p)).op=aA0
 · exact ⟨_,hc h⟩
 · refine ⟨[],?_⟩
   unfold aFu at h ⊢
   split at h
   · exact absurd rfl h
   · rename_i h2
     rw [if_neg h2]
     obtain ⟨o,ho,F⟩:=aIo hg hx
     exact List.length_eq_zero_iff.1 (F.d h)
end
theorem bIg {bd:Nd->List Rat}{g:Gr}(hg:aC1 g=true) (G:aG8 bd g.nodes) (hl:g.nodes.length<=1000){i:Nat}{x:Nd}(hx:g.nodes[i]? =some x):
 (aN9 (aAm bd g.nodes i) x=false/\aFp Tryz.prog GL 122 [.own 0 0 (aAv (aKs bd g.nodes i)).length,.agg x.cells] [.row false 34 8 (aAv (aKs bd g.nodes i))] (λy h=>y= .tup [aSg,aSg,.bool false]/\h=[.row false 34 8 (aAv (aKs bd g.nodes i))]))\/
 (aN9 (aAm bd g.nodes i) x=false/\∃sa da sb db,aFp Tryz.prog GL 122 [.own 0 0 (aAv (aKs bd g.nodes i)).length,.agg x.cells] [.row false 34 8 (aAv (aKs bd g.nodes i))] (λy h=>y= .tup [aEv sa da,aEv sb db,.bool false]/\h=[.row false 34 8 (aAv (aKs bd g.nodes i))]))\/
 (aN9 (aAm bd g.nodes i) x=true/\∃o sa a sb b,x.op=Opc.str o/\FitV o x.shape x.k x.n x.data sa a sb b (aAk bd g.nodes i)/\aFp Tryz.prog GL 122 [.own 0 0 (aAv (aKs bd g.nodes i)).length,.agg x.cells] [.row false 34 8 (aAv (aKs bd g.nodes i))] (λy h=>y= .tup [aAs sa a,aAs sb b,.bool true]/\h=[.row false 34 8 (aAv (aKs bd g.nodes i))])):=by
 have hi:=(List.getElem?_eq_some_iff.1 hx).1
 have hll:=bFo (bd:=bd) (Nat.le_of_lt hi)
 obtain ⟨o,ho,F⟩:=aIo hg hx
 have hpn:aEe x.op=o.many:=by rw [ho,aHt]
 rcases Nat.eq_zero_or_pos o.many with h0|h0
 · exact .inl ⟨aV8 (by rw [hpn,h0]),bL1 _ x o ho h0 (by omega) (F.a0 h0)⟩
 have hnn:aA7 x.op=false:=by
  rw [ho];cases o<;>first|rfl|(exact absurd h0 (by decide))
 right
 obtain ⟨p,hp1,hp2,hp3⟩:=aDq (F.ia h0)
 obtain ⟨ya,ha1,ha2,ha3,_⟩:=bM6 hg G hp3
 rw [<- aWu hp2 (Nat.le_of_lt hi)] at ha1
 obtain ⟨hpl,hpe⟩:=List.getElem?_eq_some_iff.1 ha1
 have hoa:bF1 (aAm bd g.nodes i) x.a=ya.op:=by
  rw [aWu hp2 (Nat.le_of_lt hi),aIa (k:=i) hp3 (Nat.le_refl _) hp2 (Nat.le_of_lt hi)] at ha1
  rw [hp1,bF2 ha1]
 rcases Nat.lt_or_ge o.many 2 with h2|h2
 · have h1:o.many=1:=by omega
   have hgo:aN9 (aAm bd g.nodes i) x=decide (ya.op=aA0):=by rw [aN9,hpn,hoa,decide_eq_true h0,decide_eq_true h2];simp
   have hc:=bL2 _ x o ho h1 p hpl hp1
   rw [hpe] at hc
   by_cases hk:ya.op=aA0
   · right
     refine ⟨by rw [hgo];exact decide_eq_true hk,o,aBv g.nodes x.a,aAk bd g.nodes p,aBv g.nodes x.a,aAk bd g.nodes p,ho,G i x o hx ho hnn _ _ _ _ (λ_=>⟨rfl,by rw [hp1,Int.toNat_natCast]⟩) (λh=>absurd h (by omega)),?_⟩
     rw [ha2,ha3 hk,decide_eq_true hk,<-hp1] at hc
     exact hc
   · left
     rw [decide_eq_false hk] at hc hgo
     exact ⟨hgo,_,_,_,_,hc⟩
 · have h1:o.many=2:=by have:=aNi (aFw o);omega
   obtain ⟨q,hq1,hq2,hq3⟩:=aDq (F.ib h2)
   obtain ⟨yb,hb1,hb2,hb3,_⟩:=bM6 hg G hq3
   rw [<- aWu hq2 (Nat.le_of_lt hi)] at hb1
   obtain ⟨hql,hqe⟩:=List.getElem?_eq_some_iff.1 hb1
   have hob:bF1 (aAm bd g.nodes i) x.b=yb.op:=by
    rw [aWu hq2 (Nat.le_of_lt hi),aIa (k:=i) hq3 (Nat.le_refl _) hq2 (Nat.le_of_lt hi)] at hb1
    rw [hq1,bF2 hb1]
   have hgo:aN9 (aAm bd g.nodes i) x=(decide (ya.op=aA0) && decide (yb.op=aA0)):=by
    rw [aN9,hpn,hoa,hob,decide_eq_true h0,decide_eq_false (by omega:¬o.many<2)];simp
   have hc:=bL3 _ x o ho h1 p hpl hp1 q hql hq1
   rw [hpe,hqe,<-hgo] at hc
   cases hk:aN9 (aAm bd g.nodes i) x with
   |true=>
    right
    rw [hk] at hc
    rw [hgo,Bool.and_eq_true,decide_eq_true_eq,decide_eq_true_eq] at hk
    refine ⟨rfl,o,aBv g.nodes x.a,aAk bd g.nodes p,aBv g.nodes x.b,aAk bd g.nodes q,ho,G i x o hx ho hnn _ _ _ _ (λ_=>⟨rfl,by rw [hp1,Int.toNat_natCast]⟩) (λ_=>⟨rfl,by rw [hq1,Int.toNat_natCast]⟩),?_⟩
    rw [ha2,ha3 hk.1,hb2,hb3 hk.2,<-hp1,<-hq1] at hc
    exact hc
   |false=>
    left
    rw [hk] at hc
    exact ⟨rfl,_,_,_,_,hc⟩
theorem bS6 (l:List Nd) (i:Nat) (x:Nd){c:List AV}(h:c=x.cells):(aAv l).set (0+i) c=aAv (l.set i x):=by rw [Nat.zero_add,h];simp [aAv,List.map_set]
set_option maxHeartbeats 8000000 in
theorem bDd (bd:Nd->List Rat) (g:Gr) (hs:∀x∈g.nodes,x.Sm) (hl:g.nodes.length<=1000) (hG:aC1 g=true->aG8 bd g.nodes):aAc Tryz.prog GL 65 [.agg g.cells]
 (λy=>y=if aC1 g=true then .tup [.agg (bDr bd g).cells,.int .i64 0] else .tup [.agg [.ro 8 [],.int .i64 0],.int .i64 1]):=by
 have hr:=bE1 g hs hl
 refine aAc.taken ?_
 cases hok:aC1 g
 · rw [hok] at hr
   rw [if_neg (by simp)]
   refine vgo aX4 Tryz.func65 ?_
   repeat' first|refine sV ⟨?_⟩|refine sq (λh=>⟨?_⟩) λh=>⟨?_⟩|fail
   all_goals (conv=>whnf)
   exact ⟨_,aAf (aFo (show aC7 .nils (.ro 8 []) from ⟨8,rfl⟩) rfl) rfl,rfl⟩
 have hG:=hG hok
 rw [hok] at hr
 rw [if_pos rfl]
 obtain ⟨h1,h2,q,hq1,hq⟩:=aMd hok
 have hpt:=λ{i:Nat} {x:Nd}=>@bIg bd g hok hG hl i x
 have hget:∀i (h:i<g.nodes.length),g.nodes[i]? =some g.nodes[i]:=λi h=>List.getElem?_eq_getElem h
 have hF:bDr bd g=⟨aAm bd g.nodes g.nodes.length,g.loss⟩:=rfl
 rw [hF]
 clear hF hG
 obtain ⟨l,p⟩:=g
 dsimp only at hs hl h1 h2 hq1 hq hpt hget ⊢
 have hcl:aAc Tryz.prog GL 39 [.ro 8 (aAv l)] (λy=>y= .fr 34 8 (aAv l)):=by
  match l,hl,h1 with
  |x::l,hl,_=>exact bRe x l (by rw [List.length_cons] at hl;omega)
 show aAc _ _ _ [.agg [.ro 8 (aAv l),.int .i64 p]] _
 replace hr:aAc Tryz.prog GL 19 [.agg [.ro 8 (aAv l),.int .i64 p]] (λr=>r= .bool true):=hr
 have hlr:=rowN_length l
 refine vgo aX4 Tryz.func65 ?_
 repeat' first|refine sV ⟨?_⟩|refine sq (λh=>⟨?_⟩) λh=>⟨?_⟩|fail
 refine ⟨by decide +kernel,[0,1,3,0,8,31,0,127],by decide +kernel,?_⟩
 repeat' first|refine sV ⟨?_⟩|refine sq (λh=>⟨?_⟩) λh=>⟨?_⟩|fail
 refine ⟨[2,4,23,24,25],[1,3,2],λm st=>∃i:Nat,i<=l.length/\m=l.length - i/\
  st=⟨[(2,.bptr 0 0),(4,.bptr 1 0),(23,.own 2 0 (aAv l).length),(24,.int .i64 ((aAv l).length:Nat)),(25,.int .i64 ((i:Nat)))],[.box 24 [.nils,.int .i64 0],.box 24 [.own 2 0 (aAv l).length,.int .i64 p],.row false 34 8 (aAv (aKs bd l i))]⟩,rfl,⟨l.length,0,by omega,rfl,?_⟩,?_⟩
 · exact Eq.trans rfl (congrArg (λz:List (List AV)=>(⟨[(2,.bptr 0 0),(4,.bptr 1 0),(23,.own 2 0 (aAv l).length),(24,.int .i64 ((aAv l).length:Nat)),(25,.int .i64 (((0:Nat):Int)))],[.box 24 [.nils,.int .i64 0],.box 24 [.own 2 0 (aAv l).length,.int .i64 p],.row false 34 8 z]⟩:St)) (congrArg aAv (bNh (bd:=bd) (l:=l)).symm))
 rintro m _ ⟨i,hi,hm,rfl⟩
 have hll:=bFo (bd:=bd) hi
 have hrl:=rowN_length (aKs bd l i)
 rcases Nat.lt_or_ge i l.length with hil|hge
 · have hx:=hget i hil
   have hat:=bNg (bd:=bd) hx
   have hset:=bFp (bd:=bd) hx
   have hno:=bW5 (bd:=bd) hx
   have g1:(aAv (aKs bd l i))[0+i]? =some (l[i]).cells:=by
    obtain ⟨k1,k2⟩:=List.getElem?_eq_some_iff.1 hat
    rw [Nat.zero_add,aB1 k1,k2]
   have hcall:=hpt hx
   have hfy:=λ(h:aN9 (aAm bd l i) l[i]=true)=>aHo (x:=l[i]) (v:=aAk bd l i) (out:=aAm bd l i) h
   have hend:∀{L':List Nd} {c:List (List AV)},aKs bd l (i+1)=L'->c=aAv L'->(⟨[(2,.bptr 0 0),(4,.bptr 1 0),(23,.own 2 0 (aAv l).length),(24,.int .i64 ((aAv l).length:Nat)),(25,.int .i64 (((i+1:Nat):Int)))],[.box 24 [.nils,.int .i64 0],.box 24 [.own 2 0 (aAv l).length,.int .i64 p],.row false 34 8 c]⟩:St)=⟨[(2,.bptr 0 0),(4,.bptr 1 0),(23,.own 2 0 (aAv l).length),(24,.int .i64 ((aAv l).length:Nat)),(25,.int .i64 (((i+1:Nat):Int)))],[.box 24 [.nils,.int .i64 0],.box 24 [.own 2 0 (aAv l).length,.int .i64 p],.row false 34 8 (aAv (aKs bd l (i+1)))]⟩:=λh1 h2=>by rw [h1,h2]
   generalize aN9 (aAm bd l i) l[i]=go at hcall hno hfy
   generalize aFu (aAm bd l i) l[i] (aAk bd l i)=fx at hset hfy
   generalize aAk bd l i=V at hcall hfy
   generalize aKs bd l i=L at hll hrl g1 hcall hset hno
   clear hx hat
   generalize l[i]=x at g1 hcall hfy
   rw [show (aAv L).length=(aAv l).length by omega] at hcall
   rcases hcall with ⟨rfl,hcall⟩|⟨rfl,sa,da,sb,db,hcall⟩|⟨rfl,o,sa,a,sb,b,ho,hfit,hcall⟩
   · have hL:=hno rfl
     obtain ⟨op,A,B,name,s,k,n,d⟩:=x
     unfold aSg at hcall
     repeat' first|refine sV ⟨?_⟩|refine sq (λh=>⟨?_⟩) λh=>⟨?_⟩|fail
     conv=>whnf
     refine .inr ⟨[2],rfl,_,hcall,?_⟩
     rintro _ _ ⟨rfl,rfl⟩
     repeat' first|refine sV ⟨?_⟩|refine sq (λh=>⟨?_⟩) λh=>⟨?_⟩|fail
     all_goals exact ⟨[0,1,2],l.length - (i+1),rfl,by omega,i+1,by omega,rfl,Eq.trans rfl (hend hL rfl)⟩
   · have hL:=hno rfl
     obtain ⟨op,A,B,name,s,k,n,d⟩:=x
     unfold aEv at hcall
     repeat' first|refine sV ⟨?_⟩|refine sq (λh=>⟨?_⟩) λh=>⟨?_⟩|fail
     conv=>whnf
     refine .inr ⟨[2],rfl,_,hcall,?_⟩
     rintro _ _ ⟨rfl,rfl⟩
     repeat' first|refine sV ⟨?_⟩|refine sq (λh=>⟨?_⟩) λh=>⟨?_⟩|fail
     all_goals exact ⟨[0,1,2],l.length - (i+1),rfl,by omega,i+1,by omega,rfl,Eq.trans rfl (hend hL rfl)⟩
   · have hfx:=hfy rfl
     subst hfx
     obtain ⟨op,A,B,name,s,k,n,d⟩:=x
     dsimp only at ho hfit hset
     subst ho
     have hnode:=bDc A B name hfit
     unfold aBn aAs at hnode
     unfold aAs at hcall
     have hsetr:=bS6 L i (aKr s (V.map aAw)) (c:=[.str aA0,.int .i64 0,.int .i64 0,.str ⟨#[]⟩,.ro 1 (aAh s),.str ⟨#[]⟩,.int .i64 0,.ro 1 (aAj V)]) rfl
     repeat' first|refine sV ⟨?_⟩|refine sq (λh=>⟨?_⟩) λh=>⟨?_⟩|fail
     conv=>whnf
     refine .inr ⟨[2],rfl,_,hcall,?_⟩
     rintro _ _ ⟨rfl,rfl⟩
     repeat' first|refine sV ⟨?_⟩|refine sq (λh=>⟨?_⟩) λh=>⟨?_⟩|fail
     all_goals exact ⟨[0,1,2],l.length - (i+1),rfl,by omega,i+1,by omega,rfl,Eq.trans rfl (hend hset hsetr)⟩
 · have hl2:i=l.length:=by omega
   subst hl2
   have e:aKs bd l l.length=aAm bd l l.length:=bSi
   repeat' first|refine sV ⟨?_⟩|refine sq (λh=>⟨?_⟩) λh=>⟨?_⟩|fail
   conv=>whnf
   refine .inl ⟨by omega,?_⟩
   repeat' first|refine sV ⟨?_⟩|refine sq (λh=>⟨?_⟩) λh=>⟨?_⟩|fail
   all_goals (conv=>whnf)
   all_goals exact ⟨_,aAf (aFo rfl rfl) rfl,congrArg (λz:List Nd=>AV.tup [.agg [.ro 8 (aAv z),.int .i64 p],.int .i64 0]) e⟩
end Go.V
namespace Go.V
open Go.N Go.Proofs
set_option maxRecDepth 20000
def bKy:Tab:=[(42,i42),(9,i9),(34,i34)]
theorem bBp:TOK Tryz.prog bKy:=⟨K42,⟨K9,⟨K34,trivial⟩⟩⟩
def bQr:Tab:=[(34,i34),(40,i40),(37,i37),(42,i42),(142,cCv),(3,i3),(4,i4),(27,i27)]
theorem aJw:TOK Tryz.prog bQr:=⟨K34,⟨K40,⟨K37,⟨K42,⟨cC7,⟨K3,⟨K4,⟨K27,trivial⟩⟩⟩⟩⟩⟩⟩⟩
def aYj:Tab:=[(37,i37),(42,i42),(3,i3)]
theorem aSl:TOK Tryz.prog aYj:=⟨K37,⟨K42,⟨K3,trivial⟩⟩⟩
def bYy:Tab:=[(24,i24),(4,i4),(22,i22),(34,i34),(46,i46),(40,i40),(3,i3),(9,i9),(37,i37),(42,i42),(28,i28)]
theorem bEn:TOK Tryz.prog bYy:=⟨K24,⟨K4,⟨K22,⟨K34,⟨K46,⟨K40,⟨K3,⟨K9,⟨K37,⟨K42,⟨K28,trivial⟩⟩⟩⟩⟩⟩⟩⟩⟩⟩⟩
def aDx (bs:List Bd) (x:Nd):Bool:=match bs.find? λb=>decide (b.name=x.name) with
 |some b=>okT b.shape b.data && decide (b.shape=x.shape)
 |none=>false
theorem aNd (bs:List Bd) (n:ByteArray):(bs.find? (λb=>decide (b.name=n))=none/\∀j (h:j<bs.length),bs[j].name≠n)\/
 ∃k,∃h:k<bs.length,bs.find? (λb=>decide (b.name=n))=some bs[k]/\bs[k].name=n/\∀j (h:j<bs.length),j<k->bs[j].name≠n:=by
 cases hf:bs.find? (λb=>decide (b.name=n)) with
 |none=>
  left
  refine ⟨rfl,λj h=>?_⟩
  have:=List.find?_eq_none.1 hf bs[j] (List.getElem_mem h)
  simpa using this
 |some b=>
  right
  obtain ⟨h1,i,hi,rfl,h2⟩:=List.find?_eq_some_iff_getElem.1 hf
  refine ⟨i,hi,rfl,by simpa using h1,λj h hj=>?_⟩
  have:=h2 j hj
  simpa using this
theorem bTv (b:Bd) (x:Nd):aAc Tryz.prog GL 107 [.agg b.cells,.rp x.cells] (λy=>y= .bool (decide (b.name=x.name))):=by
 obtain ⟨bn,bsh,bd⟩:=b
 obtain ⟨op,A,B,name,s,k,n,d⟩:=x
 refine vgo bBp Tryz.func107 ?_
 repeat' first|refine sV ⟨?_⟩|refine sq (λh=>⟨?_⟩) λh=>⟨?_⟩|fail
 all_goals (conv=>whnf)
 all_goals rfl
theorem bTr (f:FuncId) (cs:List AV) (l:List Bd) (n:ByteArray) (r:Int) (hll:l.length<=1000) (hc:∀b∈l,aAc Tryz.prog GL f [.agg b.cells,.rp cs] (λy=>y= .bool (decide (b.name=n))))
 (hr:(∃ k:Nat,∃h:k<l.length,r=k/\l[k].name=n/\∀j (h:j<l.length),j<k->l[j].name≠n)\/(r= -1/\∀j (h:j<l.length),l[j].name≠n)):
 aAc Tryz.prog GL 106 [.ro 3 (aA5 l),.fn f [.rp cs]] (λx=>x= .int .i64 r):=by
 have hl:=aBk l
 refine vgo aSl Tryz.func106 ?_
 repeat' first|refine sV ⟨?_⟩|refine sq (λh=>⟨?_⟩) λh=>⟨?_⟩|fail
 refine ⟨[0,1,7,8],[],λm st=>∃i:Nat,i<=l.length/\m=l.length - i/\(∀ j (h:j<l.length),j<i->l[j].name≠n)/\
  st=⟨[(0,.ro 3 (aA5 l)),(1,.fn f [.rp cs]),(7,.int .i64 ((aA5 l).length:Nat)),(8,.int .i64 (i:Nat))],[]⟩,rfl,⟨l.length,0,by omega,rfl,λj h h0=>absurd h0 (Nat.not_lt_zero _),rfl⟩,?_⟩
 rintro m _ ⟨i,hi,hm,ha,rfl⟩
 rcases Nat.lt_or_ge i l.length with hil|hge
 · have g:=aDs hil
   have hci:=hc l[i] (List.getElem_mem hil)
   by_cases hp:l[i].name=n
   · rw [decide_eq_true hp] at hci
     obtain rfl:r=i:=by
      rcases hr with ⟨k,hk,rfl,h1,h2⟩|⟨_,h2⟩
      · rcases Nat.lt_trichotomy k i with h|h|h
        · exact absurd h1 (ha k hk h)
        · rw [h]
        · exact absurd hp (h2 i hil h)
      · exact absurd hp (h2 i hil)
     generalize l[i]=b at g hci
     obtain ⟨bn,bsh,bd⟩:=b
     repeat' first|refine sV ⟨?_⟩|refine sq (λh=>⟨?_⟩) λh=>⟨?_⟩|fail
     all_goals (conv=>whnf)
     all_goals rfl
   · rw [decide_eq_false hp] at hci
     have hx:∀j (h:j<l.length),j<i+1->l[j].name≠n:=λj h hj=>(Nat.lt_succ_iff_lt_or_eq.1 hj).elim (ha j h) (λe=>by subst e;exact hp)
     clear hp
     generalize l[i]=b at g hci
     obtain ⟨bn,bsh,bd⟩:=b
     repeat' first|refine sV ⟨?_⟩|refine sq (λh=>⟨?_⟩) λh=>⟨?_⟩|fail
     all_goals exact ⟨[],l.length - (i+1),rfl,by omega,i+1,by omega,rfl,hx,rfl⟩
 · obtain rfl:r= -1:=by
    rcases hr with ⟨k,hk,rfl,h1,h2⟩|⟨h,_⟩
    · exact absurd h1 (ha k hk (by omega))
    · exact h
   repeat' first|refine sV ⟨?_⟩|refine sq (λh=>⟨?_⟩) λh=>⟨?_⟩|fail
   all_goals (conv=>whnf)
   all_goals rfl
theorem bTp {bs:List Bd}{x:Nd}{k:Nat}(hk:k<bs.length) (hf:bs.find? (λb=>decide (b.name=x.name))=some bs[k]) (h:okT bs[k].shape bs[k].data=true/\bs[k].shape=x.shape):
 aDx bs x=true/\bs[k].data=(bdB bs x).map aAw:=by
 refine ⟨by rw [aDx,hf];dsimp only;rw [h.1,decide_eq_true h.2];rfl,?_⟩
 rw [bdB,hf]
 dsimp only
 rw [if_pos h,bF9 (bN4.1 h.1).2.2]
set_option maxHeartbeats 4000000 in
theorem bRp (bs:List Bd) (x:Nd) (hbl:bs.length<=1000) (hbs:∀b∈bs,b.Sm) (hx:x.Sm):aAc Tryz.prog GL 52 [.agg x.cells,.ro 3 (aA5 bs)]
 (λy=>y=if aDx bs x=true then .tup [aAs x.shape (bdB bs x),.bool true] else .tup [aSg,.bool false]):=by
 have hbr:=aBk bs
 have hxs:=hx.shape
 rcases aNd bs x.name with ⟨hf,hall⟩|⟨k,hk,hf,hn,hall⟩
 · have hi:=bTr 107 x.cells bs x.name (-1) hbl (λb _=>bTv b x) (.inr ⟨rfl,hall⟩)
   rw [show aDx bs x=false by rw [aDx,hf],if_neg (by simp)]
   clear hall hf
   obtain ⟨op,A,B,name,s,kk,n,d⟩:=x
   unfold aSg
   refine vgo aJw Tryz.func52 ?_
   repeat' first|refine sV ⟨?_⟩|refine sq (λh=>⟨?_⟩) λh=>⟨?_⟩|fail
   refine ⟨by decide +kernel,[0,1,3,7,7,31,63,127,255,511,1023,2047,4095,4095,16383,32767,65535,131071,4095,266239,1048575,2097151,4194303],by decide +kernel,?_⟩
   repeat' first|refine sV ⟨?_⟩|refine sq (λh=>⟨?_⟩) λh=>⟨?_⟩|fail
   all_goals (conv=>whnf)
   all_goals rfl
 · have hi:=bTr 107 x.cells bs x.name (k:Nat) hbl (λb _=>bTv b x) (.inl ⟨k,hk,rfl,hn,hall⟩)
   have g:=aDs hk
   have hb:=hbs bs[k] (List.getElem_mem hk)
   have hR:=bE3 bs[k].shape bs[k].data hb.shape hb.data (λd hd=>Nat.lt_of_le_of_lt (hb.each d hd) (by decide))
   have hS:=aC4 GL bs[k].shape x.shape (by have:=hb.shape;omega) (by omega)
   have hok:=@bTp bs x k hk hf
   have hb1:¬(okT bs[k].shape bs[k].data=true/\bs[k].shape=x.shape)->aDx bs x=false:=λh=>by
    rw [aDx,hf]
    dsimp only
    cases h1:okT bs[k].shape bs[k].data
    · rfl
    · exact decide_eq_false λh2=>h ⟨h1,h2⟩
   clear hall hf hb hn
   generalize aDx bs x=T at hok hb1 ⊢
   generalize bdB bs x=V at hok ⊢
   generalize bs[k]=b at g hR hS hok hb1
   obtain ⟨bn,bsh,bda⟩:=b
   obtain ⟨op,A,B,name,s,kk,n,d⟩:=x
   dsimp only at hR hS hok hb1 ⊢
   unfold aEv at hR
   by_cases h1:okT bsh bda=true
   · rw [h1] at hR
     by_cases h2:bsh=s
     · obtain ⟨hT,hd⟩:=hok ⟨h1,h2⟩
       subst hT h2
       rw [decide_eq_true rfl] at hS
       rw [if_pos rfl]
       unfold aAs aAj
       rw [<- hd]
       refine vgo aJw Tryz.func52 ?_
       repeat' first|refine sV ⟨?_⟩|refine sq (λh=>⟨?_⟩) λh=>⟨?_⟩|fail
       refine ⟨by decide +kernel,[0,1,3,7,7,31,63,127,255,511,1023,2047,4095,4095,16383,32767,65535,131071,4095,266239,1048575,2097151,4194303],by decide +kernel,?_⟩
       repeat' first|refine sV ⟨?_⟩|refine sq (λh=>⟨?_⟩) λh=>⟨?_⟩|fail
       all_goals (conv=>whnf)
       all_goals rfl
     · rw [decide_eq_false h2] at hS
       rw [hb1 (λh=>h2 h.2),if_neg (by simp)]
       unfold aSg
       refine vgo aJw Tryz.func52 ?_
       repeat' first|refine sV ⟨?_⟩|refine sq (λh=>⟨?_⟩) λh=>⟨?_⟩|fail
       refine ⟨by decide +kernel,[0,1,3,7,7,31,63,127,255,511,1023,2047,4095,4095,16383,32767,65535,131071,4095,266239,1048575,2097151,4194303],by decide +kernel,?_⟩
       repeat' first|refine sV ⟨?_⟩|refine sq (λh=>⟨?_⟩) λh=>⟨?_⟩|fail
       all_goals (conv=>whnf)
       all_goals rfl
   · rw [hb1 (λh=>h1 h.1),if_neg (by simp)]
     rw [show okT bsh bda=false by simpa using h1] at hR
     unfold aSg
     refine vgo aJw Tryz.func52 ?_
     repeat' first|refine sV ⟨?_⟩|refine sq (λh=>⟨?_⟩) λh=>⟨?_⟩|fail
     refine ⟨by decide +kernel,[0,1,3,7,7,31,63,127,255,511,1023,2047,4095,4095,16383,32767,65535,131071,4095,266239,1048575,2097151,4194303],by decide +kernel,?_⟩
     repeat' first|refine sV ⟨?_⟩|refine sq (λh=>⟨?_⟩) λh=>⟨?_⟩|fail
     all_goals (conv=>whnf)
     all_goals rfl
end Go.V
namespace Go.V
open Go.N Go.Proofs
set_option maxRecDepth 20000
noncomputable def tcE (bd:Nd->List Rat) (l:List Nd) (j:Nat):List AV:=[.ro 1 (aAh (aBv l (j:Nat))),.ro 1 (aAj (aAk bd l j))]
noncomputable def aCj (bd:Nd->List Rat) (l:List Nd) (i:Nat):List (List AV):=(List.range i).map (tcE bd l)
theorem aC0 (bd:Nd->List Rat) (l:List Nd) (i:Nat):(aCj bd l i).length=i:=by simp [aCj]
theorem aD1 {bd:Nd->List Rat}{l:List Nd}{i j:Nat}(h:j<i):(aCj bd l i)[j]? =some (tcE bd l j):=by simp [aCj,h]
theorem aNl (bd:Nd->List Rat) (l:List Nd) (i:Nat):aCj bd l (i+1)=aCj bd l i++[tcE bd l i]:=by simp [aCj,List.range_succ]
noncomputable def aGg (bd:Nd->List Rat) (l:List Nd) (n i:Nat):List (List AV):=aCj bd l i++List.replicate (n - i) [.nils,.nils]
theorem bOm {bd:Nd->List Rat}{l:List Nd}{n i:Nat}(h:i<=n):(aGg bd l n i).length=n:=by rw [aGg,List.length_append,aC0,List.length_replicate];omega
theorem bGi {bd:Nd->List Rat}{l:List Nd}{n i j:Nat}(h:j<i):(aGg bd l n i)[j]? =some (tcE bd l j):=by
 rw [aGg,List.getElem?_append_left (by rw [aC0];exact h)];exact aD1 h
theorem bGh {bd:Nd->List Rat}{l:List Nd}{n i j:Nat}(h:i<=j) (hj:j<n):(aGg bd l n i)[j]? =some [.nils,.nils]:=by
 rw [aGg,List.getElem?_append_right (by rw [aC0];exact h),aC0,List.getElem?_replicate,if_pos (by omega)]
theorem bOn {bd:Nd->List Rat}{l:List Nd}{n i:Nat}(h:i<n){c:List AV}(hc:c=tcE bd l i):(aGg bd l n i).set (0+i) c=aGg bd l n (i+1):=by
 rw [Nat.zero_add,aGg,List.set_append_right _ _ (by rw [aC0];exact Nat.le_refl _),aC0,Nat.sub_self,aGg,aNl,List.append_assoc,hc]
 obtain ⟨m,rfl⟩:∃m,n=i+m+1:=⟨n - i - 1,by omega⟩
 rw [show i+m+1 - i=m+1 by omega,show i+m+1 - (i+1)=m by omega,List.replicate_succ]
 rfl
theorem bI0 (bd:Nd->List Rat) (l:List Nd) (n:Nat):List.replicate n [.nils,.nils]=aGg bd l n 0:=by simp [aGg,aCj]
theorem bOl (bd:Nd->List Rat) (l:List Nd) (n:Nat):aGg bd l n n=aCj bd l n:=by simp [aGg]
def aCt (bs:List Bd) (l:List Nd):Bool:=l.all λx=>decide (x.name=⟨#[]⟩) || aDx bs x
theorem aT2 {bd:Nd->List Rat}{g:Gr}(hg:aC1 g=true) (G:aG8 bd g.nodes){i:Nat}{x:Nd}(hx:g.nodes[i]? =some x) (hn:x.name=⟨#[]⟩):
 ∃o:Opc,x.op=o.str/\∃p q:Nat,x.a=(p:Nat)/\x.b=(q:Nat)/\
 ((i=0/\p=0/\q=0/\x.op=aA0/\FitV o x.shape x.k x.n x.data [] [] [] [] (aAk bd g.nodes i))\/
  (p<i/\q<i/\FitV o x.shape x.k x.n x.data (aBv g.nodes (p:Nat)) (aAk bd g.nodes p) (aBv g.nodes (q:Nat)) (aAk bd g.nodes q) (aAk bd g.nodes i))):=by
 obtain ⟨o,ho,F⟩:=aIo hg hx
 have hnn:=(aW1 hg hx).1 hn
 have hm2:=aNi (aFw o)
 refine ⟨o,ho,?_⟩
 rcases Nat.eq_zero_or_pos o.many with h0|h0
 · refine ⟨0,0,F.a0 h0,F.b0 (by omega),?_⟩
   have hc:=bXg hg hx hnn (by rw [ho,aHt];exact h0)
   rcases Nat.eq_zero_or_pos i with hi|hi
   · exact .inl ⟨hi,rfl,rfl,hc,G i x o hx ho hnn _ _ _ _ (λh=>absurd h (by omega)) (λh=>absurd h (by omega))⟩
   · exact .inr ⟨hi,hi,G i x o hx ho hnn _ _ _ _ (λh=>absurd h (by omega)) (λh=>absurd h (by omega))⟩
 · obtain ⟨p,hp1,hp2,hp3⟩:=aDq (F.ia h0)
   rcases Nat.lt_or_ge o.many 2 with h2|h2
   · exact ⟨p,0,hp1,F.b0 h2,.inr ⟨hp2,by omega,G i x o hx ho hnn _ _ _ _ (λ_=>⟨by rw [hp1],by rw [hp1,Int.toNat_natCast]⟩) (λh=>absurd h (by omega))⟩⟩
   · obtain ⟨q,hq1,hq2,hq3⟩:=aDq (F.ib h2)
     exact ⟨p,q,hp1,hq1,.inr ⟨hp2,hq2,G i x o hx ho hnn _ _ _ _ (λ_=>⟨by rw [hp1],by rw [hp1,Int.toNat_natCast]⟩) (λ_=>⟨by rw [hq1],by rw [hq1,Int.toNat_natCast]⟩)⟩⟩
theorem bTq {bs:List Bd}{g:Gr}(hg:aC1 g=true){i:Nat}{x:Nd}(hx:g.nodes[i]? =some x) (hn:x.name≠⟨#[]⟩):aAk (bdB bs) g.nodes i=bdB bs x:=by
 have h:aA7 x.op=true:=by
  cases h:aA7 x.op
  · exact absurd ((aW1 hg hx).2 h) hn
  · rfl
 rw [aFy hx,bAx,h,if_pos rfl]
set_option maxHeartbeats 8000000 in
theorem aZd (bs:List Bd) (g:Gr) (hs:∀x∈g.nodes,x.Sm) (hl:g.nodes.length<=1000) (hbl:bs.length<=1000) (hbs:∀b∈bs,b.Sm) (hG:aC1 g=true->aG8 (bdB bs) g.nodes):
 aAc Tryz.prog GL 25 [.agg g.cells,.ro 3 (aA5 bs)]
  (λy=>y=if aC1 g=true then (if aCt bs g.nodes=true then .tup [.ro 2 (aCj (bdB bs) g.nodes g.nodes.length),.int .i64 0] else .tup [.ro 2 [],.int .i64 10]) else .tup [.ro 2 [],.int .i64 1]):=by
 have hr:=bE1 g hs hl
 refine aAc.taken ?_
 cases hok:aC1 g
 · rw [hok] at hr
   rw [if_neg (by simp)]
   refine vgo bEn Tryz.func25 ?_
   repeat' first|refine sV ⟨?_⟩|refine sq (λh=>⟨?_⟩) λh=>⟨?_⟩|fail
   all_goals (conv=>whnf)
   exact ⟨_,aAf (show aC7 .nils (.ro 2 []) from ⟨2,rfl⟩) rfl,rfl⟩
 have hG:=hG hok
 rw [hok] at hr
 rw [if_pos rfl]
 obtain ⟨h1,h2,q,hq1,hq⟩:=aMd hok
 have hpt:=λ{i:Nat} {x:Nd}=>@aT2 (bdB bs) g hok hG i x
 have hbv:=λ{i:Nat} {x:Nd}=>@bTq bs g hok i x
 have hgx:∀i (h:i<g.nodes.length),g.nodes[i]? =some g.nodes[i]:=λi h=>List.getElem?_eq_getElem h
 have hbo:=λi (h:i<g.nodes.length)=>bRp bs g.nodes[i] hbl hbs (hs _ (List.getElem_mem h))
 have hbad:∀i (h:i<g.nodes.length),g.nodes[i].name≠⟨#[]⟩->aDx bs g.nodes[i]=false->aCt bs g.nodes=false:=λi h h1 h2=>List.all_eq_false.2 ⟨_,List.getElem_mem h,by simp [h1,h2]⟩
 have hgood:(∀ i (h:i<g.nodes.length),g.nodes[i].name≠⟨#[]⟩->aDx bs g.nodes[i]=true)->aCt bs g.nodes=true:=λh=>List.all_eq_true.2 λx hx=>by
  obtain ⟨k,hk,rfl⟩:=List.getElem_of_mem hx
  by_cases hn:g.nodes[k].name=⟨#[]⟩
  · simp [hn]
  · simp [h k hk hn]
 generalize aCt bs g.nodes=T at hbad hgood ⊢
 have hY1:T=true->(if T=true then AV.tup [.ro 2 (aCj (bdB bs) g.nodes g.nodes.length),.int .i64 0] else .tup [.ro 2 [],.int .i64 10])= .tup [.ro 2 (aCj (bdB bs) g.nodes g.nodes.length),.int .i64 0]:=λh=>if_pos h
 have hY2:T=false->(if T=true then AV.tup [.ro 2 (aCj (bdB bs) g.nodes g.nodes.length),.int .i64 0] else .tup [.ro 2 [],.int .i64 10])= .tup [.ro 2 [],.int .i64 10]:=λh=>if_neg (by simp [h])
 generalize (if T=true then AV.tup [.ro 2 (aCj (bdB bs) g.nodes g.nodes.length),.int .i64 0] else .tup [.ro 2 [],.int .i64 10])=Z at hY1 hY2 ⊢
 generalize hbd:bdB bs=bd at*
 clear hG hok hbd
 obtain ⟨l,p⟩:=g
 dsimp only at*
 show aAc _ _ _ [.agg [.ro 8 (aAv l),.int .i64 p],_] _
 have hlr:=rowN_length l
 have hbr:=aBk bs
 have hGL:∀i (h:i<l.length),aBv l (i:Nat)=l[i].shape:=λi h=>aAp h
 refine vgo bEn Tryz.func25 ?_
 repeat' first|refine sV ⟨?_⟩|refine sq (λh=>⟨?_⟩) λh=>⟨?_⟩|fail
 refine ⟨by omega,Int.le_refl _,by omega,(show ((aAv l).length:Int)*((48:Nat):Int)<=140737488355328 by omega),l.length,congrArg Nat.cast hlr,?_⟩
 repeat' first|refine sV ⟨?_⟩|refine sq (λh=>⟨?_⟩) λh=>⟨?_⟩|fail
 refine ⟨[1,6,21,22,23],[1],λm st=>∃i:Nat,i<=l.length/\m=l.length - i/\(∀ j (h:j<l.length),j<i->l[j].name≠⟨#[]⟩->aDx bs l[j]=true)/\
  st=⟨[(1,.ro 3 (aA5 bs)),(6,.own 0 0 l.length),(21,.ro 8 (aAv l)),(22,.int .i64 ((aAv l).length:Nat)),(23,.int .i64 ((i:Nat)))],[.row false 40 2 (aGg bd l l.length i)]⟩,rfl,⟨l.length,0,by omega,rfl,λj h h0=>absurd h0 (Nat.not_lt_zero _),?_⟩,?_⟩
 · exact Eq.trans rfl (congrArg (λz:List (List AV)=>(⟨[(1,.ro 3 (aA5 bs)),(6,.own 0 0 l.length),(21,.ro 8 (aAv l)),(22,.int .i64 ((aAv l).length:Nat)),(23,.int .i64 (((0:Nat):Int)))],[.row false 40 2 z]⟩:St)) (bI0 bd l l.length))
 rintro m _ ⟨i,hi,hm,hall,rfl⟩
 have htl:=bOm (bd:=bd) (l:=l) hi
 rcases Nat.lt_or_ge i l.length with hil|hge
 · have hx:=hgx i hil
   have g1:=aB1 hil
   have hset:(aGg bd l l.length i).set (0+i) [.ro 1 (aAh l[i].shape),.ro 1 (aAj (aAk bd l i))]=aGg bd l l.length (i+1):=bOn hil (by rw [tcE,hGL i hil])
   have hend:∀{c:List (List AV)},c=aGg bd l l.length (i+1)->(⟨[(1,.ro 3 (aA5 bs)),(6,.own 0 0 l.length),(21,.ro 8 (aAv l)),(22,.int .i64 ((aAv l).length:Nat)),(23,.int .i64 (((i+1:Nat):Int)))],[.row false 40 2 c]⟩:St)=⟨[(1,.ro 3 (aA5 bs)),(6,.own 0 0 l.length),(21,.ro 8 (aAv l)),(22,.int .i64 ((aAv l).length:Nat)),(23,.int .i64 (((i+1:Nat):Int)))],[.row false 40 2 (aGg bd l l.length (i+1))]⟩:=λh=>by rw [h]
   have gi:(aGg bd l l.length i)[0+i]? =some [.nils,.nils]:=by rw [Nat.zero_add];exact bGh (Nat.le_refl _) hil
   have hnx:(l[i].name≠⟨#[]⟩->aDx bs l[i]=true)->∀j (h:j<l.length),j<i+1->l[j].name≠⟨#[]⟩->aDx bs l[j]=true:=λh j hj hji=>(Nat.lt_succ_iff_lt_or_eq.1 hji).elim (hall j hj) (λe=>by subst e;exact h)
   have hb:=hbo i hil
   have hbd:=hbad i hil
   by_cases hn:l[i].name=⟨#[]⟩
   · have hnx:=hnx λh=>absurd hn h
     obtain ⟨o,ho,p1,q1,hp,hq',hcase⟩:=hpt hx hn
     generalize aAk bd l i=V at hset hcase
     generalize l[i]=x at g1 hset hn ho hp hq' hcase
     obtain ⟨op,A,B,name,s,k,n,d⟩:=x
     dsimp only at hset hn ho hp hq' hcase
     subst hn ho hp hq'
     rcases hcase with ⟨rfl,rfl,rfl,_,hfit⟩|⟨hp2,hq2,hfit⟩
     · have hnode:=bDc ((0:Nat):Int) ((0:Nat):Int) ⟨#[]⟩ hfit
       unfold aBn aAs at hnode
       have ga:(aGg bd l l.length 0)[0+0]? =some [.nils,.nils]:=bGh (Nat.le_refl _) hil
       repeat' first|refine sV ⟨?_⟩|refine sq (λh=>⟨?_⟩) λh=>⟨?_⟩|fail
       refine ⟨by decide +kernel,[0,0,0,4,14,30,0,0,128,448,960,2047,4095,8191,8191,0,49151,131071],by decide +kernel,?_⟩
       repeat' first|refine sV ⟨?_⟩|refine sq (λh=>⟨?_⟩) λh=>⟨?_⟩|fail
       all_goals exact ⟨[0],l.length - (0+1),rfl,by omega,0+1,by omega,rfl,hnx,Eq.trans rfl (hend hset)⟩
     · have hnode:=bDc ((p1:Nat):Int) ((q1:Nat):Int) ⟨#[]⟩ hfit
       unfold aBn aAs at hnode
       have ga:(aGg bd l l.length i)[0+p1]? =some [.ro 1 (aAh (aBv l (p1:Nat))),.ro 1 (aAj (aAk bd l p1))]:=by rw [Nat.zero_add];exact bGi hp2
       have gb:(aGg bd l l.length i)[0+q1]? =some [.ro 1 (aAh (aBv l (q1:Nat))),.ro 1 (aAj (aAk bd l q1))]:=by rw [Nat.zero_add];exact bGi hq2
       repeat' first|refine sV ⟨?_⟩|refine sq (λh=>⟨?_⟩) λh=>⟨?_⟩|fail
       refine ⟨by decide +kernel,[0,0,0,4,14,30,0,0,128,448,960,2047,4095,8191,8191,0,49151,131071],by decide +kernel,?_⟩
       repeat' first|refine sV ⟨?_⟩|refine sq (λh=>⟨?_⟩) λh=>⟨?_⟩|fail
       all_goals exact ⟨[0],l.length - (i+1),rfl,by omega,i+1,by omega,rfl,hnx,Eq.trans rfl (hend hset)⟩
   · have hv:=hbv hx hn
     rw [hv] at hset
     have hbd:=hbd hn
     generalize bd l[i]=V at hset hb
     generalize aDx bs l[i]=ok at hb hbd hnx
     generalize l[i]=x at g1 hset hn hb hnx
     obtain ⟨op,A,B,name,s,k,n,d⟩:=x
     dsimp only at hset hn hb
     cases ok
     · rw [if_neg (by simp)] at hb
       have hT:=hY2 (hbd rfl)
       unfold aSg at hb
       repeat' first|refine sV ⟨?_⟩|refine sq (λh=>⟨?_⟩) λh=>⟨?_⟩|fail
       all_goals (conv=>whnf)
       all_goals exact ⟨_,aAf (show aC7 .nils (.ro 2 []) from ⟨2,rfl⟩) rfl,hT.symm⟩
     · rw [if_pos rfl] at hb
       have hnx:=hnx λ_=>rfl
       unfold aAs at hb
       repeat' first|refine sV ⟨?_⟩|refine sq (λh=>⟨?_⟩) λh=>⟨?_⟩|fail
       all_goals exact ⟨[0],l.length - (i+1),rfl,by omega,i+1,by omega,rfl,hnx,Eq.trans rfl (hend hset)⟩
 · have hl2:i=l.length:=by omega
   subst hl2
   have hT:=hY1 (hgood λj h=>hall j h h)
   repeat' first|refine sV ⟨?_⟩|refine sq (λh=>⟨?_⟩) λh=>⟨?_⟩|fail
   conv=>whnf
   refine .inl ⟨by omega,?_⟩
   repeat' first|refine sV ⟨?_⟩|refine sq (λh=>⟨?_⟩) λh=>⟨?_⟩|fail
   all_goals (conv=>whnf)
   all_goals exact ⟨_,aAf rfl rfl,(congrArg (λz:List (List AV)=>AV.tup [.ro 2 z,.int .i64 0]) (bOl bd l l.length)).trans hT.symm⟩
end Go.V
namespace Go.V
open Go.N Go.Proofs
set_option maxRecDepth 20000
mutual
theorem aIv:∀x:AV,bPf x x
 | .nils=>.inl rfl
 | .ro sz es=>⟨es,rfl,aPn es⟩
 | .agg cs=>⟨cs,rfl,aJ0 cs⟩
 | .j| .u| .int _ _| .bool _| .str _| .nili| .tup _| .fr _ _ _| .own _ _ _| .ptr _ _ _| .bptr _ _| .map _| .rp _| .fn _ _| .iface _ _=>by simp only [bPf]
theorem aJ0:∀xs:List AV,aLg xs xs
 |[]=>rfl
 |x::xs=>⟨x,xs,rfl,aIv x,aJ0 xs⟩
theorem aPn:∀xs:List (List AV),aKp xs xs
 |[]=>rfl
 |x::xs=>⟨x,xs,rfl,aJ0 x,aPn xs⟩
end
theorem aDa (sz:Nat):bPf .nils (.ro sz []):=.inr ⟨sz,rfl⟩
end Go.V
namespace Go.V
open Go.N Go.Proofs
set_option maxRecDepth 20000
theorem bI5 {x:Rat}(h:MM x<=10 ^ 400):(aAw x).size<=1000:=by
 have h0:=bT6 x
 have h1:ht x<10 ^ 400:=by
  unfold MM at h
  generalize 10 ^ 400=T at h ⊢
  omega
 have h2:x.num.natAbs<10 ^ 400:=Nat.lt_of_le_of_lt (Nat.le_max_left _ _) h1
 have h3:x.den<10 ^ 400:=Nat.lt_of_le_of_lt (Nat.le_max_right _ _) h1
 have h4:=(aAn _ _ (by decide)).2 h2
 have h5:=(aAn _ _ (by decide)).2 h3
 have:=bAp x
 omega
end Go.V
namespace Go.V
open Go.N Go.Proofs
set_option maxRecDepth 20000
theorem aKj {l:List Bd}{i:Nat}(h:i<l.length):aA5 (l.take (i+1))=List.take (aA5 (l.take i)).length (aA5 (l.take i))++[l[i].cells]:=by
 rw [List.take_length,List.take_succ_eq_append_getElem h];unfold aA5;rw [List.map_append];rfl
noncomputable def aGc (bs:List Bd) (g:Gr):Rat:=atR (aAk (bdB bs) g.nodes g.loss.toNat) 0
theorem aWx {bs:List Bd}{g:Gr}(hg:aC1 g=true) (hlen:∀j x,g.nodes[j]? =some x->(((aAk (bdB bs) g.nodes j).length:Nat):Int)=aA8 x.shape){q:Nat}(hq1:g.loss=q) (hq:q<g.nodes.length):aAk (bdB bs) g.nodes q=[aGc bs g]:=by
 have hs:aBv g.nodes g.loss=[]:=by
  simp only [aC1,bBc,Bool.and_eq_true,decide_eq_true_eq] at hg
  exact hg.1.2
 rw [hq1,aAp hq] at hs
 have hl:=hlen q _ (List.getElem?_eq_getElem hq)
 rw [hs,show aA8 []=1 from rfl] at hl
 obtain ⟨v,hv⟩:∃v,aAk (bdB bs) g.nodes q=[v]:=List.length_eq_one_iff.1 (by omega)
 rw [aGc,hq1,Int.toNat_natCast,hv];rfl
def B12:List Bd:=[⟨⟨#[119]⟩,[],[⟨#[51]⟩]⟩]
theorem bJn:∀b∈B12,b.Sm:=λb hb=>by
 simp only [B12,List.mem_cons,List.not_mem_nil,or_false] at hb
 subst hb
 exact ⟨by decide,by decide,by decide,λd hd=>by simp at hd;subst hd;decide⟩
theorem aFa {bd:Nd->List Rat}{l:List Nd}{c:Nat}(G:Given bd l c):∀j x,l[j]? =some x->(((aAk bd l j).length:Nat):Int)=aA8 x.shape:=λj x hx=>(bFg G j x hx).len
end Go.V
