/-
  Lemmas (part 26) for: the statement.
-/
import Derived.Test.YtphnnbfgiomaoaaGreatDoorFive14
import Derived.Test.YtphnnbfgiomaoaaGreatDoorFive17
set_option linter.all false
namespace Go.V
open Go.N Go.Proofs
set_option maxRecDepth 20000
def fI (n:Nat) (L:Nat->Int):List (List AV):=(List.range n).map λj=>[.int .i64 (L j)]
@[simp] theorem fI_len (n:Nat) (L:Nat->Int):(fI n L).length=n:=by simp [fI]
theorem cIi {n k:Nat}{L:Nat->Int}(h:k<n):(fI n L)[k]? =some [.int .i64 (L k)]:=by simp [fI,h]
def cIl (L:Nat->Int) (k:Nat) (v:Int):Nat->Int:=λj=>if j=k then v else L j
theorem cIc (n k:Nat) (L:Nat->Int) (v:Int):(fI n L).set (0+k) [.int .i64 v]=fI n (cIl L k v):=by
 rw [Nat.zero_add]
 refine List.ext_getElem (by simp) λi h1 h2=>?_
 simp only [List.length_set,fI_len] at h1
 rw [List.getElem_set]
 simp only [fI,List.getElem_map,List.getElem_range,cIl]
 by_cases h:k=i
 · subst h;simp
 · rw [if_neg h,if_neg (λe=>h e.symm)]
theorem cNj (n:Nat):List.replicate n [.int .i64 0]=fI n λ_=>0:=by simp [fI,List.map_const']
theorem cI1 (L:Nat->Int) (k:Nat) (v:Int):cIl L k v k=v:=if_pos rfl
theorem cIu (L:Nat->Int) (k:Nat) (v:Int) (j:Nat):cIl L k v j=v\/cIl L k v j=L j:=by unfold cIl;split<;>simp
def cIy (L:Nat->Int) (x:Nd) (i:Nat):Nat->Int:=match aBh x.op with
 |some 1=>cIl (cIl L i i) x.a.toNat i
 |some 2=>cIl (cIl (cIl L i i) x.b.toNat i) x.a.toNat i
 |_=>cIl L i i
def cIj (l:List Nd):Nat->Nat->Int
 |0=>λ_=>0
 |i+1=>match l[i]? with
  |some x=>cIy (cIj l i) x i
  |none=>cIj l i
theorem cK8 {l:List Nd}{i:Nat}{x:Nd}(h:l[i]? =some x):cIj l (i+1)=cIy (cIj l i) x i:=by simp only [cIj,h]
theorem cMx {x:Nd}(h:aBh x.op=some 0) (L:Nat->Int) (i:Nat):cIy L x i=cIl L i i:=by rw [cIy,h];rfl
theorem cIs {x:Nd}(h:aBh x.op=some 1) (L:Nat->Int) (i:Nat):cIy L x i=cIl (cIl L i i) x.a.toNat i:=by rw [cIy,h];rfl
theorem cJv {x:Nd}(h:aBh x.op=some 2) (L:Nat->Int) (i:Nat):cIy L x i=cIl (cIl (cIl L i i) x.b.toNat i) x.a.toNat i:=by rw [cIy,h];rfl
theorem cMa (L:Nat->Int) (x:Nd) (i:Nat):cIy L x i=cIl L i i\/cIy L x i=cIl (cIl L i i) x.a.toNat i\/cIy L x i=cIl (cIl (cIl L i i) x.b.toNat i) x.a.toNat i:=by
 unfold cIy
 split
 · exact .inr (.inl rfl)
 · exact .inr (.inr rfl)
 · exact .inl rfl
theorem cNa (L:Nat->Int) (x:Nd) (i j:Nat):cIy L x i j=i\/cIy L x i j=L j:=by
 rcases cMa L x i with h|h|h<;>rw [h]
 · exact cIu L i i j
 · rcases cIu (cIl L i i) x.a.toNat i j with h|h
   · exact .inl h
   · rw [h];exact cIu L i i j
 · rcases cIu (cIl (cIl L i i) x.b.toNat i) x.a.toNat i j with h|h
   · exact .inl h
   · rw [h]
     rcases cIu (cIl L i i) x.b.toNat i j with h|h
     · exact .inl h
     · rw [h];exact cIu L i i j
theorem cMr {x:Nd}{m:Nat}(hp:aBh x.op=some m){L:Nat->Int}{i j:Nat}(h:(j:Int)∈cEp x):cIy L x i j=i:=by
 have hm:=aNi hp
 have h3:m=0\/m=1\/m=2:=by omega
 rcases h3 with rfl|rfl|rfl
 · rw [dP0 hp] at h;simp at h
 · rw [dP1 hp,List.mem_singleton] at h
   rw [cIs hp,<-h,Int.toNat_natCast]
   exact cI1 _ _ _
 · rw [dP2 hp,List.mem_cons,List.mem_singleton] at h
   rw [cJv hp]
   rcases cIu (cIl (cIl L i i) x.b.toNat i) x.a.toNat i j with h2|h2
   · exact h2
   · rcases h with h|h
     · rw [<- h,Int.toNat_natCast];exact cI1 _ _ _
     · rw [h2,<-h,Int.toNat_natCast];exact cI1 _ _ _
theorem cNb {l:List Nd}{i j:Nat}{x:Nd}(hx:l[i]? =some x){m':Nat}(hp:aBh x.op=some m') (h:(j:Int)∈cEp x):∀m,i<m->m<=l.length->(i:Int)<=cIj l m j:=λm=>by
 induction m with
 |zero=>intro h;exact absurd h (Nat.not_lt_zero _)
 |succ m ih=>
  intro h1 h2
  have hm:l[m]? =some l[m]:=List.getElem?_eq_getElem (by omega)
  rw [cK8 hm]
  rcases Nat.lt_or_ge i m with h3|h3
  · have:=ih h3 (by omega)
    rcases cNa (cIj l m) l[m] m j with e|e<;>rw [e]<;>omega
  · obtain rfl:i=m:=by omega
    rw [hx] at hm
    rw [<- Option.some.inj hm,cMr hp h];exact Int.le_refl _
def cI4 (n:Nat) (L:Nat->Int) (ks:List Int):Nat->Int:=ks.foldl (λL k=>cIl L k.toNat n) L
theorem cLp (n:Nat) (j:Nat):∀(ks:List Int) (L:Nat->Int),cI4 n L ks j=n\/cI4 n L ks j=L j
 |[],L=>.inr rfl
 |k::ks,L=>by
  rcases cLp n j ks (cIl L k.toNat n) with h|h
  · exact .inl h
  · rcases cIu L k.toNat n j with h2|h2
    · exact .inl (h.trans h2)
    · exact .inr (h.trans h2)
theorem cMc (n:Nat) (j:Nat):∀(ks:List Int) (L:Nat->Int),(j:Int)∈ks->cI4 n L ks j=n
 |[],L,h=>by simp at h
 |k::ks,L,h=>by
  rcases cLp n j ks (cIl L k.toNat n) with e|e
  · exact e
  · rcases List.mem_cons.1 h with h|h
    · refine e.trans ?_
      rw [<- h,Int.toNat_natCast];exact cI1 _ _ _
    · exact cMc n j ks _ h
noncomputable def cI0 (g:Gr) (keep:List Int):Nat->Int:=cI4 g.nodes.length (cIj g.nodes g.nodes.length) (g.loss::keep)
theorem cMw {g:Gr}{keep:List Int}{i j:Nat}{x:Nd}(hx:g.nodes[i]? =some x){m':Nat}(hp:aBh x.op=some m') (h:(j:Int)∈cEp x):(i:Int)<=cI0 g keep j:=by
 have hi:=(List.getElem?_eq_some_iff.1 hx).1
 have h1:=cNb hx hp h g.nodes.length hi (Nat.le_refl _)
 rw [cI0]
 rcases cLp g.nodes.length j (g.loss::keep) (cIj g.nodes g.nodes.length) with e|e<;>rw [e]<;>omega
theorem cMp {g:Gr}{keep:List Int}{j:Nat}(h:(j:Int)∈g.loss::keep):cI0 g keep j=g.nodes.length:=cMc _ _ _ _ h
def cIz (u:List Int) (i:Nat):Option Nat:=u.findIdx? λz=>decide (z<=(i:Int))
theorem cIm {u:List Int}{i a:Nat}(h:cIz u i=some a):∃ha:a<u.length,u[a]<=(i:Int)/\∀j (hj:j<u.length),j<a->¬u[j]<=(i:Int):=by
 rw [cIz,List.findIdx?_eq_some_iff_getElem] at h
 obtain ⟨h1,h2,h3⟩:=h
 exact ⟨h1,by simpa using h2,λj hj hja=>by simpa using h3 j hja⟩
theorem cMs {u:List Int}{i:Nat}(h:cIz u i=none):∀j (hj:j<u.length),¬u[j]<=(i:Int):=λj hj=>by
 rw [cIz,List.findIdx?_eq_none_iff] at h
 simpa using h u[j] (List.getElem_mem hj)
def cIb (L:Nat->Int):Nat->List Int
 |0=>[]
 |i+1=>match cIz (cIb L i) i with
  |some a=>(cIb L i).set a (L i)
  |none=>cIb L i++[L i]
def cIe (L:Nat->Int) (i:Nat):Nat:=(cIz (cIb L i) i).getD (cIb L i).length
theorem cIp {L:Nat->Int}{i a:Nat}(h:cIz (cIb L i) i=some a):cIb L (i+1)=(cIb L i).set a (L i)/\cIe L i=a:=⟨by simp only [cIb,h],by rw [cIe,h];rfl⟩
theorem cIo {L:Nat->Int}{i:Nat}(h:cIz (cIb L i) i=none):cIb L (i+1)=cIb L i++[L i]/\cIe L i=(cIb L i).length:=⟨by simp only [cIb,h],by rw [cIe,h];rfl⟩
theorem cL4 (L:Nat->Int) (i:Nat):(cIb L i).length<=(cIb L (i+1)).length/\(cIb L (i+1)).length<=(cIb L i).length+1/\cIe L i<(cIb L (i+1)).length:=by
 cases h:cIz (cIb L i) i with
 |some a=>
  obtain ⟨e1,e2⟩:=cIp h
  obtain ⟨ha,_⟩:=cIm h
  rw [e1,e2,List.length_set];omega
 |none=>
  obtain ⟨e1,e2⟩:=cIo h
  rw [e1,e2,List.length_append,List.length_singleton];omega
theorem cLs (L:Nat->Int):∀i,(cIb L i).length<=i
 |0=>Nat.le_refl _
 |i+1=>by have:=cLs L i;have:=cL4 L i;omega
theorem cM2 (L:Nat->Int){j:Nat}:∀{n:Nat},j<n->cIe L j<(cIb L n).length
 |0,h=>absurd h (Nat.not_lt_zero _)
 |n+1,h=>by
  have h1:=cL4 L n
  rcases Nat.lt_or_ge j n with h2|h2
  · have:=cM2 L h2;omega
  · obtain rfl:j=n:=by omega
    exact h1.2.2
def cIk (L:Nat->Int):Nat->Nat->Option Nat
 |0,_=>none
 |i+1,s=>if s=cIe L i then some i else cIk L i s
theorem cNg (L:Nat->Int):∀(i j:Nat),j<i->(i:Int)<=L j->(cIb L i)[cIe L j]? =some (L j)/\cIk L i (cIe L j)=some j
 |0,j,h,_=>absurd h (Nat.not_lt_zero _)
 |i+1,j,h,hL=>by
  rcases Nat.lt_or_ge j i with h1|h1
  · obtain ⟨a1,a2⟩:=cNg L i j h1 (by omega)
    have hj:=(List.getElem?_eq_some_iff.1 a1).1
    have hv:=(List.getElem?_eq_some_iff.1 a1).2
    have hne:cIe L j≠cIe L i:=by
     cases hp:cIz (cIb L i) i with
     |some a=>
      obtain ⟨e1,e2⟩:=cIp hp
      obtain ⟨ha,h3,_⟩:=cIm hp
      intro e
      rw [e2] at e
      subst e
      rw [hv] at h3
      omega
     |none=>
      obtain ⟨e1,e2⟩:=cIo hp
      rw [e2];omega
    refine ⟨?_,by rw [cIk,if_neg hne];exact a2⟩
    cases hp:cIz (cIb L i) i with
    |some a=>
     obtain ⟨e1,e2⟩:=cIp hp
     rw [e1,List.getElem?_set_ne (by rw [<- e2];exact λe=>hne e.symm)];exact a1
    |none=>
     obtain ⟨e1,e2⟩:=cIo hp
     rw [e1,List.getElem?_append_left hj];exact a1
  · obtain rfl:j=i:=by omega
    refine ⟨?_,by rw [cIk,if_pos rfl]⟩
    cases hp:cIz (cIb L j) j with
    |some a=>
     obtain ⟨e1,e2⟩:=cIp hp
     obtain ⟨ha,_⟩:=cIm hp
     rw [e1,e2,List.getElem?_set_self ha]
    |none=>
     obtain ⟨e1,e2⟩:=cIo hp
     rw [e1,e2,List.getElem?_append_right (Nat.le_refl _),Nat.sub_self];rfl
noncomputable def slC (bd:Nd->List Rat) (l:List Nd):Option Nat->List AV
 |some j=>tcE bd l j
 |none=>[.nils,.nils]
noncomputable def cIn (bd:Nd->List Rat) (l:List Nd) (L:Nat->Int) (c i:Nat):List (List AV):=(List.range c).map λs=>slC bd l (cIk L i s)
theorem cJy (bd:Nd->List Rat) (l:List Nd) (L:Nat->Int) (c i:Nat):(cIn bd l L c i).length=c:=by simp [cIn]
theorem cIt {bd:Nd->List Rat}{l:List Nd}{L:Nat->Int}{c i s:Nat}(h:s<c):(cIn bd l L c i)[0+s]? =some (slC bd l (cIk L i s)):=by rw [Nat.zero_add];simp [cIn,h]
theorem cMt (bd:Nd->List Rat) (l:List Nd) (L:Nat->Int) (c:Nat):List.replicate c [.nils,.nils]=cIn bd l L c 0:=by simp [cIn,cIk,slC,List.map_const']
theorem cM0 {bd:Nd->List Rat}{l:List Nd}{L:Nat->Int}{c i:Nat}{t:List AV}(h:t=tcE bd l i):(cIn bd l L c i).set (0+cIe L i) t=cIn bd l L c (i+1):=by
 rw [Nat.zero_add]
 refine List.ext_getElem (by rw [List.length_set,cJy,cJy]) λs h1 h2=>?_
 rw [List.getElem_set]
 simp only [cIn,List.getElem_map,List.getElem_range,cIk]
 by_cases h3:cIe L i=s
 · rw [if_pos h3,if_pos h3.symm,h];rfl
 · rw [if_neg h3,if_neg (λe=>h3 e.symm)]
end Go.V
namespace Go.V
open Go.N Go.Proofs
set_option maxRecDepth 20000
def cNe:Tab:=[(24,i24),(27,i27),(3,i3),(28,i28),(22,i22),(34,i34),(9,i9)]
theorem cLw:TOK Tryz.prog cNe:=⟨K24,⟨K27,⟨K3,⟨K28,⟨K22,⟨K34,⟨K9,trivial⟩⟩⟩⟩⟩⟩⟩
theorem cMq (n:Nat) (L:Nat->Int) (ks:List Int){i:Nat}(h:i<ks.length):cI4 n L (ks.take (i+1))=cIl (cI4 n L (ks.take i)) (ks[i]).toNat n:=by
 rw [cI4,cI4,List.take_succ_eq_append_getElem h,List.foldl_append];rfl
set_option maxHeartbeats 8000000 in
theorem cNh (g:Gr) (keep:List Int) (hs:∀x∈g.nodes,x.Sm) (hl:g.nodes.length<=1000) (hk:keep.length<=1000):
 aAc Tryz.prog GL 124 [.agg g.cells,.ro 1 (aAh keep)] (λy=>y=if cEu g keep=true then .tup [.ro 1 (fI g.nodes.length (cI0 g keep)),.int .i64 0] else .tup [.ro 1 [],.int .i64 1]):=by
 have hnd:=cG7 g keep hs hl hk
 refine aAc.taken ?_
 cases hok:cEu g keep
 · rw [hok,if_neg (by simp)] at hnd
   rw [if_neg (by simp)]
   obtain ⟨l,p⟩:=g
   refine vgo cLw Tryz.func124 ?_
   repeat' first|refine sV ⟨?_⟩|refine sq (λh=>⟨?_⟩) λh=>⟨?_⟩|fail
   all_goals (conv=>whnf)
   all_goals exact ⟨_,aAf (show aC7 .nils (.ro 1 []) from ⟨1,rfl⟩) rfl,rfl⟩
 rw [hok,if_pos rfl] at hnd
 rw [if_pos rfl]
 have hg:aC1 g=true:=by simp only [cEu,Bool.and_eq_true] at hok;exact hok.1
 have hkk:cEx g keep=true:=by simp only [cEu,Bool.and_eq_true] at hok;exact hok.2
 have hke:=λ{x:Int}=>@cE7 g keep hkk x
 obtain ⟨h1,h2,q,hq1,hq⟩:=aMd hg
 have hop1:=λ{i:Nat} {x:Nd}=>@aIo g hg i x
 have hpt:=λ{i:Nat} {x:Nd}=>@cE1 g hg i x
 have hgx:∀i (h:i<g.nodes.length),g.nodes[i]? =some g.nodes[i]:=λi h=>List.getElem?_eq_getElem h
 have hF:cI0 g keep=cI4 g.nodes.length (cIj g.nodes g.nodes.length) (g.loss::keep):=rfl
 generalize NB g keep=N at hnd
 generalize cI0 g keep=LF at hF ⊢
 clear hok hg hkk
 obtain ⟨l,p⟩:=g
 dsimp only at hs hl hnd h1 h2 hq1 hq hop1 hpt hgx hke hF ⊢
 subst hq1
 show aAc _ _ _ [.agg [.ro 8 (aAv l),.int .i64 (q:Nat)],_] _
 have hlr:=rowN_length l
 have hkr:=rowZ_length keep
 refine vgo cLw Tryz.func124 ?_
 repeat' first|refine sV ⟨?_⟩|refine sq (λh=>⟨?_⟩) λh=>⟨?_⟩|fail
 refine ⟨by omega,Int.le_refl _,by omega,(show ((aAv l).length:Int)*((8:Nat):Int)<=140737488355328 by omega),l.length,congrArg Nat.cast hlr,?_⟩
 repeat' first|refine sV ⟨?_⟩|refine sq (λh=>⟨?_⟩) λh=>⟨?_⟩|fail
 refine ⟨[1,2,8,27,28,29],[0,1],λm st=>∃i:Nat,i<=l.length/\m=l.length - i/\
  st=⟨[(1,.ro 1 (aAh keep)),(2,.bptr 0 0),(8,.own 1 0 l.length),(27,.ro 8 (aAv l)),(28,.int .i64 ((aAv l).length:Nat)),(29,.int .i64 (i:Nat))],[.box 24 [.ro 8 (aAv l),.int .i64 (q:Nat)],.row false 3 1 (fI l.length (cIj l i))]⟩,rfl,⟨l.length,0,by omega,rfl,?_⟩,?_⟩
 · exact Eq.trans rfl (congrArg (λz:List (List AV)=>(⟨[(1,.ro 1 (aAh keep)),(2,.bptr 0 0),(8,.own 1 0 l.length),(27,.ro 8 (aAv l)),(28,.int .i64 ((aAv l).length:Nat)),(29,.int .i64 ((0:Nat):Int))],[.box 24 [.ro 8 (aAv l),.int .i64 (q:Nat)],.row false 3 1 z]⟩:St)) (cNj l.length))
 rintro m _ ⟨i,hi,hm,rfl⟩
 rcases Nat.lt_or_ge i l.length with hil|hge
 · have hx:=hgx i hil
   have g1:=aB1 hil
   have hst:=cK8 hx
   obtain ⟨o,ho,F⟩:=hop1 hx
   have hpp:=hpt hx
   have hfl:=fI_len l.length (cIj l i)
   have gi:(fI l.length (cIj l i))[0+i]? =some [.int .i64 (cIj l i i)]:=by rw [Nat.zero_add];exact cIi hil
   have hop:aBh l[i].op=some o.many:=by rw [ho,aFw]
   generalize cIj l i=L at hst hfl gi
   generalize l[i]=x at g1 hst ho hpp hop
   clear F hx
   have h3:o.many=0\/o.many=1\/o.many=2:=by have:=aNi hop;omega
   rcases h3 with hm0|hm0|hm0
   · rw [hm0] at hop
     obtain ⟨op,A,B,name,s,k,n,d⟩:=x
     dsimp only at ho
     subst ho
     cases o<;>first|(exact absurd hm0 (by decide))|skip
     · have hs1:(fI l.length L).set (0+i) [.int .i64 (i:Nat)]=fI l.length (cIj l (i+1)):=by rw [hst,cMx hop,cIc]
       repeat' first|refine sV ⟨?_⟩|refine sq (λh=>⟨?_⟩) λh=>⟨?_⟩|fail
       all_goals exact ⟨[0,1],l.length - (i+1),rfl,by omega,i+1,by omega,rfl,Eq.trans rfl (congrArg (λz:List (List AV)=>(⟨[(1,.ro 1 (aAh keep)),(2,.bptr 0 0),(8,.own 1 0 l.length),(27,.ro 8 (aAv l)),(28,.int .i64 ((aAv l).length:Nat)),(29,.int .i64 ((i+1:Nat):Int))],[.box 24 [.ro 8 (aAv l),.int .i64 (q:Nat)],.row false 3 1 z]⟩:St)) hs1)⟩
     · have hs1:(fI l.length L).set (0+i) [.int .i64 (i:Nat)]=fI l.length (cIj l (i+1)):=by rw [hst,cMx hop,cIc]
       repeat' first|refine sV ⟨?_⟩|refine sq (λh=>⟨?_⟩) λh=>⟨?_⟩|fail
       all_goals exact ⟨[0,1],l.length - (i+1),rfl,by omega,i+1,by omega,rfl,Eq.trans rfl (congrArg (λz:List (List AV)=>(⟨[(1,.ro 1 (aAh keep)),(2,.bptr 0 0),(8,.own 1 0 l.length),(27,.ro 8 (aAv l)),(28,.int .i64 ((aAv l).length:Nat)),(29,.int .i64 ((i+1:Nat):Int))],[.box 24 [.ro 8 (aAv l),.int .i64 (q:Nat)],.row false 3 1 z]⟩:St)) hs1)⟩
     · have hs1:(fI l.length L).set (0+i) [.int .i64 (i:Nat)]=fI l.length (cIj l (i+1)):=by rw [hst,cMx hop,cIc]
       repeat' first|refine sV ⟨?_⟩|refine sq (λh=>⟨?_⟩) λh=>⟨?_⟩|fail
       all_goals exact ⟨[0,1],l.length - (i+1),rfl,by omega,i+1,by omega,rfl,Eq.trans rfl (congrArg (λz:List (List AV)=>(⟨[(1,.ro 1 (aAh keep)),(2,.bptr 0 0),(8,.own 1 0 l.length),(27,.ro 8 (aAv l)),(28,.int .i64 ((aAv l).length:Nat)),(29,.int .i64 ((i+1:Nat):Int))],[.box 24 [.ro 8 (aAv l),.int .i64 (q:Nat)],.row false 3 1 z]⟩:St)) hs1)⟩
   · rw [hm0] at hop
     rw [dP1 hop] at hpp
     obtain ⟨u,hu1,hu2⟩:=hpp _ (List.mem_singleton_self _)
     obtain ⟨op,A,B,name,s,k,n,d⟩:=x
     dsimp only at ho hu1
     subst ho hu1
     cases o<;>first|(exact absurd hm0 (by decide))|skip
     · have g2:((fI l.length L).set (0+i) [.int .i64 (i:Nat)])[0+u]? =some [.int .i64 (cIl L i i u)]:=by rw [cIc,Nat.zero_add];exact cIi (by omega)
       have hs1:((fI l.length L).set (0+i) [.int .i64 (i:Nat)]).set (0+u) [.int .i64 (i:Nat)]=fI l.length (cIj l (i+1)):=by rw [hst,cIs hop,cIc,cIc];rfl
       repeat' first|refine sV ⟨?_⟩|refine sq (λh=>⟨?_⟩) λh=>⟨?_⟩|fail
       all_goals exact ⟨[0,1],l.length - (i+1),rfl,by omega,i+1,by omega,rfl,Eq.trans rfl (congrArg (λz:List (List AV)=>(⟨[(1,.ro 1 (aAh keep)),(2,.bptr 0 0),(8,.own 1 0 l.length),(27,.ro 8 (aAv l)),(28,.int .i64 ((aAv l).length:Nat)),(29,.int .i64 ((i+1:Nat):Int))],[.box 24 [.ro 8 (aAv l),.int .i64 (q:Nat)],.row false 3 1 z]⟩:St)) hs1)⟩
     · have g2:((fI l.length L).set (0+i) [.int .i64 (i:Nat)])[0+u]? =some [.int .i64 (cIl L i i u)]:=by rw [cIc,Nat.zero_add];exact cIi (by omega)
       have hs1:((fI l.length L).set (0+i) [.int .i64 (i:Nat)]).set (0+u) [.int .i64 (i:Nat)]=fI l.length (cIj l (i+1)):=by rw [hst,cIs hop,cIc,cIc];rfl
       repeat' first|refine sV ⟨?_⟩|refine sq (λh=>⟨?_⟩) λh=>⟨?_⟩|fail
       all_goals exact ⟨[0,1],l.length - (i+1),rfl,by omega,i+1,by omega,rfl,Eq.trans rfl (congrArg (λz:List (List AV)=>(⟨[(1,.ro 1 (aAh keep)),(2,.bptr 0 0),(8,.own 1 0 l.length),(27,.ro 8 (aAv l)),(28,.int .i64 ((aAv l).length:Nat)),(29,.int .i64 ((i+1:Nat):Int))],[.box 24 [.ro 8 (aAv l),.int .i64 (q:Nat)],.row false 3 1 z]⟩:St)) hs1)⟩
     · have g2:((fI l.length L).set (0+i) [.int .i64 (i:Nat)])[0+u]? =some [.int .i64 (cIl L i i u)]:=by rw [cIc,Nat.zero_add];exact cIi (by omega)
       have hs1:((fI l.length L).set (0+i) [.int .i64 (i:Nat)]).set (0+u) [.int .i64 (i:Nat)]=fI l.length (cIj l (i+1)):=by rw [hst,cIs hop,cIc,cIc];rfl
       repeat' first|refine sV ⟨?_⟩|refine sq (λh=>⟨?_⟩) λh=>⟨?_⟩|fail
       all_goals exact ⟨[0,1],l.length - (i+1),rfl,by omega,i+1,by omega,rfl,Eq.trans rfl (congrArg (λz:List (List AV)=>(⟨[(1,.ro 1 (aAh keep)),(2,.bptr 0 0),(8,.own 1 0 l.length),(27,.ro 8 (aAv l)),(28,.int .i64 ((aAv l).length:Nat)),(29,.int .i64 ((i+1:Nat):Int))],[.box 24 [.ro 8 (aAv l),.int .i64 (q:Nat)],.row false 3 1 z]⟩:St)) hs1)⟩
     · have g2:((fI l.length L).set (0+i) [.int .i64 (i:Nat)])[0+u]? =some [.int .i64 (cIl L i i u)]:=by rw [cIc,Nat.zero_add];exact cIi (by omega)
       have hs1:((fI l.length L).set (0+i) [.int .i64 (i:Nat)]).set (0+u) [.int .i64 (i:Nat)]=fI l.length (cIj l (i+1)):=by rw [hst,cIs hop,cIc,cIc];rfl
       repeat' first|refine sV ⟨?_⟩|refine sq (λh=>⟨?_⟩) λh=>⟨?_⟩|fail
       all_goals exact ⟨[0,1],l.length - (i+1),rfl,by omega,i+1,by omega,rfl,Eq.trans rfl (congrArg (λz:List (List AV)=>(⟨[(1,.ro 1 (aAh keep)),(2,.bptr 0 0),(8,.own 1 0 l.length),(27,.ro 8 (aAv l)),(28,.int .i64 ((aAv l).length:Nat)),(29,.int .i64 ((i+1:Nat):Int))],[.box 24 [.ro 8 (aAv l),.int .i64 (q:Nat)],.row false 3 1 z]⟩:St)) hs1)⟩
     · have g2:((fI l.length L).set (0+i) [.int .i64 (i:Nat)])[0+u]? =some [.int .i64 (cIl L i i u)]:=by rw [cIc,Nat.zero_add];exact cIi (by omega)
       have hs1:((fI l.length L).set (0+i) [.int .i64 (i:Nat)]).set (0+u) [.int .i64 (i:Nat)]=fI l.length (cIj l (i+1)):=by rw [hst,cIs hop,cIc,cIc];rfl
       repeat' first|refine sV ⟨?_⟩|refine sq (λh=>⟨?_⟩) λh=>⟨?_⟩|fail
       all_goals exact ⟨[0,1],l.length - (i+1),rfl,by omega,i+1,by omega,rfl,Eq.trans rfl (congrArg (λz:List (List AV)=>(⟨[(1,.ro 1 (aAh keep)),(2,.bptr 0 0),(8,.own 1 0 l.length),(27,.ro 8 (aAv l)),(28,.int .i64 ((aAv l).length:Nat)),(29,.int .i64 ((i+1:Nat):Int))],[.box 24 [.ro 8 (aAv l),.int .i64 (q:Nat)],.row false 3 1 z]⟩:St)) hs1)⟩
     · have g2:((fI l.length L).set (0+i) [.int .i64 (i:Nat)])[0+u]? =some [.int .i64 (cIl L i i u)]:=by rw [cIc,Nat.zero_add];exact cIi (by omega)
       have hs1:((fI l.length L).set (0+i) [.int .i64 (i:Nat)]).set (0+u) [.int .i64 (i:Nat)]=fI l.length (cIj l (i+1)):=by rw [hst,cIs hop,cIc,cIc];rfl
       repeat' first|refine sV ⟨?_⟩|refine sq (λh=>⟨?_⟩) λh=>⟨?_⟩|fail
       all_goals exact ⟨[0,1],l.length - (i+1),rfl,by omega,i+1,by omega,rfl,Eq.trans rfl (congrArg (λz:List (List AV)=>(⟨[(1,.ro 1 (aAh keep)),(2,.bptr 0 0),(8,.own 1 0 l.length),(27,.ro 8 (aAv l)),(28,.int .i64 ((aAv l).length:Nat)),(29,.int .i64 ((i+1:Nat):Int))],[.box 24 [.ro 8 (aAv l),.int .i64 (q:Nat)],.row false 3 1 z]⟩:St)) hs1)⟩
     · have g2:((fI l.length L).set (0+i) [.int .i64 (i:Nat)])[0+u]? =some [.int .i64 (cIl L i i u)]:=by rw [cIc,Nat.zero_add];exact cIi (by omega)
       have hs1:((fI l.length L).set (0+i) [.int .i64 (i:Nat)]).set (0+u) [.int .i64 (i:Nat)]=fI l.length (cIj l (i+1)):=by rw [hst,cIs hop,cIc,cIc];rfl
       repeat' first|refine sV ⟨?_⟩|refine sq (λh=>⟨?_⟩) λh=>⟨?_⟩|fail
       all_goals exact ⟨[0,1],l.length - (i+1),rfl,by omega,i+1,by omega,rfl,Eq.trans rfl (congrArg (λz:List (List AV)=>(⟨[(1,.ro 1 (aAh keep)),(2,.bptr 0 0),(8,.own 1 0 l.length),(27,.ro 8 (aAv l)),(28,.int .i64 ((aAv l).length:Nat)),(29,.int .i64 ((i+1:Nat):Int))],[.box 24 [.ro 8 (aAv l),.int .i64 (q:Nat)],.row false 3 1 z]⟩:St)) hs1)⟩
     · have g2:((fI l.length L).set (0+i) [.int .i64 (i:Nat)])[0+u]? =some [.int .i64 (cIl L i i u)]:=by rw [cIc,Nat.zero_add];exact cIi (by omega)
       have hs1:((fI l.length L).set (0+i) [.int .i64 (i:Nat)]).set (0+u) [.int .i64 (i:Nat)]=fI l.length (cIj l (i+1)):=by rw [hst,cIs hop,cIc,cIc];rfl
       repeat' first|refine sV ⟨?_⟩|refine sq (λh=>⟨?_⟩) λh=>⟨?_⟩|fail
       all_goals exact ⟨[0,1],l.length - (i+1),rfl,by omega,i+1,by omega,rfl,Eq.trans rfl (congrArg (λz:List (List AV)=>(⟨[(1,.ro 1 (aAh keep)),(2,.bptr 0 0),(8,.own 1 0 l.length),(27,.ro 8 (aAv l)),(28,.int .i64 ((aAv l).length:Nat)),(29,.int .i64 ((i+1:Nat):Int))],[.box 24 [.ro 8 (aAv l),.int .i64 (q:Nat)],.row false 3 1 z]⟩:St)) hs1)⟩
     · have g2:((fI l.length L).set (0+i) [.int .i64 (i:Nat)])[0+u]? =some [.int .i64 (cIl L i i u)]:=by rw [cIc,Nat.zero_add];exact cIi (by omega)
       have hs1:((fI l.length L).set (0+i) [.int .i64 (i:Nat)]).set (0+u) [.int .i64 (i:Nat)]=fI l.length (cIj l (i+1)):=by rw [hst,cIs hop,cIc,cIc];rfl
       repeat' first|refine sV ⟨?_⟩|refine sq (λh=>⟨?_⟩) λh=>⟨?_⟩|fail
       all_goals exact ⟨[0,1],l.length - (i+1),rfl,by omega,i+1,by omega,rfl,Eq.trans rfl (congrArg (λz:List (List AV)=>(⟨[(1,.ro 1 (aAh keep)),(2,.bptr 0 0),(8,.own 1 0 l.length),(27,.ro 8 (aAv l)),(28,.int .i64 ((aAv l).length:Nat)),(29,.int .i64 ((i+1:Nat):Int))],[.box 24 [.ro 8 (aAv l),.int .i64 (q:Nat)],.row false 3 1 z]⟩:St)) hs1)⟩
     · have g2:((fI l.length L).set (0+i) [.int .i64 (i:Nat)])[0+u]? =some [.int .i64 (cIl L i i u)]:=by rw [cIc,Nat.zero_add];exact cIi (by omega)
       have hs1:((fI l.length L).set (0+i) [.int .i64 (i:Nat)]).set (0+u) [.int .i64 (i:Nat)]=fI l.length (cIj l (i+1)):=by rw [hst,cIs hop,cIc,cIc];rfl
       repeat' first|refine sV ⟨?_⟩|refine sq (λh=>⟨?_⟩) λh=>⟨?_⟩|fail
       all_goals exact ⟨[0,1],l.length - (i+1),rfl,by omega,i+1,by omega,rfl,Eq.trans rfl (congrArg (λz:List (List AV)=>(⟨[(1,.ro 1 (aAh keep)),(2,.bptr 0 0),(8,.own 1 0 l.length),(27,.ro 8 (aAv l)),(28,.int .i64 ((aAv l).length:Nat)),(29,.int .i64 ((i+1:Nat):Int))],[.box 24 [.ro 8 (aAv l),.int .i64 (q:Nat)],.row false 3 1 z]⟩:St)) hs1)⟩
   · rw [hm0] at hop
     rw [dP2 hop] at hpp
     obtain ⟨u,hu1,hu2⟩:=hpp _ List.mem_cons_self
     obtain ⟨v,hv1,hv2⟩:=hpp _ (List.mem_cons_of_mem _ (List.mem_singleton_self _))
     obtain ⟨op,A,B,name,s,k,n,d⟩:=x
     dsimp only at ho hu1 hv1
     subst ho hu1 hv1
     cases o<;>first|(exact absurd hm0 (by decide))|skip
     · have g2:((fI l.length L).set (0+i) [.int .i64 (i:Nat)])[0+v]? =some [.int .i64 (cIl L i i v)]:=by rw [cIc,Nat.zero_add];exact cIi (by omega)
       have g3:(((fI l.length L).set (0+i) [.int .i64 (i:Nat)]).set (0+v) [.int .i64 (i:Nat)])[0+u]? =some [.int .i64 (cIl (cIl L i i) v i u)]:=by rw [cIc,cIc,Nat.zero_add];exact cIi (by omega)
       have hs1:(((fI l.length L).set (0+i) [.int .i64 (i:Nat)]).set (0+v) [.int .i64 (i:Nat)]).set (0+u) [.int .i64 (i:Nat)]=fI l.length (cIj l (i+1)):=by rw [hst,cJv hop,cIc,cIc,cIc];rfl
       repeat' first|refine sV ⟨?_⟩|refine sq (λh=>⟨?_⟩) λh=>⟨?_⟩|fail
       all_goals exact ⟨[0,1],l.length - (i+1),rfl,by omega,i+1,by omega,rfl,Eq.trans rfl (congrArg (λz:List (List AV)=>(⟨[(1,.ro 1 (aAh keep)),(2,.bptr 0 0),(8,.own 1 0 l.length),(27,.ro 8 (aAv l)),(28,.int .i64 ((aAv l).length:Nat)),(29,.int .i64 ((i+1:Nat):Int))],[.box 24 [.ro 8 (aAv l),.int .i64 (q:Nat)],.row false 3 1 z]⟩:St)) hs1)⟩
     · have g2:((fI l.length L).set (0+i) [.int .i64 (i:Nat)])[0+v]? =some [.int .i64 (cIl L i i v)]:=by rw [cIc,Nat.zero_add];exact cIi (by omega)
       have g3:(((fI l.length L).set (0+i) [.int .i64 (i:Nat)]).set (0+v) [.int .i64 (i:Nat)])[0+u]? =some [.int .i64 (cIl (cIl L i i) v i u)]:=by rw [cIc,cIc,Nat.zero_add];exact cIi (by omega)
       have hs1:(((fI l.length L).set (0+i) [.int .i64 (i:Nat)]).set (0+v) [.int .i64 (i:Nat)]).set (0+u) [.int .i64 (i:Nat)]=fI l.length (cIj l (i+1)):=by rw [hst,cJv hop,cIc,cIc,cIc];rfl
       repeat' first|refine sV ⟨?_⟩|refine sq (λh=>⟨?_⟩) λh=>⟨?_⟩|fail
       all_goals exact ⟨[0,1],l.length - (i+1),rfl,by omega,i+1,by omega,rfl,Eq.trans rfl (congrArg (λz:List (List AV)=>(⟨[(1,.ro 1 (aAh keep)),(2,.bptr 0 0),(8,.own 1 0 l.length),(27,.ro 8 (aAv l)),(28,.int .i64 ((aAv l).length:Nat)),(29,.int .i64 ((i+1:Nat):Int))],[.box 24 [.ro 8 (aAv l),.int .i64 (q:Nat)],.row false 3 1 z]⟩:St)) hs1)⟩
     · have g2:((fI l.length L).set (0+i) [.int .i64 (i:Nat)])[0+v]? =some [.int .i64 (cIl L i i v)]:=by rw [cIc,Nat.zero_add];exact cIi (by omega)
       have g3:(((fI l.length L).set (0+i) [.int .i64 (i:Nat)]).set (0+v) [.int .i64 (i:Nat)])[0+u]? =some [.int .i64 (cIl (cIl L i i) v i u)]:=by rw [cIc,cIc,Nat.zero_add];exact cIi (by omega)
       have hs1:(((fI l.length L).set (0+i) [.int .i64 (i:Nat)]).set (0+v) [.int .i64 (i:Nat)]).set (0+u) [.int .i64 (i:Nat)]=fI l.length (cIj l (i+1)):=by rw [hst,cJv hop,cIc,cIc,cIc];rfl
       repeat' first|refine sV ⟨?_⟩|refine sq (λh=>⟨?_⟩) λh=>⟨?_⟩|fail
       all_goals exact ⟨[0,1],l.length - (i+1),rfl,by omega,i+1,by omega,rfl,Eq.trans rfl (congrArg (λz:List (List AV)=>(⟨[(1,.ro 1 (aAh keep)),(2,.bptr 0 0),(8,.own 1 0 l.length),(27,.ro 8 (aAv l)),(28,.int .i64 ((aAv l).length:Nat)),(29,.int .i64 ((i+1:Nat):Int))],[.box 24 [.ro 8 (aAv l),.int .i64 (q:Nat)],.row false 3 1 z]⟩:St)) hs1)⟩
     · have g2:((fI l.length L).set (0+i) [.int .i64 (i:Nat)])[0+v]? =some [.int .i64 (cIl L i i v)]:=by rw [cIc,Nat.zero_add];exact cIi (by omega)
       have g3:(((fI l.length L).set (0+i) [.int .i64 (i:Nat)]).set (0+v) [.int .i64 (i:Nat)])[0+u]? =some [.int .i64 (cIl (cIl L i i) v i u)]:=by rw [cIc,cIc,Nat.zero_add];exact cIi (by omega)
       have hs1:(((fI l.length L).set (0+i) [.int .i64 (i:Nat)]).set (0+v) [.int .i64 (i:Nat)]).set (0+u) [.int .i64 (i:Nat)]=fI l.length (cIj l (i+1)):=by rw [hst,cJv hop,cIc,cIc,cIc];rfl
       repeat' first|refine sV ⟨?_⟩|refine sq (λh=>⟨?_⟩) λh=>⟨?_⟩|fail
       all_goals exact ⟨[0,1],l.length - (i+1),rfl,by omega,i+1,by omega,rfl,Eq.trans rfl (congrArg (λz:List (List AV)=>(⟨[(1,.ro 1 (aAh keep)),(2,.bptr 0 0),(8,.own 1 0 l.length),(27,.ro 8 (aAv l)),(28,.int .i64 ((aAv l).length:Nat)),(29,.int .i64 ((i+1:Nat):Int))],[.box 24 [.ro 8 (aAv l),.int .i64 (q:Nat)],.row false 3 1 z]⟩:St)) hs1)⟩
     · have g2:((fI l.length L).set (0+i) [.int .i64 (i:Nat)])[0+v]? =some [.int .i64 (cIl L i i v)]:=by rw [cIc,Nat.zero_add];exact cIi (by omega)
       have g3:(((fI l.length L).set (0+i) [.int .i64 (i:Nat)]).set (0+v) [.int .i64 (i:Nat)])[0+u]? =some [.int .i64 (cIl (cIl L i i) v i u)]:=by rw [cIc,cIc,Nat.zero_add];exact cIi (by omega)
       have hs1:(((fI l.length L).set (0+i) [.int .i64 (i:Nat)]).set (0+v) [.int .i64 (i:Nat)]).set (0+u) [.int .i64 (i:Nat)]=fI l.length (cIj l (i+1)):=by rw [hst,cJv hop,cIc,cIc,cIc];rfl
       repeat' first|refine sV ⟨?_⟩|refine sq (λh=>⟨?_⟩) λh=>⟨?_⟩|fail
       all_goals exact ⟨[0,1],l.length - (i+1),rfl,by omega,i+1,by omega,rfl,Eq.trans rfl (congrArg (λz:List (List AV)=>(⟨[(1,.ro 1 (aAh keep)),(2,.bptr 0 0),(8,.own 1 0 l.length),(27,.ro 8 (aAv l)),(28,.int .i64 ((aAv l).length:Nat)),(29,.int .i64 ((i+1:Nat):Int))],[.box 24 [.ro 8 (aAv l),.int .i64 (q:Nat)],.row false 3 1 z]⟩:St)) hs1)⟩
     · have g2:((fI l.length L).set (0+i) [.int .i64 (i:Nat)])[0+v]? =some [.int .i64 (cIl L i i v)]:=by rw [cIc,Nat.zero_add];exact cIi (by omega)
       have g3:(((fI l.length L).set (0+i) [.int .i64 (i:Nat)]).set (0+v) [.int .i64 (i:Nat)])[0+u]? =some [.int .i64 (cIl (cIl L i i) v i u)]:=by rw [cIc,cIc,Nat.zero_add];exact cIi (by omega)
       have hs1:(((fI l.length L).set (0+i) [.int .i64 (i:Nat)]).set (0+v) [.int .i64 (i:Nat)]).set (0+u) [.int .i64 (i:Nat)]=fI l.length (cIj l (i+1)):=by rw [hst,cJv hop,cIc,cIc,cIc];rfl
       repeat' first|refine sV ⟨?_⟩|refine sq (λh=>⟨?_⟩) λh=>⟨?_⟩|fail
       all_goals exact ⟨[0,1],l.length - (i+1),rfl,by omega,i+1,by omega,rfl,Eq.trans rfl (congrArg (λz:List (List AV)=>(⟨[(1,.ro 1 (aAh keep)),(2,.bptr 0 0),(8,.own 1 0 l.length),(27,.ro 8 (aAv l)),(28,.int .i64 ((aAv l).length:Nat)),(29,.int .i64 ((i+1:Nat):Int))],[.box 24 [.ro 8 (aAv l),.int .i64 (q:Nat)],.row false 3 1 z]⟩:St)) hs1)⟩
 · have hl2:i=l.length:=by omega
   subst hl2
   generalize cIj l l.length=L at hF ⊢
   clear hop1 hpt hgx
   have hin:∀i (h:i<((q:Int)::keep).length),∃k:Nat,((q:Int)::keep)[i]=(k:Nat)/\k<l.length:=λi h=>by
    rcases List.mem_cons.1 (List.getElem_mem h) with e|e
    · exact ⟨q,e,hq⟩
    · exact hke e
   have hks:=rowZ_length ((q:Int)::keep)
   rw [List.length_cons] at hks
   repeat' first|refine sV ⟨?_⟩|refine sq (λh=>⟨?_⟩) λh=>⟨?_⟩|fail
   refine ⟨Nat.le_refl _,(show (1+(aAh keep).length)*8<=140737488355328 by omega),aAh ((q:Int)::keep),rfl,?_⟩
   repeat' first|refine sV ⟨?_⟩|refine sq (λh=>⟨?_⟩) λh=>⟨?_⟩|fail
   refine ⟨[2,8,66,67,68],[0,1,3],λm st=>∃i:Nat,i<=keep.length+1/\m=keep.length+1 - i/\
    st=⟨[(2,.bptr 0 0),(8,.own 1 0 l.length),(66,.own 2 0 (aAh ((q:Int)::keep)).length),(67,.int .i64 ((aAh ((q:Int)::keep)).length:Nat)),(68,.int .i64 (i:Nat))],
     [.box 24 [.ro 8 (aAv l),.int .i64 (q:Nat)],.row false 3 1 (fI l.length (cI4 l.length L (((q:Int)::keep).take i))),.row false 3 1 (aAh ((q:Int)::keep))]⟩,rfl,⟨keep.length+1,0,by omega,rfl,rfl⟩,?_⟩
   rintro m _ ⟨i,hi,hm,rfl⟩
   rcases Nat.lt_or_ge i (keep.length+1) with hil|hge2
   · have hil2:i<((q:Int)::keep).length:=by rw [List.length_cons];exact hil
     obtain ⟨k,hk1,hk2⟩:=hin i hil2
     have gk:(aAh ((q:Int)::keep))[0+i]? =some [.int .i64 (k:Nat)]:=by rw [Nat.zero_add,aE6 hil2,hk1]
     have hsn:=cMq l.length L ((q:Int)::keep) hil2
     rw [hk1,Int.toNat_natCast] at hsn
     have hfl:=fI_len l.length (cI4 l.length L (((q:Int)::keep).take i))
     generalize cI4 l.length L (((q:Int)::keep).take i)=LK at hsn hfl ⊢
     have go:(fI l.length LK)[0+k]? =some [.int .i64 (LK k)]:=by rw [Nat.zero_add];exact cIi hk2
     have hs1:(fI l.length LK).set (0+k) [.int .i64 ((aAv l).length:Nat)]=fI l.length (cI4 l.length L (((q:Int)::keep).take (i+1))):=by rw [hsn,cIc,hlr]
     repeat' first|refine sV ⟨?_⟩|refine sq (λh=>⟨?_⟩) λh=>⟨?_⟩|fail
     all_goals exact ⟨[0,1,2],keep.length+1 - (i+1),rfl,by omega,i+1,by omega,rfl,Eq.trans rfl (congrArg (λz:List (List AV)=>(⟨[(2,.bptr 0 0),(8,.own 1 0 l.length),(66,.own 2 0 (aAh ((q:Int)::keep)).length),(67,.int .i64 ((aAh ((q:Int)::keep)).length:Nat)),(68,.int .i64 ((i+1:Nat):Int))],
      [.box 24 [.ro 8 (aAv l),.int .i64 (q:Nat)],.row false 3 1 z,.row false 3 1 (aAh ((q:Int)::keep))]⟩:St)) hs1)⟩
   · have e:((q:Int)::keep).take i=(q:Int)::keep:=List.take_of_length_le (by rw [List.length_cons];exact hge2)
     rw [e,<-hF]
     have hfl:=fI_len l.length LF
     repeat' first|refine sV ⟨?_⟩|refine sq (λh=>⟨?_⟩) λh=>⟨?_⟩|fail
     conv=>whnf
     refine .inl ⟨by omega,?_⟩
     repeat' first|refine sV ⟨?_⟩|refine sq (λh=>⟨?_⟩) λh=>⟨?_⟩|fail
     all_goals (conv=>whnf)
     all_goals exact ⟨_,aAf rfl rfl,rfl⟩
end Go.V
namespace Go.V
open Go.N Go.Proofs
set_option maxRecDepth 20000
def cM3:Tab:=[(3,i3)]
theorem cMe:TOK Tryz.prog cM3:=⟨K3,trivial⟩
def cMi:Tab:=[(27,i27),(3,i3)]
theorem cLv:TOK Tryz.prog cMi:=⟨K27,⟨K3,trivial⟩⟩
def cNf:Tab:=[(24,i24),(110,cYi),(27,i27),(3,i3),(28,i28),(22,i22),(34,i34),(159,cX5)]
theorem cLx:TOK Tryz.prog cNf:=⟨K24,⟨cYo,⟨K27,⟨K3,⟨K28,⟨K22,⟨K34,⟨cYc,trivial⟩⟩⟩⟩⟩⟩⟩⟩
theorem cM8 (z i:Int):aAc Tryz.prog GL 126 [.int .i64 z,.rp [.int .i64 i]] (λy=>y= .bool (decide (z<=i))):=by
 refine vgo cMe Tryz.func126 ?_
 repeat' first|refine sV ⟨?_⟩|refine sq (λh=>⟨?_⟩) λh=>⟨?_⟩|fail
 all_goals (conv=>whnf)
 all_goals rfl
theorem cNo (f:FuncId) (cs:List AV) (l:List Int) (p:Int->Bool) (r:Int) (hll:l.length<=1000) (hc:∀z∈l,aAc Tryz.prog GL f [.int .i64 z,.rp cs] (λy=>y= .bool (p z)))
 (hr:(∃ k:Nat,∃h:k<l.length,r=k/\p l[k]=true/\∀j (h:j<l.length),j<k->p l[j]=false)\/(r= -1/\∀j (h:j<l.length),p l[j]=false)):
 aAc Tryz.prog GL 125 [.ro 1 (aAh l),.fn f [.rp cs]] (λx=>x= .int .i64 r):=by
 have hl:=rowZ_length l
 refine vgo cLv Tryz.func125 ?_
 repeat' first|refine sV ⟨?_⟩|refine sq (λh=>⟨?_⟩) λh=>⟨?_⟩|fail
 refine ⟨[0,1,7,8],[],λm st=>∃i:Nat,i<=l.length/\m=l.length - i/\(∀ j (h:j<l.length),j<i->p l[j]=false)/\
  st=⟨[(0,.ro 1 (aAh l)),(1,.fn f [.rp cs]),(7,.int .i64 ((aAh l).length:Nat)),(8,.int .i64 (i:Nat))],[]⟩,rfl,⟨l.length,0,by omega,rfl,λj h h0=>absurd h0 (Nat.not_lt_zero _),rfl⟩,?_⟩
 rintro m _ ⟨i,hi,hm,ha,rfl⟩
 rcases Nat.lt_or_ge i l.length with hil|hge
 · have g:=aE6 hil
   have hci:=hc l[i] (List.getElem_mem hil)
   cases hp:p l[i]
   · rw [hp] at hci
     have hx:∀j (h:j<l.length),j<i+1->p l[j]=false:=λj h hj=>(Nat.lt_succ_iff_lt_or_eq.1 hj).elim (ha j h) (λe=>by subst e;exact hp)
     clear hp
     generalize l[i]=b at g hci
     repeat' first|refine sV ⟨?_⟩|refine sq (λh=>⟨?_⟩) λh=>⟨?_⟩|fail
     all_goals exact ⟨[],l.length - (i+1),rfl,by omega,i+1,by omega,rfl,hx,rfl⟩
   · rw [hp] at hci
     obtain rfl:r=i:=by
      rcases hr with ⟨k,hk,rfl,h1,h2⟩|⟨_,h2⟩
      · rcases Nat.lt_trichotomy k i with h|h|h
        · rw [ha k hk h] at h1;cases h1
        · rw [h]
        · rw [h2 i hil h] at hp;cases hp
      · rw [h2 i hil] at hp;cases hp
     generalize l[i]=b at g hci
     repeat' first|refine sV ⟨?_⟩|refine sq (λh=>⟨?_⟩) λh=>⟨?_⟩|fail
     all_goals (conv=>whnf)
     all_goals rfl
 · obtain rfl:r= -1:=by
    rcases hr with ⟨k,hk,rfl,h1,h2⟩|⟨h,_⟩
    · rw [ha k hk (by omega)] at h1;cases h1
    · exact h
   repeat' first|refine sV ⟨?_⟩|refine sq (λh=>⟨?_⟩) λh=>⟨?_⟩|fail
   all_goals (conv=>whnf)
   all_goals rfl
def cId (L:Nat->Int) (n:Nat):List Int:=(List.range n).map λj=>((cIe L j:Nat):Int)
theorem cI5 (L:Nat->Int) (n:Nat):(cId L n).length=n:=by simp [cId]
theorem cJz (L:Nat->Int) (n:Nat):cId L (n+1)=cId L n++[((cIe L n:Nat):Int)]:=by simp [cId,List.range_succ]
theorem cMu {L:Nat->Int}{n j:Nat}(h:j<n):(aAh (cId L n))[j]? =some [.int .i64 ((cIe L j:Nat):Int)]:=by
 rw [aE6 (by rw [cI5];exact h)];simp [cId]
theorem cMd (u:List Int) (k:Nat) (v:Int):(aAh u).set (0+k) [.int .i64 v]=aAh (u.set k v):=by
 rw [Nat.zero_add,aAh,aAh,List.map_set]
theorem cNp (L:Nat->Int) (i:Nat) (hl:(cIb L i).length<=1000):aAc Tryz.prog GL 125 [.ro 1 (aAh (cIb L i)),.fn 126 [.rp [.int .i64 (i:Nat)]]]
 (λx=>x= .int .i64 (match cIz (cIb L i) i with|some a=>((a:Nat):Int)|none=>-1)):=by
 refine cNo _ _ _ (λz=>decide (z<=(i:Int))) _ hl (λz _=>cM8 z i) ?_
 cases h:cIz (cIb L i) i with
 |some a=>
  obtain ⟨ha,h1,h2⟩:=cIm h
  exact .inl ⟨a,ha,rfl,decide_eq_true h1,λj hj hja=>decide_eq_false (h2 j hj hja)⟩
 |none=>exact .inr ⟨rfl,λj hj=>decide_eq_false (cMs h j hj)⟩
set_option maxHeartbeats 8000000 in
theorem cNi (g:Gr) (keep:List Int) (hs:∀x∈g.nodes,x.Sm) (hl:g.nodes.length<=1000) (hk:keep.length<=1000):
 aAc Tryz.prog GL 71 [.agg g.cells,.ro 1 (aAh keep)] (λy=>y=if cEu g keep=true then .tup [.agg [.ro 1 (aAh (cId (cI0 g keep) g.nodes.length)),.int .i64 ((cIb (cI0 g keep) g.nodes.length).length:Nat)],.int .i64 0] else .tup [.agg [.ro 1 [],.int .i64 0],.int .i64 1]):=by
 have hla:=cNh g keep hs hl hk
 refine aAc.taken ?_
 cases hok:cEu g keep
 · rw [hok,if_neg (by simp)] at hla
   rw [if_neg (by simp)]
   obtain ⟨l,p⟩:=g
   refine vgo cLx Tryz.func71 ?_
   repeat' first|refine sV ⟨?_⟩|refine sq (λh=>⟨?_⟩) λh=>⟨?_⟩|fail
   all_goals (conv=>whnf)
   all_goals exact ⟨_,aAf (aFo (show aC7 .nils (.ro 1 []) from ⟨1,rfl⟩) rfl) rfl,rfl⟩
 rw [hok,if_pos rfl] at hla
 rw [if_pos rfl]
 have hpos:1<=g.nodes.length:=(aMd (by simp only [cEu,Bool.and_eq_true] at hok;exact hok.1)).1
 generalize cI0 g keep=L at hla ⊢
 clear hok
 obtain ⟨l,p⟩:=g
 dsimp only at hs hl hla hpos ⊢
 show aAc _ _ _ [.agg [.ro 8 (aAv l),.int .i64 p],_] _
 have hlr:=rowN_length l
 refine vgo cLx Tryz.func71 ?_
 repeat' first|refine sV ⟨?_⟩|refine sq (λh=>⟨?_⟩) λh=>⟨?_⟩|fail
 refine ⟨[2,4,6,8,9,23,24,25],[0,1,2],λm st=>∃i:Nat,i<=l.length/\m=l.length - i/\
  ((i=0/\st=⟨[(2,.bptr 0 0),(4,.bptr 1 0),(6,.ro 1 (fI l.length L)),(8,.bptr 2 0),(9,.nils),(23,.ro 8 (aAv l)),(24,.int .i64 ((aAv l).length:Nat)),(25,.int .i64 (i:Nat))],
    [.box 24 [.ro 8 (aAv l),.int .i64 p],.box 110 [.nils,.int .i64 0],.box 110 [.nils,.int .i64 0]]⟩)\/
   (0<i/\st=⟨[(2,.bptr 0 0),(4,.bptr 1 0),(6,.ro 1 (fI l.length L)),(8,.bptr 2 0),(9,.own 3 0 (aAh (cIb L i)).length),(23,.ro 8 (aAv l)),(24,.int .i64 ((aAv l).length:Nat)),(25,.int .i64 (i:Nat))],
    [.box 24 [.ro 8 (aAv l),.int .i64 p],.box 110 [.nils,.int .i64 0],.box 110 [.own 4 0 (aAh (cId L i)).length,.int .i64 0],.row false 3 1 (aAh (cIb L i)),.row false 3 1 (aAh (cId L i))]⟩)),rfl,⟨l.length,0,by omega,rfl,.inl ⟨rfl,rfl⟩⟩,?_⟩
 rintro m _ ⟨i,hi,hm,hst⟩
 have hul:=cLs L i
 have hur:=rowZ_length (cIb L i)
 have hsr:=rowZ_length (cId L i)
 rw [cI5] at hsr
 rcases Nat.lt_or_ge i l.length with hil|hge
 · have g1:=aB1 hil
   have gL:(fI l.length L)[i]? =some [.int .i64 (L i)]:=cIi hil
   have hpk:=cNp L i (by omega)
   generalize l[i]=x at g1
   obtain ⟨op,A,B,name,s,k,n,d⟩:=x
   rcases hst with ⟨rfl,rfl⟩|⟨h0,rfl⟩
   · have hu1:aAh (cIb L (0+1))=[[.int .i64 (L 0)]]:=rfl
     have hs1:aAh (cId L (0+1))=[[.int .i64 0]]:=rfl
     have hpk:aAc Tryz.prog GL 125 [.ro 1 [],.fn 126 [.rp [.int .i64 ((0:Nat):Int)]]] (λx=>x= .int .i64 (-1)):=hpk
     repeat' first|refine sV ⟨?_⟩|refine sq (λh=>⟨?_⟩) λh=>⟨?_⟩|fail
     conv=>whnf
     refine ⟨Nat.le_of_ble_eq_true rfl,λh=>Nat.succ_ne_zero _ (congrArg List.length h),?_⟩
     repeat' first|refine sV ⟨?_⟩|refine sq (λh=>⟨?_⟩) λh=>⟨?_⟩|fail
     conv=>whnf
     refine ⟨0,rfl,Nat.zero_lt_one,?_⟩
     conv=>whnf
     refine ⟨_,rfl,?_⟩
     repeat' first|refine sV ⟨?_⟩|refine sq (λh=>⟨?_⟩) λh=>⟨?_⟩|fail
     conv=>whnf
     refine ⟨Nat.le_of_ble_eq_true rfl,λh=>Nat.succ_ne_zero _ (congrArg List.length h),?_⟩
     repeat' first|refine sV ⟨?_⟩|refine sq (λh=>⟨?_⟩) λh=>⟨?_⟩|fail
     exact ⟨[0,1,2,5,7],l.length - (0+1),rfl,by omega,0+1,by omega,rfl,.inr ⟨by omega,rfl⟩⟩
   · have hend:∀{c:List (List AV)} {nn:Nat},c=aAh (cIb L (i+1))->nn=(aAh (cIb L (i+1))).length->(⟨[(2,.bptr 0 0),(4,.bptr 1 0),(6,.ro 1 (fI l.length L)),(8,.bptr 2 0),(9,.own 3 0 nn),(23,.ro 8 (aAv l)),(24,.int .i64 ((aAv l).length:Nat)),(25,.int .i64 ((i+1:Nat):Int))],
      [.box 24 [.ro 8 (aAv l),.int .i64 p],.box 110 [.nils,.int .i64 0],.box 110 [.own 4 0 (aAh (cId L (i+1))).length,.int .i64 0],.row false 3 1 c,.row false 3 1 (aAh (cId L (i+1)))]⟩:St)=
      ⟨[(2,.bptr 0 0),(4,.bptr 1 0),(6,.ro 1 (fI l.length L)),(8,.bptr 2 0),(9,.own 3 0 (aAh (cIb L (i+1))).length),(23,.ro 8 (aAv l)),(24,.int .i64 ((aAv l).length:Nat)),(25,.int .i64 ((i+1:Nat):Int))],
      [.box 24 [.ro 8 (aAv l),.int .i64 p],.box 110 [.nils,.int .i64 0],.box 110 [.own 4 0 (aAh (cId L (i+1))).length,.int .i64 0],.row false 3 1 (aAh (cIb L (i+1))),.row false 3 1 (aAh (cId L (i+1)))]⟩:=λh h2=>by rw [h,h2]
     cases hp:cIz (cIb L i) i with
     |some a=>
      obtain ⟨e1,e2⟩:=cIp hp
      obtain ⟨ha,_⟩:=cIm hp
      rw [hp] at hpk
      dsimp only at hpk
      rw [aW2 (aAh (cIb L i)) rfl] at hpk
      have gu:(aAh (cIb L i))[0+a]? =some [.int .i64 (cIb L i)[a]]:=by rw [Nat.zero_add];exact aE6 ha
      have hset:(aAh (cIb L i)).set (0+a) [.int .i64 (L i)]=aAh (cIb L (i+1)):=by rw [cMd,e1]
      have hnn:(aAh (cIb L i)).length=(aAh (cIb L (i+1))).length:=by rw [rowZ_length,rowZ_length,e1,List.length_set]
      have hsn:aAh (cId L (i+1))=List.take (aAh (cId L i)).length (aAh (cId L i))++[[.int .i64 (a:Nat)]]:=by rw [cJz,e2];exact cEr _ _
      repeat' first|refine sV ⟨?_⟩|refine sq (λh=>⟨?_⟩) λh=>⟨?_⟩|fail
      refine ⟨Nat.le_refl _,(show ((aAh (cId L i)).length+1)*8<=140737488355328 by omega),_,hsn,?_⟩
      repeat' first|refine sV ⟨?_⟩|refine sq (λh=>⟨?_⟩) λh=>⟨?_⟩|fail
      exact ⟨[0,1,2,3,7],l.length - (i+1),rfl,by omega,i+1,by omega,rfl,.inr ⟨by omega,Eq.trans rfl (hend hset hnn)⟩⟩
     |none=>
      obtain ⟨e1,e2⟩:=cIo hp
      rw [hp] at hpk
      dsimp only at hpk
      rw [aW2 (aAh (cIb L i)) rfl] at hpk
      have gu:(aAh (cIb L i++[0]))[0+(aAh (cIb L i)).length]? =some [.int .i64 0]:=by rw [Nat.zero_add,hur,aE6 (by simp)];simp
      have hset:(aAh (cIb L i++[0])).set (0+(aAh (cIb L i)).length) [.int .i64 (L i)]=aAh (cIb L (i+1)):=by
       rw [cMd,e1,hur,List.set_append_right _ _ (Nat.le_refl _),Nat.sub_self];rfl
      have hsn:aAh (cId L (i+1))=List.take (aAh (cId L i)).length (aAh (cId L i))++[[.int .i64 ((aAh (cIb L i)).length:Nat)]]:=by rw [cJz,e2,hur];exact cEr _ _
      repeat' first|refine sV ⟨?_⟩|refine sq (λh=>⟨?_⟩) λh=>⟨?_⟩|fail
      have hnn:(aAh (cIb L i++[0])).length=(aAh (cIb L (i+1))).length:=by rw [rowZ_length,rowZ_length,e1,List.length_append,List.length_append];rfl
      have hur2:(aAh (cIb L i++[0])).length=(cIb L i).length+1:=by rw [rowZ_length,List.length_append];rfl
      refine ⟨Nat.le_refl _,(show ((aAh (cIb L i)).length+1)*8<=140737488355328 by omega),_,cEr (cIb L i) 0,?_⟩
      repeat' first|refine sV ⟨?_⟩|refine sq (λh=>⟨?_⟩) λh=>⟨?_⟩|fail
      refine ⟨Nat.le_refl _,(show ((aAh (cId L i)).length+1)*8<=140737488355328 by omega),_,hsn,?_⟩
      repeat' first|refine sV ⟨?_⟩|refine sq (λh=>⟨?_⟩) λh=>⟨?_⟩|fail
      exact ⟨[0,1,2,7,9],l.length - (i+1),rfl,by omega,i+1,by omega,rfl,.inr ⟨by omega,Eq.trans rfl (hend hset hnn)⟩⟩
 · have hl2:i=l.length:=by omega
   subst hl2
   rcases hst with ⟨h0,rfl⟩|⟨h0,rfl⟩
   · omega
   · have hcnt:((aAh (cIb L l.length)).length:Int)=((cIb L l.length).length:Nat):=by rw [hur]
     repeat' first|refine sV ⟨?_⟩|refine sq (λh=>⟨?_⟩) λh=>⟨?_⟩|fail
     conv=>whnf
     exact ⟨_,aAf (aFo rfl rfl) rfl,by rw [hur]⟩
end Go.V
