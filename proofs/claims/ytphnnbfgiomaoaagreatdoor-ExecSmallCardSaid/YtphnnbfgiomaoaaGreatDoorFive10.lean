/-
  Lemmas (part 10) for: the statement.
-/
import Derived.Test.YtphnnbfgiomaoaaGreatDoorFive3
set_option linter.all false
namespace Go.V
open Go.N Go.Proofs
set_option maxRecDepth 20000
def aVe:Tab:=[(3,i3)]
theorem aF2:TOK Tryz.prog aVe:=⟨K3,trivial⟩
def aVf:Tab:=[(32,i32),(9,i9),(3,i3)]
theorem aPf:TOK Tryz.prog aVf:=⟨K32,⟨K9,⟨K3,trivial⟩⟩⟩
def bHz:Tab:=[(3,i3),(27,i27)]
theorem aIu:TOK Tryz.prog bHz:=⟨K3,⟨K27,trivial⟩⟩
def bHy:Tab:=[(27,i27),(3,i3)]
theorem aYh:TOK Tryz.prog bHy:=⟨K27,⟨K3,trivial⟩⟩
def aFq (n m:Int):Int:=if n<1 then 1 else if m<n then m else n
theorem aH5 (n m:Int) (hm:1<=m):1<=aFq n m/\aFq n m<=m:=by unfold aFq;split<;>(try split)<;>omega
theorem aDb (n m:Int):aAc Tryz.prog GL 47 [.int .i64 n,.int .i64 m] (λy=>y= .int .i64 (aFq n m)):=by
 by_cases h1:n<1
 · rw [aFq,if_pos h1]
   refine vgo aF2 Tryz.func47 ?_
   repeat' first|refine sV ⟨?_⟩|refine sq (λh=>⟨?_⟩) λh=>⟨?_⟩|fail
   all_goals (conv=>whnf)
   all_goals rfl
 · by_cases h2:m<n
   · rw [aFq,if_neg h1,if_pos h2]
     refine vgo aF2 Tryz.func47 ?_
     repeat' first|refine sV ⟨?_⟩|refine sq (λh=>⟨?_⟩) λh=>⟨?_⟩|fail
     all_goals (conv=>whnf)
     all_goals rfl
   · rw [aFq,if_neg h1,if_neg h2]
     refine vgo aF2 Tryz.func47 ?_
     repeat' first|refine sV ⟨?_⟩|refine sq (λh=>⟨?_⟩) λh=>⟨?_⟩|fail
     all_goals (conv=>whnf)
     all_goals rfl
def aDi (w:List Int) (i:Int):Int:=if 0<=i/\i.toNat<w.length then w[i.toNat]?.getD 1 else 1
theorem bTw (w:List Int) (i:Int) (hw:w.length<=1000):aAc Tryz.prog GL 93 [.ro 1 (aAh w),.int .i64 i] (λy=>y= .int .i64 (aDi w i)):=by
 have hl:=rowZ_length w
 by_cases h:0<=i/\i.toNat<w.length
 · obtain ⟨j,rfl⟩:∃j:Nat,i=j:=⟨i.toNat,by omega⟩
   have hj:j<w.length:=by simpa using h.2
   have e:aDi w j=w[j]:=by rw [aDi,if_pos h,Int.toNat_natCast,List.getElem?_eq_getElem hj];rfl
   have g:=aE6 hj
   rw [e]
   generalize w[j]=x at g
   refine vgo aIu Tryz.func93 ?_
   repeat' first|refine sV ⟨?_⟩|refine sq (λh=>⟨?_⟩) λh=>⟨?_⟩|fail
   all_goals (conv=>whnf)
   all_goals rfl
 · have e:aDi w i=1:=by rw [aDi,if_neg h]
   rw [e]
   by_cases h0:i<0
   · refine vgo aIu Tryz.func93 ?_
     repeat' first|refine sV ⟨?_⟩|refine sq (λh=>⟨?_⟩) λh=>⟨?_⟩|fail
     all_goals (conv=>whnf)
     all_goals rfl
   · have h1:(w.length:Int)<=i:=by omega
     refine vgo aIu Tryz.func93 ?_
     repeat' first|refine sV ⟨?_⟩|refine sq (λh=>⟨?_⟩) λh=>⟨?_⟩|fail
     all_goals (conv=>whnf)
     all_goals rfl
def aFf (s:List Int):Int:=(s.take 5).foldl (λn d=>aFq (n*aFq d 64) 64) 1
theorem aUf {s:List Int}{i:Nat}(h:i<s.length) (h5:i<5):aFf (s.take (i+1))=aFq (aFf (s.take i)*aFq s[i] 64) 64:=by
 rw [aFf,aFf,List.take_take,List.take_take,Nat.min_eq_right (by omega),Nat.min_eq_right (by omega),List.take_succ_eq_append_getElem h,List.foldl_append];rfl
theorem aOq (s:List Int):1<=aFf s/\aFf s<=64:=by
 unfold aFf
 generalize s.take 5=l
 have:∀(l:List Int) (b:Int),1<=b/\b<=64->1<=l.foldl (λn d=>aFq (n*aFq d 64) 64) b/\l.foldl (λn d=>aFq (n*aFq d 64) 64) b<=64:=λl=>by
  induction l with
  |nil=>intro b h;exact h
  |cons x l ih=>intro b h;exact ih _ (aH5 _ 64 (by decide))
 exact this l 1 (by decide)
set_option maxHeartbeats 1000000 in
theorem bZo (s:List Int) (hs:s.length<=1000):aAc Tryz.prog GL 94 [.ro 1 (aAh s)] (λy=>y= .int .i64 (aFf s)):=by
 have hl:=rowZ_length s
 refine vgo aYh Tryz.func94 ?_
 repeat' first|refine sV ⟨?_⟩|refine sq (λh=>⟨?_⟩) λh=>⟨?_⟩|fail
 refine ⟨[0,3,4],[],λm st=>∃i:Nat,i<=s.length/\i<=5/\m=5 - i/\st=⟨[(0,.ro 1 (aAh s)),(3,.int .i64 (aFf (s.take i))),(4,.int .i64 (i:Nat))],[]⟩,rfl,⟨5,0,by omega,by omega,rfl,rfl⟩,?_⟩
 rintro m _ ⟨i,hi,hi5,hm,rfl⟩
 by_cases hc:i<s.length/\i<5
 · obtain ⟨hil,h5⟩:=hc
   have g:=aE6 hil
   have hst:=aUf hil h5
   have hb1:=aDb s[i] 64
   have hb2:=aDb (aFf (s.take i)*aFq s[i] 64) 64
   rw [<- hst] at hb2
   have hx:=aH5 s[i] 64 (by decide)
   have hy:=aOq (s.take i)
   generalize s[i]=d at g hb1 hb2 hx
   generalize aFq d 64=e at hb1 hb2 hx
   have hmul:0<=aFf (s.take i)*e/\aFf (s.take i)*e<=4096:=by
    generalize aFf (s.take i)=n at hy
    exact ⟨Int.mul_nonneg (by omega) (by omega),by have:=Int.mul_le_mul hy.2 hx.2 (by omega) (by omega:(0:Int)<=64);omega⟩
   repeat' first|refine sV ⟨?_⟩|refine sq (λh=>⟨?_⟩) λh=>⟨?_⟩|fail
   all_goals exact ⟨[],5 - (i+1),rfl,by omega,i+1,by omega,by omega,rfl,rfl⟩
 · have e:aFf (s.take i)=aFf s:=by
    rw [aFf,aFf,List.take_take]
    congr 1
    rcases Nat.lt_or_ge i 5 with h|h
    · rw [Nat.min_eq_right (by omega),List.take_of_length_le (by omega),List.take_of_length_le (by omega)]
    · rw [Nat.min_eq_left h]
   rw [e]
   by_cases h5:i<5
   · have hge:s.length<=i:=by omega
     repeat' first|refine sV ⟨?_⟩|refine sq (λh=>⟨?_⟩) λh=>⟨?_⟩|fail
     all_goals (conv=>whnf)
     all_goals rfl
   · by_cases hil:i<s.length
     · repeat' first|refine sV ⟨?_⟩|refine sq (λh=>⟨?_⟩) λh=>⟨?_⟩|fail
       all_goals (conv=>whnf)
       all_goals rfl
     · repeat' first|refine sV ⟨?_⟩|refine sq (λh=>⟨?_⟩) λh=>⟨?_⟩|fail
       all_goals (conv=>whnf)
       all_goals rfl
def aOd (l:List ByteArray):Nat:=l.foldl (λn s=>if n<s.size then s.size else n) 1
theorem bNm {l:List ByteArray}{i:Nat}(h:i<l.length):aOd (l.take (i+1))=if aOd (l.take i)<l[i].size then l[i].size else aOd (l.take i):=by
 rw [aOd,List.take_succ_eq_append_getElem h,List.foldl_append];rfl
set_option maxHeartbeats 1000000 in
theorem aZe (l:List ByteArray) (hl:l.length<=1000) (hs:∀x∈l,x.size<=1000000):aAc Tryz.prog GL 48 [.ro 1 (aCm l)] (λy=>y= .int .i64 (aOd l:Nat)):=by
 have hll:=rowS_length l
 refine vgo aPf Tryz.func48 ?_
 repeat' first|refine sV ⟨?_⟩|refine sq (λh=>⟨?_⟩) λh=>⟨?_⟩|fail
 refine ⟨[0,3,4],[],λm st=>∃i:Nat,i<=l.length/\m=l.length - i/\st=⟨[(0,.ro 1 (aCm l)),(3,.int .i64 (aOd (l.take i):Nat)),(4,.int .i64 (i:Nat))],[]⟩,rfl,⟨l.length,0,by omega,rfl,rfl⟩,?_⟩
 rintro m _ ⟨i,hi,hm,rfl⟩
 rcases Nat.lt_or_ge i l.length with hil|hge
 · have g:=aCd hil
   have hst:=bNm hil
   generalize l[i]=x at g hst
   by_cases hlt:aOd (l.take i)<x.size
   · rw [if_pos hlt] at hst
     repeat' first|refine sV ⟨?_⟩|refine sq (λh=>⟨?_⟩) λh=>⟨?_⟩|fail
     all_goals exact ⟨[],l.length - (i+1),rfl,by omega,i+1,by omega,rfl,Eq.trans rfl (congrArg (λz:Nat=>(⟨[(0,.ro 1 (aCm l)),(3,.int .i64 (z:Nat)),(4,.int .i64 ((i+1:Nat):Int))],[]⟩:St)) hst.symm)⟩
   · rw [if_neg hlt] at hst
     repeat' first|refine sV ⟨?_⟩|refine sq (λh=>⟨?_⟩) λh=>⟨?_⟩|fail
     all_goals exact ⟨[],l.length - (i+1),rfl,by omega,i+1,by omega,rfl,Eq.trans rfl (congrArg (λz:Nat=>(⟨[(0,.ro 1 (aCm l)),(3,.int .i64 (z:Nat)),(4,.int .i64 ((i+1:Nat):Int))],[]⟩:St)) hst.symm)⟩
 · have e:l.take i=l:=List.take_of_length_le (by omega)
   rw [e]
   repeat' first|refine sV ⟨?_⟩|refine sq (λh=>⟨?_⟩) λh=>⟨?_⟩|fail
   all_goals (conv=>whnf)
   all_goals rfl
end Go.V
namespace Go.V
open Go.N Go.Proofs
set_option maxRecDepth 20000
def bBf (op:ByteArray) (xa xb:Int) (s:List Int) (n:Int):Int:=
 if op=aGh\/op=aKv\/op=aA0\/op=aHy\/op=aXj\/op=aXi then 1
 else if op=bBe\/op=bI2\/op=bI1\/op=aXv then xa+xb
 else if op=aJo then (if s.length=2 then aFq (s[1]?.getD 1) 64 else 1)*(xa+xb)
 else if op=bPc then aFf s*xa
 else if op=aB4 then xa+1
 else if op=aCn then xa*aFq n 6
 else xa
def aSf (l:List Nd) (i:Nat) (x:Nd):List Int:=if 0<=x.a/\x.a<i then aBv l x.a else []
def bJj (l:List Nd) (w:List Int) (i:Nat) (x:Nd):Int:=aFq (bBf x.op (aDi w x.a) (aDi w x.b) (aSf l i x) x.n) 100000
def aBo (l:List Nd):Nat->List Int
 |0=>[]
 |i+1=>match l[i]? with
  |none=>aBo l i
  |some x=>aBo l i++[bJj l (aBo l i) i x]
def aUg (w:List Int):Int:=w.foldl (λm x=>if m<x then x else m) 1
theorem bNs (w:List Int) (x:Int):aUg (w++[x])=if aUg w<x then x else aUg w:=by rw [aUg,List.foldl_append];rfl
theorem aH2 {l:List Nd}{i:Nat}(h:i<l.length):aBo l (i+1)=aBo l i++[bJj l (aBo l i) i l[i]]:=by simp only [aBo,List.getElem?_eq_getElem h]
theorem aH1 {l:List Nd}:∀i,i<=l.length->(aBo l i).length=i
 |0,_=>rfl
 |i+1,h=>by rw [aH2 (by omega),List.length_append,aH1 i (by omega)];rfl
theorem aO1 {l:List Nd}:∀i,i<=l.length->∀x∈aBo l i,1<=x/\x<=100000
 |0,_,x,hx=>by simp [aBo] at hx
 |i+1,h,x,hx=>by
  rw [aH2 (by omega),List.mem_append,List.mem_singleton] at hx
  rcases hx with hx|rfl
  · exact aO1 i (by omega) x hx
  · exact aH5 _ _ (by decide)
theorem bAm {w:List Int}(h:∀x∈w,1<=x/\x<=100000) (i:Int):1<=aDi w i/\aDi w i<=100000:=by
 unfold aDi
 split
 · rename_i hi
   rw [List.getElem?_eq_getElem hi.2]
   exact h _ (List.getElem_mem _)
 · omega
theorem bX4 {op:ByteArray}{xa xb:Int}{s:List Int}{n:Int}(ha:1<=xa/\xa<=100000) (hb:1<=xb/\xb<=100000):1<=bBf op xa xb s n/\bBf op xa xb s n<=12800000:=by
 have hm:=aOq s
 have hn:=aH5 n 6 (by decide)
 have hk:1<=(if s.length=2 then aFq (s[1]?.getD 1) 64 else 1)/\(if s.length=2 then aFq (s[1]?.getD 1) 64 else 1)<=64:=by
  split
  · exact aH5 _ 64 (by decide)
  · omega
 generalize hkk:(if s.length=2 then aFq (s[1]?.getD 1) 64 else 1)=kk at hk
 have mulb:∀p q P Q:Int,1<=p->p<=P->1<=q->q<=Q->1<=p*q/\p*q<=P*Q:=λp q P Q h1 h2 h3 h4=>by
  constructor
  · have:=Int.mul_le_mul h1 h3 (by omega) (by omega);simpa using this
  · exact Int.mul_le_mul h2 h4 (by omega) (by omega)
 have m1:=mulb kk (xa+xb) 64 200000 hk.1 hk.2 (by omega) (by omega)
 have m2:=mulb (aFf s) xa 64 100000 hm.1 hm.2 ha.1 ha.2
 have m3:=mulb xa (aFq n 6) 100000 6 ha.1 ha.2 hn.1 hn.2
 unfold bBf
 rw [hkk]
 repeat' split
 all_goals omega
def bA6 (o:Opc) (xa xb:Int) (s:List Int) (n:Int):Int:=match o with
 | .param| .input| .const| .above| .step| .sign=>1
 | .add| .sub| .mul| .max=>xa+xb
 | .matmul=>(if s.length=2 then aFq (s[1]?.getD 1) 64 else 1)*(xa+xb)
 | .sum=>aFf s*xa
 | .scale=>xa+1
 | .power=>xa*aFq n 6
 |_=>xa
theorem bTi (o:Opc) (xa xb:Int) (s:List Int) (n:Int):bBf o.str xa xb s n=bA6 o xa xb s n:=by
 unfold bBf
 cases o
 all_goals first|rfl|simp [Opc.str,bA6]
theorem bNr {w:List Int}(h:∀x∈w,1<=x/\x<=100000):1<=aUg w/\aUg w<=100000:=by
 have:∀(l:List Int) (b:Int),1<=b/\b<=100000->(∀ x∈l,1<=x/\x<=100000)->1<=l.foldl (λm x=>if m<x then x else m) b/\l.foldl (λm x=>if m<x then x else m) b<=100000:=λl=>by
  induction l with
  |nil=>intro b hb _;exact hb
  |cons x l ih=>
   intro b hb hx
   refine ih _ ?_ λy hy=>hx y (List.mem_cons_of_mem _ hy)
   have:=hx x List.mem_cons_self
   dsimp only
   split<;>omega
 exact this w 1 (by decide) h
end Go.V
namespace Go.V
open Go.N Go.Proofs
set_option maxRecDepth 20000
def aVd:Tab:=[(24,i24),(22,i22),(34,i34),(3,i3),(27,i27),(9,i9)]
theorem aPe:TOK Tryz.prog aVd:=⟨K24,⟨K22,⟨K34,⟨K3,⟨K27,⟨K9,trivial⟩⟩⟩⟩⟩⟩
theorem bCw:aFq 1 100000=1:=by decide
theorem aF0 (pl:List Int) (v:Int):aAh (pl++[v])=(aAh pl).take (aAh pl).length++[[.int .i64 v]]:=by rw [List.take_length];simp [aAh]
theorem aJ1 (x y:Int) (h1:1<=x) (hxy:x=y): @Decidable.rec (x<1) (λ_=>Int) (λ_=>if 100000<y then 100000 else y) (λ_=>1) (Int.decLt x 1)=aFq y 100000:=by
 subst hxy
 cases Int.decLt x 1 with
 |isFalse h=>show (if 100000<x then 100000 else x)=_;rw [aFq,if_neg h]
 |isTrue h=>omega
theorem aW3 (w:List Int):aAh w=List.take (aAh w).length (List.drop 0 (aAh w)):=by rw [List.drop_zero,List.take_length]
set_option maxHeartbeats 40000000 in
theorem bRg (l:List Nd) (p:Int) (hl:l.length<=1000) (hsm:∀x∈l,x.Sm):aAc Tryz.prog GL 49 [.agg [.ro 8 (aAv l),.int .i64 p]] (λy=>y= .int .i64 (aUg (aBo l l.length))):=by
 have hlr:=rowN_length l
 refine vgo aPe Tryz.func49 ?_
 repeat' first|refine sY ⟨?_⟩|(refine sq ?_ ?_<;>refine λh=>⟨?_⟩<;>(first|contradiction|(exfalso;omega)|skip))|fail
 refine ⟨[1,3,4,5],[0],λm st=>∃i:Nat,i<=l.length/\m=l.length - i/\
  ((i=0/\st=⟨[(1,.bptr 0 0),(3,.nils),(4,.int .i64 (aUg (aBo l i))),(5,.int .i64 (i:Nat))],[.box 24 [.ro 8 (aAv l),.int .i64 p]]⟩)\/
  (0<i/\st=⟨[(1,.bptr 0 0),(3,.own 1 0 (aAh (aBo l i)).length),(4,.int .i64 (aUg (aBo l i))),(5,.int .i64 (i:Nat))],[.box 24 [.ro 8 (aAv l),.int .i64 p],.row false 3 1 (aAh (aBo l i))]⟩)),rfl,⟨l.length,0,by omega,rfl,.inl ⟨rfl,rfl⟩⟩,?_⟩
 rintro m _ ⟨i,hi,hm,hst⟩
 rcases Nat.lt_or_ge i l.length with hil|hge
 · have hwl:=aH1 (l:=l) i hi
   have hwi:=aO1 (l:=l) i hi
   have g:(aAv l)[i]? =some (l[i]).cells:=aB1 hil
   have hstep:=aH2 hil
   have hW:bJj l (aBo l i) i l[i]=aFq (bBf l[i].op (aDi (aBo l i) l[i].a) (aDi (aBo l i) l[i].b) (aSf l i l[i]) l[i].n) 100000:=rfl
   have hws:aSf l i l[i]=if 0<=l[i].a/\l[i].a<i then aBv l l[i].a else []:=rfl
   generalize l[i]=x at g hstep hW hws
   obtain ⟨op,a,b,name,shape,k,n,data⟩:=x
   dsimp only at hW hws
   have hmx:=bNs (aBo l i) (bJj l (aBo l i) i ⟨op,a,b,name,shape,k,n,data⟩)
   rw [<- hstep] at hmx
   have hxa:=bAm hwi a
   have hxb:=bAm hwi b
   have hpa:=bTw (aBo l i) a (by omega)
   have hpb:=bTw (aBo l i) b (by omega)
   have hM:=bNr hwi
   generalize aSf l i ⟨op,a,b,name,shape,k,n,data⟩=s at hW hws
   have hb:=aDb (bBf op (aDi (aBo l i) a) (aDi (aBo l i) b) s n) 100000
   have hrw:=bX4 (op:=op) (s:=s) (n:=n) hxa hxb
   have hWin:=aH5 (bBf op (aDi (aBo l i) a) (aDi (aBo l i) b) s n) 100000 (by decide)
   clear hb
   rw [<- hW] at hWin
   generalize bJj l (aBo l i) i ⟨op,a,b,name,shape,k,n,data⟩=W at hstep hmx hWin hW
   clear hwi
   generalize aDi (aBo l i) a=xa at hxa hpa hW hrw
   generalize aDi (aBo l i) b=xb at hxb hpb hW hrw
   have hn6':=aH5 n 6 (by decide)
   have hm':=aOq s
   have p2:1<=aFf s*xa/\aFf s*xa<=6400000:=by
    generalize aFf s=q at hm'
    exact ⟨by have:=Int.mul_le_mul hm'.1 hxa.1 (by omega) (by omega);simpa using this,by have:=Int.mul_le_mul hm'.2 hxa.2 (by omega) (by omega:(0:Int)<=64);omega⟩
   have p3:1<=xa*aFq n 6/\xa*aFq n 6<=600000:=by
    generalize aFq n 6=q at hn6'
    exact ⟨by have:=Int.mul_le_mul hxa.1 hn6'.1 (by omega) (by omega);simpa using this,by have:=Int.mul_le_mul hxa.2 hn6'.2 (by omega) (by omega:(0:Int)<=100000);omega⟩
   have hbw1:=bCw
   have p1:1<=1*(xa+xb)/\1*(xa+xb)<=200000:=by omega
   have hsl:s.length<=1000:=by
    rw [hws]
    split
    · rename_i h
      obtain ⟨ja,rfl⟩:∃ja:Nat,a=ja:=⟨a.toNat,by omega⟩
      rw [aAp (by omega)]
      exact (hsm _ (List.getElem_mem _)).shape
    · decide
   have hmn:=bZo s hsl
   have hn6:=aDb n 6
   have hn6i:=aH5 n 6 (by decide)
   have hmni:=aOq s
   generalize aUg (aBo l i)=M at hmx hM hst
   have hw0:i=0->aBo l i=[]:=λh=>by subst h;rfl
   generalize aBo l i=w at hstep hpa hpb hwl hst hw0
   have hrl:=rowZ_length w
   clear hsl
   by_cases hc:0<=a/\a<i
   · obtain ⟨ja,rfl⟩:∃ja:Nat,a=ja:=⟨a.toNat,by omega⟩
     have hja:ja<l.length:=by omega
     rw [if_pos hc,aAp hja] at hws
     obtain ⟨o1,a1,b1,n1,k1,m1,d1,g2⟩:=aBz hja
     rw [<- hws] at g2
     clear hws
     have hrs:=rowZ_length s
     rcases hst with ⟨h0,rfl⟩|⟨h0,rfl⟩
     · omega
     rw [aW3 w] at hpa hpb
     by_cases hs2:s.length=2
     · obtain ⟨d0,d1',rfl⟩:∃x y,s=[x,y]:=by
        match s,hs2 with
        |[x,y],_=>exact ⟨x,y,rfl⟩
       have hb1:=aDb d1' 64
       have ek:(if ([d0,d1']:List Int).length=2 then aFq (([d0,d1']:List Int)[1]?.getD 1) 64 else 1)=aFq d1' 64:=rfl
       have hb1i:=aH5 d1' 64 (by decide)
       have p4:1<=aFq d1' 64*(xa+xb)/\aFq d1' 64*(xa+xb)<=12800000:=by
        generalize aFq d1' 64=q at hb1i
        exact ⟨by have:=Int.mul_le_mul hb1i.1 (show 1<=xa+xb by omega) (by omega) (by omega);omega,by have:=Int.mul_le_mul hb1i.2 (show xa+xb<=200000 by omega) (by omega) (by omega);omega⟩
       repeat' first|refine sY ⟨?_⟩|(refine sq ?_ ?_<;>refine λh=>⟨?_⟩<;>(first|contradiction|(exfalso;omega)|skip))|fail
       all_goals (conv=>whnf)
       all_goals refine .inl ⟨_,aDb _ 100000,?_⟩
       all_goals rintro _ rfl
       all_goals (repeat' first|refine sY ⟨?_⟩|(refine sq ?_ ?_<;>refine λh=>⟨?_⟩<;>(first|contradiction|(exfalso;omega)|skip))|fail)
       all_goals first
        |(
         conv=>whnf
         refine ⟨Nat.le_of_ble_eq_true rfl,λh=>Nat.succ_ne_zero _ (congrArg List.length h),?_⟩
         repeat' first|refine sY ⟨?_⟩|(refine sq ?_ ?_<;>refine λh=>⟨?_⟩<;>(first|contradiction|(exfalso;omega)|skip))|fail)
        |(
         refine ⟨Nat.le_refl _,(show ((aAh w).length+1)*8<=140737488355328 by omega),_,aF0 w _,?_⟩
         repeat' first|refine sY ⟨?_⟩|(refine sq ?_ ?_<;>refine λh=>⟨?_⟩<;>(first|contradiction|(exfalso;omega)|skip))|fail)
       all_goals refine ⟨[0,4],l.length - (i+1),rfl,by omega,i+1,by omega,rfl,.inr ⟨by omega,Eq.trans rfl (congrArg (λz:List Int×Int=>(⟨[(1,.bptr 0 0),(3,.own 1 0 (aAh z.1).length),(4,.int .i64 z.2),(5,.int .i64 ((i+1:Nat):Int))],[.box 24 [.ro 8 (aAv l),.int .i64 p],.row false 3 1 (aAh z.1)]⟩:St)) (show (w++[_],_)=(aBo l (i+1),aUg (aBo l (i+1))) from ?_))⟩⟩
       all_goals rw [hmx,hstep,hW]
       all_goals simp [bBf,bCw, *]
       all_goals first
        |rfl
        |omega
        |(intro hh;omega)
        |(intro hh;contradiction)
        |(rw [Int.one_mul] at h;rw [if_pos h];exact aJ1 _ _ (by omega) (Int.one_mul _))
        |(rw [Int.one_mul] at h;intro h2;exact absurd h2 h)
     · have ek:(if s.length=2 then aFq (s[1]?.getD 1) 64 else 1)=1:=if_neg hs2
       repeat' first|refine sY ⟨?_⟩|(refine sq ?_ ?_<;>refine λh=>⟨?_⟩<;>(first|contradiction|(exfalso;omega)|skip))|fail
       all_goals (conv=>whnf)
       all_goals refine .inl ⟨_,aDb _ 100000,?_⟩
       all_goals rintro _ rfl
       all_goals (repeat' first|refine sY ⟨?_⟩|(refine sq ?_ ?_<;>refine λh=>⟨?_⟩<;>(first|contradiction|(exfalso;omega)|skip))|fail)
       all_goals first
        |(
         conv=>whnf
         refine ⟨Nat.le_of_ble_eq_true rfl,λh=>Nat.succ_ne_zero _ (congrArg List.length h),?_⟩
         repeat' first|refine sY ⟨?_⟩|(refine sq ?_ ?_<;>refine λh=>⟨?_⟩<;>(first|contradiction|(exfalso;omega)|skip))|fail)
        |(
         refine ⟨Nat.le_refl _,(show ((aAh w).length+1)*8<=140737488355328 by omega),_,aF0 w _,?_⟩
         repeat' first|refine sY ⟨?_⟩|(refine sq ?_ ?_<;>refine λh=>⟨?_⟩<;>(first|contradiction|(exfalso;omega)|skip))|fail)
       all_goals refine ⟨[0,4],l.length - (i+1),rfl,by omega,i+1,by omega,rfl,.inr ⟨by omega,Eq.trans rfl (congrArg (λz:List Int×Int=>(⟨[(1,.bptr 0 0),(3,.own 1 0 (aAh z.1).length),(4,.int .i64 z.2),(5,.int .i64 ((i+1:Nat):Int))],[.box 24 [.ro 8 (aAv l),.int .i64 p],.row false 3 1 (aAh z.1)]⟩:St)) (show (w++[_],_)=(aBo l (i+1),aUg (aBo l (i+1))) from ?_))⟩⟩
       all_goals rw [hmx,hstep,hW]
       all_goals simp [bBf,bCw, *]
       all_goals first
        |rfl
        |omega
        |(intro hh;omega)
        |(intro hh;contradiction)
        |(rw [Int.one_mul] at h;rw [if_pos h];exact aJ1 _ _ (by omega) (Int.one_mul _))
        |(rw [Int.one_mul] at h;intro h2;exact absurd h2 h)
   · rw [if_neg hc] at hws
     subst hws
     have ek:(if ([]:List Int).length=2 then aFq (([]:List Int)[1]?.getD 1) 64 else 1)=1:=rfl
     rcases (by omega:a<0\/(0<=a/\(i:Int)<=a)) with ha|ha
     · rcases hst with ⟨h0,rfl⟩|⟨h0,rfl⟩
       · have:=hw0 h0
         subst this
         repeat' first|refine sY ⟨?_⟩|(refine sq ?_ ?_<;>refine λh=>⟨?_⟩<;>(first|contradiction|(exfalso;omega)|skip))|fail
         all_goals (conv=>whnf)
         all_goals refine .inl ⟨_,aDb _ 100000,?_⟩
         all_goals rintro _ rfl
         all_goals (repeat' first|refine sY ⟨?_⟩|(refine sq ?_ ?_<;>refine λh=>⟨?_⟩<;>(first|contradiction|(exfalso;omega)|skip))|fail)
         all_goals first
          |(
           conv=>whnf
           refine ⟨Nat.le_of_ble_eq_true rfl,λh=>Nat.succ_ne_zero _ (congrArg List.length h),?_⟩
           repeat' first|refine sY ⟨?_⟩|(refine sq ?_ ?_<;>refine λh=>⟨?_⟩<;>(first|contradiction|(exfalso;omega)|skip))|fail)
          |(
           refine ⟨Nat.le_refl _,(show ((aAh w).length+1)*8<=140737488355328 by omega),_,aF0 w _,?_⟩
           repeat' first|refine sY ⟨?_⟩|(refine sq ?_ ?_<;>refine λh=>⟨?_⟩<;>(first|contradiction|(exfalso;omega)|skip))|fail)
         all_goals refine ⟨[0,3],l.length - (i+1),rfl,by omega,i+1,by omega,rfl,.inr ⟨by omega,Eq.trans rfl (congrArg (λz:List Int×Int=>(⟨[(1,.bptr 0 0),(3,.own 1 0 (aAh z.1).length),(4,.int .i64 z.2),(5,.int .i64 ((i+1:Nat):Int))],[.box 24 [.ro 8 (aAv l),.int .i64 p],.row false 3 1 (aAh z.1)]⟩:St)) (show (([]:List Int)++[_],_)=(aBo l (i+1),aUg (aBo l (i+1))) from ?_))⟩⟩
         all_goals rw [hmx,hstep,hW]
         all_goals simp [bBf,bCw, *]
         all_goals first
          |rfl
          |omega
          |(intro hh;omega)
          |(intro hh;contradiction)
          |(rw [Int.one_mul] at h;rw [if_pos h];exact aJ1 _ _ (by omega) (Int.one_mul _))
          |(rw [Int.one_mul] at h;intro h2;exact absurd h2 h)
       · rw [aW3 w] at hpa hpb
         repeat' first|refine sY ⟨?_⟩|(refine sq ?_ ?_<;>refine λh=>⟨?_⟩<;>(first|contradiction|(exfalso;omega)|skip))|fail
         all_goals (conv=>whnf)
         all_goals refine .inl ⟨_,aDb _ 100000,?_⟩
         all_goals rintro _ rfl
         all_goals (repeat' first|refine sY ⟨?_⟩|(refine sq ?_ ?_<;>refine λh=>⟨?_⟩<;>(first|contradiction|(exfalso;omega)|skip))|fail)
         all_goals first
          |(
           conv=>whnf
           refine ⟨Nat.le_of_ble_eq_true rfl,λh=>Nat.succ_ne_zero _ (congrArg List.length h),?_⟩
           repeat' first|refine sY ⟨?_⟩|(refine sq ?_ ?_<;>refine λh=>⟨?_⟩<;>(first|contradiction|(exfalso;omega)|skip))|fail)
          |(
           refine ⟨Nat.le_refl _,(show ((aAh w).length+1)*8<=140737488355328 by omega),_,aF0 w _,?_⟩
           repeat' first|refine sY ⟨?_⟩|(refine sq ?_ ?_<;>refine λh=>⟨?_⟩<;>(first|contradiction|(exfalso;omega)|skip))|fail)
         all_goals refine ⟨[0,4],l.length - (i+1),rfl,by omega,i+1,by omega,rfl,.inr ⟨by omega,Eq.trans rfl (congrArg (λz:List Int×Int=>(⟨[(1,.bptr 0 0),(3,.own 1 0 (aAh z.1).length),(4,.int .i64 z.2),(5,.int .i64 ((i+1:Nat):Int))],[.box 24 [.ro 8 (aAv l),.int .i64 p],.row false 3 1 (aAh z.1)]⟩:St)) (show (w++[_],_)=(aBo l (i+1),aUg (aBo l (i+1))) from ?_))⟩⟩
         all_goals rw [hmx,hstep,hW]
         all_goals simp [bBf,bCw, *]
         all_goals first
          |rfl
          |omega
          |(intro hh;omega)
          |(intro hh;contradiction)
          |(rw [Int.one_mul] at h;rw [if_pos h];exact aJ1 _ _ (by omega) (Int.one_mul _))
          |(rw [Int.one_mul] at h;intro h2;exact absurd h2 h)
     · rcases hst with ⟨h0,rfl⟩|⟨h0,rfl⟩
       · have:=hw0 h0
         subst this
         repeat' first|refine sY ⟨?_⟩|(refine sq ?_ ?_<;>refine λh=>⟨?_⟩<;>(first|contradiction|(exfalso;omega)|skip))|fail
         all_goals (conv=>whnf)
         all_goals refine .inl ⟨_,aDb _ 100000,?_⟩
         all_goals rintro _ rfl
         all_goals (repeat' first|refine sY ⟨?_⟩|(refine sq ?_ ?_<;>refine λh=>⟨?_⟩<;>(first|contradiction|(exfalso;omega)|skip))|fail)
         all_goals first
          |(
           conv=>whnf
           refine ⟨Nat.le_of_ble_eq_true rfl,λh=>Nat.succ_ne_zero _ (congrArg List.length h),?_⟩
           repeat' first|refine sY ⟨?_⟩|(refine sq ?_ ?_<;>refine λh=>⟨?_⟩<;>(first|contradiction|(exfalso;omega)|skip))|fail)
          |(
           refine ⟨Nat.le_refl _,(show ((aAh w).length+1)*8<=140737488355328 by omega),_,aF0 w _,?_⟩
           repeat' first|refine sY ⟨?_⟩|(refine sq ?_ ?_<;>refine λh=>⟨?_⟩<;>(first|contradiction|(exfalso;omega)|skip))|fail)
         all_goals refine ⟨[0,3],l.length - (i+1),rfl,by omega,i+1,by omega,rfl,.inr ⟨by omega,Eq.trans rfl (congrArg (λz:List Int×Int=>(⟨[(1,.bptr 0 0),(3,.own 1 0 (aAh z.1).length),(4,.int .i64 z.2),(5,.int .i64 ((i+1:Nat):Int))],[.box 24 [.ro 8 (aAv l),.int .i64 p],.row false 3 1 (aAh z.1)]⟩:St)) (show (([]:List Int)++[_],_)=(aBo l (i+1),aUg (aBo l (i+1))) from ?_))⟩⟩
         all_goals rw [hmx,hstep,hW]
         all_goals simp [bBf,bCw, *]
         all_goals first
          |rfl
          |omega
          |(intro hh;omega)
          |(intro hh;contradiction)
          |(rw [Int.one_mul] at h;rw [if_pos h];exact aJ1 _ _ (by omega) (Int.one_mul _))
          |(rw [Int.one_mul] at h;intro h2;exact absurd h2 h)
       · rw [aW3 w] at hpa hpb
         repeat' first|refine sY ⟨?_⟩|(refine sq ?_ ?_<;>refine λh=>⟨?_⟩<;>(first|contradiction|(exfalso;omega)|skip))|fail
         all_goals (conv=>whnf)
         all_goals refine .inl ⟨_,aDb _ 100000,?_⟩
         all_goals rintro _ rfl
         all_goals (repeat' first|refine sY ⟨?_⟩|(refine sq ?_ ?_<;>refine λh=>⟨?_⟩<;>(first|contradiction|(exfalso;omega)|skip))|fail)
         all_goals first
          |(
           conv=>whnf
           refine ⟨Nat.le_of_ble_eq_true rfl,λh=>Nat.succ_ne_zero _ (congrArg List.length h),?_⟩
           repeat' first|refine sY ⟨?_⟩|(refine sq ?_ ?_<;>refine λh=>⟨?_⟩<;>(first|contradiction|(exfalso;omega)|skip))|fail)
          |(
           refine ⟨Nat.le_refl _,(show ((aAh w).length+1)*8<=140737488355328 by omega),_,aF0 w _,?_⟩
           repeat' first|refine sY ⟨?_⟩|(refine sq ?_ ?_<;>refine λh=>⟨?_⟩<;>(first|contradiction|(exfalso;omega)|skip))|fail)
         all_goals refine ⟨[0,4],l.length - (i+1),rfl,by omega,i+1,by omega,rfl,.inr ⟨by omega,Eq.trans rfl (congrArg (λz:List Int×Int=>(⟨[(1,.bptr 0 0),(3,.own 1 0 (aAh z.1).length),(4,.int .i64 z.2),(5,.int .i64 ((i+1:Nat):Int))],[.box 24 [.ro 8 (aAv l),.int .i64 p],.row false 3 1 (aAh z.1)]⟩:St)) (show (w++[_],_)=(aBo l (i+1),aUg (aBo l (i+1))) from ?_))⟩⟩
         all_goals rw [hmx,hstep,hW]
         all_goals simp [bBf,bCw, *]
         all_goals first
          |rfl
          |omega
          |(intro hh;omega)
          |(intro hh;contradiction)
          |(rw [Int.one_mul] at h;rw [if_pos h];exact aJ1 _ _ (by omega) (Int.one_mul _))
          |(rw [Int.one_mul] at h;intro h2;exact absurd h2 h)
 · obtain rfl:i=l.length:=by omega
   rcases hst with ⟨h0,rfl⟩|⟨h0,rfl⟩
   · repeat' first|refine sY ⟨?_⟩|(refine sq ?_ ?_<;>refine λh=>⟨?_⟩<;>(first|contradiction|(exfalso;omega)|skip))|fail
     all_goals (conv=>whnf)
     all_goals rfl
   · repeat' first|refine sY ⟨?_⟩|(refine sq ?_ ?_<;>refine λh=>⟨?_⟩<;>(first|contradiction|(exfalso;omega)|skip))|fail
     all_goals (conv=>whnf)
     all_goals rfl
end Go.V
